/-
  WordAdds: sums, differences, products, bitwise ones, negatives and moves fit together; no condition.
-/
import Derived.Test.YtcmpohippbjpcaaWordOut
import Derived.OpenShut
namespace Go.Proofs.Ytcmpohippbjpcaa.wordAdds
open Go.ChangeShapes Go.WideShapes Go.ChangeAt Go.RowKit
set_option linter.unusedVariables false

theorem or_and_sum (x y : Nat) : (x ||| y) + (x &&& y) = x + y := by
  induction x using Nat.strongRecOn generalizing y with
  | _ x ih =>
    by_cases h0 : x = 0
    · subst h0; simp
    · have h := ih (x / 2) (by omega) (y / 2)
      rw [← Nat.or_div_two, ← Nat.and_div_two] at h
      have h1 : (x ||| y) % 2 = if x % 2 = 1 ∨ y % 2 = 1 then 1 else 0 := by
        have := bit_or x y 0
        unfold bit at this
        simp only [Nat.pow_zero, Nat.div_one] at this
        split at this <;> split <;> omega
      have h2 : (x &&& y) % 2 = if x % 2 = 1 ∧ y % 2 = 1 then 1 else 0 := by
        have := bit_and x y 0
        unfold bit at this
        simp only [Nat.pow_zero, Nat.div_one] at this
        split at this <;> split <;> omega
      split at h1 <;> split at h2 <;> omega
theorem xor_and_sum (x y : Nat) : (x ^^^ y) + 2 * (x &&& y) = x + y := by
  induction x using Nat.strongRecOn generalizing y with
  | _ x ih =>
    by_cases h0 : x = 0
    · subst h0; simp
    · have h := ih (x / 2) (by omega) (y / 2)
      rw [← Nat.xor_div_two, ← Nat.and_div_two] at h
      have h1 : (x ^^^ y) % 2 = (x % 2 + y % 2) % 2 := by
        have := bit_xor x y 0
        unfold bit at this
        simp only [Nat.pow_zero, Nat.div_one] at this
        split at this <;> omega
      have h2 : (x &&& y) % 2 = if x % 2 = 1 ∧ y % 2 = 1 then 1 else 0 := by
        have := bit_and x y 0
        unfold bit at this
        simp only [Nat.pow_zero, Nat.div_one] at this
        split at this <;> split <;> omega
      split at h2 <;> omega

theorem wrap_add_l (x y : Int) : wrap64 (wrap64 x + y) = wrap64 (x + y) := by
  refine wrap64_congr ?_; rw [Int.add_emod, wrap64_mod, ← Int.add_emod]
theorem wrap_add_r (x y : Int) : wrap64 (x + wrap64 y) = wrap64 (x + y) := by
  refine wrap64_congr ?_; rw [Int.add_emod, wrap64_mod, ← Int.add_emod]
theorem wrap_sub_l (x y : Int) : wrap64 (wrap64 x - y) = wrap64 (x - y) := by
  refine wrap64_congr ?_; rw [Int.sub_emod, wrap64_mod, ← Int.sub_emod]
theorem wrap_sub_r (x y : Int) : wrap64 (x - wrap64 y) = wrap64 (x - y) := by
  refine wrap64_congr ?_; rw [Int.sub_emod, wrap64_mod, ← Int.sub_emod]
theorem wrap_mul_r (x y : Int) : wrap64 (x * wrap64 y) = wrap64 (x * y) := by
  refine wrap64_congr ?_; rw [Int.mul_emod, wrap64_mod, ← Int.mul_emod]
theorem un_sum (a b : Int) : wrap64 ((un a + un b : Nat) : Int) = wrap64 (a + b) := by
  refine wrap64_congr ?_
  rw [Int.natCast_add, un_cast, un_cast, ← Int.add_emod]
theorem un_wrap {x : Nat} (h : x < 18446744073709551616) : un (wrap64 (x : Int)) = x := by
  unfold un; rw [wrap64_mod]; omega

set_option maxHeartbeats 1600000 in
theorem walk (a : Int) (ra : -9223372036854775808 ≤ a ∧ a ≤ 9223372036854775807) (b : Int) (rb : -9223372036854775808 ≤ b ∧ b ≤ 9223372036854775807) (c : Int) (rc : -9223372036854775808 ≤ c ∧ c ≤ 9223372036854775807) (w : World) :
    Calls Try.prog 13 #[.int .i64 a, .int .i64 b, .int .i64 c] w fun e w' => e = .returned (.bool true) ∧ Below w.heap.size w w' := by
  have hsum := or_and_sum (un a) (un b)
  have hxor := xor_and_sum (un a) (un b)
  have hxl : un a ^^^ un b < 18446744073709551616 := Nat.xor_lt_two_pow (n := 64) (un_lt a) (un_lt b)
  obtain ⟨s, hs⟩ : ∃ z, z = wrap64 (a + b) := ⟨_, rfl⟩
  obtain ⟨o, ho⟩ : ∃ z, z = wrap64 ((un a ||| un b : Nat) : Int) := ⟨_, rfl⟩
  obtain ⟨n, hn⟩ : ∃ z, z = wrap64 ((un a &&& un b : Nat) : Int) := ⟨_, rfl⟩
  obtain ⟨x, hx⟩ : ∃ z, z = wrap64 ((un a ^^^ un b : Nat) : Int) := ⟨_, rfl⟩
  have e1 : wrap64 (o + n) = s := by rw [ho, hn, hs, wrap_add_l, wrap_add_r, ← Int.natCast_add, hsum, un_sum]
  have e2 : wrap64 (o - n) = x := by rw [ho, hn, hx, wrap_sub_l, wrap_sub_r]; congr 1; omega
  have e3 : wrap64 (x + wrap64 (2 * n)) = s := by rw [hx, hn, hs, wrap_mul_r, wrap_add_l, wrap_add_r, ← un_sum a b, ← hxor]; rfl
  have E4 := Lib.hid (show wrap64 (s - b) = a by rw [hs, wrap_sub_l, Int.add_sub_cancel]; exact wrap64_id ra)
  have E5 := Lib.hid (show wrap64 (b + a) = s by rw [hs, Int.add_comm])
  have ux : un x = un a ^^^ un b := by rw [hx, un_wrap hxl]
  have E6 := Lib.hid (show wrap64 ((un x ^^^ un b : Nat) : Int) = a by rw [ux, Nat.xor_assoc, Nat.xor_self, Nat.xor_zero]; exact wrap64_un ra.1 ra.2)
  obtain ⟨d, hd⟩ : ∃ z, z = wrap64 (b + c) := ⟨_, rfl⟩
  obtain ⟨m, hm⟩ : ∃ z, z = wrap64 (a * b) := ⟨_, rfl⟩
  obtain ⟨k, hk⟩ : ∃ z, z = wrap64 (a * c) := ⟨_, rfl⟩
  obtain ⟨t, ht⟩ : ∃ z, z = wrap64 (m + k) := ⟨_, rfl⟩
  have E7 := Lib.hid (show wrap64 (a * d) = t by
    rw [ht, hm, hk, hd, wrap_mul_r, wrap_add_l, wrap_add_r, Int.mul_add])
  obtain ⟨g, hg⟩ : ∃ z, z = wrap64 (0 - a) := ⟨_, rfl⟩
  have E8 := Lib.hid (show wrap64 (-a) = g by rw [hg, Int.zero_sub])
  have E9 := Lib.hid (show wrap64 (a + 0) = a by rw [Int.add_zero]; exact wrap64_id ra)
  have E10 := Lib.hid (show wrap64 (a * 1) = a by rw [Int.mul_one]; exact wrap64_id ra)
  have E11 := Lib.hid (show wrap64 (2 + 3) = 5 by exact wrap64_id (by decide))
  have HS := Lib.hid hs
  have HO := Lib.hid ho
  have HN := Lib.hid hn
  have HX := Lib.hid hx
  have HD := Lib.hid hd
  have HM := Lib.hid hm
  have HK := Lib.hid hk
  have HT := Lib.hid ht
  have HG := Lib.hid hg
  clear hs ho hn hx hd hm hk ht hg ux hsum hxor hxl
  go_enter Try.func13, Try.ntmps13
  go_wp2_with fail
  refine (of_at 1 a b _ s false (gives_add a b) HS.out.symm _).mono ?_
  rintro e w0 ⟨rfl, h0⟩
  have hB := h0
  have hs := hB.size
  clear h0
  go_wp2_with fail
  refine (of_at 8 a b _ o false (gives_or a b) HO.out.symm _).mono ?_
  rintro e w1 ⟨rfl, h1⟩
  have hB := hB.trans (h1.mono hs)
  have hs := hB.size
  clear h1
  go_wp2_with fail
  refine (of_at 9 a b _ n false (gives_and a b) HN.out.symm _).mono ?_
  rintro e w2 ⟨rfl, h2⟩
  have hB := hB.trans (h2.mono hs)
  have hs := hB.size
  clear h2
  go_wp2_with fail
  refine (of_at 10 a b _ x false (gives_xor a b) HX.out.symm _).mono ?_
  rintro e w3 ⟨rfl, h3⟩
  have hB := hB.trans (h3.mono hs)
  have hs := hB.size
  clear h3
  go_wp2_with fail
  refine (is_at 2 s b _ a false (gives_sub s b) E4.out _).mono ?_
  rintro e w4 ⟨rfl, h4⟩
  have hB := hB.trans (h4.mono hs)
  have hs := hB.size
  clear h4
  go_wp2_with fail
  refine (of_at 1 b a _ s false (gives_add b a) E5.out _).mono ?_
  rintro e w5 ⟨rfl, h5⟩
  have hB := hB.trans (h5.mono hs)
  have hs := hB.size
  clear h5
  go_wp2_with fail
  refine (of_at 1 b c _ d false (gives_add b c) HD.out.symm _).mono ?_
  rintro e w6 ⟨rfl, h6⟩
  have hB := hB.trans (h6.mono hs)
  have hs := hB.size
  clear h6
  go_wp2_with fail
  refine (of_at 3 a b _ m false (gives_mul a b) HM.out.symm _).mono ?_
  rintro e w7 ⟨rfl, h7⟩
  have hB := hB.trans (h7.mono hs)
  have hs := hB.size
  clear h7
  go_wp2_with fail
  refine (of_at 3 a c _ k false (gives_mul a c) HK.out.symm _).mono ?_
  rintro e w8 ⟨rfl, h8⟩
  have hB := hB.trans (h8.mono hs)
  have hs := hB.size
  clear h8
  go_wp2_with fail
  refine (of_at 1 m k _ t false (gives_add m k) HT.out.symm _).mono ?_
  rintro e w9 ⟨rfl, h9⟩
  have hB := hB.trans (h9.mono hs)
  have hs := hB.size
  clear h9
  go_wp2_with fail
  refine (is_at 3 a d _ t false (gives_mul a d) E7.out _).mono ?_
  rintro e w10 ⟨rfl, h10⟩
  have hB := hB.trans (h10.mono hs)
  have hs := hB.size
  clear h10
  go_wp2_with fail
  refine (of_at 2 0 a _ g false (gives_sub 0 a) HG.out.symm _).mono ?_
  rintro e w11 ⟨rfl, h11⟩
  have hB := hB.trans (h11.mono hs)
  have hs := hB.size
  clear h11
  go_wp2_with fail
  refine (is_at 14 a b _ g false (gives_neg a b) E8.out _).mono ?_
  rintro e w12 ⟨rfl, h12⟩
  have hB := hB.trans (h12.mono hs)
  have hs := hB.size
  clear h12
  go_wp2_with fail
  refine (is_at 15 a b _ b false (gives_mov a b rb) rfl _).mono ?_
  rintro e w13 ⟨rfl, h13⟩
  have hB := hB.trans (h13.mono hs)
  have hs := hB.size
  clear h13
  go_wp2_with fail
  refine (is_at 10 x b _ a false (gives_xor x b) E6.out _).mono ?_
  rintro e w14 ⟨rfl, h14⟩
  have hB := hB.trans (h14.mono hs)
  have hs := hB.size
  clear h14
  go_wp2_with fail
  refine (is_at 1 a 0 _ a false (gives_add a 0) E9.out _).mono ?_
  rintro e w15 ⟨rfl, h15⟩
  have hB := hB.trans (h15.mono hs)
  have hs := hB.size
  clear h15
  go_wp2_with fail
  refine (is_at 3 a 1 _ a false (gives_mul a 1) E10.out _).mono ?_
  rintro e w16 ⟨rfl, h16⟩
  have hB := hB.trans (h16.mono hs)
  have hs := hB.size
  clear h16
  go_wp2_with fail
  refine (is_at 1 2 3 _ 5 false (gives_add 2 3) E11.out _).mono ?_
  rintro e w17 ⟨rfl, h17⟩
  have hB := hB.trans (h17.mono hs)
  have hs := hB.size
  clear h17
  go_wp2
  go_ret
  exact ⟨rfl, hB⟩

theorem own : ownKnob Try.prog.godebug = none := by kernel_rfl
set_option maxRecDepth 100000 in
theorem lifted (os : Os) (started : os.Started) (H : Type) (enc : TypeId × Value → H) :
    ReturnsInHanded {} Try.checked os 13 .any (Rows.wordAddsSpec.pre6 enc Try.prog Try.f13 Rows.wordAddsRow.domain false) (Rows.wordAddsSpec.post enc Try.prog Try.f13 false true false false) := by
  refine returnsInHanded_of_change (C := Try.checked) own started (by kernel_rfl) Try.func13
    (ChangeSpec.witness6 (enc := enc) (C := Try.checked) false ⟨#[], #[.int .i64 0, .int .i64 0, .int .i64 0], []⟩ 8 (by kernel_rfl) (by kernel_rfl) (by kernel_rfl) (by kernel_rfl)) ?_
  intro W base args ds gs before hval0 hW hcnd _
  have hval : ∀ (j : Nat) t v, Try.f13.params[j]? = some t → args[j]? = some v → Value.okWide Try.prog W .any base t v := hval0
  have hW' := hW
  obtain ⟨p, q, hA0, hV, rfl, hfz, hnd⟩ := hW
  have hA : DataW.TrodAll enc Try.prog W 0 (fun _ => true) true Try.f13.params.toList args.toList ds p := hA0
  rw [Try.params13] at hA hval
  obtain ⟨v0, vs0, d0, ds0, p0, q0, hargs, rfl, rfl, h0, r0⟩ := trodAll_cons hA
  obtain ⟨v1, vs1, d1, ds1, p1, q1, rfl, rfl, rfl, h1, r1⟩ := trodAll_cons r0
  obtain ⟨v2, vs2, d2, ds2, p2, q2, rfl, rfl, rfl, h2, r2⟩ := trodAll_cons r1
  obtain ⟨rfl, rfl, rfl⟩ := trodAll_nil r2
  obtain rfl : args = #[v0, v1, v2] := by cases args; simp_all
  obtain ⟨a0, rfl, rfl, rfl, w0⟩ := open_int Try.underlying3 (hval 0 3 v0 rfl rfl) h0
  obtain ⟨a1, rfl, rfl, rfl, w1⟩ := open_int Try.underlying3 (hval 1 3 v1 rfl rfl) h1
  obtain ⟨a2, rfl, rfl, rfl, w2⟩ := open_int Try.underlying3 (hval 2 3 v2 rfl rfl) h2
  refine (walk a0 (range_i64 w0) a1 (range_i64 w1) a2 (range_i64 w2) W).mono fun e W' ⟨he, hb⟩ => ?_
  subst he
  exact ⟨_, rfl, law_post (tb := 4) (by kernel_rfl) (by kernel_rfl) rfl Try.underlying4 rfl (fun h => by subst h; rfl) hW' hb⟩

theorem proved : Rows.WordAddsSaid :=
  OpenClaim.holds_of_wide 13 Try.f13 rfl rfl rfl rfl rfl rfl rfl ⟨rfl, rfl, rfl, rfl, rfl⟩ rfl rfl rfl rfl rfl (by kernel_rfl) Try.func13 (by kernel_rfl)
    (of_decide_eq_true (by kernel_rfl)) (by unfold Func.isWrapper; first | (rw [if_pos (by decide +kernel)]; kernel_rfl) | (rw [if_neg (by decide +kernel)]; exact ⟨rfl, rfl⟩))
    (fun os started H enc _ => lifted os started H enc)
#print axioms proved

end Go.Proofs.Ytcmpohippbjpcaa.wordAdds
