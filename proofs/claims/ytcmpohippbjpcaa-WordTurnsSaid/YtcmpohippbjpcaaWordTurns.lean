/-
  WordTurns: turned bytes, extended signs; no condition.
-/
import Derived.Test.YtcmpohippbjpcaaTurnsA
import Derived.Test.YtcmpohippbjpcaaWordOut
import Derived.Deep.QuietTactic
import Derived.BigQuiet
namespace Go.Proofs.Ytcmpohippbjpcaa.wordTurns
open Go.ChangeShapes Go.WideShapes Go.ChangeAt Go.RowKit
set_option linter.unusedVariables false

theorem one_turned : wrap64 ((swp 4 true 1 : Nat) : Int) = 16777216 := by
  have h := low_cast 32 1 (by decide)
  have e : (2 : Int) ^ 32 = 4294967296 := rfl
  rw [e] at h
  have h1 : lowN 32 1 = 1 := by omega
  have h2 : swp 4 true 1 = rev 4 (lowN 32 1) := rfl
  rw [h2, h1, rev4_of 1 1 0 0 0 (by decide) (by decide) (by decide) (by decide) (by decide)]
  exact IntWalk.wrap64_in _ (by omega)
theorem rev_at (l : List Int) (i : Nat) (h : i < l.length) : l.reverse.getD (l.length - 1 - i) 0 = l.getD i 0 := by
  simp only [List.getD]
  rw [List.getElem?_reverse (by omega)]
  congr 2
  omega

set_option maxRecDepth 100000 in
set_option maxHeartbeats 3200000 in
theorem walk (a : Int) (ra : -9223372036854775808 ≤ a ∧ a ≤ 9223372036854775807) (w : World) :
    Calls Try.prog 14 #[.int .i64 a] w fun e w' => e = .returned (.bool true) ∧ Below w.heap.size w w' := by
  have HRA := Lib.hid ra
  clear ra
  go_enter Try.func14, Try.ntmps14
  go_wp2
  go_loopw [3] (fun s wr => ∃ k : Nat, (k = 16 ∨ k = 32 ∨ k = 64 ∨ k = 128) ∧ s = .int .i64 k ∧ Below w.heap.size w wr) (fun s _ => 129 - (intOf s).toNat)
  case atStart => exact ⟨16, by decide, by go_num, Below.refl _ _⟩
  case round =>
    obtain ⟨k, hk, rfl, hB⟩ := hrel
    have hs := hB.size
    have hk16 : 16 ≤ k := by omega
    have hk128 : k ≤ 128 := by omega
    have HK := Lib.hid hk
    clear hk
    by_cases hlt : k ≤ 64
    · obtain ⟨m, hm, hkm⟩ : ∃ m, (m = 2 ∨ m = 4 ∨ m = 8) ∧ k = 8 * m := ⟨k / 8, by have := HK.out; omega, by have := HK.out; omega⟩
      have HM := Lib.hid hm
      have HKM := Lib.hid hkm
      have hm8 : m ≤ 8 := by omega
      have hm1 : 1 ≤ m := by omega
      obtain ⟨X, hX⟩ : ∃ X, X = wrap64 ((swp m true a : Nat) : Int) := ⟨_, rfl⟩
      have hXr : -9223372036854775808 ≤ X ∧ X ≤ 9223372036854775807 := by rw [hX]; exact wrap64_range _
      have HX := Lib.hid hX
      have HXR := Lib.hid hXr
      clear hm hkm hX hXr
      go_wp2_with fail
      refine (swap_any m k true a HRA.out HM.out HKM.out _).mono ?_
      rintro e w1 ⟨rfl, rfl⟩
      rw [← HX.out]
      go_wp2_with fail
      refine (put_of m _ a (by have := HKM.out; omega) hm1 hm8 _).mono ?_
      rintro e w1 ⟨b1, rfl, hb, hR1, hB1⟩
      have hB := hB.trans (hB1.mono hs)
      have hs := hB.size
      clear hB1 hb
      go_wp2_with fail
      refine (put_of m _ X (by have := HKM.out; omega) hm1 hm8 _).mono ?_
      rintro e w2 ⟨b2, rfl, hb, hR2, hB1⟩
      have hR1 := hR1.below hB1 hR1.lt
      have hB := hB.trans (hB1.mono hs)
      have hs := hB.size
      clear hB1 hb
      go_wp2
      go_loopw [7] (fun s wr => ∃ i : Nat, i ≤ m ∧ s = .int .i64 i ∧ Row wr b1 5 (utab m fun i => a / 2 ^ (8 * i) % 256) ∧ Row wr b2 5 (utab m fun i => X / 2 ^ (8 * i) % 256) ∧ Below w.heap.size w wr) (fun s _ => m - (intOf s).toNat)
      case atStart => exact ⟨0, Nat.zero_le _, rfl, hR1, hR2, hB⟩
      case round =>
        clear hR1 hR2 hB hs
        obtain ⟨i, hi, rfl, hR1, hR2, hB⟩ := hrel
        have hs := hB.size
        have hmm : ((m : Int) != m) = false := by simp
        by_cases hlt2 : i < m
        · obtain ⟨B, hBy⟩ : ∃ B, B = a / 2 ^ (8 * i) % 256 := ⟨_, rfl⟩
          have hc1 : wr.cell? ⟨b1, i, none⟩ = some (.int .u8 B) := by
            rw [hBy]; exact hR1.cell i ▸ utab_get _ hlt2
          have hc2 : wr.cell? ⟨b2, m - 1 - i, none⟩ = some (.int .u8 B) := by
            rw [hR2.cell, utab_get _ (by omega), ← putl_get X (show m - 1 - i < m by omega), HX.out, putl_swap m a hm8, hBy, ← putl_get a hlt2]
            have := rev_at (putl m a) i (by rw [putl_length]; exact hlt2)
            rw [putl_length] at this
            rw [this]
          have hv : (B != B) = false := by simp
          have hj1 : (0 : Int) ≤ (m : Int) - 1 - i := by omega
          have hj2 : (m : Int) - 1 - i < m := by omega
          have hj3 : (i : Int) < m := by omega
          clear hBy
          go_wp2
          have hw1 : IntKind.i64.wrap ((m : Int) - 1) = (m : Int) - 1 := IntWalk.i64_in _ (by omega)
          have hw2 : IntKind.i64.wrap ((m : Int) - 1 - i) = (m : Int) - 1 - i := IntWalk.i64_in _ (by omega)
          have hw3 : ((m : Int) - 1 - i).toNat = m - 1 - i := by omega
          go_quiet (fail)
          clear hw1 hw2 hw3
          go_wp2
          go_roundw
          case rel => exact ⟨i + 1, hlt2, by go_num, hR1.drewN nq, hR2.drewN nq, below_drewN hB nq⟩
          case measure => simp [intOf]; omega
        · obtain rfl : i = m := by omega
          have hB2 := hB
          clear hmm hR1 hR2
          go_wp2_with fail
          refine (swap_any i k true X HXR.out HM.out HKM.out _).mono ?_
          rintro e w5 ⟨rfl, rfl⟩
          rw [show wrap64 ((swp i true X : Nat) : Int) = wrap64 ((swp i false a : Nat) : Int) by rw [HX.out, swap_swap i a hm8]]
          obtain ⟨V, hV⟩ : ∃ V, V = wrap64 ((swp i false a : Nat) : Int) := ⟨_, rfl⟩
          have HV := Lib.hid hV
          rw [← hV]
          clear hV
          have hvv : (V != V) = false := by simp
          go_wp2_with fail
          refine (swap_any i k false a HRA.out HM.out HKM.out _).mono ?_
          rintro e w5 ⟨rfl, rfl⟩
          rw [← HV.out]
          have HKK := Lib.hid (And.intro hk16 hlt)
          by_cases h64 : k < 64
          · have hi7 : i ≤ 7 := by have := HKM.out; omega
            go_wp2_with fail
            refine (swap_any i k false a HRA.out HM.out HKM.out _).mono ?_
            rintro e w5 ⟨rfl, rfl⟩
            rw [← HV.out]
            go_wp2_with fail
            refine (low_of a k k rfl (by have h1 := HKM.out; omega) _).mono ?_
            rintro e w5 ⟨rfl, rfl⟩
            rw [show a % 2 ^ k = V by rw [HV.out, swap_low i a hi7, HKM.out]]
            go_wp2
            go_roundw
            case rel => exact ⟨2 * k, by have h1 := HKK.out; have := HK.out; omega, by go_num, hB2⟩
            case measure =>
              have h2 := HKK.out
              have e : (2 * (k : Int)).toNat = 2 * k := by omega
              simp only [intOf, e, Int.toNat_natCast]
              omega
          · have hk64 : k = 64 := by omega
            have hd64 : decide (k < 64) = false := by simp; omega
            have HK64 := Lib.hid hk64
            clear hk64
            go_wp2
            go_roundw
            case rel => exact ⟨2 * k, by have h1 := HKK.out; have := HK.out; omega, by go_num, hB2⟩
            case measure =>
              have h2 := HKK.out
              have e : (2 * (k : Int)).toNat = 2 * k := by omega
              simp only [intOf, e, Int.toNat_natCast]
              omega
    · clear hk16 hk128 HK
      go_wp2
      clear hlt
      go_loopw [8] (fun s wr => ∃ k : Nat, (k = 8 ∨ k = 16 ∨ k = 32 ∨ k = 64) ∧ s = .int .i64 k ∧ Below w.heap.size w wr) (fun s _ => 65 - (intOf s).toNat)
      case atStart => exact ⟨8, by decide, by go_num, hB⟩
      case round =>
        clear hB hs
        obtain ⟨k, hk, rfl, hB⟩ := hrel
        have hs := hB.size
        have hk16 : 8 ≤ k := by omega
        have hk128 : k ≤ 64 := by omega
        have HK := Lib.hid hk
        clear hk
        by_cases hlt : k ≤ 32
        · obtain ⟨m, hm, hkm⟩ : ∃ m, (m = 1 ∨ m = 2 ∨ m = 4) ∧ k = 8 * m := ⟨k / 8, by have := HK.out; omega, by have := HK.out; omega⟩
          have HKK := Lib.hid (And.intro hk16 hlt)
          have HM := Lib.hid hm
          have HKM := Lib.hid hkm
          have hm7 : m ≤ 4 := by omega
          have hm1 : 1 ≤ m := by omega
          obtain ⟨X, hX⟩ : ∃ X, X = ext k a := ⟨_, rfl⟩
          have hXr : -9223372036854775808 ≤ X ∧ X ≤ 9223372036854775807 := by rw [hX]; exact ext_bounds k a ⟨by omega, by omega⟩
          have htop : X / 2 ^ (k - 1) = 0 ∨ X / 2 ^ (k - 1) = -1 := by rw [hX]; exact ext_top k a (by omega) (by omega)
          have HX := Lib.hid hX
          have HXR := Lib.hid hXr
          clear hm hkm hX hXr
          obtain ⟨T, hT⟩ : ∃ T, T = a % 2 ^ k := ⟨_, rfl⟩
          have HT := Lib.hid hT
          clear hT
          have htt : (T != T) = false := by simp
          have hxx : (X != X) = false := by simp
          go_wp2_with fail
          refine (ext_any m k a HM.out HKM.out _).mono ?_
          rintro e w1 ⟨rfl, rfl⟩
          rw [← HX.out]
          go_wp2_with fail
          refine (low_of X k k rfl (by omega) _).mono ?_
          rintro e w1 ⟨rfl, rfl⟩
          rw [show X % 2 ^ k = T by rw [HX.out, ext_mod k a (by omega), HT.out]]
          go_wp2_with fail
          refine (low_of a k k rfl (by omega) _).mono ?_
          rintro e w1 ⟨rfl, rfl⟩
          rw [← HT.out]
          go_wp2_with fail
          refine (ext_any m k X HM.out HKM.out _).mono ?_
          rintro e w1 ⟨rfl, rfl⟩
          rw [show ext k X = X by rw [HX.out]; exact ext_ext k a (by omega)]
          go_wp2_with fail
          refine (put_of m _ a (by have := HKM.out; omega) hm1 (by omega) _).mono ?_
          rintro e w2 ⟨b1, rfl, hb, hR1, hB1⟩
          have hB := hB.trans (hB1.mono hs)
          have hh := held_utab hR1 (by omega)
          clear hB1 hb hs hR1
          go_wp2_with fail
          refine (get_of _ true _ _ hh).mono ?_
          rintro e w1 ⟨rfl, rfl⟩
          rw [show getv true (putl m a) = X by rw [ext_get m a hm1 (by omega), HX.out, HKM.out]]
          clear hh
          rcases htop with htop | htop
          · have h1 : (X / 2 ^ (k - 1) != 0) = false := by rw [htop]; rfl
            clear htop
            go_wp2
            go_roundw
            case rel => exact ⟨2 * k, by have h1 := HKK.out; have := HK.out; omega, by go_num, hB⟩
            case measure =>
              have h2 := HKK.out
              have e : (2 * (k : Int)).toNat = 2 * k := by omega
              simp only [intOf, e, Int.toNat_natCast]
              omega
          · have h1 : (X / 2 ^ (k - 1) != 0) = true := by rw [htop]; rfl
            have h2 : (X / 2 ^ (k - 1) != -1) = false := by rw [htop]; rfl
            clear htop
            go_wp2
            go_roundw
            case rel => exact ⟨2 * k, by have h1 := HKK.out; have := HK.out; omega, by go_num, hB⟩
            case measure =>
              have h2 := HKK.out
              have e : (2 * (k : Int)).toNat = 2 * k := by omega
              simp only [intOf, e, Int.toNat_natCast]
              omega
        · clear hk16 hk128 HK
          have haa : (a == a) = true := by simp
          go_wp2_with fail
          refine (swap_any 8 64 false a HRA.out (by decide) (by decide) _).mono ?_
          rintro e w1 ⟨rfl, rfl⟩
          rw [swap_64 a HRA.out]
          go_wp2_with fail
          refine (swap_any 4 32 true 1 (by decide) (by decide) (by decide) _).mono ?_
          rintro e w1 ⟨rfl, rfl⟩
          rw [one_turned]
          go_wp2
          go_ret
          exact ⟨rfl, hB⟩

theorem own : ownKnob Try.prog.godebug = none := by kernel_rfl
set_option maxRecDepth 100000 in
theorem lifted (os : Os) (started : os.Started) (H : Type) (enc : TypeId × Value → H) :
    ReturnsInHanded {} Try.checked os 14 .any (Rows.wordTurnsSpec.pre6 enc Try.prog Try.f14 Rows.wordTurnsRow.domain false) (Rows.wordTurnsSpec.post enc Try.prog Try.f14 false true false false) := by
  refine returnsInHanded_of_change (C := Try.checked) own started (by kernel_rfl) Try.func14
    (ChangeSpec.witness6 (enc := enc) (C := Try.checked) false ⟨#[], #[.int .i64 0], []⟩ 8 (by kernel_rfl) (by kernel_rfl) (by kernel_rfl) (by kernel_rfl)) ?_
  intro W base args ds gs before hval0 hW hcnd _
  have hval : ∀ (j : Nat) t v, Try.f14.params[j]? = some t → args[j]? = some v → Value.okWide Try.prog W .any base t v := hval0
  have hW' := hW
  obtain ⟨p, q, hA0, hV, rfl, hfz, hnd⟩ := hW
  have hA : DataW.TrodAll enc Try.prog W 0 (fun _ => true) true Try.f14.params.toList args.toList ds p := hA0
  rw [Try.params14] at hA hval
  obtain ⟨v0, vs0, d0, ds0, p0, q0, hargs, rfl, rfl, h0, r0⟩ := trodAll_cons hA
  obtain ⟨rfl, rfl, rfl⟩ := trodAll_nil r0
  obtain rfl : args = #[v0] := by cases args; simp_all
  obtain ⟨a0, rfl, rfl, rfl, w0⟩ := open_int Try.underlying3 (hval 0 3 v0 rfl rfl) h0
  refine (walk a0 (range_i64 w0) W).mono fun e W' ⟨he, hb⟩ => ?_
  subst he
  exact ⟨_, rfl, law_post (tb := 4) (by kernel_rfl) (by kernel_rfl) rfl Try.underlying4 rfl (fun h => by subst h; rfl) hW' hb⟩

theorem proved : Rows.WordTurnsSaid :=
  OpenClaim.holds_of_wide 14 Try.f14 rfl rfl rfl rfl rfl rfl rfl ⟨rfl, rfl, rfl, rfl, rfl⟩ rfl rfl rfl rfl rfl (by kernel_rfl) Try.func14 (by kernel_rfl)
    (of_decide_eq_true (by kernel_rfl)) (by unfold Func.isWrapper; first | (rw [if_pos (by decide +kernel)]; kernel_rfl) | (rw [if_neg (by decide +kernel)]; exact ⟨rfl, rfl⟩))
    (fun os started H enc _ => lifted os started H enc)
#print axioms proved

end Go.Proofs.Ytcmpohippbjpcaa.wordTurns
