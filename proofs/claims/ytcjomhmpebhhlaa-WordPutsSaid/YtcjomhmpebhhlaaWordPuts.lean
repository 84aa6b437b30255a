/-
  WordPuts: every Put of a number; the bytes are the caller's; no condition.
-/
import Derived.Test.YtcjomhmpebhhlaaBookE
import Derived.Test.YtcjomhmpebhhlaaRefPut
import Derived.OpenShut
namespace Go.Proofs.Ytcjomhmpebhhlaa.wordPuts
open Go.ChangeShapes Go.WideShapes Go.ChangeAt Go.RowKit
set_option linter.unusedVariables false

/-- What Put lays for a size. -/
def puts (S v : Int) : List Int := if 1 ≤ S ∧ S ≤ 8 then putl S.toNat v else []
theorem puts_len (S v : Int) : (puts S v).length ≤ 8 := by
  unfold puts
  split
  · rw [putl_length]; omega
  · simp
theorem puts_bytes (S v : Int) : IsBytes (puts S v) := by
  unfold puts
  split
  · exact putl_bytes _ _
  · exact IsBytes.nil
theorem put_any (S v : Int) (w : World) : Calls Try.prog 9 #[.int .i64 S, .int .i64 v] w fun e w' => ∃ v', e = .returned v' ∧ w'.ownsRow w.heap.size 5 1 v' (puts S v).length ((puts S v).map (Value.int .u8)) ∧ Below w.heap.size w w' := by
  by_cases h : 1 ≤ S ∧ S ≤ 8
  · obtain ⟨k, rfl⟩ : ∃ k : Nat, S = k := ⟨S.toNat, by omega⟩
    have hp : puts k v = putl k v := by unfold puts; rw [if_pos h]; rfl
    rw [hp]
    refine (put_of k k v rfl (by omega) (by omega) w).mono ?_
    rintro e w' ⟨b, rfl, hb, hR, hB⟩
    refine ⟨_, rfl, ?_, hB⟩
    have hu : (putl k v).map (Value.int .u8) = utab k fun i => v / 2 ^ (8 * i) % 256 := by simp [putl, utab]
    rw [hu, putl_length]
    exact ⟨by simp [utab], Or.inr ⟨b, k, _, rfl, hb, hR, Nat.le_refl _, by unfold maxLen; omega, by simp [utab], List.take_of_length_le (by simp [utab])⟩⟩
  · have hp : puts S v = [] := by unfold puts; rw [if_neg h]
    rw [hp]
    refine (put_none S v (by omega) w).mono ?_
    rintro e w' ⟨rfl, rfl⟩
    exact ⟨_, rfl, World.ownsRow_nil _ _ _ _, Below.refl _ _⟩
theorem refput_any (S v : Int) (w : World) : Calls Try.prog 11 #[.int .i64 S, .int .i64 v] w fun e w' => ∃ v', e = .returned v' ∧ Held w' v' (puts S v) ∧ Below w.heap.size w w' := by
  by_cases h : 1 ≤ S ∧ S ≤ 8
  · obtain ⟨k, rfl⟩ : ∃ k : Nat, S = k := ⟨S.toNat, by omega⟩
    have hp : puts k v = putl k v := by unfold puts; rw [if_pos h]; rfl
    rw [hp]
    exact refput_of k v (by omega) (by omega) w
  · have hp : puts S v = [] := by unfold puts; rw [if_neg h]
    rw [hp]
    refine (refput_none S v (by omega) w).mono ?_
    rintro e w' ⟨rfl, rfl⟩
    exact ⟨_, rfl, held_nil _, Below.refl _ _⟩
theorem puts_258 : puts 2 258 = [2, 1] := by decide

set_option maxRecDepth 100000 in
set_option maxHeartbeats 6400000 in
theorem walk (size : Int) (rs : -9223372036854775808 ≤ size ∧ size ≤ 9223372036854775807) (v : Int) (rv : -9223372036854775808 ≤ v ∧ v ≤ 9223372036854775807) (w : World) :
    Calls Try.prog 3 #[.int .i64 size, .int .i64 v] w fun e w' => e = .returned (.bool true) ∧ Below w.heap.size w w' := by
  clear rs rv
  go_enter Try.func3, Try.ntmps3
  go_wp2
  have hR0 := Row.made w [.int .i64 0, .int .i64 0, .slice none 0 0, .slice none 0 0, .slice none 0 0, .slice none 0 0, .bool false] 26
  have hB0 := (Below.refl w.heap.size w).alloc (Nat.le_refl _) (.cells #[.int .i64 0, .int .i64 0, .slice none 0 0, .slice none 0 0, .slice none 0 0, .slice none 0 0, .bool false] 26)
  have hG0 := good_new _ w.heap.size w.heap.size (Nat.le_refl _) hR0
  go_loopw [6] (fun s wr => ∃ (k cnt tot : Int) (kk : Nat) (A : List (Value × List Value)), -1 ≤ k ∧ k ≤ 11 ∧ s = .int .i64 k ∧ Good wr w.heap.size w.heap.size cnt tot kk A ∧ 0 ≤ cnt ∧ cnt ≤ 2 * (k + 1) ∧ 0 ≤ tot ∧ tot ≤ 16 * (k + 1) ∧ (kk : Int) ≤ 12 * (k + 1) ∧ Below w.heap.size w wr) (fun s _ => (11 - intOf s).toNat)
  case atStart => exact ⟨-1, 0, 0, 0, [], by decide, by decide, rfl, hG0, by decide, by decide, by decide, by decide, by decide, hB0⟩
  case round =>
    clear hR0 hB0 hG0
    obtain ⟨k, cnt, tot, kk, A, hk1, hk2, rfl, hG, hc1, hc2, ht1, ht2, hkk, hB⟩ := hrel
    have HG := Lib.hid hG
    have HB := Lib.hid hB
    have HLT := Lib.hid hB.size
    have HC := Lib.hid (show 0 ≤ cnt ∧ cnt ≤ 2 * (k + 1) ∧ 0 ≤ tot ∧ tot ≤ 16 * (k + 1) ∧ (kk : Int) ≤ 12 * (k + 1) ∧ k ≤ 11 from ⟨hc1, hc2, ht1, ht2, hkk, hk2⟩)
    clear hG hB hc1 hc2 ht1 ht2 hkk
    by_cases hle : k ≤ 10
    · by_cases h10 : k = 10
      · have hb : (k == 10) = true := by simpa using h10
        go_wp2_with fail
        refine (put_any size v _).mono ?_
        rintro e w1 ⟨v1, rfl, hv1, hB1⟩
        have hG1 := HG.out.give hB1 (by rw [List.length_map]; exact hv1)
        have hb1 := hB1.mono HLT.out
        have HG1 := Lib.hid hG1
        have HB1 := Lib.hid (HB.out.trans hb1)
        clear hv1 hB1 hG1 hb1
        go_wp2_with fail
        refine (put_any size v _).mono ?_
        rintro e w2 ⟨v2, rfl, hv2, hB2⟩
        have hz1 := HB1.out.size
        have hG2 := HG1.out.give hB2 (by rw [List.length_map]; exact hv2)
        have hb2 := hB2.mono hz1
        have HG2 := Lib.hid hG2
        have HB2 := Lib.hid (HB1.out.trans hb2)
        clear hv2 hB2 hG2 hb2 hz1
        go_wp2_with fail
        refine (refput_any size v _).mono ?_
        rintro e w3 ⟨v3, rfl, hh3, hB3⟩
        have hz2 := HB2.out.size
        have hG3 := HG2.out.below hB3
        have HB3 := Lib.hid (HB2.out.trans (hB3.mono hz2))
        have ha1 : ((A ++ [(v1, (puts size v).map (Value.int .u8))]) ++ [(v2, (puts size v).map (Value.int .u8))])[A.length]? = some (v1, (puts size v).map (Value.int .u8)) := by
          rw [List.getElem?_append_left (by simp), List.getElem?_append_right (Nat.le_refl _)]; simp
        have ha2 : ((A ++ [(v1, (puts size v).map (Value.int .u8))]) ++ [(v2, (puts size v).map (Value.int .u8))])[A.length + 1]? = some (v2, (puts size v).map (Value.int .u8)) := by
          rw [List.getElem?_append_right (by simp)]; simp
        have hh1 : Held w3 v1 (puts size v) := held_of_own (hG3.aside ha1) (puts_bytes _ _) (by simp)
        have hh2 : Held w3 v2 (puts size v) := held_of_own (hG3.aside ha2) (puts_bytes _ _) (by simp)
        have ha3 : (((A ++ [(v1, (puts size v).map (Value.int .u8))]) ++ [(v2, (puts size v).map (Value.int .u8))]).set A.length (.slice none 0 0, []))[A.length + 1]? = some (v2, (puts size v).map (Value.int .u8)) := by
          rw [List.getElem?_set, if_neg (by omega)]; exact ha2
        have HG3 := Lib.hid hG3
        have HA1 := Lib.hid ha1
        have HA3 := Lib.hid ha3
        have HH1 := Lib.hid hh1
        have HH2 := Lib.hid hh2
        have HH3 := Lib.hid hh3
        clear hG3 hB3 ha1 ha2 ha3 hh1 hh2 hh3 hz2
        go_wp2_with fail
        refine (same_at _ _ _ _ HH1.out HH3.out).mono ?_
        rintro e w' ⟨rfl, rfl⟩
        go_wp2_with fail
        refine (same_at _ _ _ _ HH2.out HH1.out).mono ?_
        rintro e w' ⟨rfl, rfl⟩
        go_wp2_with fail
        refine (own_good _ _ cnt tot kk v1 (puts size v) A.length _ _ HG3.out HA1.out (by have := HC.out; omega) (by have := HC.out; omega) (by have := HC.out; omega) (puts_bytes _ _) (Nat.le_trans (puts_len _ _) (by decide))).mono ?_
        rintro e w4 ⟨rfl, hB4, hG4⟩
        have HB4 := Lib.hid (HB3.out.trans hB4)
        have HG4 := Lib.hid hG4
        clear hB4 hG4
        go_wp2_with fail
        refine (own_good _ _ _ _ _ v2 (puts size v) (A.length + 1) _ _ HG4.out HA3.out (by have := HC.out; omega) (by have := HC.out; omega) (by have := HC.out; have := puts_len size v; omega) (puts_bytes _ _) (Nat.le_trans (puts_len _ _) (by decide))).mono ?_
        rintro e w5 ⟨rfl, hB5, hG5⟩
        have HB5 := Lib.hid (HB4.out.trans hB5)
        have HG5 := Lib.hid hG5
        have hpl := puts_len size v
        have HPL := Lib.hid hpl
        clear hB5 hG5 hpl
        go_wp2
        go_roundw
        case rel =>
          have hpl := HPL.out
          have hc := HC.out
          exact ⟨k + 1, _, _, _, _, by omega, by omega, by first | rfl | (congr 1; omega), HG5.out, by omega, by omega, by omega, by omega, by omega, HB5.out⟩
        case measure => simp [intOf]; omega
      · have hb : (k == 10) = false := by simpa using h10
        go_wp2_with fail
        refine (put_any k v _).mono ?_
        rintro e w1 ⟨v1, rfl, hv1, hB1⟩
        have hG1 := HG.out.give hB1 (by rw [List.length_map]; exact hv1)
        have hb1 := hB1.mono HLT.out
        have HG1 := Lib.hid hG1
        have HB1 := Lib.hid (HB.out.trans hb1)
        clear hv1 hB1 hG1 hb1
        go_wp2_with fail
        refine (put_any k v _).mono ?_
        rintro e w2 ⟨v2, rfl, hv2, hB2⟩
        have hz1 := HB1.out.size
        have hG2 := HG1.out.give hB2 (by rw [List.length_map]; exact hv2)
        have hb2 := hB2.mono hz1
        have HG2 := Lib.hid hG2
        have HB2 := Lib.hid (HB1.out.trans hb2)
        clear hv2 hB2 hG2 hb2 hz1
        go_wp2_with fail
        refine (refput_any k v _).mono ?_
        rintro e w3 ⟨v3, rfl, hh3, hB3⟩
        have hz2 := HB2.out.size
        have hG3 := HG2.out.below hB3
        have HB3 := Lib.hid (HB2.out.trans (hB3.mono hz2))
        have ha1 : ((A ++ [(v1, (puts k v).map (Value.int .u8))]) ++ [(v2, (puts k v).map (Value.int .u8))])[A.length]? = some (v1, (puts k v).map (Value.int .u8)) := by
          rw [List.getElem?_append_left (by simp), List.getElem?_append_right (Nat.le_refl _)]; simp
        have ha2 : ((A ++ [(v1, (puts k v).map (Value.int .u8))]) ++ [(v2, (puts k v).map (Value.int .u8))])[A.length + 1]? = some (v2, (puts k v).map (Value.int .u8)) := by
          rw [List.getElem?_append_right (by simp)]; simp
        have hh1 : Held w3 v1 (puts k v) := held_of_own (hG3.aside ha1) (puts_bytes _ _) (by simp)
        have hh2 : Held w3 v2 (puts k v) := held_of_own (hG3.aside ha2) (puts_bytes _ _) (by simp)
        have ha3 : (((A ++ [(v1, (puts k v).map (Value.int .u8))]) ++ [(v2, (puts k v).map (Value.int .u8))]).set A.length (.slice none 0 0, []))[A.length + 1]? = some (v2, (puts k v).map (Value.int .u8)) := by
          rw [List.getElem?_set, if_neg (by omega)]; exact ha2
        have HG3 := Lib.hid hG3
        have HA1 := Lib.hid ha1
        have HA3 := Lib.hid ha3
        have HH1 := Lib.hid hh1
        have HH2 := Lib.hid hh2
        have HH3 := Lib.hid hh3
        clear hG3 hB3 ha1 ha2 ha3 hh1 hh2 hh3 hz2
        go_wp2_with fail
        refine (same_at _ _ _ _ HH1.out HH3.out).mono ?_
        rintro e w' ⟨rfl, rfl⟩
        go_wp2_with fail
        refine (same_at _ _ _ _ HH2.out HH1.out).mono ?_
        rintro e w' ⟨rfl, rfl⟩
        go_wp2_with fail
        refine (own_good _ _ cnt tot kk v1 (puts k v) A.length _ _ HG3.out HA1.out (by have := HC.out; omega) (by have := HC.out; omega) (by have := HC.out; omega) (puts_bytes _ _) (Nat.le_trans (puts_len _ _) (by decide))).mono ?_
        rintro e w4 ⟨rfl, hB4, hG4⟩
        have HB4 := Lib.hid (HB3.out.trans hB4)
        have HG4 := Lib.hid hG4
        clear hB4 hG4
        go_wp2_with fail
        refine (own_good _ _ _ _ _ v2 (puts k v) (A.length + 1) _ _ HG4.out HA3.out (by have := HC.out; omega) (by have := HC.out; omega) (by have := HC.out; have := puts_len k v; omega) (puts_bytes _ _) (Nat.le_trans (puts_len _ _) (by decide))).mono ?_
        rintro e w5 ⟨rfl, hB5, hG5⟩
        have HB5 := Lib.hid (HB4.out.trans hB5)
        have HG5 := Lib.hid hG5
        have hpl := puts_len k v
        have HPL := Lib.hid hpl
        clear hB5 hG5 hpl
        go_wp2
        go_roundw
        case rel =>
          have hpl := HPL.out
          have hc := HC.out
          exact ⟨k + 1, _, _, _, _, by omega, by omega, by first | rfl | (congr 1; omega), HG5.out, by omega, by omega, by omega, by omega, by omega, HB5.out⟩
        case measure => simp [intOf]; omega
    · go_wp2_with fail
      refine (done_good _ _ cnt tot kk A _ HG.out (by have := HC.out; omega) (by have := HC.out; omega)).mono ?_
      rintro e w1 ⟨rfl, hB1⟩
      have HB1 := Lib.hid (HB.out.trans hB1)
      clear hB1
      go_wp2_with fail
      refine (put_any 2 258 _).mono ?_
      rintro e w2 ⟨v2, rfl, hv2, hB2⟩
      have hh2 := held_of_own hv2 (puts_bytes _ _) rfl
      rw [puts_258] at hh2
      have hz := HB1.out.size
      have HB2 := Lib.hid ((HB1.out.trans (hB2.mono hz)).alloc (Nat.le_trans hz hB2.size) (.cells #[.int .u8 2, .int .u8 1] 5))
      have hl2 := hh2.below ((Below.refl w2.heap.size w2).alloc (Nat.le_refl _) (.cells #[.int .u8 2, .int .u8 1] 5)) (Nat.le_refl _)
      have hlit : Held (w2.alloc (.cells #[.int .u8 2, .int .u8 1] 5)) (.slice (some ⟨w2.heap.size, 0, none⟩) 2 2) [2, 1] :=
        held_row (xs := [2, 1]) (cap := 2) (Row.made w2 [.int .u8 2, .int .u8 1] _) (by unfold IsBytes; decide) (by decide) (by decide) (fun i hi => by
          have : i = 0 ∨ i = 1 := by simp at hi; omega
          rcases this with rfl | rfl <;> rfl)
      have HL2 := Lib.hid hl2
      have HLIT := Lib.hid hlit
      clear hv2 hB2 hh2 hz hl2 hlit
      go_wp2_with fail
      refine (same_at _ _ [2, 1] _ HL2.out HLIT.out).mono ?_
      rintro e w' ⟨rfl, rfl⟩
      go_wp2
      go_ret
      exact ⟨rfl, HB2.out⟩


theorem own : ownKnob Try.prog.godebug = none := by kernel_rfl
set_option maxRecDepth 100000 in
theorem lifted (os : Os) (started : os.Started) (H : Type) (enc : TypeId × Value → H) :
    ReturnsInHanded {} Try.checked os 3 .any (Rows.wordPutsSpec.pre6 enc Try.prog Try.f3 Rows.wordPutsRow.domain false) (Rows.wordPutsSpec.post enc Try.prog Try.f3 false true false false) := by
  refine returnsInHanded_of_change (C := Try.checked) own started (by kernel_rfl) Try.func3
    (ChangeSpec.witness6 (enc := enc) (C := Try.checked) false ⟨#[], #[.int .i64 0, .int .i64 0], []⟩ 8 (by kernel_rfl) (by kernel_rfl) (by kernel_rfl) (by kernel_rfl)) ?_
  intro W base args ds gs before hval0 hW hcnd _
  have hval : ∀ (j : Nat) t v, Try.f3.params[j]? = some t → args[j]? = some v → Value.okWide Try.prog W .any base t v := hval0
  have hW' := hW
  obtain ⟨p, q, hA0, hV, rfl, hfz, hnd⟩ := hW
  have hA : DataW.TrodAll enc Try.prog W 0 (fun _ => true) true Try.f3.params.toList args.toList ds p := hA0
  rw [Try.params3] at hA hval
  obtain ⟨v0, vs0, d0, ds0, p0, q0, hargs, rfl, rfl, h0, r0⟩ := trodAll_cons hA
  obtain ⟨v1, vs1, d1, ds1, p1, q1, rfl, rfl, rfl, h1, r1⟩ := trodAll_cons r0
  obtain ⟨rfl, rfl, rfl⟩ := trodAll_nil r1
  obtain rfl : args = #[v0, v1] := by cases args; simp_all
  obtain ⟨a0, rfl, rfl, rfl, w0⟩ := open_int Try.underlying3 (hval 0 3 v0 rfl rfl) h0
  obtain ⟨a1, rfl, rfl, rfl, w1⟩ := open_int Try.underlying3 (hval 1 3 v1 rfl rfl) h1
  refine (walk a0 (range_i64 w0) a1 (range_i64 w1) W).mono fun e W' ⟨he, hb⟩ => ?_
  subst he
  exact ⟨_, rfl, law_post (tb := 4) (by kernel_rfl) (by kernel_rfl) rfl Try.underlying4 rfl (fun h => by subst h; rfl) hW' hb⟩

theorem proved : Rows.WordPutsSaid :=
  OpenClaim.holds_of_wide 3 Try.f3 rfl rfl rfl rfl rfl rfl rfl ⟨rfl, rfl, rfl, rfl, rfl⟩ rfl rfl rfl rfl rfl (by kernel_rfl) Try.func3 (by kernel_rfl)
    (of_decide_eq_true (by kernel_rfl)) (by unfold Func.isWrapper; first | (rw [if_pos (by decide +kernel)]; kernel_rfl) | (rw [if_neg (by decide +kernel)]; exact ⟨rfl, rfl⟩))
    (fun os started H enc _ => lifted os started H enc)
#print axioms proved

end Go.Proofs.Ytcjomhmpebhhlaa.wordPuts
