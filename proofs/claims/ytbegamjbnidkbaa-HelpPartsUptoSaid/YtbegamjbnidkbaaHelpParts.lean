/-
  HelpParts: a sum of two parts.
-/
import Derived.Test.YtbegamjbnidkbaaHelpD
import Derived.Test.YtbegamjbnidkbaaHelpBulk
import Derived.OpenShut
import Derived.JoinedCond
namespace Go.Proofs.Ytbegamjbnidkbaa.helpParts
open Go.ChangeShapes Go.WideShapes Go.ChangeAt Go.RowKit
set_option linter.unusedVariables false

theorem wordAt_left (xs ys : List Int) (h : Nat) (hl : xs.length = 2 * h) (k : Nat) (hk : k < h) : wordAt (xs ++ ys) k = wordAt xs k := by
  unfold wordAt
  unfold List.getD
  rw [List.getElem?_append_left (by omega), List.getElem?_append_left (by omega)]
theorem wordAt_right (xs ys : List Int) (h : Nat) (hl : xs.length = 2 * h) (k : Nat) : wordAt (xs ++ ys) (h + k) = wordAt ys k := by
  unfold wordAt
  unfold List.getD
  rw [List.getElem?_append_right (by omega), List.getElem?_append_right (by omega), hl, show 2 * (h + k) - 2 * h = 2 * k by omega, show 2 * (h + k) + 1 - 2 * h = 2 * k + 1 by omega]
theorem sumN_left (xs ys : List Int) (h : Nat) (hl : xs.length = 2 * h) (s : Int) : ∀ k, k ≤ h → sumN (xs ++ ys) s k = sumN xs s k
  | 0, _ => rfl
  | k + 1, hk => by
    show stp (sumN (xs ++ ys) s k) (wordAt (xs ++ ys) k) = stp (sumN xs s k) (wordAt xs k)
    rw [sumN_left xs ys h hl s k (by omega), wordAt_left xs ys h hl k (by omega)]
theorem sumN_right (xs ys : List Int) (h : Nat) (hl : xs.length = 2 * h) (s : Int) : ∀ k, sumN (xs ++ ys) s (h + k) = sumN ys (sumN xs s h) k
  | 0 => sumN_left xs ys h hl s h (Nat.le_refl _)
  | k + 1 => by
    show stp (sumN (xs ++ ys) s (h + k)) (wordAt (xs ++ ys) (h + k)) = stp (sumN ys (sumN xs s h) k) (wordAt ys k)
    rw [sumN_right xs ys h hl s k, wordAt_right xs ys h hl k]
theorem sum_parts (xs ys : List Int) (hx : IsBytes xs) (h : Nat) (hl : xs.length = 2 * h) (seed : Int) : sumv (xs ++ ys) seed = sumv ys (sumv xs seed) := by
  have hr := sumN_range (s := seed % 65536) hx (by omega) h
  unfold sumv
  rw [List.length_append, hl, show (2 * h + 1) / 2 = h by omega, show (2 * h + ys.length + 1) / 2 = h + (ys.length + 1) / 2 by omega, sumN_right xs ys h hl]
  congr 1
  omega
theorem sum_low (xs : List Int) (seed : Int) : sumv xs (seed % 65536) = sumv xs seed := by
  unfold sumv
  rw [show seed % 65536 % 65536 = seed % 65536 by omega]

set_option maxRecDepth 100000 in
set_option maxHeartbeats 6400000 in
theorem walk (bv : Value) (xs : List Int) (hl : xs.length ≤ 1048576) (bv2 : Value) (ys : List Int) (hl2 : ys.length ≤ 1048576) (c : Int) (rc : -9223372036854775808 ≤ c ∧ c ≤ 9223372036854775807) (w : World) (h : Held w bv xs) (h2 : Held w bv2 ys) :
    Calls Try.prog 9 #[bv, bv2, .int .i64 c] w fun e w' => e = .returned (.bool true) ∧ Below w.heap.size w w' := by
  clear rc
  have HH2 := Lib.hid h2
  have hx := h.bytes
  have hsl : ∃ a cap, bv = .slice a xs.length cap ∧ xs.length ≤ cap ∧ cap ≤ maxLen ∧ (∀ k, k ≤ xs.length → Held w (.slice a k cap) (xs.take k)) := by
    obtain ⟨_, ⟨rfl, rfl | ⟨a, cap, rfl, hcm⟩⟩ | ⟨hp, b, off, cap, rfl, hcap, hcm, hlt, hcell⟩⟩ := h
    · exact ⟨_, _, rfl, Nat.le_refl _, by decide, fun k hk => by obtain rfl : k = 0 := by simpa using hk
                                                                 exact held_nil w⟩
    · exact ⟨_, _, rfl, Nat.zero_le _, hcm, fun k hk => by obtain rfl : k = 0 := by simpa using hk
                                                           exact ⟨IsBytes.nil, Or.inl ⟨rfl, Or.inr ⟨_, _, rfl, hcm⟩⟩⟩⟩
    · refine ⟨_, _, rfl, hcap, hcm, fun k hk => ⟨hx.take k, ?_⟩⟩
      have hkl : (xs.take k).length = k := by rw [List.length_take]; omega
      by_cases hk0 : 0 < k
      · refine Or.inr ⟨by omega, b, off, cap, by rw [hkl], by omega, hcm, hlt, fun i hi => ?_⟩
        rw [hkl] at hi
        rw [hcell i (by omega)]
        simp [List.getD, hi]
      · obtain rfl : k = 0 := by omega
        exact Or.inl ⟨by simp, Or.inr ⟨_, _, rfl, hcm⟩⟩
  obtain ⟨a, cap, rfl, hcap, hcm, htk⟩ := hsl
  obtain ⟨n, hn⟩ : ∃ n, n = xs.length := ⟨_, rfl⟩
  obtain ⟨q, hq⟩ : ∃ q, q = n / 2 := ⟨_, rfl⟩
  obtain ⟨E, hE⟩ : ∃ E, E = 2 * q := ⟨_, rfl⟩
  rw [← hn] at hcap hl ⊢
  have hEn : E ≤ n := by omega
  have hEc : E ≤ cap := by omega
  have hA := htk E (by omega)
  obtain ⟨us, has⟩ : ∃ us, us = xs.take E := ⟨_, rfl⟩
  rw [← has] at hA
  have hE2 : us.length = E := by rw [has, List.length_take]; omega
  have hsp := sum_parts us ys hA.bytes q (by omega) c
  have hlo := sum_low (us ++ ys) c
  have hsd := seed_low c
  obtain ⟨V, hV⟩ : ∃ V, sumv (us ++ ys) c = V := ⟨_, rfl⟩
  have hV2 : sumv ys (sumv us c) = V := by rw [← hsp, hV]
  have hV3 : sumv (us ++ ys) (c % 65536) = V := by rw [hlo, hV]
  have heq : (V == V) = true := by simp
  have t1 : (n : Int).tdiv 2 = (q : Int) := by rw [hq]; rfl
  have t2 : (n : Int) / 2 = (q : Int) := by omega
  have t3 : (q : Int) * 2 = (E : Int) := by omega
  have HV := Lib.hid hV
  have HV2 := Lib.hid hV2
  have HV3 := Lib.hid hV3
  have HLX := Lib.hid (show E ≤ 1048576 by omega)
  have HLY := Lib.hid hl2
  have HE := Lib.hid hE2
  have HA0 := Lib.hid hA
  clear hV hV2 hV3 hsp hlo has htk hA hE2 hl2 h h2 hE hx hn hq
  unfold maxLen at hcm
  obtain ⟨i0, hi, hz0, hz1, hz2⟩ := info_parts info_u8
  have hone := bytes_one ys
  go_enter Try.func9, Try.ntmps9
  go_wp2_with fail
  refine (known_any _).mono ?_
  rintro e w1 ⟨rfl, hB⟩
  have hA1 := HA0.out.below hB (Nat.le_refl _)
  have HA1 := Lib.hid hA1
  have HB1 := Lib.hid hB
  clear hA1 hB
  go_wp2_with fail
  refine (copy_of _ _ _ HA1.out (by have := HE.out; have := HLX.out; omega)).mono ?_
  rintro e w2 ⟨v', rfl, hown, hB2⟩
  rw [HE.out] at hown
  have hA2 := HA1.out.below hB2 (Nat.le_refl _)
  have hBw := HB1.out.trans (hB2.mono HB1.out.size)
  have hY2 := HH2.out.below hBw (Nat.le_refl _)
  have hz := hB2.size
  have hz3 := HB1.out.size
  have HA := Lib.hid hA2
  have HB2 := Lib.hid hBw
  have HO := Lib.hid hown
  clear hA2 hB2 hBw hown
  obtain ⟨hy, ⟨rfl, rfl | ⟨b, cap2, rfl, hcap2⟩⟩ | ⟨hp, b, off, cap2, rfl, hc2, hm2, hlt2, hcell2⟩⟩ := hY2
  · go_wp2_with (at_builtin; refine wpList_append_own_none rfl (.tmp 17) (.tmp 18) 37 rfl w1.heap.size 5 i0 1 Try.underlying37 hi v' E _ rfl HO.out rfl ?_)
    have hown : w2.ownsRow w1.heap.size 5 1 v' (us ++ []).length ((us ++ []).map (Value.int .u8)) := by rw [List.append_nil, HE.out]; exact HO.out
    have hB3 := HB2.out

    have hW := held_of_own hown (HA0.out.bytes.append HH2.out.bytes) rfl
    have hA3 := HA0.out.below hB3 (Nat.le_refl _)
    have hY3 := HH2.out.below hB3 (Nat.le_refl _)
    have HW := Lib.hid hW
    have HA3 := Lib.hid hA3
    have HY3 := Lib.hid hY3
    have HB3 := Lib.hid hB3
    clear hB3 hW hA3 hY3 hown

    go_wp2_with fail
    refine (sum_of _ _ (by have := HE.out; have := HLX.out; have := HLY.out; simp; omega) _ _ HW.out).mono ?_
    rintro e w' ⟨rfl, rfl⟩
    rw [HV.out]
    go_wp2_with fail
    refine (sum_of _ _ (by have := HE.out; have := HLX.out; omega) _ _ HA3.out).mono ?_
    rintro e w' ⟨rfl, rfl⟩
    go_wp2_with fail
    refine (sum_of _ _ (by have := HLY.out; omega) _ _ HY3.out).mono ?_
    rintro e w' ⟨rfl, rfl⟩
    rw [HV2.out]
    go_wp2_with fail
    refine (sum_of _ _ (by have := HE.out; have := HLX.out; have := HLY.out; simp; omega) _ _ HW.out).mono ?_
    rintro e w' ⟨rfl, rfl⟩
    rw [HV.out]
    go_wp2_with fail
    refine (sum_of _ _ (by have := HE.out; have := HLX.out; have := HLY.out; simp; omega) _ _ HW.out).mono ?_
    rintro e w' ⟨rfl, rfl⟩
    rw [HV3.out]
    go_wp2
    go_ret
    exact ⟨rfl, HB3.out⟩
  · go_wp2_with (at_builtin; refine wpList_append_own _ rfl (.tmp 17) (.tmp 18) 37 rfl w1.heap.size 5 i0 (.int .u8 0) 1 1 Try.underlying37 hi hz0 hz1 hz2 rfl (by decide) v' E _ rfl HO.out b 0 _ [] rfl rfl (fun j u hu => by cases hu) (fun u hu => by cases hu) (by have := HLX.out; unfold maxLen; omega) (by have := HLX.out; omega) hz ?_; intro v1 w3 hown hgrow _)
    have hB3 : Below w.heap.size w w3 := Below.grown HB2.out hgrow (by omega) (fun k hk => Nat.le_trans hz3 (HO.out.lt k hk).1)
    have hown : w3.ownsRow w1.heap.size 5 1 v1 (us ++ []).length ((us ++ []).map (Value.int .u8)) := by rw [List.append_nil, HE.out]; simpa using hown
    clear hgrow

    have hW := held_of_own hown (HA0.out.bytes.append HH2.out.bytes) rfl
    have hA3 := HA0.out.below hB3 (Nat.le_refl _)
    have hY3 := HH2.out.below hB3 (Nat.le_refl _)
    have HW := Lib.hid hW
    have HA3 := Lib.hid hA3
    have HY3 := Lib.hid hY3
    have HB3 := Lib.hid hB3
    clear hB3 hW hA3 hY3 hown

    go_wp2_with fail
    refine (sum_of _ _ (by have := HE.out; have := HLX.out; have := HLY.out; simp; omega) _ _ HW.out).mono ?_
    rintro e w' ⟨rfl, rfl⟩
    rw [HV.out]
    go_wp2_with fail
    refine (sum_of _ _ (by have := HE.out; have := HLX.out; omega) _ _ HA3.out).mono ?_
    rintro e w' ⟨rfl, rfl⟩
    go_wp2_with fail
    refine (sum_of _ _ (by have := HLY.out; omega) _ _ HY3.out).mono ?_
    rintro e w' ⟨rfl, rfl⟩
    rw [HV2.out]
    go_wp2_with fail
    refine (sum_of _ _ (by have := HE.out; have := HLX.out; have := HLY.out; simp; omega) _ _ HW.out).mono ?_
    rintro e w' ⟨rfl, rfl⟩
    rw [HV.out]
    go_wp2_with fail
    refine (sum_of _ _ (by have := HE.out; have := HLX.out; have := HLY.out; simp; omega) _ _ HW.out).mono ?_
    rintro e w' ⟨rfl, rfl⟩
    rw [HV3.out]
    go_wp2
    go_ret
    exact ⟨rfl, HB3.out⟩
  · have hn := bytes_news hcell2
    go_wp2_with (at_builtin; refine wpList_append_own _ rfl (.tmp 17) (.tmp 18) 37 rfl w1.heap.size 5 i0 (.int .u8 0) 1 1 Try.underlying37 hi hz0 hz1 hz2 rfl (by decide) v' E _ rfl HO.out ⟨b, off, none⟩ ys.length _ (ys.map (Value.int .u8)) rfl (by simp) hn hone (by have := HLX.out; have := HLY.out; unfold maxLen; omega) (by have := HLX.out; have := HLY.out; omega) hz ?_; intro v1 w3 hown hgrow _)
    have hB3 : Below w.heap.size w w3 := Below.grown HB2.out hgrow (by omega) (fun k hk => Nat.le_trans hz3 (HO.out.lt k hk).1)
    have hown : w3.ownsRow w1.heap.size 5 1 v1 (us ++ ys).length ((us ++ ys).map (Value.int .u8)) := by rw [List.length_append, HE.out, List.map_append]; exact hown
    clear hgrow hn

    have hW := held_of_own hown (HA0.out.bytes.append HH2.out.bytes) rfl
    have hA3 := HA0.out.below hB3 (Nat.le_refl _)
    have hY3 := HH2.out.below hB3 (Nat.le_refl _)
    have HW := Lib.hid hW
    have HA3 := Lib.hid hA3
    have HY3 := Lib.hid hY3
    have HB3 := Lib.hid hB3
    clear hB3 hW hA3 hY3 hown

    go_wp2_with fail
    refine (sum_of _ _ (by have := HE.out; have := HLX.out; have := HLY.out; simp; omega) _ _ HW.out).mono ?_
    rintro e w' ⟨rfl, rfl⟩
    rw [HV.out]
    go_wp2_with fail
    refine (sum_of _ _ (by have := HE.out; have := HLX.out; omega) _ _ HA3.out).mono ?_
    rintro e w' ⟨rfl, rfl⟩
    go_wp2_with fail
    refine (sum_of _ _ (by have := HLY.out; omega) _ _ HY3.out).mono ?_
    rintro e w' ⟨rfl, rfl⟩
    rw [HV2.out]
    go_wp2_with fail
    refine (sum_of _ _ (by have := HE.out; have := HLX.out; have := HLY.out; simp; omega) _ _ HW.out).mono ?_
    rintro e w' ⟨rfl, rfl⟩
    rw [HV.out]
    go_wp2_with fail
    refine (sum_of _ _ (by have := HE.out; have := HLX.out; have := HLY.out; simp; omega) _ _ HW.out).mono ?_
    rintro e w' ⟨rfl, rfl⟩
    rw [HV3.out]
    go_wp2
    go_ret
    exact ⟨rfl, HB3.out⟩


theorem own : ownKnob Try.prog.godebug = none := by kernel_rfl
set_option maxRecDepth 100000 in
theorem contract (H : Type) (enc : TypeId × Value → H) (W : World) (base : Nat) (args : Array Value) (ds gs : List (DataW H)) (before : List MemPlace)
    (hval : ∀ (j : Nat) t v, Try.f9.params[j]? = some t → args[j]? = some v → Value.okWide Try.prog W .any base t v)
    (hW : DataW.Whole enc Try.prog Try.f9.params.toList Rows.helpPartsSpec.vars false W args.toList ds gs before) (hk : Rows.uptoSmall H (ds ++ gs) = true) :
    Calls Try.prog 9 args W fun e W' => ∃ v, e = .returned v ∧ Rows.helpPartsSpec.post enc Try.prog Try.f9 false true false false W args v W' := by
  have hW' := hW
  obtain ⟨p, q, hA0, hV, rfl, hfz, hnd⟩ := hW
  have hA : DataW.TrodAll enc Try.prog W 0 (fun _ => true) true Try.f9.params.toList args.toList ds p := hA0
  rw [Try.params9] at hA hval
  obtain ⟨v0, vs0, d0, ds0, p0, q0, hargs, rfl, rfl, h0, r0⟩ := trodAll_cons hA
  obtain ⟨v1, vs1, d1, ds1, p1, q1, rfl, rfl, rfl, h1, r1⟩ := trodAll_cons r0
  obtain ⟨v2, vs2, d2, ds2, p2, q2, rfl, rfl, rfl, h2, r2⟩ := trodAll_cons r1
  obtain ⟨rfl, rfl, rfl⟩ := trodAll_nil r2
  obtain rfl : args = #[v0, v1, v2] := by cases args; exact congrArg Array.mk hargs
  obtain ⟨xs0, hX0, hd0⟩ := bytes_arg (hval 0 37 v0 rfl rfl) h0
  have hl0 : xs0.length ≤ 1048576 := by
    rcases hd0 with rfl | ⟨spare, rfl⟩
    · simp
    · have h := bulks.short hk (elems := lits .u8 xs0) (spare := lits .u8 spare) (by simp)
      simpa [lits] using h
  obtain ⟨xs1, hX1, hd1⟩ := bytes_arg (hval 1 37 v1 rfl rfl) h1
  have hl1 : xs1.length ≤ 1048576 := by
    rcases hd1 with rfl | ⟨spare, rfl⟩
    · simp
    · have h := bulks.short hk (elems := lits .u8 xs1) (spare := lits .u8 spare) (by simp)
      simpa [lits] using h
  obtain ⟨a2, rfl, rfl, rfl, w2⟩ := open_int Try.underlying3 (hval 2 3 v2 rfl rfl) h2
  refine (walk v0 xs0 hl0 v1 xs1 hl1 a2 (range_i64 w2) W hX0 hX1).mono fun e W' ⟨he, hb⟩ => ?_
  subst he
  exact ⟨_, rfl, law_post (tb := 4) (by kernel_rfl) (by kernel_rfl) rfl Try.underlying4 rfl (fun h => by subst h; rfl) hW' hb⟩

set_option maxRecDepth 100000 in
theorem lifted (os : Os) (started : os.Started) (H : Type) (enc : TypeId × Value → H) (F : Stop.Interp) :
    ReturnsInHanded {} Try.checked os 9 .any ((Rows.OpenSpec.upto Rows.helpPartsSpec).pre6 enc Try.prog Try.f9 Rows.helpPartsUptoRow.domain false) (((Rows.OpenSpec.upto Rows.helpPartsSpec).at F).post enc Try.prog Try.f9 false true false false) := by
  refine returnsInHanded_of_cond (C := Try.checked) (s := Rows.OpenSpec.upto Rows.helpPartsSpec) (k := Rows.uptoSmall) rfl own started (by kernel_rfl) Try.func9
    (OpenSpec.witness (enc := enc) (C := Try.checked) (s := Rows.OpenSpec.upto Rows.helpPartsSpec) (k := Rows.uptoSmall) rfl false ⟨#[], #[.slice none 0 0, .slice none 0 0, .int .i64 0], []⟩ 8 (by kernel_rfl) (by kernel_rfl) (by kernel_rfl)
      (x := ([.nil, .nil, .lit (.int .i64 0)], [], [])) (by kernel_rfl) rfl (by kernel_rfl)) ?_
  intro W base args ds gs before hval hW _ hk _
  exact contract H enc W base args ds gs before hval hW hk

theorem proved : Rows.HelpPartsUptoSaid :=
  OpenClaim.holds_of_cond 9 Try.f9 rfl rfl rfl rfl rfl rfl rfl ⟨rfl, rfl, rfl, rfl, rfl⟩ rfl rfl rfl rfl rfl (by kernel_rfl) Try.func9 (by kernel_rfl)
    (of_decide_eq_true (by kernel_rfl)) (by unfold Func.isWrapper; first | (rw [if_pos (by decide +kernel)]; kernel_rfl) | (rw [if_neg (by decide +kernel)]; exact ⟨rfl, rfl⟩))
    (fun os started H enc _ F => lifted os started H enc F)
#print axioms proved

end Go.Proofs.Ytbegamjbnidkbaa.helpParts
