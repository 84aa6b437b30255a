/-
  HelpDiffs: two lenders.
-/
import Derived.Test.YtbegamjbnidkbaaHelpD
import Derived.Test.YtbegamjbnidkbaaLend
import Derived.Test.YtbegamjbnidkbaaHelpRefD
import Derived.Test.YtbegamjbnidkbaaHelpBulk
import Derived.OpenShut
import Derived.JoinedCond
namespace Go.Proofs.Ytbegamjbnidkbaa.helpDiffs
open Go.ChangeShapes Go.WideShapes Go.ChangeAt Go.RowKit
set_option linter.unusedVariables false

theorem size_alloc (w : World) (o : Obj) : (w.alloc o).heap.size = w.heap.size + 1 := by
  first | exact Array.size_push .. | simp [World.alloc]

set_option maxRecDepth 100000 in
set_option maxHeartbeats 6400000 in
theorem walk (bv : Value) (xs : List Int) (hl : xs.length ≤ 1048576) (bv2 : Value) (xs2 : List Int) (hl2 : xs2.length ≤ 1048576) (w : World) (h : Held w bv xs) (h2 : Held w bv2 xs2) :
    Calls Try.prog 6 #[bv, bv2] w fun e w' => e = .returned (.bool true) ∧ Below w.heap.size w w' := by
  have HH := Lib.hid h
  have HH2 := Lib.hid h2
  obtain ⟨V, hV⟩ : ∃ V, cmpv xs xs2 = V := ⟨_, rfl⟩
  obtain ⟨k, hk⟩ : ∃ k, xs.length = k := ⟨_, rfl⟩
  obtain ⟨k2, hk2⟩ : ∃ k, xs2.length = k := ⟨_, rfl⟩
  obtain ⟨ys, hys⟩ : ∃ ys, flist k (given xs k) = ys := ⟨_, rfl⟩
  obtain ⟨ys2, hys2⟩ : ∃ ys, flist k2 (given xs2 k2) = ys := ⟨_, rfl⟩
  have hyl : ys.length = k := by rw [← hys, flist_length]
  have hyl2 : ys2.length = k2 := by rw [← hys2, flist_length]
  have hyb : IsBytes ys := by rw [← hys]; exact flist_bytes _ _ (given_range h.bytes k)
  have hyb2 : IsBytes ys2 := by rw [← hys2]; exact flist_bytes _ _ (given_range h2.bytes k2)
  obtain ⟨V2, hV2⟩ : ∃ V2, cmpv ys ys2 = V2 := ⟨_, rfl⟩
  obtain ⟨L, hL⟩ : ∃ L, 4 * k + 200 = L := ⟨_, rfl⟩
  obtain ⟨L2, hL2⟩ : ∃ L, 4 * k2 + 200 = L := ⟨_, rfl⟩
  have hneq : (V != V) = false := by simp
  have heq : (V2 == V2) = true := by simp
  have HV := Lib.hid hV
  have HV2 := Lib.hid hV2
  have HK := Lib.hid hk
  have HL := Lib.hid hL
  have HY := Lib.hid hys
  have HYL := Lib.hid hyl
  have HYB := Lib.hid hyb
  have HLX := Lib.hid hl
  have HK2 := Lib.hid hk2
  have HL2 := Lib.hid hL2
  have HY2 := Lib.hid hys2
  have HYL2 := Lib.hid hyl2
  have HYB2 := Lib.hid hyb2
  have HLX2 := Lib.hid hl2
  clear hV hV2 hk hL hys hyl hyb hl h hk2 hL2 hys2 hyl2 hyb2 hl2 h2
  go_enter Try.func6, Try.ntmps6
  go_wp2_with fail
  refine (known_any _).mono ?_
  rintro e w1 ⟨rfl, hB⟩
  have hs := hB.size
  go_wp2_with fail
  have hBa := hB.alloc hs (.cells #[.slice none 0 0] 40)
  have hRa := row_new w1 [.slice none 0 0] 40
  have hsa := hBa.size
  have hRb := row_new (w1.alloc (.cells #[.slice none 0 0] 40)) [.slice none 0 0] 40
  have hBb := hBa.alloc hsa (.cells #[.slice none 0 0] 40)
  have hRab := hRa.alloc (.cells #[.slice none 0 0] 40)
  refine (lend_new w1.heap.size bv xs HLX.out _ (HH.out.below hBb (Nat.le_refl _)) hRab).mono ?_
  rintro e w2 ⟨rfl, hR2, hU2, hO2, hB2⟩
  have hBw := hBb.trans (hB2.mono hs)
  obtain ⟨hb, hhb⟩ : ∃ hb, w1.heap.size = hb := ⟨_, rfl⟩
  obtain ⟨hc, hhc⟩ : ∃ hc, (w1.alloc (.cells #[.slice none 0 0] 40)).heap.size = hc := ⟨_, rfl⟩
  obtain ⟨rb, hrb⟩ : ∃ rb, ((w1.alloc (.cells #[.slice none 0 0] 40)).alloc (.cells #[.slice none 0 0] 40)).heap.size = rb := ⟨_, rfl⟩
  have hlt : hb < hc := by rw [← hhb, ← hhc]; exact hRa.lt
  have hlt2 : hc < rb := by rw [← hhc, ← hrb]; exact hRb.lt
  have hsb : w.heap.size ≤ hb := by rw [← hhb]; exact hs
  have hRc : Row w2 hc 40 [.slice none 0 0] := by
    rw [← hhc]
    exact (hO2 _ hRb.lt (by rw [hhc, hhb]; omega)).trans hRb
  rw [hrb, hhb] at hR2
  rw [hrb] at hU2
  have hh : hb + 1 = hc := by rw [← hhb, ← hhc]; exact (size_alloc _ _).symm
  rw [hhb, hrb, hh]
  clear hh
  rw [HK.out] at hR2 hU2 ⊢
  rw [HL.out] at hR2 hU2 ⊢
  have hX2 := HH.out.below hBw (Nat.le_refl _)
  have hZ2 := HH2.out.below hBw (Nat.le_refl _)
  have HR2 := Lib.hid hR2
  have HU2 := Lib.hid hU2
  have HRC := Lib.hid hRc
  have HX2 := Lib.hid hX2
  have HZ2 := Lib.hid hZ2
  have HBW := Lib.hid hBw
  have HLT := Lib.hid hlt
  have HLT2 := Lib.hid hlt2
  have HSB := Lib.hid hsb
  clear hR2 hU2 hX2 hZ2 hRc hBw hlt hlt2 hsb hB2 hRa hBa hB hs hhb hrb hhc hsa hRb hBb hRab hO2
  go_wp2_with fail
  refine (lend_new hc bv2 xs2 HLX2.out _ HZ2.out HRC.out).mono ?_
  rintro e w3 ⟨rfl, hR3, hU3, hO3, hB3⟩
  have hrl := HU2.out.lt
  obtain ⟨rc, hrc⟩ : ∃ rc, w2.heap.size = rc := ⟨_, rfl⟩
  rw [hrc] at hR3 hU3 hO3 hrl ⊢
  rw [HK2.out] at hR3 hU3 ⊢
  rw [HL2.out] at hR3 hU3 ⊢
  have hBw := HBW.out.trans (hB3.mono (by have := HSB.out; have := HLT.out; omega))
  have hRb3 : Row w3 hb 40 [.slice (some ⟨rb, 0, none⟩) L L] := (hO3 _ (by have := HLT.out; have := HLT2.out; omega) (by have := HLT.out; omega)).trans HR2.out
  have hUb3 : Row w3 rb 5 (utab L (lent xs (k + 70))) := (hO3 _ hrl (by have := HLT2.out; omega)).trans HU2.out
  have hX3 := HH.out.below hBw (Nat.le_refl _)
  have hZ3 := HH2.out.below hBw (Nat.le_refl _)
  have hmax : L ≤ maxLen := by have := HL.out; have := HLX.out; have := HK.out; unfold maxLen; omega
  have hkL : k ≤ L := by have := HL.out; omega
  have hmax2 : L2 ≤ maxLen := by have := HL2.out; have := HLX2.out; have := HK2.out; unfold maxLen; omega
  have hkL2 : k2 ≤ L2 := by have := HL2.out; omega
  have hI3 := held_flist hUb3 (lent_range HH.out.bytes (k + 70)) hkL hmax
  have hfl := flist_lent xs (k + 70)
  rw [HK.out] at hfl
  rw [hfl] at hI3
  have hJ3 := held_flist hU3 (lent_range HH2.out.bytes (k2 + 70)) hkL2 hmax2
  have hfl2 := flist_lent xs2 (k2 + 70)
  rw [HK2.out] at hfl2
  rw [hfl2] at hJ3
  have HR3 := Lib.hid hR3
  have HU3 := Lib.hid hU3
  have HRB3 := Lib.hid hRb3
  have HUB3 := Lib.hid hUb3
  have HX3 := Lib.hid hX3
  have HZ3 := Lib.hid hZ3
  have HI3 := Lib.hid hI3
  have HJ3 := Lib.hid hJ3
  have HBW3 := Lib.hid hBw
  have HMX := Lib.hid hmax
  have HKL := Lib.hid hkL
  have HMX2 := Lib.hid hmax2
  have HKL2 := Lib.hid hkL2
  have HRL := Lib.hid hrl
  clear hR3 hU3 hRb3 hUb3 hX3 hZ3 hI3 hJ3 hBw hmax hkL hmax2 hkL2 hfl hfl2 hB3 hO3 hrl hrc
  go_wp2_with fail
  refine (diff_of _ _ _ _ _ HI3.out HJ3.out).mono ?_
  rintro e w' ⟨rfl, rfl⟩
  rw [HV.out]
  go_wp2_with fail
  refine (refdiff_of _ _ _ _ (by have := HLX.out; omega) (by have := HLX2.out; omega) _ HX3.out HZ3.out).mono ?_
  rintro e w' ⟨rfl, rfl⟩
  rw [HV.out]
  go_wp2_with fail
  refine (back_of hb rb L bv xs HLX.out (by have := HL.out; have := HK.out; omega) (by have := HL.out; have := HLX.out; have := HK.out; omega) (by have := HLT.out; have := HLT2.out; omega) _ HX3.out HRB3.out (by rw [HK.out]; exact HUB3.out)).mono ?_
  rintro e w4 ⟨rfl, _, hU4, hO4, hB4⟩
  rw [HK.out] at hU4
  have hR4 : Row w4 hc 40 [.slice (some ⟨rc, 0, none⟩) L2 L2] := (hO4 _ (by have := HLT2.out; omega)).trans HR3.out
  have hUc4 : Row w4 rc 5 (utab L2 (lent xs2 (k2 + 70))) := (hO4 _ (by have := HRL.out; omega)).trans HU3.out
  have hBw4 := HBW3.out.trans (hB4 w.heap.size (by have := HSB.out; have := HLT.out; have := HLT2.out; omega))
  have hZ4 := HH2.out.below hBw4 (Nat.le_refl _)
  have HU4 := Lib.hid hU4
  have HR4 := Lib.hid hR4
  have HUC4 := Lib.hid hUc4
  have HBW4 := Lib.hid hBw4
  have HZ4 := Lib.hid hZ4
  clear hU4 hR4 hUc4 hBw4 hZ4 hO4 hB4
  go_wp2_with fail
  refine (back_of hc rc L2 bv2 xs2 HLX2.out (by have := HL2.out; have := HK2.out; omega) (by have := HL2.out; have := HLX2.out; have := HK2.out; omega) (by have := HLT2.out; have := HRL.out; omega) _ HZ4.out HR4.out (by rw [HK2.out]; exact HUC4.out)).mono ?_
  rintro e w5 ⟨rfl, _, hU5, hO5, hB5⟩
  rw [HK2.out] at hU5
  have hUb5 : Row w5 rb 5 (utab L (given xs k)) := (hO5 _ (by have := HRL.out; omega)).trans HU4.out
  have hI5 := held_flist hUb5 (given_range HH.out.bytes k) HKL.out HMX.out
  have hJ5 := held_flist hU5 (given_range HH2.out.bytes k2) HKL2.out HMX2.out
  rw [HY.out] at hI5
  rw [HY2.out] at hJ5
  have hBw5 := HBW4.out.trans (hB5 w.heap.size (by have := HSB.out; have := HLT.out; have := HLT2.out; have := HRL.out; omega))
  have HI5 := Lib.hid hI5
  have HJ5 := Lib.hid hJ5
  have HBW5 := Lib.hid hBw5
  clear hU5 hO5 hB5 hUb5 hI5 hJ5 hBw5
  go_wp2_with fail
  refine (diff_of _ _ _ _ _ HI5.out HJ5.out).mono ?_
  rintro e w' ⟨rfl, rfl⟩
  rw [HV2.out]
  go_wp2_with fail
  refine (copy_of _ _ _ HI5.out (by have := HYL.out; have := HLX.out; have := HK.out; omega)).mono ?_
  rintro e w6 ⟨v', rfl, hown, hB6⟩
  have hC := held_of_own hown HYB.out rfl
  have hBw6 := HBW5.out.trans (hB6.mono HBW5.out.size)
  have hI6 := HI5.out.below hB6 (Nat.le_refl _)
  have hJ6 := HJ5.out.below hB6 (Nat.le_refl _)
  have HC6 := Lib.hid hC
  have HBW6 := Lib.hid hBw6
  have HI6 := Lib.hid hI6
  have HJ6 := Lib.hid hJ6
  clear hown hB6 hC hBw6 hI6 hJ6
  go_wp2_with fail
  refine (copy_of _ _ _ HJ6.out (by have := HYL2.out; have := HLX2.out; have := HK2.out; omega)).mono ?_
  rintro e w7 ⟨v2', rfl, hown, hB7⟩
  have hC := held_of_own hown HYB2.out rfl
  have hBw7 := HBW6.out.trans (hB7.mono HBW6.out.size)
  have hI7 := HI6.out.below hB7 (Nat.le_refl _)
  have hC7 := HC6.out.below hB7 (Nat.le_refl _)
  have HD7 := Lib.hid hC
  have HBW7 := Lib.hid hBw7
  have HI7 := Lib.hid hI7
  have HC7 := Lib.hid hC7
  clear hown hB7 hC hBw7 hI7 hC7
  go_wp2_with fail
  refine (refdiff_of _ _ _ _ (by have := HYL.out; have := HLX.out; have := HK.out; omega) (by have := HYL2.out; have := HLX2.out; have := HK2.out; omega) _ HC7.out HD7.out).mono ?_
  rintro e w' ⟨rfl, rfl⟩
  rw [HV2.out]
  go_wp2_with fail
  refine (diff_of _ _ _ _ _ HI7.out HI7.out).mono ?_
  rintro e w' ⟨rfl, rfl⟩
  rw [cmpv_self]
  go_wp2
  go_ret
  exact ⟨rfl, HBW7.out⟩


theorem own : ownKnob Try.prog.godebug = none := by kernel_rfl
set_option maxRecDepth 100000 in
theorem contract (H : Type) (enc : TypeId × Value → H) (W : World) (base : Nat) (args : Array Value) (ds gs : List (DataW H)) (before : List MemPlace)
    (hval : ∀ (j : Nat) t v, Try.f6.params[j]? = some t → args[j]? = some v → Value.okWide Try.prog W .any base t v)
    (hW : DataW.Whole enc Try.prog Try.f6.params.toList Rows.helpDiffsSpec.vars false W args.toList ds gs before) (hk : Rows.uptoSmall H (ds ++ gs) = true) :
    Calls Try.prog 6 args W fun e W' => ∃ v, e = .returned v ∧ Rows.helpDiffsSpec.post enc Try.prog Try.f6 false true false false W args v W' := by
  have hW' := hW
  obtain ⟨p, q, hA0, hV, rfl, hfz, hnd⟩ := hW
  have hA : DataW.TrodAll enc Try.prog W 0 (fun _ => true) true Try.f6.params.toList args.toList ds p := hA0
  rw [Try.params6] at hA hval
  obtain ⟨v0, vs0, d0, ds0, p0, q0, hargs, rfl, rfl, h0, r0⟩ := trodAll_cons hA
  obtain ⟨v1, vs1, d1, ds1, p1, q1, rfl, rfl, rfl, h1, r1⟩ := trodAll_cons r0
  obtain ⟨rfl, rfl, rfl⟩ := trodAll_nil r1
  obtain rfl : args = #[v0, v1] := by cases args; exact congrArg Array.mk hargs
  obtain ⟨xs0, hX0, hd0⟩ := bytes_arg (hval 0 37 v0 rfl rfl) h0
  have hl0 : xs0.length ≤ 1048576 := by
    rcases hd0 with rfl | ⟨spare, rfl⟩
    · simp
    · have h := bulks.short hk (elems := lits .u8 xs0) (spare := lits .u8 spare) (by simp)
      simpa [lits] using h
  obtain ⟨xs1, hX1, hd1⟩ := bytes_arg (hval 1 37 v1 rfl rfl) h1
  have hl1 : xs1.length ≤ 1048576 := by
    rcases hd1 with rfl | ⟨spare, rfl⟩
    · simp
    · have h := bulks.short hk (elems := lits .u8 xs1) (spare := lits .u8 spare) (by simp)
      simpa [lits] using h
  refine (walk v0 xs0 hl0 v1 xs1 hl1 W hX0 hX1).mono fun e W' ⟨he, hb⟩ => ?_
  subst he
  exact ⟨_, rfl, law_post (tb := 4) (by kernel_rfl) (by kernel_rfl) rfl Try.underlying4 rfl (fun h => by subst h; rfl) hW' hb⟩

set_option maxRecDepth 100000 in
theorem lifted (os : Os) (started : os.Started) (H : Type) (enc : TypeId × Value → H) (F : Stop.Interp) :
    ReturnsInHanded {} Try.checked os 6 .any ((Rows.OpenSpec.upto Rows.helpDiffsSpec).pre6 enc Try.prog Try.f6 Rows.helpDiffsUptoRow.domain false) (((Rows.OpenSpec.upto Rows.helpDiffsSpec).at F).post enc Try.prog Try.f6 false true false false) := by
  refine returnsInHanded_of_cond (C := Try.checked) (s := Rows.OpenSpec.upto Rows.helpDiffsSpec) (k := Rows.uptoSmall) rfl own started (by kernel_rfl) Try.func6
    (OpenSpec.witness (enc := enc) (C := Try.checked) (s := Rows.OpenSpec.upto Rows.helpDiffsSpec) (k := Rows.uptoSmall) rfl false ⟨#[], #[.slice none 0 0, .slice none 0 0], []⟩ 8 (by kernel_rfl) (by kernel_rfl) (by kernel_rfl)
      (x := ([.nil, .nil], [], [])) (by kernel_rfl) rfl (by kernel_rfl)) ?_
  intro W base args ds gs before hval hW _ hk _
  exact contract H enc W base args ds gs before hval hW hk

theorem proved : Rows.HelpDiffsUptoSaid :=
  OpenClaim.holds_of_cond 6 Try.f6 rfl rfl rfl rfl rfl rfl rfl ⟨rfl, rfl, rfl, rfl, rfl⟩ rfl rfl rfl rfl rfl (by kernel_rfl) Try.func6 (by kernel_rfl)
    (of_decide_eq_true (by kernel_rfl)) (by unfold Func.isWrapper; first | (rw [if_pos (by decide +kernel)]; kernel_rfl) | (rw [if_neg (by decide +kernel)]; exact ⟨rfl, rfl⟩))
    (fun os started H enc _ F => lifted os started H enc F)
#print axioms proved

end Go.Proofs.Ytbegamjbnidkbaa.helpDiffs
