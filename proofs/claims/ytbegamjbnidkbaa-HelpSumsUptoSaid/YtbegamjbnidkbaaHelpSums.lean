/-
  HelpSums: the helper on lent bytes, and the lender's own word.
-/
import Derived.Test.YtbegamjbnidkbaaHelpD
import Derived.Test.YtbegamjbnidkbaaLend
import Derived.Test.YtbegamjbnidkbaaHelpRef
import Derived.Test.YtbegamjbnidkbaaHelpBulk
import Derived.OpenShut
import Derived.JoinedCond
namespace Go.Proofs.Ytbegamjbnidkbaa.helpSums
open Go.ChangeShapes Go.WideShapes Go.ChangeAt Go.RowKit
set_option linter.unusedVariables false

set_option maxRecDepth 100000 in
set_option maxHeartbeats 3200000 in
theorem walk (bv : Value) (xs : List Int) (hl : xs.length ≤ 1048576) (c : Int) (rc : -9223372036854775808 ≤ c ∧ c ≤ 9223372036854775807) (w : World) (h : Held w bv xs) :
    Calls Try.prog 5 #[bv, .int .i64 c] w fun e w' => e = .returned (.bool true) ∧ Below w.heap.size w w' := by
  clear rc
  have HH := Lib.hid h
  obtain ⟨V, hV⟩ : ∃ V, sumv xs c = V := ⟨_, rfl⟩
  obtain ⟨k, hk⟩ : ∃ k, xs.length = k := ⟨_, rfl⟩
  obtain ⟨ys, hys⟩ : ∃ ys, flist k (given xs k) = ys := ⟨_, rfl⟩
  have hyl : ys.length = k := by rw [← hys, flist_length]
  have hyb : IsBytes ys := by rw [← hys]; exact flist_bytes _ _ (given_range h.bytes k)
  obtain ⟨V2, hV2⟩ : ∃ V2, sumv ys c = V2 := ⟨_, rfl⟩
  obtain ⟨L, hL⟩ : ∃ L, 4 * k + 200 = L := ⟨_, rfl⟩
  have hneq : (V != V) = false := by simp
  have heq : (V2 == V2) = true := by simp
  have HV := Lib.hid hV
  have HV2 := Lib.hid hV2
  have HK := Lib.hid hk
  have HL := Lib.hid hL
  have HY := Lib.hid hys
  have HYL := Lib.hid hyl
  have HYB := Lib.hid hyb
  have HLX := Lib.hid hl
  clear hV hV2 hk hL hys hyl hyb hl h
  go_enter Try.func5, Try.ntmps5
  go_wp2_with fail
  refine (known_any _).mono ?_
  rintro e w1 ⟨rfl, hB⟩
  have hs := hB.size
  go_wp2_with fail
  have hBa := hB.alloc hs (.cells #[.slice none 0 0] 40)
  have hRa := row_new w1 [.slice none 0 0] 40
  refine (lend_new w1.heap.size bv xs HLX.out _ (HH.out.below hBa (Nat.le_refl _)) hRa).mono ?_
  rintro e w2 ⟨rfl, hR2, hU2, _, hB2⟩
  have hBw := hBa.trans (hB2.mono hs)
  obtain ⟨hb, hhb⟩ : ∃ hb, w1.heap.size = hb := ⟨_, rfl⟩
  obtain ⟨rb, hrb⟩ : ∃ rb, (w1.alloc (.cells #[.slice none 0 0] 40)).heap.size = rb := ⟨_, rfl⟩
  have hlt : hb < rb := by rw [← hhb, ← hrb]; exact hRa.lt
  have hsb : w.heap.size ≤ hb := by rw [← hhb]; exact hs
  rw [hrb, hhb] at hR2
  rw [hrb] at hU2
  rw [hhb, hrb]
  rw [HK.out] at hR2 hU2 ⊢
  rw [HL.out] at hR2 hU2 ⊢
  have hX2 := HH.out.below hBw (Nat.le_refl _)
  have hmax : L ≤ maxLen := by have := HL.out; have := HLX.out; have := HK.out; unfold maxLen; omega
  have hkL : k ≤ L := by have := HL.out; omega
  have hI2 := held_flist hU2 (lent_range HH.out.bytes (k + 70)) hkL hmax
  have hfl := flist_lent xs (k + 70)
  rw [HK.out] at hfl
  rw [hfl] at hI2
  have HR2 := Lib.hid hR2
  have HU2 := Lib.hid hU2
  have HX2 := Lib.hid hX2
  have HI2 := Lib.hid hI2
  have HBW := Lib.hid hBw
  have HLT := Lib.hid hlt
  have HSB := Lib.hid hsb
  have HMX := Lib.hid hmax
  have HKL := Lib.hid hkL
  clear hR2 hU2 hX2 hI2 hBw hlt hsb hmax hkL hfl hB2 hRa hBa hB hs hhb hrb
  go_wp2_with fail
  refine (sum_of _ _ (by have := HYL.out; have := HLX.out; have := HK.out; omega) _ _ HI2.out).mono ?_
  rintro e w' ⟨rfl, rfl⟩
  rw [HV.out]
  go_wp2_with fail
  refine (refsum_of _ _ (by have := HYL.out; have := HLX.out; have := HK.out; omega) _ _ HX2.out).mono ?_
  rintro e w' ⟨rfl, rfl⟩
  rw [HV.out]
  go_wp2_with fail
  refine (back_of hb rb L bv xs HLX.out (by have := HL.out; have := HK.out; omega) (by have := HL.out; have := HLX.out; have := HK.out; omega) (by have := HLT.out; omega) _ HX2.out HR2.out (by rw [HK.out]; exact HU2.out)).mono ?_
  rintro e w3 ⟨rfl, _, hU3, _, hB3⟩
  rw [HK.out] at hU3
  have hI3 := held_flist hU3 (given_range HH.out.bytes k) HKL.out HMX.out
  rw [HY.out] at hI3
  have hB3' := HBW.out.trans (hB3 w.heap.size (by have := HSB.out; have := HLT.out; omega))
  have HI3 := Lib.hid hI3
  have HB3 := Lib.hid hB3'
  clear hU3 hI3 hB3 hB3'
  go_wp2_with fail
  refine (sum_of _ _ (by have := HYL.out; have := HLX.out; have := HK.out; omega) _ _ HI3.out).mono ?_
  rintro e w' ⟨rfl, rfl⟩
  rw [HV2.out]
  go_wp2_with fail
  refine (copy_of _ _ _ HI3.out (by have := HYL.out; have := HLX.out; have := HK.out; omega)).mono ?_
  rintro e w4 ⟨v', rfl, hown, hB4⟩
  have hC := held_of_own hown HYB.out rfl
  have hB4' := HB3.out.trans (hB4.mono HB3.out.size)
  have HC4 := Lib.hid hC
  have HB4 := Lib.hid hB4'
  clear hown hB4 hC hB4'
  go_wp2_with fail
  refine (refsum_of _ _ (by have := HYL.out; have := HLX.out; have := HK.out; omega) _ _ HC4.out).mono ?_
  rintro e w' ⟨rfl, rfl⟩
  rw [HV2.out]
  go_wp2
  go_ret
  exact ⟨rfl, HB4.out⟩


theorem own : ownKnob Try.prog.godebug = none := by kernel_rfl
set_option maxRecDepth 100000 in
theorem contract (H : Type) (enc : TypeId × Value → H) (W : World) (base : Nat) (args : Array Value) (ds gs : List (DataW H)) (before : List MemPlace)
    (hval : ∀ (j : Nat) t v, Try.f5.params[j]? = some t → args[j]? = some v → Value.okWide Try.prog W .any base t v)
    (hW : DataW.Whole enc Try.prog Try.f5.params.toList Rows.helpSumsSpec.vars false W args.toList ds gs before) (hk : Rows.uptoSmall H (ds ++ gs) = true) :
    Calls Try.prog 5 args W fun e W' => ∃ v, e = .returned v ∧ Rows.helpSumsSpec.post enc Try.prog Try.f5 false true false false W args v W' := by
  have hW' := hW
  obtain ⟨p, q, hA0, hV, rfl, hfz, hnd⟩ := hW
  have hA : DataW.TrodAll enc Try.prog W 0 (fun _ => true) true Try.f5.params.toList args.toList ds p := hA0
  rw [Try.params5] at hA hval
  obtain ⟨v0, vs0, d0, ds0, p0, q0, hargs, rfl, rfl, h0, r0⟩ := trodAll_cons hA
  obtain ⟨v1, vs1, d1, ds1, p1, q1, rfl, rfl, rfl, h1, r1⟩ := trodAll_cons r0
  obtain ⟨rfl, rfl, rfl⟩ := trodAll_nil r1
  obtain rfl : args = #[v0, v1] := by cases args; exact congrArg Array.mk hargs
  obtain ⟨xs0, hX0, hd0⟩ := bytes_arg (hval 0 37 v0 rfl rfl) h0
  have hl0 : xs0.length ≤ 1048576 := by
    rcases hd0 with rfl | ⟨spare, rfl⟩
    · simp
    · have h := bulks.short hk (elems := lits .u8 xs0) (spare := lits .u8 spare) (by simp)
      simpa [lits] using h
  obtain ⟨a1, rfl, rfl, rfl, w1⟩ := open_int Try.underlying3 (hval 1 3 v1 rfl rfl) h1
  refine (walk v0 xs0 hl0 a1 (range_i64 w1) W hX0).mono fun e W' ⟨he, hb⟩ => ?_
  subst he
  exact ⟨_, rfl, law_post (tb := 4) (by kernel_rfl) (by kernel_rfl) rfl Try.underlying4 rfl (fun h => by subst h; rfl) hW' hb⟩

set_option maxRecDepth 100000 in
theorem lifted (os : Os) (started : os.Started) (H : Type) (enc : TypeId × Value → H) (F : Stop.Interp) :
    ReturnsInHanded {} Try.checked os 5 .any ((Rows.OpenSpec.upto Rows.helpSumsSpec).pre6 enc Try.prog Try.f5 Rows.helpSumsUptoRow.domain false) (((Rows.OpenSpec.upto Rows.helpSumsSpec).at F).post enc Try.prog Try.f5 false true false false) := by
  refine returnsInHanded_of_cond (C := Try.checked) (s := Rows.OpenSpec.upto Rows.helpSumsSpec) (k := Rows.uptoSmall) rfl own started (by kernel_rfl) Try.func5
    (OpenSpec.witness (enc := enc) (C := Try.checked) (s := Rows.OpenSpec.upto Rows.helpSumsSpec) (k := Rows.uptoSmall) rfl false ⟨#[], #[.slice none 0 0, .int .i64 0], []⟩ 8 (by kernel_rfl) (by kernel_rfl) (by kernel_rfl)
      (x := ([.nil, .lit (.int .i64 0)], [], [])) (by kernel_rfl) rfl (by kernel_rfl)) ?_
  intro W base args ds gs before hval hW _ hk _
  exact contract H enc W base args ds gs before hval hW hk

theorem proved : Rows.HelpSumsUptoSaid :=
  OpenClaim.holds_of_cond 5 Try.f5 rfl rfl rfl rfl rfl rfl rfl ⟨rfl, rfl, rfl, rfl, rfl⟩ rfl rfl rfl rfl rfl (by kernel_rfl) Try.func5 (by kernel_rfl)
    (of_decide_eq_true (by kernel_rfl)) (by unfold Func.isWrapper; first | (rw [if_pos (by decide +kernel)]; kernel_rfl) | (rw [if_neg (by decide +kernel)]; exact ⟨rfl, rfl⟩))
    (fun os started H enc _ F => lifted os started H enc F)
#print axioms proved

end Go.Proofs.Ytbegamjbnidkbaa.helpSums
