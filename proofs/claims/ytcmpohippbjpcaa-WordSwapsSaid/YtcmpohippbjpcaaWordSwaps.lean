/-
  WordSwaps: every Swap is the reference's; no condition.
-/
import Derived.Test.YtcmpohippbjpcaaSwapC
import Derived.OpenShut
namespace Go.Proofs.Ytcmpohippbjpcaa.wordSwaps
open Go.ChangeShapes Go.WideShapes Go.ChangeAt Go.RowKit
set_option linter.unusedVariables false

set_option maxHeartbeats 1600000 in
theorem walk (size : Int) (rs : -9223372036854775808 ≤ size ∧ size ≤ 9223372036854775807) (a : Int) (ra : -9223372036854775808 ≤ a ∧ a ≤ 9223372036854775807) (w : World) :
    Calls Try.prog 7 #[.int .i64 size, .int .i64 a] w fun e w' => e = .returned (.bool true) ∧ Below w.heap.size w w' := by
  go_enter Try.func7, Try.ntmps7
  go_wp2
  go_loopw [5] (fun s wr => ∃ k : Int, 0 ≤ k ∧ k ≤ 66 ∧ s = .int .i64 k ∧ Below w.heap.size w wr) (fun s _ => (66 - intOf s).toNat)
  case atStart => exact ⟨0, by decide, by decide, rfl, Below.refl _ _⟩
  case round =>
    obtain ⟨k, hk1, hk2, rfl, hB⟩ := hrel
    have hs := hB.size
    by_cases hlt : k ≤ 65
    · obtain ⟨v, hv, hv'⟩ := swap_both k false a ra
      obtain ⟨u, hu, hu'⟩ := swap_both k true a ra
      have HV := Lib.hid hv
      have HV' := Lib.hid hv'
      have HU := Lib.hid hu
      have HU' := Lib.hid hu'
      clear hv hv' hu hu'
      go_wp2_with fail
      refine (HV.out _).mono ?_
      rintro e w1 ⟨rfl, h1⟩
      have hB := hB.trans (h1.mono hs)
      have hs := hB.size
      clear h1
      go_wp2_with fail
      refine (HV'.out _).mono ?_
      rintro e w2 ⟨rfl, h1⟩
      have hB := hB.trans (h1.mono hs)
      have hs := hB.size
      clear h1
      go_wp2_with fail
      refine (HU.out _).mono ?_
      rintro e w3 ⟨rfl, h1⟩
      have hB := hB.trans (h1.mono hs)
      have hs := hB.size
      clear h1
      go_wp2_with fail
      refine (HU'.out _).mono ?_
      rintro e w4 ⟨rfl, h1⟩
      have hB := hB.trans (h1.mono hs)
      clear h1 hs
      go_wp2
      go_roundw
      case rel => exact ⟨k + 1, by omega, by omega, rfl, hB⟩
      case measure => simp [intOf]; omega
    · obtain ⟨v, hv, hv'⟩ := swap_both size true a ra
      have HV := Lib.hid hv
      have HV' := Lib.hid hv'
      clear hv hv'
      go_wp2_with fail
      refine (HV.out _).mono ?_
      rintro e w1 ⟨rfl, h1⟩
      have hB := hB.trans (h1.mono hs)
      have hs := hB.size
      clear h1
      go_wp2_with fail
      refine (HV'.out _).mono ?_
      rintro e w2 ⟨rfl, h1⟩
      have hB := hB.trans (h1.mono hs)
      have hs := hB.size
      clear h1
      have he : wrap64 ((swp 2 true 258 : Nat) : Int) = 513 := by decide +kernel
      go_wp2_with fail
      refine (swap16_true 258 (by decide) _).mono ?_
      rintro e w3 ⟨rfl, rfl⟩
      rw [he]
      go_wp2
      go_ret
      exact ⟨rfl, hB⟩

theorem own : ownKnob Try.prog.godebug = none := by kernel_rfl
set_option maxRecDepth 100000 in
theorem lifted (os : Os) (started : os.Started) (H : Type) (enc : TypeId × Value → H) :
    ReturnsInHanded {} Try.checked os 7 .any (Rows.wordSwapsSpec.pre6 enc Try.prog Try.f7 Rows.wordSwapsRow.domain false) (Rows.wordSwapsSpec.post enc Try.prog Try.f7 false true false false) := by
  refine returnsInHanded_of_change (C := Try.checked) own started (by kernel_rfl) Try.func7
    (ChangeSpec.witness6 (enc := enc) (C := Try.checked) false ⟨#[], #[.int .i64 0, .int .i64 0], []⟩ 8 (by kernel_rfl) (by kernel_rfl) (by kernel_rfl) (by kernel_rfl)) ?_
  intro W base args ds gs before hval0 hW hcnd _
  have hval : ∀ (j : Nat) t v, Try.f7.params[j]? = some t → args[j]? = some v → Value.okWide Try.prog W .any base t v := hval0
  have hW' := hW
  obtain ⟨p, q, hA0, hV, rfl, hfz, hnd⟩ := hW
  have hA : DataW.TrodAll enc Try.prog W 0 (fun _ => true) true Try.f7.params.toList args.toList ds p := hA0
  rw [Try.params7] at hA hval
  obtain ⟨v0, vs0, d0, ds0, p0, q0, hargs, rfl, rfl, h0, r0⟩ := trodAll_cons hA
  obtain ⟨v1, vs1, d1, ds1, p1, q1, rfl, rfl, rfl, h1, r1⟩ := trodAll_cons r0
  obtain ⟨rfl, rfl, rfl⟩ := trodAll_nil r1
  obtain rfl : args = #[v0, v1] := by cases args; simp_all
  obtain ⟨a0, rfl, rfl, rfl, w0⟩ := open_int Try.underlying3 (hval 0 3 v0 rfl rfl) h0
  obtain ⟨a1, rfl, rfl, rfl, w1⟩ := open_int Try.underlying3 (hval 1 3 v1 rfl rfl) h1
  refine (walk a0 (range_i64 w0) a1 (range_i64 w1) W).mono fun e W' ⟨he, hb⟩ => ?_
  subst he
  exact ⟨_, rfl, law_post (tb := 4) (by kernel_rfl) (by kernel_rfl) rfl Try.underlying4 rfl (fun h => by subst h; rfl) hW' hb⟩

theorem proved : Rows.WordSwapsSaid :=
  OpenClaim.holds_of_wide 7 Try.f7 rfl rfl rfl rfl rfl rfl rfl ⟨rfl, rfl, rfl, rfl, rfl⟩ rfl rfl rfl rfl rfl (by kernel_rfl) Try.func7 (by kernel_rfl)
    (of_decide_eq_true (by kernel_rfl)) (by unfold Func.isWrapper; first | (rw [if_pos (by decide +kernel)]; kernel_rfl) | (rw [if_neg (by decide +kernel)]; exact ⟨rfl, rfl⟩))
    (fun os started H enc _ => lifted os started H enc)
#print axioms proved

end Go.Proofs.Ytcmpohippbjpcaa.wordSwaps
