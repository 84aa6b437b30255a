/-
  HelpMixes: every Mix is the document's; no condition.
-/
import Derived.Test.YtbegamjbnidkbaaHelpD
import Derived.Test.YtbegamjbnidkbaaMixA
import Derived.OpenShut
namespace Go.Proofs.Ytbegamjbnidkbaa.helpMixes
open Go.ChangeShapes Go.WideShapes Go.ChangeAt Go.RowKit
set_option linter.unusedVariables false

set_option maxRecDepth 100000 in
set_option maxHeartbeats 1600000 in
theorem walk (x : Int) (rx : -9223372036854775808 ≤ x ∧ x ≤ 9223372036854775807) (y : Int) (ry : -9223372036854775808 ≤ y ∧ y ≤ 9223372036854775807) (w : World) :
    Calls Try.prog 8 #[.int .i64 x, .int .i64 y] w fun e w' => e = .returned (.bool true) ∧ Below w.heap.size w w' := by
  clear rx ry
  obtain ⟨u, hu⟩ : ∃ u, u = wrap64 ((mixv (un x) (un y) : Nat) : Int) := ⟨_, rfl⟩
  obtain ⟨v, hv⟩ : ∃ v, v = wrap64 ((mixv (un y) (un x) : Nat) : Int) := ⟨_, rfl⟩
  have HU := Lib.hid hu
  have HV := Lib.hid hv
  have hu1 : (u == u) = true := by simp
  have hv1 : (v == v) = true := by simp
  clear hu hv
  go_enter Try.func8, Try.ntmps8
  go_wp2_with fail
  refine (known_any _).mono ?_
  rintro e w1 ⟨rfl, hB⟩
  go_wp2_with fail
  refine (mix_of x y _).mono ?_
  rintro e w2 ⟨rfl, rfl⟩
  rw [← HU.out]
  go_wp2_with fail
  refine (refmix_of x y _).mono ?_
  rintro e w2 ⟨rfl, rfl⟩
  rw [← HU.out]
  go_wp2_with fail
  refine (mix_of y x _).mono ?_
  rintro e w2 ⟨rfl, rfl⟩
  rw [← HV.out]
  go_wp2_with fail
  refine (refmix_of y x _).mono ?_
  rintro e w2 ⟨rfl, rfl⟩
  rw [← HV.out]
  go_wp2
  go_ret
  exact ⟨rfl, hB⟩


theorem own : ownKnob Try.prog.godebug = none := by kernel_rfl
set_option maxRecDepth 100000 in
theorem lifted (os : Os) (started : os.Started) (H : Type) (enc : TypeId × Value → H) :
    ReturnsInHanded {} Try.checked os 8 .any (Rows.helpMixesSpec.pre6 enc Try.prog Try.f8 Rows.helpMixesRow.domain false) (Rows.helpMixesSpec.post enc Try.prog Try.f8 false true false false) := by
  refine returnsInHanded_of_change (C := Try.checked) own started (by kernel_rfl) Try.func8
    (ChangeSpec.witness6 (enc := enc) (C := Try.checked) false ⟨#[], #[.int .i64 0, .int .i64 0], []⟩ 8 (by kernel_rfl) (by kernel_rfl) (by kernel_rfl) (by kernel_rfl)) ?_
  intro W base args ds gs before hval0 hW hcnd _
  have hval : ∀ (j : Nat) t v, Try.f8.params[j]? = some t → args[j]? = some v → Value.okWide Try.prog W .any base t v := hval0
  have hW' := hW
  obtain ⟨p, q, hA0, hV, rfl, hfz, hnd⟩ := hW
  have hA : DataW.TrodAll enc Try.prog W 0 (fun _ => true) true Try.f8.params.toList args.toList ds p := hA0
  rw [Try.params8] at hA hval
  obtain ⟨v0, vs0, d0, ds0, p0, q0, hargs, rfl, rfl, h0, r0⟩ := trodAll_cons hA
  obtain ⟨v1, vs1, d1, ds1, p1, q1, rfl, rfl, rfl, h1, r1⟩ := trodAll_cons r0
  obtain ⟨rfl, rfl, rfl⟩ := trodAll_nil r1
  obtain rfl : args = #[v0, v1] := by cases args; simp_all
  obtain ⟨a0, rfl, rfl, rfl, w0⟩ := open_int Try.underlying3 (hval 0 3 v0 rfl rfl) h0
  obtain ⟨a1, rfl, rfl, rfl, w1⟩ := open_int Try.underlying3 (hval 1 3 v1 rfl rfl) h1
  refine (walk a0 (range_i64 w0) a1 (range_i64 w1) W).mono fun e W' ⟨he, hb⟩ => ?_
  subst he
  exact ⟨_, rfl, law_post (tb := 4) (by kernel_rfl) (by kernel_rfl) rfl Try.underlying4 rfl (fun h => by subst h; rfl) hW' hb⟩

theorem proved : Rows.HelpMixesSaid :=
  OpenClaim.holds_of_wide 8 Try.f8 rfl rfl rfl rfl rfl rfl rfl ⟨rfl, rfl, rfl, rfl, rfl⟩ rfl rfl rfl rfl rfl (by kernel_rfl) Try.func8 (by kernel_rfl)
    (of_decide_eq_true (by kernel_rfl)) (by unfold Func.isWrapper; first | (rw [if_pos (by decide +kernel)]; kernel_rfl) | (rw [if_neg (by decide +kernel)]; exact ⟨rfl, rfl⟩))
    (fun os started H enc _ => lifted os started H enc)
#print axioms proved

end Go.Proofs.Ytbegamjbnidkbaa.helpMixes
