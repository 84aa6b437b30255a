/-
  HelpUnlike: unlike numbers, unlike Mix; no condition.
-/
import Derived.Test.YtbegamjbnidkbaaHelpD
import Derived.Test.YtbegamjbnidkbaaMixA
import Derived.OpenShut
namespace Go.Proofs.Ytbegamjbnidkbaa.helpUnlike
open Go.ChangeShapes Go.WideShapes Go.ChangeAt Go.RowKit
set_option linter.unusedVariables false

set_option maxRecDepth 100000 in
set_option maxHeartbeats 1600000 in
theorem walk (x : Int) (rx : -9223372036854775808 ≤ x ∧ x ≤ 9223372036854775807) (y : Int) (ry : -9223372036854775808 ≤ y ∧ y ≤ 9223372036854775807) (z : Int) (rz : -9223372036854775808 ≤ z ∧ z ≤ 9223372036854775807) (w : World) :
    Calls Try.prog 14 #[.int .i64 x, .int .i64 y, .int .i64 z] w fun e w' => e = .returned (.bool true) ∧ Below w.heap.size w w' := by
  by_cases hyz : y = z
  · subst hyz
    clear rx ry rz
    have hyy : (y == y) = true := by simp
    obtain ⟨u, hu⟩ : ∃ u, u = wrap64 ((mixv (un x) (un y) : Nat) : Int) := ⟨_, rfl⟩
    obtain ⟨v, hv⟩ : ∃ v, v = wrap64 ((mixv (un y) (un x) : Nat) : Int) := ⟨_, rfl⟩
    have HU := Lib.hid hu
    have HV := Lib.hid hv
    have hu1 : (u == u) = true := by simp
    have hv1 : (v == v) = true := by simp
    clear hu hv
    go_enter Try.func14, Try.ntmps14
    go_wp2_with fail
    refine (known_any _).mono ?_
    rintro e w1 ⟨rfl, hB⟩
    go_wp2_with fail
    refine (mix_of x y _).mono ?_
    rintro e w2 ⟨rfl, rfl⟩
    rw [← HU.out]
    go_wp2_with fail
    refine (mix_of x y _).mono ?_
    rintro e w2 ⟨rfl, rfl⟩
    rw [← HU.out]
    go_wp2_with fail
    refine (mix_of y x _).mono ?_
    rintro e w2 ⟨rfl, rfl⟩
    rw [← HV.out]
    go_wp2_with fail
    refine (mix_of y x _).mono ?_
    rintro e w2 ⟨rfl, rfl⟩
    rw [← HV.out]
    go_wp2
    go_ret
    exact ⟨rfl, hB⟩
  · obtain ⟨h1, h2⟩ := mix_unlike x y z ry rz hyz
    have hyy : (y == z) = false := by simpa using hyz
    clear rx ry rz hyz
    obtain ⟨u, hu⟩ : ∃ u, u = wrap64 ((mixv (un x) (un y) : Nat) : Int) := ⟨_, rfl⟩
    obtain ⟨v, hv⟩ : ∃ v, v = wrap64 ((mixv (un y) (un x) : Nat) : Int) := ⟨_, rfl⟩
    obtain ⟨p, hp⟩ : ∃ u, u = wrap64 ((mixv (un x) (un z) : Nat) : Int) := ⟨_, rfl⟩
    obtain ⟨q, hq⟩ : ∃ v, v = wrap64 ((mixv (un z) (un x) : Nat) : Int) := ⟨_, rfl⟩
    rw [← hu, ← hp] at h1
    rw [← hv, ← hq] at h2
    have HU := Lib.hid hu
    have HV := Lib.hid hv
    have HP := Lib.hid hp
    have HQ := Lib.hid hq
    have hu1 : (u != p) = true := by simpa using h1
    have hv1 : (v != q) = true := by simpa using h2
    clear hu hv hp hq h1 h2
    go_enter Try.func14, Try.ntmps14
    go_wp2_with fail
    refine (known_any _).mono ?_
    rintro e w1 ⟨rfl, hB⟩
    go_wp2_with fail
    refine (mix_of x y _).mono ?_
    rintro e w2 ⟨rfl, rfl⟩
    rw [← HU.out]
    go_wp2_with fail
    refine (mix_of x z _).mono ?_
    rintro e w2 ⟨rfl, rfl⟩
    rw [← HP.out]
    go_wp2_with fail
    refine (mix_of y x _).mono ?_
    rintro e w2 ⟨rfl, rfl⟩
    rw [← HV.out]
    go_wp2_with fail
    refine (mix_of z x _).mono ?_
    rintro e w2 ⟨rfl, rfl⟩
    rw [← HQ.out]
    go_wp2
    go_ret
    exact ⟨rfl, hB⟩


theorem own : ownKnob Try.prog.godebug = none := by kernel_rfl
set_option maxRecDepth 100000 in
theorem lifted (os : Os) (started : os.Started) (H : Type) (enc : TypeId × Value → H) :
    ReturnsInHanded {} Try.checked os 14 .any (Rows.helpUnlikeSpec.pre6 enc Try.prog Try.f14 Rows.helpUnlikeRow.domain false) (Rows.helpUnlikeSpec.post enc Try.prog Try.f14 false true false false) := by
  refine returnsInHanded_of_change (C := Try.checked) own started (by kernel_rfl) Try.func14
    (ChangeSpec.witness6 (enc := enc) (C := Try.checked) false ⟨#[], #[.int .i64 0, .int .i64 0, .int .i64 0], []⟩ 8 (by kernel_rfl) (by kernel_rfl) (by kernel_rfl) (by kernel_rfl)) ?_
  intro W base args ds gs before hval0 hW hcnd _
  have hval : ∀ (j : Nat) t v, Try.f14.params[j]? = some t → args[j]? = some v → Value.okWide Try.prog W .any base t v := hval0
  have hW' := hW
  obtain ⟨p, q, hA0, hV, rfl, hfz, hnd⟩ := hW
  have hA : DataW.TrodAll enc Try.prog W 0 (fun _ => true) true Try.f14.params.toList args.toList ds p := hA0
  rw [Try.params14] at hA hval
  obtain ⟨v0, vs0, d0, ds0, p0, q0, hargs, rfl, rfl, h0, r0⟩ := trodAll_cons hA
  obtain ⟨v1, vs1, d1, ds1, p1, q1, rfl, rfl, rfl, h1, r1⟩ := trodAll_cons r0
  obtain ⟨v2, vs2, d2, ds2, p2, q2, rfl, rfl, rfl, h2, r2⟩ := trodAll_cons r1
  obtain ⟨rfl, rfl, rfl⟩ := trodAll_nil r2
  obtain rfl : args = #[v0, v1, v2] := by cases args; simp_all
  obtain ⟨a0, rfl, rfl, rfl, w0⟩ := open_int Try.underlying3 (hval 0 3 v0 rfl rfl) h0
  obtain ⟨a1, rfl, rfl, rfl, w1⟩ := open_int Try.underlying3 (hval 1 3 v1 rfl rfl) h1
  obtain ⟨a2, rfl, rfl, rfl, w2⟩ := open_int Try.underlying3 (hval 2 3 v2 rfl rfl) h2
  refine (walk a0 (range_i64 w0) a1 (range_i64 w1) a2 (range_i64 w2) W).mono fun e W' ⟨he, hb⟩ => ?_
  subst he
  exact ⟨_, rfl, law_post (tb := 4) (by kernel_rfl) (by kernel_rfl) rfl Try.underlying4 rfl (fun h => by subst h; rfl) hW' hb⟩

theorem proved : Rows.HelpUnlikeSaid :=
  OpenClaim.holds_of_wide 14 Try.f14 rfl rfl rfl rfl rfl rfl rfl ⟨rfl, rfl, rfl, rfl, rfl⟩ rfl rfl rfl rfl rfl (by kernel_rfl) Try.func14 (by kernel_rfl)
    (of_decide_eq_true (by kernel_rfl)) (by unfold Func.isWrapper; first | (rw [if_pos (by decide +kernel)]; kernel_rfl) | (rw [if_neg (by decide +kernel)]; exact ⟨rfl, rfl⟩))
    (fun os started H enc _ => lifted os started H enc)
#print axioms proved

end Go.Proofs.Ytbegamjbnidkbaa.helpUnlike
