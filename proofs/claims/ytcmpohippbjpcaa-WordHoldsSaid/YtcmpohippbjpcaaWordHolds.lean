/-
  WordHolds: every Holds, wide and narrow, is the reference's; no condition.
-/
import Derived.Test.YtcmpohippbjpcaaHoldsE
import Derived.OpenShut
import Derived.Lib.SmallJoins
namespace Go.Proofs.Ytcmpohippbjpcaa.wordHolds
open Go.ChangeShapes Go.WideShapes Go.ChangeAt Go.RowKit Go.Joins
set_option linter.unusedVariables false


set_option maxHeartbeats 800000 in
theorem walk (op : Int) (ro : -9223372036854775808 ≤ op ∧ op ≤ 9223372036854775807) (a : Int) (ra : -9223372036854775808 ≤ a ∧ a ≤ 9223372036854775807) (b : Int) (rb : -9223372036854775808 ≤ b ∧ b ≤ 9223372036854775807) (w : World) :
    Calls Try.prog 8 #[.agg #[.int .i64 op, .int .i64 a, .int .i64 b]] w fun e w' => e = .returned (.bool true) ∧ Below w.heap.size w w' := by
  go_enter Try.func8, Try.ntmps8
  go_wp2
  go_loopw [3] (fun s wr => ∃ k : Int, -1 ≤ k ∧ k ≤ 41 ∧ s = .int .i64 k ∧ Row wr w.heap.size 41 [.int .i64 op, .int .i64 a, .int .i64 b] ∧ Below w.heap.size w wr) (fun s _ => (41 - intOf s).toNat)
  case atStart => exact ⟨-1, by decide, by decide, rfl, heap_alloc_new w _, (Below.refl _ _).alloc (Nat.le_refl _) _⟩
  case round =>
    obtain ⟨k, hk1, hk2, rfl, hR, hB⟩ := hrel
    have c0 := hR.cell 0
    have c1 := hR.cell 1
    have c2 := hR.cell 2
    simp only [List.getElem?_cons_zero, List.getElem?_cons_succ] at c0 c1 c2
    have hs := hB.size
    by_cases hlt : k ≤ 40
    · go_wp2_with fail
      refine (holds_any k a b ra rb _).mono ?_
      rintro e w1 ⟨rfl, hB1⟩
      have hR1 := hR.below hB1 hR.lt
      have d0 := hR1.cell 0
      have d1 := hR1.cell 1
      have d2 := hR1.cell 2
      simp only [List.getElem?_cons_zero, List.getElem?_cons_succ] at d0 d1 d2
      have hB01 := hB.trans (hB1.mono hs)
      have hs1 := hB01.size
      go_wp2_with fail
      refine (holds_any k b a rb ra _).mono ?_
      rintro e w2 ⟨rfl, hB2⟩
      have hR2 := hR1.below hB2 hR1.lt
      have hB02 := hB01.trans (hB2.mono hs1)
      have g0 := hR2.cell 0
      have g1 := hR2.cell 1
      have g2 := hR2.cell 2
      simp only [List.getElem?_cons_zero, List.getElem?_cons_succ] at g0 g1 g2
      have hs2 := hB02.size
      go_wp2_with fail
      refine (holds_any k a a ra ra _).mono ?_
      rintro e w3 ⟨rfl, hB3⟩
      have hR3 := hR2.below hB3 hR2.lt
      have hB03 := hB02.trans (hB3.mono hs2)
      clear hR hR1 hB hB1 hB2 hB01 c0 c1 c2 d0 d1 d2 g0 g1 g2 hR2 hB3 hB02
      go_wp2
      go_roundw
      case rel => exact ⟨k + 1, by omega, by omega, rfl, hR3, hB03⟩
      case measure => simp [intOf]; omega
    · go_wp2_with fail
      refine (holds_any op a b ra rb _).mono ?_
      rintro e w1 ⟨rfl, hB1⟩
      have hB01 := hB.trans (hB1.mono hs)
      have hs1 := hB01.size
      clear hR hB hB1 c0 c1 c2
      have hv : hold64_eq (lowN 64 5) (lowN 64 5) = true := by decide
      go_wp2_with fail
      refine (holds64_eq 5 5 (by decide) (by decide) _).mono ?_
      rintro e w2 ⟨rfl, h1⟩
      have hB02 := hB01.trans (h1.mono hs1)
      rw [hv]
      go_wp2
      go_ret
      exact ⟨rfl, hB02⟩

theorem own : ownKnob Try.prog.godebug = none := by kernel_rfl
set_option maxRecDepth 100000 in
theorem lifted (os : Os) (started : os.Started) (H : Type) (enc : TypeId × Value → H) :
    ReturnsInHanded {} Try.checked os 8 .any (Rows.wordHoldsSpec.pre6 enc Try.prog Try.f8 Rows.wordHoldsRow.domain false) (Rows.wordHoldsSpec.post enc Try.prog Try.f8 false true false false) := by
  refine returnsInHanded_of_change (C := Try.checked) own started (by kernel_rfl) Try.func8
    (ChangeSpec.witness6 (enc := enc) (C := Try.checked) false ⟨#[], #[.agg #[.int .i64 0, .int .i64 0, .int .i64 0]], []⟩ 8 (by kernel_rfl) (by kernel_rfl) (by kernel_rfl) (by kernel_rfl)) ?_
  intro W base args ds gs before hval0 hW hcnd _
  have hval : ∀ (j : Nat) t v, Try.f8.params[j]? = some t → args[j]? = some v → Value.okWide Try.prog W .any base t v := hval0
  have hW' := hW
  obtain ⟨p, q, hA0, hV, rfl, hfz, hnd⟩ := hW
  have hA : DataW.TrodAll enc Try.prog W 0 (fun _ => true) true Try.f8.params.toList args.toList ds p := hA0
  rw [Try.params8] at hA hval
  obtain ⟨v0, vs0, d0, ds0, p0, q0, hargs, rfl, rfl, h0, r0⟩ := trodAll_cons hA
  obtain ⟨rfl, rfl, rfl⟩ := trodAll_nil r0
  obtain rfl : args = #[v0] := by cases args; simp_all
  obtain ⟨c00, c01, c02, y00, y01, y02, m0, rfl, rfl, rfl, hy00, hy01, hy02⟩ := open_agg3 Try.underlying41 (by kernel_rfl) (show Try.prog.cellsOf 41 = 3 by kernel_rfl) (hval 0 41 v0 rfl rfl) h0
  obtain ⟨a00, e00, rfl, w00⟩ := DataW.trod_int Try.underlying3 hy00
  obtain ⟨a01, e01, rfl, w01⟩ := DataW.trod_int Try.underlying3 hy01
  obtain ⟨a02, e02, rfl, w02⟩ := DataW.trod_int Try.underlying3 hy02
  simp at e00 e01 e02
  subst e00 e01 e02
  refine (walk a00 (range_i64 w00) a01 (range_i64 w01) a02 (range_i64 w02) W).mono fun e W' ⟨he, hb⟩ => ?_
  subst he
  exact ⟨_, rfl, law_post (tb := 4) (by kernel_rfl) (by kernel_rfl) rfl Try.underlying4 rfl (fun h => by subst h; rfl) hW' hb⟩

theorem proved : Rows.WordHoldsSaid :=
  OpenClaim.holds_of_wide 8 Try.f8 rfl rfl rfl rfl rfl rfl rfl ⟨rfl, rfl, rfl, rfl, rfl⟩ rfl rfl rfl rfl rfl (by kernel_rfl) Try.func8 (by kernel_rfl)
    (of_decide_eq_true (by kernel_rfl)) (by unfold Func.isWrapper; first | (rw [if_pos (by decide +kernel)]; kernel_rfl) | (rw [if_neg (by decide +kernel)]; exact ⟨rfl, rfl⟩))
    (fun os started H enc _ => lifted os started H enc)
#print axioms proved

end Go.Proofs.Ytcmpohippbjpcaa.wordHolds
