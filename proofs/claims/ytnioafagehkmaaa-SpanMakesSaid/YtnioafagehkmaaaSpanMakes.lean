/-
  SpanMakes: every Of, Has, Low, NotZero, Bytes is the document's; no condition.
-/
import Derived.Test.YtnioafagehkmaaaSpanP
import Derived.Lib.SmallJoins
import Derived.Deep.Cut
namespace Go.Proofs.Ytnioafagehkmaaa.spanMakes
open Go.Joins Go.ChangeShapes Go.WideShapes Go.ChangeAt Go.RowKit
set_option linter.unusedVariables false

/-- The law's box, its span. -/
structure SB (b : Nat) (w : World) (lo hi : Int) (p q : Bool) (w' : World) : Prop where
  row : Row w' b 23 (spc lo hi p q)
  bel : Below b w w'
theorem SB.kept {b : Nat} {w w1 : World} {lo hi : Int} {p q : Bool} (h : SB b w lo hi p q w1) :
    w1.cell? ⟨b, 0, none⟩ = some (.int .i64 lo) ∧ w1.cell? ⟨b, 1, none⟩ = some (.int .i64 hi) ∧ w1.cell? ⟨b, 2, none⟩ = some (.bool p) ∧ w1.cell? ⟨b, 3, none⟩ = some (.bool q) ∧ SB b w lo hi p q w1 :=
  let ⟨⟨c0, c1, c2, c3⟩, _⟩ := spc_row h.row
  ⟨c0, c1, c2, c3, h⟩
theorem SB.below {b : Nat} {w w1 w2 : World} {lo hi : Int} {p q : Bool} (h : SB b w lo hi p q w1) (hB : Below w1.heap.size w1 w2) : SB b w lo hi p q w2 :=
  ⟨h.row.below hB h.row.lt, h.bel.trans (hB.mono (Nat.le_of_lt h.row.lt))⟩
theorem SB.next {b : Nat} {w w1 w2 : World} {lo hi : Int} {p q : Bool}
    (h : w1.cell? ⟨b, 0, none⟩ = some (.int .i64 lo) ∧ w1.cell? ⟨b, 1, none⟩ = some (.int .i64 hi) ∧ w1.cell? ⟨b, 2, none⟩ = some (.bool p) ∧ w1.cell? ⟨b, 3, none⟩ = some (.bool q) ∧ SB b w lo hi p q w1) (hB : Below w1.heap.size w1 w2) :
    w2.cell? ⟨b, 0, none⟩ = some (.int .i64 lo) ∧ w2.cell? ⟨b, 1, none⟩ = some (.int .i64 hi) ∧ w2.cell? ⟨b, 2, none⟩ = some (.bool p) ∧ w2.cell? ⟨b, 3, none⟩ = some (.bool q) ∧ SB b w lo hi p q w2 := (h.2.2.2.2.below hB).kept

set_option maxRecDepth 100000 in
set_option maxHeartbeats 16000000 in
theorem walk (a : Int) (ra : -9223372036854775808 ≤ a ∧ a ≤ 9223372036854775807) (b : Int) (rb : -9223372036854775808 ≤ b ∧ b ≤ 9223372036854775807) (lo hi : Int) (p q : Bool) (size : Int) (_rs : -9223372036854775808 ≤ size ∧ size ≤ 9223372036854775807) (na : Bool) (w : World) :
    Calls Try.prog 3 #[.int .i64 a, .int .i64 b, .agg #[.int .i64 lo, .int .i64 hi, .bool p, .bool q], .int .i64 size, .bool na] w fun e w' => e = .returned (.bool true) ∧ Below w.heap.size w w' := by
  have o1 := fun w => of_of a b w
  have o2 := fun w => rof_of a b ra rb w
  obtain ⟨A, B, P, Q, ho⟩ := ofs_form a b
  rw [ho] at o1 o2
  have l1 := fun w => slow_of lo hi p q w
  have l2 := fun w => rlow_of lo hi p q w
  unfold lowv at l1 l2
  obtain ⟨A', B', P', Q', hl⟩ := ofs_form (llo (elo lo hi p q) (ehi lo hi p q)) (lhi (elo lo hi p q) (ehi lo hi p q))
  rw [hl] at l1 l2
  have b1 := fun w => sbytes_of size na w
  have b2 := fun w => rsbytes_of size na w
  obtain ⟨A2, B2, P2, Q2, hy⟩ : ∃ A B P Q, bytev size na = .agg #[.int .i64 A, .int .i64 B, .bool P, .bool Q] := by
    unfold bytev
    repeat' split
    all_goals first | exact ofs_form _ _ | exact ⟨_, _, _, _, rfl⟩
  rw [hy] at b1 b2
  have s1 := fun w => has_of lo hi p q a w
  have s2 := fun w => rhas_of lo hi p q a w
  generalize hasv lo hi p q a = hv at s1 s2
  have z1 := fun w => notzero_of na lo hi p q w
  have z2 := fun w => rnotzero_of na lo hi p q w
  generalize nzv na (elo lo hi p q) (ehi lo hi p q) = zv at z1 z2
  have O1 := Lib.hid o1
  have O2 := Lib.hid o2
  have L1 := Lib.hid l1
  have L2 := Lib.hid l2
  have B1 := Lib.hid b1
  have B2' := Lib.hid b2
  have S1 := Lib.hid s1
  have S2 := Lib.hid s2
  have Z1 := Lib.hid z1
  have Z2 := Lib.hid z2
  have hsb : SB w.heap.size w lo hi p q (w.alloc (.cells #[.int .i64 lo, .int .i64 hi, .bool p, .bool q] 23)) := ⟨Row.made w (spc lo hi p q) _, (Below.refl _ _).alloc (Nat.le_refl _) _⟩
  have HSB := Lib.hid hsb
  clear o1 o2 ho l1 l2 hl b1 b2 hy s1 s2 z1 z2 hsb ra rb
  go_enter Try.func3, Try.ntmps3
  go_wp2
  have hks := (HSB.out.below (Below.refl _ _).drew).kept
  go_region_held3 (fun w' => w'.cell? ⟨w.heap.size, 0, none⟩ = some (.int .i64 lo) ∧ w'.cell? ⟨w.heap.size, 1, none⟩ = some (.int .i64 hi) ∧ w'.cell? ⟨w.heap.size, 2, none⟩ = some (.bool p) ∧ w'.cell? ⟨w.heap.size, 3, none⟩ = some (.bool q) ∧ SB w.heap.size w lo hi p q w') (first | assumption | exact SB.next (by assumption) hb)
    (first
      | (go_at_call 4; refine (full_of _).mono ?_; rintro e w' ⟨rfl, hb⟩)
      | (go_at_call 5; refine (reffull_of _).mono ?_; rintro e w' ⟨rfl, hb⟩)
      | (go_at_call 6; refine (O1.out _).mono ?_; rintro e w' ⟨rfl, hb⟩)
      | (go_at_call 7; refine (O2.out _).mono ?_; rintro e w' ⟨rfl, hb⟩)
      | (go_at_call 8; refine (S1.out _).mono ?_; rintro e w' ⟨rfl, hb⟩)
      | (go_at_call 9; refine (S2.out _).mono ?_; rintro e w' ⟨rfl, hb⟩))
  all_goals
    rename_i hheld
    obtain ⟨_, _, _, _, hs1⟩ := hheld
    clear hks
    go_upto_region 3 with fail
    have hks := (hs1.below (Below.refl _ _).drew).kept
    clear hs1
    go_region_held3 (fun w' => w'.cell? ⟨w.heap.size, 0, none⟩ = some (.int .i64 lo) ∧ w'.cell? ⟨w.heap.size, 1, none⟩ = some (.int .i64 hi) ∧ w'.cell? ⟨w.heap.size, 2, none⟩ = some (.bool p) ∧ w'.cell? ⟨w.heap.size, 3, none⟩ = some (.bool q) ∧ SB w.heap.size w lo hi p q w') (first | assumption | exact SB.next (by assumption) hb)
      (first
        | (go_at_call 10; refine (L1.out _).mono ?_; rintro e w' ⟨rfl, hb⟩)
        | (go_at_call 11; refine (L2.out _).mono ?_; rintro e w' ⟨rfl, hb⟩)
        | (go_at_call 12; refine (Z1.out _).mono ?_; rintro e w' ⟨rfl, hb⟩)
        | (go_at_call 13; refine (Z2.out _).mono ?_; rintro e w' ⟨rfl, hb⟩)
        | (go_at_call 14; refine (B1.out _).mono ?_; rintro e w' ⟨rfl, hb⟩)
        | (go_at_call 15; refine (B2'.out _).mono ?_; rintro e w' ⟨rfl, hb⟩))
    all_goals
      rename_i hheld
      obtain ⟨_, _, _, _, hs1⟩ := hheld
      clear hks
      have HE := Lib.hid hs1.bel
      clear hs1
      go_wp2
      go_ret
      exact ⟨rfl, HE.out⟩


theorem own : ownKnob Try.prog.godebug = none := by kernel_rfl
set_option maxRecDepth 100000 in
theorem lifted (os : Os) (started : os.Started) (H : Type) (enc : TypeId × Value → H) :
    ReturnsInHanded {} Try.checked os 3 .any (Rows.spanMakesSpec.pre6 enc Try.prog Try.f3 Rows.spanMakesRow.domain false) (Rows.spanMakesSpec.post enc Try.prog Try.f3 false true false false) := by
  refine returnsInHanded_of_change (C := Try.checked) own started (by kernel_rfl) Try.func3
    (ChangeSpec.witness6 (enc := enc) (C := Try.checked) false ⟨#[], #[.int .i64 0, .int .i64 0, .agg #[.int .i64 0, .int .i64 0, .bool false, .bool false], .int .i64 0, .bool false], []⟩ 8 (by kernel_rfl) (by kernel_rfl) (by kernel_rfl) (by kernel_rfl)) ?_
  intro W base args ds gs before hval0 hW hcnd _
  have hval : ∀ (j : Nat) t v, Try.f3.params[j]? = some t → args[j]? = some v → Value.okWide Try.prog W .any base t v := hval0
  have hW' := hW
  obtain ⟨p, q, hA0, hV, rfl, hfz, hnd⟩ := hW
  have hA : DataW.TrodAll enc Try.prog W 0 (fun _ => true) true Try.f3.params.toList args.toList ds p := hA0
  rw [Try.params3] at hA hval
  obtain ⟨v0, vs0, d0, ds0, p0, q0, hargs, rfl, rfl, h0, r0⟩ := trodAll_cons hA
  obtain ⟨v1, vs1, d1, ds1, p1, q1, rfl, rfl, rfl, h1, r1⟩ := trodAll_cons r0
  obtain ⟨v2, vs2, d2, ds2, p2, q2, rfl, rfl, rfl, h2, r2⟩ := trodAll_cons r1
  obtain ⟨v3, vs3, d3, ds3, p3, q3, rfl, rfl, rfl, h3, r3⟩ := trodAll_cons r2
  obtain ⟨v4, vs4, d4, ds4, p4, q4, rfl, rfl, rfl, h4, r4⟩ := trodAll_cons r3
  obtain ⟨rfl, rfl, rfl⟩ := trodAll_nil r4
  obtain rfl : args = #[v0, v1, v2, v3, v4] := by cases args; simp_all
  obtain ⟨a0, rfl, rfl, rfl, w0⟩ := open_int Try.underlying3 (hval 0 3 v0 rfl rfl) h0
  obtain ⟨a1, rfl, rfl, rfl, w1⟩ := open_int Try.underlying3 (hval 1 3 v1 rfl rfl) h1
  obtain ⟨c20, c21, c22, c23, y20, y21, y22, y23, m2, rfl, rfl, rfl, hy20, hy21, hy22, hy23⟩ := open_agg4 Try.underlying23 (by kernel_rfl) (show Try.prog.cellsOf 23 = 4 by kernel_rfl) (hval 2 23 v2 rfl rfl) h2
  obtain ⟨a20, e20, rfl, w20⟩ := DataW.trod_int Try.underlying3 hy20
  obtain ⟨a21, e21, rfl, w21⟩ := DataW.trod_int Try.underlying3 hy21
  obtain ⟨a22, e22, rfl⟩ := DataW.trod_bool Try.underlying4 hy22
  obtain ⟨a23, e23, rfl⟩ := DataW.trod_bool Try.underlying4 hy23
  simp at e20 e21 e22 e23
  subst e20 e21 e22 e23
  obtain ⟨a3, rfl, rfl, rfl, w3⟩ := open_int Try.underlying3 (hval 3 3 v3 rfl rfl) h3
  obtain ⟨a4, rfl, rfl, rfl⟩ := open_bool Try.underlying4 (hval 4 4 v4 rfl rfl) h4
  refine (walk a0 (range_i64 w0) a1 (range_i64 w1) a20 a21 a22 a23 a3 (range_i64 w3) a4 W).mono fun e W' ⟨he, hb⟩ => ?_
  subst he
  exact ⟨_, rfl, law_post (tb := 4) (by kernel_rfl) (by kernel_rfl) rfl Try.underlying4 rfl (fun h => by subst h; rfl) hW' hb⟩

theorem proved : Rows.SpanMakesSaid :=
  OpenClaim.holds_of_wide 3 Try.f3 rfl rfl rfl rfl rfl rfl rfl ⟨rfl, rfl, rfl, rfl, rfl⟩ rfl rfl rfl rfl rfl (by kernel_rfl) Try.func3 (by kernel_rfl)
    (of_decide_eq_true (by kernel_rfl)) (by unfold Func.isWrapper; first | (rw [if_pos (by decide +kernel)]; kernel_rfl) | (rw [if_neg (by decide +kernel)]; exact ⟨rfl, rfl⟩))
    (fun os started H enc _ => lifted os started H enc)
#print axioms proved

end Go.Proofs.Ytnioafagehkmaaa.spanMakes
