/-
  math/big: numbers of one word: NewInt, Int64, IsInt64, Cmp.
-/
import Derived.Test.YtaaidjphacofgaaGreatDoorSpanA
import Derived.Laws.Twins
import Derived.Laws.Externs
import Derived.Deep.QuietTactic
import Derived.LaidEqlPtr
import Derived.LoopN
import Derived.BigQuiet
namespace Go.Proofs.YtaaidjphacofgaaGreatDoor
open Go.RowKit
set_option linter.unusedVariables false
set_option linter.unusedSimpArgs false

/-- Every block that was there stays, but those in X. -/
structure Kept (X : List Nat) (w w' : World) : Prop where
  os : w'.os = w.os
  tape : w'.tape = w.tape
  output : w'.output = w.output
  size : w.heap.size ≤ w'.heap.size
  block : ∀ k, k < w.heap.size → k ∉ X → w'.heap[k]? = w.heap[k]?
theorem Kept.of {X : List Nat} {a b : World} (h : Below a.heap.size a b) : Kept X a b := ⟨h.os, h.tape, h.output, h.size, fun i hi _ => h.block i hi⟩
theorem Kept.below {X : List Nat} {a b : World} {B : Nat} (h : Kept X a b) (hB : B ≤ a.heap.size) (hX : ∀ q, q ∈ X → B ≤ q) : Below B a b :=
  ⟨h.os, h.tape, h.output, h.size, fun i hi => h.block i (by omega) fun hm => by have := hX i hm; omega⟩
theorem Kept.row {X : List Nat} {a b : World} (h : Kept X a b) {q : Nat} {e : TypeId} {cs : List Value} (hR : Row a q e cs) (hx : q ∉ X) : Row b q e cs := (h.block q hR.lt hx).trans hR
theorem below_own {B : Nat} {a b : World} (h : Below a.heap.size a b) (hB : B ≤ a.heap.size) : Below B a b := h.mono hB

/-- A number of one word: its sign, its magnitude. -/
def BP (w : World) (b : Nat) (neg : Bool) (m : Int) : Prop :=
  ∃ g cs, Row w b 66 [.bool neg, .slice (some ⟨g, 0, none⟩) 1 (cs.length + 1)] ∧ Row w g 96 (.int .u64 m :: cs) ∧ cs.length ≤ 100 ∧ 0 < m ∧ m < 18446744073709551616
theorem BP.lt {w : World} {b : Nat} {neg : Bool} {m : Int} (h : BP w b neg m) : b < w.heap.size := by obtain ⟨g, cs, h1, _⟩ := h; exact h1.lt
theorem BP.below {w w' : World} {b : Nat} {neg : Bool} {m : Int} (h : BP w b neg m) (hB : Below w.heap.size w w') : BP w' b neg m := by
  obtain ⟨g, cs, h1, h2, h3⟩ := h
  exact ⟨g, cs, h1.below hB h1.lt, h2.below hB h2.lt, h3⟩
theorem BP.ne {w : World} {a b : Nat} {neg : Bool} {m : Int} (h : BP w b neg m) {e : TypeId} {x : Value} (hZ : Row w a e [x, .slice none 0 0]) : b ≠ a := by
  rintro rfl
  obtain ⟨g, cs, h1, _⟩ := h
  unfold Row at h1 hZ
  rw [h1] at hZ
  simp at hZ
theorem BP.kept {w w' : World} {b a : Nat} {neg : Bool} {m : Int} (h : BP w b neg m) {x : Value} (hZ : Row w a 66 [x, .slice none 0 0]) (hK : Kept [a] w w') : BP w' b neg m := by
  have hne := h.ne hZ
  obtain ⟨g, cs, h1, h2, h3⟩ := h
  have hg : g ≠ a := by
    rintro rfl
    unfold Row at h2 hZ
    rw [h2] at hZ
    simp at hZ
  exact ⟨g, cs, hK.row h1 (by simpa using hne), hK.row h2 (by simpa using hg), h3⟩
theorem BP.drew {w : World} {b : Nat} {neg : Bool} {m : Int} (h : BP w b neg m) : BP w.drew b neg m := h
theorem BP.cells {w : World} {b : Nat} {neg : Bool} {m : Int} (h : BP w b neg m) :
    ∃ g c, (w.cell? ⟨b, 0, none⟩ = some (.bool neg) ∧ w.cell? ⟨b, 1, none⟩ = some (.slice (some ⟨g, 0, none⟩) 1 c) ∧ w.cell? ⟨g, 0, none⟩ = some (.int .u64 m)) ∧ 1 ≤ c ∧ c ≤ 101 ∧ 0 < m ∧ m < 18446744073709551616 := by
  obtain ⟨g, cs, h1, h2, h3, h4⟩ := h
  exact ⟨g, cs.length + 1, ⟨by rw [h1.cell]; rfl, by rw [h1.cell]; rfl, by rw [h2.cell]; rfl⟩, by omega, by omega, h4⟩

theorem row2 (w : World) (o : Obj) (cs : List Value) (e : TypeId) : Row ((w.alloc o).alloc (.cells cs.toArray e)) (w.heap.size + 1) e cs := by
  have := Row.made (w.alloc o) cs e
  simpa using this
/-- What NewInt leaves. -/
def NewB (w : World) (neg : Bool) (m : Int) (e : Ending) (w' : World) : Prop :=
  ∃ b, w.heap.size ≤ b ∧ e = .returned (.pointer (some ⟨b, 0, none⟩)) ∧ BP w' b neg m ∧ Below w.heap.size w w'
theorem u64_neg (x : Int) (h : -9223372036854775808 ≤ x ∧ x < 0) : IntKind.u64.wrap (-(IntKind.u64.wrap x)) = -x := by
  simp only [IntKind.wrap, IntKind.bits, IntKind.signed]; simp; omega
theorem u64_pos (x : Int) (h : 0 < x ∧ x ≤ 9223372036854775807) : IntKind.u64.wrap x = x := by
  simp only [IntKind.wrap, IntKind.bits, IntKind.signed]; simp; omega
theorem new_pos (x : Int) (h : 0 < x ∧ x ≤ 9223372036854775807) (w : World) : Calls Tryz.prog 94 #[.int .i64 x] w (NewB w false x) := by
  have hu := u64_pos x h
  have d1 : decide (x < 0) = false := by simp; omega
  have d2 : (x == 0) = false := by simp; omega
  have HX := Lib.hid h
  clear h
  go_enter Tryz.func94, Tryz.ntmps94
  go_wp2
  go_ret
  exact ⟨_, Nat.le_succ _, rfl, ⟨w.heap.size, [], row2 _ _ _ _, (Row.made w [.int .u64 x] _).alloc _, by simp, by have := HX.out; omega⟩, ((Below.refl _ _).alloc (Nat.le_refl _) _).alloc (by simp) _⟩
theorem new_neg (x : Int) (h : -9223372036854775808 ≤ x ∧ x < 0) (w : World) : Calls Tryz.prog 94 #[.int .i64 x] w (NewB w true (-x)) := by
  have hu := u64_neg x h
  have d1 : decide (x < 0) = true := by simp; omega
  have d2 : (x == 0) = false := by simp; omega
  have HX := Lib.hid h
  clear h
  go_enter Tryz.func94, Tryz.ntmps94
  go_wp2
  go_ret
  exact ⟨_, Nat.le_succ _, rfl, ⟨w.heap.size, [], row2 _ _ _ _, (Row.made w [.int .u64 (-x)] _).alloc _, by simp, by have := HX.out; omega⟩, ((Below.refl _ _).alloc (Nat.le_refl _) _).alloc (by simp) _⟩

/-- The order of two magnitudes, of two numbers. -/
def cmpm (m n : Int) : Int := if m < n then -1 else if n < m then 1 else 0
def cmpb (n1 : Bool) (m1 : Int) (n2 : Bool) (m2 : Int) : Int := if n1 = n2 then (if n1 then -(cmpm m1 m2) else cmpm m1 m2) else if n1 then -1 else 1
set_option maxHeartbeats 1600000 in
theorem natcmp1 (g1 g2 c1 c2 : Nat) (m1 m2 : Int) (w : World) (h1 : w.cell? ⟨g1, 0, none⟩ = some (.int .u64 m1)) (h2 : w.cell? ⟨g2, 0, none⟩ = some (.int .u64 m2)) :
    Calls Tryz.prog 96 #[.slice (some ⟨g1, 0, none⟩) 1 c1, .slice (some ⟨g2, 0, none⟩) 1 c2] w fun e w' => e = .returned (.int .i64 (cmpm m1 m2)) ∧ ∃ k, w' = w.drewN k := by
  obtain ⟨d1, e1⟩ : ∃ d, decide (m1 < m2) = d := ⟨_, rfl⟩
  obtain ⟨d2, e2⟩ : ∃ d, decide (m2 < m1) = d := ⟨_, rfl⟩
  have HV := Lib.hid (show cmpm m1 m2 = (bif d1 then -1 else bif d2 then 1 else 0) by unfold cmpm; cases d1 <;> cases d2 <;> simp at e1 e2 <;> simp [e1, e2] <;> omega)
  rw [HV.out]
  clear HV
  cases d1
  · cases d2
    all_goals
      go_enter Tryz.func96, Tryz.ntmps96
      go_wp2
      refine wp_loop_rounds (0+1+1) ?_
      rw [rounds_succ]
      go_wp2
      go_quiet (fail)
      go_wp2
      go_quiet (fail)
      go_wp2
      go_quiet (fail)
      go_wp2
      go_ret
      refine ⟨rfl, ?_⟩
      simp only [drewN_drewN]
      exact ⟨_, rfl⟩
  · go_enter Tryz.func96, Tryz.ntmps96
    go_wp2
    refine wp_loop_rounds (0+1+1) ?_
    rw [rounds_succ]
    go_wp2
    go_quiet (fail)
    go_wp2
    go_quiet (fail)
    go_wp2
    go_ret
    refine ⟨rfl, ?_⟩
    simp only [drewN_drewN]
    exact ⟨_, rfl⟩
/-- Are two numbers in order? -/
theorem bigcmp1 (a b : Nat) (n1 n2 : Bool) (m1 m2 : Int) (hne : a ≠ b) (w : World) (ha : BP w a n1 m1) (hb : BP w b n2 m2) :
    Calls Tryz.prog 82 #[.pointer (some ⟨a, 0, none⟩), .pointer (some ⟨b, 0, none⟩)] w fun e w' => e = .returned (.int .i64 (cmpb n1 m1 n2 m2)) ∧ ∃ k, w' = w.drewN k := by
  obtain ⟨g1, c1, ⟨a0, a1, a2⟩, _⟩ := ha.cells
  obtain ⟨g2, c2, ⟨b0, b1, b2⟩, _⟩ := hb.cells
  have hpe : (binOp .eql 62 (.pointer (some ⟨a, 0, none⟩)) (.pointer (some ⟨b, 0, none⟩))).run Tryz.prog w = .ok (.bool false) w := by
    obtain ⟨_, _, r1, _⟩ := ha
    obtain ⟨_, _, r2, _⟩ := hb
    obtain ⟨i, hi, hz⟩ := Option.map_eq_some_iff.1 (show (Tryz.prog.info? 66).map (fun i => i.size) = some 2 by kernel_rfl)
    exact run_eql_ptr_other w Tryz.underlying62 hi (by omega) (by simp [hne]) r1 r2
  have hca := fun w k1 k2 => natcmp1 g1 g2 c1 c2 m1 m2 w k1 k2
  have hng : wrap64 (-(cmpm m1 m2)) = -(cmpm m1 m2) := by unfold cmpm wrap64; omega
  have HCA := Lib.hid hca
  clear hca ha hb hne
  cases n1
  · cases n2
    · go_enter Tryz.func82, Tryz.ntmps82
      go_wp2
      go_quiet (fail)
      go_wp2
      go_quiet ((go_at_call 96; refine Calls.mono (HCA.out (w.drewN _) (by exact a2) (by exact b2)) ?_; rintro e w' ⟨rfl, k, rfl⟩; exact ⟨rfl, _, by rw [World.drewN_drewN, Nat.add_assoc]⟩))
      go_wp2
      go_ret
      exact ⟨rfl, _, rfl⟩
    · go_enter Tryz.func82, Tryz.ntmps82
      go_wp2
      go_quiet (fail)
      go_wp2
      go_ret
      exact ⟨rfl, _, rfl⟩
  · cases n2
    · go_enter Tryz.func82, Tryz.ntmps82
      go_wp2
      go_quiet (fail)
      go_wp2
      go_ret
      exact ⟨rfl, _, rfl⟩
    · go_enter Tryz.func82, Tryz.ntmps82
      go_wp2
      go_quiet (fail)
      go_wp2
      go_quiet ((go_at_call 96; refine Calls.mono (HCA.out (w.drewN _) (by exact a2) (by exact b2)) ?_; rintro e w' ⟨rfl, k, rfl⟩; exact ⟨rfl, _, by rw [World.drewN_drewN, Nat.add_assoc]⟩))
      go_wp2
      go_ret
      refine ⟨ret_int (show wrap64 (-(cmpm m1 m2)) = _ from hng), _, rfl⟩
/-- The number itself. -/
theorem low64_1 (g c : Nat) (m : Int) (w : World) (h : w.cell? ⟨g, 0, none⟩ = some (.int .u64 m)) : Calls Tryz.prog 103 #[.slice (some ⟨g, 0, none⟩) 1 c] w fun e w' => e = .returned (.int .u64 m) ∧ w = w' := by
  go_enter Tryz.func103, Tryz.ntmps103
  go_wp2
  go_ret
  exact ⟨rfl, rfl⟩
theorem i64_of_u64 (m : Int) (h : 0 < m ∧ m < 9223372036854775808) : wrap64 m = m ∧ wrap64 (-m) = -m := by unfold wrap64; omega
theorem int64_1 (b : Nat) (neg : Bool) (m : Int) (w : World) (hb : BP w b neg m) (hm : m < 9223372036854775808) :
    Calls Tryz.prog 100 #[.pointer (some ⟨b, 0, none⟩)] w fun e w' => e = .returned (.int .i64 (if neg then -m else m)) ∧ w = w' := by
  obtain ⟨g, c, ⟨h0, h1, h2⟩, _, _, hp, _⟩ := hb.cells
  obtain ⟨u1, u2⟩ := i64_of_u64 m ⟨hp, hm⟩
  have hlo := fun w k => low64_1 g c m w k
  have HLO := Lib.hid hlo
  clear hlo hb hm hp
  cases neg
  all_goals
    go_enter Tryz.func100, Tryz.ntmps100
    go_wp2_with (go_at_call 103; refine (HLO.out _ h2).mono ?_; rintro e w' ⟨rfl, rfl⟩)
    go_ret
    exact ⟨rfl, rfl⟩
theorem isint64_1 (b : Nat) (neg : Bool) (m : Int) (w : World) (hb : BP w b neg m) (hm : m < 9223372036854775808) :
    Calls Tryz.prog 87 #[.pointer (some ⟨b, 0, none⟩)] w fun e w' => e = .returned (.bool true) ∧ w = w' := by
  obtain ⟨g, c, ⟨h0, h1, h2⟩, _, _, hp, _⟩ := hb.cells
  obtain ⟨u1, u2⟩ := i64_of_u64 m ⟨hp, hm⟩
  have d : decide (0 ≤ m) = true := by simp; omega
  have hlo := fun w k => low64_1 g c m w k
  have HLO := Lib.hid hlo
  clear hlo hb hm hp
  go_enter Tryz.func87, Tryz.ntmps87
  go_wp2_with (go_at_call 103; refine (HLO.out _ h2).mono ?_; rintro e w' ⟨rfl, rfl⟩)
  go_ret
  exact ⟨rfl, rfl⟩
end Go.Proofs.YtaaidjphacofgaaGreatDoor
