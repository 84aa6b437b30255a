/-
  math/big: Add of two numbers of one word.
-/
import Derived.Test.YtaaidjphacofgaaGreatDoorBigB
namespace Go.Proofs.YtaaidjphacofgaaGreatDoor
open Go.RowKit
set_option linter.unusedVariables false
set_option linter.unusedSimpArgs false

/-- A new number: 0. -/
def ZB (w : World) (b : Nat) : Prop := Row w b 66 [.bool false, .slice none 0 0]
theorem setCell_kept (w : World) (C i : Nat) (v : Value) : Kept [C] w (w.setCell ⟨C, i, none⟩ v) := ⟨rfl, rfl, rfl, by simp, fun k _ hx => Below.heap_setCell _ _ _ _ (by simpa using hx)⟩
theorem Kept.trans {X : List Nat} {a b c : World} (h : Kept X a b) (k : Kept X b c) : Kept X a c :=
  ⟨k.os.trans h.os, k.tape.trans h.tape, k.output.trans h.output, Nat.le_trans h.size k.size, fun i hi hx => (k.block i (Nat.lt_of_lt_of_le hi h.size) hx).trans (h.block i hi hx)⟩
theorem Kept.drew {X : List Nat} {a b : World} (h : Kept X a b) : Kept X a b.drew := ⟨h.os, h.tape, h.output, h.size, h.block⟩
theorem Kept.drewN {X : List Nat} {a b : World} (h : Kept X a b) (n : Nat) : Kept X a (b.drewN n) := ⟨h.os, h.tape, h.output, h.size, h.block⟩
theorem Kept.refl (X : List Nat) (w : World) : Kept X w w := ⟨rfl, rfl, rfl, Nat.le_refl _, fun _ _ _ => rfl⟩
theorem nbp_lt {w : World} {b : Nat} {neg : Bool} {m : Int} (h : BP w b neg m) :
    ∃ g c, (w.cell? ⟨b, 0, none⟩ = some (.bool neg) ∧ w.cell? ⟨b, 1, none⟩ = some (.slice (some ⟨g, 0, none⟩) 1 c) ∧ w.cell? ⟨g, 0, none⟩ = some (.int .u64 m)) ∧ (1 ≤ c ∧ c ≤ 101) ∧ 0 < m ∧ m < 18446744073709551616 ∧ g < w.heap.size := by
  obtain ⟨g, cs, h1, h2, h3, h4⟩ := h
  exact ⟨g, cs.length + 1, ⟨by rw [h1.cell]; rfl, by rw [h1.cell]; rfl, by rw [h2.cell]; rfl⟩, ⟨by omega, by omega⟩, h4.1, h4.2, h2.lt⟩
set_option maxRecDepth 100000 in
set_option maxHeartbeats 1600000 in
theorem bigadd1 (z a b : Nat) (x y : Int) (h : x + y < 18446744073709551616) (w : World) (hz : ZB w z) (ha : BP w a false x) (hb : BP w b false y) :
    Calls Tryz.prog 73 #[.pointer (some ⟨z, 0, none⟩), .pointer (some ⟨a, 0, none⟩), .pointer (some ⟨b, 0, none⟩)] w fun e w' => e = .returned (.pointer (some ⟨z, 0, none⟩)) ∧ BP w' z false (x + y) ∧ Kept [z] w w' := by
  obtain ⟨g1, c1, ⟨a0, a1, a2⟩, ac, ap, am, al⟩ := nbp_lt ha
  obtain ⟨g2, c2, ⟨b0, b1, b2⟩, bc, bp, bm, bl⟩ := nbp_lt hb
  have z0 : w.cell? ⟨z, 0, none⟩ = some (.bool false) := (Row.cell hz 0).trans rfl
  have z1 : w.cell? ⟨z, 1, none⟩ = some (.slice none 0 0) := (Row.cell hz 1).trans rfl
  have hna := fun w p q r s => natadd1 g1 g2 c1 c2 x y ap bp h ac bc w p q r s
  have HNA := Lib.hid hna
  have hxy : 0 < x + y := by omega
  generalize x + y = s at HNA h hxy ⊢
  have HX := Lib.hid (And.intro hz (And.intro a2 (And.intro b2 (And.intro al (And.intro bl (And.intro hxy h))))))
  clear hz ha hb a2 b2 al bl hxy h hna ac bc ap bp am bm
  go_enter Tryz.func73, Tryz.ntmps73
  go_wp2
  go_quiet (fail)
  go_upto_region 3 with fail
  go_region_with (go_at_call 95; refine Calls.mono (HNA.out (w.drewN _) (by exact HX.out.2.1) (by exact HX.out.2.2.1) (by exact HX.out.2.2.2.1) (by exact HX.out.2.2.2.2.1)) ?_; rintro e w2 ⟨g, hg, rfl, hr, hB⟩; have hzr : Row w2 z _ _ := Row.below (w := w.drewN _) HX.out.1 hB (Row.lt HX.out.1); have zc := hzr.cell 1; have zf := hzr.free 1)
  all_goals
    have hgz : g ≠ z := by
      have h1 := Row.lt HX.out.1
      have h2 : w.heap.size ≤ g := hg
      omega
    have hr3 := hr.other ⟨z, 1, none⟩ (.slice (some ⟨g, 0, none⟩) 1 6) hgz
    have hz3 := hzr.put 1 (.slice (some ⟨g, 0, none⟩) 1 6)
    have hk3 : Kept [z] w (w2.setCell ⟨z, 1, none⟩ (.slice (some ⟨g, 0, none⟩) 1 6)) := by
      have hk : Kept [z] w w2 := ⟨hB.os, hB.tape, hB.output, hB.size, fun i hi _ => hB.block i hi⟩
      exact hk.trans (setCell_kept _ _ _ _)
    generalize World.setCell _ _ _ = w3 at hr3 hz3 hk3 ⊢
    have q1 : w3.cell? ⟨z, 1, none⟩ = some (.slice (some ⟨g, 0, none⟩) 1 6) := (hz3.cell 1).trans rfl
    have q0 := (hz3.cell 0).trans rfl
    have qf := hz3.free 0
    have hzF : Row (w3.setCell ⟨z, 0, none⟩ (.bool false)) z 66 [.bool false, .slice (some ⟨g, 0, none⟩) 1 6] := hz3.put 0 (.bool false)
    have HR := Lib.hid (And.intro (hr3.other ⟨z, 0, none⟩ (.bool false) hgz) (And.intro hzF (hk3.trans (setCell_kept _ z 0 (.bool false)))))
    clear hzF hr hr3 hz3 hk3 hgz hzr zc zf hB hg a0 a1 b0 b1 z0 z1
    go_wp2
    go_ret
    exact ⟨rfl, ⟨g, [.int .u64 0, .int .u64 0, .int .u64 0, .int .u64 0, .int .u64 0], HR.out.2.1, HR.out.1, by simp, HX.out.2.2.2.2.2⟩, HR.out.2.2⟩
end Go.Proofs.YtaaidjphacofgaaGreatDoor
