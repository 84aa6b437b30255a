import Derived.Test.YtdepknffpnnmmaaGreatMachDR
import Derived.Test.YtdepknffpnnmmaaGreatMachDQ
namespace Go.Proofs.YtdepknffpnnmmaaGreat
open Go.RowKit
set_option linter.unusedVariables false
set_option linter.unusedSimpArgs false
structure ToldO (P : Nat -> Nat) (i : Nat) (er : Int) (s : Mst) (r0 : Int) (xv tv sv : Value) (w : World) : Prop where
 at' : ∃ base we, OutS base er s r0 xv tv sv we /\ we.heap.size <= w.heap.size /\ ∀ q, base <= q -> q < we.heap.size -> P q = i /\ w.heap[q]? = we.heap[q]?
theorem ToldO.out {P : Nat -> Nat} {i : Nat} {er : Int} {s : Mst} {r0 : Int} {xv tv sv : Value} {w : World} (h : ToldO P i er s r0 xv tv sv w) : ∃ base, OutS base er s r0 xv tv sv w := by
 obtain ⟨base, we, hO, hs, hk⟩ := h.at'
 exact ⟨base, hO.keep fun q h1 h2 => (hk q h1 h2).2⟩
theorem ToldO.work {P : Nat -> Nat} {i j : Nat} (hij : i ≠ j) {er : Int} {s : Mst} {r0 : Int} {xv tv sv : Value} {w w' : World} (h : ToldO P i er s r0 xv tv sv w) (hW : Work P j w w') (k : Nat) : ToldO (grown P w.heap.size k) i er s r0 xv tv sv w' := by
 obtain ⟨base, we, hO, hs, hk⟩ := h.at'
 refine ⟨base, we, hO, Nat.le_trans hs hW.size, fun q h1 h2 => ?_⟩
 obtain ⟨g1, g2⟩ := hk q h1 h2
 exact ⟨(grown_old (by omega)).trans g1, (hW.keep q (by omega) (by omega)).trans g2⟩
theorem ToldO.next {P : Nat -> Nat} {i k : Nat} {er : Int} {s : Mst} {r0 : Int} {xv tv sv : Value} {w w' : World} (h : ToldO P i er s r0 xv tv sv w) (hb : Below w.heap.size w w') : ToldO (grown P w.heap.size k) i er s r0 xv tv sv w' :=
 h.work (j := i + 1) (by omega) (Work.of_below hb) k
theorem ToldO.begin {P : Nat -> Nat} {i : Nat} {er : Int} {s : Mst} {r0 : Int} {xv tv sv : Value} {w w' : World} (h : OutS w.heap.size er s r0 xv tv sv w') (hs : w.heap.size <= w'.heap.size) : ToldO (grown P w.heap.size i) i er s r0 xv tv sv w' :=
 ⟨w.heap.size, w', h, Nat.le_refl _, fun q h1 h2 => ⟨grown_new h1, rfl⟩⟩
structure Own0 (P : Nat -> Nat) (q : Nat) (e : TypeId) (cs : List Value) (w : World) : Prop where
 row : Row w q e cs
 zero : P q = 0
theorem Own0.work {P : Nat -> Nat} {j q : Nat} (hj : j ≠ 0) {e : TypeId} {cs : List Value} {w w' : World} (h : Own0 P q e cs w) (hW : Work P j w w') (k : Nat) : Own0 (grown P w.heap.size k) q e cs w' :=
 ⟨(hW.keep q h.row.lt (by rw [h.zero]; omega)).trans h.row, (grown_old h.row.lt).trans h.zero⟩
theorem Own0.next {P : Nat -> Nat} {q k : Nat} {e : TypeId} {cs : List Value} {w w' : World} (h : Own0 P q e cs w) (hb : Below w.heap.size w w') : Own0 (grown P w.heap.size k) q e cs w' := h.work (j := 1) (by decide) (Work.of_below hb) k
theorem Own0.made {P : Nat -> Nat} (w : World) (cs : List Value) (e : TypeId) : Own0 (grown P w.heap.size 0) w.heap.size e cs (w.alloc (.cells cs.toArray e)) := ⟨Row.made w cs e, grown_new (Nat.le_refl _)⟩
theorem work_put4 {P : Nat -> Nat} {q : Nat} (hq : P q = 0) (w : World) (x0 x1 x2 x3 : Value) : Work P 0 w ((((w.setCell ⟨q, 0, none⟩ x0).setCell ⟨q, 1, none⟩ x1).setCell ⟨q, 2, none⟩ x2).setCell ⟨q, 3, none⟩ x3) :=
 ⟨rfl, rfl, rfl, by simp, fun k hk hne => by
  have hkq : k ≠ q := fun hc => hne (by rw [hc]; exact hq)
  rw [Below.heap_setCell _ _ _ _ hkq, Below.heap_setCell _ _ _ _ hkq, Below.heap_setCell _ _ _ _ hkq, Below.heap_setCell _ _ _ _ hkq]⟩
theorem still_mine {P : Nat -> Nat} {i : Nat} {fx : Mfix} {s : Mst} {bx : Nat} {w : World} (hc : CodeG fx) (h : Sane fx s) (hdn : s.done = true) (n : Nat) (hm : Mine P i fx s bx w) :
 Calls Tryz.prog 21 #[.pointer (some ⟨bx, 0, none⟩), .int .i64 n] w fun e w' => ∃ r0 xv tv sv, e = .returned (.tuple #[.agg #[.int .i64 r0, xv, tv, sv], .int .i64 0]) /\ OutS w.heap.size 0 s r0 xv tv sv w' /\ Below w.heap.size w w' /\ Lab3 w.heap.size s xv tv sv w' := by
 obtain ⟨base, v, hM, hq⟩ := hm.ms
 obtain ⟨k1, k2, k3, k4⟩ := h.small hc
 exact run_still fx s hdn n k1 k2 k3 k4 base w bx v w hM
structure T3 (W : World) (P : Nat -> Nat) (fx : Mfix) (s1 s2 s3 : Mst) (b1 b2 b3 : Nat) (w : World) : Prop where
 g : Ground W P w
 m1 : Mine P 1 fx s1 b1 w
 m2 : Mine P 2 fx s2 b2 w
 m3 : Mine P 3 fx s3 b3 w
section
variable {W : World} {P : Nat -> Nat} {fx : Mfix} {s1 s2 s3 s' : Mst} {b1 b2 b3 : Nat} {w w' : World}
theorem T3.next (h : T3 W P fx s1 s2 s3 b1 b2 b3 w) (hb : Below w.heap.size w w') (k : Nat) : T3 W (grown P w.heap.size k) fx s1 s2 s3 b1 b2 b3 w' := ⟨h.g.next hb, h.m1.next hb, h.m2.next hb, h.m3.next hb⟩
theorem T3.run1 (h : T3 W P fx s1 s2 s3 b1 b2 b3 w) (hm : Mine (grown P w.heap.size 1) 1 fx s' b1 w') (hw : Work P 1 w w') : T3 W (grown P w.heap.size 1) fx s' s2 s3 b1 b2 b3 w' := ⟨h.g.work (by decide) hw, hm, h.m2.work (by decide) hw, h.m3.work (by decide) hw⟩
theorem T3.run2 (h : T3 W P fx s1 s2 s3 b1 b2 b3 w) (hm : Mine (grown P w.heap.size 2) 2 fx s' b2 w') (hw : Work P 2 w w') : T3 W (grown P w.heap.size 2) fx s1 s' s3 b1 b2 b3 w' := ⟨h.g.work (by decide) hw, h.m1.work (by decide) hw, hm, h.m3.work (by decide) hw⟩
theorem T3.run3 (h : T3 W P fx s1 s2 s3 b1 b2 b3 w) (hm : Mine (grown P w.heap.size 3) 3 fx s' b3 w') (hw : Work P 3 w w') : T3 W (grown P w.heap.size 3) fx s1 s2 s' b1 b2 b3 w' := ⟨h.g.work (by decide) hw, h.m1.work (by decide) hw, h.m2.work (by decide) hw, hm⟩
theorem T3.put4 (h : T3 W P fx s1 s2 s3 b1 b2 b3 w) {q : Nat} (hq : P q = 0) (hW : W.heap.size <= q) (x0 x1 x2 x3 : Value) : T3 W (grown P w.heap.size 0) fx s1 s2 s3 b1 b2 b3 ((((w.setCell ⟨q, 0, none⟩ x0).setCell ⟨q, 1, none⟩ x1).setCell ⟨q, 2, none⟩ x2).setCell ⟨q, 3, none⟩ x3) := by
 have hw := work_put4 (P := P) hq w x0 x1 x2 x3
 exact ⟨⟨(((h.g.bel.setCell hW x0).setCell hW x1).setCell hW x2).setCell hW x3, fun q' hq' => (grown_old (Nat.lt_of_lt_of_le hq' h.g.bel.size)).trans (h.g.zero q' hq')⟩, h.m1.work (by decide) hw, h.m2.work (by decide) hw, h.m3.work (by decide) hw⟩
end
theorem stepsF_next (fx : Mfix) : ∀ (n : Nat) (s : Mst), (stepsF fx n s).1 = 0 -> stepsF fx (n + 1) s = stepF fx (stepsF fx n s).2
 | 0, s, _ => by
   show (if (stepF fx s).1 = 0 then ((0 : Int), (stepF fx s).2) else stepF fx s) = stepF fx s
   split
   ·rename_i h
    exact Prod.ext h.symm rfl
   ·rfl
 | n + 1, s, h => by
   have e1 : stepsF fx (n + 1) s = if (stepF fx s).1 = 0 then stepsF fx n (stepF fx s).2 else stepF fx s := by rw [stepsF]
   have e2 : stepsF fx (n + 1 + 1) s = if (stepF fx s).1 = 0 then stepsF fx (n + 1) (stepF fx s).2 else stepF fx s := by rw [stepsF]
   rw [e1] at h
   rw [e2, e1]
   by_cases h0 : (stepF fx s).1 = 0
   ·rw [if_pos h0] at h
    rw [if_pos h0, if_pos h0]
    exact stepsF_next fx n _ h
   ·rw [if_neg h0] at h
    exact absurd h h0
theorem stepsF_stop (fx : Mfix) (m : Nat) : ∀ (n : Nat) (s : Mst), (stepsF fx n s).1 ≠ 0 -> stepsF fx (n + m) s = stepsF fx n s
 | 0, s, h => absurd rfl h
 | n + 1, s, h => by
   have e1 : stepsF fx (n + 1) s = if (stepF fx s).1 = 0 then stepsF fx n (stepF fx s).2 else stepF fx s := by rw [stepsF]
   have e2 : stepsF fx (n + 1 + m) s = if (stepF fx s).1 = 0 then stepsF fx (n + m) (stepF fx s).2 else stepF fx s := by
    rw [show n + 1 + m = n + m + 1 by omega, stepsF]
   rw [e1] at h
   rw [e2, e1]
   by_cases h0 : (stepF fx s).1 = 0
   ·rw [if_pos h0] at h
    rw [if_pos h0, if_pos h0]
    exact stepsF_stop fx m n _ h
   ·rw [if_neg h0, if_neg h0]
theorem stepsF_sane {fx : Mfix} (hc : CodeG fx) : ∀ (n : Nat) (s : Mst), Sane fx s -> Sane fx (stepsF fx n s).2 /\ (stepsF fx n s).2.steps <= s.steps + n
 | 0, s, h => ⟨h, by show s.steps <= s.steps + 0; omega⟩
 | n + 1, s, h => by
   have e1 : stepsF fx (n + 1) s = if (stepF fx s).1 = 0 then stepsF fx n (stepF fx s).2 else stepF fx s := by rw [stepsF]
   have hs := h.step hc
   obtain ⟨_, _, c3⟩ := count_G (s := s) hc h.at'
   rw [e1]
   by_cases h0 : (stepF fx s).1 = 0
   ·rw [if_pos h0]
    obtain ⟨g1, g2⟩ := stepsF_sane hc n _ hs
    exact ⟨g1, by push_cast; omega⟩
   ·rw [if_neg h0]
    exact ⟨hs, by push_cast; omega⟩
end Go.Proofs.YtdepknffpnnmmaaGreat
