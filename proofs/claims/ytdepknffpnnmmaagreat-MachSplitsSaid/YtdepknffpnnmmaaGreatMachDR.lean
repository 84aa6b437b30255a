import Derived.Test.YtdepknffpnnmmaaGreatMachDP
import Derived.Test.YtdepknffpnnmmaaGreatMachDJ
namespace Go.Proofs.YtdepknffpnnmmaaGreat
open Go.RowKit
set_option linter.unusedVariables false
set_option linter.unusedSimpArgs false
structure Work (P : Nat -> Nat) (i : Nat) (w w' : World) : Prop where
 os : w'.os = w.os
 tape : w'.tape = w.tape
 output : w'.output = w.output
 size : w.heap.size <= w'.heap.size
 keep : ∀ q, q < w.heap.size -> P q ≠ i -> w'.heap[q]? = w.heap[q]?
theorem Work.of_below {P : Nat -> Nat} {i : Nat} {w w' : World} (h : Below w.heap.size w w') : Work P i w w' := ⟨h.os, h.tape, h.output, h.size, fun q hq _ => h.block q hq⟩
theorem Mine.work {P : Nat -> Nat} {i j : Nat} (hij : i ≠ j) {fx : Mfix} {s : Mst} {bx : Nat} {w w' : World} (h : Mine P i fx s bx w) (hW : Work P j w w') : Mine (grown P w.heap.size j) i fx s bx w' := by
 obtain ⟨base, v, hm, hq⟩ := h.ms
 refine ⟨base, _, hm.apart (fun q hlt hne => ?_), fun q hq' hP => ?_⟩
 ·have hPi : P q = i := by
   by_cases hP : P q = i
   ·exact hP
   ·exact absurd (hq q hlt hP) hne
  exact hW.keep q hlt (by omega)
 ·show newRole v.ρ w.heap.size 9 q = 9
  by_cases hlt : q < w.heap.size
  ·rw [newRole_same q hlt]
   unfold grown at hP
   rw [if_pos hlt] at hP
   exact hq q hlt hP
  ·unfold newRole
   rw [if_pos (by omega)]
structure Ground (W : World) (P : Nat -> Nat) (w : World) : Prop where
 bel : Below W.heap.size W w
 zero : ∀ q, q < W.heap.size -> P q = 0
theorem Ground.begin (W : World) : Ground W (fun _ => 0) W := ⟨Below.refl _ _, fun _ _ => rfl⟩
theorem Ground.work {W : World} {P : Nat -> Nat} {i k : Nat} (hi : i ≠ 0) {w w' : World} (h : Ground W P w) (hW : Work P i w w') : Ground W (grown P w.heap.size k) w' :=
 ⟨⟨hW.os.trans h.bel.os, hW.tape.trans h.bel.tape, hW.output.trans h.bel.output, Nat.le_trans h.bel.size hW.size, fun q hq => (hW.keep q (Nat.lt_of_lt_of_le hq h.bel.size) (by rw [h.zero q hq]; omega)).trans (h.bel.block q hq)⟩, fun q hq => by
   unfold grown
   rw [if_pos (Nat.lt_of_lt_of_le hq h.bel.size)]
   exact h.zero q hq⟩
theorem Ground.next {W : World} {P : Nat -> Nat} {k : Nat} {w w' : World} (h : Ground W P w) (hb : Below w.heap.size w w') : Ground W (grown P w.heap.size k) w' := Ground.work (i := 1) (by decide) h (Work.of_below hb)
theorem grown_old {P : Nat -> Nat} {n i q : Nat} (h : q < n) : grown P n i q = P q := by unfold grown; rw [if_pos h]
theorem grown_new {P : Nat -> Nat} {n i q : Nat} (h : n <= q) : grown P n i q = i := by unfold grown; rw [if_neg (by omega)]
theorem Sane.small {fx : Mfix} {s : Mst} (hc : CodeG fx) (h : Sane fx s) : s.rows.length <= 1000000 /\ (∀ k (hk : k < s.rows.length), IsBytes s.rows[k] /\ s.rows[k].length <= 140737488355328) /\ s.ctx.length <= 65535 /\ s.sent.length <= 100000 := by
 have h1 := h.good.mem.rowsl
 have h2 := hc.tabs
 have h3 := h.good.sent.1
 exact ⟨by omega, fun k hk => ⟨(h.good.mem.rows k hk).1, row_small h.good.mem k hk⟩, h.good.mem.ctxl, by omega⟩
section
variable {P : Nat -> Nat} {i : Nat} {fx : Mfix} {s : Mst} {bx : Nat} {w : World}
theorem run_mine (hc : CodeG fx) (h : Sane fx s) (n : Nat) (hn : s.steps + n < 4611686018427387904) (hm : Mine P i fx s bx w) :
 Calls Tryz.prog 21 #[.pointer (some ⟨bx, 0, none⟩), .int .i64 n] w fun e w' => ∃ r0 xv tv sv, e = .returned (.tuple #[.agg #[.int .i64 r0, xv, tv, sv], .int .i64 (runF fx n s).1]) /\
  OutS w.heap.size (runF fx n s).1 (runF fx n s).2 r0 xv tv sv w' /\ Mine (grown P w.heap.size i) i fx (runF fx n s).2 bx w' /\ Work P i w w' := by
 obtain ⟨base, v, hM, hq⟩ := hm.ms
 obtain ⟨k1, k2, k3, k4⟩ := (Sane.run hc n s h).small hc
 refine (run_ofG fx s n (by have := h.steps; omega) _ _ (run_G hc n s h hn) k1 k2 k3 k4 base w bx v w hM).mono ?_
 rintro e w' ⟨r0, xv, tv, sv, he, hO, v', hM', hf, hro⟩
 exact ⟨r0, xv, tv, sv, he, hO, Mine.done hq hM' hro, ⟨hM'.bel.os, hM'.bel.tape, hM'.bel.output, hM'.bel.size, fun q hlt hP => hf q hlt (by rw [hq q hlt hP]; exact Or.inl rfl)⟩⟩
theorem step_mine (hc : CodeG fx) (h : Sane fx s) (hn : s.steps < 4611686018427387904) (hm : Mine P i fx s bx w) :
 Calls Tryz.prog 23 #[.pointer (some ⟨bx, 0, none⟩)] w fun e w' => e = .returned (.int .i64 (stepF fx s).1) /\ Mine (grown P w.heap.size i) i fx (stepF fx s).2 bx w' /\ Work P i w w' := by
 obtain ⟨base, v, hM, hq⟩ := hm.ms
 refine (step_any hc h hn base w bx v w hM).mono ?_
 rintro e w' ⟨he, v', hM', hf, hro⟩
 exact ⟨he, Mine.done hq hM' hro, ⟨hM'.bel.os, hM'.bel.tape, hM'.bel.output, hM'.bel.size, fun q hlt hP => hf q hlt (by rw [hq q hlt hP]; exact Or.inl rfl)⟩⟩
theorem state_mine (hc : CodeG fx) (h : Sane fx s) (hm : Mine P i fx s bx w) :
 Calls Tryz.prog 22 #[.pointer (some ⟨bx, 0, none⟩)] w fun e w' => ∃ xv tv sv, e = .returned (.agg (statec s xv tv sv).toArray) /\ StateA w s xv tv sv w' := by
 obtain ⟨base, v, hM, hq⟩ := hm.ms
 obtain ⟨k1, k2, k3, k4⟩ := h.small hc
 exact state_of fx s k3 k4 k1 k2 base w bx v w hM
end
theorem OutS.keep {base : Nat} {er : Int} {s : Mst} {r0 : Int} {xv tv sv : Value} {w w' : World} (h : OutS base er s r0 xv tv sv w) (hk : ∀ q, base <= q -> q < w.heap.size -> w'.heap[q]? = w.heap[q]?) : OutS base er s r0 xv tv sv w' := by
 have hst : ∀ {e : TypeId} {size n : Nat} {x : Value} {xs : List Value}, w.ownsRow base e size x n xs -> w'.ownsRow base e size x n xs := fun ho => ownsRow_stayS ho fun b hb => hk b (ho.lt b hb).1 (ho.lt b hb).2
 refine ⟨h.shx, h.sht, h.shs, h.fail, h.r0, fun he => hst (h.ctx he), fun he => hst (h.sent he), fun he => ?_⟩
 obtain ⟨ρ, vals, hT⟩ := h.tabs he
 exact ⟨ρ, vals, ⟨⟨hst hT.list.1, hT.list.2⟩, fun k hk' => let ⟨u, hu, ho⟩ := hT.item k hk'; ⟨u, hu, ⟨hst ho.1, ho.2⟩⟩⟩⟩
theorem Lab3.keep {base : Nat} {s : Mst} {xv tv sv : Value} {w w' : World} (h : Lab3 base s xv tv sv w) (hk : ∀ q, base <= q -> q < w.heap.size -> w'.heap[q]? = w.heap[q]?) : Lab3 base s xv tv sv w' := by
 have hst : ∀ {f : Nat -> Nat} {r : Nat} {e : TypeId} {size n : Nat} {x : Value} {xs : List Value}, OwnS w base f r e size x n xs -> OwnS w' base f r e size x n xs := fun ho => ⟨ownsRow_stayS ho.1 fun b hb => hk b (ho.1.lt b hb).1 (ho.1.lt b hb).2, ho.2⟩
 obtain ⟨f, vals, h1, h2, h3⟩ := h.at'
 exact ⟨f, vals, hst h1, ⟨hst h2.list, fun k hk' => let ⟨u, hu, ho⟩ := h2.item k hk'; ⟨u, hu, hst ho⟩⟩, hst h3⟩
theorem StateA.keep {w s' : World} {s : Mst} {xv tv sv : Value} {w1 w2 : World} (h : StateA w s xv tv sv w1) (hb : Below w1.heap.size w1 w2) : StateA w s xv tv sv w2 := by
 have hst : ∀ {e : TypeId} {size n : Nat} {x : Value} {xs : List Value}, w1.ownsRow w.heap.size e size x n xs -> w2.ownsRow w.heap.size e size x n xs := fun ho => own_stays ho hb (Nat.le_refl _)
 obtain ⟨ρ, vals, hT⟩ := h.tabs
 exact ⟨h.bel.trans (hb.mono h.bel.size), hst h.ctx, ⟨ρ, vals, ⟨⟨hst hT.list.1, hT.list.2⟩, fun k hk' => let ⟨u, hu, ho⟩ := hT.item k hk'; ⟨u, hu, ⟨hst ho.1, ho.2⟩⟩⟩⟩, hst h.sent, h.shx, h.sht, h.shs, h.lab.keep fun q _ hq => hb.block q hq⟩
theorem ints_own {w : World} {base : Nat} {v : Value} {xs : List Int} (h : w.ownsRow base 3 1 v xs.length (i64s xs)) : Ints w v xs := by
 have h0 := reads_own h (i64s_one _) (by decide)
 obtain ⟨hl, h1, ⟨hz, a, cap, rfl, hm⟩ | ⟨hp, b, off, cap, rfl, hlt, hm, hc, hcell⟩⟩ := h0
 ·have : xs = [] := List.length_eq_zero_iff.1 hz
  subst this
  exact Or.inl ⟨rfl, a, cap, rfl⟩
 ·refine Or.inr ⟨hp, b, off, cap, rfl, hlt, fun i hi => hcell i _ ?_⟩
  unfold i64s
  rw [List.getElem?_map, List.getElem?_eq_getElem hi]
  simp [List.getD, hi]
theorem OutS.reads {base : Nat} {s : Mst} {r0 : Int} {xv tv sv : Value} {w : World} (h : OutS base 0 s r0 xv tv sv w) (hx : IsBytes s.ctx) (hr : ∀ k (hk : k < s.rows.length), IsBytes s.rows[k]) :
 ∃ a n b m c k vals, xv = .slice a s.ctx.length n /\ tv = .slice b s.rows.length m /\ sv = .slice c s.sent.length k /\ Held w xv s.ctx /\ Rowed w tv vals s.rows /\ Ints w sv s.sent := by
 obtain ⟨ρ, vals, hT⟩ := h.tabs rfl
 obtain ⟨a, n, e1⟩ := own_slice (h.ctx rfl)
 obtain ⟨b, m, e2⟩ := own_slice hT.list.1
 obtain ⟨c, k, e3⟩ := own_slice (h.sent rfl)
 exact ⟨a, n, b, m, c, k, vals, e1, e2, e3, held_of_own (h.ctx rfl) hx rfl, rowed_tabU hT hr, ints_own (h.sent rfl)⟩
theorem StateA.reads {w : World} {s : Mst} {xv tv sv : Value} {w' : World} (h : StateA w s xv tv sv w') (hx : IsBytes s.ctx) (hr : ∀ k (hk : k < s.rows.length), IsBytes s.rows[k]) :
 ∃ a n b m c k vals, xv = .slice a s.ctx.length n /\ tv = .slice b s.rows.length m /\ sv = .slice c s.sent.length k /\ Held w' xv s.ctx /\ Rowed w' tv vals s.rows /\ Ints w' sv s.sent := by
 obtain ⟨ρ, vals, hT⟩ := h.tabs
 obtain ⟨a, n, e1⟩ := own_slice h.ctx
 obtain ⟨b, m, e2⟩ := own_slice hT.list.1
 obtain ⟨c, k, e3⟩ := own_slice h.sent
 exact ⟨a, n, b, m, c, k, vals, e1, e2, e3, held_of_own h.ctx hx rfl, rowed_tabU hT hr, ints_own h.sent⟩
theorem states_same {s : Mst} {fx : Mfix} (hc : CodeG fx) (hs : Sane fx s) {w1 w2 : World} {x1 t1 s1 x2 t2 s2 : Value} {w : World} (h1 : StateA w1 s x1 t1 s1 w) (h2 : StateA w2 s x2 t2 s2 w) :
 Calls Tryz.prog 25 #[.agg (statec s x1 t1 s1).toArray, .agg (statec s x2 t2 s2).toArray] w fun e w' => e = .returned (.bool true) /\ Below w.heap.size w w' := by
 have hx := hs.good.mem.ctx
 have hr : ∀ k (hk : k < s.rows.length), IsBytes s.rows[k] := fun k hk => (hs.good.mem.rows k hk).1
 obtain ⟨k1, k2, k3, k4⟩ := hs.small hc
 obtain ⟨a, n, b, m, c, k, va, rfl, rfl, rfl, g1, g2, g3⟩ := h1.reads hx hr
 obtain ⟨a', n', b', m', c', k', vb, rfl, rfl, rfl, g4, g5, g6⟩ := h2.reads hx hr
 exact same_state s hs.good.regs.1 hs.good.slots (by rw [regc_len, hs.good.regs.1]) hs.good.slots.len a b c a' b' c' n m k n' m' k' va vb (by omega) (by omega) w g1 g2 g3 g4 g5 g6
theorem outs_same {s : Mst} {fx : Mfix} (hc : CodeG fx) (hs : Sane fx s) {b1 b2 : Nat} {r0 r1 : Int} {x1 t1 s1 x2 t2 s2 : Value} {er : Int} {w : World} (h1 : OutS b1 er s r0 x1 t1 s1 w) (h2 : OutS b2 er s r1 x2 t2 s2 w) :
 Calls Tryz.prog 24 #[.agg #[.int .i64 r0, x1, t1, s1], .agg #[.int .i64 r1, x2, t2, s2]] w fun e w' => e = .returned (.bool true) /\ Below w.heap.size w w' := by
 by_cases he : er = 0
 ·subst he
  have hx := hs.good.mem.ctx
  have hr : ∀ k (hk : k < s.rows.length), IsBytes s.rows[k] := fun k hk => (hs.good.mem.rows k hk).1
  obtain ⟨k1, k2, k3, k4⟩ := hs.small hc
  have hl0 : 0 < s.rg.length := by rw [hs.good.regs.1]; decide
  have e0 : r0 = r1 := (h1.r0 rfl _ (List.getElem?_eq_getElem hl0)).trans (h2.r0 rfl _ (List.getElem?_eq_getElem hl0)).symm
  subst e0
  obtain ⟨a, n, b, m, c, k, va, rfl, rfl, rfl, g1, g2, g3⟩ := h1.reads hx hr
  obtain ⟨a', n', b', m', c', k', vb, rfl, rfl, rfl, g4, g5, g6⟩ := h2.reads hx hr
  exact same_output r0 a b c a' b' c' n m k n' m' k' s.ctx s.sent s.rows va vb (by omega) (by omega) w g1 g2 g3 g4 g5 g6
 ·obtain ⟨rfl, rfl, rfl, rfl⟩ := h1.fail he
  obtain ⟨rfl, rfl, rfl, rfl⟩ := h2.fail he
  have hr : Rowed w (.slice none ([] : List (List Int)).length 0) [] [] := ⟨⟨rfl, fun u hu => (by cases hu), Or.inl ⟨rfl, _, _, rfl, by decide⟩⟩, fun i h => absurd h (by simp)⟩
  exact same_output 0 none none none none none none 0 0 0 0 0 0 [] [] [] [] [] (by decide) (by decide) w (held_nil w) hr (Or.inl ⟨rfl, _, _, rfl⟩) (held_nil w) hr (Or.inl ⟨rfl, _, _, rfl⟩)
end Go.Proofs.YtdepknffpnnmmaaGreat
