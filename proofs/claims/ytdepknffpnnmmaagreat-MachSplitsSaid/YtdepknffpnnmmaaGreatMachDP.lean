import Derived.Test.YtdepknffpnnmmaaGreatMachDK
import Derived.Test.YtdepknffpnnmmaaGreatMachDL
set_option maxRecDepth 100000
namespace Go.Proofs.YtdepknffpnnmmaaGreat
open Go.RowKit
set_option linter.unusedVariables false
set_option linter.unusedSimpArgs false
section
variable {base : Nat} {w0 : World} {fx : Mfix} {s : Mst} {bx : Nat} {v : Mvals} {w w' : World}
theorem MS.rebase (h : MS base w0 fx s bx v w) : MS base w fx s bx v w :=
 ⟨Below.refl _ _, h.box, h.le, h.rb, h.codeS, h.unitsS, h.begin', h.ctxS, h.tabS, h.dataS, h.sizeS, h.sentS, h.slw, h.rgl⟩
theorem MS.apart (h : MS base w0 fx s bx v w) (hk : ∀ q, q < w.heap.size -> v.ρ q ≠ 9 -> w'.heap[q]? = w.heap[q]?) : MS base w' fx s bx { v with ρ := newRole v.ρ w.heap.size 9 } w' := by
 have hs : ∀ q, q < w.heap.size -> newRole v.ρ w.heap.size 9 q = v.ρ q := newRole_same
 have hm : ∀ {r : Nat} {e : TypeId} {size n : Nat} {x : Value} {xs : List Value}, r ≠ 9 -> OwnS w base v.ρ r e size x n xs -> OwnS w' base (newRole v.ρ w.heap.size 9) r e size x n xs := fun hr ho =>
  ho.move fun q hq hqr => ⟨hk q hq (by rw [hqr]; exact hr), (hs q hq).trans hqr⟩
 refine ⟨Below.refl _ _, (hk bx h.box.lt (by rw [h.rb]; decide)).trans h.box, h.le, (hs bx h.box.lt).trans h.rb, hm (by decide) h.codeS, hm (by decide) h.unitsS,
  ⟨(hk v.mb h.begin'.lt (by rw [h.begin'.role]; decide)).trans h.begin'.at', h.begin'.le, (hs v.mb h.begin'.lt).trans h.begin'.role⟩, hm (by decide) h.ctxS,
  ⟨hm (by decide) h.tabS.list, fun k hk' => ?_⟩, hm (by decide) h.dataS, hm (by decide) h.sizeS, hm (by decide) h.sentS, h.slw, h.rgl⟩
 obtain ⟨u, hu, ho⟩ := h.tabS.item k hk'
 exact ⟨u, hu, hm (by omega) ho⟩
theorem MS.mask (h : MS base w0 fx s bx v w) : MS base w0 fx s bx { v with ρ := fun q => if q < base then 9 else v.ρ q } w := by
 have hm : ∀ {r : Nat} {e : TypeId} {size n : Nat} {x : Value} {xs : List Value}, OwnS w base v.ρ r e size x n xs -> OwnS w base (fun q => if q < base then 9 else v.ρ q) r e size x n xs := fun ho =>
  ⟨ho.1, fun b hb => by
   have hlt := (ho.1.lt b hb).1
   have h1 := ho.2 b hb
   show (if b < base then 9 else v.ρ b) = _
   rw [if_neg (by omega)]
   exact h1⟩
 refine ⟨h.bel, h.box, h.le, ?_, hm h.codeS, hm h.unitsS, ⟨h.begin'.at', h.begin'.le, ?_⟩, hm h.ctxS, ⟨hm h.tabS.list, fun k hk' => ?_⟩, hm h.dataS, hm h.sizeS, hm h.sentS, h.slw, h.rgl⟩
 ·show (if bx < base then 9 else v.ρ bx) = 0
  rw [if_neg (by have := h.le; omega)]
  exact h.rb
 ·show (if v.mb < base then 9 else v.ρ v.mb) = 8
  rw [if_neg (by have := h.begin'.le; omega)]
  exact h.begin'.role
 ·obtain ⟨u, hu, ho⟩ := h.tabS.item k hk'
  exact ⟨u, hu, hm ho⟩
end
structure Mine (P : Nat -> Nat) (i : Nat) (fx : Mfix) (s : Mst) (bx : Nat) (w : World) : Prop where
 ms : ∃ base v, MS base w fx s bx v w /\ ∀ q, q < w.heap.size -> P q ≠ i -> v.ρ q = 9
def grown (P : Nat -> Nat) (n i : Nat) : Nat -> Nat := fun q => if q < n then P q else i
theorem Mine.next {P : Nat -> Nat} {i k : Nat} {fx : Mfix} {s : Mst} {bx : Nat} {w w' : World} (h : Mine P i fx s bx w) (hb : Below w.heap.size w w') : Mine (grown P w.heap.size k) i fx s bx w' := by
 obtain ⟨base, v, hm, hq⟩ := h.ms
 refine ⟨base, _, hm.apart (fun q hq _ => hb.block q hq), fun q hq' hP => ?_⟩
 show newRole v.ρ w.heap.size 9 q = 9
 by_cases hlt : q < w.heap.size
 ·rw [newRole_same q hlt]
  unfold grown at hP
  rw [if_pos hlt] at hP
  exact hq q hlt hP
 ·unfold newRole
  rw [if_pos (by omega)]
theorem Mine.other {P : Nat -> Nat} {i j : Nat} (hij : i ≠ j) {fx : Mfix} {s : Mst} {bx : Nat} {w w' : World} (h : Mine P i fx s bx w) {ρ : Nat -> Nat} (hj : ∀ q, q < w.heap.size -> P q ≠ j -> ρ q = 9) (hf : Fr9 ρ w w') : Mine (grown P w.heap.size j) i fx s bx w' := by
 obtain ⟨base, v, hm, hq⟩ := h.ms
 refine ⟨base, _, hm.apart (fun q hlt hne => ?_), fun q hq' hP => ?_⟩
 ·have hPi : P q = i := by
   by_cases hP : P q = i
   ·exact hP
   ·exact absurd (hq q hlt hP) hne
  exact hf q hlt (by rw [hj q hlt (by omega)]; exact Or.inl rfl)
 ·show newRole v.ρ w.heap.size 9 q = 9
  by_cases hlt : q < w.heap.size
  ·rw [newRole_same q hlt]
   unfold grown at hP
   rw [if_pos hlt] at hP
   exact hq q hlt hP
  ·unfold newRole
   rw [if_pos (by omega)]
theorem Mine.done {P : Nat -> Nat} {i : Nat} {fx : Mfix} {s' : Mst} {bx : Nat} {w w' : World} {base : Nat} {w0 : World} {v v' : Mvals} (hj : ∀ q, q < w.heap.size -> P q ≠ i -> v.ρ q = 9) (hm : MS base w0 fx s' bx v' w') (hro : ∀ k, k < w.heap.size -> v'.ρ k = v.ρ k) : Mine (grown P w.heap.size i) i fx s' bx w' := by
 refine ⟨base, v', hm.rebase, fun q hq' hP => ?_⟩
 unfold grown at hP
 by_cases hlt : q < w.heap.size
 ·rw [if_pos hlt] at hP
  rw [hro q hlt]
  exact hj q hlt hP
 ·rw [if_neg hlt] at hP
  exact absurd rfl hP
theorem Mine.born {P : Nat -> Nat} {i : Nat} {fx : Mfix} {s : Mst} {bx : Nat} {w0 w' : World} {v : Mvals} (hm : MS w0.heap.size w0 fx s bx v w') : Mine (grown P w0.heap.size i) i fx s bx w' := by
 refine ⟨_, _, hm.mask.rebase, fun q hq' hP => ?_⟩
 unfold grown at hP
 show (if q < w0.heap.size then 9 else v.ρ q) = 9
 by_cases hlt : q < w0.heap.size
 ·rw [if_pos hlt]
 ·rw [if_neg hlt] at hP
  exact absurd rfl hP
theorem code_G {p : Prg} (hm : p.made) (him : ∀ i ∈ p.code, i64r i.imm) : CodeG ⟨p.data, p.tabs, p.code⟩ := by
 obtain ⟨⟨m1, m2, m3, m4, m5, m6⟩, m7, m8, m9⟩ := hm
 refine ⟨m8.1, fun i hi => ?_, m5⟩
 obtain ⟨k, hk, rfl⟩ := List.getElem_of_mem hi
 exact insOK_of_right _ _ (m8.2 k hk) (him _ hi) (m9 k hk)
theorem sane_G {p : Prg} {ctx : List Int} {rows : List (List Int)} (hm : p.made) (hf : fitsP p.lo p.hi p.tabs ctx.length rows) (hd : IsBytes p.data) (hc : IsBytes ctx) (hr : ∀ k (h : k < rows.length), IsBytes rows[k]) : Sane ⟨p.data, p.tabs, p.code⟩ (stG ctx rows) := by
 obtain ⟨⟨m1, m2, m3, m4, m5, m6⟩, m7, m8, m9⟩ := hm
 obtain ⟨⟨f1, f2, f3⟩, f4⟩ := hf
 have hcl : ctx.length <= 65535 := by omega
 have hz : ∀ x ∈ (stG ctx rows).sl, x = noslot := fun x hx => List.eq_of_mem_replicate hx
 have hget : ∀ k (h : k < p.tabs.length), p.tabs.getD k (0, 0) = p.tabs[k] := fun k h => by rw [List.getD_eq_getElem?_getD, List.getElem?_eq_getElem h]; rfl
 refine ⟨⟨⟨fun x hx => ?_, hc, hcl, hd, m4, f3, fun k hk => ?_, fun k hk => ?_⟩, ⟨rfl, fun u hu => ?_⟩, slots_zero, fun x hx hk => ?_, ⟨by show (0 : Nat) <= 64; decide, fun x hx => absurd hx (by simp [stG])⟩⟩, m6, by show (0 : Int) <= 0; decide⟩
 ·rw [hz x hx]
  exact ⟨by unfold IsBytes; decide, by decide, by decide⟩
 ·show 1 <= (p.tabs.getD k (0, 0)).1 /\ (p.tabs.getD k (0, 0)).1 <= 64 /\ 1 <= (p.tabs.getD k (0, 0)).2 /\ (p.tabs.getD k (0, 0)).2 <= 64
  rw [hget k hk]
  exact m7 k hk
 ·have hk' : k < rows.length := hk
  refine ⟨hr k hk', ?_⟩
  show (rows[k].length : Int) = (p.tabs.getD k (0, 0)).1 * (p.tabs.getD k (0, 0)).2
  rw [hget k (by omega)]
  exact f4 k (by omega) hk'
 ·have : u = noval ∨ u = ⟨3, 0, 0, 0⟩ ∨ u = nval ctx.length ∨ u = ⟨2, 0, 0, 256⟩ := by
   simp only [stG, rg0, List.mem_cons, List.not_mem_nil, or_false] at hu
   rcases hu with h | h | h | h | h | h | h | h | h | h | h
   all_goals first
    | exact Or.inl h
    | exact Or.inr (Or.inl h)
    | exact Or.inr (Or.inr (Or.inl h))
    | exact Or.inr (Or.inr (Or.inr h))
  rcases this with rfl | rfl | rfl | rfl
  ·exact RegOK.none _
  ·exact PtrOK.reg ⟨by show (2 : Int) <= 3 /\ (3 : Int) <= 5; decide, by show -1048576 <= (0 : Int) /\ (0 : Int) <= 1048576; decide, fun h => absurd (show (3 : Int) = 5 from h) (by decide)⟩
  ·exact RegOK.num _ (by unfold i64r; omega)
  ·exact PtrOK.reg ⟨by show (2 : Int) <= 2 /\ (2 : Int) <= 5; decide, by show -1048576 <= (256 : Int) /\ (256 : Int) <= 1048576; decide, fun h => absurd (show (2 : Int) = 5 from h) (by decide)⟩
 ·rw [hz x hx] at hk
  exact absurd rfl hk
theorem step_ended {fx : Mfix} {s : Mst} (hd : s.done = true) : StepR fx s 4 s := by
 intro base w0 bx v w hM
 obtain ⟨t0, t1, t2, t3⟩ := hM.tail
 rw [hd] at t3
 have HM := Lib.hid hM
 have hlt := hM.box.lt
 clear hM t0 t1 t2
 go_enter Tryz.func23, Tryz.ntmps23
 go_wp2_with fail
 exact bodyPost_ret (v := .int .i64 4) (by simp [results, Tryz.results23, go_sem]) rfl ⟨rfl, v, HM.out, fun q _ _ => rfl, fun _ _ => rfl⟩
theorem step_any {fx : Mfix} {s : Mst} (hc : CodeG fx) (h : Sane fx s) (hs : s.steps < 4611686018427387904) : StepR fx s (stepF fx s).1 (stepF fx s).2 := by
 cases hd : s.done with
 | true =>
   rw [step_done fx s hd]
   exact step_ended hd
 | false => exact step_G hc h.good h.at' hd ⟨h.steps, hs⟩
end Go.Proofs.YtdepknffpnnmmaaGreat
