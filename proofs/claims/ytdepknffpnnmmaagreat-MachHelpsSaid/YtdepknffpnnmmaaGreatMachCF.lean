/-
  What MachHelps' walk keeps; pieces of slices; a copy of nothing.
-/
import Derived.Test.YtdepknffpnnmmaaGreatMachCE
import Derived.Test.YtdepknffpnnmmaaGreatMachBN
import Derived.Laws.CopyOwn
namespace Go.Proofs.YtdepknffpnnmmaaGreat
open Go.RowKit
set_option linter.unusedVariables false
set_option linter.unusedSimpArgs false

/-- Rows, and slices of bytes (of an output: where it bears no trap). -/
structure KH (w : World) (rows : List (Nat × TypeId × List Value)) (helds : List (Int × Value × List Int)) (wx : World) : Prop where
  bel : Below w.heap.size w wx
  rows : ∀ r ∈ rows, Row wx r.1 r.2.1 r.2.2
  helds : ∀ p ∈ helds, p.1 = 0 → Held wx p.2.1 p.2.2
section
variable {w w1 w2 : World} {rows : List (Nat × TypeId × List Value)} {helds : List (Int × Value × List Int)}
theorem KH.next (h : KH w rows helds w1) (hb : Below w1.heap.size w1 w2) : KH w rows helds w2 :=
  ⟨h.bel.trans (hb.mono h.bel.size), fun r hr => (h.rows r hr).below hb (h.rows r hr).lt, fun p hp h0 => (h.helds p hp h0).below hb (Nat.le_refl _)⟩
theorem KH.row (h : KH w rows helds w1) {b : Nat} {t : TypeId} {cs : List Value} (hm : (b, t, cs) ∈ rows) : Row w1 b t cs := h.rows _ hm
theorem KH.held (h : KH w rows helds w1) {e : Int} {v : Value} {xs : List Int} (hm : (e, v, xs) ∈ helds) (h0 : e = 0) : Held w1 v xs := h.helds _ hm h0
theorem KH.addRow (h : KH w rows helds w1) {b : Nat} {t : TypeId} {cs : List Value} (hr : Row w1 b t cs) : KH w ((b, t, cs) :: rows) helds w1 :=
  ⟨h.bel, fun r hm => by
    rcases List.mem_cons.1 hm with rfl | hm
    · exact hr
    · exact h.rows r hm, h.helds⟩
theorem KH.addHeld (h : KH w rows helds w1) {e : Int} {v : Value} {xs : List Int} (hv : e = 0 → Held w1 v xs) : KH w rows ((e, v, xs) :: helds) w1 :=
  ⟨h.bel, h.rows, fun p hm h0 => by
    rcases List.mem_cons.1 hm with rfl | hm
    · exact hv h0
    · exact h.helds p hm h0⟩
end
theorem mem0 {α : Type} {x : α} {l : List α} : x ∈ x :: l := List.mem_cons_self ..
theorem mem1 {α : Type} {x a : α} {l : List α} : x ∈ a :: x :: l := List.mem_cons_of_mem _ mem0
theorem mem2 {α : Type} {x a b : α} {l : List α} : x ∈ a :: b :: x :: l := List.mem_cons_of_mem _ mem1
theorem mem3 {α : Type} {x a b c : α} {l : List α} : x ∈ a :: b :: c :: x :: l := List.mem_cons_of_mem _ mem2
theorem mem4 {α : Type} {x a b c d : α} {l : List α} : x ∈ a :: b :: c :: d :: x :: l := List.mem_cons_of_mem _ mem3
theorem mem5 {α : Type} {x a b c d e : α} {l : List α} : x ∈ a :: b :: c :: d :: e :: x :: l := List.mem_cons_of_mem _ mem4
/-- A box's row and what has been made since. -/
structure BX (w1 : World) (q : Nat) (e : TypeId) (cs : List Value) (wx : World) : Prop where
  bel : Below w1.heap.size w1 wx
  row : Row wx q e cs
  le : w1.heap.size ≤ q
theorem BX.next {w1 w2 wx : World} {q : Nat} {e : TypeId} {cs : List Value} (h : BX w1 q e cs w2) (hb : Below w2.heap.size w2 wx) : BX w1 q e cs wx := ⟨h.bel.trans (hb.mono h.bel.size), h.row.below hb h.row.lt, h.le⟩
theorem BX.put {w1 w2 : World} {q : Nat} {e : TypeId} {cs : List Value} (h : BX w1 q e cs w2) (i : Nat) (x : Value) : BX w1 q e (cs.set i x) (w2.setCell ⟨q, i, none⟩ x) := ⟨h.bel.setCell h.le x, h.row.put i x, h.le⟩
/-- A part of a slice of bytes. -/
theorem piece_slice {a : Option Addr} {N c : Nat} {cx : List Int} {w : World} (h : Held w (.slice a N c) cx) (hN : N = cx.length) (f k H : Nat) (hH : f + k = H) (hfit : H ≤ N) : ∃ A C, (∀ w', (Instr.slice 27 (.slice a N c) (some (.int .i64 f)) (some (.int .i64 H)) none).run Tryz.prog w' = .ok (.slice A k C) w') ∧ ∀ w', Held w' (.slice a N c) cx → Held w' (.slice A k C) ((cx.drop f).take k) := by
  subst hN
  obtain ⟨a', c', hv, h1, h2, _, _⟩ := h.open
  injection hv with e1 e2 e3
  subst e1 e3
  refine ⟨if c = f then a else a.map (·.add (f * 1)), c - f, fun w' => ?_, fun w' h' => ?_⟩
  · have hs := slice_lh a cx.length c f H (by omega) (by omega) w'
    rw [show H - f = k by omega] at hs
    exact hs
  · obtain ⟨a'', c'', hv, _, _, _, h4⟩ := h'.open
    injection hv with e1 e2 e3
    subst e1 e3
    rcases h4 with ⟨h0, ⟨rfl, rfl⟩ | ⟨a', rfl⟩⟩ | ⟨b, off, rfl, hlt, hcell⟩
    · obtain rfl : cx = [] := List.length_eq_zero_iff.1 h0
      obtain rfl : k = 0 := by omega
      obtain rfl : f = 0 := by omega
      exact ⟨fun x hx => (by simp at hx), Or.inl ⟨rfl, Or.inl rfl⟩⟩
    · obtain rfl : cx = [] := List.length_eq_zero_iff.1 h0
      obtain rfl : k = 0 := by omega
      obtain rfl : f = 0 := by omega
      refine ⟨fun x hx => (by simp at hx), Or.inl ⟨rfl, Or.inr ?_⟩⟩
      by_cases hc : c = 0
      · rw [if_pos hc]; exact ⟨_, _, rfl, by omega⟩
      · rw [if_neg hc]; exact ⟨_, _, rfl, by omega⟩
    · by_cases hc : c = f
      · rw [if_pos hc]
        obtain rfl : k = 0 := by omega
        exact ⟨fun x hx => (by simp at hx), Or.inl ⟨by simp, Or.inr ⟨_, _, rfl, by omega⟩⟩⟩
      · rw [if_neg hc, Option.map_some, add_addr, Nat.mul_one]
        exact held_part h'.bytes rfl h1 h2 hlt hcell f k (by omega)
theorem slice_lo (a : Option Addr) (len cap l : Nat) (h1 : l ≤ len) (w : World) :
    (Instr.slice 27 (.slice a len cap) (some (.int .i64 l)) none none).run Tryz.prog w = .ok (.slice (if cap = l then a else a.map (·.add (l * 1))) (len - l) (cap - l)) w := by
  have hs : (sizeOf (Tryz.prog.elem 27)).run Tryz.prog w = .ok 1 w := by kernel_rfl
  rw [run_slice_l w 27 a len cap (by kernel_rfl) .i64 l (by omega) (by omega), hs]
  rfl
theorem slice_at {g N c t : Nat} (h1 : t < N) (h2 : N ≤ c) (w : World) :
    (Instr.slice 27 (.slice (some ⟨g, 0, none⟩) N c) (some (.int .i64 t)) none none).run Tryz.prog w = .ok (.slice (some ⟨g, t, none⟩) (N - t) (c - t)) w := by
  rw [slice_lo _ _ _ _ (by omega), if_neg (by omega), Option.map_some, add_addr, Nat.zero_add, Nat.mul_one]
theorem step_copy_nothing {P : Program} {ops : Array Oper} {o : Oper} {a : Act} {w : World} {K : Act → World → Prop} {Q : Exit → Act → World → Prop} {E : Prop} (hgd : o.guard = none) (d s : Operand) (dT sT : TypeId)
    (ho : o.op = .call { callee := .builtin .copy, args := #[d, s], argTypes := #[dT, sT] }) (elem : TypeId) (hu : P.underlying dT = some (.slice elem)) (hsz : (P.info? elem).map (·.size) = some 1)
    (dp sp : Option Addr) (dLen dCap sLen sCap : Nat) (hd : a.eval d = .slice dp dLen dCap) (hs : a.eval s = .slice sp sLen sCap) (hn : Nat.min sLen dLen = 0) (h : K (a.put o.dst (goInt 0)) w) :
    if Region.wanted o (yielded ops a.tmps) = true then Oper.wp P o a w K Q else E := by
  have hw : Region.wanted o (yielded ops a.tmps) = true := by simp [Region.wanted, hgd]
  rw [if_pos hw]
  have hrun := run_copy_none (P := P) w dT sT o.type elem dp sp dLen dCap sLen sCap hu hsz hn
  unfold Oper.wp
  simp [execOp, ho, resolve, invoke, builtin, hd, hs, hrun, Result.andThen]
  exact h
theorem over_snoc (xs : List Int) (f i : Nat) (c : Int) (h : f + i < xs.length) : (overF xs f (List.replicate i c)).set (f + i) c = overF xs f (List.replicate (i + 1) c) := by
  unfold overF
  rw [List.length_replicate, List.length_replicate, List.replicate_succ']
  have h1 : (xs.take f ++ List.replicate i c).length = f + i := by rw [List.length_append, List.length_take, List.length_replicate]; omega
  rw [List.set_append_right _ _ (by omega), h1, Nat.sub_self, List.drop_eq_getElem_cons h, List.set_cons_zero]
  simp [List.append_assoc, Nat.add_assoc]
theorem u8s_set (xs : List Int) (rest : List Value) (i : Nat) (c : Int) (h : i < xs.length) : (u8s xs ++ rest).set i (.int .u8 c) = u8s (xs.set i c) ++ rest := by
  rw [List.set_append_left _ _ (by unfold u8s; rw [List.length_map]; exact h)]
  unfold u8s
  rw [List.map_set]
theorem rest_held {w : World} {g m cap : Nat} {e : TypeId} {zs : List Int} {rest : List Value} (h : Row w g e (u8s zs ++ rest)) (hm : m = zs.length) (hmc : m ≤ cap) (hcm : cap ≤ maxLen) (hb : IsBytes zs) : Held w (.slice (some ⟨g, 0, none⟩) m cap) zs := by
  subst hm
  exact held_row (xs := zs) (cap := cap) h hb hmc hcm (fun i hi => by
    rw [List.getElem?_append_left (by simp [u8s]; exact hi)]
    simp [u8s, List.getD, hi])
theorem rest_cells {w : World} {g : Nat} {e : TypeId} {zs : List Int} {rest : List Value} (h : Row w g e (u8s zs ++ rest)) : ∀ j u, (u8s zs)[j]? = some u → w.cell? ((⟨g, 0, none⟩ : Addr).add j) = some u := fun j u hj => by
  have hp : (⟨g, 0, none⟩ : Addr).add j = ⟨g, j, none⟩ := by unfold Addr.add; split <;> simp_all
  have hl : j < (u8s zs).length := by
    rcases Nat.lt_or_ge j (u8s zs).length with h' | h'
    · exact h'
    · rw [List.getElem?_eq_none h'] at hj; cases hj
  rw [hp, h.cell, List.getElem?_append_left hl, hj]
theorem rep_bytes (k : Nat) (c : Int) (h : 0 ≤ c ∧ c ≤ 255) : IsBytes (List.replicate k c) := fun x hx => by rw [List.eq_of_mem_replicate hx]; exact h
end Go.Proofs.YtdepknffpnnmmaaGreat
