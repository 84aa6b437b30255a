/-
  The Book's Own and Done: the heap between two steps.
-/
import Derived.Test.YtcjomhmpebhhlaaLedC
namespace Go.Proofs.Ytcjomhmpebhhlaa.Led
open Go.RowKit
set_option linter.unusedVariables false

/-- The book's heap while it takes one more list. -/
structure Mid (w : World) (base hb : Nat) (ρ : Nat → Nat) (cnt tot : Int) (vf vw vk vn : Value) (FV WV : List Value) (F : List (Value × List Int)) (ws : List Value) (K : List (Value × Nat × Nat)) (A : List (Value × List Value × TypeId)) : Prop where
  row : Row w hb 49 [.int .i64 tot, vf, vw, vk, vn, .bool false]
  rol : ρ hb = 0
  low : base ≤ hb
  fresh : Own1 w base ρ 1 24 vf FV
  was : Own1 w base ρ 4 24 vw WV
  kept : Own1 w base ρ 2 24 vk (K.map (·.1))
  nums : Own1 w base ρ 3 3 vn (K.map fun (x : Value × Nat × Nat) => Value.int .i64 (x.2.1 : Int))
  item : ∀ (i : Nat) (x : Value × List Int), F[i]? = some x → Own1 w base ρ (10 + i) 3 x.1 (x.2.map (Value.int .i64)) ∧ AnyInts x.2
  copy : ∀ (i : Nat) (v : Value) (x : Value × List Int), ws[i]? = some v → F[i]? = some x → Own1 w base ρ 9 3 v (x.2.map (Value.int .i64))
  done : ∀ x ∈ K, Own1 w base ρ 9 3 x.1 (ownl x.2.1 x.2.2)
  side : ∀ (j : Nat) (y : Value × List Value × TypeId), A[j]? = some y → Own1 w base ρ (1000 + j) y.2.2 y.1 y.2.1

section
variable {w w' : World} {base hb : Nat} {ρ ρ' : Nat → Nat} {cnt tot : Int} {vf vw vk vn : Value} {FV WV : List Value} {F : List (Value × List Int)} {ws : List Value} {K : List (Value × Nat × Nat)} {A : List (Value × List Value × TypeId)}
/-- Everything stays where the heap and the roles stay. -/
theorem Mid.move (h : Mid w base hb ρ cnt tot vf vw vk vn FV WV F ws K A) (hf : ∀ q, q < w.heap.size → w'.heap[q]? = w.heap[q]? ∧ ρ' q = ρ q) : Mid w' base hb ρ' cnt tot vf vw vk vn FV WV F ws K A := by
  have hm : ∀ {r : Nat} {e : TypeId} {u : Value} {xs : List Value}, Own1 w base ρ r e u xs → Own1 w' base ρ' r e u xs := fun ho => ho.move fun q hq hr => ⟨(hf q hq).1, (hf q hq).2.trans hr⟩
  refine ⟨?_, ?_, h.low, hm h.fresh, hm h.was, hm h.kept, hm h.nums, fun i x hx => ⟨hm (h.item i x hx).1, (h.item i x hx).2⟩, fun i v x hv hx => hm (h.copy i v x hv hx), fun x hx => hm (h.done x hx), fun j y hy => hm (h.side j y hy)⟩
  · have := h.row
    unfold Row at this ⊢
    rw [(hf hb h.row.lt).1]; exact this
  · rw [(hf hb h.row.lt).2]; exact h.rol
theorem Mid.calm (h : Mid w base hb ρ cnt tot vf vw vk vn FV WV F ws K A) (hc : Calm w w') : Mid w' base hb ρ cnt tot vf vw vk vn FV WV F ws K A := h.move fun q _ => ⟨by rw [hc.heap], rfl⟩
theorem Mid.alloc (h : Mid w base hb ρ cnt tot vf vw vk vn FV WV F ws K A) (o : Obj) : Mid (w.alloc o) base hb ρ cnt tot vf vw vk vn FV WV F ws K A := h.move fun q hq => ⟨Below.heap_alloc _ _ _ hq, rfl⟩
/-- New blocks are only read. -/
theorem Mid.news (h : Mid w base hb ρ cnt tot vf vw vk vn FV WV F ws K A) (hB : Below w.heap.size w w') : Mid w' base hb (fun q => if w.heap.size ≤ q then 9 else ρ q) cnt tot vf vw vk vn FV WV F ws K A :=
  h.move fun q hq => ⟨hB.block q hq, by show (if w.heap.size ≤ q then 9 else ρ q) = ρ q; rw [if_neg (by omega)]⟩
theorem Mid.total (h : Mid w base hb ρ cnt tot vf vw vk vn FV WV F ws K A) (c' : Int) : Mid (w.setCell ⟨hb, 0, none⟩ (.int .i64 c')) base hb ρ cnt c' vf vw vk vn FV WV F ws K A := by
  have hm : ∀ {r : Nat} {e : TypeId} {u : Value} {xs : List Value}, r ≠ 0 → Own1 w base ρ r e u xs → Own1 (w.setCell ⟨hb, 0, none⟩ (.int .i64 c')) base ρ r e u xs := fun hr ho => ho.set (a := ⟨hb, 0, none⟩) (by show ρ hb ≠ _; rw [h.rol]; exact fun e => hr e.symm) _
  exact ⟨h.row.put 0 _, h.rol, h.low, hm (by omega) h.fresh, hm (by omega) h.was, hm (by omega) h.kept, hm (by omega) h.nums, fun i x hx => ⟨hm (by omega) (h.item i x hx).1, (h.item i x hx).2⟩, fun i v x hv hx => hm (by omega) (h.copy i v x hv hx), fun x hx => hm (by omega) (h.done x hx), fun j y hy => hm (by omega) (h.side j y hy)⟩
theorem Mid.growFresh {row : Option Nat} {g cap N : Nat} {FV' : List Value} (h : Mid w base hb ρ cnt tot vf vw vk vn FV WV F ws K A) (hg : w.grownBy w' row) (hrow : ∀ b, row = some b → ρ b = 1) (hnew : row = some g ∨ g = w.heap.size)
    (hN : FV'.length = N) (hk : w'.ownsRow base 24 1 (.slice (some ⟨g, 0, none⟩) N cap) N FV') :
    Mid (w'.setCell ⟨hb, 1, none⟩ (.slice (some ⟨g, 0, none⟩) N cap)) base hb (fun q => if q = g then 1 else ρ q) cnt tot (.slice (some ⟨g, 0, none⟩) N cap) vw vk vn FV' WV F ws K A := by
  have hr0 : (fun q => if q = g then 1 else ρ q) hb = 0 := ((grow_role hg hrow hnew hb h.row.lt (by rw [h.rol]; omega)).2).trans h.rol
  have hm : ∀ {r : Nat} {e : TypeId} {u : Value} {xs : List Value}, r ≠ 0 → r ≠ 1 → Own1 w base ρ r e u xs → Own1 (w'.setCell ⟨hb, 1, none⟩ (.slice (some ⟨g, 0, none⟩) N cap)) base (fun q => if q = g then 1 else ρ q) r e u xs := fun hr h1 ho =>
    (ho.grow h1 hg hrow hnew).set (a := ⟨hb, 1, none⟩) (fun e => hr (by rw [← e]; exact hr0)) _
  refine ⟨(h.row.grow (by rw [h.rol]; omega) hg hrow hnew).put 1 _, hr0, h.low, ?_, hm (by omega) (by omega) h.was, hm (by omega) (by omega) h.kept, hm (by omega) (by omega) h.nums, fun i x hx => ⟨hm (by omega) (by omega) (h.item i x hx).1, (h.item i x hx).2⟩, fun i v x hv hx => hm (by omega) (by omega) (h.copy i v x hv hx), fun x hx => hm (by omega) (by omega) (h.done x hx), fun j y hy => hm (by omega) (by omega) (h.side j y hy)⟩
  exact Own1.set ⟨by rw [hN]; exact hk, fun b hb2 => by cases hb2; show (if g = g then 1 else ρ g) = 1; rw [if_pos rfl]⟩ (a := ⟨hb, 1, none⟩) (fun e => by have : (0 : Nat) = 1 := hr0.symm.trans e; omega) _
theorem Mid.growWas {row : Option Nat} {g cap N : Nat} {WV' : List Value} (h : Mid w base hb ρ cnt tot vf vw vk vn FV WV F ws K A) (hg : w.grownBy w' row) (hrow : ∀ b, row = some b → ρ b = 4) (hnew : row = some g ∨ g = w.heap.size)
    (hN : WV'.length = N) (hk : w'.ownsRow base 24 1 (.slice (some ⟨g, 0, none⟩) N cap) N WV') :
    Mid (w'.setCell ⟨hb, 2, none⟩ (.slice (some ⟨g, 0, none⟩) N cap)) base hb (fun q => if q = g then 4 else ρ q) cnt tot vf (.slice (some ⟨g, 0, none⟩) N cap) vk vn FV WV' F ws K A := by
  have hr0 : (fun q => if q = g then 4 else ρ q) hb = 0 := ((grow_role hg hrow hnew hb h.row.lt (by rw [h.rol]; omega)).2).trans h.rol
  have hm : ∀ {r : Nat} {e : TypeId} {u : Value} {xs : List Value}, r ≠ 0 → r ≠ 4 → Own1 w base ρ r e u xs → Own1 (w'.setCell ⟨hb, 2, none⟩ (.slice (some ⟨g, 0, none⟩) N cap)) base (fun q => if q = g then 4 else ρ q) r e u xs := fun hr h1 ho =>
    (ho.grow h1 hg hrow hnew).set (a := ⟨hb, 2, none⟩) (fun e => hr (by rw [← e]; exact hr0)) _
  refine ⟨(h.row.grow (by rw [h.rol]; omega) hg hrow hnew).put 2 _, hr0, h.low, hm (by omega) (by omega) h.fresh, ?_, hm (by omega) (by omega) h.kept, hm (by omega) (by omega) h.nums, fun i x hx => ⟨hm (by omega) (by omega) (h.item i x hx).1, (h.item i x hx).2⟩, fun i v x hv hx => hm (by omega) (by omega) (h.copy i v x hv hx), fun x hx => hm (by omega) (by omega) (h.done x hx), fun j y hy => hm (by omega) (by omega) (h.side j y hy)⟩
  exact Own1.set ⟨by rw [hN]; exact hk, fun b hb2 => by cases hb2; show (if g = g then 4 else ρ g) = 4; rw [if_pos rfl]⟩ (a := ⟨hb, 2, none⟩) (fun e => by have : (0 : Nat) = 4 := hr0.symm.trans e; omega) _
/-- A list more, with its copy. -/
theorem Mid.core {v v' : Value} {xs : List Int} (h : Mid w base hb ρ cnt tot vf vw vk vn (F.map (·.1) ++ [v]) (ws ++ [v']) F ws K A) (hl : ws.length = F.length) (hx : AnyInts xs) (hv : Own1 w base ρ (10 + F.length) 3 v (xs.map (Value.int .i64)))
    (hv' : Own1 w base ρ 9 3 v' (xs.map (Value.int .i64))) : Core w base hb ρ cnt tot vf vw vk vn (F ++ [(v, xs)]) (ws ++ [v']) K A where
  row := h.row
  rol := h.rol
  low := h.low
  fresh := by rw [List.map_append]; exact h.fresh
  was := h.was
  wlen := by rw [List.length_append, List.length_append, hl]; rfl
  kept := h.kept
  nums := h.nums
  item := fun i x hxi => by
    by_cases hi : i < F.length
    · rw [List.getElem?_append_left hi] at hxi; exact h.item i x hxi
    · rw [List.getElem?_append_right (by omega)] at hxi
      have hi2 : i = F.length := by
        rcases Nat.lt_or_ge F.length i with h2 | h2
        · rw [List.getElem?_eq_none (by simp; omega)] at hxi; cases hxi
        · omega
      subst hi2
      simp at hxi
      subst hxi
      exact ⟨hv, hx⟩
  copy := fun i u x hu hxi => by
    by_cases hi : i < F.length
    · rw [List.getElem?_append_left hi] at hxi
      rw [List.getElem?_append_left (by omega)] at hu
      exact h.copy i u x hu hxi
    · rw [List.getElem?_append_right (by omega)] at hxi hu
      have hi2 : i = F.length := by
        rcases Nat.lt_or_ge F.length i with h2 | h2
        · rw [List.getElem?_eq_none (by simp; omega)] at hxi; cases hxi
        · omega
      subst hi2
      rw [hl] at hu
      simp at hxi hu
      subst hxi hu
      exact hv'
  done := h.done
  side := h.side
theorem Core.mid (h : Core w base hb ρ cnt tot vf vw vk vn F ws K A) : Mid w base hb ρ cnt tot vf vw vk vn (F.map (·.1)) ws F ws K A := ⟨h.row, h.rol, h.low, h.fresh, h.was, h.kept, h.nums, h.item, h.copy, h.done, h.side⟩
theorem Mid.back (h : Mid w base hb ρ cnt tot vf vw vk vn (F.map (·.1)) ws F ws K A) (hl : ws.length = F.length) : Core w base hb ρ cnt tot vf vw vk vn F ws K A := ⟨h.row, h.rol, h.low, h.fresh, h.was, hl, h.kept, h.nums, h.item, h.copy, h.done, h.side⟩
end
end Go.Proofs.Ytcjomhmpebhhlaa.Led
