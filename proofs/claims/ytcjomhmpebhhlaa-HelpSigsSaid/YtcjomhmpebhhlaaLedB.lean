/-
  The Book's write, its first part: all that lies untouched is written over.
-/
import Derived.Test.YtcjomhmpebhhlaaLedA
import Derived.StillTailTactics
namespace Go.Proofs.Ytcjomhmpebhhlaa.Led
open Go.RowKit
set_option linter.unusedVariables false

/-- The book's heap while it writes: n lists v with the cells c, of the roles R. -/
structure WCore (w : World) (base hb : Nat) (ρ : Nat → Nat) (cnt tot : Int) (vf vw vk vn : Value) (n : Nat) (v : Nat → Value) (c : Nat → List Value) (R : Nat → Nat) (KV KN : List Value) (K : List (Value × Nat × Nat)) (A : List (Value × List Value × TypeId)) : Prop where
  row : Row w hb 49 [.int .i64 tot, vf, vw, vk, vn, .bool false]
  rol : ρ hb = 0
  low : base ≤ hb
  fresh : Own1 w base ρ 1 24 vf ((List.range n).map v)
  kept : Own1 w base ρ 2 24 vk KV
  nums : Own1 w base ρ 3 3 vn KN
  item : ∀ t, t < n → Own1 w base ρ (R t) 3 (v t) (c t)
  done : ∀ x ∈ K, Own1 w base ρ 9 3 x.1 (ownl x.2.1 x.2.2)
  side : ∀ (j : Nat) (y : Value × List Value × TypeId), A[j]? = some y → Own1 w base ρ (1000 + j) y.2.2 y.1 y.2.1

section
variable {w w' : World} {base hb : Nat} {ρ : Nat → Nat} {cnt tot : Int} {vf vw vk vn : Value} {n : Nat} {v : Nat → Value} {c : Nat → List Value} {R : Nat → Nat} {KV KN : List Value} {K : List (Value × Nat × Nat)} {A : List (Value × List Value × TypeId)}
theorem WCore.calm (h : WCore w base hb ρ cnt tot vf vw vk vn n v c R KV KN K A) (hc : Calm w w') : WCore w' base hb ρ cnt tot vf vw vk vn n v c R KV KN K A where
  row := h.row.calm hc
  rol := h.rol
  low := h.low
  fresh := h.fresh.same hc.heap
  kept := h.kept.same hc.heap
  nums := h.nums.same hc.heap
  item := fun t ht => (h.item t ht).same hc.heap
  done := fun x hx => (h.done x hx).same hc.heap
  side := fun j y hy => (h.side j y hy).same hc.heap
/-- A cell of the list i is written. -/
theorem WCore.put (h : WCore w base hb ρ cnt tot vf vw vk vn n v c (fun t => 10 + t) KV KN K A) {i j b cap : Nat} (hi : i < n) (hi9 : i < 990) (hv : v i = .slice (some ⟨b, 0, none⟩) (c i).length cap) (hj : j < (c i).length) (x : Value) :
    WCore (w.setCell ⟨b, j, none⟩ x) base hb ρ cnt tot vf vw vk vn n v (fun t => if t = i then (c i).set j x else c t) (fun t => 10 + t) KV KN K A := by
  have hIt := h.item i hi
  have hρ : ρ b = 10 + i := hIt.2 b (by rw [hv]; rfl)
  have hset : ∀ q, q ≠ b → (w.setCell ⟨b, j, none⟩ x).heap[q]? = w.heap[q]? := fun q hq => Below.heap_setCell _ _ _ _ hq
  refine ⟨?_, h.rol, h.low, ?_, ?_, ?_, ?_, ?_, ?_⟩
  · exact h.row.other _ _ (fun e => by have := h.rol; change hb = b at e; rw [e] at this; omega)
  · exact h.fresh.move fun q _ hr => ⟨hset q (fun e => by subst e; omega), hr⟩
  · exact h.kept.move fun q _ hr => ⟨hset q (fun e => by subst e; omega), hr⟩
  · exact h.nums.move fun q _ hr => ⟨hset q (fun e => by subst e; omega), hr⟩
  · intro t ht
    by_cases e : t = i
    · subst e
      rw [if_pos rfl]
      refine ⟨?_, hIt.2⟩
      have := hIt.1
      rw [hv] at this ⊢
      rw [List.length_set]
      exact own_set_v this j x hj
    · rw [if_neg e]
      exact (h.item t ht).move fun q _ hr => ⟨hset q (fun e2 => by subst e2; omega), hr⟩
  · intro x hx
    exact (h.done x hx).move fun q _ hr => ⟨hset q (fun e => by subst e; omega), hr⟩
  · intro j y hy
    exact (h.side j y hy).move fun q _ hr => ⟨hset q (fun e => by subst e; omega), hr⟩
theorem WCore.alloc (h : WCore w base hb ρ cnt tot vf vw vk vn n v c R KV KN K A) (o : Obj) : WCore (w.alloc o) base hb ρ cnt tot vf vw vk vn n v c R KV KN K A where
  row := h.row.alloc o
  rol := h.rol
  low := h.low
  fresh := h.fresh.alloc o
  kept := h.kept.alloc o
  nums := h.nums.alloc o
  item := fun t ht => (h.item t ht).alloc o
  done := fun x hx => (h.done x hx).alloc o
  side := fun j y hy => (h.side j y hy).alloc o
theorem WCore.congr {c' : Nat → List Value} {R' : Nat → Nat} (h : WCore w base hb ρ cnt tot vf vw vk vn n v c R KV KN K A) (hc : ∀ t, t < n → c t = c' t) (hR : ∀ t, t < n → R t = R' t) : WCore w base hb ρ cnt tot vf vw vk vn n v c' R' KV KN K A where
  row := h.row
  rol := h.rol
  low := h.low
  fresh := h.fresh
  kept := h.kept
  nums := h.nums
  item := fun t ht => by rw [← hc t ht, ← hR t ht]; exact h.item t ht
  done := h.done
  side := h.side
/-- The list i grows (it, or a list that begins in its block). -/
theorem WCore.growItem {row : Option Nat} {g i : Nat} (h : WCore w base hb ρ cnt tot vf vw vk vn n v c R KV KN K A) (hg : w.grownBy w' row) (hrow : ∀ b, row = some b → ρ b = 10 + i) (hnew : row = some g ∨ g = w.heap.size)
    (hR : ∀ t, t < n → t ≠ i → R t ≠ 10 + i) (hRi : R i = 10 + i) (hi : i < n) (hi9 : i < 990) (hit : w'.ownsRow base 3 1 (v i) (c i).length (c i)) : WCore w' base hb (fun q => if q = g then 10 + i else ρ q) cnt tot vf vw vk vn n v c R KV KN K A where
  row := h.row.grow (by rw [h.rol]; omega) hg hrow hnew
  rol := by
    have := (grow_role hg hrow hnew hb h.row.lt (by rw [h.rol]; omega)).2
    exact this.trans h.rol
  low := h.low
  fresh := h.fresh.grow (by omega) hg hrow hnew
  kept := h.kept.grow (by omega) hg hrow hnew
  nums := h.nums.grow (by omega) hg hrow hnew
  item := fun t ht => by
    by_cases e : t = i
    · subst e
      rw [hRi]
      refine ⟨hit, fun b hb2 => ?_⟩
      show (if b = g then 10 + t else ρ b) = 10 + t
      split
      · rfl
      · have := (h.item t ht).2 b hb2
        rw [this, hRi]
    · exact (h.item t ht).grow (hR t ht e) hg hrow hnew
  done := fun x hx => (h.done x hx).grow (by omega) hg hrow hnew
  side := fun j y hy => (h.side j y hy).grow (by omega) hg hrow hnew
/-- The kept ones get one more. -/
theorem WCore.growKept {row : Option Nat} {g cap : Nat} {N : Nat} {KV' : List Value} (h : WCore w base hb ρ cnt tot vf vw vk vn n v c R KV KN K A) (hg : w.grownBy w' row) (hrow : ∀ b, row = some b → ρ b = 2) (hnew : row = some g ∨ g = w.heap.size)
    (hR : ∀ t, t < n → 9 ≤ R t) (hN : KV'.length = N) (hk : w'.ownsRow base 24 1 (.slice (some ⟨g, 0, none⟩) N cap) N KV') :
    WCore (w'.setCell ⟨hb, 3, none⟩ (.slice (some ⟨g, 0, none⟩) N cap)) base hb (fun q => if q = g then 2 else ρ q) cnt tot vf vw (.slice (some ⟨g, 0, none⟩) N cap) vn n v c R KV' KN K A := by
  have hr0 : (fun q => if q = g then 2 else ρ q) hb = 0 := ((grow_role hg hrow hnew hb h.row.lt (by rw [h.rol]; omega)).2).trans h.rol
  have hne : ∀ r0, r0 ≠ 0 → (fun q => if q = g then 2 else ρ q) (⟨hb, 3, none⟩ : Addr).block ≠ r0 := fun r0 h0 e => h0 (by rw [← e]; exact hr0)
  refine ⟨?_, hr0, h.low, ?_, ?_, ?_, ?_, ?_, ?_⟩
  · have := (h.row.grow (by rw [h.rol]; omega) hg hrow hnew).put 3 (.slice (some ⟨g, 0, none⟩) N cap)
    exact this
  · exact (h.fresh.grow (by omega) hg hrow hnew).set (hne 1 (by omega)) _
  · exact Own1.set ⟨by rw [hN]; exact hk, fun b hb2 => by cases hb2; show (if g = g then 2 else ρ g) = 2; rw [if_pos rfl]⟩ (hne 2 (by omega)) _
  · exact (h.nums.grow (by omega) hg hrow hnew).set (hne 3 (by omega)) _
  · intro t ht
    have := hR t ht
    exact ((h.item t ht).grow (by omega) hg hrow hnew).set (hne _ (by omega)) _
  · intro x hx
    exact ((h.done x hx).grow (by omega) hg hrow hnew).set (hne 9 (by omega)) _
  · intro j y hy
    exact ((h.side j y hy).grow (by omega) hg hrow hnew).set (hne _ (by omega)) _
/-- The numbers get one more. -/
theorem WCore.growNums {row : Option Nat} {g cap : Nat} {N : Nat} {KN' : List Value} (h : WCore w base hb ρ cnt tot vf vw vk vn n v c R KV KN K A) (hg : w.grownBy w' row) (hrow : ∀ b, row = some b → ρ b = 3) (hnew : row = some g ∨ g = w.heap.size)
    (hR : ∀ t, t < n → 9 ≤ R t) (hN : KN'.length = N) (hk : w'.ownsRow base 3 1 (.slice (some ⟨g, 0, none⟩) N cap) N KN') :
    WCore (w'.setCell ⟨hb, 4, none⟩ (.slice (some ⟨g, 0, none⟩) N cap)) base hb (fun q => if q = g then 3 else ρ q) cnt tot vf vw vk (.slice (some ⟨g, 0, none⟩) N cap) n v c R KV KN' K A := by
  have hr0 : (fun q => if q = g then 3 else ρ q) hb = 0 := ((grow_role hg hrow hnew hb h.row.lt (by rw [h.rol]; omega)).2).trans h.rol
  have hne : ∀ r0, r0 ≠ 0 → (fun q => if q = g then 3 else ρ q) (⟨hb, 4, none⟩ : Addr).block ≠ r0 := fun r0 h0 e => h0 (by rw [← e]; exact hr0)
  refine ⟨?_, hr0, h.low, ?_, ?_, ?_, ?_, ?_, ?_⟩
  · have := (h.row.grow (by rw [h.rol]; omega) hg hrow hnew).put 4 (.slice (some ⟨g, 0, none⟩) N cap)
    exact this
  · exact (h.fresh.grow (by omega) hg hrow hnew).set (hne 1 (by omega)) _
  · exact (h.kept.grow (by omega) hg hrow hnew).set (hne 2 (by omega)) _
  · exact Own1.set ⟨by rw [hN]; exact hk, fun b hb2 => by cases hb2; show (if g = g then 3 else ρ g) = 3; rw [if_pos rfl]⟩ (hne 3 (by omega)) _
  · intro t ht
    have := hR t ht
    exact ((h.item t ht).grow (by omega) hg hrow hnew).set (hne _ (by omega)) _
  · intro x hx
    exact ((h.done x hx).grow (by omega) hg hrow hnew).set (hne 9 (by omega)) _
  · intro j y hy
    exact ((h.side j y hy).grow (by omega) hg hrow hnew).set (hne _ (by omega)) _
/-- The list i is done with: its role becomes that of what is only read; a list x beside it is one of the done. -/
theorem WCore.settle {i : Nat} {x : Value × Nat × Nat} (h : WCore w base hb ρ cnt tot vf vw vk vn n v c R KV KN K A) (hi9 : i < 990) (hR : ∀ t, t < n → t ≠ i → R t ≠ 10 + i) (hx : Own1 w base ρ (10 + i) 3 x.1 (ownl x.2.1 x.2.2) ∨ Own1 w base ρ 9 3 x.1 (ownl x.2.1 x.2.2)) :
    WCore w base hb (fun q => if ρ q = 10 + i then 9 else ρ q) cnt tot vf vw vk vn n v c (fun t => if R t = 10 + i then 9 else R t) KV KN (K ++ [x]) A := by
  have hk : ∀ {r : Nat} {e : TypeId} {u : Value} {xs : List Value}, r ≠ 10 + i → Own1 w base ρ r e u xs → Own1 w base (fun q => if ρ q = 10 + i then 9 else ρ q) r e u xs := fun hr ho => ho.move fun q _ hq => ⟨rfl, by
    show (if ρ q = 10 + i then 9 else ρ q) = _
    rw [if_neg (by rw [hq]; exact hr), hq]⟩
  have hi9 : ∀ {e : TypeId} {u : Value} {xs : List Value}, Own1 w base ρ (10 + i) e u xs → Own1 w base (fun q => if ρ q = 10 + i then 9 else ρ q) 9 e u xs := fun ho => ho.move fun q _ hq => ⟨rfl, by
    show (if ρ q = 10 + i then 9 else ρ q) = _
    rw [if_pos hq]⟩
  refine ⟨h.row, ?_, h.low, hk (by omega) h.fresh, hk (by omega) h.kept, hk (by omega) h.nums, fun t ht => ?_, fun y hy => ?_, fun j y hy => hk (by omega) (h.side j y hy)⟩
  · show (if ρ hb = 10 + i then 9 else ρ hb) = 0
    rw [h.rol, if_neg (by omega)]
  · show Own1 _ _ _ (if R t = 10 + i then 9 else R t) _ _ _
    by_cases e : R t = 10 + i
    · rw [if_pos e]
      have := h.item t ht
      rw [e] at this
      exact hi9 this
    · rw [if_neg e]
      exact hk e (h.item t ht)
  · rcases List.mem_append.1 hy with hy | hy
    · exact hk (by omega) (h.done y hy)
    · obtain rfl : y = x := by simpa using hy
      rcases hx with hx | hx
      · exact hi9 hx
      · exact hk (by omega) hx
end
theorem ownl_snoc (l p : Nat) : ownl l p ++ [.int .i64 (ownv l p)] = ownl l (p + 1) := by
  simp [ownl, itab, List.range_succ]
theorem info_list : (Try.prog.info? 24).map (fun i => (i.zero, i.size, i.bytes)) = some (some (.slice none 0 0), 1, 24) := by kernel_rfl

theorem take_set_own {l j : Nat} {cs : List Value} (h : cs.take j = ownl l j) (hj : j < cs.length) : (cs.set j (.int .i64 (ownv l j))).take (j + 1) = ownl l (j + 1) := by
  apply List.ext_getElem?
  intro t
  rw [List.getElem?_take]
  by_cases ht : t < j + 1
  · rw [if_pos ht, ownl_get l ht, List.getElem?_set]
    by_cases e : j = t
    · subst e; rw [if_pos rfl, if_pos hj]
    · rw [if_neg e]
      have h2 := congrArg (fun z => z[t]?) h
      simp only [List.getElem?_take] at h2
      rw [if_pos (by omega), ownl_get l (by omega)] at h2
      exact h2
  · rw [if_neg ht, List.getElem?_eq_none (by rw [ownl_length]; omega)]
theorem own_row_cell {w : World} {base : Nat} {ρ : Nat → Nat} {r : Nat} {e : TypeId} {u : Value} {n : Nat} {v : Nat → Value} (h : Own1 w base ρ r e u ((List.range n).map v)) : ∃ a cap, u = .slice a n cap ∧ (0 < n → ∃ b, a = some ⟨b, 0, none⟩ ∧ ∀ i, i < n → w.cell? ⟨b, i, none⟩ = some (v i)) := by
  obtain ⟨a, cap, rfl, h1, h2, h3⟩ := h.open
  simp only [List.length_map, List.length_range] at h3
  refine ⟨a, cap, by simp, fun hp => ?_⟩
  obtain ⟨b, rfl, _, _, _, hc⟩ := h3 hp
  refine ⟨b, rfl, fun i hi => ?_⟩
  rw [(hc i hi).1]
  simp [hi]
end Go.Proofs.Ytcjomhmpebhhlaa.Led
