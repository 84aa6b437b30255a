/-
  Several rows of the call's own, each with a role: rows of unlike roles lie in unlike blocks.
-/
import Derived.Test.YtbkcpepalicbjaaGreatBytes
import Derived.Test.YtbkcpepalicbjaaGreatWords
import Derived.Maps.AppendAt
import Derived.Deep.AppendLies
namespace Go.Proofs.YtbkcpepalicbjaaGreat
open Go.RowKit
set_option linter.unusedVariables false

/-- The slice v owns the cells xs, in a block of the role r. -/
def Own1 (w : World) (base : Nat) (ρ : Nat → Nat) (r : Nat) (e : TypeId) (v : Value) (xs : List Value) : Prop :=
  w.ownsRow base e 1 v xs.length xs ∧ ∀ b, v.ownBlock = some b → ρ b = r

theorem ownsRow_stay {w w' : World} {base : Nat} {e : TypeId} {v : Value} {n : Nat} {xs : List Value} (h : w.ownsRow base e 1 v n xs) (hk : ∀ b, v.ownBlock = some b → w'.heap[b]? = w.heap[b]?) : w'.ownsRow base e 1 v n xs := by
  obtain ⟨hl, hz | ⟨g, cap, cur, rfl, hb, hg, rest⟩⟩ := h
  · exact ⟨hl, Or.inl hz⟩
  · exact ⟨hl, Or.inr ⟨g, cap, cur, rfl, hb, by rw [hk g rfl]; exact hg, rest⟩⟩
theorem Own1.move {w w' : World} {base : Nat} {ρ ρ' : Nat → Nat} {r r' : Nat} {e : TypeId} {v : Value} {xs : List Value} (h : Own1 w base ρ r e v xs)
    (hf : ∀ q, q < w.heap.size → ρ q = r → w'.heap[q]? = w.heap[q]? ∧ ρ' q = r') : Own1 w' base ρ' r' e v xs := by
  have hlt := h.1.lt
  exact ⟨ownsRow_stay h.1 fun b hb => (hf b (hlt b hb).2 (h.2 b hb)).1, fun b hb => (hf b (hlt b hb).2 (h.2 b hb)).2⟩
theorem Own1.same {w w' : World} {base : Nat} {ρ : Nat → Nat} {r : Nat} {e : TypeId} {v : Value} {xs : List Value} (h : Own1 w base ρ r e v xs) (hh : w'.heap = w.heap) : Own1 w' base ρ r e v xs :=
  h.move fun q _ hr => ⟨by rw [hh], hr⟩
theorem Own1.nil (w : World) (base : Nat) (ρ : Nat → Nat) (r : Nat) (e : TypeId) : Own1 w base ρ r e (.slice none 0 0) [] := ⟨World.ownsRow_nil _ _ _ _, fun b hb => by cases hb⟩
/-- What the value is. -/
theorem Own1.open {w : World} {base : Nat} {ρ : Nat → Nat} {r : Nat} {e : TypeId} {v : Value} {xs : List Value} (h : Own1 w base ρ r e v xs) :
    ∃ a cap, v = .slice a xs.length cap ∧ xs.length ≤ cap ∧ cap ≤ maxLen ∧ (0 < xs.length → ∃ b, a = some ⟨b, 0, none⟩ ∧ b < w.heap.size ∧ base ≤ b ∧ ρ b = r ∧ ∀ i, i < xs.length → w.cell? ⟨b, i, none⟩ = xs[i]? ∧ w.frozen? ⟨b, i, none⟩ = false) := by
  obtain ⟨h1, h2⟩ := h
  have h0 := h1
  obtain ⟨hl, ⟨rfl, hz⟩ | ⟨g, cap, cur, rfl, hb, hg, hnc, hcm, hcs, ht⟩⟩ := h1
  · exact ⟨none, 0, by rw [hz], by omega, by decide, fun hp => by omega⟩
  · exact ⟨_, cap, rfl, hnc, hcm, fun hp => ⟨g, rfl, (Array.getElem?_eq_some_iff.1 hg).1, hb, h2 g rfl, fun i hi => ⟨h0.cellAt i (by omega), by simp [World.frozen?, hg]⟩⟩⟩
/-- A row keeps its heap when a cell is written that held the value already. -/
theorem heap_setCell_same {w : World} {b i : Nat} {e : TypeId} {cs : List Value} {v : Value} (h : Row w b e cs) (hv : cs[i]? = some v) : (w.setCell ⟨b, i, none⟩ v).heap = w.heap := by
  have h2 := h.put i v
  have hset : cs.set i v = cs := by
    apply List.ext_getElem?
    intro t
    rw [List.getElem?_set]
    by_cases ht : i = t
    · subst ht
      have hi : i < cs.length := by
        rcases Nat.lt_or_ge i cs.length with h | h
        · exact h
        · rw [List.getElem?_eq_none h] at hv; cases hv
      rw [if_pos rfl, if_pos hi, hv]
    · rw [if_neg ht]
  rw [hset] at h2
  apply Array.ext_getElem?
  intro q
  by_cases hq : q = b
  · subst hq
    unfold Row at h h2
    rw [h2, h]
  · exact Below.heap_setCell _ _ _ _ hq
theorem below_of_heap {w w' : World} (h : w'.heap = w.heap) (h1 : w'.os = w.os) (h2 : w'.tape = w.tape) (h3 : w'.output = w.output) (B : Nat) : Below B w w' :=
  ⟨h1, h2, h3, by rw [h]; exact Nat.le_refl _, fun k _ => by rw [h]⟩
/-- The heap is as it was (draws may have been made). -/
structure Calm (w w' : World) : Prop where
  heap : w'.heap = w.heap
  below : ∀ B, Below B w w'
theorem Calm.refl (w : World) : Calm w w := ⟨rfl, fun B => Below.refl B w⟩
theorem Calm.trans {a b c : World} (h : Calm a b) (k : Calm b c) : Calm a c := ⟨k.heap.trans h.heap, fun B => (h.below B).trans (k.below B)⟩
theorem Calm.drewN {a b : World} (h : Calm a b) (n : Nat) : Calm a (b.drewN n) := ⟨h.heap, fun B => below_drewN (h.below B) n⟩
theorem Calm.drew {a b : World} (h : Calm a b) : Calm a b.drew := ⟨h.heap, fun B => (h.below B).drew⟩
theorem Calm.set {a w : World} (h : Calm a w) {b i : Nat} {e : TypeId} {cs : List Value} {v : Value} (hR : Row w b e cs) (hv : cs[i]? = some v) : Calm a (w.setCell ⟨b, i, none⟩ v) :=
  ⟨(heap_setCell_same hR hv).trans h.heap, fun B => (h.below B).trans (by
    have hh := heap_setCell_same hR hv
    exact ⟨rfl, rfl, rfl, by rw [hh]; exact Nat.le_refl _, fun k _ => by rw [hh]⟩)⟩
theorem Row.calm {w w' : World} {b : Nat} {e : TypeId} {cs : List Value} (h : Row w b e cs) (hc : Calm w w') : Row w' b e cs := by unfold Row at h ⊢; rw [hc.heap]; exact h
theorem Calm.cell {w w' : World} (h : Calm w w') (a : Addr) : w'.cell? a = w.cell? a := World.cell?_of_block (by rw [h.heap])

/-- append, and what it leaves: the new row, its place, and every row that is not longer. -/
theorem wpList_append_keep {P : Program} {w : World} {ops : Array Oper} {rest : List Oper} {o : Oper} {a : Act} {Q : Exit → Act → World → Prop} (hgd : o.guard = none) (s x : Operand) (t : TypeId)
    (ho : o.op = .call { callee := .builtin .append, args := #[s, x], argTypes := #[t, t] })
    (base : Nat) (e : TypeId) (i : TypeInfo) (z : Value) (bytes : Nat) (ht : P.underlying t = some (.slice e)) (hi : P.info? e = some i) (hz : i.zero = some z)
    (hsize : i.size = 1) (hby : i.bytes = bytes) (hzs : z.cells.size = 1)
    (v : Value) (n : Nat) (xs : List Value) (hs : a.eval s = v) (hown : w.ownsRow base e 1 v n xs)
    (ad : Addr) (m c : Nat) (news : List Value) (hx : a.eval x = .slice (some ad) m c) (hl : news.length = m * 1) (hnews : ∀ j u, news[j]? = some u → w.cell? (ad.add j) = some u) (h1 : ∀ u ∈ news, u.oneCell' = true)
    (hm : 0 < m) (h63 : n + m ≤ maxLen) (hbytes : (n + m) * bytes ≤ 140737488355328) (hbase : base ≤ w.heap.size)
    (h : ∀ g cap w', w'.ownsRow base e 1 (.slice (some ⟨g, 0, none⟩) (n + m) cap) (n + m) (xs ++ news) → w.grownBy w' v.ownBlock → (v.ownBlock = some g ∨ g = w.heap.size) → g < w'.heap.size →
      (∀ v2 n2 xs2, w.ownsRow base e 1 v2 n2 xs2 → (v2.ownBlock = v.ownBlock → n2 ≤ n) → w'.ownsRow base e 1 v2 n2 xs2) → wpList P ops Q rest (a.put o.dst (.slice (some ⟨g, 0, none⟩) (n + m) cap)) w') : wpList P ops Q (o :: rest) a w := by
  refine wpList_plain hgd fun K hK => ?_
  obtain ⟨g, cap, w', hr, h2, h3, h4, h5⟩ := run_append_lies (P := P) w t o.type base e i z 1 bytes ht hi hz hsize hby hzs (by decide) v n xs hown ad m c news hl hnews h1 hm h63 hbytes hbase _ rfl
  have hkeep : ∀ v2 n2 xs2, w.ownsRow base e 1 v2 n2 xs2 → (v2.ownBlock = v.ownBlock → n2 ≤ n) → w'.ownsRow base e 1 v2 n2 xs2 := by
    intro v2 n2 xs2 ho2 hle
    by_cases hsame : v2.ownBlock = v.ownBlock
    · have hle := hle hsame
      rcases hown.2 with ⟨rfl, h0⟩ | ⟨g0, cap0, cur, rfl, hb, hg, hnc, hcm, hcs, htk⟩
      · exact ownsRow_stay ho2 fun b hb2 => by rw [hb2] at hsame; cases hsame
      · have hl0 := hl
        rw [Nat.mul_one] at hl0 hcs htk
        by_cases hroom : n + m ≤ cap0
        · have hr' := run_append_room (P := P) w t o.type e i ht hi g0 n cap0 cur hg ad m c news (by rw [hsize]; exact hl) hnews h1 hroom (by rw [hsize, Nat.mul_one, hl0, hcs]; omega)
          rw [hr] at hr'
          injection hr' with hv hw
          obtain ⟨hl2, ⟨rfl, hz2⟩ | ⟨g2, cap2, cur2, rfl, hb2, hg2, hn2, hm2, hs2, ht2⟩⟩ := ho2
          · exact ⟨hl2, Or.inl ⟨rfl, hz2⟩⟩
          · obtain rfl : g2 = g0 := by simpa [Value.ownBlock] using hsame
            rw [hg] at hg2
            injection hg2 with hg2
            injection hg2 with hg2
            subst hg2
            refine ⟨hl2, Or.inr ⟨g2, cap2, _, rfl, hb2, by rw [hw]; exact setRow_heap w g2 _ _ e _ hg, hn2, hm2, ?_, ?_⟩⟩
            · rw [hsize, Nat.mul_one]
              simp only [List.size_toArray, List.length_append, List.length_take, List.length_drop, Array.length_toList]
              rw [Nat.mul_one] at hs2
              omega
            · rw [hsize, Nat.mul_one] at *
              simp only [List.append_assoc]
              rw [List.take_append_of_le_length (by rw [List.length_take, Array.length_toList]; omega), List.take_take, Nat.min_eq_left (by omega)]
              exact ht2
        · have hr' := run_append_grow (P := P) w t o.type e i z ht hi hz ⟨g0, 0, none⟩ n cap0 xs (by rw [hsize]; exact hown.1) (hown.cells (g := g0) rfl) ad m c news (by rw [hsize]; exact hl) hnews (by omega) (by simp only [maxLen] at h63; omega) (by rw [hby]; exact growslice_fits (by omega) hbytes)
          rw [hr] at hr'
          injection hr' with hv hw
          refine ownsRow_stay ho2 fun b hb2 => ?_
          obtain ⟨_, hlt⟩ := ho2.lt b hb2
          rw [hw]
          exact Below.heap_alloc w.drew _ b hlt
    · exact ownsRow_stay ho2 fun b hb2 => h3.block b (ho2.lt b hb2).2 (fun hc => hsame (by rw [hb2]; exact hc))
  unfold Oper.wp execOp
  simp only [ho, resolve, invoke, builtin, Sem.run_bind, Sem.run_pure, Result.andThen_ok, List.map_toArray, List.map_cons, List.map_nil, hs, hx, hr]
  exact hK _ _ (h g cap w' h2 h3 h4 h5 hkeep)
theorem own_set_v {w : World} {base g n cap : Nat} {e : TypeId} {xs : List Value} (h : w.ownsRow base e 1 (.slice (some ⟨g, 0, none⟩) n cap) n xs) (i : Nat) (x : Value) (hi : i < n) :
    (w.setCell ⟨g, i, none⟩ x).ownsRow base e 1 (.slice (some ⟨g, 0, none⟩) n cap) n (xs.set i x) := by
  obtain ⟨hl, ⟨h0, _⟩ | ⟨g', cap', cur, hv, hb, hg, h1, h2, h3, h4⟩⟩ := h
  · cases h0
  · cases hv
    refine ⟨by simpa using hl, Or.inr ⟨g, cap, cur.setIfInBounds i x, rfl, hb, ?_, h1, h2, by simpa using h3, ?_⟩⟩
    · have hlt : g < w.heap.size := (Array.getElem?_eq_some_iff.1 hg).1
      have h' : w.heap[g] = .cells cur e (0, 0) := by simpa [Array.getElem?_eq_getElem hlt] using hg
      show (w.heap.modify g _)[g]? = _
      rw [Array.getElem?_eq_getElem (by simpa using hlt), Array.getElem_modify_self, h']
      rfl
    · rw [Array.toList_setIfInBounds, List.take_set, h4]

/-- Rows of another role stay when the rows of the role r turn, and the block g gets the role r. -/
theorem grow_role {w w' : World} {ρ : Nat → Nat} {row : Option Nat} {g r : Nat} (hg : w.grownBy w' row) (hrow : ∀ b, row = some b → ρ b = r) (hnew : row = some g ∨ g = w.heap.size) :
    ∀ q, q < w.heap.size → ρ q ≠ r → w'.heap[q]? = w.heap[q]? ∧ (fun q => if q = g then r else ρ q) q = ρ q := by
  intro q hq hr
  have hne : ¬ (q = g) := by
    rintro rfl
    rcases hnew with h | h
    · exact hr (hrow q h)
    · omega
  refine ⟨hg.block q hq (fun e => hr (hrow q e.symm)), ?_⟩
  show (if q = g then r else ρ q) = ρ q
  rw [if_neg hne]
theorem Own1.grow {w w' : World} {base : Nat} {ρ : Nat → Nat} {r0 r : Nat} {e : TypeId} {v : Value} {xs : List Value} {row : Option Nat} {g : Nat} (h : Own1 w base ρ r0 e v xs) (hne : r0 ≠ r) (hg : w.grownBy w' row) (hrow : ∀ b, row = some b → ρ b = r) (hnew : row = some g ∨ g = w.heap.size) :
    Own1 w' base (fun q => if q = g then r else ρ q) r0 e v xs :=
  h.move fun q hq hr => by
    have := grow_role hg hrow hnew q hq (by rw [hr]; exact hne)
    exact ⟨this.1, this.2.trans hr⟩
theorem Row.grow {w w' : World} {ρ : Nat → Nat} {b r : Nat} {e : TypeId} {cs : List Value} {row : Option Nat} {g : Nat} (h : Row w b e cs) (hne : ρ b ≠ r) (hg : w.grownBy w' row) (hrow : ∀ b, row = some b → ρ b = r) (hnew : row = some g ∨ g = w.heap.size) : Row w' b e cs := by
  have := (grow_role hg hrow hnew b h.lt hne).1
  unfold Row at h ⊢
  rw [this]; exact h
theorem Own1.set {w : World} {base : Nat} {ρ : Nat → Nat} {r0 : Nat} {e : TypeId} {v : Value} {xs : List Value} (h : Own1 w base ρ r0 e v xs) {a : Addr} (hne : ρ a.block ≠ r0) (x : Value) : Own1 (w.setCell a x) base ρ r0 e v xs :=
  h.move fun q _ hr => ⟨Below.heap_setCell _ _ _ _ (fun e => hne (by rw [← e]; exact hr)), hr⟩
theorem Own1.alloc {w : World} {base : Nat} {ρ : Nat → Nat} {r0 : Nat} {e : TypeId} {v : Value} {xs : List Value} (h : Own1 w base ρ r0 e v xs) (o : Obj) : Own1 (w.alloc o) base ρ r0 e v xs :=
  h.move fun q hq hr => ⟨Below.heap_alloc _ _ _ hq, hr⟩
end Go.Proofs.YtbkcpepalicbjaaGreat
