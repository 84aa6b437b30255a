/-
  A number sent: what becomes of the machine.
-/
import Derived.Test.YtdepknffpnnmmaaGreatJ4a
namespace Go.Proofs.YtdepknffpnnmmaaGreat
open Go.RowKit
set_option linter.unusedVariables false
set_option linter.unusedSimpArgs false

/-- A store into a new block. -/
theorem Mod.new {w w1 : World} {bx q : Nat} (h : Mod w w1 bx) (hq : w.heap.size ≤ q) (i : Nat) (x : Value) : Mod w (w1.setCell ⟨q, i, none⟩ x) bx :=
  ⟨h.os, h.tape, h.output, by rw [World.size_setCell]; exact h.size, fun k hk hne => by rw [Below.heap_setCell _ _ _ _ (by show k ≠ q; omega)]; exact h.block k hk hne⟩
theorem mrow_setsent {st rg : List Value} (hs : st.length = 416) (hl : rg.length = 44) (xv tv dv zv cv uv bg sv : Value) (at' steps : Int) (done : Bool) (x : Value) : (mrow st xv tv dv zv cv uv bg rg sv at' steps done).set 467 x = mrow st xv tv dv zv cv uv bg rg x at' steps done := by
  unfold mrow
  rw [List.set_append_right _ _ (by rw [hs]; decide), hs, List.set_append_right _ _ (by simp), List.set_append_right _ _ (by simp [hl])]
  simp [hl]
section
variable {base : Nat} {w0 : World} {fx : Mfix} {s : Mst} {bx : Nat} {v : Mvals}
theorem MS.sentapp {w w1 : World} {sent' : List Int} {nv : Value} (h : MS base w0 fx s bx v w) (hown : w1.ownsRow base 3 1 nv sent'.length (i64s sent')) (hgrow : w.grownBy w1 v.sv.ownBlock) (hr : ∀ g, nv.ownBlock = some g → v.ρ g = 7) :
    MS base w0 fx { s with sent := sent' } bx { v with sv := nv } (w1.setCell ⟨bx, 467, none⟩ nv) := by
  have hlt := h.box.lt
  have hle : base ≤ w.heap.size := Nat.le_trans h.le (Nat.le_of_lt hlt)
  have hsb : ∀ g, v.sv.ownBlock = some g → v.ρ g = 7 := h.sentS.2
  have hf1 : ∀ q, q < w.heap.size → v.ρ q ≠ 7 → w1.heap[q]? = w.heap[q]? := fun q hq h7 => hgrow.block q hq (fun hc => h7 (hsb q hc.symm))
  have hf : ∀ q, q < w.heap.size → v.ρ q ≠ 7 → v.ρ q ≠ 0 → (w1.setCell ⟨bx, 467, none⟩ nv).heap[q]? = w.heap[q]? := fun q hq h7 h0 => by
    rw [Below.heap_setCell _ _ _ _ (by show q ≠ bx; intro hc; rw [hc, h.rb] at h0; exact h0 rfl)]
    exact hf1 q hq h7
  have hbel : Below base w0 (w1.setCell ⟨bx, 467, none⟩ nv) :=
    (Below.grown h.bel hgrow hle (fun g hg => (h.sentS.1.lt g hg).1)).setCell h.le nv
  have hbox : Row (w1.setCell ⟨bx, 467, none⟩ nv) bx 99 (cellsM { s with sent := sent' } { v with sv := nv }) := by
    have hr1 : Row w1 bx 99 (cellsM s v) := by
      have hb := h.box
      unfold Row at hb ⊢
      rw [hf1 bx hlt (by rw [h.rb]; decide)]
      exact hb
    have h2 := hr1.put 467 nv
    have hl : (regc s.rg).length = 44 := by rw [regc_len, h.rgl]
    have he : (cellsM s v).set 467 nv = cellsM { s with sent := sent' } { v with sv := nv } := by
      unfold cellsM
      exact mrow_setsent h.stl hl _ _ _ _ _ _ _ _ _ _ _ _
    rw [he] at h2
    exact h2
  have hsent : OwnS (w1.setCell ⟨bx, 467, none⟩ nv) base v.ρ 7 3 1 nv sent'.length (i64s sent') := by
    refine ⟨ownsRow_stayS hown (fun g hg => ?_), hr⟩
    rw [Below.heap_setCell _ _ _ _ (by show g ≠ bx; intro hc; have := hr g hg; rw [hc, h.rb] at this; cases this)]
  have mv : ∀ {r size n : Nat} {e : TypeId} {u : Value} {xs : List Value}, r ≠ 7 → r ≠ 0 → OwnS w base v.ρ r e size u n xs → OwnS (w1.setCell ⟨bx, 467, none⟩ nv) base v.ρ r e size u n xs :=
    fun h7 h0 ho => ho.move fun q hq hqr => ⟨hf q hq (by rw [hqr]; exact h7) (by rw [hqr]; exact h0), hqr⟩
  exact ⟨hbel, hbox, h.le, h.rb, mv (by decide) (by decide) h.codeS, mv (by decide) (by decide) h.unitsS,
    ⟨(hf _ h.begin'.lt (by rw [h.begin'.role]; decide) (by rw [h.begin'.role]; decide)).trans h.begin'.at', h.begin'.le, h.begin'.role⟩,
    mv (by decide) (by decide) h.ctxS, ⟨mv (by decide) (by decide) h.tabS.list, fun k hk => let ⟨u, hu, ho⟩ := h.tabS.item k hk; ⟨u, hu, mv (by omega) (by omega) ho⟩⟩,
    mv (by decide) (by decide) h.dataS, mv (by decide) (by decide) h.sizeS, hsent, h.slw, h.rgl⟩
/-- The machine, every new block of role 7. -/
def v7 (v : Mvals) (w : World) : Mvals := { v with ρ := newRole v.ρ w.heap.size 7 }
theorem MS.seven {w : World} (h : MS base w0 fx s bx v w) : MS base w0 fx s bx (v7 v w) w :=
  have hb := Below.refl w.heap.size w
  have hs : ∀ q, q < w.heap.size → newRole v.ρ w.heap.size 7 q = v.ρ q := newRole_same
  ⟨h.bel, h.box, h.le, (hs bx h.box.lt).trans h.rb, h.codeS.next hb hs, h.unitsS.next hb hs, h.begin'.next2 hb hs, h.ctxS.next hb hs, h.tabS.next hb hs, h.dataS.next hb hs, h.sizeS.next hb hs, h.sentS.next hb hs, h.slw, h.rgl⟩
theorem seven_new {w : World} {q : Nat} (h : w.heap.size ≤ q) : (v7 v w).ρ q = 7 := by unfold v7 newRole; simp [h]
theorem seven_old {w : World} : ∀ q, q < w.heap.size → (v7 v w).ρ q = v.ρ q := newRole_same
end
end Go.Proofs.YtdepknffpnnmmaaGreat
