/-
  General facts about worlds, rows of cells and the closing of a law; no program is named here.
-/
import Derived.WalkKit
import Derived.ProofKit
import Derived.Deep.Quiet
namespace Go.Proofs.YtaaidjphacofgaaGreatDoor
open Go.RowKit Go.ChangeShapes

/-- Block b is a row of the cells cs, of the element type e, and nothing of it is frozen. -/
def Row (w : World) (b : Nat) (e : TypeId) (cs : List Value) : Prop := w.heap[b]? = some (.cells cs.toArray e (0, 0))

theorem Row.lt {w : World} {b : Nat} {e : TypeId} {cs : List Value} (h : Row w b e cs) : b < w.heap.size := lt_of_block h
theorem Row.cell {w : World} {b : Nat} {e : TypeId} {cs : List Value} (h : Row w b e cs) (i : Nat) : w.cell? ⟨b, i, none⟩ = cs[i]? := by
  rw [cell_of_row w b i _ e (0, 0) h]; simp
theorem Row.free {w : World} {b : Nat} {e : TypeId} {cs : List Value} (h : Row w b e cs) (i : Nat) : w.frozen? ⟨b, i, none⟩ = false := by
  unfold Row at h; simp [World.frozen?, h]
theorem Row.put {w : World} {b : Nat} {e : TypeId} {cs : List Value} (h : Row w b e cs) (i : Nat) (v : Value) :
    Row (w.setCell ⟨b, i, none⟩ v) b e (cs.set i v) := by
  have hlt := h.lt
  unfold Row at h ⊢
  have h' : w.heap[b] = .cells cs.toArray e (0, 0) := by simpa [Array.getElem?_eq_getElem hlt] using h
  show (w.heap.modify b _)[b]? = _
  rw [Array.getElem?_eq_getElem (by simpa using hlt), Array.getElem_modify_self, h']
  simp
theorem Row.other {w : World} {b : Nat} {e : TypeId} {cs : List Value} (h : Row w b e cs) (a : Addr) (v : Value) (hne : b ≠ a.block) :
    Row (w.setCell a v) b e cs := by
  unfold Row at h ⊢
  rw [Below.heap_setCell _ _ _ _ hne]; exact h
theorem Row.alloc {w : World} {b : Nat} {e : TypeId} {cs : List Value} (h : Row w b e cs) (o : Obj) : Row (w.alloc o) b e cs := by
  have hlt := h.lt
  unfold Row at h ⊢
  rw [Below.heap_alloc _ _ _ hlt]; exact h
theorem Row.made (w : World) (cs : List Value) (e : TypeId) : Row (w.alloc (.cells cs.toArray e)) w.heap.size e cs := heap_alloc_new w _
theorem Row.below {w w' : World} {b B : Nat} {e : TypeId} {cs : List Value} (h : Row w b e cs) (hb : Below B w w') (hlt : b < B) : Row w' b e cs := by
  unfold Row at h ⊢
  rw [hb.block b hlt]; exact h
theorem Row.drew {w : World} {b : Nat} {e : TypeId} {cs : List Value} (h : Row w b e cs) : Row w.drew b e cs := h
theorem Row.drewN {w : World} {b : Nat} {e : TypeId} {cs : List Value} (h : Row w b e cs) (n : Nat) : Row (w.drewN n) b e cs := h

theorem ret_bool {a b : Bool} (h : a = b) : Ending.returned (.bool a) = .returned (.bool b) := by rw [h]
theorem ret_int {k : IntKind} {a b : Int} (h : a = b) : Ending.returned (.int k a) = .returned (.int k b) := by rw [h]
theorem drewN_drewN (w : World) (m n : Nat) : (w.drewN m).drewN n = w.drewN (m + n) := by unfold World.drewN; simp [Nat.add_assoc]
theorem drewN_zero (w : World) : w = w.drewN 0 := rfl
theorem range_i64 {x : Int} (h : (Lit.int .i64 x).wf = true) : -9223372036854775808 ≤ x ∧ x ≤ 9223372036854775807 := by
  simp [Lit.wf, IntKind.min, IntKind.max, IntKind.signed, IntKind.bits] at h
  omega
theorem below_drewN {B : Nat} {a w : World} (h : Below B a w) (n : Nat) : Below B a (w.drewN n) := ⟨h.os, h.tape, h.output, h.size, h.block⟩

/-- Every argument reads behind the call as it did, if below the heap's old size nothing has turned. -/
theorem trodAll_stay {H : Type} {enc : TypeId × Value → H} {P : Program} (hl : laidOutB P = true) {W W' : World} (hb : Below W.heap.size W W') :
    ∀ (ts : List TypeId) (vs : List Value) (ds : List (DataW H)) (ps : List MemPlace), (ts.all fun t => P.readableRec t && decide (t < P.types.size)) = true →
      DataW.TrodAll enc P W 0 (fun _ => true) true ts vs ds ps → (∀ x ∈ ps, x.block < W.heap.size) →
      DataW.TrodAll enc P W' 0 (fun b => decide (b < W.heap.size)) true ts vs ds ps
  | [], _, _, _, _, h, _ => by
    obtain ⟨rfl, rfl, rfl⟩ := trodAll_nil h
    exact rfl
  | t :: ts, _, _, _, ht, h, hlt => by
    obtain ⟨v, vs1, d, ds1, a, b, rfl, rfl, rfl, h1, h2⟩ := trodAll_cons h
    simp only [List.all_cons, Bool.and_eq_true, decide_eq_true_eq] at ht
    exact ⟨a, b, Below.trod hl ht.1.1 ht.1.2 h1 hb (fun x hx => hlt x (List.mem_append.2 (Or.inl hx))),
      trodAll_stay hl hb ts vs1 ds1 b (by simpa using ht.2) h2 (fun x hx => hlt x (List.mem_append.2 (Or.inr hx))), rfl⟩

/-- A law's post: it returned true, and below the heap's old size nothing has turned. -/
theorem law_post {H : Type} {enc : TypeId × Value → H} {P : Program} {f : Func} {s : ChangeSpec} {W W' : World} {args : Array Value} {ds gs : List (DataW H)} {before : List MemPlace} {tb : TypeId}
    (hl : laidOutB P = true) (hts : (f.params.toList.all fun t => P.readableRec t && decide (t < P.types.size)) = true)
    (hr : f.resultTypes = #[tb]) (hb : P.underlying tb = some .bool) (hvars : s.vars = [])
    (hfn : gs = [] → s.fn H (ds ++ gs) = { results := [.lit (.bool true)], args := ds })
    (hW : DataW.Whole enc P f.params.toList s.vars false W args.toList ds gs before) (hbelow : Below W.heap.size W W') :
    s.post enc P f false true false false W args (.bool true) W' := by
  have hW' := hW
  obtain ⟨p, q, hA, hV, hpq, hfz, hnd⟩ := hW
  rw [hvars] at hV
  have hq : gs = [] ∧ q = [] := by
    cases gs with
    | nil => exact ⟨rfl, hV⟩
    | cons _ _ => exact hV.elim
  obtain ⟨rfl, rfl⟩ := hq
  have hfn := hfn rfl
  have hlt : ∀ x ∈ before, x.block < W.heap.size := fun x hx => by simpa using hW'.lt x hx
  refine ⟨ds, [], before, [], before, [], hW', ?_, ?_, ?_, hbelow.frame _, fun h => by cases h⟩
  · rw [hfn, hr]
    exact trodAll_mk1 (shut_bool hb _)
  · rw [hfn]
    rw [hpq] at hlt ⊢
    simp only [List.append_nil] at hlt ⊢
    exact trodAll_stay hl hbelow _ _ _ _ hts hA hlt
  · rw [hfn, hvars]
    exact rfl
end Go.Proofs.YtaaidjphacofgaaGreatDoor
