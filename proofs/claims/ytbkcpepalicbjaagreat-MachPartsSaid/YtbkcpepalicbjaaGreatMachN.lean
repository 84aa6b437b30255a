/-
  A machine in the heap, in any state.
-/
import Derived.Test.YtbkcpepalicbjaaGreatMachL
import Derived.Test.YtbkcpepalicbjaaGreatMachW
import Derived.Test.YtbkcpepalicbjaaGreatMachP
namespace Go.Proofs.YtbkcpepalicbjaaGreat
open Go.RowKit
set_option linter.unusedVariables false
set_option linter.unusedSimpArgs false

def regc (l : List Val) : List Value := l.flatMap Val.cs
theorem regc_cons (v : Val) (l : List Val) : regc (v :: l) = v.cs ++ regc l := by unfold regc; rw [List.flatMap_cons]
theorem regc_len (l : List Val) : (regc l).length = l.length * 4 := by
  induction l with
  | nil => rfl
  | cons v l ih => rw [regc_cons, List.length_append, ih]; show 4 + _ = _; rw [List.length_cons]; omega
theorem regc_get (l : List Val) : ∀ i (h : i < l.length) j, j < 4 → (regc l)[i * 4 + j]? = (l[i].cs)[j]? := by
  induction l with
  | nil => intro i h; cases h
  | cons v l ih =>
    intro i h j hj
    rw [regc_cons]
    cases i with
    | zero => rw [List.getElem?_append_left (by show _ < 4; omega), Nat.zero_mul, Nat.zero_add]; rfl
    | succ i =>
      rw [List.getElem?_append_right (by show 4 ≤ _; omega)]
      show (regc l)[(i + 1) * 4 + j - 4]? = _
      rw [show (i + 1) * 4 + j - 4 = i * 4 + j by omega]
      exact ih i (by simpa using h) j hj
theorem regset_app (a c : List Value) (r : Nat) (v : Val) (k t o x : Value) (ha : a.length = 4 * r) :
    regset (a ++ v.cs ++ c) r k t o x = a ++ [k, t, o, x] ++ c := by
  unfold regset
  have e : ∀ (j : Nat) (p : List Value) (u : Value), p.length = 4 → j < 4 → (a ++ p ++ c).set (4 * r + j) u = a ++ p.set j u ++ c := by
    intro j p u hp hj
    rw [List.append_assoc, List.set_append_right _ _ (by omega), ha, show 4 * r + j - 4 * r = j by omega, List.set_append_left _ _ (by omega), ← List.append_assoc]
  have e0 := e 0 v.cs k rfl (by decide)
  rw [Nat.add_zero] at e0
  rw [e0, e 1 _ t rfl (by decide), e 2 _ o rfl (by decide), e 3 _ x rfl (by decide)]
  rfl
theorem regc_app (l m : List Val) : regc (l ++ m) = regc l ++ regc m := by unfold regc; rw [List.flatMap_append]
theorem regc_set (l : List Val) (r : Nat) (h : r < l.length) (v : Val) : regset (regc l) r (.int .i64 v.k) (.int .i64 v.t) (.int .i64 v.o) (.int .i64 v.x) = regc (l.set r v) := by
  have hl : l = l.take r ++ [l[r]] ++ l.drop (r + 1) := by simp
  have hs : l.set r v = l.take r ++ [v] ++ l.drop (r + 1) := by
    rw [List.set_eq_take_append_cons_drop, if_pos h, List.append_assoc]; rfl
  rw [hs, regc_app, regc_app]
  conv => lhs; rw [hl, regc_app, regc_app]
  have h1 : ∀ u : Val, regc [u] = u.cs := fun u => by unfold regc; simp
  rw [h1, h1]
  exact regset_app _ _ r _ _ _ _ _ (by rw [regc_len, List.length_take]; omega)

/-- A slot of the stack. -/
structure Slot where
  p : Val
  b : List Int
  m : Int
def Slot.cs (s : Slot) : List Value := s.p.cs ++ (s.b.map (Value.int .u8) ++ [.int .i64 s.m])
def stc (l : List Slot) : List Value := l.flatMap Slot.cs
def noslot : Slot := ⟨noval, [0, 0, 0, 0, 0, 0, 0, 0], 0⟩
def SlotsOK (l : List Slot) : Prop := l.length = 32 ∧ ∀ x ∈ l, x.b.length = 8
theorem Slot.len {s : Slot} (h : s.b.length = 8) : s.cs.length = 13 := by unfold Slot.cs Val.cs; simp [h]
theorem stc_cons (x : Slot) (l : List Slot) : stc (x :: l) = x.cs ++ stc l := by unfold stc; rw [List.flatMap_cons]
theorem stc_len : ∀ (l : List Slot), (∀ x ∈ l, x.b.length = 8) → (stc l).length = l.length * 13
  | [], _ => rfl
  | x :: l, h => by rw [stc_cons, List.length_append, Slot.len (h x (List.mem_cons_self ..)), stc_len l (fun y hy => h y (List.mem_cons_of_mem _ hy)), List.length_cons]; omega
theorem SlotsOK.len {l : List Slot} (h : SlotsOK l) : (stc l).length = 416 := by rw [stc_len l h.2, h.1]
theorem stc_zero : stc (List.replicate 32 noslot) = zstack := rfl
theorem slots_zero : SlotsOK (List.replicate 32 noslot) := ⟨by simp, fun x hx => by rw [List.eq_of_mem_replicate hx]; rfl⟩
theorem stc_get : ∀ (l : List Slot), (∀ x ∈ l, x.b.length = 8) → ∀ i (h : i < l.length) j, j < 13 → (stc l)[i * 13 + j]? = (l[i].cs)[j]?
  | [], _, i, h, _, _ => absurd h (by simp)
  | x :: l, hw, i, h, j, hj => by
    have hx := Slot.len (hw x (List.mem_cons_self ..))
    rw [stc_cons]
    cases i with
    | zero => rw [List.getElem?_append_left (by omega), Nat.zero_mul, Nat.zero_add]; rfl
    | succ i =>
      rw [List.getElem?_append_right (by omega), hx, show (i + 1) * 13 + j - 13 = i * 13 + j by omega]
      exact stc_get l (fun y hy => hw y (List.mem_cons_of_mem _ hy)) i (by simpa using h) j hj
theorem stc_set : ∀ (l : List Slot), (∀ x ∈ l, x.b.length = 8) → ∀ i (h : i < l.length) j, j < 13 → ∀ (v : Value) (x' : Slot), (l[i].cs).set j v = x'.cs → (stc l).set (i * 13 + j) v = stc (l.set i x')
  | [], _, i, h, _, _, _, _, _ => absurd h (by simp)
  | x :: l, hw, i, h, j, hj, v, x', he => by
    have hx := Slot.len (hw x (List.mem_cons_self ..))
    rw [stc_cons]
    cases i with
    | zero => rw [List.set_append_left _ _ (by omega), Nat.zero_mul, Nat.zero_add, List.set_cons_zero, stc_cons]; exact congrArg (· ++ stc l) he
    | succ i =>
      rw [List.set_append_right _ _ (by omega), hx, show (i + 1) * 13 + j - 13 = i * 13 + j by omega, List.set_cons_succ, stc_cons]
      exact congrArg (x.cs ++ ·) (stc_set l (fun y hy => hw y (List.mem_cons_of_mem _ hy)) i (by simpa using h) j hj v x' he)
theorem SlotsOK.set {l : List Slot} (h : SlotsOK l) (i : Nat) {x : Slot} (hx : x.b.length = 8) : SlotsOK (l.set i x) :=
  ⟨by rw [List.length_set]; exact h.1, fun y hy => by
    rcases List.mem_or_eq_of_mem_set hy with h' | h'
    · exact h.2 y h'
    · rw [h']; exact hx⟩

/-- What a machine is, beyond its code. -/
structure Mst where
  sl : List Slot
  rg : List Val
  ctx : List Int
  rows : List (List Int)
  sent : List Int
  at' : Nat
  steps : Int
  done : Bool
abbrev Mst.st (s : Mst) : List Value := stc s.sl
/-- What of a machine stays. -/
structure Mfix where
  data : List Int
  tabs : List (Int × Int)
  code : List Ins
/-- The values that a machine's block holds. -/
structure Mvals where
  ρ : Nat → Nat
  mb : Nat
  xv : Value
  tv : Value
  dv : Value
  zv : Value
  cv : Value
  uv : Value
  sv : Value
  vals : List Value
def i64s (xs : List Int) : List Value := xs.map (Value.int .i64)
def cellsM (s : Mst) (v : Mvals) : List Value := mrow s.st v.xv v.tv v.dv v.zv v.cv v.uv (.map (some v.mb)) (regc s.rg) v.sv s.at' s.steps s.done
/-- A machine at the block bx: nothing below base has changed since w0. -/
structure MS (base : Nat) (w0 : World) (fx : Mfix) (s : Mst) (bx : Nat) (v : Mvals) (w : World) : Prop where
  bel : Below base w0 w
  box : Row w bx 146 (cellsM s v)
  le : base ≤ bx
  rb : v.ρ bx = 0
  codeS : OwnS w base v.ρ 5 23 8 v.cv fx.code.length (codec fx.code)
  unitsS : OwnS w base v.ρ 6 3 1 v.uv (fx.code.length + 1) (ztab (fx.code.length + 1) fun k => unitAt fx.code k)
  begin' : MapS w base v.ρ 8 v.mb (bents fx.code fx.code.length) fx.code.length
  ctxS : OwnS w base v.ρ 1 5 1 v.xv s.ctx.length (u8s s.ctx)
  tabS : TabS w base v.ρ v.tv v.vals s.rows
  dataS : OwnS w base v.ρ 3 5 1 v.dv fx.data.length (u8s fx.data)
  sizeS : OwnS w base v.ρ 4 148 2 v.zv fx.tabs.length (tabc fx.tabs)
  sentS : OwnS w base v.ρ 7 3 1 v.sv s.sent.length (i64s s.sent)
  slw : SlotsOK s.sl
  rgl : s.rg.length = 11
theorem MS.stl {base : Nat} {w0 : World} {fx : Mfix} {s : Mst} {bx : Nat} {v : Mvals} {w : World} (h : MS base w0 fx s bx v w) : s.st.length = 416 := h.slw.len
theorem Mod.bel {w w' : World} {bx base : Nat} (h : Mod w w' bx) {w0 : World} (hb : Below base w0 w) (hB : base ≤ bx) (hx : bx < w.heap.size) : Below base w0 w' :=
  ⟨h.os.trans hb.os, h.tape.trans hb.tape, h.output.trans hb.output, Nat.le_trans hb.size h.size, fun k hk => (h.block k (by omega) (by omega)).trans (hb.block k hk)⟩
theorem OwnS.mod {w w' : World} {base size n : Nat} {ρ : Nat → Nat} {r bx : Nat} {e : TypeId} {v : Value} {xs : List Value} (h : OwnS w base ρ r e size v n xs) (hm : Mod w w' bx) (hr : ρ bx ≠ r) : OwnS w' base ρ r e size v n xs :=
  h.move fun q hq hqr => ⟨hm.block q hq (fun hc => hr (by rw [← hc]; exact hqr)), hqr⟩
theorem MapS.mod {w w' : World} {base : Nat} {ρ : Nat → Nat} {r mb bx : Nat} {es : Array MapEntry} {c : Nat} (h : MapS w base ρ r mb es c) (hm : Mod w w' bx) (hr : ρ bx ≠ r) : MapS w' base ρ r mb es c :=
  ⟨(hm.block mb h.lt (fun hc => hr (by rw [← hc]; exact h.role))).trans h.at', h.le, h.role⟩
theorem TabS.mod {w w' : World} {base : Nat} {ρ : Nat → Nat} {bx : Nat} {tv' : Value} {vals' : List Value} {rows : List (List Int)} (h : TabS w base ρ tv' vals' rows) (hm : Mod w w' bx) (hr : ρ bx < 10) : TabS w' base ρ tv' vals' rows :=
  ⟨h.list.mod hm (by omega), fun k hk => let ⟨u, hu, ho⟩ := h.item k hk; ⟨u, hu, ho.mod hm (by omega)⟩⟩
/-- The machine's own block has changed, alone. -/
theorem MS.mod {base : Nat} {w0 : World} {fx : Mfix} {s : Mst} {bx : Nat} {v : Mvals} {w w' : World} (h : MS base w0 fx s bx v w) (hm : Mod w w' bx) (sl : List Slot) (rg : List Val) (at' : Nat) (steps : Int) (done : Bool)
    (hst : SlotsOK sl) (hrg : rg.length = 11) (hr : Row w' bx 146 (cellsM { s with sl := sl, rg := rg, at' := at', steps := steps, done := done } v)) :
    MS base w0 fx { s with sl := sl, rg := rg, at' := at', steps := steps, done := done } bx v w' :=
  have h0 := h.rb
  ⟨hm.bel h.bel h.le h.box.lt, hr, h.le, h.rb, h.codeS.mod hm (by omega), h.unitsS.mod hm (by omega), h.begin'.mod hm (by omega), h.ctxS.mod hm (by omega), h.tabS.mod hm (by omega), h.dataS.mod hm (by omega), h.sizeS.mod hm (by omega), h.sentS.mod hm (by omega), hst, hrg⟩
theorem MS.same {base : Nat} {w0 : World} {fx : Mfix} {s : Mst} {bx : Nat} {v : Mvals} {w w' : World} (h : MS base w0 fx s bx v w) (hm : Mod w w' bx) (hr : Row w' bx 146 (cellsM s v)) : MS base w0 fx s bx v w' :=
  h.mod hm s.sl s.rg s.at' s.steps s.done h.slw h.rgl hr
theorem MS.next {base : Nat} {w0 : World} {fx : Mfix} {s : Mst} {bx : Nat} {v : Mvals} {w w' : World} (h : MS base w0 fx s bx v w) (hb : Below w.heap.size w w') : MS base w0 fx s bx v w' :=
  h.same (Mod.of_below hb bx) (h.box.below hb h.box.lt)
/-- A register's cells. -/
theorem MS.reg {base : Nat} {w0 : World} {fx : Mfix} {s : Mst} {bx : Nat} {v : Mvals} {w : World} (h : MS base w0 fx s bx v w) (r : Nat) (hr : r < 11) :
    w.cell? ⟨bx, 423 + r * 4, none⟩ = some (.int .i64 (s.rg[r]'(by rw [h.rgl]; exact hr)).k) ∧ w.cell? ⟨bx, 423 + r * 4 + 1, none⟩ = some (.int .i64 (s.rg[r]'(by rw [h.rgl]; exact hr)).t) ∧
    w.cell? ⟨bx, 423 + r * 4 + 2, none⟩ = some (.int .i64 (s.rg[r]'(by rw [h.rgl]; exact hr)).o) ∧ w.cell? ⟨bx, 423 + r * 4 + 3, none⟩ = some (.int .i64 (s.rg[r]'(by rw [h.rgl]; exact hr)).x) := by
  have hl : (regc s.rg).length = 44 := by rw [regc_len, h.rgl]
  have hb := h.box
  unfold cellsM at hb
  have hg := regc_get s.rg r (by rw [h.rgl]; exact hr)
  refine ⟨?_, ?_, ?_, ?_⟩
  · exact (mrow_reg h.stl hl hb (r * 4) (by omega)).trans (hg 0 (by decide))
  · exact (mrow_reg h.stl hl hb (r * 4 + 1) (by omega)).trans (hg 1 (by decide))
  · exact (mrow_reg h.stl hl hb (r * 4 + 2) (by omega)).trans (hg 2 (by decide))
  · exact (mrow_reg h.stl hl hb (r * 4 + 3) (by omega)).trans (hg 3 (by decide))

/-- A box of the walk's own, of role 9. -/
theorem MS.box9 {base : Nat} {w0 : World} {fx : Mfix} {s : Mst} {bx : Nat} {v : Mvals} {w : World} (h : MS base w0 fx s bx v w) (o : Obj) : MS base w0 fx s bx { v with ρ := newRole v.ρ w.heap.size 9 } (w.alloc o) :=
  have hb := (Below.refl w.heap.size w).alloc (Nat.le_refl _) o
  have hs : ∀ q, q < w.heap.size → newRole v.ρ w.heap.size 9 q = v.ρ q := newRole_same
  have hle := h.le
  have hlt := h.box.lt
  ⟨h.bel.trans (hb.mono (by omega)), h.box.below hb h.box.lt, h.le, (hs bx h.box.lt).trans h.rb, h.codeS.next hb hs, h.unitsS.next hb hs, h.begin'.next2 hb hs, h.ctxS.next hb hs, h.tabS.next hb hs, h.dataS.next hb hs, h.sizeS.next hb hs, h.sentS.next hb hs, h.slw, h.rgl⟩
/-- Blocks of role 9 stay. -/
def Fr9 (ρ : Nat → Nat) (w w' : World) : Prop := ∀ k, k < w.heap.size → ρ k = 9 → w'.heap[k]? = w.heap[k]?
theorem Fr9.of_mod {ρ : Nat → Nat} {w w' : World} {bx : Nat} (h : Mod w w' bx) (hr : ρ bx = 0) : Fr9 ρ w w' := fun k hk h9 => h.block k hk (fun hc => by rw [hc, hr] at h9; cases h9)
/-- The register r, as cells. -/
theorem MS.regC {base : Nat} {w0 : World} {fx : Mfix} {s : Mst} {bx : Nat} {v : Mvals} {w : World} (h : MS base w0 fx s bx v w) (r : Nat) (hr : r < 11) : RegC (cellsM s v) r (s.rg[r]'(by rw [h.rgl]; exact hr)) := by
  obtain ⟨h0, h1, h2, h3⟩ := h.reg r hr
  rw [h.box.cell] at h0 h1 h2 h3
  exact ⟨h0, h1, h2, h3⟩
theorem MS.len {base : Nat} {w0 : World} {fx : Mfix} {s : Mst} {bx : Nat} {v : Mvals} {w : World} (h : MS base w0 fx s bx v w) : (cellsM s v).length = 471 := by
  have hl : (regc s.rg).length = 44 := by rw [regc_len, h.rgl]
  unfold cellsM mrow
  simp only [List.length_append, List.length_cons, List.length_nil, hl, h.stl]
theorem MS.set4 {base : Nat} {w0 : World} {fx : Mfix} {s : Mst} {bx : Nat} {v : Mvals} {w : World} (h : MS base w0 fx s bx v w) (d : Nat) (hd : d < 11) (u : Val) :
    set4 (cellsM s v) (423 + d * 4) (.int .i64 u.k) (.int .i64 u.t) (.int .i64 u.o) (.int .i64 u.x) = cellsM { s with rg := s.rg.set d u } v := by
  have hl : (regc s.rg).length = 44 := by rw [regc_len, h.rgl]
  unfold Proofs.YtbkcpepalicbjaaGreat.set4 cellsM
  simp only [Nat.add_assoc]
  rw [mrow_rset h.stl hl _ _ _ _ _ _ _ _ _ _ _ _ (by omega), mrow_rset h.stl (by simp [hl]) _ _ _ _ _ _ _ _ _ _ _ _ (by omega), mrow_rset h.stl (by simp [hl]) _ _ _ _ _ _ _ _ _ _ _ _ (by omega), mrow_rset h.stl (by simp [hl]) _ _ _ _ _ _ _ _ _ _ _ _ (by omega)]
  have := regc_set s.rg d (by rw [h.rgl]; exact hd) u
  unfold regset at this
  rw [Nat.mul_comm 4 d] at this
  rw [this]
def Ins.agg (i : Ins) : Value := .agg #[.int .i64 i.op, .bool i.nar, .bool i.reg, .int .i64 i.size, .int .i64 i.dst, .int .i64 i.src, .int .i64 i.off, .int .i64 i.imm]
/-- What a doer does: from s to s1, with the answers by and er. -/
def DoR (F : FuncId) (fx : Mfix) (s : Mst) (i : Ins) (by' er : Int) (s1 : Mst) : Prop :=
  ∀ (base : Nat) (w0 : World) (bx : Nat) (v : Mvals) (w : World), MS base w0 fx s bx v w → Calls Tryz.prog F #[.pointer (some ⟨bx, 0, none⟩), i.agg] w fun e w' =>
    e = .returned (.tuple #[.int .i64 by', .int .i64 er]) ∧ ∃ v', MS base w0 fx s1 bx v' w' ∧ Fr9 v.ρ w w' ∧ ∀ k, k < w.heap.size → v'.ρ k = v.ρ k
/-- A doer that writes a register alone. -/
theorem do_set {F : FuncId} {fx : Mfix} {s : Mst} {i : Ins} {by' er : Int} (d : Nat) (hd : d < 11) (u : Val)
    (h : ∀ (bx : Nat) (cs : List Value) (w : World), cs.length = 471 → (∀ r (hr : r < 11) (hl : s.rg.length = 11), RegC cs r (s.rg[r]'(by rw [hl]; exact hr))) → s.rg.length = 11 → Row w bx 146 cs →
      Calls Tryz.prog F #[.pointer (some ⟨bx, 0, none⟩), i.agg] w (Wrote w bx (Proofs.YtbkcpepalicbjaaGreat.set4 cs (423 + d * 4) (.int .i64 u.k) (.int .i64 u.t) (.int .i64 u.o) (.int .i64 u.x)) by' er)) :
    DoR F fx s i by' er { s with rg := s.rg.set d u } := by
  intro base w0 bx v w hM
  refine (h bx (cellsM s v) w hM.len (fun r hr hl => hM.regC r hr) hM.rgl hM.box).mono ?_
  rintro e w' ⟨rfl, hm, hr⟩
  refine ⟨rfl, v, ?_, Fr9.of_mod hm hM.rb, fun _ _ => rfl⟩
  rw [hM.set4 d hd u] at hr
  exact hM.mod hm s.sl (s.rg.set d u) s.at' s.steps s.done hM.slw (by rw [List.length_set]; exact hM.rgl) hr
/-- A doer that leaves the machine as it was. -/
theorem do_same {F : FuncId} {fx : Mfix} {s : Mst} {i : Ins} {by' er : Int}
    (h : ∀ (bx : Nat) (cs : List Value) (w : World), cs.length = 471 → (∀ r (hr : r < 11) (hl : s.rg.length = 11), RegC cs r (s.rg[r]'(by rw [hl]; exact hr))) → s.rg.length = 11 → Row w bx 146 cs →
      Calls Tryz.prog F #[.pointer (some ⟨bx, 0, none⟩), i.agg] w (Wrote w bx cs by' er)) :
    DoR F fx s i by' er s := by
  intro base w0 bx v w hM
  refine (h bx (cellsM s v) w hM.len (fun r hr hl => hM.regC r hr) hM.rgl hM.box).mono ?_
  rintro e w' ⟨rfl, hm, hr⟩
  exact ⟨rfl, v, hM.same hm hr, Fr9.of_mod hm hM.rb, fun _ _ => rfl⟩
/-- A doer that ends the run. -/
theorem do_done {F : FuncId} {fx : Mfix} {s : Mst} {i : Ins} {by' er : Int}
    (h : ∀ (bx : Nat) (cs : List Value) (w : World), cs.length = 471 → (∀ r (hr : r < 11) (hl : s.rg.length = 11), RegC cs r (s.rg[r]'(by rw [hl]; exact hr))) → s.rg.length = 11 → Row w bx 146 cs →
      Calls Tryz.prog F #[.pointer (some ⟨bx, 0, none⟩), i.agg] w (Wrote w bx (cs.set 470 (.bool true)) by' er)) :
    DoR F fx s i by' er { s with done := true } := by
  intro base w0 bx v w hM
  refine (h bx (cellsM s v) w hM.len (fun r hr hl => hM.regC r hr) hM.rgl hM.box).mono ?_
  rintro e w' ⟨rfl, hm, hr⟩
  refine ⟨rfl, v, ?_, Fr9.of_mod hm hM.rb, fun _ _ => rfl⟩
  have hl : (regc s.rg).length = 44 := by rw [regc_len, hM.rgl]
  have hc : (cellsM s v).set 470 (.bool true) = cellsM { s with done := true } v := by
    unfold cellsM mrow
    rw [List.set_append_right _ _ (by rw [hM.stl]; decide), hM.stl, List.set_append_right _ _ (by simp), List.set_append_right _ _ (by simp [hl])]
    simp [hl]
  rw [hc] at hr
  exact hM.mod hm s.sl s.rg s.at' s.steps true hM.slw hM.rgl hr
theorem mrow_tail {w : World} {b : Nat} {e : TypeId} {st rg : List Value} {xv tv dv zv cv uv bg sv : Value} {at' steps : Int} {done : Bool} (hs : st.length = 416) (hl : rg.length = 44) (h : Row w b e (mrow st xv tv dv zv cv uv bg rg sv at' steps done)) :
    w.cell? ⟨b, 467, none⟩ = some sv ∧ w.cell? ⟨b, 468, none⟩ = some (.int .i64 at') ∧ w.cell? ⟨b, 469, none⟩ = some (.int .i64 steps) ∧ w.cell? ⟨b, 470, none⟩ = some (.bool done) := by
  unfold mrow at h
  refine ⟨?_, ?_, ?_, ?_⟩ <;> (rw [h.cell, List.getElem?_append_right (by omega), hs, List.getElem?_append_right (by simp), List.getElem?_append_right (by simp [hl])]; simp [hl])
theorem mrow_setat {st rg : List Value} (hs : st.length = 416) (hl : rg.length = 44) (xv tv dv zv cv uv bg sv : Value) (at' steps : Int) (done : Bool) (x : Int) : (mrow st xv tv dv zv cv uv bg rg sv at' steps done).set 468 (.int .i64 x) = mrow st xv tv dv zv cv uv bg rg sv x steps done := by
  unfold mrow
  rw [List.set_append_right _ _ (by rw [hs]; decide), hs, List.set_append_right _ _ (by simp), List.set_append_right _ _ (by simp [hl])]
  simp [hl]
theorem mrow_setsteps {st rg : List Value} (hs : st.length = 416) (hl : rg.length = 44) (xv tv dv zv cv uv bg sv : Value) (at' steps : Int) (done : Bool) (x : Int) : (mrow st xv tv dv zv cv uv bg rg sv at' steps done).set 469 (.int .i64 x) = mrow st xv tv dv zv cv uv bg rg sv at' x done := by
  unfold mrow
  rw [List.set_append_right _ _ (by rw [hs]; decide), hs, List.set_append_right _ _ (by simp), List.set_append_right _ _ (by simp [hl])]
  simp [hl]
section
variable {base : Nat} {w0 : World} {fx : Mfix} {s : Mst} {bx : Nat} {v : Mvals} {w : World}
theorem MS.rl (h : MS base w0 fx s bx v w) : (regc s.rg).length = 44 := by rw [regc_len, h.rgl]
theorem MS.tail (h : MS base w0 fx s bx v w) : w.cell? ⟨bx, 467, none⟩ = some v.sv ∧ w.cell? ⟨bx, 468, none⟩ = some (.int .i64 s.at') ∧ w.cell? ⟨bx, 469, none⟩ = some (.int .i64 s.steps) ∧ w.cell? ⟨bx, 470, none⟩ = some (.bool s.done) := mrow_tail h.stl h.rl h.box
theorem MS.heads (h : MS base w0 fx s bx v w) : w.cell? ⟨bx, 416, none⟩ = some v.xv ∧ w.cell? ⟨bx, 417, none⟩ = some v.tv ∧ w.cell? ⟨bx, 418, none⟩ = some v.dv ∧ w.cell? ⟨bx, 419, none⟩ = some v.zv ∧ w.cell? ⟨bx, 420, none⟩ = some v.cv ∧ w.cell? ⟨bx, 421, none⟩ = some v.uv ∧ w.cell? ⟨bx, 422, none⟩ = some (.map (some v.mb)) := mrow_heads h.stl h.box
theorem MS.setAt (h : MS base w0 fx s bx v w) (x : Nat) : MS base w0 fx { s with at' := x } bx v (w.setCell ⟨bx, 468, none⟩ (.int .i64 x)) := by
  have hr := h.box.put 468 (.int .i64 x)
  unfold cellsM at hr
  rw [mrow_setat h.stl h.rl] at hr
  exact h.mod ((Mod.refl w bx).set 468 _) s.sl s.rg x s.steps s.done h.slw h.rgl hr
theorem MS.setSteps (h : MS base w0 fx s bx v w) (x : Int) : MS base w0 fx { s with steps := x } bx v (w.setCell ⟨bx, 469, none⟩ (.int .i64 x)) := by
  have hr := h.box.put 469 (.int .i64 x)
  unfold cellsM at hr
  rw [mrow_setsteps h.stl h.rl] at hr
  exact h.mod ((Mod.refl w bx).set 469 _) s.sl s.rg s.at' x s.done h.slw h.rgl hr
theorem MS.codeAt (h : MS base w0 fx s bx v w) (k : Nat) (hk : k < fx.code.length) : ∃ g c, v.cv = .slice (some ⟨g, 0, none⟩) fx.code.length c ∧ ∀ j, j < 8 → w.cell? ⟨g, k * 8 + j, none⟩ = ((fx.code[k]).cs)[j]? := by
  obtain ⟨g, c, hv⟩ := own_some h.codeS.1 (by omega)
  refine ⟨g, c, hv, fun j hj => ?_⟩
  have hh := h.codeS.1
  rw [hv] at hh
  rw [hh.cellAt (k * 8 + j) (by omega)]
  exact codec_get _ k hk j hj
theorem MS.unitsAt (h : MS base w0 fx s bx v w) (k : Nat) (hk : k ≤ fx.code.length) : ∃ g c, v.uv = .slice (some ⟨g, 0, none⟩) (fx.code.length + 1) c ∧ w.cell? ⟨g, k, none⟩ = some (.int .i64 (unitAt fx.code k : Nat)) := by
  obtain ⟨g, c, hv⟩ := own_some h.unitsS.1 (by omega)
  refine ⟨g, c, hv, ?_⟩
  have hh := h.unitsS.1
  rw [hv] at hh
  rw [hh.cellAt k (by omega), ztab_get _ (by omega)]
end
end Go.Proofs.YtbkcpepalicbjaaGreat
