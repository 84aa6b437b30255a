/-
  MachMemory: what its walk keeps.
-/
import Derived.Test.YtdepknffpnnmmaaGreatMachBH
import Derived.Test.YtdepknffpnnmmaaGreatBuilds
import Derived.Laws.CopyOwn
namespace Go.Proofs.YtdepknffpnnmmaaGreat
open Go.RowKit
set_option linter.unusedVariables false
set_option linter.unusedSimpArgs false

/-- runs, of a program that comes to its end. -/
theorem runs_ok (code : List Ins) (hp : ProgOK code) (ctx : List Int) (hb : IsBytes ctx) (hcl : ctx.length ≤ 65535) (s2 : Mst) (hr : runF ⟨[], [], code⟩ 1048576 (st0 ctx) = (0, s2)) (r0 : Int) (h0 : (s2.reg 0).x = r0) (ctx' : List Int) (hc' : s2.ctx = ctx') (hb' : IsBytes ctx') (m : Nat) (hm : m = ctx'.length)
    (n : Nat) (hn : n = code.length) (ca : Option Addr) (cc : Nat) (xv : Value) (w : World) (hc : Coded w (.slice ca n cc) code) (hx : Held w xv ctx) :
    Calls Tryz.prog 9 #[.slice ca n cc, xv] w fun e w' => ∃ a1 c1 a2 n2 c2 a3 n3 c3, e = .returned (.tuple #[.agg #[.int .i64 r0, .slice a1 m c1, .slice a2 n2 c2, .slice a3 n3 c3], .int .i64 0]) ∧ w'.ownsRow w.heap.size 5 1 (.slice a1 m c1) m (u8s ctx') ∧ Below w.heap.size w w' := by
  subst hn hc' hm h0
  have hrl := (run_R hp.code 1048576 (st0 ctx) (good0 code ctx hb hcl) hp.len.1 (by show (0 : Int) ≤ 0; decide) (by show (0 : Int) + 1048576 < _; decide)).2.regs.1
  rw [hr] at hrl
  simp only at hrl
  refine (runs_any code hp ctx hb hcl 0 s2 hr ca cc xv w hc hx).mono ?_
  rintro e w' ⟨r0', a1, n1, c1, a2, n2, c2, a3, n3, c3, rfl, hO, hB⟩
  have hr0 : r0' = (s2.reg 0).x := by
    rw [show s2.reg 0 = s2.rg[0]'(by omega) from s2.reg_get 0 (by omega)]
    exact hO.r0 rfl _ (List.getElem?_eq_getElem _)
  subst hr0
  have hown := hO.ctx rfl
  obtain ⟨a, c, hv⟩ := own_slice hown
  injection hv with e1 e2 e3
  subst e1 e2 e3
  exact ⟨_, _, _, _, _, _, _, _, rfl, hown, hB⟩
/-- ... that traps. -/
theorem runs_trap8 (code : List Ins) (hp : ProgOK code) (ctx : List Int) (hb : IsBytes ctx) (hcl : ctx.length ≤ 65535) (er : Int) (he : er ≠ 0) (s2 : Mst) (hr : runF ⟨[], [], code⟩ 1048576 (st0 ctx) = (er, s2))
    (n : Nat) (hn : n = code.length) (ca : Option Addr) (cc : Nat) (xv : Value) (w : World) (hc : Coded w (.slice ca n cc) code) (hx : Held w xv ctx) :
    Calls Tryz.prog 9 #[.slice ca n cc, xv] w (SeenR w er 0) := by
  subst hn
  refine (runs_any code hp ctx hb hcl er s2 hr ca cc xv w hc hx).mono ?_
  rintro e w' ⟨r0', a1, n1, c1, a2, n2, c2, a3, n3, c3, rfl, hO, hB⟩
  rw [(hO.fail he).1]
  exact ⟨_, _, _, _, _, _, _, _, _, rfl, hB⟩
theorem overF_bytes {xs b : List Int} (hx : IsBytes xs) (hb : IsBytes b) (t : Nat) : IsBytes (overF xs t b) := fun z hz => by
  unfold overF at hz
  rcases List.mem_append.1 hz with h | h
  · rcases List.mem_append.1 h with h | h
    · exact hx z (List.mem_of_mem_take h)
    · exact hb z h
  · exact hx z (List.mem_of_mem_drop h)
theorem own_row {w : World} {base m : Nat} {v : Value} {zs : List Int} (h : w.ownsRow base 5 1 v m (u8s zs)) (hm : 0 < m) :
    ∃ g cap rest, v = .slice (some ⟨g, 0, none⟩) m cap ∧ base ≤ g ∧ Row w g 5 (u8s zs ++ rest) ∧ m ≤ cap ∧ cap ≤ maxLen ∧ (u8s zs ++ rest).length = cap := by
  obtain ⟨hl, ⟨rfl, h0⟩ | ⟨g, cap, cur, rfl, hb, hg, h1, h2, h3, h4⟩⟩ := h
  · omega
  · have e : u8s zs ++ cur.toList.drop m = cur.toList := by
      rw [← h4, Nat.mul_one]
      exact List.take_append_drop m cur.toList
    refine ⟨g, cap, cur.toList.drop m, rfl, hb, ?_, h1, h2, ?_⟩
    · unfold Row
      rw [e, Array.toArray_toList]
      exact hg
    · rw [e, Array.length_toList, h3, Nat.mul_one]
theorem splice_over {zs ps : List Int} {rest : List Value} {t : Nat} (h : t + ps.length ≤ zs.length) : splice (u8s zs ++ rest) t (u8s ps) = u8s (overF zs t ps) ++ rest := by
  have hl : (u8s zs).length = zs.length := by simp [u8s]
  have hp : (u8s ps).length = ps.length := by simp [u8s]
  unfold splice
  rw [List.take_append_of_le_length (by omega), List.drop_append_of_le_length (by omega), hp]
  unfold overF u8s
  simp [List.map_append, List.map_take, List.map_drop, List.append_assoc]
theorem splice_held {w' : World} {g cap t m : Nat} {zs ps : List Int} {rest : List Value} {e : TypeId} (hrow : w'.heap[g]? = some (.cells (splice (u8s zs ++ rest) t (u8s ps)).toArray e (0, 0))) (hm : m = zs.length) (hmc : m ≤ cap) (hcm : cap ≤ maxLen) (hps : t + ps.length ≤ zs.length) (hb : IsBytes zs) (hbp : IsBytes ps) :
    Held w' (.slice (some ⟨g, 0, none⟩) m cap) (overF zs t ps) := by
  rw [splice_over hps] at hrow
  have hl : (overF zs t ps).length = m := by rw [overF_len hps, hm]
  have := held_row (xs := overF zs t ps) (cap := cap) (w := w') (b := g) (e := e) hrow (overF_bytes hb hbp t) (by omega) hcm (fun i hi => by
    rw [List.getElem?_append_left (by simp [u8s]; exact hi)]
    simp [u8s, List.getD, hi])
  rwa [hl] at this
/-- What the second look at the output needs. -/
structure KM (wz : World) (q : Nat) (R : Int) (sb sc x2 x3 : Value) (ys : List Int) (wx : World) : Prop where
  bel : Below wz.heap.size wz wx
  box : Row wx q 30 [.int .i64 R, sb, x2, x3]
  b : Held wx sb ys
  c : Held wx sc ys
section
variable {wz wx w' : World} {q : Nat} {R : Int} {sb sc x2 x3 : Value} {ys : List Int}
theorem KM.next (h : KM wz q R sb sc x2 x3 ys wx) (hb : Below wx.heap.size wx w') : KM wz q R sb sc x2 x3 ys w' :=
  ⟨h.bel.trans (hb.mono h.bel.size), h.box.below hb h.box.lt, h.b.below hb (Nat.le_refl _), h.c.below hb (Nat.le_refl _)⟩
theorem KM.k (h : KM wz q R sb sc x2 x3 ys wx) : wx.cell? ⟨q, 0, none⟩ = some (.int .i64 R) ∧ wx.cell? ⟨q, 1, none⟩ = some sb ∧ KM wz q R sb sc x2 x3 ys wx := ⟨h.box.four.1.1, h.box.four.1.2.1, h⟩
theorem KM.n (h : wx.cell? ⟨q, 0, none⟩ = some (.int .i64 R) ∧ wx.cell? ⟨q, 1, none⟩ = some sb ∧ KM wz q R sb sc x2 x3 ys wx) (hb : Below wx.heap.size wx w') : w'.cell? ⟨q, 0, none⟩ = some (.int .i64 R) ∧ w'.cell? ⟨q, 1, none⟩ = some sb ∧ KM wz q R sb sc x2 x3 ys w' := (h.2.2.next hb).k
theorem KM.same (h : wx.cell? ⟨q, 0, none⟩ = some (.int .i64 R) ∧ wx.cell? ⟨q, 1, none⟩ = some sb ∧ KM wz q R sb sc x2 x3 ys wx) : Calls Tryz.prog 15 #[sb, sc] wx fun e w' => e = .returned (.bool true) ∧ wx = w' := same_at sb sc ys wx h.2.2.b h.2.2.c
end
/-- The stack's program in its row. -/
structure KS (wz : World) (q cb : Nat) (cs ds : List Value) (wx : World) : Prop where
  bel : Below wz.heap.size wz wx
  box : Row wx q 30 cs
  code : Row wx cb 25 ds
  lq : wz.heap.size ≤ q
  lc : wz.heap.size ≤ cb
  ne : q ≠ cb
theorem below_set8 {B : Nat} {w0 w : World} (h : Below B w0 w) {b : Nat} (hb : B ≤ b) (i : Nat) (v : Value) : Below B w0 (w.setCell ⟨b, i, none⟩ v) :=
  ⟨h.os, h.tape, h.output, by rw [World.size_setCell]; exact h.size, fun k hk => by rw [Below.heap_setCell _ _ _ _ (by show k ≠ b; omega)]; exact h.block k hk⟩
theorem Row.aset {w : World} {b c : Nat} {e : TypeId} {cs : List Value} (h : Row w b e cs) (hn : b ≠ c) (i : Nat) (v : Value) : Row (w.setCell ⟨c, i, none⟩ v) b e cs := by
  unfold Row at h ⊢
  rw [Below.heap_setCell _ _ _ _ (by show b ≠ c; exact hn)]
  exact h
theorem KS.next {wz w w' : World} {q cb : Nat} {cs ds : List Value} (h : KS wz q cb cs ds w) (hb : Below w.heap.size w w') : KS wz q cb cs ds w' :=
  ⟨h.bel.trans (hb.mono h.bel.size), h.box.below hb h.box.lt, h.code.below hb h.code.lt, h.lq, h.lc, h.ne⟩
theorem KS.setc {wz w : World} {q cb : Nat} {cs ds : List Value} (h : KS wz q cb cs ds w) (i : Nat) (v : Value) : KS wz q cb cs (ds.set i v) (w.setCell ⟨cb, i, none⟩ v) :=
  ⟨below_set8 h.bel h.lc i v, h.box.aset h.ne i v, h.code.put i v, h.lq, h.lc, h.ne⟩
theorem KS.put4 {wz w : World} {q cb : Nat} {a1 a2 a3 a4 : Value} {ds : List Value} (h : KS wz q cb [a1, a2, a3, a4] ds w) (b1 b2 b3 b4 : Value) :
    KS wz q cb [b1, b2, b3, b4] ds ((((w.setCell ⟨q, 0, none⟩ b1).setCell ⟨q, 1, none⟩ b2).setCell ⟨q, 2, none⟩ b3).setCell ⟨q, 3, none⟩ b4) :=
  ⟨below_set8 (below_set8 (below_set8 (below_set8 h.bel h.lq 0 b1) h.lq 1 b2) h.lq 2 b3) h.lq 3 b4, h.box.put4 b1 b2 b3 b4, (((h.code.aset (Ne.symm h.ne) 0 b1).aset (Ne.symm h.ne) 1 b2).aset (Ne.symm h.ne) 2 b3).aset (Ne.symm h.ne) 3 b4, h.lq, h.lc, h.ne⟩
theorem psc_set16 (k : Nat) (v o1 o2 : Int) : (codec (psc 23 k v o1 o2)).set 16 (.int .i64 22) = codec (psc 22 k v o1 o2) := rfl
theorem psc_set22 (op : Int) (k : Nat) (v o1 o2 x : Int) : (codec (psc op k v o1 o2)).set 22 (.int .i64 x) = codec (psc op k v o1 x) := rfl
theorem psc_get16 (op : Int) (k : Nat) (v o1 o2 : Int) : (codec (psc op k v o1 o2))[16]? = some (.int .i64 op) := rfl
theorem psc_get22 (op : Int) (k : Nat) (v o1 o2 : Int) : (codec (psc op k v o1 o2))[22]? = some (.int .i64 o2) := rfl
theorem KS.op8 {wz w : World} {q cb k : Nat} {cs : List Value} {v o1 o2 : Int} (h : KS wz q cb cs (codec (psc 23 k v o1 o2)) w) : KS wz q cb cs (codec (psc 22 k v o1 o2)) (w.setCell ⟨cb, 16, none⟩ (.int .i64 22)) := by
  have := h.setc 16 (.int .i64 22)
  rwa [psc_set16] at this
theorem KS.off {wz w : World} {q cb k : Nat} {cs : List Value} {op v o1 o2 : Int} (h : KS wz q cb cs (codec (psc op k v o1 o2)) w) (x : Int) : KS wz q cb cs (codec (psc op k v o1 x)) (w.setCell ⟨cb, 22, none⟩ (.int .i64 x)) := by
  have := h.setc 22 (.int .i64 x)
  rwa [psc_set22] at this
theorem KS.f {wz w : World} {q cb k : Nat} {cs : List Value} {op v o1 o2 : Int} (h : KS wz q cb cs (codec (psc op k v o1 o2)) w) :
    w.cell? ⟨cb, 16, none⟩ = some (.int .i64 op) ∧ w.cell? ⟨cb, 22, none⟩ = some (.int .i64 o2) ∧ w.frozen? ⟨cb, 16, none⟩ = false ∧ w.frozen? ⟨cb, 22, none⟩ = false :=
  ⟨by rw [h.code.cell, psc_get16], by rw [h.code.cell, psc_get22], h.code.free 16, h.code.free 22⟩
theorem KS.coded {wz w : World} {q cb k : Nat} {cs : List Value} {op v o1 o2 : Int} (h : KS wz q cb cs (codec (psc op k v o1 o2)) w) : Coded w (.slice (some ⟨cb, 0, none⟩) 4 4) (psc op k v o1 o2) :=
  coded_row (l := psc op k v o1 o2) h.code (by simp [psc]) (by simp [psc])
theorem ks_new {wz w wB : World} {q : Nat} {cs : List Value} (k : Nat) (v o1 o2 : Int) (h1 : Below wz.heap.size wz wB) (h2 : Row wB q 30 cs) (hb : Below wB.heap.size wB w) (hq : wz.heap.size ≤ q) :
    KS wz q w.heap.size cs (codec (psc 23 k v o1 o2)) (w.alloc (.cells (#[.int .i64 20, .bool false, .bool false, .int .i64 0, .int .i64 3, .int .i64 0, .int .i64 0, .int .i64 v, .int .i64 24, .bool false, .bool true, .int .i64 k, .int .i64 10, .int .i64 3, .int .i64 o1, .int .i64 0, .int .i64 23, .bool false, .bool false, .int .i64 k, .int .i64 0, .int .i64 10, .int .i64 o2, .int .i64 0, .int .i64 39, .bool false, .bool false, .int .i64 0, .int .i64 0, .int .i64 0, .int .i64 0, .int .i64 0] : Array Value) 25)) := by
  have e : (#[.int .i64 20, .bool false, .bool false, .int .i64 0, .int .i64 3, .int .i64 0, .int .i64 0, .int .i64 v, .int .i64 24, .bool false, .bool true, .int .i64 k, .int .i64 10, .int .i64 3, .int .i64 o1, .int .i64 0, .int .i64 23, .bool false, .bool false, .int .i64 k, .int .i64 0, .int .i64 10, .int .i64 o2, .int .i64 0, .int .i64 39, .bool false, .bool false, .int .i64 0, .int .i64 0, .int .i64 0, .int .i64 0, .int .i64 0] : Array Value) = (codec (psc 23 k v o1 o2)).toArray := rfl
  rw [e]
  exact ⟨(h1.trans (hb.mono h1.size)).alloc (Nat.le_trans h1.size hb.size) _, (h2.below hb h2.lt).alloc _, Row.made w _ _, hq, Nat.le_trans h1.size hb.size, by have := h2.lt; have := hb.size; omega⟩
end Go.Proofs.YtdepknffpnnmmaaGreat
