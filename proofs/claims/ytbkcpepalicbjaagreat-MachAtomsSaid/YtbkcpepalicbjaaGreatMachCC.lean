/-
  The doer atom as a function of plain data; MachAtoms' tables and what its walk keeps.
-/
import Derived.Test.YtbkcpepalicbjaaGreatMachCB
import Derived.Test.YtbkcpepalicbjaaGreatMachBP
import Derived.Test.YtbkcpepalicbjaaGreatMachAR
namespace Go.Proofs.YtbkcpepalicbjaaGreat
open Go.RowKit
set_option linter.unusedVariables false
set_option linter.unusedSimpArgs false

theorem kinds_of {imm : Int} (h : atomicv imm = true) : Kinds imm := by
  unfold atomicv writesSrcv at h
  unfold Kinds
  simp at h
  omega
theorem do_atomD {fx : Mfix} {s : Mst} (h : Good fx s) (i : Ins) (hi : InsOK fx i) (hop : i.op = 25) : DoR (doerF i.op) fx s i (atomD fx s i).by' (atomD fx s i).er (atomD fx s i).s := by
  have hF : doerF i.op = 139 := by
    unfold doerF
    rw [if_neg (by omega), if_neg (by omega), if_neg (by omega), if_neg (by omega), if_neg (by omega), if_pos hop]
  rw [hF]
  have hby : (atomD fx s i).by' = 0 := by
    unfold atomD; dsimp only; repeat' split
    all_goals rfl
  rw [hby]
  intro base w0 bx v w hM
  obtain ⟨d, hd⟩ : ∃ d : Nat, i.dst = d := ⟨i.dst.toNat, by have := hi.dst; omega⟩
  obtain ⟨r, hr⟩ : ∃ r : Nat, i.src = r := ⟨i.src.toNat, by have := hi.src; omega⟩
  have hd1 := hi.dst
  have hr1 := hi.src
  obtain ⟨hsz, hat⟩ := hi.atom hop
  have hk := kinds_of hat
  have hoff := hi.off
  obtain ⟨op, nar, reg, size, dst, src, off, imm⟩ := i
  simp only at hd hr hd1 hr1 hsz hoff hop hk
  subst hd hr
  have hg : ∀ n : Nat, n < 11 → s.rg[n]? = some (s.reg n) := fun n hn => by rw [s.reg_get n (by have := h.regs.1; omega)]; exact List.getElem?_eq_getElem _
  exact atom_walk op nar reg size off imm d r (by omega) (by omega) (s.reg d).k (s.reg d).t (s.reg d).o (s.reg d).x (s.reg r).k (s.reg r).t (s.reg r).o (s.reg r).x (s.reg 0).k (s.reg 0).t (s.reg 0).o (s.reg 0).x
    (hg d (by omega)) (hg r (by omega)) (hg 0 (by decide)) (reg_ok h.regs 0).x hk (reg_ok h.regs d).ptr h.mem (by omega) hoff w hM
theorem do_atomK : X.DoK AtomK := by
  refine ⟨fun {fx s} h i hi hk => ?_, fun i hk => ?_⟩
  · rcases hk with hk | hk
    · exact do_F h i hi hk
    · rw [doF_atom hk]
      exact do_atomD h i hi hk
  · rcases hk with hk | hk
    · unfold Known at hk; omega
    · omega
/-- The law's tables. -/
def kindL : List Int := [0, 64, 80, 160, 1, 65, 81, 161, 225, 241]
def opL : List Int := [1, 8, 9, 10, 1, 8, 9, 10, 15, 15]
def i64l (l : List Int) : List Value := l.map (Value.int .i64)
theorem table_at (k : Nat) (hk : k < 10) : ∃ imm op : Int, (i64l kindL)[k]? = some (.int .i64 imm) ∧ (i64l opL)[k]? = some (.int .i64 op) ∧ Kinds imm ∧
    ((imm = 0 ∨ imm = 1) ∧ op = 1 ∨ (imm = 64 ∨ imm = 65) ∧ op = 8 ∨ (imm = 80 ∨ imm = 81) ∧ op = 9 ∨ (imm = 160 ∨ imm = 161) ∧ op = 10 ∨ (imm = 225 ∨ imm = 241) ∧ op = 15) ∧ (imm ≠ 241 → (imm % 2 = 1 ↔ 4 ≤ k)) ∧ 1 ≤ op ∧ op ≤ 15 := by
  have hc : k = 0 ∨ k = 1 ∨ k = 2 ∨ k = 3 ∨ k = 4 ∨ k = 5 ∨ k = 6 ∨ k = 7 ∨ k = 8 ∨ k = 9 := by omega
  unfold Kinds
  rcases hc with rfl | rfl | rfl | rfl | rfl | rfl | rfl | rfl | rfl | rfl
  all_goals exact ⟨_, _, rfl, rfl, by decide, by decide, by decide, by decide, by decide⟩
theorem atoms_of (w : World) : Calls Tryz.prog 28 #[] w fun e w' => ∃ b1 b2, e = .returned (.tuple #[.slice (some ⟨b1, 0, none⟩) 10 10, .slice (some ⟨b2, 0, none⟩) 10 10]) ∧
    Row w' b1 3 (i64l kindL) ∧ Row w' b2 3 (i64l opL) ∧ Below w.heap.size w w' := by
  go_enter Tryz.func28, Tryz.ntmps28
  go_wp2
  refine bodyPost_ret (v := .tuple #[.slice (some ⟨w.heap.size, 0, none⟩) 10 10, .slice (some ⟨w.heap.size + 1, 0, none⟩) 10 10]) (by simp [results, Tryz.results28, go_sem]) rfl ?_
  refine ⟨w.heap.size, w.heap.size + 1, ?_, (Row.made w (i64l kindL) 3).alloc _, ?_, ((Below.refl _ _).alloc (Nat.le_refl _) _).alloc (by simp) _⟩
  · first
      | rfl
      | simp
  · have := Row.made (w.alloc (.cells (i64l kindL).toArray 3)) (i64l opL) 3
    have hs : (w.alloc (.cells (i64l kindL).toArray 3)).heap.size = w.heap.size + 1 := by simp
    rw [hs] at this
    exact this
/-- What a law's walk keeps: rows, and slices of bytes. -/
structure KG (w : World) (rows : List (Nat × TypeId × List Value)) (helds : List (Value × List Int)) (wx : World) : Prop where
  bel : Below w.heap.size w wx
  rows : ∀ r ∈ rows, Row wx r.1 r.2.1 r.2.2
  helds : ∀ p ∈ helds, Held wx p.1 p.2
section
variable {w w1 w2 : World} {rows : List (Nat × TypeId × List Value)} {helds : List (Value × List Int)}
theorem KG.next (h : KG w rows helds w1) (hb : Below w1.heap.size w1 w2) : KG w rows helds w2 :=
  ⟨h.bel.trans (hb.mono h.bel.size), fun r hr => (h.rows r hr).below hb (h.rows r hr).lt, fun p hp => (h.helds p hp).below hb (Nat.le_refl _)⟩
theorem KG.row (h : KG w rows helds w1) {b : Nat} {t : TypeId} {cs : List Value} (hm : (b, t, cs) ∈ rows) : Row w1 b t cs := h.rows _ hm
theorem KG.addRow (h : KG w rows helds w1) {b : Nat} {t : TypeId} {cs : List Value} (hr : Row w1 b t cs) : KG w ((b, t, cs) :: rows) helds w1 :=
  ⟨h.bel, fun r hm => by
    rcases List.mem_cons.1 hm with rfl | hm
    · exact hr
    · exact h.rows r hm, h.helds⟩
theorem KG.addHeld (h : KG w rows helds w1) {v : Value} {xs : List Int} (hv : Held w1 v xs) : KG w rows ((v, xs) :: helds) w1 :=
  ⟨h.bel, h.rows, fun p hm => by
    rcases List.mem_cons.1 hm with rfl | hm
    · exact hv
    · exact h.helds p hm⟩
/-- A law's walk, begun anew from a world behind. -/
theorem KG.rebase (h : KG w rows helds w1) : KG w1 rows helds w1 := ⟨Below.refl _ _, h.rows, h.helds⟩
end
theorem own_of_row {w : World} {g n base : Nat} {e : TypeId} {cs : List Value} (h : Row w g e cs) (hb : base ≤ g) (hl : cs.length = n) (hm : n ≤ maxLen) : w.ownsRow base e 1 (.slice (some ⟨g, 0, none⟩) n n) n cs :=
  ⟨by rw [hl, Nat.mul_one], Or.inr ⟨g, n, cs.toArray, rfl, hb, h, Nat.le_refl _, hm, by simp [hl], by rw [Nat.mul_one]; simp only [List.toList_toArray]; rw [← hl]; exact List.take_length⟩⟩
theorem put_cells {w : World} {b k : Nat} {v : Int} {e : TypeId} (h : Row w b e (utab k fun i => v / 2 ^ (8 * i) % 256)) : ∀ j u, (u8s (putl k v))[j]? = some u → w.cell? ((⟨b, 0, none⟩ : Addr).add j) = some u := fun j u hj => by
  have hp : (⟨b, 0, none⟩ : Addr).add j = ⟨b, j, none⟩ := by unfold Addr.add; split <;> simp_all
  rw [hp, h.cell, ← hj]
  unfold u8s utab putl
  rw [List.map_map]
  rfl
theorem own_put8 {w : World} {base size n : Nat} {e : TypeId} {v : Value} {xs : List Value} (h : w.ownsRow base e size v n xs) {q : Nat} (hq : q < base) (k : Nat) (x : Ins) : (put8 w q k x).ownsRow base e size v n xs :=
  own_put (own_put (own_put (own_put (own_put (own_put (own_put (own_put h hq _ _) hq _ _) hq _ _) hq _ _) hq _ _) hq _ _) hq _ _) hq _ _
theorem held_prefix {w : World} {a : Option Addr} {n c : Nat} {xs : List Int} (h : Held w (.slice a n c) xs) (m : Nat) (hm : m ≤ n) (hn : n = xs.length) : (m : Int) ≤ (c : Int) ∧ Held w (.slice a m c) (xs.take m) := by
  obtain ⟨a', c', hv, h1, h2, h3, _⟩ := h.open
  injection hv with e1 e2 e3
  subst e1 e3
  exact ⟨by omega, h3 m (by omega)⟩
theorem over_at4 (size imm r0 src : Int) : over8 (codec (atc size imm r0 src)) 24 (insMov 0 3) ++ codec [insExit] = codec (atd size imm r0 src) := rfl
theorem eight_at4 {size imm r0 src : Int} {j : Nat} {u : Value} (h : insExit.cs[j]? = some u) : (codec (atc size imm r0 src))[24 + j]? = some u := by
  have hj : j < 8 := by
    rcases Nat.lt_or_ge j 8 with h' | h'
    · exact h'
    · rw [List.getElem?_eq_none (by rw [Ins.cs_len]; exact h')] at h; cases h
  rw [← h]
  have hc : j = 0 ∨ j = 1 ∨ j = 2 ∨ j = 3 ∨ j = 4 ∨ j = 5 ∨ j = 6 ∨ j = 7 := by omega
  rcases hc with rfl | rfl | rfl | rfl | rfl | rfl | rfl | rfl <;> rfl
theorem own8_of_row {w : World} {g n base : Nat} {cs : List Value} (h : Row w g 23 cs) (hb : base ≤ g) (hl : cs.length = n * 8) (hm : n ≤ maxLen) : w.ownsRow base 23 8 (.slice (some ⟨g, 0, none⟩) n n) n cs :=
  ⟨hl, Or.inr ⟨g, n, cs.toArray, rfl, hb, h, Nat.le_refl _, hm, by simp [hl], by simp only [List.toList_toArray]; rw [← hl]; exact List.take_length⟩⟩
theorem row_grow {w w' : World} {row : Option Nat} {b : Nat} {e : TypeId} {cs : List Value} (h : Row w b e cs) (hg : w.grownBy w' row) (hne : some b ≠ row) : Row w' b e cs := by
  have hlt := h.lt
  unfold Row at h ⊢
  rw [hg.block b hlt hne]
  exact h
theorem held_rest {w : World} {g m cap : Nat} {e : TypeId} {zs : List Int} {rest : List Value} (h : Row w g e (u8s zs ++ rest)) (hm : m = zs.length) (hmc : m ≤ cap) (hcm : cap ≤ maxLen) (hb : IsBytes zs) : Held w (.slice (some ⟨g, 0, none⟩) m cap) zs := by
  subst hm
  exact held_row (xs := zs) (cap := cap) h hb hmc hcm (fun i hi => by
    rw [List.getElem?_append_left (by simp [u8s]; exact hi)]
    simp [u8s, List.getD, hi])
/-- One program's output. -/
structure OutR (q g1 c1 : Nat) (R : Int) (want : List Int) (rest : List Value) (x2 x3 : Value) (wx : World) : Prop where
  box : Row wx q 31 [.int .i64 R, .slice (some ⟨g1, 0, none⟩) 9 c1, x2, x3]
  row : Row wx g1 5 (u8s want ++ rest)
  cap : 9 ≤ c1 ∧ c1 ≤ maxLen
theorem OutR.next {q g1 c1 : Nat} {R : Int} {want : List Int} {rest : List Value} {x2 x3 : Value} {w w' : World} (h : OutR q g1 c1 R want rest x2 x3 w) (hb : Below w.heap.size w w') : OutR q g1 c1 R want rest x2 x3 w' :=
  ⟨h.box.below hb h.box.lt, h.row.below hb h.row.lt, h.cap⟩
theorem OutR.held {q g1 c1 : Nat} {R : Int} {want : List Int} {rest : List Value} {x2 x3 : Value} {w : World} (h : OutR q g1 c1 R want rest x2 x3 w) (hl : 9 = want.length) (hb : IsBytes want) : Held w (.slice (some ⟨g1, 0, none⟩) 9 c1) want := held_rest h.row hl h.cap.1 h.cap.2 hb
theorem OutR.put8 {q g1 c1 g k : Nat} {R : Int} {want : List Int} {rest : List Value} {x2 x3 : Value} {w : World} (h : OutR q g1 c1 R want rest x2 x3 w) (h1 : q ≠ g) (h2 : g1 ≠ g) (x : Ins) : OutR q g1 c1 R want rest x2 x3 (Proofs.YtbkcpepalicbjaaGreat.put8 w g k x) :=
  ⟨h.box.aset8 h1 k x, h.row.aset8 h2 k x, h.cap⟩
theorem OutR.grow {q g1 c1 g : Nat} {R : Int} {want : List Int} {rest : List Value} {x2 x3 : Value} {w w' : World} (h : OutR q g1 c1 R want rest x2 x3 w) (h1 : q ≠ g) (h2 : g1 ≠ g) (hg : w.grownBy w' (some g)) : OutR q g1 c1 R want rest x2 x3 w' :=
  ⟨row_grow h.box hg (by intro h; injection h with h; exact h1 h), row_grow h.row hg (by intro h; injection h with h; exact h2 h), h.cap⟩
end Go.Proofs.YtbkcpepalicbjaaGreat
