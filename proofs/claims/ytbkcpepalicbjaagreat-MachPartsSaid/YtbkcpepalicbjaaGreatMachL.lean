/-
  The machine: New.
-/
import Derived.Test.YtbkcpepalicbjaaGreatMachK
import Derived.Deep.RegionHeld3
import Derived.Deep.Cut
import Derived.Test.YtbkcpepalicbjaaGreatMaps
namespace Go.Proofs.YtbkcpepalicbjaaGreat
open Go.RowKit
set_option linter.unusedVariables false
set_option linter.unusedSimpArgs false

/-- A machine's cells. -/
def mrow (st : List Value) (xv tv dv zv cv uv bg : Value) (rg : List Value) (sv : Value) (at' steps : Int) (done : Bool) : List Value :=
  st ++ ([xv, tv, dv, zv, cv, uv, bg] ++ (rg ++ [sv, .int .i64 at', .int .i64 steps, .bool done]))
def zslot : List Value := [.int .i64 0, .int .i64 0, .int .i64 0, .int .i64 0, .int .u8 0, .int .u8 0, .int .u8 0, .int .u8 0, .int .u8 0, .int .u8 0, .int .u8 0, .int .u8 0, .int .i64 0]
def zstack : List Value := (List.replicate 32 zslot).flatten
def zregs : List Value := List.replicate 44 (.int .i64 0)
def nils : Value := .slice none 0 0

set_option maxRecDepth 100000 in
theorem built_new (ca ua : Option Addr) (cn cc un uc : Nat) (mb : Option Nat) :
    Tryz.prog.built 146 [(1, .slice ca cn cc), (2, .slice ua un uc), (3, .map mb)] = some (mrow zstack nils nils nils nils (.slice ca cn cc) (.slice ua un uc) (.map mb) zregs nils 0 0 false).toArray := by
  kernel_rfl
set_option maxRecDepth 100000 in
theorem cells_new (cv uv bg : Value) : ((Tryz.zeroCells146.setIfInBounds 420 cv).setIfInBounds 421 uv).setIfInBounds 422 bg = (mrow zstack nils nils nils nils cv uv bg zregs nils 0 0 false).toArray := by
  kernel_rfl
theorem run_new (ca ua : Option Addr) (cn cc un uc : Nat) (mb : Option Nat) (w : World) :
    (Instr.build 146 #[(1, .slice ca cn cc), (2, .slice ua un uc), (3, .map mb)]).run Tryz.prog w = .ok (.agg (mrow zstack nils nils nils nils (.slice ca cn cc) (.slice ua un uc) (.map mb) zregs nils 0 0 false).toArray) w :=
  run_build w _ _ _ (built_new ca ua cn cc un uc mb)

/-- The boxes that New has: the program, the input. -/
structure NB (b : Nat) (w : World) (lo hi : Int) (dv tv cv xv rv : Value) (w' : World) : Prop where
  rp : Row w' b 60 (prgc lo hi dv tv cv)
  ri : Row w' (b + 1) 62 (inpc xv rv)
  bel : Below b w w'
theorem NB.below {b : Nat} {w w1 w2 : World} {lo hi : Int} {dv tv cv xv rv : Value} (h : NB b w lo hi dv tv cv xv rv w1) (hB : Below w1.heap.size w1 w2) : NB b w lo hi dv tv cv xv rv w2 :=
  ⟨h.rp.below hB h.rp.lt, h.ri.below hB h.ri.lt, h.bel.trans (hB.mono (Nat.le_of_lt h.rp.lt))⟩
theorem NB.k4 {b : Nat} {w w1 : World} {lo hi : Int} {dv tv cv xv rv : Value} (h : NB b w lo hi dv tv cv xv rv w1) : w1.cell? ⟨b, 4, none⟩ = some cv ∧ NB b w lo hi dv tv cv xv rv w1 := ⟨(prg_row h.rp).2.2.2.2, h⟩
theorem NB.n4 {b : Nat} {w w1 w2 : World} {lo hi : Int} {dv tv cv xv rv : Value} (h : w1.cell? ⟨b, 4, none⟩ = some cv ∧ NB b w lo hi dv tv cv xv rv w1) (hB : Below w1.heap.size w1 w2) : w2.cell? ⟨b, 4, none⟩ = some cv ∧ NB b w lo hi dv tv cv xv rv w2 := (h.2.below hB).k4
theorem own_slice {w : World} {base size n : Nat} {e : TypeId} {v : Value} {xs : List Value} (h : w.ownsRow base e size v n xs) : ∃ a c, v = .slice a n c := by
  rcases h.2 with ⟨rfl, rfl⟩ | ⟨g, c, cur, rfl, _⟩
  · exact ⟨_, _, rfl⟩
  · exact ⟨_, _, rfl⟩
/-- A map of the call's own. -/
structure MapS (w : World) (base : Nat) (ρ : Nat → Nat) (r mb : Nat) (es : Array MapEntry) (c : Nat) : Prop where
  at' : w.heap[mb]? = some (.map es c)
  le : base ≤ mb
  role : ρ mb = r
theorem MapS.lt {w : World} {base : Nat} {ρ : Nat → Nat} {r mb : Nat} {es : Array MapEntry} {c : Nat} (h : MapS w base ρ r mb es c) : mb < w.heap.size := (Array.getElem?_eq_some_iff.1 h.at').1
theorem MapS.next {w w' : World} {base : Nat} {ρ : Nat → Nat} {r mb : Nat} {es : Array MapEntry} {c : Nat} (h : MapS w base ρ r mb es c) (hb : Below w.heap.size w w') (r' : Nat) : MapS w' base (newRole ρ w.heap.size r') r mb es c :=
  ⟨(hb.block mb h.lt).trans h.at', h.le, by unfold newRole; rw [if_neg (by have := h.lt; omega)]; exact h.role⟩
theorem MapS.made (w : World) (base : Nat) (hb : base ≤ w.heap.size) (ρ : Nat → Nat) (r : Nat) : MapS (w.alloc (.map #[] 0)) base (newRole ρ w.heap.size r) r w.heap.size #[] 0 :=
  ⟨heap_alloc_new w _, hb, by unfold newRole; rw [if_pos (Nat.le_refl _)]⟩
theorem newRole_lt {ρ : Nat → Nat} {s r b q : Nat} (h : b ≤ s) (hq : q < b) : newRole ρ s r q = ρ q := by unfold newRole; rw [if_neg (by omega)]

theorem OwnS.next {w w' : World} {base size n : Nat} {ρ ρ' : Nat → Nat} {r : Nat} {e : TypeId} {v : Value} {xs : List Value} (h : OwnS w base ρ r e size v n xs) (hb : Below w.heap.size w w') (ha : ∀ q, q < w.heap.size → ρ' q = ρ q) : OwnS w' base ρ' r e size v n xs :=
  h.move fun q hq hr => ⟨hb.block q hq, (ha q hq).trans hr⟩
theorem OwnS.set {w : World} {base size n : Nat} {ρ : Nat → Nat} {r : Nat} {e : TypeId} {v : Value} {xs : List Value} (h : OwnS w base ρ r e size v n xs) (a : Addr) (x : Value) (hr : ρ a.block ≠ r) : OwnS (w.setCell a x) base ρ r e size v n xs :=
  h.move fun q hq hqr => ⟨Below.heap_setCell _ _ _ _ (fun hc => hr (by rw [← hc]; exact hqr)), hqr⟩
theorem MapS.next2 {w w' : World} {base : Nat} {ρ ρ' : Nat → Nat} {r mb : Nat} {es : Array MapEntry} {c : Nat} (h : MapS w base ρ r mb es c) (hb : Below w.heap.size w w') (ha : ∀ q, q < w.heap.size → ρ' q = ρ q) : MapS w' base ρ' r mb es c :=
  ⟨(hb.block mb h.lt).trans h.at', h.le, (ha mb h.lt).trans h.role⟩
theorem MapS.set {w : World} {base : Nat} {ρ : Nat → Nat} {r mb : Nat} {es : Array MapEntry} {c : Nat} (h : MapS w base ρ r mb es c) (a : Addr) (x : Value) (hr : ρ a.block ≠ r) : MapS (w.setCell a x) base ρ r mb es c :=
  ⟨(Below.heap_setCell _ _ _ _ (fun hc => hr (by rw [← hc]; exact h.role))).trans h.at', h.le, h.role⟩

/-- The machine's box and what it has of code, units, begin. -/
structure MB (b : Nat) (w : World) (ρ : Nat → Nat) (lo hi : Int) (dv tv cv xv rv : Value) (nc : Nat) (code : List Ins) (ρ' : Nat → Nat) (bx mb : Nat) (es : Array MapEntry) (ec : Nat) (cs : List Value) (cv' uv' : Value) (wx : World) : Prop where
  nb : NB b w lo hi dv tv cv xv rv wx
  box : Row wx bx 146 cs
  codeS : OwnS wx b ρ' 5 23 8 cv' nc (codec code)
  unitsS : OwnS wx b ρ' 6 3 1 uv' (nc + 1) (ztab (nc + 1) fun k => unitAt code k)
  begin' : MapS wx (b + 2) ρ' 8 mb es ec
  le : b + 2 ≤ bx
  rb : ρ' bx = 0
  rr : ∀ q, q < b → ρ' q = ρ q
theorem MB.next {b : Nat} {w : World} {ρ : Nat → Nat} {lo hi : Int} {dv tv cv xv rv : Value} {nc : Nat} {code : List Ins} {ρ1 ρ2 : Nat → Nat} {bx mb : Nat} {es : Array MapEntry} {ec : Nat} {cs : List Value} {cv' uv' : Value} {w1 w2 : World}
    (h : MB b w ρ lo hi dv tv cv xv rv nc code ρ1 bx mb es ec cs cv' uv' w1) (hb : Below w1.heap.size w1 w2) (ha : ∀ q, q < w1.heap.size → ρ2 q = ρ1 q) : MB b w ρ lo hi dv tv cv xv rv nc code ρ2 bx mb es ec cs cv' uv' w2 :=
  ⟨h.nb.below hb, h.box.below hb h.box.lt, h.codeS.next hb ha, h.unitsS.next hb ha, h.begin'.next2 hb ha, h.le, (ha bx h.box.lt).trans h.rb, fun q hq => (ha q (by have := h.nb.rp.lt; omega)).trans (h.rr q hq)⟩
theorem MB.set {b : Nat} {w : World} {ρ : Nat → Nat} {lo hi : Int} {dv tv cv xv rv : Value} {nc : Nat} {code : List Ins} {ρ1 : Nat → Nat} {bx mb : Nat} {es : Array MapEntry} {ec : Nat} {cs : List Value} {cv' uv' : Value} {w1 : World}
    (h : MB b w ρ lo hi dv tv cv xv rv nc code ρ1 bx mb es ec cs cv' uv' w1) (i : Nat) (x : Value) : MB b w ρ lo hi dv tv cv xv rv nc code ρ1 bx mb es ec (cs.set i x) cv' uv' (w1.setCell ⟨bx, i, none⟩ x) :=
  have hle := h.le
  ⟨⟨h.nb.rp.other _ _ (by show b ≠ bx; omega), h.nb.ri.other _ _ (by show b + 1 ≠ bx; omega), h.nb.bel.setCell (by show b ≤ bx; omega) _⟩, h.box.put i x, h.codeS.set _ _ (by show ρ1 bx ≠ 5; rw [h.rb]; decide), h.unitsS.set _ _ (by show ρ1 bx ≠ 6; rw [h.rb]; decide),
    h.begin'.set _ _ (by show ρ1 bx ≠ 8; rw [h.rb]; decide), h.le, h.rb, h.rr⟩
theorem NB.setx {b : Nat} {w w1 : World} {lo hi : Int} {dv tv cv xv rv : Value} (h : NB b w lo hi dv tv cv xv rv w1) {bx : Nat} (hx : b + 2 ≤ bx) (i : Nat) (x : Value) : NB b w lo hi dv tv cv xv rv (w1.setCell ⟨bx, i, none⟩ x) :=
  ⟨h.rp.other _ _ (by show b ≠ bx; omega), h.ri.other _ _ (by show b + 1 ≠ bx; omega), h.bel.setCell (by show b ≤ bx; omega) _⟩
/-- Tables of the call's own. -/
structure TabS (w : World) (base : Nat) (ρ : Nat → Nat) (tv' : Value) (vals' : List Value) (rows : List (List Int)) : Prop where
  list : OwnS w base ρ 10 27 1 tv' rows.length vals'
  item : ∀ k (h : k < rows.length), ∃ u, vals'[k]? = some u ∧ OwnS w base ρ (11 + k) 5 1 u rows[k].length (u8s rows[k])
theorem TabS.next {w w' : World} {base : Nat} {ρ ρ' : Nat → Nat} {tv' : Value} {vals' : List Value} {rows : List (List Int)} (h : TabS w base ρ tv' vals' rows) (hb : Below w.heap.size w w') (ha : ∀ q, q < w.heap.size → ρ' q = ρ q) : TabS w' base ρ' tv' vals' rows :=
  ⟨h.list.next hb ha, fun k hk => let ⟨u, hu, ho⟩ := h.item k hk; ⟨u, hu, ho.next hb ha⟩⟩
theorem TabS.set {w : World} {base : Nat} {ρ : Nat → Nat} {tv' : Value} {vals' : List Value} {rows : List (List Int)} (h : TabS w base ρ tv' vals' rows) (a : Addr) (x : Value) (hr : ρ a.block < 10) : TabS (w.setCell a x) base ρ tv' vals' rows :=
  ⟨h.list.set a x (by omega), fun k hk => let ⟨u, hu, ho⟩ := h.item k hk; ⟨u, hu, ho.set a x (by omega)⟩⟩
theorem OwnS.low {w : World} {base base' size n : Nat} {ρ : Nat → Nat} {r : Nat} {e : TypeId} {v : Value} {xs : List Value} (h : OwnS w base ρ r e size v n xs) (hb : base' ≤ base) : OwnS w base' ρ r e size v n xs :=
  ⟨by
    obtain ⟨⟨hl, hz | ⟨g, cap, cur, hv, hb', rest⟩⟩, _⟩ := h
    · exact ⟨hl, Or.inl hz⟩
    · exact ⟨hl, Or.inr ⟨g, cap, cur, hv, Nat.le_trans hb hb', rest⟩⟩, h.2⟩
theorem tabs_of {w wT : World} {base : Nat} {ρ ρ' : Nat → Nat} {tv' : Value} {vals' : List Value} {rows : List (List Int)} (h : CopS w wT ρ ρ' 10 rows.length tv' vals' rows) (hb : base ≤ w.heap.size) : TabS wT base ρ' tv' vals' rows :=
  ⟨h.list.low hb, fun k hk => let ⟨u, hu, ho⟩ := h.item k hk hk; ⟨u, hu, ho.low hb⟩⟩
theorem NB.n01 {b : Nat} {w w1 w2 : World} {lo hi : Int} {dv tv cv xv rv : Value} (h : w1.cell? ⟨b + 1, 0, none⟩ = some xv ∧ w1.cell? ⟨b + 1, 1, none⟩ = some rv ∧ NB b w lo hi dv tv cv xv rv w1) (hB : Below w1.heap.size w1 w2) :
    w2.cell? ⟨b + 1, 0, none⟩ = some xv ∧ w2.cell? ⟨b + 1, 1, none⟩ = some rv ∧ NB b w lo hi dv tv cv xv rv w2 := ⟨(inp_row (h.2.2.below hB).ri).1, (inp_row (h.2.2.below hB).ri).2, h.2.2.below hB⟩
theorem NB.s01 {b : Nat} {w w1 : World} {lo hi : Int} {dv tv cv xv rv : Value} (h : w1.cell? ⟨b + 1, 0, none⟩ = some xv ∧ w1.cell? ⟨b + 1, 1, none⟩ = some rv ∧ NB b w lo hi dv tv cv xv rv w1) {bx : Nat} (hx : b + 2 ≤ bx) (i : Nat) (x : Value) :
    (w1.setCell ⟨bx, i, none⟩ x).cell? ⟨b + 1, 0, none⟩ = some xv ∧ (w1.setCell ⟨bx, i, none⟩ x).cell? ⟨b + 1, 1, none⟩ = some rv ∧ NB b w lo hi dv tv cv xv rv (w1.setCell ⟨bx, i, none⟩ x) := ⟨(inp_row (h.2.2.setx hx i x).ri).1, (inp_row (h.2.2.setx hx i x).ri).2, h.2.2.setx hx i x⟩
theorem NB.n23 {b : Nat} {w w1 w2 : World} {lo hi : Int} {dv tv cv xv rv : Value} (h : w1.cell? ⟨b, 2, none⟩ = some dv ∧ w1.cell? ⟨b, 3, none⟩ = some tv ∧ NB b w lo hi dv tv cv xv rv w1) (hB : Below w1.heap.size w1 w2) :
    w2.cell? ⟨b, 2, none⟩ = some dv ∧ w2.cell? ⟨b, 3, none⟩ = some tv ∧ NB b w lo hi dv tv cv xv rv w2 := ⟨(prg_row (h.2.2.below hB).rp).2.2.1, (prg_row (h.2.2.below hB).rp).2.2.2.1, h.2.2.below hB⟩
theorem NB.s23 {b : Nat} {w w1 : World} {lo hi : Int} {dv tv cv xv rv : Value} (h : w1.cell? ⟨b, 2, none⟩ = some dv ∧ w1.cell? ⟨b, 3, none⟩ = some tv ∧ NB b w lo hi dv tv cv xv rv w1) {bx : Nat} (hx : b + 2 ≤ bx) (i : Nat) (x : Value) :
    (w1.setCell ⟨bx, i, none⟩ x).cell? ⟨b, 2, none⟩ = some dv ∧ (w1.setCell ⟨bx, i, none⟩ x).cell? ⟨b, 3, none⟩ = some tv ∧ NB b w lo hi dv tv cv xv rv (w1.setCell ⟨bx, i, none⟩ x) := ⟨(prg_row (h.2.2.setx hx i x).rp).2.2.1, (prg_row (h.2.2.setx hx i x).rp).2.2.2.1, h.2.2.setx hx i x⟩
theorem newRole_same {ρ : Nat → Nat} {s r : Nat} : ∀ q, q < s → newRole ρ s r q = ρ q := fun q hq => by unfold newRole; rw [if_neg (by omega)]
theorem below_map (w : World) (o : Obj) : Below w.heap.size w (w.alloc o) := (Below.refl _ _).alloc (Nat.le_refl _) _

theorem m5_a {b : Nat} {w v0 wC wU : World} {ρ : Nat → Nat} {lo hi : Int} {dv tv cv xv rv : Value} {nc : Nat} {code : List Ins} {cv' uv' : Value} (h : NB b w lo hi dv tv cv xv rv v0)
    (hbC : Below (v0.alloc (.map #[] 0)).heap.size (v0.alloc (.map #[] 0)) wC) (hC : wC.ownsRow (v0.alloc (.map #[] 0)).heap.size 23 8 cv' nc (codec code)) (hbU : Below wC.heap.size wC wU) (hU : wU.ownsRow wC.heap.size 3 1 uv' (nc + 1) (ztab (nc + 1) fun k => unitAt code k)) :
    ∃ ρ', MB b w ρ lo hi dv tv cv xv rv nc code ρ' wU.heap.size v0.heap.size #[] 0 (mrow zstack nils nils nils nils cv' uv' (.map (some v0.heap.size)) zregs nils 0 0 false) cv' uv' (wU.alloc (.cells (mrow zstack nils nils nils nils cv' uv' (.map (some v0.heap.size)) zregs nils 0 0 false).toArray 146)) := by
  have s0 : b ≤ v0.heap.size := Nat.le_of_lt h.rp.lt
  have n0 := h
  have m0 := MapS.made v0 (b + 2) n0.ri.lt ρ 8
  have n1 := n0.below (below_map v0 (.map #[] 0))
  have s1 : b ≤ (v0.alloc (.map #[] 0)).heap.size := Nat.le_of_lt n1.rp.lt
  have m1 := m0.next hbC 5
  have c1 := own_new (base := b) hC s1 (newRole ρ v0.heap.size 8) 5
  have n2 := n1.below hbC
  have s2 : b ≤ wC.heap.size := Nat.le_of_lt n2.rp.lt
  have m2 := m1.next hbU 6
  have c2 := c1.role hbU 6
  have u2 := own_new (base := b) hU s2 (newRole (newRole ρ v0.heap.size 8) (v0.alloc (.map #[] 0)).heap.size 5) 6
  have n3 := n2.below hbU
  have s3 : b ≤ wU.heap.size := Nat.le_of_lt n3.rp.lt
  exact ⟨(newRole (newRole (newRole (newRole ρ v0.heap.size 8) (v0.alloc (.map #[] 0)).heap.size 5) wC.heap.size 6) wU.heap.size 0), n3.below (below_map wU (.cells (mrow zstack nils nils nils nils cv' uv' (.map (some v0.heap.size)) zregs nils 0 0 false).toArray 146)), Row.made _ _ _, c2.role (below_map wU (.cells (mrow zstack nils nils nils nils cv' uv' (.map (some v0.heap.size)) zregs nils 0 0 false).toArray 146)) 0, u2.role (below_map wU (.cells (mrow zstack nils nils nils nils cv' uv' (.map (some v0.heap.size)) zregs nils 0 0 false).toArray 146)) 0, m2.next (below_map wU (.cells (mrow zstack nils nils nils nils cv' uv' (.map (some v0.heap.size)) zregs nils 0 0 false).toArray 146)) 0, n3.ri.lt, by unfold newRole; rw [if_pos (Nat.le_refl _)], fun q hq => by rw [newRole_lt s3 hq, newRole_lt s2 hq, newRole_lt s1 hq, newRole_lt s0 hq]⟩
theorem m5_b {b : Nat} {w v0 wC wU : World} {ρ : Nat → Nat} {lo hi : Int} {dv tv cv xv rv : Value} {nc : Nat} {code : List Ins} {cv' uv' : Value} (h : NB b w lo hi dv tv cv xv rv v0)
    (hbC : Below v0.heap.size v0 wC) (hC : wC.ownsRow v0.heap.size 23 8 cv' nc (codec code)) (hbU : Below (wC.alloc (.map #[] 0)).heap.size (wC.alloc (.map #[] 0)) wU) (hU : wU.ownsRow (wC.alloc (.map #[] 0)).heap.size 3 1 uv' (nc + 1) (ztab (nc + 1) fun k => unitAt code k)) :
    ∃ ρ', MB b w ρ lo hi dv tv cv xv rv nc code ρ' wU.heap.size wC.heap.size #[] 0 (mrow zstack nils nils nils nils cv' uv' (.map (some wC.heap.size)) zregs nils 0 0 false) cv' uv' (wU.alloc (.cells (mrow zstack nils nils nils nils cv' uv' (.map (some wC.heap.size)) zregs nils 0 0 false).toArray 146)) := by
  have s0 : b ≤ v0.heap.size := Nat.le_of_lt h.rp.lt
  have n0 := h
  have c0 := own_new (base := b) hC s0 ρ 5
  have n1 := n0.below hbC
  have s1 : b ≤ wC.heap.size := Nat.le_of_lt n1.rp.lt
  have c1 := c0.role (below_map wC (.map #[] 0)) 8
  have m1 := MapS.made wC (b + 2) n1.ri.lt (newRole ρ v0.heap.size 5) 8
  have n2 := n1.below (below_map wC (.map #[] 0))
  have s2 : b ≤ (wC.alloc (.map #[] 0)).heap.size := Nat.le_of_lt n2.rp.lt
  have c2 := c1.role hbU 6
  have m2 := m1.next hbU 6
  have u2 := own_new (base := b) hU s2 (newRole (newRole ρ v0.heap.size 5) wC.heap.size 8) 6
  have n3 := n2.below hbU
  have s3 : b ≤ wU.heap.size := Nat.le_of_lt n3.rp.lt
  exact ⟨(newRole (newRole (newRole (newRole ρ v0.heap.size 5) wC.heap.size 8) (wC.alloc (.map #[] 0)).heap.size 6) wU.heap.size 0), n3.below (below_map wU (.cells (mrow zstack nils nils nils nils cv' uv' (.map (some wC.heap.size)) zregs nils 0 0 false).toArray 146)), Row.made _ _ _, c2.role (below_map wU (.cells (mrow zstack nils nils nils nils cv' uv' (.map (some wC.heap.size)) zregs nils 0 0 false).toArray 146)) 0, u2.role (below_map wU (.cells (mrow zstack nils nils nils nils cv' uv' (.map (some wC.heap.size)) zregs nils 0 0 false).toArray 146)) 0, m2.next (below_map wU (.cells (mrow zstack nils nils nils nils cv' uv' (.map (some wC.heap.size)) zregs nils 0 0 false).toArray 146)) 0, n3.ri.lt, by unfold newRole; rw [if_pos (Nat.le_refl _)], fun q hq => by rw [newRole_lt s3 hq, newRole_lt s2 hq, newRole_lt s1 hq, newRole_lt s0 hq]⟩
theorem m5_c {b : Nat} {w v0 wC wU : World} {ρ : Nat → Nat} {lo hi : Int} {dv tv cv xv rv : Value} {nc : Nat} {code : List Ins} {cv' uv' : Value} (h : NB b w lo hi dv tv cv xv rv v0)
    (hbC : Below v0.heap.size v0 wC) (hC : wC.ownsRow v0.heap.size 23 8 cv' nc (codec code)) (hbU : Below wC.heap.size wC wU) (hU : wU.ownsRow wC.heap.size 3 1 uv' (nc + 1) (ztab (nc + 1) fun k => unitAt code k)) :
    ∃ ρ', MB b w ρ lo hi dv tv cv xv rv nc code ρ' (wU.alloc (.map #[] 0)).heap.size wU.heap.size #[] 0 (mrow zstack nils nils nils nils cv' uv' (.map (some wU.heap.size)) zregs nils 0 0 false) cv' uv' ((wU.alloc (.map #[] 0)).alloc (.cells (mrow zstack nils nils nils nils cv' uv' (.map (some wU.heap.size)) zregs nils 0 0 false).toArray 146)) := by
  have s0 : b ≤ v0.heap.size := Nat.le_of_lt h.rp.lt
  have n0 := h
  have c0 := own_new (base := b) hC s0 ρ 5
  have n1 := n0.below hbC
  have s1 : b ≤ wC.heap.size := Nat.le_of_lt n1.rp.lt
  have c1 := c0.role hbU 6
  have u1 := own_new (base := b) hU s1 (newRole ρ v0.heap.size 5) 6
  have n2 := n1.below hbU
  have s2 : b ≤ wU.heap.size := Nat.le_of_lt n2.rp.lt
  have c2 := c1.role (below_map wU (.map #[] 0)) 8
  have u2 := u1.role (below_map wU (.map #[] 0)) 8
  have m2 := MapS.made wU (b + 2) n2.ri.lt (newRole (newRole ρ v0.heap.size 5) wC.heap.size 6) 8
  have n3 := n2.below (below_map wU (.map #[] 0))
  have s3 : b ≤ (wU.alloc (.map #[] 0)).heap.size := Nat.le_of_lt n3.rp.lt
  exact ⟨(newRole (newRole (newRole (newRole ρ v0.heap.size 5) wC.heap.size 6) wU.heap.size 8) (wU.alloc (.map #[] 0)).heap.size 0), n3.below (below_map (wU.alloc (.map #[] 0)) (.cells (mrow zstack nils nils nils nils cv' uv' (.map (some wU.heap.size)) zregs nils 0 0 false).toArray 146)), Row.made _ _ _, c2.role (below_map (wU.alloc (.map #[] 0)) (.cells (mrow zstack nils nils nils nils cv' uv' (.map (some wU.heap.size)) zregs nils 0 0 false).toArray 146)) 0, u2.role (below_map (wU.alloc (.map #[] 0)) (.cells (mrow zstack nils nils nils nils cv' uv' (.map (some wU.heap.size)) zregs nils 0 0 false).toArray 146)) 0, m2.next (below_map (wU.alloc (.map #[] 0)) (.cells (mrow zstack nils nils nils nils cv' uv' (.map (some wU.heap.size)) zregs nils 0 0 false).toArray 146)) 0, n3.ri.lt, by unfold newRole; rw [if_pos (Nat.le_refl _)], fun q hq => by rw [newRole_lt s3 hq, newRole_lt s2 hq, newRole_lt s1 hq, newRole_lt s0 hq]⟩

/-- A map is written anew. -/
def putMap (w : World) (mb : Nat) (o : Obj) : World := { w with heap := w.heap.setIfInBounds mb o }
theorem putMap_other (w : World) (mb : Nat) (o : Obj) {q : Nat} (h : q ≠ mb) : (putMap w mb o).heap[q]? = w.heap[q]? := by simp [putMap, Ne.symm h]
theorem putMap_at {w : World} {mb : Nat} (o : Obj) (h : mb < w.heap.size) : (putMap w mb o).heap[mb]? = some o := by simp [putMap, h]
theorem below_putm {B : Nat} {w0 w : World} (h : Below B w0 w) {mb : Nat} (hm : B ≤ mb) (o : Obj) : Below B w0 (putMap w mb o) :=
  ⟨h.os, h.tape, h.output, by have := h.size; simpa [putMap] using this, fun k hk => (putMap_other w mb o (by omega)).trans (h.block k hk)⟩
theorem row_putm {w : World} {b : Nat} {e : TypeId} {cs : List Value} (h : Row w b e cs) {mb : Nat} (hne : b ≠ mb) (o : Obj) : Row (putMap w mb o) b e cs := by unfold Row at h ⊢; rw [putMap_other w mb o hne]; exact h
theorem OwnS.putm {w : World} {base size n : Nat} {ρ : Nat → Nat} {r : Nat} {e : TypeId} {v : Value} {xs : List Value} (h : OwnS w base ρ r e size v n xs) {mb : Nat} (hr : ρ mb ≠ r) (o : Obj) : OwnS (putMap w mb o) base ρ r e size v n xs :=
  h.move fun q hq hqr => ⟨putMap_other w mb o (fun hc => hr (by rw [← hc]; exact hqr)), hqr⟩
theorem TabS.putm {w : World} {base : Nat} {ρ : Nat → Nat} {tv' : Value} {vals' : List Value} {rows : List (List Int)} (h : TabS w base ρ tv' vals' rows) {mb : Nat} (hr : ρ mb < 10) (o : Obj) : TabS (putMap w mb o) base ρ tv' vals' rows :=
  ⟨h.list.putm (by omega) o, fun k hk => let ⟨u, hu, ho⟩ := h.item k hk; ⟨u, hu, ho.putm (by omega) o⟩⟩
theorem MB.putm {b : Nat} {w : World} {ρ : Nat → Nat} {lo hi : Int} {dv tv cv xv rv : Value} {nc : Nat} {code : List Ins} {ρ1 : Nat → Nat} {bx mb : Nat} {es : Array MapEntry} {ec : Nat} {cs : List Value} {cv' uv' : Value} {w1 : World}
    (h : MB b w ρ lo hi dv tv cv xv rv nc code ρ1 bx mb es ec cs cv' uv' w1) (es' : Array MapEntry) (ec' : Nat) : MB b w ρ lo hi dv tv cv xv rv nc code ρ1 bx mb es' ec' cs cv' uv' (putMap w1 mb (.map es' ec')) :=
  have hm := h.begin'.le
  have hr := h.begin'.role
  ⟨⟨row_putm h.nb.rp (by omega) _, row_putm h.nb.ri (by omega) _, below_putm h.nb.bel (by omega) _⟩, row_putm h.box (fun hc => by have := h.rb; rw [hc, hr] at this; cases this) _, h.codeS.putm (by rw [hr]; decide) _, h.unitsS.putm (by rw [hr]; decide) _,
    ⟨putMap_at _ h.begin'.lt, hm, hr⟩, h.le, h.rb, h.rr⟩
/-- The map from units to instructions. -/
def bents (code : List Ins) (i : Nat) : Array MapEntry := ((List.range i).map fun k => { key := .int .i64 (unitAt code k : Nat), val := .int .i64 (k : Nat), born := k }).toArray
theorem bents_push (code : List Ins) (i : Nat) : (bents code i).push { key := .int .i64 (unitAt code i : Nat), val := .int .i64 (i : Nat), born := i } = bents code (i + 1) := by
  simp [bents, List.range_succ]
theorem unitAt_lt (l : List Ins) (i : Nat) : ∀ j, i < j → unitAt l i < unitAt l j := by
  intro j
  induction j with
  | zero => intro h; omega
  | succ j ih =>
    intro h
    have hs : unitAt l j < unitAt l (j + 1) := by
      show _ < unitAt l j + _
      split <;> omega
    by_cases hj : i = j
    · subst hj; exact hs
    · exact Nat.lt_trans (ih (by omega)) hs
theorem find_none (u : Int) : ∀ (l : List MapEntry) (i : Nat), (∀ e ∈ l, ∃ x : Int, e.key = .int .i64 x ∧ x ≠ u) → Instr.findNow (.int .i64) (.int .i64 u) l i = some none
  | [], _, _ => rfl
  | e :: l, i, h => by
    obtain ⟨x, hx, hne⟩ := h e (List.mem_cons_self ..)
    have hq : Instr.sameNow (.int .i64) (.int .i64 u) e.key = some false := by
      rw [hx]
      show (if IntKind.i64 = IntKind.i64 then some (u == x) else none) = _
      rw [if_pos rfl]
      have : (u == x) = false := by simp; exact fun hc => hne hc.symm
      rw [this]
    show (match Instr.sameNow (.int .i64) (.int .i64 u) e.key with
      | some true => some (some (i, e.val))
      | some false => Instr.findNow (.int .i64) (.int .i64 u) l (i + 1)
      | none => none) = _
    rw [hq]
    exact find_none u l (i + 1) fun e he => h e (List.mem_cons_of_mem _ he)
theorem find_new (code : List Ins) (i : Nat) : Instr.findNow (.int .i64) (.int .i64 (unitAt code i : Nat)) (bents code i).toList 0 = some none := by
  apply find_none
  intro e he
  simp only [bents, List.mem_map, List.mem_range] at he
  obtain ⟨k, hk, rfl⟩ := he
  exact ⟨_, rfl, by have := unitAt_lt code k i hk; omega⟩
theorem run_put_at {P : Program} {t kt et : TypeId} (hm : P.underlying t = some (.map kt et)) (hk : P.underlying kt = some (.int .i64)) (w : World) (mb : Nat) (es : Array MapEntry) (c : Nat) (h1 : w.heap[mb]? = some (.map es c)) (k : Int) (v : Value)
    (hf : Instr.findNow (.int .i64) (.int .i64 k) es.toList 0 = some none) :
    (Instr.mapUpdate t (.map (some mb)) (.int .i64 k) v).run P w = .ok () (putMap w mb (.map (es.push { key := .int .i64 k, val := v, born := c }) (c + 1))) := by
  simp [Instr.mapUpdate, run_underlying hm, MapKept.run_getObj_map h1, check_int hk, MapKept.run_findKey hk hf, MapKept.run_setObj_map _ h1, Result.andThen]
  rfl
theorem own_some {w : World} {base size n : Nat} {e : TypeId} {v : Value} {xs : List Value} (h : w.ownsRow base e size v n xs) (hn : 0 < n) : ∃ g c, v = .slice (some ⟨g, 0, none⟩) n c := by
  rcases h.2 with ⟨rfl, rfl⟩ | ⟨g, c, cur, rfl, _⟩
  · omega
  · exact ⟨_, _, rfl⟩
theorem zstack_len : zstack.length = 416 := by kernel_rfl
theorem mrow_set0 {st rg : List Value} (hs : st.length = 416) (xv tv dv zv cv uv bg sv : Value) (at' steps : Int) (done : Bool) (v : Value) : (mrow st xv tv dv zv cv uv bg rg sv at' steps done).set 416 v = mrow st v tv dv zv cv uv bg rg sv at' steps done := by
  unfold mrow; rw [List.set_append_right _ _ (by omega), hs]; rfl
theorem mrow_set1 {st rg : List Value} (hs : st.length = 416) (xv tv dv zv cv uv bg sv : Value) (at' steps : Int) (done : Bool) (v : Value) : (mrow st xv tv dv zv cv uv bg rg sv at' steps done).set 417 v = mrow st xv v dv zv cv uv bg rg sv at' steps done := by
  unfold mrow; rw [List.set_append_right _ _ (by omega), hs]; rfl
theorem mrow_set2 {st rg : List Value} (hs : st.length = 416) (xv tv dv zv cv uv bg sv : Value) (at' steps : Int) (done : Bool) (v : Value) : (mrow st xv tv dv zv cv uv bg rg sv at' steps done).set 418 v = mrow st xv tv v zv cv uv bg rg sv at' steps done := by
  unfold mrow; rw [List.set_append_right _ _ (by omega), hs]; rfl
theorem mrow_set3 {st rg : List Value} (hs : st.length = 416) (xv tv dv zv cv uv bg sv : Value) (at' steps : Int) (done : Bool) (v : Value) : (mrow st xv tv dv zv cv uv bg rg sv at' steps done).set 419 v = mrow st xv tv dv v cv uv bg rg sv at' steps done := by
  unfold mrow; rw [List.set_append_right _ _ (by omega), hs]; rfl
theorem mrow_heads {w : World} {b : Nat} {e : TypeId} {st rg : List Value} {xv tv dv zv cv uv bg sv : Value} {at' steps : Int} {done : Bool} (hs : st.length = 416) (h : Row w b e (mrow st xv tv dv zv cv uv bg rg sv at' steps done)) :
    w.cell? ⟨b, 416, none⟩ = some xv ∧ w.cell? ⟨b, 417, none⟩ = some tv ∧ w.cell? ⟨b, 418, none⟩ = some dv ∧ w.cell? ⟨b, 419, none⟩ = some zv ∧ w.cell? ⟨b, 420, none⟩ = some cv ∧ w.cell? ⟨b, 421, none⟩ = some uv ∧ w.cell? ⟨b, 422, none⟩ = some bg := by
  unfold mrow at h
  refine ⟨?_, ?_, ?_, ?_, ?_, ?_, ?_⟩ <;> (rw [h.cell, List.getElem?_append_right (by omega), hs]; rfl)
theorem zregs_len : zregs.length = 44 := by kernel_rfl
theorem mrow_rset {st rg : List Value} (hs : st.length = 416) (hr : rg.length = 44) (xv tv dv zv cv uv bg sv : Value) (at' steps : Int) (done : Bool) (k : Nat) (hk : k < 44) (v : Value) :
    (mrow st xv tv dv zv cv uv bg rg sv at' steps done).set (423 + k) v = mrow st xv tv dv zv cv uv bg (rg.set k v) sv at' steps done := by
  unfold mrow
  rw [List.set_append_right _ _ (by omega), hs, show 423 + k - 416 = 7 + k by omega, List.set_append_right _ _ (by simp), show 7 + k - [xv, tv, dv, zv, cv, uv, bg].length = k by simp, List.set_append_left _ _ (by omega)]
theorem mrow_reg {w : World} {b : Nat} {e : TypeId} {st rg : List Value} {xv tv dv zv cv uv bg sv : Value} {at' steps : Int} {done : Bool} (hs : st.length = 416) (hr : rg.length = 44) (h : Row w b e (mrow st xv tv dv zv cv uv bg rg sv at' steps done)) (k : Nat) (hk : k < 44) :
    w.cell? ⟨b, 423 + k, none⟩ = rg[k]? := by
  unfold mrow at h
  rw [h.cell, List.getElem?_append_right (by omega), hs, show 423 + k - 416 = 7 + k by omega, List.getElem?_append_right (by simp), show 7 + k - [xv, tv, dv, zv, cv, uv, bg].length = k by simp, List.getElem?_append_left (by omega)]
/-- A register is written. -/
def regset (rg : List Value) (r : Nat) (k t o x : Value) : List Value := (((rg.set (4 * r) k).set (4 * r + 1) t).set (4 * r + 2) o).set (4 * r + 3) x
theorem regset_len (rg : List Value) (r : Nat) (k t o x : Value) : (regset rg r k t o x).length = rg.length := by simp [regset]
theorem MB.reg {b : Nat} {w : World} {ρ : Nat → Nat} {lo hi : Int} {dv tv cv xv rv : Value} {nc : Nat} {code : List Ins} {ρ1 : Nat → Nat} {bx mb : Nat} {es : Array MapEntry} {ec : Nat} {st rg : List Value} {x1 t1 d1 z1 cv' uv' bg sv : Value} {at' steps : Int} {done : Bool} {w1 : World}
    (hs : st.length = 416) (hr : rg.length = 44) (h : MB b w ρ lo hi dv tv cv xv rv nc code ρ1 bx mb es ec (mrow st x1 t1 d1 z1 cv' uv' bg rg sv at' steps done) cv' uv' w1) (r : Nat) (hr11 : r < 11) (k t o x : Value) :
    MB b w ρ lo hi dv tv cv xv rv nc code ρ1 bx mb es ec (mrow st x1 t1 d1 z1 cv' uv' bg (regset rg r k t o x) sv at' steps done) cv' uv' ((((w1.setCell ⟨bx, 423 + 4 * r, none⟩ k).setCell ⟨bx, 423 + (4 * r + 1), none⟩ t).setCell ⟨bx, 423 + (4 * r + 2), none⟩ o).setCell ⟨bx, 423 + (4 * r + 3), none⟩ x) := by
  have h4 := (((h.set (423 + 4 * r) k).set (423 + (4 * r + 1)) t).set (423 + (4 * r + 2)) o).set (423 + (4 * r + 3)) x
  rw [mrow_rset hs hr _ _ _ _ _ _ _ _ _ _ _ _ (by omega), mrow_rset hs (by simp [hr]) _ _ _ _ _ _ _ _ _ _ _ _ (by omega), mrow_rset hs (by simp [hr]) _ _ _ _ _ _ _ _ _ _ _ _ (by omega), mrow_rset hs (by simp [hr]) _ _ _ _ _ _ _ _ _ _ _ _ (by omega)] at h4
  exact h4
theorem OwnS.set4 {w : World} {base size n : Nat} {ρ : Nat → Nat} {r : Nat} {e : TypeId} {v : Value} {xs : List Value} (h : OwnS w base ρ r e size v n xs) {bx : Nat} (hr : ρ bx ≠ r) (i0 i1 i2 i3 : Nat) (x0 x1 x2 x3 : Value) :
    OwnS ((((w.setCell ⟨bx, i0, none⟩ x0).setCell ⟨bx, i1, none⟩ x1).setCell ⟨bx, i2, none⟩ x2).setCell ⟨bx, i3, none⟩ x3) base ρ r e size v n xs := (((h.set _ _ hr).set _ _ hr).set _ _ hr).set _ _ hr
theorem TabS.set4 {w : World} {base : Nat} {ρ : Nat → Nat} {tv' : Value} {vals' : List Value} {rows : List (List Int)} (h : TabS w base ρ tv' vals' rows) {bx : Nat} (hr : ρ bx < 10) (i0 i1 i2 i3 : Nat) (x0 x1 x2 x3 : Value) :
    TabS ((((w.setCell ⟨bx, i0, none⟩ x0).setCell ⟨bx, i1, none⟩ x1).setCell ⟨bx, i2, none⟩ x2).setCell ⟨bx, i3, none⟩ x3) base ρ tv' vals' rows := (((h.set _ _ hr).set _ _ hr).set _ _ hr).set _ _ hr

set_option maxRecDepth 100000 in
/-- A number, as a value. -/
theorem mnumber_of (x : Int) (w : World) : Calls Tryz.prog 86 #[.int .i64 x] w (Ret w (.agg #[.int .i64 1, .int .i64 0, .int .i64 0, .int .i64 x])) := by
  go_enter Tryz.func86, Tryz.ntmps86
  go_wp2
  exact bodyPost_ret (v := .agg #[.int .i64 1, .int .i64 0, .int .i64 0, .int .i64 x]) (by simp [results, Tryz.results86, go_sem]) rfl ⟨rfl, (Below.refl _ _).alloc (Nat.le_refl _) _⟩
end Go.Proofs.YtbkcpepalicbjaaGreat
