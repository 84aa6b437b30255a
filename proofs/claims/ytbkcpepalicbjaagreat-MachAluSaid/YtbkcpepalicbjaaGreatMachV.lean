/-
  The machine: Run.
-/
import Derived.Test.YtbkcpepalicbjaaGreatMachU
import Derived.ScopeJumps
import Derived.WalkMore
namespace Go.Proofs.YtbkcpepalicbjaaGreat
open Go.RowKit
set_option linter.unusedVariables false
set_option linter.unusedSimpArgs false

/-- A run of so many steps at most: the trap (0: it ended), the last state. -/
inductive Runs (fx : Mfix) : Mst → Nat → Int → Mst → Prop
  | done (s : Mst) (n : Nat) : s.done = true → Runs fx s n 0 s
  | fuel (s : Mst) : s.done = false → Runs fx s 0 88 s
  | trap (s s1 : Mst) (n : Nat) (er : Int) : s.done = false → StepR fx s er s1 → er ≠ 0 → Runs fx s (n + 1) er s1
  | step (s s1 s2 : Mst) (n : Nat) (er : Int) : s.done = false → StepR fx s 0 s1 → Runs fx s1 n er s2 → Runs fx s (n + 1) er s2
/-- An output as a value. -/
structure OutS (base : Nat) (er : Int) (s : Mst) (r0 : Int) (xv tv sv : Value) (w : World) : Prop where
  shx : ∃ a n c, xv = .slice a n c
  sht : ∃ a n c, tv = .slice a n c
  shs : ∃ a n c, sv = .slice a n c
  fail : er ≠ 0 → r0 = 0 ∧ xv = .slice none 0 0 ∧ tv = .slice none 0 0 ∧ sv = .slice none 0 0
  r0 : er = 0 → ∀ u, s.rg[0]? = some u → r0 = u.x
  ctx : er = 0 → w.ownsRow base 5 1 xv s.ctx.length (u8s s.ctx)
  sent : er = 0 → w.ownsRow base 3 1 sv s.sent.length (i64s s.sent)
theorem i64s_one (xs : List Int) : ∀ u ∈ i64s xs, u.oneCell' = true := by
  intro u hu
  obtain ⟨x, _, rfl⟩ := List.mem_map.1 hu
  rfl
theorem wp_scope_loop {P : Program} {a : Act} {w : World} {Q : Exit → Act → World → Prop} {c X : Code} (l : Nat) (J : Act → World → Prop) (μ : Act → World → Nat) (hf : findLabel c l = some (Code.skip.seq X))
    (first : (∀ a w, J a w → X.wp P (Exit.jump l J Q) a w) → c.wp P (Exit.jump l J Q) a w)
    (pass : ∀ a w, J a w → X.wp P (Exit.jump l (fun a' w' => J a' w' ∧ μ a' w' < μ a w) Q) a w) : (Code.scope c).wp P Q a w :=
  wp_scope_jumps l J μ hf (first fun a w hJ => wp_mono (pass a w hJ) fun e a' w' h => by
    cases e with
    | goto l' => exact ⟨h.1, h.2.1⟩
    | normal => exact h
    | exit id => exact h
    | ret => exact h
    | panic ch => exact h
    | outgrown => exact h) fun a w hJ => wp_seq (wp_skip (pass a w hJ))
theorem MS.put9 {base : Nat} {w0 : World} {fx : Mfix} {s : Mst} {bx : Nat} {v : Mvals} {w : World} (h : MS base w0 fx s bx v w) {q : Nat} (hq : v.ρ q = 9) (hb : base ≤ q) (i : Nat) (x : Value) : MS base w0 fx s bx v (w.setCell ⟨q, i, none⟩ x) := by
  have hne : bx ≠ q := fun hc => by have := h.rb; rw [hc, hq] at this; cases this
  have hr : ∀ r, r ≠ 9 → v.ρ (Addr.block ⟨q, i, none⟩) ≠ r := fun r hr hc => hr (by rw [← hc]; exact hq)
  exact ⟨h.bel.setCell hb _, h.box.other _ _ hne, h.le, h.rb, h.codeS.set _ _ (hr _ (by decide)), h.unitsS.set _ _ (hr _ (by decide)), h.begin'.set _ _ (hr _ (by decide)), h.ctxS.set _ _ (hr _ (by decide)), h.tabS.set _ _ (by show v.ρ q < 10; omega), h.dataS.set _ _ (hr _ (by decide)), h.sizeS.set _ _ (hr _ (by decide)), h.sentS.set _ _ (hr _ (by decide)), h.slw, h.rgl⟩
/-- What Run has: the machine and the box of its answer. -/
structure RU (base : Nat) (w0 : World) (fx : Mfix) (s : Mst) (bx : Nat) (v : Mvals) (w : World) (ρ0 : Nat → Nat) (o : List Value) (w1 : World) : Prop where
  ms : MS base w0 fx s bx v w1
  box : Row w1 w.heap.size 31 o
  role : v.ρ w.heap.size = 9
  lb : base ≤ w.heap.size
  fr : Fr9 ρ0 w w1
  ro : ∀ k, k < w.heap.size → v.ρ k = ρ0 k
section
variable {base : Nat} {w0 : World} {fx : Mfix} {s s' : Mst} {bx : Nat} {v v' : Mvals} {w w1 w2 : World} {ρ0 : Nat → Nat} {o : List Value}
theorem RU.next (h : RU base w0 fx s bx v w ρ0 o w1) (hb : Below w1.heap.size w1 w2) : RU base w0 fx s bx v w ρ0 o w2 :=
  ⟨h.ms.next hb, h.box.below hb h.box.lt, h.role, h.lb, fun k hk hr => (hb.block k (Nat.lt_trans hk h.box.lt)).trans (h.fr k hk hr), h.ro⟩
theorem RU.step (h : RU base w0 fx s bx v w ρ0 o w1) (hm : MS base w0 fx s' bx v' w2) (hf : Fr9 v.ρ w1 w2) (hr : ∀ k, k < w1.heap.size → v'.ρ k = v.ρ k) : RU base w0 fx s' bx v' w ρ0 o w2 :=
  ⟨hm, (hf _ h.box.lt h.role).trans h.box, (hr _ h.box.lt).trans h.role, h.lb, fun k hk h9 => (hf k (Nat.lt_trans hk h.box.lt) ((h.ro k hk).trans h9)).trans (h.fr k hk h9), fun k hk => (hr k (Nat.lt_trans hk h.box.lt)).trans (h.ro k hk)⟩
theorem RU.put1 (h : RU base w0 fx s bx v w ρ0 o w1) (i : Nat) (x : Value) : RU base w0 fx s bx v w ρ0 (o.set i x) (w1.setCell ⟨w.heap.size, i, none⟩ x) :=
  ⟨h.ms.put9 h.role h.lb i x, h.box.put i x, h.role, h.lb, fun k hk h9 => (Below.heap_setCell _ _ _ _ (Nat.ne_of_lt hk)).trans (h.fr k hk h9), h.ro⟩
theorem RU.put4 {a b c d : Value} (h : RU base w0 fx s bx v w ρ0 [a, b, c, d] w1) (x0 x1 x2 x3 : Value) : RU base w0 fx s bx v w ρ0 [x0, x1, x2, x3] ((((w1.setCell ⟨w.heap.size, 0, none⟩ x0).setCell ⟨w.heap.size, 1, none⟩ x1).setCell ⟨w.heap.size, 2, none⟩ x2).setCell ⟨w.heap.size, 3, none⟩ x3) :=
  (((h.put1 0 x0).put1 1 x1).put1 2 x2).put1 3 x3
theorem RU.begin (h : MS base w0 fx s bx v w) : RU base w0 fx s bx { v with ρ := newRole v.ρ w.heap.size 9 } w v.ρ [.int .i64 0, .slice none 0 0, .slice none 0 0, .slice none 0 0] (w.alloc (.cells #[.int .i64 0, .slice none 0 0, .slice none 0 0, .slice none 0 0] 31)) :=
  ⟨h.box9 _, Row.made w [.int .i64 0, .slice none 0 0, .slice none 0 0, .slice none 0 0] _, by unfold newRole; simp, by have := h.le; have := h.box.lt; omega, fun k hk _ => ((Below.refl w.heap.size w).alloc (Nat.le_refl _) _).block k hk, newRole_same⟩
end
section
variable {base : Nat} {w0 : World} {fx : Mfix} {s' : Mst} {bx : Nat} {v' : Mvals} {w w1 w2 : World} {ρ0 : Nat → Nat} {r0 : Int}
theorem RU.k (hx : ∀ u, s'.rg[0]? = some u → u.x = r0) (h : ∃ o, RU base w0 fx s' bx v' w ρ0 o w1) : w1.cell? ⟨bx, 426, none⟩ = some (.int .i64 r0) ∧ w1.cell? ⟨bx, 416, none⟩ = some v'.xv ∧ w1.cell? ⟨bx, 417, none⟩ = some v'.tv ∧ w1.cell? ⟨bx, 467, none⟩ = some v'.sv ∧ ∃ o, RU base w0 fx s' bx v' w ρ0 o w1 := by
  obtain ⟨o, h⟩ := h
  have hr := (h.ms.reg 0 (by decide)).2.2.2
  rw [hx _ (List.getElem?_eq_getElem _)] at hr
  exact ⟨hr, h.ms.heads.1, h.ms.heads.2.1, h.ms.tail.1, o, h⟩
theorem RU.n (hx : ∀ u, s'.rg[0]? = some u → u.x = r0) (h : w1.cell? ⟨bx, 426, none⟩ = some (.int .i64 r0) ∧ w1.cell? ⟨bx, 416, none⟩ = some v'.xv ∧ w1.cell? ⟨bx, 417, none⟩ = some v'.tv ∧ w1.cell? ⟨bx, 467, none⟩ = some v'.sv ∧ ∃ o, RU base w0 fx s' bx v' w ρ0 o w1) (hb : Below w1.heap.size w1 w2) : w2.cell? ⟨bx, 426, none⟩ = some (.int .i64 r0) ∧ w2.cell? ⟨bx, 416, none⟩ = some v'.xv ∧ w2.cell? ⟨bx, 417, none⟩ = some v'.tv ∧ w2.cell? ⟨bx, 467, none⟩ = some v'.sv ∧ ∃ o, RU base w0 fx s' bx v' w ρ0 o w2 := RU.k hx (let ⟨o, h⟩ := h.2.2.2.2; ⟨o, h.next hb⟩)
theorem RU.p (hx : ∀ u, s'.rg[0]? = some u → u.x = r0) (h : w1.cell? ⟨bx, 426, none⟩ = some (.int .i64 r0) ∧ w1.cell? ⟨bx, 416, none⟩ = some v'.xv ∧ w1.cell? ⟨bx, 417, none⟩ = some v'.tv ∧ w1.cell? ⟨bx, 467, none⟩ = some v'.sv ∧ ∃ o, RU base w0 fx s' bx v' w ρ0 o w1) (x0 x1 x2 x3 : Value) : ((((w1.setCell ⟨w.heap.size, 0, none⟩ x0).setCell ⟨w.heap.size, 1, none⟩ x1).setCell ⟨w.heap.size, 2, none⟩ x2).setCell ⟨w.heap.size, 3, none⟩ x3).cell? ⟨bx, 426, none⟩ = some (.int .i64 r0) ∧ ((((w1.setCell ⟨w.heap.size, 0, none⟩ x0).setCell ⟨w.heap.size, 1, none⟩ x1).setCell ⟨w.heap.size, 2, none⟩ x2).setCell ⟨w.heap.size, 3, none⟩ x3).cell? ⟨bx, 416, none⟩ = some v'.xv ∧ ((((w1.setCell ⟨w.heap.size, 0, none⟩ x0).setCell ⟨w.heap.size, 1, none⟩ x1).setCell ⟨w.heap.size, 2, none⟩ x2).setCell ⟨w.heap.size, 3, none⟩ x3).cell? ⟨bx, 417, none⟩ = some v'.tv ∧ ((((w1.setCell ⟨w.heap.size, 0, none⟩ x0).setCell ⟨w.heap.size, 1, none⟩ x1).setCell ⟨w.heap.size, 2, none⟩ x2).setCell ⟨w.heap.size, 3, none⟩ x3).cell? ⟨bx, 467, none⟩ = some v'.sv ∧ ∃ o, RU base w0 fx s' bx v' w ρ0 o ((((w1.setCell ⟨w.heap.size, 0, none⟩ x0).setCell ⟨w.heap.size, 1, none⟩ x1).setCell ⟨w.heap.size, 2, none⟩ x2).setCell ⟨w.heap.size, 3, none⟩ x3) :=
  RU.k hx (let ⟨o, h⟩ := h.2.2.2.2; ⟨_, (((h.put1 0 x0).put1 1 x1).put1 2 x2).put1 3 x3⟩)
end
theorem rowed_nil {w : World} {base : Nat} {ρ : Nat → Nat} {tv : Value} {vals : List Value} {rows : List (List Int)} (h : TabS w base ρ tv vals rows) (hr : rows = []) : Rowed w tv [] [] := by
  subst hr
  have hl := h.list.1.1
  simp at hl
  subst hl
  exact ⟨reads_own h.list.1 (fun u hu => by cases hu) (by decide), fun i hi => absurd hi (by simp)⟩
theorem own_put {w : World} {base size n : Nat} {e : TypeId} {v : Value} {xs : List Value} (h : w.ownsRow base e size v n xs) {q : Nat} (hq : q < base) (i : Nat) (x : Value) : (w.setCell ⟨q, i, none⟩ x).ownsRow base e size v n xs :=
  ownsRow_stayS h fun b hb => Below.heap_setCell _ _ _ _ (fun hc => by have := (h.lt b hb).1; have hc' : b = q := hc; omega)
theorem own_put4 {w : World} {base size n : Nat} {e : TypeId} {v : Value} {xs : List Value} (h : w.ownsRow base e size v n xs) {q : Nat} (hq : q < base) (x0 x1 x2 x3 : Value) : ((((w.setCell ⟨q, 0, none⟩ x0).setCell ⟨q, 1, none⟩ x1).setCell ⟨q, 2, none⟩ x2).setCell ⟨q, 3, none⟩ x3).ownsRow base e size v n xs :=
  own_put (own_put (own_put (own_put h hq 0 x0) hq 1 x1) hq 2 x2) hq 3 x3
theorem own_low {w : World} {base base' size n : Nat} {e : TypeId} {v : Value} {xs : List Value} (h : w.ownsRow base e size v n xs) (hb : base' ≤ base) : w.ownsRow base' e size v n xs := by
  obtain ⟨hl, hz | ⟨g, cap, cur, hv, hb', rest⟩⟩ := h
  · exact ⟨hl, Or.inl hz⟩
  · exact ⟨hl, Or.inr ⟨g, cap, cur, hv, Nat.le_trans hb hb', rest⟩⟩
set_option maxRecDepth 100000 in
theorem built_out (r : Int) (a b c : Option Addr) (n1 c1 n2 c2 n3 c3 : Nat) : Tryz.prog.built 31 [(0, .int .i64 r), (1, .slice a n1 c1), (2, .slice b n2 c2), (3, .slice c n3 c3)] = some #[.int .i64 r, .slice a n1 c1, .slice b n2 c2, .slice c n3 c3] := by
  kernel_rfl
theorem run_out (r : Int) (a b c : Option Addr) (n1 c1 n2 c2 n3 c3 : Nat) (w : World) : (Instr.build 31 #[(0, .int .i64 r), (1, .slice a n1 c1), (2, .slice b n2 c2), (3, .slice c n3 c3)]).run Tryz.prog w = .ok (.agg #[.int .i64 r, .slice a n1 c1, .slice b n2 c2, .slice c n3 c3]) w :=
  run_build w _ _ _ (built_out r a b c n1 c1 n2 c2 n3 c3)
theorem built_out0 : Tryz.prog.built 31 [] = some #[.int .i64 0, .slice none 0 0, .slice none 0 0, .slice none 0 0] := by kernel_rfl
theorem run_out0 (w : World) : (Instr.build 31 #[]).run Tryz.prog w = .ok (.agg #[.int .i64 0, .slice none 0 0, .slice none 0 0, .slice none 0 0]) w := run_build w _ _ _ built_out0

set_option maxRecDepth 100000 in
set_option maxHeartbeats 4000000 in
theorem run_of (fx : Mfix) (s : Mst) (fuel : Nat) (hf : fuel < 4611686018427387904) (er : Int) (s2 : Mst) (hr : Runs fx s fuel er s2) (hrows : s2.rows = []) (hcl : s2.ctx.length ≤ 65535) (hsl : s2.sent.length ≤ 100000)
    (base : Nat) (w0 : World) (bx : Nat) (v : Mvals) (w : World) (hM : MS base w0 fx s bx v w) :
    Calls Tryz.prog 51 #[.pointer (some ⟨bx, 0, none⟩), .int .i64 fuel] w fun e w' =>
      ∃ r0 xv tv sv, e = .returned (.tuple #[.agg #[.int .i64 r0, xv, tv, sv], .int .i64 er]) ∧ OutS w.heap.size er s2 r0 xv tv sv w' ∧ ∃ v', MS base w0 fx s2 bx v' w' ∧ Fr9 v.ρ w w' ∧ ∀ k, k < w.heap.size → v'.ρ k = v.ρ k := by
  have hb0 := run_out0
  have hbo := run_out
  have HF := Lib.hid hf
  have HR := Lib.hid hr
  have HU := Lib.hid (RU.begin hM)
  clear hf hr hM
  go_enter Tryz.func51, Tryz.ntmps51
  go_wp2_with fail
  generalize World.alloc _ _ = wA at HU ⊢
  refine wp_scope_loop 0 (fun a' w' => ∃ (i : Nat) (s' : Mst) (v' : Mvals) (u7 u8 u9 u10 u11 u12 u13 u14 u15 u16 u17 u18 u19 u20 u21 u22 u23 u24 u25 u26 u27 u28 u29 u30 u31 u32 u33 u34 u35 u36 u37 u38 u39 u40 u41 u42 u43 u44 u45 u46 u47 : Value), i ≤ fuel ∧ Runs fx s' (fuel - i) er s2 ∧ RU base w0 fx s' bx v' w v.ρ [.int .i64 0, .slice none 0 0, .slice none 0 0, .slice none 0 0] w' ∧ a' = { tmps := #[.pointer (some ⟨bx, 0, none⟩), .int .i64 fuel, undef, undef, .pointer (some ⟨w.heap.size, 0, none⟩), .int .i64 0, .int .i64 i, u7, u8, u9, u10, u11, u12, u13, u14, u15, u16, u17, u18, u19, u20, u21, u22, u23, u24, u25, u26, u27, u28, u29, u30, u31, u32, u33, u34, u35, u36, u37, u38, u39, u40, u41, u42, u43, u44, u45, u46, u47], defers := [] }) (fun a' _ => fuel - (intOf (a'.tmps.getD 6 undef)).toNat) rfl ?_ ?_
  · intro hpass
    go_wp2
    go_step3
    rename_i hK
    refine hK _ _ (hpass _ _ ⟨0, s, _, _, _, _, _, _, _, _, _, _, _, _, _, _, _, _, _, _, _, _, _, _, _, _, _, _, _, _, _, _, _, _, _, _, _, _, _, _, _, _, _, _, Nat.zero_le _, HR.out, HU.out, rfl⟩)
  · rintro a' w' ⟨i, s', v', u7, u8, u9, u10, u11, u12, u13, u14, u15, u16, u17, u18, u19, u20, u21, u22, u23, u24, u25, u26, u27, u28, u29, u30, u31, u32, u33, u34, u35, u36, u37, u38, u39, u40, u41, u42, u43, u44, u45, u46, u47, hi, hruns, hU, rfl⟩
    dsimp only
    generalize hQ : Exit.jump _ _ _ = Q
    obtain ⟨m, hm⟩ : ∃ m, m = fuel - i := ⟨_, rfl⟩
    rw [← hm] at hruns
    obtain ⟨q0, q1, q2, q3⟩ := hU.ms.tail
    obtain ⟨⟨b0, b1, b2, b3⟩, f0, f1, f2, f3⟩ := hU.box.four
    have HU2 := Lib.hid hU
    clear hU
    cases hruns with
    | done _ _ hdn =>
      rw [hdn] at q3
      clear q0 q1 q2
      have hx0 : ∀ u, s2.rg[0]? = some u → u.x = ((s2.rg[0]?).getD noval).x := fun u hu => by rw [hu]; rfl
      obtain ⟨r0, hr0⟩ : ∃ r0, r0 = ((s2.rg[0]?).getD noval).x := ⟨_, rfl⟩
      rw [← hr0] at hx0
      have HX0 := Lib.hid hx0
      have HR0 := Lib.hid hr0
      clear hx0 hr0
      have hks := RU.k HX0.out ⟨_, HU2.out.next (Below.refl _ _).drew⟩
      have hRX : ∀ w' (hw : w'.cell? ⟨bx, 426, none⟩ = some (.int .i64 r0) ∧ w'.cell? ⟨bx, 416, none⟩ = some v'.xv ∧ w'.cell? ⟨bx, 417, none⟩ = some v'.tv ∧ w'.cell? ⟨bx, 467, none⟩ = some v'.sv ∧ ∃ o, RU base w0 fx s2 bx v' w v.ρ o w'), Reads w' 1 v'.xv s2.ctx.length (u8s s2.ctx) := fun w' hw => let ⟨o, h⟩ := hw.2.2.2.2; reads_own h.ms.ctxS.1 (u8s_one _) (by decide)
      have hRN : ∀ w' (hw : w'.cell? ⟨bx, 426, none⟩ = some (.int .i64 r0) ∧ w'.cell? ⟨bx, 416, none⟩ = some v'.xv ∧ w'.cell? ⟨bx, 417, none⟩ = some v'.tv ∧ w'.cell? ⟨bx, 467, none⟩ = some v'.sv ∧ ∃ o, RU base w0 fx s2 bx v' w v.ρ o w'), Reads w' 1 v'.sv s2.sent.length (i64s s2.sent) := fun w' hw => let ⟨o, h⟩ := hw.2.2.2.2; reads_own h.ms.sentS.1 (i64s_one _) (by decide)
      have hRT : ∀ w' (hw : w'.cell? ⟨bx, 426, none⟩ = some (.int .i64 r0) ∧ w'.cell? ⟨bx, 416, none⟩ = some v'.xv ∧ w'.cell? ⟨bx, 417, none⟩ = some v'.tv ∧ w'.cell? ⟨bx, 467, none⟩ = some v'.sv ∧ ∃ o, RU base w0 fx s2 bx v' w v.ρ o w'), Rowed w' v'.tv [] [] := fun w' hw => let ⟨o, h⟩ := hw.2.2.2.2; rowed_nil h.ms.tabS hrows
      have HCB := Lib.hid (fun w' hw => clone_byte v'.xv s2.ctx.length (u8s s2.ctx) w' (hRX w' hw) (by omega))
      have HCN := Lib.hid (fun w' hw => clone_int v'.sv s2.sent.length (i64s s2.sent) w' (hRN w' hw) (by omega))
      have HCT := Lib.hid (fun w' hw => copies_of v'.tv [] [] (by decide) (fun i h => absurd h (by simp)) w' (hRT w' hw) (fun _ => 0) 10)
      clear hRX hRN hRT
      go_upto_region 3 with fail
      go_region_held3 (fun w' => w'.cell? ⟨bx, 426, none⟩ = some (.int .i64 r0) ∧ w'.cell? ⟨bx, 416, none⟩ = some v'.xv ∧ w'.cell? ⟨bx, 417, none⟩ = some v'.tv ∧ w'.cell? ⟨bx, 467, none⟩ = some v'.sv ∧ ∃ o, RU base w0 fx s2 bx v' w v.ρ o w')
        (first
          | with_reducible assumption
          | exact RU.n HX0.out (by with_reducible assumption) hbC
          | exact RU.n HX0.out (by with_reducible assumption) hT.bel
          | exact RU.n HX0.out (by with_reducible assumption) hbN
          | exact RU.p HX0.out (by with_reducible assumption) _ _ _ _)
        (first
          | (go_at_call 83; refine (HCB.out _ (by with_reducible assumption)).mono ?_; rintro e wC ⟨vC, rfl, hownC, hbC⟩; obtain ⟨aC, kC, rfl⟩ := own_slice hownC)
          | (go_at_call 84; refine (HCT.out _ (by with_reducible assumption)).mono ?_; rintro e wT ⟨vT, valsT, ρT, rfl, hT⟩; obtain ⟨aT, kT, rfl⟩ := own_slice hT.list.1)
          | (go_at_call 92; refine (HCN.out _ (by with_reducible assumption)).mono ?_; rintro e wN ⟨vN, rfl, hownN, hbN⟩; obtain ⟨aN, kN, rfl⟩ := own_slice hownN; have hUN := (((HU2.out.next (Below.refl _ _).drew).next hbC).next hT.bel).next hbN; obtain ⟨⟨_, _, _, _⟩, _, _, _, _⟩ := hUN.box.four))
      rename_i hheld
      clear hheld hks
      have hob := HU2.out.box.lt
      have hUF := hUN.put4 (.int .i64 r0) (.slice aC s2.ctx.length kC) (.slice aT ([] : List (List Int)).length kT) (.slice aN s2.sent.length kN)
      have hsC := hbC.size
      have hsT := hT.bel.size
      have hC := own_low (own_put4 (q := w.heap.size) (own_stays (own_stays hownC hT.bel (Nat.le_refl _)) hbN (Nat.le_refl _)) (by show _ < w'.heap.size; exact hob) (.int .i64 r0) (.slice aC s2.ctx.length kC) (.slice aT ([] : List (List Int)).length kT) (.slice aN s2.sent.length kN)) (Nat.le_of_lt hob)
      have hS := own_low (own_put4 (q := w.heap.size) hownN (by have : w'.heap.size ≤ wC.heap.size := hsC; omega) (.int .i64 r0) (.slice aC s2.ctx.length kC) (.slice aT ([] : List (List Int)).length kT) (.slice aN s2.sent.length kN)) (show w.heap.size ≤ wT.heap.size by have : w'.heap.size ≤ wC.heap.size := hsC; omega)
      obtain ⟨⟨d0, d1, d2, d3⟩, _⟩ := hUF.box.four
      generalize World.setCell _ _ _ = wF at hUF hC hS d0 d1 d2 d3 ⊢
      go_wp2
      subst hQ
      try simp only [Exit.jump]
      exact bodyPost_ret (v := .tuple #[.agg #[.int .i64 r0, .slice aC s2.ctx.length kC, .slice aT 0 kT, .slice aN s2.sent.length kN], .int .i64 0]) (by simp [results, Tryz.results51, go_sem, d0, d1, d2, d3]) rfl
        ⟨r0, _, _, _, rfl, ⟨⟨_, _, _, rfl⟩, ⟨_, _, _, rfl⟩, ⟨_, _, _, rfl⟩, fun h => absurd rfl h, fun _ u hu => (HX0.out u hu).symm, fun _ => hC, fun _ => hS⟩, v', hUF.ms, hUF.fr, hUF.ro⟩
    | fuel _ hdn =>
      rw [hdn] at q3
      have hfi : i = fuel := by omega
      clear hm hi
      subst hfi
      have hge : decide ((i : Int) ≤ (i : Int)) = true := by simp
      have hUF := HU2.out.put4 (.int .i64 0) (.slice none 0 0) (.slice none 0 0) (.slice none 0 0)
      go_wp2
      obtain ⟨⟨d0, d1, d2, d3⟩, _⟩ := hUF.box.four
      generalize World.setCell _ _ _ = wF at hUF d0 d1 d2 d3 ⊢
      subst hQ
      try simp only [Exit.jump]
      exact bodyPost_ret (v := .tuple #[.agg #[.int .i64 0, .slice none 0 0, .slice none 0 0, .slice none 0 0], .int .i64 88]) (by simp [results, Tryz.results51, go_sem, d0, d1, d2, d3]) rfl
        ⟨0, _, _, _, rfl, ⟨⟨_, _, _, rfl⟩, ⟨_, _, _, rfl⟩, ⟨_, _, _, rfl⟩, fun _ => ⟨rfl, rfl, rfl, rfl⟩, fun h => absurd h (by decide), fun h => absurd h (by decide), fun h => absurd h (by decide)⟩, v', hUF.ms, hUF.fr, hUF.ro⟩
    | trap _ s1 n _ hdn hst hne =>
      rw [hdn] at q3
      have hge : decide ((fuel : Int) ≤ (i : Int)) = false := by simp; omega
      have hnet : (er != 0) = true := by simpa using hne
      have HST := Lib.hid hst
      clear hst
      go_wp2_with (go_at_call 48; refine (HST.out _ _ _ _ _ HU2.out.ms).mono ?_; rintro e wX ⟨rfl, v2, hM2, hf2, hro2⟩; have hUX := HU2.out.step hM2 hf2 hro2; obtain ⟨⟨_, _, _, _⟩, _, _, _, _⟩ := hUX.box.four)
      have hUF := hUX.put4 (.int .i64 0) (.slice none 0 0) (.slice none 0 0) (.slice none 0 0)
      obtain ⟨⟨d0, d1, d2, d3⟩, _⟩ := hUF.box.four
      generalize World.setCell _ _ _ = wF at hUF d0 d1 d2 d3 ⊢
      subst hQ
      try simp only [Exit.jump]
      exact bodyPost_ret (v := .tuple #[.agg #[.int .i64 0, .slice none 0 0, .slice none 0 0, .slice none 0 0], .int .i64 er]) (by simp [results, Tryz.results51, go_sem, d0, d1, d2, d3]) rfl
        ⟨0, _, _, _, rfl, ⟨⟨_, _, _, rfl⟩, ⟨_, _, _, rfl⟩, ⟨_, _, _, rfl⟩, fun _ => ⟨rfl, rfl, rfl, rfl⟩, fun h => absurd h hne, fun h => absurd h hne, fun h => absurd h hne⟩, v2, hUF.ms, hUF.fr, hUF.ro⟩
    | step _ s1 _ n _ hdn hst hrest =>
      rw [hdn] at q3
      have hge : decide ((fuel : Int) ≤ (i : Int)) = false := by simp; omega
      have hwi : wrap64 ((i : Int) + 1) = ((i + 1 : Nat) : Int) := by have := HF.out; unfold wrap64; omega
      have HST := Lib.hid hst
      clear hst
      go_wp2_with (go_at_call 48; refine (HST.out _ _ _ _ _ HU2.out.ms).mono ?_; rintro e wX ⟨rfl, v2, hM2, hf2, hro2⟩; have hUX := HU2.out.step hM2 hf2 hro2)
      go_step3
      subst hQ
      rw [hwi]
      refine ⟨rfl, ⟨i + 1, s1, v2, _, _, _, _, _, _, _, _, _, _, _, _, _, _, _, _, _, _, _, _, _, _, _, _, _, _, _, _, _, _, _, _, _, _, _, _, _, _, _, _, _, by omega, by rw [show fuel - (i + 1) = n by omega]; exact hrest, hUX, rfl⟩, ?_⟩
      simp [intOf]
      omega
end Go.Proofs.YtbkcpepalicbjaaGreat
