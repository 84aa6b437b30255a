import Derived.Test.YtdepknffpnnmmaaGreatMachDS
import Derived.Test.YtdepknffpnnmmaaGreatMachDE
namespace Go.Proofs.YtdepknffpnnmmaaGreat
open Go.RowKit
set_option linter.unusedVariables false
set_option linter.unusedSimpArgs false
def Parts (w : World) (s : Mst) (xv tv sv : Value) : Prop := ∃ (a : Option Addr) (n : Nat) (b : Option Addr) (m : Nat) (c : Option Addr) (k : Nat) (vals : List Value), xv = .slice a s.ctx.length n /\ tv = .slice b s.rows.length m /\ sv = .slice c s.sent.length k /\ Held w xv s.ctx /\ Rowed w tv vals s.rows /\ Ints w sv s.sent
theorem parts_same {s : Mst} {fx : Mfix} (hc : CodeG fx) (hs : Sane fx s) {x1 t1 s1 x2 t2 s2 : Value} {w : World} (h1 : Parts w s x1 t1 s1) (h2 : Parts w s x2 t2 s2) :
 Calls Tryz.prog 25 #[.agg (statec s x1 t1 s1).toArray, .agg (statec s x2 t2 s2).toArray] w fun e w' => e = .returned (.bool true) /\ Below w.heap.size w w' := by
 obtain ⟨k1, k2, k3, k4⟩ := hs.small hc
 obtain ⟨a, n, b, m, c, k, va, rfl, rfl, rfl, g1, g2, g3⟩ := h1
 obtain ⟨a', n', b', m', c', k', vb, rfl, rfl, rfl, g4, g5, g6⟩ := h2
 exact same_state s hs.good.regs.1 hs.good.slots (by rw [regc_len, hs.good.regs.1]) hs.good.slots.len a b c a' b' c' n m k n' m' k' va vb (by omega) (by omega) w g1 g2 g3 g4 g5 g6
theorem StateA.parts {fx : Mfix} {w : World} {s : Mst} {xv tv sv : Value} {w' : World} (hs : Sane fx s) (h : StateA w s xv tv sv w') : Parts w' s xv tv sv :=
 h.reads hs.good.mem.ctx (fun k hk => (hs.good.mem.rows k hk).1)
theorem Parts.below {w w' : World} {s : Mst} {xv tv sv : Value} (h : Parts w s xv tv sv) (hb : Below w.heap.size w w') : Parts w' s xv tv sv := by
 obtain ⟨a, n, b, m, c, k, vals, h1, h2, h3, h4, h5, h6⟩ := h
 exact ⟨a, n, b, m, c, k, vals, h1, h2, h3, h4.below hb (Nat.le_refl _), h5.below hb (Nat.le_refl _), h6.below hb (Nat.le_refl _)⟩
structure ToldS (P : Nat -> Nat) (s : Mst) (xv tv sv : Value) (w : World) : Prop where
 at' : ∃ w0 we, StateA w0 s xv tv sv we /\ we.heap.size <= w.heap.size /\ ∀ q, w0.heap.size <= q -> q < we.heap.size -> P q = 0 /\ w.heap[q]? = we.heap[q]?
theorem ToldS.parts {fx : Mfix} {P : Nat -> Nat} {s : Mst} {xv tv sv : Value} {w : World} (hs : Sane fx s) (h : ToldS P s xv tv sv w) : Parts w s xv tv sv := by
 obtain ⟨w0, we, hA, hsz, hk⟩ := h.at'
 have hst : ∀ {e : TypeId} {size n : Nat} {x : Value} {xs : List Value}, we.ownsRow w0.heap.size e size x n xs -> w.ownsRow w0.heap.size e size x n xs := fun ho => ownsRow_stayS ho fun b hb => (hk b (ho.lt b hb).1 (ho.lt b hb).2).2
 obtain ⟨ρ, vals, hT⟩ := hA.tabs
 obtain ⟨a, n, e1⟩ := own_slice hA.ctx
 obtain ⟨b, m, e2⟩ := own_slice hT.list.1
 obtain ⟨c, k, e3⟩ := own_slice hA.sent
 have hT2 : TabS w w0.heap.size ρ tv vals s.rows := ⟨⟨hst hT.list.1, hT.list.2⟩, fun k hk' => let ⟨u, hu, ho⟩ := hT.item k hk'; ⟨u, hu, ⟨hst ho.1, ho.2⟩⟩⟩
 exact ⟨a, n, b, m, c, k, vals, e1, e2, e3, held_of_own (hst hA.ctx) hs.good.mem.ctx rfl, rowed_tabU hT2 (fun k hk => (hs.good.mem.rows k hk).1), ints_own (hst hA.sent)⟩
theorem ToldS.work {P : Nat -> Nat} {j : Nat} (hj : j ≠ 0) {s : Mst} {xv tv sv : Value} {w w' : World} (h : ToldS P s xv tv sv w) (hW : Work P j w w') (k : Nat) : ToldS (grown P w.heap.size k) s xv tv sv w' := by
 obtain ⟨w0, we, hA, hs, hk⟩ := h.at'
 refine ⟨w0, we, hA, Nat.le_trans hs hW.size, fun q h1 h2 => ?_⟩
 obtain ⟨g1, g2⟩ := hk q h1 h2
 exact ⟨(grown_old (by omega)).trans g1, (hW.keep q (by omega) (by omega)).trans g2⟩
theorem ToldS.next {P : Nat -> Nat} {k : Nat} {s : Mst} {xv tv sv : Value} {w w' : World} (h : ToldS P s xv tv sv w) (hb : Below w.heap.size w w') : ToldS (grown P w.heap.size k) s xv tv sv w' := h.work (j := 1) (by decide) (Work.of_below hb) k
theorem ToldS.begin {P : Nat -> Nat} {s : Mst} {xv tv sv : Value} {w w' : World} (h : StateA w s xv tv sv w') : ToldS (grown P w.heap.size 0) s xv tv sv w' :=
 ⟨w, w', h, Nat.le_refl _, fun q h1 h2 => ⟨grown_new h1, rfl⟩⟩
structure QQ (W : World) (P : Nat -> Nat) (fx : Mfix) (s : Mst) (b1 D B E : Nat) (xv tv sv : Value) (cb ce : List Value) (w : World) : Prop where
 g : Ground W P w
 m : Mine P 1 fx s b1 w
 box : Own0 P D 62 (statec s xv tv sv) w
 told : ToldS P s xv tv sv w
 bb : Own0 P B 30 cb w
 be : Own0 P E 30 ce w
def Q5 (W : World) (fx : Mfix) (s : Mst) (b1 D B E : Nat) (xv tv sv : Value) (cb ce : List Value) (w : World) : Prop := ∃ P, QQ W P fx s b1 D B E xv tv sv cb ce w
section
variable {W : World} {fx : Mfix} {s : Mst} {b1 D B E : Nat} {xv tv sv : Value} {cb ce : List Value} {w w' : World}
theorem QQ.next {P : Nat -> Nat} (h : QQ W P fx s b1 D B E xv tv sv cb ce w) (hb : Below w.heap.size w w') : QQ W (grown P w.heap.size 0) fx s b1 D B E xv tv sv cb ce w' :=
 ⟨h.g.next hb, h.m.next hb, h.box.next hb, h.told.next hb, h.bb.next hb, h.be.next hb⟩
theorem Q5.next (h : Q5 W fx s b1 D B E xv tv sv cb ce w) (hb : Below w.heap.size w w') : Q5 W fx s b1 D B E xv tv sv cb ce w' := let ⟨P, hP⟩ := h; ⟨_, hP.next hb⟩
theorem Q5.bel (h : Q5 W fx s b1 D B E xv tv sv cb ce w) : Below W.heap.size W w := let ⟨P, hP⟩ := h; hP.g.bel
theorem Q5.step (hc : CodeG fx) (hs : Sane fx s) (hst : s.steps < 4611686018427387904) (hk : (stepF fx s).2 = s) (h : Q5 W fx s b1 D B E xv tv sv cb ce w) :
 Calls Tryz.prog 23 #[.pointer (some ⟨b1, 0, none⟩)] w fun e w' => e = .returned (.int .i64 (stepF fx s).1) /\ Q5 W fx s b1 D B E xv tv sv cb ce w' := by
 obtain ⟨P, hP⟩ := h
 refine (step_mine hc hs hst hP.m).mono ?_
 rintro e w' ⟨he, hm, hw⟩
 rw [hk] at hm
 exact ⟨he, _, hP.g.work (by decide) hw, hm, hP.box.work (by decide) hw 1, hP.told.work (by decide) hw 1, hP.bb.work (by decide) hw 1, hP.be.work (by decide) hw 1⟩
theorem Q5.state (hc : CodeG fx) (hs : Sane fx s) (h : Q5 W fx s b1 D B E xv tv sv cb ce w) :
 Calls Tryz.prog 22 #[.pointer (some ⟨b1, 0, none⟩)] w fun e w' => ∃ x1 t1 s1, e = .returned (.agg (statec s x1 t1 s1).toArray) /\ Parts w' s x1 t1 s1 /\ Q5 W fx s b1 D B E xv tv sv cb ce w' := by
 obtain ⟨P, hP⟩ := h
 refine (state_mine hc hs hP.m).mono ?_
 rintro e w' ⟨x1, t1, s1, he, hA⟩
 exact ⟨x1, t1, s1, he, hA.parts hs, _, hP.next hA.bel⟩
theorem Q5.same (hc : CodeG fx) (hs : Sane fx s) (h : Q5 W fx s b1 D B E xv tv sv cb ce w) {x1 t1 s1 : Value} (h1 : Parts w s x1 t1 s1) :
 Calls Tryz.prog 25 #[.agg (statec s xv tv sv).toArray, .agg (statec s x1 t1 s1).toArray] w fun e w' => e = .returned (.bool true) /\ Q5 W fx s b1 D B E xv tv sv cb ce w' := by
 obtain ⟨P, hP⟩ := h
 refine (parts_same hc hs (hP.told.parts hs) h1).mono ?_
 rintro e w' ⟨he, hb⟩
 exact ⟨he, _, hP.next hb⟩
theorem Q5.range (h : Q5 W fx s b1 D B E xv tv sv cb ce w) : w.rangeAt D 0 (statec s xv tv sv) := fun j v hv => by
 obtain ⟨P, hP⟩ := h
 rw [Nat.zero_add, hP.box.row.cell]
 exact hv
theorem info_statec (h44 : (regc s.rg).length = 44) (h416 : s.st.length = 416) : (Tryz.prog.info? 62).map (·.size) = some (statec s xv tv sv).length := by
 rw [statec_len h44 h416]
 exact info_state
end
section
variable {W : World} {fx : Mfix} {s : Mst} {b1 D B E : Nat} {xv tv sv : Value} {a0 a1 a2 a3 c0 c1 c2 c3 : Value} {w w' : World}
theorem Q5.k (h44 : (regc s.rg).length = 44) (h416 : s.st.length = 416) {S : Int} {d : Bool} (hS : s.steps = S) (hd : s.done = d) (h : Q5 W fx s b1 D B E xv tv sv [a0, a1, a2, a3] [c0, c1, c2, c3] w) :
 w.cell? ⟨D, 464, none⟩ = some (.int .i64 S) /\ w.cell? ⟨D, 465, none⟩ = some (.bool d) /\
 w.cell? ⟨B, 0, none⟩ = some a0 /\ w.cell? ⟨B, 1, none⟩ = some a1 /\ w.cell? ⟨B, 2, none⟩ = some a2 /\ w.cell? ⟨B, 3, none⟩ = some a3 /\
 w.cell? ⟨E, 0, none⟩ = some c0 /\ w.cell? ⟨E, 1, none⟩ = some c1 /\ w.cell? ⟨E, 2, none⟩ = some c2 /\ w.cell? ⟨E, 3, none⟩ = some c3 /\
 Q5 W fx s b1 D B E xv tv sv [a0, a1, a2, a3] [c0, c1, c2, c3] w := by
 have h' := h
 obtain ⟨P, hP⟩ := h
 obtain ⟨t1, t2, t3⟩ := statec_tail h44 h416 xv tv sv
 rw [hS] at t2
 rw [hd] at t3
 obtain ⟨⟨f0, f1, f2, f3⟩, _⟩ := hP.bb.row.four
 obtain ⟨⟨g0, g1, g2, g3⟩, _⟩ := hP.be.row.four
 exact ⟨(hP.box.row.cell 464).trans t2, (hP.box.row.cell 465).trans t3, f0, f1, f2, f3, g0, g1, g2, g3, h'⟩
end
theorem run_trapped (fx : Mfix) {s : Mst} {R : Int × Mst} (hd : s.done = false) (hR : stepF fx s = R) (h0 : R.1 ≠ 0) : ∀ n, runF fx n s = if n = 0 then (88, s) else R
 | 0 => by
   unfold runF
   rw [hd]
   rfl
 | n + 1 => by
   have e2 : runF fx (n + 1) s = if (stepF fx s).1 = 0 then runF fx n (stepF fx s).2 else stepF fx s := by
    rw [runF, hd]
    rfl
   rw [e2, hR, if_neg h0, if_neg (by omega)]
end Go.Proofs.YtdepknffpnnmmaaGreat
