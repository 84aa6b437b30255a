import Derived.Test.YtdepknffpnnmmaaGreatMachDP
set_option maxRecDepth 100000
set_option maxHeartbeats 4000000
namespace Go.Proofs.YtdepknffpnnmmaaGreat
open Go.RowKit
set_option linter.unusedVariables false
set_option linter.unusedSimpArgs false
theorem run_still (fx : Mfix) (s : Mst) (hdn : s.done = true) (fuel : Nat) (hrl : s.rows.length <= 1000000) (hrb : ∀ k (h : k < s.rows.length), IsBytes s.rows[k] /\ s.rows[k].length <= 140737488355328) (hcl : s.ctx.length <= 65535) (hsl : s.sent.length <= 100000)
 (base : Nat) (w0 : World) (bx : Nat) (v : Mvals) (w : World) (hM : MS base w0 fx s bx v w) :
 Calls Tryz.prog 21 #[.pointer (some ⟨bx, 0, none⟩), .int .i64 fuel] w fun e w' =>
  ∃ r0 xv tv sv, e = .returned (.tuple #[.agg #[.int .i64 r0, xv, tv, sv], .int .i64 0]) /\ OutS w.heap.size 0 s r0 xv tv sv w' /\ Below w.heap.size w w' /\ Lab3 w.heap.size s xv tv sv w' := by
 have hb0 := run_out0
 have hbo := run_out
 have hU0 := RU.begin hM
 obtain ⟨v', hvv⟩ : ∃ z, z = { v with ρ := newRole v.ρ w.heap.size 9 } := ⟨_, rfl⟩
 rw [<- hvv] at hU0
 have HU := Lib.hid hU0
 clear hM hU0 hvv
 go_enter Tryz.func21, Tryz.ntmps21
 go_wp2_with fail
 have HBA := Lib.hid (below_map w (.cells #[.int .i64 0, .slice none 0 0, .slice none 0 0, .slice none 0 0] 30))
 generalize World.alloc _ _ = wA at HU HBA ⊢
 refine wp_scope_loop 0 (fun a' w' => w' = wA /\ ∃ (u7 u8 u9 u10 u11 u12 u13 u14 u15 u16 u17 u18 u19 u20 u21 u22 u23 u24 u25 u26 u27 u28 u29 u30 u31 u32 u33 u34 u35 u36 u37 u38 u39 u40 u41 u42 u43 u44 u45 u46 u47 : Value), a' = { tmps := #[.pointer (some ⟨bx, 0, none⟩), .int .i64 fuel, undef, undef, .pointer (some ⟨w.heap.size, 0, none⟩), .int .i64 0, .int .i64 0, u7, u8, u9, u10, u11, u12, u13, u14, u15, u16, u17, u18, u19, u20, u21, u22, u23, u24, u25, u26, u27, u28, u29, u30, u31, u32, u33, u34, u35, u36, u37, u38, u39, u40, u41, u42, u43, u44, u45, u46, u47], defers := [] }) (fun a' _ => 0) rfl ?_ ?_
 ·intro hpass
  go_wp2
  go_step3
  rename_i hK
  exact hK _ _ (hpass _ _ ⟨rfl, _, _, _, _, _, _, _, _, _, _, _, _, _, _, _, _, _, _, _, _, _, _, _, _, _, _, _, _, _, _, _, _, _, _, _, _, _, _, _, _, _, rfl⟩)
 rintro a' w' ⟨rfl, u7, u8, u9, u10, u11, u12, u13, u14, u15, u16, u17, u18, u19, u20, u21, u22, u23, u24, u25, u26, u27, u28, u29, u30, u31, u32, u33, u34, u35, u36, u37, u38, u39, u40, u41, u42, u43, u44, u45, u46, u47, rfl⟩
 obtain ⟨wA, rfl⟩ : ∃ z, z = w' := ⟨_, rfl⟩
 dsimp only
 generalize hQ : Exit.jump _ _ _ = Q
 obtain ⟨q0, q1, q2, q3⟩ := HU.out.ms.tail
 obtain ⟨⟨b0, b1, b2, b3⟩, f0, f1, f2, f3⟩ := HU.out.box.four
 have HU2 := HU
 clear HU
 rw [hdn] at q3
 clear q0 q1 q2
 have hx0 : ∀ u, s.rg[0]? = some u -> u.x = ((s.rg[0]?).getD noval).x := fun u hu => by rw [hu]; rfl
 obtain ⟨r0, hr0⟩ : ∃ r0, r0 = ((s.rg[0]?).getD noval).x := ⟨_, rfl⟩
 rw [<- hr0] at hx0
 have HX0 := Lib.hid hx0
 have HR0 := Lib.hid hr0
 clear hx0 hr0
 have hks := RU.k HX0.out ⟨_, HU2.out.next (Below.refl _ _).drew⟩
 have hRX : ∀ w' (hw : w'.cell? ⟨bx, 426, none⟩ = some (.int .i64 r0) /\ w'.cell? ⟨bx, 416, none⟩ = some v'.xv /\ w'.cell? ⟨bx, 417, none⟩ = some v'.tv /\ w'.cell? ⟨bx, 467, none⟩ = some v'.sv /\ ∃ o, RU base w0 fx s bx v' w v.ρ o w'), Reads w' 1 v'.xv s.ctx.length (u8s s.ctx) := fun w' hw => let ⟨o, h⟩ := hw.2.2.2.2; reads_own h.ms.ctxS.1 (u8s_one _) (by decide)
 have hRN : ∀ w' (hw : w'.cell? ⟨bx, 426, none⟩ = some (.int .i64 r0) /\ w'.cell? ⟨bx, 416, none⟩ = some v'.xv /\ w'.cell? ⟨bx, 417, none⟩ = some v'.tv /\ w'.cell? ⟨bx, 467, none⟩ = some v'.sv /\ ∃ o, RU base w0 fx s bx v' w v.ρ o w'), Reads w' 1 v'.sv s.sent.length (i64s s.sent) := fun w' hw => let ⟨o, h⟩ := hw.2.2.2.2; reads_own h.ms.sentS.1 (i64s_one _) (by decide)
 have hRT : ∀ w' (hw : w'.cell? ⟨bx, 426, none⟩ = some (.int .i64 r0) /\ w'.cell? ⟨bx, 416, none⟩ = some v'.xv /\ w'.cell? ⟨bx, 417, none⟩ = some v'.tv /\ w'.cell? ⟨bx, 467, none⟩ = some v'.sv /\ ∃ o, RU base w0 fx s bx v' w v.ρ o w'), Rowed w' v'.tv v'.vals s.rows := fun w' hw => let ⟨o, h⟩ := hw.2.2.2.2; rowed_tabU h.ms.tabS (fun k hk => (hrb k hk).1)
 have HCB := Lib.hid (fun w' hw => clone_byte v'.xv s.ctx.length (u8s s.ctx) w' (hRX w' hw) (by omega))
 have HCN := Lib.hid (fun w' hw => clone_int v'.sv s.sent.length (i64s s.sent) w' (hRN w' hw) (by omega))
 have HCT := Lib.hid (fun w' hw => copies_of v'.tv v'.vals s.rows hrl (fun k hk => (hrb k hk).2) w' (hRT w' hw) (fun _ => 0) 10)
 clear hRX hRN hRT
 go_upto_region 3 with fail
 go_region_held3 (fun w' => w'.cell? ⟨bx, 426, none⟩ = some (.int .i64 r0) /\ w'.cell? ⟨bx, 416, none⟩ = some v'.xv /\ w'.cell? ⟨bx, 417, none⟩ = some v'.tv /\ w'.cell? ⟨bx, 467, none⟩ = some v'.sv /\ ∃ o, RU base w0 fx s bx v' w v.ρ o w')
  (first
    | with_reducible assumption
    | exact RU.n HX0.out (by with_reducible assumption) hbC
    | exact RU.n HX0.out (by with_reducible assumption) hT.bel
    | exact RU.n HX0.out (by with_reducible assumption) hbN
    | exact RU.p HX0.out (by with_reducible assumption) _ _ _ _)
  (first
    | (go_at_call 47; refine (HCB.out _ (by with_reducible assumption)).mono ?_; rintro e wC ⟨vC, rfl, hownC, hbC⟩; obtain ⟨aC, kC, rfl⟩ := own_slice hownC)
    | (go_at_call 48; refine (HCT.out _ (by with_reducible assumption)).mono ?_; rintro e wT ⟨vT, valsT, ρT, rfl, hT⟩; obtain ⟨aT, kT, rfl⟩ := own_slice hT.list.1)
    | (go_at_call 52; refine (HCN.out _ (by with_reducible assumption)).mono ?_; rintro e wN ⟨vN, rfl, hownN, hbN⟩; obtain ⟨aN, kN, rfl⟩ := own_slice hownN; have hUN := (((HU2.out.next (Below.refl _ _).drew).next hbC).next hT.bel).next hbN; obtain ⟨⟨_, _, _, _⟩, _, _, _, _⟩ := hUN.box.four))
 rename_i hheld
 clear hheld hks
 have hob := HU2.out.box.lt
 have hUF := hUN.put4 (.int .i64 r0) (.slice aC s.ctx.length kC) (.slice aT s.rows.length kT) (.slice aN s.sent.length kN)
 have hsC := hbC.size
 have hsT := hT.bel.size
 have hC := own_low (own_put4 (q := w.heap.size) (own_stays (own_stays hownC hT.bel (Nat.le_refl _)) hbN (Nat.le_refl _)) (by show _ < wA.heap.size; exact hob) (.int .i64 r0) (.slice aC s.ctx.length kC) (.slice aT s.rows.length kT) (.slice aN s.sent.length kN)) (Nat.le_of_lt hob)
 have hS := own_low (own_put4 (q := w.heap.size) hownN (by have : wA.heap.size <= wC.heap.size := hsC; omega) (.int .i64 r0) (.slice aC s.ctx.length kC) (.slice aT s.rows.length kT) (.slice aN s.sent.length kN)) (show w.heap.size <= wT.heap.size by have : wA.heap.size <= wC.heap.size := hsC; omega)
 have hTT := tab_out hT hbN (q := w.heap.size) (by have : wA.heap.size <= wC.heap.size := hsC; omega) (b' := w.heap.size) (by have : wA.heap.size <= wC.heap.size := hsC; omega) (.int .i64 r0) (.slice aC s.ctx.length kC) (.slice aT s.rows.length kT) (.slice aN s.sent.length kN)
 obtain ⟨⟨d0, d1, d2, d3⟩, _⟩ := hUF.box.four
 have hLB : Lab3 w.heap.size s (.slice aC s.ctx.length kC) (.slice aT s.rows.length kT) (.slice aN s.sent.length kN) ((((wN.setCell ⟨w.heap.size, 0, none⟩ (.int .i64 r0)).setCell ⟨w.heap.size, 1, none⟩ (.slice aC s.ctx.length kC)).setCell ⟨w.heap.size, 2, none⟩ (.slice aT s.rows.length kT)).setCell ⟨w.heap.size, 3, none⟩ (.slice aN s.sent.length kN)) := by
  refine ⟨⟨fun q => if q < wC.heap.size then 5 else if q < wT.heap.size then ρT q else 6, valsT, ⟨hC, fun b hb => if_pos (hownC.lt b hb).2⟩, ⟨⟨hTT.list.1, fun b hb => ?_⟩, fun k hk => ?_⟩, ⟨hS, fun b hb => ?_⟩⟩⟩
  ·obtain ⟨l1, l2⟩ := hT.list.1.lt b hb
   show (if b < wC.heap.size then 5 else if b < wT.heap.size then ρT b else 6) = 10
   rw [if_neg (by omega), if_pos l2]
   exact hT.list.2 b hb
  ·obtain ⟨u, hu, ho⟩ := hT.item k hk hk
   obtain ⟨u', hu', ho'⟩ := hTT.item k hk
   obtain rfl : u = u' := Option.some.inj (hu.symm.trans hu')
   refine ⟨u, hu, ho'.1, fun b hb => ?_⟩
   obtain ⟨l1, l2⟩ := ho.1.lt b hb
   show (if b < wC.heap.size then 5 else if b < wT.heap.size then ρT b else 6) = 11 + k
   rw [if_neg (by omega), if_pos l2]
   exact ho.2 b hb
  ·have l1 := (hownN.lt b hb).1
   show (if b < wC.heap.size then 5 else if b < wT.heap.size then ρT b else 6) = 6
   rw [if_neg (by omega), if_neg (by omega)]
 have hBF := (((((((HBA.out.trans ((Below.refl _ _).drew.mono HBA.out.size)).trans (hbC.mono (by have := HBA.out.size; exact this))).trans (hT.bel.mono (by have := HBA.out.size; have : wA.heap.size <= wC.heap.size := hsC; omega))).trans (hbN.mono (by have := HBA.out.size; have : wA.heap.size <= wC.heap.size := hsC; omega))).setCell (p := ⟨w.heap.size, 0, none⟩) (Nat.le_refl w.heap.size) (.int .i64 r0)).setCell (p := ⟨w.heap.size, 1, none⟩) (Nat.le_refl w.heap.size) (.slice aC s.ctx.length kC)).setCell (p := ⟨w.heap.size, 2, none⟩) (Nat.le_refl w.heap.size) (.slice aT s.rows.length kT)).setCell (p := ⟨w.heap.size, 3, none⟩) (Nat.le_refl w.heap.size) (.slice aN s.sent.length kN)
 generalize World.setCell _ _ _ = wF at hUF hC hS hTT hBF hLB d0 d1 d2 d3 ⊢
 go_wp2
 subst hQ
 try simp only [Exit.jump]
 exact bodyPost_ret (v := .tuple #[.agg #[.int .i64 r0, .slice aC s.ctx.length kC, .slice aT s.rows.length kT, .slice aN s.sent.length kN], .int .i64 0]) (by simp [results, Tryz.results21, go_sem, d0, d1, d2, d3]) rfl
  ⟨r0, _, _, _, rfl, ⟨⟨_, _, _, rfl⟩, ⟨_, _, _, rfl⟩, ⟨_, _, _, rfl⟩, fun h => absurd rfl h, fun _ u hu => (HX0.out u hu).symm, fun _ => hC, fun _ => hS, fun _ => ⟨_, _, hTT⟩⟩, hBF, hLB⟩
end Go.Proofs.YtdepknffpnnmmaaGreat
