import Derived.Test.YtdepknffpnnmmaaGreatMachDB
import Derived.Test.YtdepknffpnnmmaaGreatMachDD
import Derived.Deep.WholeRow
set_option maxRecDepth 100000
set_option maxHeartbeats 4000000
namespace Go.Proofs.YtdepknffpnnmmaaGreat
open Go.RowKit
set_option linter.unusedVariables false
set_option linter.unusedSimpArgs false
section
variable {w w1 w2 : World} {pb rb n : Nat} {e : TypeId} {ps : List Value}
theorem KP.row5 (h : KP w pb rb e ps 5 w1) (x0 x1 x2 x3 x4 : Value) : Row (((((w1.setCell ⟨rb, 0, none⟩ x0).setCell ⟨rb, 1, none⟩ x1).setCell ⟨rb, 2, none⟩ x2).setCell ⟨rb, 3, none⟩ x3).setCell ⟨rb, 4, none⟩ x4) rb e [x0, x1, x2, x3, x4] := by
 obtain ⟨cs, hr, hl⟩ := h.res
 have h5 := (((((hr.put 0 x0).put 1 x1).put 2 x2).put 3 x3).put 4 x4)
 have e5 : (((((cs.set 0 x0).set 1 x1).set 2 x2).set 3 x3).set 4 x4) = [x0, x1, x2, x3, x4] := by
  match cs, hl with
  | [_, _, _, _, _], _ => rfl
 rw [e5] at h5
 exact h5
theorem KP.k2 {a b : Value} (h : KP w pb rb e [a, b] 2 w1) : w1.cell? ⟨pb, 0, none⟩ = some a /\ w1.cell? ⟨pb, 1, none⟩ = some b /\ KP w pb rb e [a, b] 2 w1 := ⟨by rw [h.box.cell]; rfl, by rw [h.box.cell]; rfl, h⟩
theorem KP.n2 {a b : Value} (h : w1.cell? ⟨pb, 0, none⟩ = some a /\ w1.cell? ⟨pb, 1, none⟩ = some b /\ KP w pb rb e [a, b] 2 w1) (hb : Below w1.heap.size w1 w2) : w2.cell? ⟨pb, 0, none⟩ = some a /\ w2.cell? ⟨pb, 1, none⟩ = some b /\ KP w pb rb e [a, b] 2 w2 := (h.2.2.next hb).k2
theorem KP.s2 {a b : Value} (h : w1.cell? ⟨pb, 0, none⟩ = some a /\ w1.cell? ⟨pb, 1, none⟩ = some b /\ KP w pb rb e [a, b] 2 w1) (x0 x1 : Value) (W : World) (hW : W = ((w1.setCell ⟨rb, 0, none⟩ x0).setCell ⟨rb, 1, none⟩ x1)) : W.cell? ⟨pb, 0, none⟩ = some a /\ W.cell? ⟨pb, 1, none⟩ = some b /\ KP w pb rb e [a, b] 2 W := by
 subst hW
 exact ((h.2.2.put 0 x0).put 1 x1).k2
theorem KP.row2 (h : KP w pb rb e ps 2 w1) (x0 x1 : Value) : Row ((w1.setCell ⟨rb, 0, none⟩ x0).setCell ⟨rb, 1, none⟩ x1) rb e [x0, x1] := by
 obtain ⟨cs, hr, hl⟩ := h.res
 have h5 := ((hr.put 0 x0).put 1 x1)
 have e5 : ((cs.set 0 x0).set 1 x1) = [x0, x1] := by
  match cs, hl with
  | [_, _], _ => rfl
 rw [e5] at h5
 exact h5
end
theorem built_copy_program (l h : Int) (a1 a2 a3 : Option Addr) (n1 c1 n2 c2 n3 c3 : Nat) : Tryz.prog.built 44 [(0, .int .i64 l), (1, .int .i64 h), (2, .slice a1 n1 c1), (3, .slice a2 n2 c2), (4, .slice a3 n3 c3)] = some #[.int .i64 l, .int .i64 h, .slice a1 n1 c1, .slice a2 n2 c2, .slice a3 n3 c3] := by kernel_rfl
theorem runb_copy_program (l h : Int) (a1 a2 a3 : Option Addr) (n1 c1 n2 c2 n3 c3 : Nat) (w : World) : (Instr.build 44 #[(0, .int .i64 l), (1, .int .i64 h), (2, .slice a1 n1 c1), (3, .slice a2 n2 c2), (4, .slice a3 n3 c3)]).run Tryz.prog w = .ok (.agg #[.int .i64 l, .int .i64 h, .slice a1 n1 c1, .slice a2 n2 c2, .slice a3 n3 c3]) w := run_build w _ _ _ (built_copy_program l h a1 a2 a3 n1 c1 n2 c2 n3 c3)
theorem infob_copy_program : (Tryz.prog.info? 44).map (·.size) = some 5 := by kernel_rfl
theorem copy_program (lo hi : Int) (data : List Int) (nt nc : Nat) (tcs ccs : List Value) (d0 t0 c0 : Option Addr) (k0 k1 k2 : Nat) (w : World) (hd : Held w (.slice d0 data.length k0) data) (ht : Reads w 2 (.slice t0 nt k1) nt tcs) (hc : Reads w 8 (.slice c0 nc k2) nc ccs) (hl1 : data.length <= 140737488355328) (hl2 : nt * 16 <= 140737488355328) (hl3 : nc * 56 <= 140737488355328) :
 Calls Tryz.prog 19 #[.agg #[.int .i64 lo, .int .i64 hi, .slice d0 data.length k0, .slice t0 nt k1, .slice c0 nc k2]] w fun e w' => ∃ da dc ta tc ca cc, e = .returned (.agg #[.int .i64 lo, .int .i64 hi, .slice da data.length dc, .slice ta nt tc, .slice ca nc cc]) /\ Below w.heap.size w w' /\ w'.ownsRow w.heap.size 5 1 (.slice da data.length dc) data.length (u8s data) /\ w'.ownsRow w.heap.size 101 2 (.slice ta nt tc) nt tcs /\ w'.ownsRow w.heap.size 25 8 (.slice ca nc cc) nc ccs := by
 have hbb := runb_copy_program
 have HCD := Lib.hid (fun (w' : World) (hS : w'.cell? ⟨w.heap.size, 0, none⟩ = some (.int .i64 lo) /\ w'.cell? ⟨w.heap.size, 1, none⟩ = some (.int .i64 hi) /\ w'.cell? ⟨w.heap.size, 2, none⟩ = some (.slice d0 data.length k0) /\ w'.cell? ⟨w.heap.size, 3, none⟩ = some (.slice t0 nt k1) /\ w'.cell? ⟨w.heap.size, 4, none⟩ = some (.slice c0 nc k2) /\ KP w w.heap.size (w.heap.size + 1) 44 [.int .i64 lo, .int .i64 hi, .slice d0 data.length k0, .slice t0 nt k1, .slice c0 nc k2] 5 w') => copy_of (.slice d0 data.length k0) data w' (hd.below hS.2.2.2.2.2.bel (Nat.le_refl _)) hl1)
 have HCT := Lib.hid (fun (w' : World) (hS : w'.cell? ⟨w.heap.size, 0, none⟩ = some (.int .i64 lo) /\ w'.cell? ⟨w.heap.size, 1, none⟩ = some (.int .i64 hi) /\ w'.cell? ⟨w.heap.size, 2, none⟩ = some (.slice d0 data.length k0) /\ w'.cell? ⟨w.heap.size, 3, none⟩ = some (.slice t0 nt k1) /\ w'.cell? ⟨w.heap.size, 4, none⟩ = some (.slice c0 nc k2) /\ KP w w.heap.size (w.heap.size + 1) 44 [.int .i64 lo, .int .i64 hi, .slice d0 data.length k0, .slice t0 nt k1, .slice c0 nc k2] 5 w') => copy_tables (.slice t0 nt k1) nt tcs w' (ht.below hS.2.2.2.2.2.bel (Nat.le_refl _)) hl2)
 have HCC := Lib.hid (fun (w' : World) (hS : w'.cell? ⟨w.heap.size, 0, none⟩ = some (.int .i64 lo) /\ w'.cell? ⟨w.heap.size, 1, none⟩ = some (.int .i64 hi) /\ w'.cell? ⟨w.heap.size, 2, none⟩ = some (.slice d0 data.length k0) /\ w'.cell? ⟨w.heap.size, 3, none⟩ = some (.slice t0 nt k1) /\ w'.cell? ⟨w.heap.size, 4, none⟩ = some (.slice c0 nc k2) /\ KP w w.heap.size (w.heap.size + 1) 44 [.int .i64 lo, .int .i64 hi, .slice d0 data.length k0, .slice t0 nt k1, .slice c0 nc k2] 5 w') => copy_code (.slice c0 nc k2) nc ccs w' (hc.below hS.2.2.2.2.2.bel (Nat.le_refl _)) hl3)
 clear hd ht hc hl1 hl2 hl3
 go_enter Tryz.func19, Tryz.ntmps19
 go_upto_region 1 with fail
 have hKP : KP w w.heap.size (w.heap.size + 1) 44 [.int .i64 lo, .int .i64 hi, .slice d0 data.length k0, .slice t0 nt k1, .slice c0 nc k2] 5 ((w.alloc (.cells #[.int .i64 lo, .int .i64 hi, .slice d0 data.length k0, .slice t0 nt k1, .slice c0 nc k2] 44)).alloc (.cells #[.int .i64 0, .int .i64 0, .slice none 0 0, .slice none 0 0, .slice none 0 0] 44)) :=
  ⟨(below_map w _).trans ((below_map _ _).mono (by simp)), (Row.made w [.int .i64 lo, .int .i64 hi, .slice d0 data.length k0, .slice t0 nt k1, .slice c0 nc k2] _).alloc _, ⟨[.int .i64 0, .int .i64 0, .slice none 0 0, .slice none 0 0, .slice none 0 0], by
    have := Row.made (w.alloc (.cells #[.int .i64 lo, .int .i64 hi, .slice d0 data.length k0, .slice t0 nt k1, .slice c0 nc k2] 44)) [.int .i64 0, .int .i64 0, .slice none 0 0, .slice none 0 0, .slice none 0 0] 44
    rw [show (w.alloc (.cells #[.int .i64 lo, .int .i64 hi, .slice d0 data.length k0, .slice t0 nt k1, .slice c0 nc k2] 44)).heap.size = w.heap.size + 1 by simp] at this
    exact this, rfl⟩, by omega, Nat.le_refl _, by omega⟩
 try simp only [show (w.alloc (.cells #[.int .i64 lo, .int .i64 hi, .slice d0 data.length k0, .slice t0 nt k1, .slice c0 nc k2] 44)).heap.size = w.heap.size + 1 by simp]
 generalize World.alloc _ _ = wA at hKP ⊢
 have hk0 := hKP.next (Below.refl _ _).drew
 have hks := hk0.k5
 go_region_held3 (fun w' => w'.cell? ⟨w.heap.size, 0, none⟩ = some (.int .i64 lo) /\ w'.cell? ⟨w.heap.size, 1, none⟩ = some (.int .i64 hi) /\ w'.cell? ⟨w.heap.size, 2, none⟩ = some (.slice d0 data.length k0) /\ w'.cell? ⟨w.heap.size, 3, none⟩ = some (.slice t0 nt k1) /\ w'.cell? ⟨w.heap.size, 4, none⟩ = some (.slice c0 nc k2) /\ KP w w.heap.size (w.heap.size + 1) 44 [.int .i64 lo, .int .i64 hi, .slice d0 data.length k0, .slice t0 nt k1, .slice c0 nc k2] 5 w')
  (first
    | with_reducible assumption
    | exact KP.n5 (by with_reducible assumption) hbD
    | exact KP.n5 (by with_reducible assumption) hbT
    | exact KP.n5 (by with_reducible assumption) hbC
    | exact KP.s5 (by with_reducible assumption) _ _ _ _ _ _ rfl)
  (first
    | (go_at_call 11; refine (HCD.out _ (by with_reducible assumption)).mono ?_; rintro e wD ⟨vD, rfl, hoD, hbD⟩; obtain ⟨aD, kD, rfl⟩ := own_slice hoD)
    | (go_at_call 27; refine (HCT.out _ (by with_reducible assumption)).mono ?_; rintro e wT ⟨vT, rfl, hoT, hbT⟩; obtain ⟨aT, kT, rfl⟩ := own_slice hoT)
    | (go_at_call 51; refine (HCC.out _ (by with_reducible assumption)).mono ?_; rintro e wC ⟨vC, rfl, hoC, hbC⟩; obtain ⟨aC, kC, rfl⟩ := own_slice hoC; have hK3 := KP.n5 (by with_reducible assumption) hbC; obtain ⟨⟨z0, hz0⟩, hfz0, hlz0⟩ := hK3.2.2.2.2.2.at' 0 (by decide); obtain ⟨⟨z1, hz1⟩, hfz1, hlz1⟩ := hK3.2.2.2.2.2.at' 1 (by decide); obtain ⟨⟨z2, hz2⟩, hfz2, hlz2⟩ := hK3.2.2.2.2.2.at' 2 (by decide); obtain ⟨⟨z3, hz3⟩, hfz3, hlz3⟩ := hK3.2.2.2.2.2.at' 3 (by decide); obtain ⟨⟨z4, hz4⟩, hfz4, hlz4⟩ := hK3.2.2.2.2.2.at' 4 (by decide)))
 rename_i hheld
 go_wp2_with fail
 have hz : w.heap.size + 1 < wA.drew.heap.size := by obtain ⟨cs, hr, _⟩ := hk0.res; exact hr.lt
 have s1 := hbD.size
 have s2 := hbT.size
 have hR := hK3.2.2.2.2.2.row5 (.int .i64 lo) (.int .i64 hi) (.slice aD data.length kD) (.slice aT nt kT) (.slice aC nc kC)
 have hB := hheld.2.2.2.2.2.bel
 have oD := own_stays (own_stays hoD hbT (Nat.le_refl _)) hbC (Nat.le_refl _)
 have oT := own_stays hoT hbC (Nat.le_refl _)
 have oC := hoC
 refine bodyPost_ret (v := .agg #[.int .i64 lo, .int .i64 hi, .slice aD data.length kD, .slice aT nt kT, .slice aC nc kC]) (results_cell_row (p := 2) Tryz.results19 _ _ (w.heap.size + 1) _ _ (0, 0) _ rfl hR Tryz.underlying44 rfl infob_copy_program) rfl ⟨_, _, _, _, _, _, rfl, hB, ?_, ?_, ?_⟩
 ·exact own_low (own_put' (own_put' (own_put' (own_put' (own_put' oD (by omega) _ _) (by omega) _ _) (by omega) _ _) (by omega) _ _) (by omega) _ _) (by omega)
 ·exact own_low (own_put' (own_put' (own_put' (own_put' (own_put' oT (by omega) _ _) (by omega) _ _) (by omega) _ _) (by omega) _ _) (by omega) _ _) (by omega)
 ·exact own_low (own_put' (own_put' (own_put' (own_put' (own_put' oC (by omega) _ _) (by omega) _ _) (by omega) _ _) (by omega) _ _) (by omega) _ _) (by omega)
theorem built_copy_input (a1 a2 : Option Addr) (n1 c1 n2 c2 : Nat) : Tryz.prog.built 46 [(0, .slice a1 n1 c1), (1, .slice a2 n2 c2)] = some #[.slice a1 n1 c1, .slice a2 n2 c2] := by kernel_rfl
theorem runb_copy_input (a1 a2 : Option Addr) (n1 c1 n2 c2 : Nat) (w : World) : (Instr.build 46 #[(0, .slice a1 n1 c1), (1, .slice a2 n2 c2)]).run Tryz.prog w = .ok (.agg #[.slice a1 n1 c1, .slice a2 n2 c2]) w := run_build w _ _ _ (built_copy_input a1 a2 n1 c1 n2 c2)
theorem infob_copy_input : (Tryz.prog.info? 46).map (·.size) = some 2 := by kernel_rfl
theorem copy_input (ctx : List Int) (vals : List Value) (rows : List (List Int)) (d0 t0 : Option Addr) (k0 k1 : Nat) (w : World) (hd : Held w (.slice d0 ctx.length k0) ctx) (ht : Rowed w (.slice t0 rows.length k1) vals rows) (hl1 : ctx.length <= 140737488355328) (hl2 : rows.length <= 5864062014805) (hl3 : ∀ i (h : i < rows.length), rows[i].length <= 140737488355328) :
 Calls Tryz.prog 20 #[.agg #[.slice d0 ctx.length k0, .slice t0 rows.length k1]] w fun e w' => ∃ da dc ta tc vals', e = .returned (.agg #[.slice da ctx.length dc, .slice ta rows.length tc]) /\ Below w.heap.size w w' /\ w'.ownsRow w.heap.size 5 1 (.slice da ctx.length dc) ctx.length (u8s ctx) /\ ∃ ρ, TabS w' w.heap.size ρ (.slice ta rows.length tc) vals' rows := by
 have hbb := runb_copy_input
 have HCD := Lib.hid (fun (w' : World) (hS : w'.cell? ⟨w.heap.size, 0, none⟩ = some (.slice d0 ctx.length k0) /\ w'.cell? ⟨w.heap.size, 1, none⟩ = some (.slice t0 rows.length k1) /\ KP w w.heap.size (w.heap.size + 1) 46 [.slice d0 ctx.length k0, .slice t0 rows.length k1] 2 w') => copy_of (.slice d0 ctx.length k0) ctx w' (hd.below hS.2.2.bel (Nat.le_refl _)) hl1)
 have HCT := Lib.hid (fun (w' : World) (hS : w'.cell? ⟨w.heap.size, 0, none⟩ = some (.slice d0 ctx.length k0) /\ w'.cell? ⟨w.heap.size, 1, none⟩ = some (.slice t0 rows.length k1) /\ KP w w.heap.size (w.heap.size + 1) 46 [.slice d0 ctx.length k0, .slice t0 rows.length k1] 2 w') => copy_rows (.slice t0 rows.length k1) vals rows hl2 hl3 w' (ht.below hS.2.2.bel (Nat.le_refl _)) (fun _ => 0) 10)
 clear hd ht hl1 hl2 hl3
 go_enter Tryz.func20, Tryz.ntmps20
 go_upto_region 1 with fail
 have hKP : KP w w.heap.size (w.heap.size + 1) 46 [.slice d0 ctx.length k0, .slice t0 rows.length k1] 2 ((w.alloc (.cells #[.slice d0 ctx.length k0, .slice t0 rows.length k1] 46)).alloc (.cells #[.slice none 0 0, .slice none 0 0] 46)) :=
  ⟨(below_map w _).trans ((below_map _ _).mono (by simp)), (Row.made w [.slice d0 ctx.length k0, .slice t0 rows.length k1] _).alloc _, ⟨[.slice none 0 0, .slice none 0 0], by
    have := Row.made (w.alloc (.cells #[.slice d0 ctx.length k0, .slice t0 rows.length k1] 46)) [.slice none 0 0, .slice none 0 0] 46
    rw [show (w.alloc (.cells #[.slice d0 ctx.length k0, .slice t0 rows.length k1] 46)).heap.size = w.heap.size + 1 by simp] at this
    exact this, rfl⟩, by omega, Nat.le_refl _, by omega⟩
 try simp only [show (w.alloc (.cells #[.slice d0 ctx.length k0, .slice t0 rows.length k1] 46)).heap.size = w.heap.size + 1 by simp]
 generalize World.alloc _ _ = wA at hKP ⊢
 have hk0 := hKP.next (Below.refl _ _).drew
 have hks := hk0.k2
 go_region_held3 (fun w' => w'.cell? ⟨w.heap.size, 0, none⟩ = some (.slice d0 ctx.length k0) /\ w'.cell? ⟨w.heap.size, 1, none⟩ = some (.slice t0 rows.length k1) /\ KP w w.heap.size (w.heap.size + 1) 46 [.slice d0 ctx.length k0, .slice t0 rows.length k1] 2 w')
  (first
    | with_reducible assumption
    | exact KP.n2 (by with_reducible assumption) hbD
    | exact KP.n2 (by with_reducible assumption) hT.bel
    | exact KP.s2 (by with_reducible assumption) _ _ _ rfl)
  (first
    | (go_at_call 11; refine (HCD.out _ (by with_reducible assumption)).mono ?_; rintro e wD ⟨vD, rfl, hoD, hbD⟩; obtain ⟨aD, kD, rfl⟩ := own_slice hoD)
    | (go_at_call 29; refine (HCT.out _ (by with_reducible assumption)).mono ?_; rintro e wT ⟨vT, valsT, ρT, rfl, hT⟩; obtain ⟨aT, kT, rfl⟩ := own_slice hT.list.1; have hK3 := KP.n2 (by with_reducible assumption) hT.bel; obtain ⟨⟨z0, hz0⟩, hfz0, hlz0⟩ := hK3.2.2.at' 0 (by decide); obtain ⟨⟨z1, hz1⟩, hfz1, hlz1⟩ := hK3.2.2.at' 1 (by decide)))
 rename_i hheld
 go_wp2_with fail
 have hz : w.heap.size + 1 < wA.drew.heap.size := by obtain ⟨cs, hr, _⟩ := hk0.res; exact hr.lt
 have s1 := hbD.size
 have hR := hK3.2.2.row2 (.slice aD ctx.length kD) (.slice aT rows.length kT)
 have hB := hheld.2.2.bel
 have oD := own_stays hoD hT.bel (Nat.le_refl _)
 have hTT : TabS wT w.heap.size ρT (.slice aT rows.length kT) valsT rows := ⟨hT.list.low (by omega), fun k hk => let ⟨u, hu, ho⟩ := hT.item k hk hk; ⟨u, hu, ho.low (by omega)⟩⟩
 refine bodyPost_ret (v := .agg #[.slice aD ctx.length kD, .slice aT rows.length kT]) (results_cell_row (p := 2) Tryz.results20 _ _ (w.heap.size + 1) _ _ (0, 0) _ rfl hR Tryz.underlying46 rfl infob_copy_input) rfl ⟨_, _, _, _, valsT, rfl, hB, ?_, ρT, ?_⟩
 ·exact own_low (own_put' (own_put' oD (by omega) _ _) (by omega) _ _) (by omega)
 ·exact ⟨⟨own_low (own_put' (own_put' hT.list.1 (by omega) _ _) (by omega) _ _) (by omega), hTT.list.2⟩, fun k hk => let ⟨u, hu, ho⟩ := hT.item k hk hk; ⟨u, hu, ⟨own_low (own_put' (own_put' ho.1 (by omega) _ _) (by omega) _ _) (by omega), ho.2⟩⟩⟩
end Go.Proofs.YtdepknffpnnmmaaGreat
