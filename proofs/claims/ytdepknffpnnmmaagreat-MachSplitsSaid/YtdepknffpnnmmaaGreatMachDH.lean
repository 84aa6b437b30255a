import Derived.Test.YtdepknffpnnmmaaGreatMachDE
set_option maxRecDepth 100000
set_option maxHeartbeats 4000000
namespace Go.Proofs.YtdepknffpnnmmaaGreat
open Go.RowKit
set_option linter.unusedVariables false
set_option linter.unusedSimpArgs false
theorem coded_a3 (w : World) : Coded (w.alloc (.cells #[.int .i64 22, .bool false, .bool false, .int .i64 1, .int .i64 0, .int .i64 1, .int .i64 1, .int .i64 0, .int .i64 1, .bool false, .bool true, .int .i64 0, .int .i64 0, .int .i64 2, .int .i64 0, .int .i64 0, .int .i64 39, .bool false, .bool false, .int .i64 0, .int .i64 0, .int .i64 0, .int .i64 0, .int .i64 0] 25)) (.slice (some ⟨w.heap.size, 0, none⟩) 3 3) awkC := coded_row (l := awkC) (Row.made w (codec awkC) _) (by decide) (by decide)
theorem held_a3 (w : World) : Held (w.alloc (.cells #[.int .u8 3, .int .u8 250, .int .u8 7] 5)) (.slice (some ⟨w.heap.size, 0, none⟩) 3 3) [3, 250, 7] := held_row (xs := [3, 250, 7]) (Row.made w [.int .u8 3, .int .u8 250, .int .u8 7] _) (fun x hx => by simp at hx; omega) (Nat.le_refl _) (by decide) (fun i hi => by
 have hc : i = 0 \/ i = 1 \/ i = 2 := by have : i < 3 := hi; omega
 rcases hc with rfl | rfl | rfl <;> rfl)
theorem num_law (g : Int) (w : World) : Calls Tryz.prog 42 #[.int .i64 g] w fun e w' => e = .returned (.int .i64 g) /\ w = w' := by
 go_enter Tryz.func42, Tryz.ntmps42
 go_wp2
 go_ret
 exact ⟨rfl, rfl⟩
structure KAw (w : World) (pb cb : Nat) (w' : World) : Prop where
 bel : Below w.heap.size w w'
 box : Row w' pb 44 [.int .i64 0, .int .i64 9, .slice none 0 0, .slice none 0 0, .slice (some ⟨cb, 0, none⟩) 3 3]
 code : Coded w' (.slice (some ⟨cb, 0, none⟩) 3 3) awkC
theorem KAw.next {w w1 w2 : World} {pb cb : Nat} (h : KAw w pb cb w1) (hb : Below w1.heap.size w1 w2) : KAw w pb cb w2 := ⟨h.bel.trans (hb.mono h.bel.size), h.box.below hb h.box.lt, h.code.below hb (Nat.le_refl _)⟩
theorem awake_of (w : World) : Calls Tryz.prog 17 #[] w fun e w' => e = .returned (.bool true) /\ Below w.heap.size w w' := by
 have hb1 := run_insL
 have hb2 := run_insA
 have hb3 := run_insE
 have hbp := run_prgA
 have hbi := run_inpA
 have hR := run_G awk_code 9 (stG [3, 250, 7] []) awk_sane (by show (0 : Int) + 9 < _; decide)
 rw [awk_run] at hR
 have HR := Lib.hid (show Runs awkX (stG [3, 250, 7] []) 9 0 awkS from hR)
 clear hR
 go_enter Tryz.func17, Tryz.ntmps17
 go_upto_region 2 with fail
 have hKA : KAw w (w.heap.size + 1) w.heap.size ((w.alloc (.cells #[.int .i64 22, .bool false, .bool false, .int .i64 1, .int .i64 0, .int .i64 1, .int .i64 1, .int .i64 0, .int .i64 1, .bool false, .bool true, .int .i64 0, .int .i64 0, .int .i64 2, .int .i64 0, .int .i64 0, .int .i64 39, .bool false, .bool false, .int .i64 0, .int .i64 0, .int .i64 0, .int .i64 0, .int .i64 0] 25)).alloc (.cells #[.int .i64 0, .int .i64 9, .slice none 0 0, .slice none 0 0, .slice (some ⟨w.heap.size, 0, none⟩) 3 3] 44)) := by
  have hs : ∀ o, (w.alloc o).heap.size = w.heap.size + 1 := fun o => by simp
  have h := Row.made (w.alloc (.cells #[.int .i64 22, .bool false, .bool false, .int .i64 1, .int .i64 0, .int .i64 1, .int .i64 1, .int .i64 0, .int .i64 1, .bool false, .bool true, .int .i64 0, .int .i64 0, .int .i64 2, .int .i64 0, .int .i64 0, .int .i64 39, .bool false, .bool false, .int .i64 0, .int .i64 0, .int .i64 0, .int .i64 0, .int .i64 0] 25)) [.int .i64 0, .int .i64 9, .slice none 0 0, .slice none 0 0, .slice (some ⟨w.heap.size, 0, none⟩) 3 3] 44
  rw [hs] at h
  exact ⟨(below_map w _).trans ((below_map _ _).mono (by rw [hs]; omega)), h, (coded_a3 w).below (below_map _ _) (Nat.le_refl _)⟩
 generalize World.alloc _ _ = wA at hKA ⊢
 have HKA := Lib.hid hKA
 have c0 : wA.cell? ⟨w.heap.size + 1, 0, none⟩ = some (.int .i64 0) := by rw [hKA.box.cell]; rfl
 have c1 : wA.cell? ⟨w.heap.size + 1, 1, none⟩ = some (.int .i64 9) := by rw [hKA.box.cell]; rfl
 have c2 : wA.cell? ⟨w.heap.size + 1, 2, none⟩ = some (.slice none 0 0) := by rw [hKA.box.cell]; rfl
 have c3 : wA.cell? ⟨w.heap.size + 1, 3, none⟩ = some (.slice none 0 0) := by rw [hKA.box.cell]; rfl
 have c4 : wA.cell? ⟨w.heap.size + 1, 4, none⟩ = some (.slice (some ⟨w.heap.size, 0, none⟩) 3 3) := by rw [hKA.box.cell]; rfl
 have hft : fitsP 0 9 [] ([3, 250, 7] : List Int).length [] := ⟨⟨by decide, by decide, rfl⟩, fun i h => absurd h (by simp)⟩
 have HFT := Lib.hid hft
 have h2 : ∀ w' : World, Tabs w' (.slice none ([] : List (Int × Int)).length 0) [] := fun w' => ⟨rfl, fun u hu => (by cases hu), Or.inl ⟨rfl, _, _, rfl, by decide⟩⟩
 have h3 : ∀ w' : World, Rowed w' (.slice none ([] : List (List Int)).length 0) [] [] := fun w' => ⟨⟨rfl, fun u hu => (by cases hu), Or.inl ⟨rfl, _, _, rfl, by decide⟩⟩, fun i h => absurd h (by simp)⟩
 have H23 := Lib.hid (And.intro h2 h3)
 clear hKA hft h2 h3
 go_upto_region 3 with (go_at_call 18; go_loud (refine (new_G 0 9 [] [] awkC none none (some ⟨w.heap.size, 0, none⟩) (some ⟨wA.heap.size, 0, none⟩) none 0 0 3 3 0 [3, 250, 7] [] [] awk_made HFT.out _ (held_nil _) (H23.out.1 _) (HKA.out.code.below (below_map _ _) (Nat.le_refl _)) (held_a3 _) (H23.out.2 _)).mono ?_; rintro e wN ⟨bx, v, rfl, hM⟩))
 clear c0 c1 c2 c3 c4 hb1 hb2 hb3 hbp hbi
 obtain ⟨B0, W0, hM, hB0, hW0⟩ : ∃ B0 W0, MS B0 W0 awkX (stG [3, 250, 7] []) bx v wN /\ w.heap.size <= B0 /\ Below w.heap.size w W0 := ⟨_, _, hM, by have := HKA.out.bel.size; have := (below_map wA (.cells #[.int .u8 3, .int .u8 250, .int .u8 7] 5)).size; omega, HKA.out.bel.trans ((below_map wA _).mono HKA.out.bel.size)⟩
 have HM := Lib.hid hM
 have HW0 := Lib.hid (And.intro hB0 hW0)
 clear hB0 hW0
 have hltb := hM.box.lt
 clear hM
 go_upto_region 5 with (go_at_call 42; go_loud (refine (num_law _ _).mono ?_; rintro e w' ⟨rfl, rfl⟩))
 have hcl : awkS.ctx.length <= 65535 := by rw [awk_end.2.2.2.1]; decide
 have hsl : awkS.sent.length <= 100000 := by rw [awk_end.2.2.2.2.1]; decide
 have HLN := Lib.hid (And.intro hcl hsl)
 clear hcl hsl
 go_upto_region 6 with (go_at_call 21; go_loud (refine (run_of awkX (stG [3, 250, 7] []) 9 (by decide) 0 awkS HR.out awk_end.2.2.2.2.2 HLN.out.1 HLN.out.2 _ _ _ _ _ HM.out).mono ?_; rintro e wR ⟨r0, xv', tv', sv', rfl, hO, v', hM', hf, hro⟩; obtain ⟨a1, n1, c1, rfl⟩ := hO.shx; obtain ⟨a2, n2, c2, rfl⟩ := hO.sht; obtain ⟨a3, n3, c3, rfl⟩ := hO.shs))
 have h44 : (regc awkS.rg).length = 44 := hM'.rl
 have h416 : awkS.st.length = 416 := hM'.stl
 obtain ⟨u0, hu0, hx0⟩ : ∃ u, awkS.rg[0]? = some u /\ u.x = 253 := by
  have := awk_r0
  cases h : awkS.rg[0]? with
  | none => rw [h] at this; cases this
  | some u => rw [h] at this; exact ⟨u, rfl, by simpa using this⟩
 obtain rfl : r0 = 253 := (hO.r0 rfl u0 hu0).trans hx0
 have HSA := Lib.hid (state_of awkX awkS HLN.out.1 HLN.out.2 (by rw [awk_end.2.2.2.2.2]; decide) (fun k hk => absurd hk (by rw [awk_end.2.2.2.2.2]; simp)) B0 W0 bx v')
 have hMB := hM'.next (below_map wR (.cells #[.int .i64 253, .slice a1 n1 c1, .slice a2 n2 c2, .slice a3 n3 c3] 30))
 have hrow := Row.made wR [.int .i64 253, .slice a1 n1 c1, .slice a2 n2 c2, .slice a3 n3 c3] 30
 have HROW := Lib.hid hrow
 have HFIN := Lib.hid (show Below w.heap.size w (wR.alloc (.cells #[.int .i64 253, .slice a1 n1 c1, .slice a2 n2 c2, .slice a3 n3 c3] 30)) from (HW0.out.2.trans (hM'.bel.mono HW0.out.1)).trans ((below_map wR _).mono (by have := hM'.le; have := hM'.box.lt; have := HW0.out.1; omega)))
 have HMB := Lib.hid hMB
 have hAT : ((awkS.at' : Nat) : Int) = 2 := by rw [awk_end.1]; rfl
 have hST : awkS.steps = 3 := awk_end.2.1
 have hDN : awkS.done = true := awk_end.2.2.1
 have HAT := Lib.hid (And.intro hAT (And.intro hST hDN))
 clear hMB hrow hO hM' hf hro hu0 hx0 hltb hAT hST hDN
 go_wp2_with (first
  | (go_at_call 42; refine (num_law _ _).mono ?_; rintro e w' ⟨rfl, rfl⟩)
  | (go_at_call 22; go_loud (refine (HSA.out _ HMB.out).mono ?_; rintro e wS ⟨xv, tv, sv, rfl, hA⟩; obtain ⟨b1, m1, d1, rfl⟩ := hA.shx; obtain ⟨b2, m2, d2, rfl⟩ := hA.sht; obtain ⟨b3, m3, d3, rfl⟩ := hA.shs; have hsc := store_state' h44 h416 b1 b2 b3 m1 d1 m2 d2 m3 d3 wS; obtain ⟨f1, f2, f3⟩ := state_box' h44 h416 (.slice b1 m1 d1) (.slice b2 m2 d2) (.slice b3 m3 d3) wS 2 3 true HAT.out.1 HAT.out.2.1 HAT.out.2.2; have hbx := (HROW.out.below hA.bel HROW.out.lt).alloc (.cells (statec awkS (.slice b1 m1 d1) (.slice b2 m2 d2) (.slice b3 m3 d3)).toArray 62); obtain ⟨⟨_, _, _, _⟩, _⟩ := hbx.four)))
 exact bodyPost_ret (v := .bool true) (by simp [results, Tryz.results17, go_sem]) rfl ⟨rfl, (HFIN.out.trans (hA.bel.mono HFIN.out.size)).alloc (by have := (HFIN.out.trans (hA.bel.mono HFIN.out.size)).size; exact this) _⟩
end Go.Proofs.YtdepknffpnnmmaaGreat
