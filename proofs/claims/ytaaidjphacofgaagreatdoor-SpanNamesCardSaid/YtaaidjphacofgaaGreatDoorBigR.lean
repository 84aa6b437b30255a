/-
  Spans: Alu of one pair in 32 bits.
-/
import Derived.Test.YtaaidjphacofgaaGreatDoorBigQ
namespace Go.Proofs.YtaaidjphacofgaaGreatDoor
open Go.RowKit
set_option linter.unusedVariables false
set_option linter.unusedSimpArgs false

set_option maxRecDepth 100000 in
set_option maxHeartbeats 16000000 in
theorem alu_n2 (w : World) : Calls Tryz.prog 10 #[.int .i64 2, .bool true, .agg #[.int .i64 0, .int .i64 2, .bool false, .bool false], .agg #[.int .i64 1, .int .i64 1, .bool false, .bool false]] w (Ret w (.agg #[.int .i64 0, .int .i64 4294967295, .bool false, .bool false])) := by
  have hra : ∀ w, Calls Tryz.prog 14 #[.agg #[.int .i64 0, .int .i64 2, .bool false, .bool false]] w (Ret w (.agg #[.int .i64 0, .int .i64 2])) := fun w => read_of 0 2 false false w
  have hrb : ∀ w, Calls Tryz.prog 14 #[.agg #[.int .i64 1, .int .i64 1, .bool false, .bool false]] w (Ret w (.agg #[.int .i64 1, .int .i64 1])) := fun w => read_of 1 1 false false w
  have hsi : ∀ w, Calls Tryz.prog 17 #[.agg #[.int .i64 0, .int .i64 2]] w (Ret w (.bool false)) := fun w => single_of 0 2 w
  have HSI := Lib.hid hsi
  have hsm : ∀ w, Calls Tryz.prog 19 #[.agg #[.int .i64 0, .int .i64 2, .int .i64 1, .int .i64 1, .int .i64 0, .int .i64 0], .int .i64 2] w (Ret w (.agg #[.int .i64 0, .int .i64 4294967295, .bool false, .bool false])) := fun w => small_n2 w
  have HSM := Lib.hid hsm
  clear hsi hsm
  have HRA := Lib.hid hra
  have HRB := Lib.hid hrb
  have r1 : Row (((w.alloc (.cells #[.int .i64 0, .int .i64 2, .bool false, .bool false] 23)).alloc (.cells #[.int .i64 1, .int .i64 1, .bool false, .bool false] 23)).alloc (.cells #[.int .i64 0, .int .i64 0, .bool false, .bool false] 23)) w.heap.size 23 [.int .i64 0, .int .i64 2, .bool false, .bool false] := ((Row.made w [.int .i64 0, .int .i64 2, .bool false, .bool false] 23).alloc _).alloc _
  have r2 : Row (((w.alloc (.cells #[.int .i64 0, .int .i64 2, .bool false, .bool false] 23)).alloc (.cells #[.int .i64 1, .int .i64 1, .bool false, .bool false] 23)).alloc (.cells #[.int .i64 0, .int .i64 0, .bool false, .bool false] 23)) (w.heap.size + 1) 23 [.int .i64 1, .int .i64 1, .bool false, .bool false] := (row2 w _ [.int .i64 1, .int .i64 1, .bool false, .bool false] _).alloc _
  have r3 : Row (((w.alloc (.cells #[.int .i64 0, .int .i64 2, .bool false, .bool false] 23)).alloc (.cells #[.int .i64 1, .int .i64 1, .bool false, .bool false] 23)).alloc (.cells #[.int .i64 0, .int .i64 0, .bool false, .bool false] 23)) (w.heap.size + 1 + 1) 23 (spc 0 0 false false) := by
    have h := row2 (w.alloc (.cells #[.int .i64 0, .int .i64 2, .bool false, .bool false] 23)) (.cells #[.int .i64 1, .int .i64 1, .bool false, .bool false] 23) (spc 0 0 false false) 23
    rw [size_al] at h
    exact h
  have b3 : Below w.heap.size w (((w.alloc (.cells #[.int .i64 0, .int .i64 2, .bool false, .bool false] 23)).alloc (.cells #[.int .i64 1, .int .i64 1, .bool false, .bool false] 23)).alloc (.cells #[.int .i64 0, .int .i64 0, .bool false, .bool false] 23)) := ((below_map w _).alloc (by simp) _).alloc (by simp; omega) _
  have s3 : (((w.alloc (.cells #[.int .i64 0, .int .i64 2, .bool false, .bool false] 23)).alloc (.cells #[.int .i64 1, .int .i64 1, .bool false, .bool false] 23)).alloc (.cells #[.int .i64 0, .int .i64 0, .bool false, .bool false] 23)).heap.size = w.heap.size + 3 := by simp
  have HR := Lib.hid (And.intro r1 (And.intro r2 (And.intro r3 (And.intro b3 s3))))
  clear hra hrb r1 r2 r3 b3 s3
  go_enter Tryz.func10, Tryz.ntmps10
  go_upto_region 1 with fail
  generalize World.alloc _ _ = wa at HR ⊢
  have hB : Below wa.heap.size wa wa.drew := (Below.refl _ _).drew
  go_cut [9] from 14 to 18 (fun s9 wx => ∃ j, s9 = .pointer (some ⟨j, 0, none⟩) ∧ Row wx j 38 [.int .i64 0, .int .i64 2, .int .i64 1, .int .i64 1, .int .i64 0, .int .i64 0] ∧ Below wa.heap.size wa wx ∧ wa.heap.size ≤ j)
  case first =>
    refine wp_region_held_drew (S := fun w' => w'.cell? ⟨w.heap.size, 0, none⟩ = some (.int .i64 0) ∧ w'.cell? ⟨w.heap.size, 1, none⟩ = some (.int .i64 2) ∧ w'.cell? ⟨w.heap.size, 2, none⟩ = some (.bool false) ∧ w'.cell? ⟨w.heap.size, 3, none⟩ = some (.bool false) ∧ w'.cell? ⟨(w.heap.size + 1), 0, none⟩ = some (.int .i64 1) ∧ w'.cell? ⟨(w.heap.size + 1), 1, none⟩ = some (.int .i64 1) ∧ w'.cell? ⟨(w.heap.size + 1), 2, none⟩ = some (.bool false) ∧ w'.cell? ⟨(w.heap.size + 1), 3, none⟩ = some (.bool false)) (by kernel_rfl) ?_ (fun hHeld => ?_)
    · (try dsimp only); exact ⟨((HR.out.1.below hB HR.out.1.lt).cell 0).trans rfl, ((HR.out.1.below hB HR.out.1.lt).cell 1).trans rfl, ((HR.out.1.below hB HR.out.1.lt).cell 2).trans rfl, ((HR.out.1.below hB HR.out.1.lt).cell 3).trans rfl, ((HR.out.2.1.below hB HR.out.2.1.lt).cell 0).trans rfl, ((HR.out.2.1.below hB HR.out.2.1.lt).cell 1).trans rfl, ((HR.out.2.1.below hB HR.out.2.1.lt).cell 2).trans rfl, ((HR.out.2.1.below hB HR.out.2.1.lt).cell 3).trans rfl⟩
    refine tkw 0 14 ?_
    refine tkw 2 16 ?_
    refine wpAnyH_ready (rs := [1, 5]) (by kernel_rfl) (by simp) ?_
    refine AllReadyH.cons (o := ⟨some 15, _, _, _, _, _⟩) rfl (fun K hK => ?_) ?_
    · go_simp
      go_at_call 14
      refine (HRA.out _).mono ?_
      rintro e w1 ⟨rfl, kb⟩
      replace hB := hB.trans (kb.mono hB.size)
      clear kb
      refine hK.out _ _ ?_ (fun hHeld => ?_)
      · (try dsimp only); exact ⟨((HR.out.1.below hB HR.out.1.lt).cell 0).trans rfl, ((HR.out.1.below hB HR.out.1.lt).cell 1).trans rfl, ((HR.out.1.below hB HR.out.1.lt).cell 2).trans rfl, ((HR.out.1.below hB HR.out.1.lt).cell 3).trans rfl, ((HR.out.2.1.below hB HR.out.2.1.lt).cell 0).trans rfl, ((HR.out.2.1.below hB HR.out.2.1.lt).cell 1).trans rfl, ((HR.out.2.1.below hB HR.out.2.1.lt).cell 2).trans rfl, ((HR.out.2.1.below hB HR.out.2.1.lt).cell 3).trans rfl⟩
      clear hK K
      try simp only [Act.put, List.setIfInBounds_toArray, List.set_cons_zero, List.set_cons_succ]
      refine wpAnyH_ready (rs := [3, 5]) (by kernel_rfl) (by simp) ?_
      refine AllReadyH.cons (o := ⟨some 17, _, _, _, _, _⟩) rfl (fun K hK => ?_) ?_
      · go_simp
        go_at_call 14
        refine (HRB.out _).mono ?_
        rintro e w2 ⟨rfl, kb⟩
        replace hB := hB.trans (kb.mono hB.size)
        clear kb
        refine hK.out _ _ ?_ (fun hHeld => ?_)
        · (try dsimp only); exact ⟨((HR.out.1.below hB HR.out.1.lt).cell 0).trans rfl, ((HR.out.1.below hB HR.out.1.lt).cell 1).trans rfl, ((HR.out.1.below hB HR.out.1.lt).cell 2).trans rfl, ((HR.out.1.below hB HR.out.1.lt).cell 3).trans rfl, ((HR.out.2.1.below hB HR.out.2.1.lt).cell 0).trans rfl, ((HR.out.2.1.below hB HR.out.2.1.lt).cell 1).trans rfl, ((HR.out.2.1.below hB HR.out.2.1.lt).cell 2).trans rfl, ((HR.out.2.1.below hB HR.out.2.1.lt).cell 3).trans rfl⟩
        clear hK K
        try simp only [Act.put, List.setIfInBounds_toArray, List.set_cons_zero, List.set_cons_succ]
        refine tkw 4 18 ?_
        refine wpAnyH_ready (rs := [5]) (by kernel_rfl) (by simp) ?_
        refine AllReadyH.cons (o := ⟨some 9, _, _, _, _, _⟩) rfl (fun K hK => ?_) AllReadyH.nil
        go_simp
        have hZ : Row (World.alloc w2 (.cells #[.int .i64 0, .int .i64 0, .int .i64 0, .int .i64 0, .int .i64 0, .int .i64 0] 38)) w2.heap.size _ _ := Row.made w2 [.int .i64 0, .int .i64 0, .int .i64 0, .int .i64 0, .int .i64 0, .int .i64 0] 38
        have hjB : wa.heap.size ≤ w2.heap.size := hB.size
        have kb := below_map w2 (.cells #[.int .i64 0, .int .i64 0, .int .i64 0, .int .i64 0, .int .i64 0, .int .i64 0] 38)
        replace hB := hB.trans (kb.mono hB.size)
        clear kb
        refine hK.out _ _ ?_ (fun hHeld => ?_)
        · (try dsimp only); exact ⟨((HR.out.1.below hB HR.out.1.lt).cell 0).trans rfl, ((HR.out.1.below hB HR.out.1.lt).cell 1).trans rfl, ((HR.out.1.below hB HR.out.1.lt).cell 2).trans rfl, ((HR.out.1.below hB HR.out.1.lt).cell 3).trans rfl, ((HR.out.2.1.below hB HR.out.2.1.lt).cell 0).trans rfl, ((HR.out.2.1.below hB HR.out.2.1.lt).cell 1).trans rfl, ((HR.out.2.1.below hB HR.out.2.1.lt).cell 2).trans rfl, ((HR.out.2.1.below hB HR.out.2.1.lt).cell 3).trans rfl⟩
        clear hK K
        try simp only [Act.put, List.setIfInBounds_toArray, List.set_cons_zero, List.set_cons_succ]
        generalize World.alloc w2 _ = wk at hZ hB hHeld ⊢
        have hl0 := Row.lt hZ
        have z0 := (hZ.cell 0).trans rfl
        have y0 := hZ.free 0
        have z1 := (hZ.cell 1).trans rfl
        have y1 := hZ.free 1
        have z2 := (hZ.cell 2).trans rfl
        have y2 := hZ.free 2
        have z3 := (hZ.cell 3).trans rfl
        have y3 := hZ.free 3
        have z4 := (hZ.cell 4).trans rfl
        have y4 := hZ.free 4
        have z5 := (hZ.cell 5).trans rfl
        have y5 := hZ.free 5
        refine wpAnyH_ready (rs := [6]) (by kernel_rfl) (by simp) ?_
        refine AllReadyH.cons (o := ⟨none, _, _, _, _, _⟩) rfl (fun K hK => ?_) AllReadyH.nil
        go_simp
        have hp := (Row.put (Row.put (Row.put (Row.put (Row.put (Row.put hZ 0 (.int .i64 0)) 1 (.int .i64 2)) 2 (.int .i64 1)) 3 (.int .i64 1)) 4 (.int .i64 0)) 5 (.int .i64 0))
        have hb6 := ((((((hB.setCell (p := ⟨_, 0, none⟩) hjB (.int .i64 0)).setCell (p := ⟨_, 1, none⟩) hjB (.int .i64 2)).setCell (p := ⟨_, 2, none⟩) hjB (.int .i64 1)).setCell (p := ⟨_, 3, none⟩) hjB (.int .i64 1)).setCell (p := ⟨_, 4, none⟩) hjB (.int .i64 0)).setCell (p := ⟨_, 5, none⟩) hjB (.int .i64 0))
        have HF := Lib.hid (And.intro hp (And.intro hb6 hjB))
        clear z0 z1 z2 z3 z4 z5 y0 y1 y2 y3 y4 y5 hp hl0 hZ
        have hB := HF.out.2.1
        refine hK.out _ _ ?_ (fun hHeld2 => ?_)
        · (try dsimp only); exact ⟨((HR.out.1.below hB HR.out.1.lt).cell 0).trans rfl, ((HR.out.1.below hB HR.out.1.lt).cell 1).trans rfl, ((HR.out.1.below hB HR.out.1.lt).cell 2).trans rfl, ((HR.out.1.below hB HR.out.1.lt).cell 3).trans rfl, ((HR.out.2.1.below hB HR.out.2.1.lt).cell 0).trans rfl, ((HR.out.2.1.below hB HR.out.2.1.lt).cell 1).trans rfl, ((HR.out.2.1.below hB HR.out.2.1.lt).cell 2).trans rfl, ((HR.out.2.1.below hB HR.out.2.1.lt).cell 3).trans rfl⟩
        clear hK K hHeld hHeld2 hb6 hB hjB
        try simp only [Act.put, List.setIfInBounds_toArray, List.set_cons_zero, List.set_cons_succ]
        refine wpAnyH_done (by kernel_rfl) ?_ _
        go_wp2_with fail
        go_meet
        case rel => exact ⟨_, rfl, HF.out.1, HF.out.2.1, HF.out.2.2⟩
      refine AllReadyH.cons (o := ⟨some 9, _, _, _, _, _⟩) rfl (fun K hK => ?_) AllReadyH.nil
      go_simp
      have hZ : Row (World.alloc w1 (.cells #[.int .i64 0, .int .i64 0, .int .i64 0, .int .i64 0, .int .i64 0, .int .i64 0] 38)) w1.heap.size _ _ := Row.made w1 [.int .i64 0, .int .i64 0, .int .i64 0, .int .i64 0, .int .i64 0, .int .i64 0] 38
      have hjB : wa.heap.size ≤ w1.heap.size := hB.size
      have kb := below_map w1 (.cells #[.int .i64 0, .int .i64 0, .int .i64 0, .int .i64 0, .int .i64 0, .int .i64 0] 38)
      replace hB := hB.trans (kb.mono hB.size)
      clear kb
      refine hK.out _ _ ?_ (fun hHeld => ?_)
      · (try dsimp only); exact ⟨((HR.out.1.below hB HR.out.1.lt).cell 0).trans rfl, ((HR.out.1.below hB HR.out.1.lt).cell 1).trans rfl, ((HR.out.1.below hB HR.out.1.lt).cell 2).trans rfl, ((HR.out.1.below hB HR.out.1.lt).cell 3).trans rfl, ((HR.out.2.1.below hB HR.out.2.1.lt).cell 0).trans rfl, ((HR.out.2.1.below hB HR.out.2.1.lt).cell 1).trans rfl, ((HR.out.2.1.below hB HR.out.2.1.lt).cell 2).trans rfl, ((HR.out.2.1.below hB HR.out.2.1.lt).cell 3).trans rfl⟩
      clear hK K
      try simp only [Act.put, List.setIfInBounds_toArray, List.set_cons_zero, List.set_cons_succ]
      refine wpAnyH_ready (rs := [3]) (by kernel_rfl) (by simp) ?_
      refine AllReadyH.cons (o := ⟨some 17, _, _, _, _, _⟩) rfl (fun K hK => ?_) AllReadyH.nil
      go_simp
      go_at_call 14
      refine (HRB.out _).mono ?_
      rintro e w3 ⟨rfl, kb⟩
      replace hZ := Row.below hZ kb (Row.lt hZ)
      replace hB := hB.trans (kb.mono hB.size)
      clear kb
      refine hK.out _ _ ?_ (fun hHeld => ?_)
      · (try dsimp only); exact ⟨((HR.out.1.below hB HR.out.1.lt).cell 0).trans rfl, ((HR.out.1.below hB HR.out.1.lt).cell 1).trans rfl, ((HR.out.1.below hB HR.out.1.lt).cell 2).trans rfl, ((HR.out.1.below hB HR.out.1.lt).cell 3).trans rfl, ((HR.out.2.1.below hB HR.out.2.1.lt).cell 0).trans rfl, ((HR.out.2.1.below hB HR.out.2.1.lt).cell 1).trans rfl, ((HR.out.2.1.below hB HR.out.2.1.lt).cell 2).trans rfl, ((HR.out.2.1.below hB HR.out.2.1.lt).cell 3).trans rfl⟩
      clear hK K
      try simp only [Act.put, List.setIfInBounds_toArray, List.set_cons_zero, List.set_cons_succ]
      refine tkw 4 18 ?_
      have hl0 := Row.lt hZ
      have z0 := (hZ.cell 0).trans rfl
      have y0 := hZ.free 0
      have z1 := (hZ.cell 1).trans rfl
      have y1 := hZ.free 1
      have z2 := (hZ.cell 2).trans rfl
      have y2 := hZ.free 2
      have z3 := (hZ.cell 3).trans rfl
      have y3 := hZ.free 3
      have z4 := (hZ.cell 4).trans rfl
      have y4 := hZ.free 4
      have z5 := (hZ.cell 5).trans rfl
      have y5 := hZ.free 5
      refine wpAnyH_ready (rs := [6]) (by kernel_rfl) (by simp) ?_
      refine AllReadyH.cons (o := ⟨none, _, _, _, _, _⟩) rfl (fun K hK => ?_) AllReadyH.nil
      go_simp
      have hp := (Row.put (Row.put (Row.put (Row.put (Row.put (Row.put hZ 0 (.int .i64 0)) 1 (.int .i64 2)) 2 (.int .i64 1)) 3 (.int .i64 1)) 4 (.int .i64 0)) 5 (.int .i64 0))
      have hb6 := ((((((hB.setCell (p := ⟨_, 0, none⟩) hjB (.int .i64 0)).setCell (p := ⟨_, 1, none⟩) hjB (.int .i64 2)).setCell (p := ⟨_, 2, none⟩) hjB (.int .i64 1)).setCell (p := ⟨_, 3, none⟩) hjB (.int .i64 1)).setCell (p := ⟨_, 4, none⟩) hjB (.int .i64 0)).setCell (p := ⟨_, 5, none⟩) hjB (.int .i64 0))
      have HF := Lib.hid (And.intro hp (And.intro hb6 hjB))
      clear z0 z1 z2 z3 z4 z5 y0 y1 y2 y3 y4 y5 hp hl0 hZ
      have hB := HF.out.2.1
      refine hK.out _ _ ?_ (fun hHeld2 => ?_)
      · (try dsimp only); exact ⟨((HR.out.1.below hB HR.out.1.lt).cell 0).trans rfl, ((HR.out.1.below hB HR.out.1.lt).cell 1).trans rfl, ((HR.out.1.below hB HR.out.1.lt).cell 2).trans rfl, ((HR.out.1.below hB HR.out.1.lt).cell 3).trans rfl, ((HR.out.2.1.below hB HR.out.2.1.lt).cell 0).trans rfl, ((HR.out.2.1.below hB HR.out.2.1.lt).cell 1).trans rfl, ((HR.out.2.1.below hB HR.out.2.1.lt).cell 2).trans rfl, ((HR.out.2.1.below hB HR.out.2.1.lt).cell 3).trans rfl⟩
      clear hK K hHeld hHeld2 hb6 hB hjB
      try simp only [Act.put, List.setIfInBounds_toArray, List.set_cons_zero, List.set_cons_succ]
      refine wpAnyH_done (by kernel_rfl) ?_ _
      go_wp2_with fail
      go_meet
      case rel => exact ⟨_, rfl, HF.out.1, HF.out.2.1, HF.out.2.2⟩
    refine AllReadyH.cons (o := ⟨some 9, _, _, _, _, _⟩) rfl (fun K hK => ?_) AllReadyH.nil
    go_simp
    have hZ : Row (World.alloc wa.drew (.cells #[.int .i64 0, .int .i64 0, .int .i64 0, .int .i64 0, .int .i64 0, .int .i64 0] 38)) wa.heap.size _ _ := Row.made wa.drew [.int .i64 0, .int .i64 0, .int .i64 0, .int .i64 0, .int .i64 0, .int .i64 0] 38
    have hjB : wa.heap.size ≤ wa.heap.size := hB.size
    have kb := below_map wa.drew (.cells #[.int .i64 0, .int .i64 0, .int .i64 0, .int .i64 0, .int .i64 0, .int .i64 0] 38)
    replace hB := hB.trans (kb.mono hB.size)
    clear kb
    refine hK.out _ _ ?_ (fun hHeld => ?_)
    · (try dsimp only); exact ⟨((HR.out.1.below hB HR.out.1.lt).cell 0).trans rfl, ((HR.out.1.below hB HR.out.1.lt).cell 1).trans rfl, ((HR.out.1.below hB HR.out.1.lt).cell 2).trans rfl, ((HR.out.1.below hB HR.out.1.lt).cell 3).trans rfl, ((HR.out.2.1.below hB HR.out.2.1.lt).cell 0).trans rfl, ((HR.out.2.1.below hB HR.out.2.1.lt).cell 1).trans rfl, ((HR.out.2.1.below hB HR.out.2.1.lt).cell 2).trans rfl, ((HR.out.2.1.below hB HR.out.2.1.lt).cell 3).trans rfl⟩
    clear hK K
    try simp only [Act.put, List.setIfInBounds_toArray, List.set_cons_zero, List.set_cons_succ]
    refine wpAnyH_ready (rs := [1]) (by kernel_rfl) (by simp) ?_
    refine AllReadyH.cons (o := ⟨some 15, _, _, _, _, _⟩) rfl (fun K hK => ?_) AllReadyH.nil
    go_simp
    go_at_call 14
    refine (HRA.out _).mono ?_
    rintro e w4 ⟨rfl, kb⟩
    replace hZ := Row.below hZ kb (Row.lt hZ)
    replace hB := hB.trans (kb.mono hB.size)
    clear kb
    refine hK.out _ _ ?_ (fun hHeld => ?_)
    · (try dsimp only); exact ⟨((HR.out.1.below hB HR.out.1.lt).cell 0).trans rfl, ((HR.out.1.below hB HR.out.1.lt).cell 1).trans rfl, ((HR.out.1.below hB HR.out.1.lt).cell 2).trans rfl, ((HR.out.1.below hB HR.out.1.lt).cell 3).trans rfl, ((HR.out.2.1.below hB HR.out.2.1.lt).cell 0).trans rfl, ((HR.out.2.1.below hB HR.out.2.1.lt).cell 1).trans rfl, ((HR.out.2.1.below hB HR.out.2.1.lt).cell 2).trans rfl, ((HR.out.2.1.below hB HR.out.2.1.lt).cell 3).trans rfl⟩
    clear hK K
    try simp only [Act.put, List.setIfInBounds_toArray, List.set_cons_zero, List.set_cons_succ]
    refine wpAnyH_ready (rs := [3]) (by kernel_rfl) (by simp) ?_
    refine AllReadyH.cons (o := ⟨some 17, _, _, _, _, _⟩) rfl (fun K hK => ?_) AllReadyH.nil
    go_simp
    go_at_call 14
    refine (HRB.out _).mono ?_
    rintro e w5 ⟨rfl, kb⟩
    replace hZ := Row.below hZ kb (Row.lt hZ)
    replace hB := hB.trans (kb.mono hB.size)
    clear kb
    refine hK.out _ _ ?_ (fun hHeld => ?_)
    · (try dsimp only); exact ⟨((HR.out.1.below hB HR.out.1.lt).cell 0).trans rfl, ((HR.out.1.below hB HR.out.1.lt).cell 1).trans rfl, ((HR.out.1.below hB HR.out.1.lt).cell 2).trans rfl, ((HR.out.1.below hB HR.out.1.lt).cell 3).trans rfl, ((HR.out.2.1.below hB HR.out.2.1.lt).cell 0).trans rfl, ((HR.out.2.1.below hB HR.out.2.1.lt).cell 1).trans rfl, ((HR.out.2.1.below hB HR.out.2.1.lt).cell 2).trans rfl, ((HR.out.2.1.below hB HR.out.2.1.lt).cell 3).trans rfl⟩
    clear hK K
    try simp only [Act.put, List.setIfInBounds_toArray, List.set_cons_zero, List.set_cons_succ]
    refine tkw 4 18 ?_
    have hl0 := Row.lt hZ
    have z0 := (hZ.cell 0).trans rfl
    have y0 := hZ.free 0
    have z1 := (hZ.cell 1).trans rfl
    have y1 := hZ.free 1
    have z2 := (hZ.cell 2).trans rfl
    have y2 := hZ.free 2
    have z3 := (hZ.cell 3).trans rfl
    have y3 := hZ.free 3
    have z4 := (hZ.cell 4).trans rfl
    have y4 := hZ.free 4
    have z5 := (hZ.cell 5).trans rfl
    have y5 := hZ.free 5
    refine wpAnyH_ready (rs := [6]) (by kernel_rfl) (by simp) ?_
    refine AllReadyH.cons (o := ⟨none, _, _, _, _, _⟩) rfl (fun K hK => ?_) AllReadyH.nil
    go_simp
    have hp := (Row.put (Row.put (Row.put (Row.put (Row.put (Row.put hZ 0 (.int .i64 0)) 1 (.int .i64 2)) 2 (.int .i64 1)) 3 (.int .i64 1)) 4 (.int .i64 0)) 5 (.int .i64 0))
    have hb6 := ((((((hB.setCell (p := ⟨_, 0, none⟩) hjB (.int .i64 0)).setCell (p := ⟨_, 1, none⟩) hjB (.int .i64 2)).setCell (p := ⟨_, 2, none⟩) hjB (.int .i64 1)).setCell (p := ⟨_, 3, none⟩) hjB (.int .i64 1)).setCell (p := ⟨_, 4, none⟩) hjB (.int .i64 0)).setCell (p := ⟨_, 5, none⟩) hjB (.int .i64 0))
    have HF := Lib.hid (And.intro hp (And.intro hb6 hjB))
    clear z0 z1 z2 z3 z4 z5 y0 y1 y2 y3 y4 y5 hp hl0 hZ
    have hB := HF.out.2.1
    refine hK.out _ _ ?_ (fun hHeld2 => ?_)
    · (try dsimp only); exact ⟨((HR.out.1.below hB HR.out.1.lt).cell 0).trans rfl, ((HR.out.1.below hB HR.out.1.lt).cell 1).trans rfl, ((HR.out.1.below hB HR.out.1.lt).cell 2).trans rfl, ((HR.out.1.below hB HR.out.1.lt).cell 3).trans rfl, ((HR.out.2.1.below hB HR.out.2.1.lt).cell 0).trans rfl, ((HR.out.2.1.below hB HR.out.2.1.lt).cell 1).trans rfl, ((HR.out.2.1.below hB HR.out.2.1.lt).cell 2).trans rfl, ((HR.out.2.1.below hB HR.out.2.1.lt).cell 3).trans rfl⟩
    clear hK K hHeld hHeld2 hb6 hB hjB
    try simp only [Act.put, List.setIfInBounds_toArray, List.set_cons_zero, List.set_cons_succ]
    refine wpAnyH_done (by kernel_rfl) ?_ _
    go_wp2_with fail
    go_meet
    case rel => exact ⟨_, rfl, HF.out.1, HF.out.2.1, HF.out.2.2⟩

  case rest =>
    obtain ⟨j, rfl, hj, hb, hjB⟩ := hcut
    have j0 := (hj.cell 0).trans rfl
    have j1 := (hj.cell 1).trans rfl
    have j2 := (hj.cell 2).trans rfl
    have j3 := (hj.cell 3).trans rfl
    have HJ := Lib.hid (And.intro hj (And.intro hb hjB))
    clear j2 j3 hj hb hjB HRA HRB
    go_upto_region 7 with (go_at_call 17; refine (HSI.out _).mono ?_; rintro e w1 ⟨rfl, hB1⟩)
    have hj := HJ.out.1.below hB1 HJ.out.1.lt
    have hb := HJ.out.2.1.trans (hB1.mono HJ.out.2.1.size)
    have k0 := (hj.cell 0).trans rfl
    have k1 := (hj.cell 1).trans rfl
    have k2 := (hj.cell 2).trans rfl
    have k3 := (hj.cell 3).trans rfl
    have k4 := (hj.cell 4).trans rfl
    have k5 := (hj.cell 5).trans rfl
    go_wp2_with (go_at_call 19; refine (HSM.out _).mono ?_; rintro e w2 ⟨rfl, hB2⟩; have hBC := (hb.trans (hB2.mono hb.size)); have hx := HR.out.2.2.1.below hBC HR.out.2.2.1.lt; have hxB := HR.out.2.2.2.1.trans (hBC.mono HR.out.2.2.2.1.size); obtain ⟨⟨q0, q1, q2, q3⟩, f0, f1, f2, f3⟩ := spc_row hx; obtain ⟨⟨z0, z1, z2, z3⟩, _⟩ := spc_row (spc_put hx 0 4294967295 false false); have HBZ := Lib.hid (below_set4 hxB (show w.heap.size ≤ w.heap.size + 1 + 1 by omega) (.int .i64 0) (.int .i64 4294967295) (.bool false) (.bool false)); have Z := Lib.hid (And.intro z0 (And.intro z1 (And.intro z2 z3))); clear z0 z1 z2 z3 hx hxB hB2 hBC)
    obtain ⟨z0, z1, z2, z3⟩ := Z.out
    exact bodyPost_ret (v := .agg #[.int .i64 0, .int .i64 4294967295, .bool false, .bool false]) (by simp [results, Tryz.results10, go_sem, z0, z1, z2, z3]) rfl ⟨rfl, HBZ.out⟩
end Go.Proofs.YtaaidjphacofgaaGreatDoor
