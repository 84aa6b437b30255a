/-
  Spans: small (32 bits) of one job.
-/
import Derived.Test.YtaaidjphacofgaaGreatDoorBigO
import Derived.Test.YtaaidjphacofgaaGreatDoorBigG
namespace Go.Proofs.YtaaidjphacofgaaGreatDoor
open Go.RowKit
set_option linter.unusedVariables false
set_option linter.unusedSimpArgs false

set_option maxRecDepth 100000 in
set_option maxHeartbeats 16000000 in
theorem small_n2 (w : World) : Calls Tryz.prog 19 #[.agg #[.int .i64 0, .int .i64 2, .int .i64 1, .int .i64 1, .int .i64 0, .int .i64 0], .int .i64 2] w (Ret w (.agg #[.int .i64 0, .int .i64 4294967295, .bool false, .bool false])) := by
  have hcnt : ∀ w, Calls Tryz.prog 21 #[.agg #[.int .i64 0, .int .i64 2, .int .i64 1, .int .i64 1, .int .i64 0, .int .i64 0], .int .i64 32] w (Ret w (.agg #[.int .i64 0, .int .i64 2, .int .i64 1, .int .i64 1, .int .i64 1, .int .i64 1])) := fun w => counted_one32 0 2 1 1 (by decide) w
  have hla : ∀ w, Calls Tryz.prog 15 #[.agg #[.int .i64 0, .int .i64 2]] w (Ret w (.agg #[.int .i64 0, .int .i64 2])) := fun w => low_of 0 2 w
  have hlb : ∀ w, Calls Tryz.prog 15 #[.agg #[.int .i64 1, .int .i64 1]] w (Ret w (.agg #[.int .i64 1, .int .i64 1])) := fun w => low_of 1 1 w
  have hof : ∀ w, Calls Tryz.prog 6 #[.int .i64 0, .int .i64 4294967295] w (Ret w (.agg #[.int .i64 0, .int .i64 4294967295, .bool false, .bool false])) := fun w => of_of 0 4294967295 w
  have hrd : ∀ w, Calls Tryz.prog 14 #[.agg #[.int .i64 (-1), .int .i64 1, .bool false, .bool false]] w (Ret w (.agg #[.int .i64 (-1), .int .i64 1])) := fun w => read_of (-1) 1 false false w
  have hin : ∀ w, Calls Tryz.prog 23 #[.agg #[.int .i64 (-1), .int .i64 1], .int .i64 0, .int .i64 4294967295] w (Ret w (.bool false)) := fun w => in_of (-1) 1 0 4294967295 w
  have hadd : ∀ w, Calls Tryz.prog 30 #[.agg #[.int .i64 0, .int .i64 2, .int .i64 1, .int .i64 1, .int .i64 1, .int .i64 1]] w (Ret w (.tuple #[.agg #[.int .i64 (-1), .int .i64 1, .bool false, .bool false], .bool true])) := fun w => job_sub 0 2 1 1 1 1 ⟨by decide, by decide⟩ ⟨by decide, by decide⟩ ⟨by decide, by decide⟩ ⟨by decide, by decide⟩ w
  have hfld : ∀ w, Sem.run Tryz.prog (Instr.field 46 (.agg #[.int .i64 2, .func (.func 30) #[] #[]]) 1) w = .ok (.func (.func 30) #[] #[]) w := fun w => rfl
  have HCNT := Lib.hid hcnt
  have HLA := Lib.hid hla
  have HLB := Lib.hid hlb
  have HOF := Lib.hid hof
  have HRD := Lib.hid hrd
  have HIN := Lib.hid hin
  have HADD := Lib.hid hadd
  have r1 : Row ((w.alloc (.cells #[.int .i64 0, .int .i64 2, .int .i64 1, .int .i64 1, .int .i64 0, .int .i64 0] 38)).alloc (.cells #[.int .i64 0, .int .i64 0, .bool false, .bool false] 23)) w.heap.size 38 [.int .i64 0, .int .i64 2, .int .i64 1, .int .i64 1, .int .i64 0, .int .i64 0] := (Row.made w [.int .i64 0, .int .i64 2, .int .i64 1, .int .i64 1, .int .i64 0, .int .i64 0] 38).alloc _
  have r2 : Row ((w.alloc (.cells #[.int .i64 0, .int .i64 2, .int .i64 1, .int .i64 1, .int .i64 0, .int .i64 0] 38)).alloc (.cells #[.int .i64 0, .int .i64 0, .bool false, .bool false] 23)) (w.heap.size + 1) 23 (spc 0 0 false false) := row2 w _ (spc 0 0 false false) _
  have b3 : Below w.heap.size w ((w.alloc (.cells #[.int .i64 0, .int .i64 2, .int .i64 1, .int .i64 1, .int .i64 0, .int .i64 0] 38)).alloc (.cells #[.int .i64 0, .int .i64 0, .bool false, .bool false] 23)) := (below_map w _).alloc (by simp) _
  have HS := Lib.hid (And.intro r1 (And.intro r2 b3))
  clear hcnt hla hlb hof hrd hin hadd r1 r2 b3
  go_enter Tryz.func19, Tryz.ntmps19
  go_upto_region 2 with (go_at_call 21; refine (HCNT.out _).mono ?_; rintro e w1 ⟨rfl, hB⟩; have hj := HS.out.1.below hB HS.out.1.lt; have hr := HS.out.2.1.below hB HS.out.2.1.lt; have hb := HS.out.2.2.trans (hB.mono HS.out.2.2.size); have j0 := (hj.cell 0).trans rfl; have y0 := hj.free 0; have j1 := (hj.cell 1).trans rfl; have y1 := hj.free 1; have j2 := (hj.cell 2).trans rfl; have y2 := hj.free 2; have j3 := (hj.cell 3).trans rfl; have y3 := hj.free 3; have j4 := (hj.cell 4).trans rfl; have y4 := hj.free 4; have j5 := (hj.cell 5).trans rfl; have y5 := hj.free 5; have HJ := Lib.hid (And.intro (Row.put (Row.put (Row.put (Row.put (Row.put (Row.put hj 0 (.int .i64 0)) 1 (.int .i64 2)) 2 (.int .i64 1)) 3 (.int .i64 1)) 4 (.int .i64 1)) 5 (.int .i64 1)) (And.intro (Row.other (Row.other (Row.other (Row.other (Row.other (Row.other hr ⟨w.heap.size, 0, none⟩ (.int .i64 0) (by simp)) ⟨w.heap.size, 1, none⟩ (.int .i64 2) (by simp)) ⟨w.heap.size, 2, none⟩ (.int .i64 1) (by simp)) ⟨w.heap.size, 3, none⟩ (.int .i64 1) (by simp)) ⟨w.heap.size, 4, none⟩ (.int .i64 1) (by simp)) ⟨w.heap.size, 5, none⟩ (.int .i64 1) (by simp)) (Below.setCell (Below.setCell (Below.setCell (Below.setCell (Below.setCell (Below.setCell hb (p := ⟨w.heap.size, 0, none⟩) (Nat.le_refl _) (.int .i64 0)) (p := ⟨w.heap.size, 1, none⟩) (Nat.le_refl _) (.int .i64 2)) (p := ⟨w.heap.size, 2, none⟩) (Nat.le_refl _) (.int .i64 1)) (p := ⟨w.heap.size, 3, none⟩) (Nat.le_refl _) (.int .i64 1)) (p := ⟨w.heap.size, 4, none⟩) (Nat.le_refl _) (.int .i64 1)) (p := ⟨w.heap.size, 5, none⟩) (Nat.le_refl _) (.int .i64 1)))); clear hj hr hb hB HS)
  clear j0 y0 j1 y1 j2 y2 j3 y3 j4 y4 j5 y5
  generalize World.setCell _ _ _ = wa at HJ ⊢
  have hB : Below wa.heap.size wa wa.drew := (Below.refl _ _).drew
  go_cut [] from 10 to 17 (fun wx => Row wx w.heap.size 38 [.int .i64 0, .int .i64 2, .int .i64 1, .int .i64 1, .int .i64 1, .int .i64 1] ∧ Row wx (w.heap.size + 1) 23 (spc 0 0 false false) ∧ Below w.heap.size w wx)
  case first =>
    refine wp_region_held_drew (S := fun w' => w'.cell? ⟨w.heap.size, 0, none⟩ = some (.int .i64 0) ∧ w'.cell? ⟨w.heap.size, 1, none⟩ = some (.int .i64 2) ∧ w'.cell? ⟨w.heap.size, 2, none⟩ = some (.int .i64 1) ∧ w'.cell? ⟨w.heap.size, 3, none⟩ = some (.int .i64 1)) (by kernel_rfl) ?_ (fun hHeld => ?_)
    · (try dsimp only); exact ⟨((HJ.out.1.below hB HJ.out.1.lt).cell 0).trans rfl, ((HJ.out.1.below hB HJ.out.1.lt).cell 1).trans rfl, ((HJ.out.1.below hB HJ.out.1.lt).cell 2).trans rfl, ((HJ.out.1.below hB HJ.out.1.lt).cell 3).trans rfl⟩
    refine tkw 0 10 ?_
    refine tkw 1 11 ?_
    refine tkw 3 13 ?_
    refine tkw 4 14 ?_
    refine wpAnyH_ready (rs := [2]) (by kernel_rfl) (by simp) ?_
    refine AllReadyH.cons (o := ⟨some 12, _, _, _, _, _⟩) rfl (fun K hK => ?_) AllReadyH.nil
    go_simp
    go_at_call 15
    refine (HLA.out _).mono ?_
    rintro e wx1 ⟨rfl, kb⟩
    replace hB := hB.trans (kb.mono hB.size)
    clear kb
    refine hK.out _ _ ?_ (fun hHeld => ?_)
    · (try dsimp only); exact ⟨((HJ.out.1.below hB HJ.out.1.lt).cell 0).trans rfl, ((HJ.out.1.below hB HJ.out.1.lt).cell 1).trans rfl, ((HJ.out.1.below hB HJ.out.1.lt).cell 2).trans rfl, ((HJ.out.1.below hB HJ.out.1.lt).cell 3).trans rfl⟩
    clear hK K
    try simp only [Act.put, List.setIfInBounds_toArray, List.set_cons_zero, List.set_cons_succ]
    refine tkw 6 16 ?_
    refine wpAnyH_ready (rs := [5]) (by kernel_rfl) (by simp) ?_
    refine AllReadyH.cons (o := ⟨some 15, _, _, _, _, _⟩) rfl (fun K hK => ?_) AllReadyH.nil
    go_simp
    go_at_call 15
    refine (HLB.out _).mono ?_
    rintro e wx2 ⟨rfl, kb⟩
    replace hB := hB.trans (kb.mono hB.size)
    clear kb
    refine hK.out _ _ ?_ (fun hHeld => ?_)
    · (try dsimp only); exact ⟨((HJ.out.1.below hB HJ.out.1.lt).cell 0).trans rfl, ((HJ.out.1.below hB HJ.out.1.lt).cell 1).trans rfl, ((HJ.out.1.below hB HJ.out.1.lt).cell 2).trans rfl, ((HJ.out.1.below hB HJ.out.1.lt).cell 3).trans rfl⟩
    clear hK K
    try simp only [Act.put, List.setIfInBounds_toArray, List.set_cons_zero, List.set_cons_succ]
    have HJ1 := Lib.hid (And.intro (HJ.out.1.below hB HJ.out.1.lt) (And.intro (HJ.out.2.1.below hB HJ.out.2.1.lt) (HJ.out.2.2.trans (hB.mono HJ.out.2.2.size))))
    refine wpAnyH_ready (rs := [7]) (by kernel_rfl) (by simp) ?_
    refine AllReadyH.cons (o := ⟨none, _, _, _, _, _⟩) rfl (fun K hK => ?_) AllReadyH.nil
    have ja := (HJ1.out.1.cell 0).trans rfl
    have jb := (HJ1.out.1.cell 1).trans rfl
    have ya := HJ1.out.1.free 0
    have yb := HJ1.out.1.free 1
    go_simp
    have HJ2 := Lib.hid (And.intro (Row.put (Row.put HJ1.out.1 0 (.int .i64 0)) 1 (.int .i64 2)) (And.intro (Row.other (Row.other HJ1.out.2.1 ⟨w.heap.size, 0, none⟩ (.int .i64 0) (by simp)) ⟨w.heap.size, 1, none⟩ (.int .i64 2) (by simp)) (Below.setCell (Below.setCell HJ1.out.2.2 (p := ⟨w.heap.size, 0, none⟩) (Nat.le_refl _) (.int .i64 0)) (p := ⟨w.heap.size, 1, none⟩) (Nat.le_refl _) (.int .i64 2))))
    clear ja jb ya yb HJ1
    refine hK.out _ _ ?_ (fun hHeld => ?_)
    · (try dsimp only); exact ⟨(HJ2.out.1.cell 0).trans rfl, (HJ2.out.1.cell 1).trans rfl, (HJ2.out.1.cell 2).trans rfl, (HJ2.out.1.cell 3).trans rfl⟩
    clear hK K
    try simp only [Act.put, List.setIfInBounds_toArray, List.set_cons_zero, List.set_cons_succ]
    refine tkw 8 17 ?_
    refine wpAnyH_ready (rs := [9]) (by kernel_rfl) (by simp) ?_
    refine AllReadyH.cons (o := ⟨none, _, _, _, _, _⟩) rfl (fun K hK => ?_) AllReadyH.nil
    have ja := (HJ2.out.1.cell 2).trans rfl
    have jb := (HJ2.out.1.cell 3).trans rfl
    have ya := HJ2.out.1.free 2
    have yb := HJ2.out.1.free 3
    go_simp
    have HJ3 := Lib.hid (And.intro (Row.put (Row.put HJ2.out.1 2 (.int .i64 1)) 3 (.int .i64 1)) (And.intro (Row.other (Row.other HJ2.out.2.1 ⟨w.heap.size, 2, none⟩ (.int .i64 1) (by simp)) ⟨w.heap.size, 3, none⟩ (.int .i64 1) (by simp)) (Below.setCell (Below.setCell HJ2.out.2.2 (p := ⟨w.heap.size, 2, none⟩) (Nat.le_refl _) (.int .i64 1)) (p := ⟨w.heap.size, 3, none⟩) (Nat.le_refl _) (.int .i64 1))))
    clear ja jb ya yb HJ2
    refine hK.out _ _ ?_ (fun hHeld => ?_)
    · (try dsimp only); exact ⟨(HJ3.out.1.cell 0).trans rfl, (HJ3.out.1.cell 1).trans rfl, (HJ3.out.1.cell 2).trans rfl, (HJ3.out.1.cell 3).trans rfl⟩
    clear hK K
    try simp only [Act.put, List.setIfInBounds_toArray, List.set_cons_zero, List.set_cons_succ]
    refine wpAnyH_done (by kernel_rfl) ?_ _
    go_wp2_with fail
    go_meet
    case rel => exact HJ3.out
  case rest =>
    clear HJ hB HCNT HLA HLB
    have HJ := Lib.hid hcut
    clear hcut
    have j1 := (HJ.out.1.cell 1).trans rfl
    go_upto_region 20 with fail
    clear j1
    obtain ⟨wb, hwb⟩ : ∃ z : World, z = wc := ⟨_, rfl⟩
    subst hwb
    have hB : Below wb.heap.size wb wb.drew := (Below.refl _ _).drew
    go_cut [6, 7] from 79 to 86 (fun s6 s7 wx => ∃ b, s6 = .pointer (some ⟨b, 0, none⟩) ∧ s7 = .bool true ∧ Row wx b 23 [.int .i64 (-1), .int .i64 1, .bool false, .bool false] ∧ Below wb.heap.size wb wx)
    case first =>
      refine wp_region_held_drew (S := fun w' => w'.cell? ⟨w.heap.size, 0, none⟩ = some (.int .i64 0) ∧ w'.cell? ⟨w.heap.size, 1, none⟩ = some (.int .i64 2) ∧ w'.cell? ⟨w.heap.size, 2, none⟩ = some (.int .i64 1) ∧ w'.cell? ⟨w.heap.size, 3, none⟩ = some (.int .i64 1) ∧ w'.cell? ⟨w.heap.size, 4, none⟩ = some (.int .i64 1) ∧ w'.cell? ⟨w.heap.size, 5, none⟩ = some (.int .i64 1)) (by kernel_rfl) ?_ (fun hHeld => ?_)
      · (try dsimp only); exact ⟨((HJ.out.1.below hB HJ.out.1.lt).cell 0).trans rfl, ((HJ.out.1.below hB HJ.out.1.lt).cell 1).trans rfl, ((HJ.out.1.below hB HJ.out.1.lt).cell 2).trans rfl, ((HJ.out.1.below hB HJ.out.1.lt).cell 3).trans rfl, ((HJ.out.1.below hB HJ.out.1.lt).cell 4).trans rfl, ((HJ.out.1.below hB HJ.out.1.lt).cell 5).trans rfl⟩
      refine tkw 0 80 ?_
      refine tkw 3 83 ?_
      refine wpAnyH_ready (rs := [1, 8]) (by kernel_rfl) (by simp) ?_
      refine AllReadyH.cons (o := ⟨some 81, _, _, _, _, _⟩) rfl (fun K hK => ?_) ?_
      · go_simp
        go_at_call 20
        refine (ruled_2 _).mono ?_
        rintro e w11 ⟨rfl, kb⟩
        replace hB := hB.trans (kb.mono hB.size)
        clear kb
        refine hK.out _ _ ?_ (fun hHeld => ?_)
        · (try dsimp only); exact ⟨((HJ.out.1.below hB HJ.out.1.lt).cell 0).trans rfl, ((HJ.out.1.below hB HJ.out.1.lt).cell 1).trans rfl, ((HJ.out.1.below hB HJ.out.1.lt).cell 2).trans rfl, ((HJ.out.1.below hB HJ.out.1.lt).cell 3).trans rfl, ((HJ.out.1.below hB HJ.out.1.lt).cell 4).trans rfl, ((HJ.out.1.below hB HJ.out.1.lt).cell 5).trans rfl⟩
        clear hK K
        try simp only [Act.put, List.setIfInBounds_toArray, List.set_cons_zero, List.set_cons_succ]
        refine tkw 2 82 ?_
        refine wpAnyH_ready (rs := [4, 8]) (by kernel_rfl) (by simp) ?_
        refine AllReadyH.cons (o := ⟨some 84, _, _, _, _, _⟩) rfl (fun K hK => ?_) ?_
        · go_simp
          go_at_call 30
          refine (HADD.out _).mono ?_
          rintro e w12 ⟨rfl, kb⟩
          replace hB := hB.trans (kb.mono hB.size)
          clear kb
          refine hK.out _ _ ?_ (fun hHeld => ?_)
          · (try dsimp only); exact ⟨((HJ.out.1.below hB HJ.out.1.lt).cell 0).trans rfl, ((HJ.out.1.below hB HJ.out.1.lt).cell 1).trans rfl, ((HJ.out.1.below hB HJ.out.1.lt).cell 2).trans rfl, ((HJ.out.1.below hB HJ.out.1.lt).cell 3).trans rfl, ((HJ.out.1.below hB HJ.out.1.lt).cell 4).trans rfl, ((HJ.out.1.below hB HJ.out.1.lt).cell 5).trans rfl⟩
          clear hK K
          try simp only [Act.put, List.setIfInBounds_toArray, List.set_cons_zero, List.set_cons_succ]
          refine tkw 5 79 ?_
          refine tkw 6 85 ?_
          refine tkw 7 86 ?_
          refine wpAnyH_ready (rs := [8]) (by kernel_rfl) (by simp) ?_
          refine AllReadyH.cons (o := ⟨some 6, _, _, _, _, _⟩) rfl (fun K hK => ?_) AllReadyH.nil
          go_simp
          have hZ : Row (World.alloc w12 (.cells #[.int .i64 0, .int .i64 0, .bool false, .bool false] 23)) w12.heap.size _ _ := Row.made w12 [.int .i64 0, .int .i64 0, .bool false, .bool false] 23
          have hjB : wb.heap.size ≤ w12.heap.size := hB.size
          have kb := below_map w12 (.cells #[.int .i64 0, .int .i64 0, .bool false, .bool false] 23)
          replace hB := hB.trans (kb.mono hB.size)
          clear kb
          refine hK.out _ _ ?_ (fun hHeld => ?_)
          · (try dsimp only); exact ⟨((HJ.out.1.below hB HJ.out.1.lt).cell 0).trans rfl, ((HJ.out.1.below hB HJ.out.1.lt).cell 1).trans rfl, ((HJ.out.1.below hB HJ.out.1.lt).cell 2).trans rfl, ((HJ.out.1.below hB HJ.out.1.lt).cell 3).trans rfl, ((HJ.out.1.below hB HJ.out.1.lt).cell 4).trans rfl, ((HJ.out.1.below hB HJ.out.1.lt).cell 5).trans rfl⟩
          clear hK K
          try simp only [Act.put, List.setIfInBounds_toArray, List.set_cons_zero, List.set_cons_succ]
          generalize World.alloc w12 _ = wk at hZ hB hHeld ⊢
          have hl0 := Row.lt hZ
          have z0 := (hZ.cell 0).trans rfl
          have y0 := hZ.free 0
          have z1 := (hZ.cell 1).trans rfl
          have y1 := hZ.free 1
          have z2 := (hZ.cell 2).trans rfl
          have y2 := hZ.free 2
          have z3 := (hZ.cell 3).trans rfl
          have y3 := hZ.free 3
          refine wpAnyH_ready (rs := [9]) (by kernel_rfl) (by simp) ?_
          refine AllReadyH.cons (o := ⟨none, _, _, _, _, _⟩) rfl (fun K hK => ?_) AllReadyH.nil
          go_simp
          have hp := (Row.put (Row.put (Row.put (Row.put hZ 0 (.int .i64 (-1))) 1 (.int .i64 1)) 2 (.bool false)) 3 (.bool false))
          have hb6 := ((((hB.setCell (p := ⟨_, 0, none⟩) hjB (.int .i64 (-1))).setCell (p := ⟨_, 1, none⟩) hjB (.int .i64 1)).setCell (p := ⟨_, 2, none⟩) hjB (.bool false)).setCell (p := ⟨_, 3, none⟩) hjB (.bool false))
          have HF := Lib.hid (And.intro hp hb6)
          clear z0 z1 z2 z3 y0 y1 y2 y3 hp hl0 hZ
          have hB := HF.out.2
          refine hK.out _ _ ?_ (fun hHeld2 => ?_)
          · (try dsimp only); exact ⟨((HJ.out.1.below hB HJ.out.1.lt).cell 0).trans rfl, ((HJ.out.1.below hB HJ.out.1.lt).cell 1).trans rfl, ((HJ.out.1.below hB HJ.out.1.lt).cell 2).trans rfl, ((HJ.out.1.below hB HJ.out.1.lt).cell 3).trans rfl, ((HJ.out.1.below hB HJ.out.1.lt).cell 4).trans rfl, ((HJ.out.1.below hB HJ.out.1.lt).cell 5).trans rfl⟩
          clear hK K hHeld hb6 hB hjB
          try simp only [Act.put, List.setIfInBounds_toArray, List.set_cons_zero, List.set_cons_succ]
          refine tkw 10 7 ?_
          refine wpAnyH_done (by kernel_rfl) ?_ _
          clear hHeld2
          go_wp2_with fail
          go_meet
          case rel => exact ⟨_, rfl, rfl, HF.out.1, HF.out.2⟩
        refine AllReadyH.cons (o := ⟨some 6, _, _, _, _, _⟩) rfl (fun K hK => ?_) AllReadyH.nil
        go_simp
        have hZ : Row (World.alloc w11 (.cells #[.int .i64 0, .int .i64 0, .bool false, .bool false] 23)) w11.heap.size _ _ := Row.made w11 [.int .i64 0, .int .i64 0, .bool false, .bool false] 23
        have hjB : wb.heap.size ≤ w11.heap.size := hB.size
        have kb := below_map w11 (.cells #[.int .i64 0, .int .i64 0, .bool false, .bool false] 23)
        replace hB := hB.trans (kb.mono hB.size)
        clear kb
        refine hK.out _ _ ?_ (fun hHeld => ?_)
        · (try dsimp only); exact ⟨((HJ.out.1.below hB HJ.out.1.lt).cell 0).trans rfl, ((HJ.out.1.below hB HJ.out.1.lt).cell 1).trans rfl, ((HJ.out.1.below hB HJ.out.1.lt).cell 2).trans rfl, ((HJ.out.1.below hB HJ.out.1.lt).cell 3).trans rfl, ((HJ.out.1.below hB HJ.out.1.lt).cell 4).trans rfl, ((HJ.out.1.below hB HJ.out.1.lt).cell 5).trans rfl⟩
        clear hK K
        try simp only [Act.put, List.setIfInBounds_toArray, List.set_cons_zero, List.set_cons_succ]
        refine wpAnyH_ready (rs := [4]) (by kernel_rfl) (by simp) ?_
        refine AllReadyH.cons (o := ⟨some 84, _, _, _, _, _⟩) rfl (fun K hK => ?_) AllReadyH.nil
        go_simp
        go_at_call 30
        refine (HADD.out _).mono ?_
        rintro e w13 ⟨rfl, kb⟩
        replace hZ := Row.below hZ kb (Row.lt hZ)
        replace hB := hB.trans (kb.mono hB.size)
        clear kb
        refine hK.out _ _ ?_ (fun hHeld => ?_)
        · (try dsimp only); exact ⟨((HJ.out.1.below hB HJ.out.1.lt).cell 0).trans rfl, ((HJ.out.1.below hB HJ.out.1.lt).cell 1).trans rfl, ((HJ.out.1.below hB HJ.out.1.lt).cell 2).trans rfl, ((HJ.out.1.below hB HJ.out.1.lt).cell 3).trans rfl, ((HJ.out.1.below hB HJ.out.1.lt).cell 4).trans rfl, ((HJ.out.1.below hB HJ.out.1.lt).cell 5).trans rfl⟩
        clear hK K
        try simp only [Act.put, List.setIfInBounds_toArray, List.set_cons_zero, List.set_cons_succ]
        refine tkw 5 79 ?_
        refine tkw 6 85 ?_
        refine tkw 7 86 ?_
        have hl0 := Row.lt hZ
        have z0 := (hZ.cell 0).trans rfl
        have y0 := hZ.free 0
        have z1 := (hZ.cell 1).trans rfl
        have y1 := hZ.free 1
        have z2 := (hZ.cell 2).trans rfl
        have y2 := hZ.free 2
        have z3 := (hZ.cell 3).trans rfl
        have y3 := hZ.free 3
        refine wpAnyH_ready (rs := [9]) (by kernel_rfl) (by simp) ?_
        refine AllReadyH.cons (o := ⟨none, _, _, _, _, _⟩) rfl (fun K hK => ?_) AllReadyH.nil
        go_simp
        have hp := (Row.put (Row.put (Row.put (Row.put hZ 0 (.int .i64 (-1))) 1 (.int .i64 1)) 2 (.bool false)) 3 (.bool false))
        have hb6 := ((((hB.setCell (p := ⟨_, 0, none⟩) hjB (.int .i64 (-1))).setCell (p := ⟨_, 1, none⟩) hjB (.int .i64 1)).setCell (p := ⟨_, 2, none⟩) hjB (.bool false)).setCell (p := ⟨_, 3, none⟩) hjB (.bool false))
        have HF := Lib.hid (And.intro hp hb6)
        clear z0 z1 z2 z3 y0 y1 y2 y3 hp hl0 hZ
        have hB := HF.out.2
        refine hK.out _ _ ?_ (fun hHeld2 => ?_)
        · (try dsimp only); exact ⟨((HJ.out.1.below hB HJ.out.1.lt).cell 0).trans rfl, ((HJ.out.1.below hB HJ.out.1.lt).cell 1).trans rfl, ((HJ.out.1.below hB HJ.out.1.lt).cell 2).trans rfl, ((HJ.out.1.below hB HJ.out.1.lt).cell 3).trans rfl, ((HJ.out.1.below hB HJ.out.1.lt).cell 4).trans rfl, ((HJ.out.1.below hB HJ.out.1.lt).cell 5).trans rfl⟩
        clear hK K hHeld hb6 hB hjB
        try simp only [Act.put, List.setIfInBounds_toArray, List.set_cons_zero, List.set_cons_succ]
        refine tkw 10 7 ?_
        refine wpAnyH_done (by kernel_rfl) ?_ _
        clear hHeld2
        go_wp2_with fail
        go_meet
        case rel => exact ⟨_, rfl, rfl, HF.out.1, HF.out.2⟩
      refine AllReadyH.cons (o := ⟨some 6, _, _, _, _, _⟩) rfl (fun K hK => ?_) AllReadyH.nil
      go_simp
      have hZ : Row (World.alloc wb.drew (.cells #[.int .i64 0, .int .i64 0, .bool false, .bool false] 23)) wb.heap.size _ _ := Row.made wb.drew [.int .i64 0, .int .i64 0, .bool false, .bool false] 23
      have hjB : wb.heap.size ≤ wb.heap.size := hB.size
      have kb := below_map wb.drew (.cells #[.int .i64 0, .int .i64 0, .bool false, .bool false] 23)
      replace hB := hB.trans (kb.mono hB.size)
      clear kb
      refine hK.out _ _ ?_ (fun hHeld => ?_)
      · (try dsimp only); exact ⟨((HJ.out.1.below hB HJ.out.1.lt).cell 0).trans rfl, ((HJ.out.1.below hB HJ.out.1.lt).cell 1).trans rfl, ((HJ.out.1.below hB HJ.out.1.lt).cell 2).trans rfl, ((HJ.out.1.below hB HJ.out.1.lt).cell 3).trans rfl, ((HJ.out.1.below hB HJ.out.1.lt).cell 4).trans rfl, ((HJ.out.1.below hB HJ.out.1.lt).cell 5).trans rfl⟩
      clear hK K
      try simp only [Act.put, List.setIfInBounds_toArray, List.set_cons_zero, List.set_cons_succ]
      refine wpAnyH_ready (rs := [1]) (by kernel_rfl) (by simp) ?_
      refine AllReadyH.cons (o := ⟨some 81, _, _, _, _, _⟩) rfl (fun K hK => ?_) AllReadyH.nil
      go_simp
      go_at_call 20
      refine (ruled_2 _).mono ?_
      rintro e w14 ⟨rfl, kb⟩
      replace hZ := Row.below hZ kb (Row.lt hZ)
      replace hB := hB.trans (kb.mono hB.size)
      clear kb
      refine hK.out _ _ ?_ (fun hHeld => ?_)
      · (try dsimp only); exact ⟨((HJ.out.1.below hB HJ.out.1.lt).cell 0).trans rfl, ((HJ.out.1.below hB HJ.out.1.lt).cell 1).trans rfl, ((HJ.out.1.below hB HJ.out.1.lt).cell 2).trans rfl, ((HJ.out.1.below hB HJ.out.1.lt).cell 3).trans rfl, ((HJ.out.1.below hB HJ.out.1.lt).cell 4).trans rfl, ((HJ.out.1.below hB HJ.out.1.lt).cell 5).trans rfl⟩
      clear hK K
      try simp only [Act.put, List.setIfInBounds_toArray, List.set_cons_zero, List.set_cons_succ]
      refine tkw 2 82 ?_
      refine wpAnyH_ready (rs := [4]) (by kernel_rfl) (by simp) ?_
      refine AllReadyH.cons (o := ⟨some 84, _, _, _, _, _⟩) rfl (fun K hK => ?_) AllReadyH.nil
      go_simp
      go_at_call 30
      refine (HADD.out _).mono ?_
      rintro e w15 ⟨rfl, kb⟩
      replace hZ := Row.below hZ kb (Row.lt hZ)
      replace hB := hB.trans (kb.mono hB.size)
      clear kb
      refine hK.out _ _ ?_ (fun hHeld => ?_)
      · (try dsimp only); exact ⟨((HJ.out.1.below hB HJ.out.1.lt).cell 0).trans rfl, ((HJ.out.1.below hB HJ.out.1.lt).cell 1).trans rfl, ((HJ.out.1.below hB HJ.out.1.lt).cell 2).trans rfl, ((HJ.out.1.below hB HJ.out.1.lt).cell 3).trans rfl, ((HJ.out.1.below hB HJ.out.1.lt).cell 4).trans rfl, ((HJ.out.1.below hB HJ.out.1.lt).cell 5).trans rfl⟩
      clear hK K
      try simp only [Act.put, List.setIfInBounds_toArray, List.set_cons_zero, List.set_cons_succ]
      refine tkw 5 79 ?_
      refine tkw 6 85 ?_
      refine tkw 7 86 ?_
      have hl0 := Row.lt hZ
      have z0 := (hZ.cell 0).trans rfl
      have y0 := hZ.free 0
      have z1 := (hZ.cell 1).trans rfl
      have y1 := hZ.free 1
      have z2 := (hZ.cell 2).trans rfl
      have y2 := hZ.free 2
      have z3 := (hZ.cell 3).trans rfl
      have y3 := hZ.free 3
      refine wpAnyH_ready (rs := [9]) (by kernel_rfl) (by simp) ?_
      refine AllReadyH.cons (o := ⟨none, _, _, _, _, _⟩) rfl (fun K hK => ?_) AllReadyH.nil
      go_simp
      have hp := (Row.put (Row.put (Row.put (Row.put hZ 0 (.int .i64 (-1))) 1 (.int .i64 1)) 2 (.bool false)) 3 (.bool false))
      have hb6 := ((((hB.setCell (p := ⟨_, 0, none⟩) hjB (.int .i64 (-1))).setCell (p := ⟨_, 1, none⟩) hjB (.int .i64 1)).setCell (p := ⟨_, 2, none⟩) hjB (.bool false)).setCell (p := ⟨_, 3, none⟩) hjB (.bool false))
      have HF := Lib.hid (And.intro hp hb6)
      clear z0 z1 z2 z3 y0 y1 y2 y3 hp hl0 hZ
      have hB := HF.out.2
      refine hK.out _ _ ?_ (fun hHeld2 => ?_)
      · (try dsimp only); exact ⟨((HJ.out.1.below hB HJ.out.1.lt).cell 0).trans rfl, ((HJ.out.1.below hB HJ.out.1.lt).cell 1).trans rfl, ((HJ.out.1.below hB HJ.out.1.lt).cell 2).trans rfl, ((HJ.out.1.below hB HJ.out.1.lt).cell 3).trans rfl, ((HJ.out.1.below hB HJ.out.1.lt).cell 4).trans rfl, ((HJ.out.1.below hB HJ.out.1.lt).cell 5).trans rfl⟩
      clear hK K hHeld hb6 hB hjB
      try simp only [Act.put, List.setIfInBounds_toArray, List.set_cons_zero, List.set_cons_succ]
      refine tkw 10 7 ?_
      refine wpAnyH_done (by kernel_rfl) ?_ _
      clear hHeld2
      go_wp2_with fail
      go_meet
      case rel => exact ⟨_, rfl, rfl, HF.out.1, HF.out.2⟩

    case rest =>
      obtain ⟨b, rfl, rfl, hp, hpB⟩ := hcut
      have HP := Lib.hid (And.intro hp (And.intro (HJ.out.2.1.below hpB HJ.out.2.1.lt) (HJ.out.2.2.trans (hpB.mono HJ.out.2.2.size))))
      clear hp hpB
      obtain ⟨⟨p0, p1, p2, p3⟩, _⟩ := spc_row HP.out.1
      go_wp2_with (first
        | (go_at_call 14; refine (HRD.out _).mono ?_; rintro e w3 ⟨rfl, hB3⟩)
        | (go_at_call 23; refine (HIN.out _).mono ?_; rintro e w4 ⟨rfl, hB4⟩)
        | (go_at_call 6; refine (HOF.out _).mono ?_; rintro e w5 ⟨rfl, hB5⟩; have hBB := (hB3.trans (hB4.mono hB3.size)); have hBC := hBB.trans (hB5.mono hBB.size); have hx := HP.out.2.1.below hBC HP.out.2.1.lt; have hxB := HP.out.2.2.trans (hBC.mono HP.out.2.2.size); obtain ⟨⟨q0, q1, q2, q3⟩, f0, f1, f2, f3⟩ := spc_row hx; obtain ⟨⟨z0, z1, z2, z3⟩, _⟩ := spc_row (spc_put hx 0 4294967295 false false); have HBZ := Lib.hid (below_set4 hxB (Nat.le_succ w.heap.size) (.int .i64 0) (.int .i64 4294967295) (.bool false) (.bool false)); have Z := Lib.hid (And.intro z0 (And.intro z1 (And.intro z2 z3))); clear z0 z1 z2 z3 hx hxB hB3 hB4 hB5 hBB hBC))
      obtain ⟨z0, z1, z2, z3⟩ := Z.out
      exact bodyPost_ret (v := .agg #[.int .i64 0, .int .i64 4294967295, .bool false, .bool false]) (by simp [results, Tryz.results19, go_sem, z0, z1, z2, z3]) rfl ⟨rfl, HBZ.out⟩
end Go.Proofs.YtaaidjphacofgaaGreatDoor
