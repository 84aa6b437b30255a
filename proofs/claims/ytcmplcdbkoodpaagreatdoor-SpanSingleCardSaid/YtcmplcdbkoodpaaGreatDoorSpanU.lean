/-
  Spans: Alu of single numbers.
-/
import Derived.Test.YtcmplcdbkoodpaaGreatDoorBigG
import Derived.Test.YtcmplcdbkoodpaaGreatDoorSpanT
import Derived.Test.YtcmplcdbkoodpaaGreatDoorWordSame
namespace Go.Proofs.YtcmplcdbkoodpaaGreatDoor
open Go.RowKit
set_option linter.unusedVariables false
set_option linter.unusedSimpArgs false

theorem alu_both (op : Int) (na : Bool) (a b : Int) : ∃ v g, Gives 31 #[.int .i64 op, .bool na, .int .i64 a, .int .i64 b] v g ∧ Gives 13 #[.int .i64 op, .bool na, .int .i64 a, .int .i64 b] v g := by
  by_cases h : 1 ≤ op ∧ op ≤ 15
  · cases na
    · exact both64 op a b h
    · exact both32 op a b h
  · have h' : op < 1 ∨ 15 < op := by omega
    exact ⟨0, 1, Gives.same (alu_bad op na a b h'), Gives.same (refAlu_bad op na a b h')⟩
theorem ofs_one (x : Int) (h : -1152921504606846976 ≤ x ∧ x ≤ 1152921504606846976) : ofs x x = .agg #[.int .i64 x, .int .i64 x, .bool false, .bool false] := by
  unfold ofs oflo ofhi
  rw [if_neg (by omega), if_neg (by omega), if_neg (by omega), if_neg (by omega), if_neg (by omega)]
  rw [show decide (x < -1152921504606846976) = false by simp; omega, show decide (1152921504606846976 < x) = false by simp; omega]
theorem endv_one (x : Int) (h : -1152921504606846976 ≤ x ∧ x ≤ 1152921504606846976) : endv x x false false = .agg #[.int .i64 x, .int .i64 x] := by
  have hs : Snd x x false false := by rw [snd_ff]; omega
  unfold endv elo ehi
  rw [if_pos hs, if_pos hs]
  rfl
theorem jcells {c : World} {j : Nat} {e : TypeId} {x y : Int} (h : Row c j e [.int .i64 x, .int .i64 x, .int .i64 y, .int .i64 y, .int .i64 0, .int .i64 0]) :
    c.cell? ⟨j, 0, none⟩ = some (.int .i64 x) ∧ c.cell? ⟨j, 1, none⟩ = some (.int .i64 x) ∧ c.cell? ⟨j, 2, none⟩ = some (.int .i64 y) ∧ c.cell? ⟨j, 3, none⟩ = some (.int .i64 y) :=
  ⟨(h.cell 0).trans rfl, (h.cell 1).trans rfl, (h.cell 2).trans rfl, (h.cell 3).trans rfl⟩

set_option maxRecDepth 100000 in
set_option maxHeartbeats 3200000 in
theorem alu_single (op : Int) (na : Bool) (x y v : Int) (hx : -1152921504606846976 ≤ x ∧ x ≤ 1152921504606846976) (hy : -1152921504606846976 ≤ y ∧ y ≤ 1152921504606846976) (hv : -1152921504606846976 ≤ v ∧ v ≤ 1152921504606846976)
    (hg : Gives 31 #[.int .i64 op, .bool na, .int .i64 x, .int .i64 y] v 0) (w : World) : Calls Tryz.prog 10 #[.int .i64 op, .bool na, .agg #[.int .i64 x, .int .i64 x, .bool false, .bool false], .agg #[.int .i64 y, .int .i64 y, .bool false, .bool false]] w (Ret w (.agg #[.int .i64 v, .int .i64 v, .bool false, .bool false])) := by
  have hra : ∀ w, Calls Tryz.prog 29 #[.agg #[.int .i64 x, .int .i64 x, .bool false, .bool false]] w (Ret w (.agg #[.int .i64 x, .int .i64 x])) := fun w => by have h := read_of x x false false w; rw [endv_one x hx] at h; exact h
  have hrb : ∀ w, Calls Tryz.prog 29 #[.agg #[.int .i64 y, .int .i64 y, .bool false, .bool false]] w (Ret w (.agg #[.int .i64 y, .int .i64 y])) := fun w => by have h := read_of y y false false w; rw [endv_one y hy] at h; exact h
  have hof : ∀ w, Calls Tryz.prog 14 #[.int .i64 v, .int .i64 v] w (Ret w (.agg #[.int .i64 v, .int .i64 v, .bool false, .bool false])) := fun w => by have h := of_of v v w; rw [ofs_one v hv] at h; exact h
  have HRA := Lib.hid hra
  have HRB := Lib.hid hrb
  have HOF := Lib.hid hof
  have HG := Lib.hid hg
  have hself : ∀ z : Int, (z == z) = true := fun z => by simp
  have r1 : Row (((w.alloc (.cells #[.int .i64 x, .int .i64 x, .bool false, .bool false] 23)).alloc (.cells #[.int .i64 y, .int .i64 y, .bool false, .bool false] 23)).alloc (.cells #[.int .i64 0, .int .i64 0, .bool false, .bool false] 23)) w.heap.size 23 [.int .i64 x, .int .i64 x, .bool false, .bool false] := ((Row.made w [.int .i64 x, .int .i64 x, .bool false, .bool false] 23).alloc _).alloc _
  have r2 : Row (((w.alloc (.cells #[.int .i64 x, .int .i64 x, .bool false, .bool false] 23)).alloc (.cells #[.int .i64 y, .int .i64 y, .bool false, .bool false] 23)).alloc (.cells #[.int .i64 0, .int .i64 0, .bool false, .bool false] 23)) (w.heap.size + 1) 23 [.int .i64 y, .int .i64 y, .bool false, .bool false] := (row2 w _ [.int .i64 y, .int .i64 y, .bool false, .bool false] _).alloc _
  have r3 : Row (((w.alloc (.cells #[.int .i64 x, .int .i64 x, .bool false, .bool false] 23)).alloc (.cells #[.int .i64 y, .int .i64 y, .bool false, .bool false] 23)).alloc (.cells #[.int .i64 0, .int .i64 0, .bool false, .bool false] 23)) (w.heap.size + 1 + 1) 23 (spc 0 0 false false) := by
    have h := row2 (w.alloc (.cells #[.int .i64 x, .int .i64 x, .bool false, .bool false] 23)) (.cells #[.int .i64 y, .int .i64 y, .bool false, .bool false] 23) (spc 0 0 false false) 23
    rw [size_al] at h
    exact h
  have b3 : Below w.heap.size w (((w.alloc (.cells #[.int .i64 x, .int .i64 x, .bool false, .bool false] 23)).alloc (.cells #[.int .i64 y, .int .i64 y, .bool false, .bool false] 23)).alloc (.cells #[.int .i64 0, .int .i64 0, .bool false, .bool false] 23)) := ((below_map w _).alloc (by simp) _).alloc (by simp; omega) _
  have HR := Lib.hid (And.intro r1 (And.intro r2 (And.intro r3 b3)))
  obtain ⟨c15, e15⟩ : ∃ d, (op == 15) = d := ⟨_, rfl⟩
  obtain ⟨c14, e14⟩ : ∃ d, (op == 14) = d := ⟨_, rfl⟩
  clear hra hrb hof hg r1 r2 r3 b3 hx hy hv
  go_enter Tryz.func10, Tryz.ntmps10
  go_upto_region 1 with fail
  generalize World.alloc _ _ = wa at HR ⊢
  have hB : Below wa.heap.size wa wa.drew := (Below.refl _ _).drew
  go_cut [9] from 14 to 18 (fun s9 wx => ∃ j, s9 = .pointer (some ⟨j, 0, none⟩) ∧ Row wx j 50 [.int .i64 x, .int .i64 x, .int .i64 y, .int .i64 y, .int .i64 0, .int .i64 0] ∧ Below wa.heap.size wa wx ∧ wa.heap.size ≤ j)
  case first =>
    refine wp_region_held_drew (S := fun w' => w'.cell? ⟨w.heap.size, 0, none⟩ = some (.int .i64 x) ∧ w'.cell? ⟨w.heap.size, 1, none⟩ = some (.int .i64 x) ∧ w'.cell? ⟨w.heap.size, 2, none⟩ = some (.bool false) ∧ w'.cell? ⟨w.heap.size, 3, none⟩ = some (.bool false) ∧ w'.cell? ⟨(w.heap.size + 1), 0, none⟩ = some (.int .i64 y) ∧ w'.cell? ⟨(w.heap.size + 1), 1, none⟩ = some (.int .i64 y) ∧ w'.cell? ⟨(w.heap.size + 1), 2, none⟩ = some (.bool false) ∧ w'.cell? ⟨(w.heap.size + 1), 3, none⟩ = some (.bool false)) (by kernel_rfl) ?_ (fun hHeld => ?_)
    · (try dsimp only); exact ⟨((HR.out.1.below hB HR.out.1.lt).cell 0).trans rfl, ((HR.out.1.below hB HR.out.1.lt).cell 1).trans rfl, ((HR.out.1.below hB HR.out.1.lt).cell 2).trans rfl, ((HR.out.1.below hB HR.out.1.lt).cell 3).trans rfl, ((HR.out.2.1.below hB HR.out.2.1.lt).cell 0).trans rfl, ((HR.out.2.1.below hB HR.out.2.1.lt).cell 1).trans rfl, ((HR.out.2.1.below hB HR.out.2.1.lt).cell 2).trans rfl, ((HR.out.2.1.below hB HR.out.2.1.lt).cell 3).trans rfl⟩
    refine tkw 0 14 ?_
    refine tkw 2 16 ?_
    refine wpAnyH_ready (rs := [1, 5]) (by kernel_rfl) (by simp) ?_
    refine AllReadyH.cons (o := ⟨some 15, _, _, _, _, _⟩) rfl (fun K hK => ?_) ?_
    · go_simp
      go_at_call 29
      refine (HRA.out _).mono ?_
      rintro e w1 ⟨rfl, kb⟩
      replace hB := hB.trans (kb.mono hB.size)
      clear kb
      refine hK.out _ _ ?_ (fun hHeld => ?_)
      · (try dsimp only); exact ⟨((HR.out.1.below hB HR.out.1.lt).cell 0).trans rfl, ((HR.out.1.below hB HR.out.1.lt).cell 1).trans rfl, ((HR.out.1.below hB HR.out.1.lt).cell 2).trans rfl, ((HR.out.1.below hB HR.out.1.lt).cell 3).trans rfl, ((HR.out.2.1.below hB HR.out.2.1.lt).cell 0).trans rfl, ((HR.out.2.1.below hB HR.out.2.1.lt).cell 1).trans rfl, ((HR.out.2.1.below hB HR.out.2.1.lt).cell 2).trans rfl, ((HR.out.2.1.below hB HR.out.2.1.lt).cell 3).trans rfl⟩
      clear hK K
      try simp only [Act.put, List.setIfInBounds_toArray, List.set_cons_zero, List.set_cons_succ]
      refine wpAnyH_ready (rs := [3, 5]) (by kernel_rfl) (by simp) ?_
      refine AllReadyH.cons (o := ⟨some 17, _, _, _, _, _⟩) rfl (fun K hK => ?_) ?_
      · go_simp
        go_at_call 29
        refine (HRB.out _).mono ?_
        rintro e w2 ⟨rfl, kb⟩
        replace hB := hB.trans (kb.mono hB.size)
        clear kb
        refine hK.out _ _ ?_ (fun hHeld => ?_)
        · (try dsimp only); exact ⟨((HR.out.1.below hB HR.out.1.lt).cell 0).trans rfl, ((HR.out.1.below hB HR.out.1.lt).cell 1).trans rfl, ((HR.out.1.below hB HR.out.1.lt).cell 2).trans rfl, ((HR.out.1.below hB HR.out.1.lt).cell 3).trans rfl, ((HR.out.2.1.below hB HR.out.2.1.lt).cell 0).trans rfl, ((HR.out.2.1.below hB HR.out.2.1.lt).cell 1).trans rfl, ((HR.out.2.1.below hB HR.out.2.1.lt).cell 2).trans rfl, ((HR.out.2.1.below hB HR.out.2.1.lt).cell 3).trans rfl⟩
        clear hK K
        try simp only [Act.put, List.setIfInBounds_toArray, List.set_cons_zero, List.set_cons_succ]
        refine tkw 4 18 ?_
        refine wpAnyH_ready (rs := [5]) (by kernel_rfl) (by simp) ?_
        refine AllReadyH.cons (o := ⟨some 9, _, _, _, _, _⟩) rfl (fun K hK => ?_) AllReadyH.nil
        go_simp
        have hZ : Row (World.alloc w2 (.cells #[.int .i64 0, .int .i64 0, .int .i64 0, .int .i64 0, .int .i64 0, .int .i64 0] 50)) w2.heap.size _ _ := Row.made w2 [.int .i64 0, .int .i64 0, .int .i64 0, .int .i64 0, .int .i64 0, .int .i64 0] 50
        have hjB : wa.heap.size ≤ w2.heap.size := hB.size
        have kb := below_map w2 (.cells #[.int .i64 0, .int .i64 0, .int .i64 0, .int .i64 0, .int .i64 0, .int .i64 0] 50)
        replace hB := hB.trans (kb.mono hB.size)
        clear kb
        refine hK.out _ _ ?_ (fun hHeld => ?_)
        · (try dsimp only); exact ⟨((HR.out.1.below hB HR.out.1.lt).cell 0).trans rfl, ((HR.out.1.below hB HR.out.1.lt).cell 1).trans rfl, ((HR.out.1.below hB HR.out.1.lt).cell 2).trans rfl, ((HR.out.1.below hB HR.out.1.lt).cell 3).trans rfl, ((HR.out.2.1.below hB HR.out.2.1.lt).cell 0).trans rfl, ((HR.out.2.1.below hB HR.out.2.1.lt).cell 1).trans rfl, ((HR.out.2.1.below hB HR.out.2.1.lt).cell 2).trans rfl, ((HR.out.2.1.below hB HR.out.2.1.lt).cell 3).trans rfl⟩
        clear hK K
        try simp only [Act.put, List.setIfInBounds_toArray, List.set_cons_zero, List.set_cons_succ]
        generalize World.alloc w2 _ = wk at hZ hB hHeld ⊢
        have hl0 := Row.lt hZ
        have z0 := (hZ.cell 0).trans rfl
        have y0 := hZ.free 0
        have z1 := (hZ.cell 1).trans rfl
        have y1 := hZ.free 1
        have z2 := (hZ.cell 2).trans rfl
        have y2 := hZ.free 2
        have z3 := (hZ.cell 3).trans rfl
        have y3 := hZ.free 3
        have z4 := (hZ.cell 4).trans rfl
        have y4 := hZ.free 4
        have z5 := (hZ.cell 5).trans rfl
        have y5 := hZ.free 5
        refine wpAnyH_ready (rs := [6]) (by kernel_rfl) (by simp) ?_
        refine AllReadyH.cons (o := ⟨none, _, _, _, _, _⟩) rfl (fun K hK => ?_) AllReadyH.nil
        go_simp
        have hp := (Row.put (Row.put (Row.put (Row.put (Row.put (Row.put hZ 0 (.int .i64 x)) 1 (.int .i64 x)) 2 (.int .i64 y)) 3 (.int .i64 y)) 4 (.int .i64 0)) 5 (.int .i64 0))
        have hb6 := ((((((hB.setCell (p := ⟨_, 0, none⟩) hjB (.int .i64 x)).setCell (p := ⟨_, 1, none⟩) hjB (.int .i64 x)).setCell (p := ⟨_, 2, none⟩) hjB (.int .i64 y)).setCell (p := ⟨_, 3, none⟩) hjB (.int .i64 y)).setCell (p := ⟨_, 4, none⟩) hjB (.int .i64 0)).setCell (p := ⟨_, 5, none⟩) hjB (.int .i64 0))
        have HF := Lib.hid (And.intro hp (And.intro hb6 hjB))
        clear z0 z1 z2 z3 z4 z5 y0 y1 y2 y3 y4 y5 hp hl0 hZ
        have hB := HF.out.2.1
        refine hK.out _ _ ?_ (fun hHeld2 => ?_)
        · (try dsimp only); exact ⟨((HR.out.1.below hB HR.out.1.lt).cell 0).trans rfl, ((HR.out.1.below hB HR.out.1.lt).cell 1).trans rfl, ((HR.out.1.below hB HR.out.1.lt).cell 2).trans rfl, ((HR.out.1.below hB HR.out.1.lt).cell 3).trans rfl, ((HR.out.2.1.below hB HR.out.2.1.lt).cell 0).trans rfl, ((HR.out.2.1.below hB HR.out.2.1.lt).cell 1).trans rfl, ((HR.out.2.1.below hB HR.out.2.1.lt).cell 2).trans rfl, ((HR.out.2.1.below hB HR.out.2.1.lt).cell 3).trans rfl⟩
        clear hK K hHeld hHeld2 hb6 hB hjB
        try simp only [Act.put, List.setIfInBounds_toArray, List.set_cons_zero, List.set_cons_succ]
        refine wpAnyH_done (by kernel_rfl) ?_ _
        go_wp2_with fail
        go_meet
        case rel => exact ⟨_, rfl, HF.out.1, HF.out.2.1, HF.out.2.2⟩
      refine AllReadyH.cons (o := ⟨some 9, _, _, _, _, _⟩) rfl (fun K hK => ?_) AllReadyH.nil
      go_simp
      have hZ : Row (World.alloc w1 (.cells #[.int .i64 0, .int .i64 0, .int .i64 0, .int .i64 0, .int .i64 0, .int .i64 0] 50)) w1.heap.size _ _ := Row.made w1 [.int .i64 0, .int .i64 0, .int .i64 0, .int .i64 0, .int .i64 0, .int .i64 0] 50
      have hjB : wa.heap.size ≤ w1.heap.size := hB.size
      have kb := below_map w1 (.cells #[.int .i64 0, .int .i64 0, .int .i64 0, .int .i64 0, .int .i64 0, .int .i64 0] 50)
      replace hB := hB.trans (kb.mono hB.size)
      clear kb
      refine hK.out _ _ ?_ (fun hHeld => ?_)
      · (try dsimp only); exact ⟨((HR.out.1.below hB HR.out.1.lt).cell 0).trans rfl, ((HR.out.1.below hB HR.out.1.lt).cell 1).trans rfl, ((HR.out.1.below hB HR.out.1.lt).cell 2).trans rfl, ((HR.out.1.below hB HR.out.1.lt).cell 3).trans rfl, ((HR.out.2.1.below hB HR.out.2.1.lt).cell 0).trans rfl, ((HR.out.2.1.below hB HR.out.2.1.lt).cell 1).trans rfl, ((HR.out.2.1.below hB HR.out.2.1.lt).cell 2).trans rfl, ((HR.out.2.1.below hB HR.out.2.1.lt).cell 3).trans rfl⟩
      clear hK K
      try simp only [Act.put, List.setIfInBounds_toArray, List.set_cons_zero, List.set_cons_succ]
      refine wpAnyH_ready (rs := [3]) (by kernel_rfl) (by simp) ?_
      refine AllReadyH.cons (o := ⟨some 17, _, _, _, _, _⟩) rfl (fun K hK => ?_) AllReadyH.nil
      go_simp
      go_at_call 29
      refine (HRB.out _).mono ?_
      rintro e w3 ⟨rfl, kb⟩
      replace hZ := Row.below hZ kb (Row.lt hZ)
      replace hB := hB.trans (kb.mono hB.size)
      clear kb
      refine hK.out _ _ ?_ (fun hHeld => ?_)
      · (try dsimp only); exact ⟨((HR.out.1.below hB HR.out.1.lt).cell 0).trans rfl, ((HR.out.1.below hB HR.out.1.lt).cell 1).trans rfl, ((HR.out.1.below hB HR.out.1.lt).cell 2).trans rfl, ((HR.out.1.below hB HR.out.1.lt).cell 3).trans rfl, ((HR.out.2.1.below hB HR.out.2.1.lt).cell 0).trans rfl, ((HR.out.2.1.below hB HR.out.2.1.lt).cell 1).trans rfl, ((HR.out.2.1.below hB HR.out.2.1.lt).cell 2).trans rfl, ((HR.out.2.1.below hB HR.out.2.1.lt).cell 3).trans rfl⟩
      clear hK K
      try simp only [Act.put, List.setIfInBounds_toArray, List.set_cons_zero, List.set_cons_succ]
      refine tkw 4 18 ?_
      have hl0 := Row.lt hZ
      have z0 := (hZ.cell 0).trans rfl
      have y0 := hZ.free 0
      have z1 := (hZ.cell 1).trans rfl
      have y1 := hZ.free 1
      have z2 := (hZ.cell 2).trans rfl
      have y2 := hZ.free 2
      have z3 := (hZ.cell 3).trans rfl
      have y3 := hZ.free 3
      have z4 := (hZ.cell 4).trans rfl
      have y4 := hZ.free 4
      have z5 := (hZ.cell 5).trans rfl
      have y5 := hZ.free 5
      refine wpAnyH_ready (rs := [6]) (by kernel_rfl) (by simp) ?_
      refine AllReadyH.cons (o := ⟨none, _, _, _, _, _⟩) rfl (fun K hK => ?_) AllReadyH.nil
      go_simp
      have hp := (Row.put (Row.put (Row.put (Row.put (Row.put (Row.put hZ 0 (.int .i64 x)) 1 (.int .i64 x)) 2 (.int .i64 y)) 3 (.int .i64 y)) 4 (.int .i64 0)) 5 (.int .i64 0))
      have hb6 := ((((((hB.setCell (p := ⟨_, 0, none⟩) hjB (.int .i64 x)).setCell (p := ⟨_, 1, none⟩) hjB (.int .i64 x)).setCell (p := ⟨_, 2, none⟩) hjB (.int .i64 y)).setCell (p := ⟨_, 3, none⟩) hjB (.int .i64 y)).setCell (p := ⟨_, 4, none⟩) hjB (.int .i64 0)).setCell (p := ⟨_, 5, none⟩) hjB (.int .i64 0))
      have HF := Lib.hid (And.intro hp (And.intro hb6 hjB))
      clear z0 z1 z2 z3 z4 z5 y0 y1 y2 y3 y4 y5 hp hl0 hZ
      have hB := HF.out.2.1
      refine hK.out _ _ ?_ (fun hHeld2 => ?_)
      · (try dsimp only); exact ⟨((HR.out.1.below hB HR.out.1.lt).cell 0).trans rfl, ((HR.out.1.below hB HR.out.1.lt).cell 1).trans rfl, ((HR.out.1.below hB HR.out.1.lt).cell 2).trans rfl, ((HR.out.1.below hB HR.out.1.lt).cell 3).trans rfl, ((HR.out.2.1.below hB HR.out.2.1.lt).cell 0).trans rfl, ((HR.out.2.1.below hB HR.out.2.1.lt).cell 1).trans rfl, ((HR.out.2.1.below hB HR.out.2.1.lt).cell 2).trans rfl, ((HR.out.2.1.below hB HR.out.2.1.lt).cell 3).trans rfl⟩
      clear hK K hHeld hHeld2 hb6 hB hjB
      try simp only [Act.put, List.setIfInBounds_toArray, List.set_cons_zero, List.set_cons_succ]
      refine wpAnyH_done (by kernel_rfl) ?_ _
      go_wp2_with fail
      go_meet
      case rel => exact ⟨_, rfl, HF.out.1, HF.out.2.1, HF.out.2.2⟩
    refine AllReadyH.cons (o := ⟨some 9, _, _, _, _, _⟩) rfl (fun K hK => ?_) AllReadyH.nil
    go_simp
    have hZ : Row (World.alloc wa.drew (.cells #[.int .i64 0, .int .i64 0, .int .i64 0, .int .i64 0, .int .i64 0, .int .i64 0] 50)) wa.heap.size _ _ := Row.made wa.drew [.int .i64 0, .int .i64 0, .int .i64 0, .int .i64 0, .int .i64 0, .int .i64 0] 50
    have hjB : wa.heap.size ≤ wa.heap.size := hB.size
    have kb := below_map wa.drew (.cells #[.int .i64 0, .int .i64 0, .int .i64 0, .int .i64 0, .int .i64 0, .int .i64 0] 50)
    replace hB := hB.trans (kb.mono hB.size)
    clear kb
    refine hK.out _ _ ?_ (fun hHeld => ?_)
    · (try dsimp only); exact ⟨((HR.out.1.below hB HR.out.1.lt).cell 0).trans rfl, ((HR.out.1.below hB HR.out.1.lt).cell 1).trans rfl, ((HR.out.1.below hB HR.out.1.lt).cell 2).trans rfl, ((HR.out.1.below hB HR.out.1.lt).cell 3).trans rfl, ((HR.out.2.1.below hB HR.out.2.1.lt).cell 0).trans rfl, ((HR.out.2.1.below hB HR.out.2.1.lt).cell 1).trans rfl, ((HR.out.2.1.below hB HR.out.2.1.lt).cell 2).trans rfl, ((HR.out.2.1.below hB HR.out.2.1.lt).cell 3).trans rfl⟩
    clear hK K
    try simp only [Act.put, List.setIfInBounds_toArray, List.set_cons_zero, List.set_cons_succ]
    refine wpAnyH_ready (rs := [1]) (by kernel_rfl) (by simp) ?_
    refine AllReadyH.cons (o := ⟨some 15, _, _, _, _, _⟩) rfl (fun K hK => ?_) AllReadyH.nil
    go_simp
    go_at_call 29
    refine (HRA.out _).mono ?_
    rintro e w4 ⟨rfl, kb⟩
    replace hZ := Row.below hZ kb (Row.lt hZ)
    replace hB := hB.trans (kb.mono hB.size)
    clear kb
    refine hK.out _ _ ?_ (fun hHeld => ?_)
    · (try dsimp only); exact ⟨((HR.out.1.below hB HR.out.1.lt).cell 0).trans rfl, ((HR.out.1.below hB HR.out.1.lt).cell 1).trans rfl, ((HR.out.1.below hB HR.out.1.lt).cell 2).trans rfl, ((HR.out.1.below hB HR.out.1.lt).cell 3).trans rfl, ((HR.out.2.1.below hB HR.out.2.1.lt).cell 0).trans rfl, ((HR.out.2.1.below hB HR.out.2.1.lt).cell 1).trans rfl, ((HR.out.2.1.below hB HR.out.2.1.lt).cell 2).trans rfl, ((HR.out.2.1.below hB HR.out.2.1.lt).cell 3).trans rfl⟩
    clear hK K
    try simp only [Act.put, List.setIfInBounds_toArray, List.set_cons_zero, List.set_cons_succ]
    refine wpAnyH_ready (rs := [3]) (by kernel_rfl) (by simp) ?_
    refine AllReadyH.cons (o := ⟨some 17, _, _, _, _, _⟩) rfl (fun K hK => ?_) AllReadyH.nil
    go_simp
    go_at_call 29
    refine (HRB.out _).mono ?_
    rintro e w5 ⟨rfl, kb⟩
    replace hZ := Row.below hZ kb (Row.lt hZ)
    replace hB := hB.trans (kb.mono hB.size)
    clear kb
    refine hK.out _ _ ?_ (fun hHeld => ?_)
    · (try dsimp only); exact ⟨((HR.out.1.below hB HR.out.1.lt).cell 0).trans rfl, ((HR.out.1.below hB HR.out.1.lt).cell 1).trans rfl, ((HR.out.1.below hB HR.out.1.lt).cell 2).trans rfl, ((HR.out.1.below hB HR.out.1.lt).cell 3).trans rfl, ((HR.out.2.1.below hB HR.out.2.1.lt).cell 0).trans rfl, ((HR.out.2.1.below hB HR.out.2.1.lt).cell 1).trans rfl, ((HR.out.2.1.below hB HR.out.2.1.lt).cell 2).trans rfl, ((HR.out.2.1.below hB HR.out.2.1.lt).cell 3).trans rfl⟩
    clear hK K
    try simp only [Act.put, List.setIfInBounds_toArray, List.set_cons_zero, List.set_cons_succ]
    refine tkw 4 18 ?_
    have hl0 := Row.lt hZ
    have z0 := (hZ.cell 0).trans rfl
    have y0 := hZ.free 0
    have z1 := (hZ.cell 1).trans rfl
    have y1 := hZ.free 1
    have z2 := (hZ.cell 2).trans rfl
    have y2 := hZ.free 2
    have z3 := (hZ.cell 3).trans rfl
    have y3 := hZ.free 3
    have z4 := (hZ.cell 4).trans rfl
    have y4 := hZ.free 4
    have z5 := (hZ.cell 5).trans rfl
    have y5 := hZ.free 5
    refine wpAnyH_ready (rs := [6]) (by kernel_rfl) (by simp) ?_
    refine AllReadyH.cons (o := ⟨none, _, _, _, _, _⟩) rfl (fun K hK => ?_) AllReadyH.nil
    go_simp
    have hp := (Row.put (Row.put (Row.put (Row.put (Row.put (Row.put hZ 0 (.int .i64 x)) 1 (.int .i64 x)) 2 (.int .i64 y)) 3 (.int .i64 y)) 4 (.int .i64 0)) 5 (.int .i64 0))
    have hb6 := ((((((hB.setCell (p := ⟨_, 0, none⟩) hjB (.int .i64 x)).setCell (p := ⟨_, 1, none⟩) hjB (.int .i64 x)).setCell (p := ⟨_, 2, none⟩) hjB (.int .i64 y)).setCell (p := ⟨_, 3, none⟩) hjB (.int .i64 y)).setCell (p := ⟨_, 4, none⟩) hjB (.int .i64 0)).setCell (p := ⟨_, 5, none⟩) hjB (.int .i64 0))
    have HF := Lib.hid (And.intro hp (And.intro hb6 hjB))
    clear z0 z1 z2 z3 z4 z5 y0 y1 y2 y3 y4 y5 hp hl0 hZ
    have hB := HF.out.2.1
    refine hK.out _ _ ?_ (fun hHeld2 => ?_)
    · (try dsimp only); exact ⟨((HR.out.1.below hB HR.out.1.lt).cell 0).trans rfl, ((HR.out.1.below hB HR.out.1.lt).cell 1).trans rfl, ((HR.out.1.below hB HR.out.1.lt).cell 2).trans rfl, ((HR.out.1.below hB HR.out.1.lt).cell 3).trans rfl, ((HR.out.2.1.below hB HR.out.2.1.lt).cell 0).trans rfl, ((HR.out.2.1.below hB HR.out.2.1.lt).cell 1).trans rfl, ((HR.out.2.1.below hB HR.out.2.1.lt).cell 2).trans rfl, ((HR.out.2.1.below hB HR.out.2.1.lt).cell 3).trans rfl⟩
    clear hK K hHeld hHeld2 hb6 hB hjB
    try simp only [Act.put, List.setIfInBounds_toArray, List.set_cons_zero, List.set_cons_succ]
    refine wpAnyH_done (by kernel_rfl) ?_ _
    go_wp2_with fail
    go_meet
    case rel => exact ⟨_, rfl, HF.out.1, HF.out.2.1, HF.out.2.2⟩

  case rest =>
    obtain ⟨j, rfl, hj, hb, hjB⟩ := hcut
    have HJ := Lib.hid (And.intro hj hb)
    obtain ⟨j0, j1, j2, j3⟩ := jcells hj
    clear hj hb hjB HRA HRB
    cases c15
    all_goals cases c14
    all_goals
      go_upto_region 5 with (first
        | (go_at_call 30; refine (single_of _ _ _).mono ?_; rintro e w1 ⟨rfl, hB1⟩; rw [hself]; have HJ := Lib.hid (And.intro (HJ.out.1.below hB1 HJ.out.1.lt) (HJ.out.2.trans (hB1.mono HJ.out.2.size))); clear hB1; obtain ⟨j0, j1, j2, j3⟩ := jcells HJ.out.1)
        | (go_at_call 31; refine (HG.out _).mono ?_; rintro e w1 ⟨rfl, hB1⟩; have HJ := Lib.hid (And.intro (HJ.out.1.below hB1 HJ.out.1.lt) (HJ.out.2.trans (hB1.mono HJ.out.2.size))); clear hB1; obtain ⟨j0, j1, j2, j3⟩ := jcells HJ.out.1)
        | fail "none")
      go_wp2_with fail
      refine (HOF.out _).mono ?_
      rintro e w5 ⟨rfl, hB5⟩
      have hxB := HJ.out.2.trans (hB5.mono HJ.out.2.size)
      have hx := HR.out.2.2.1.below hxB HR.out.2.2.1.lt
      have hxw := HR.out.2.2.2.trans (hxB.mono HR.out.2.2.2.size)
      obtain ⟨⟨q0, q1, q2, q3⟩, f0, f1, f2, f3⟩ := spc_row hx
      obtain ⟨⟨z0, z1, z2, z3⟩, _⟩ := spc_row (spc_put hx v v false false)
      have HBZ := Lib.hid (below_set4 hxw (show w.heap.size ≤ w.heap.size + 1 + 1 by omega) (.int .i64 v) (.int .i64 v) (.bool false) (.bool false))
      have Z := Lib.hid (And.intro z0 (And.intro z1 (And.intro z2 z3)))
      clear z0 z1 z2 z3 hx hxB hxw hB5 HJ HR j0 j1 j2 j3
      go_wp2
      obtain ⟨z0, z1, z2, z3⟩ := Z.out
      exact bodyPost_ret (v := .agg #[.int .i64 v, .int .i64 v, .bool false, .bool false]) (by simp [results, Tryz.results10, go_sem, z0, z1, z2, z3]) rfl ⟨rfl, HBZ.out⟩
end Go.Proofs.YtcmplcdbkoodpaaGreatDoor
