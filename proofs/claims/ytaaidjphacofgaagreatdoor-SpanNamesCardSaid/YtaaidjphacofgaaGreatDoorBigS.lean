/-
  Spans: the difference of any two spans.
-/
import Derived.Test.YtaaidjphacofgaaGreatDoorBigF
import Derived.Test.YtaaidjphacofgaaGreatDoorBigM
namespace Go.Proofs.YtaaidjphacofgaaGreatDoor
open Go.RowKit
set_option linter.unusedVariables false
set_option linter.unusedSimpArgs false

/-- A number of 64 bits. -/
def I64 (x : Int) : Prop := -9223372036854775808 ≤ x ∧ x ≤ 9223372036854775807
set_option maxRecDepth 100000 in
set_option maxHeartbeats 16000000 in
theorem job_sub (a b c d cl ch : Int) (ha : I64 a) (hb : I64 b) (hc : I64 c) (hd : I64 d) (w : World) :
    Calls Tryz.prog 30 #[.agg #[.int .i64 a, .int .i64 b, .int .i64 c, .int .i64 d, .int .i64 cl, .int .i64 ch]] w (Ret w (.tuple #[fromv (a - d) (b - c), .bool (isI (a - d) && isI (b - c))])) := by
  have hfit := fun p q w hp hq => fit_any p q (a - d) (b - c) w hp hq
  unfold fromv at hfit ⊢
  generalize oflo (a - d) = A at hfit ⊢
  generalize ofhi (b - c) = B at hfit ⊢
  generalize decide ((a - d) < -1152921504606846976) = P at hfit ⊢
  generalize decide (1152921504606846976 < (b - c)) = Q at hfit ⊢
  generalize (isI (a - d) && isI (b - c)) = R at hfit ⊢
  have FIT := Lib.hid hfit
  have HI := Lib.hid (And.intro ha (And.intro hb (And.intro hc hd)))
  clear hfit ha hb hc hd
  have r1 : Row ((w.alloc (.cells #[.int .i64 a, .int .i64 b, .int .i64 c, .int .i64 d, .int .i64 cl, .int .i64 ch] 38)).alloc (.cells #[.int .i64 0, .int .i64 0, .bool false, .bool false] 23)) w.heap.size 38 [.int .i64 a, .int .i64 b, .int .i64 c, .int .i64 d, .int .i64 cl, .int .i64 ch] := (Row.made w [.int .i64 a, .int .i64 b, .int .i64 c, .int .i64 d, .int .i64 cl, .int .i64 ch] 38).alloc _
  have r2 : Row ((w.alloc (.cells #[.int .i64 a, .int .i64 b, .int .i64 c, .int .i64 d, .int .i64 cl, .int .i64 ch] 38)).alloc (.cells #[.int .i64 0, .int .i64 0, .bool false, .bool false] 23)) (w.heap.size + 1) 23 (spc 0 0 false false) := row2 w _ (spc 0 0 false false) _
  have b3 : Below w.heap.size w ((w.alloc (.cells #[.int .i64 a, .int .i64 b, .int .i64 c, .int .i64 d, .int .i64 cl, .int .i64 ch] 38)).alloc (.cells #[.int .i64 0, .int .i64 0, .bool false, .bool false] 23)) := (below_map w _).alloc (by simp) _
  have HR := Lib.hid (And.intro r1 (And.intro r2 b3))
  clear r1 r2 b3
  go_enter Tryz.func30, Tryz.ntmps30
  go_upto_region 1 with fail
  generalize World.alloc _ _ = wa at HR ⊢
  have hB : Below wa.heap.size wa wa.drew := (Below.refl _ _).drew
  refine wp_region_held_drew (S := fun w' => w'.cell? ⟨w.heap.size, 0, none⟩ = some (.int .i64 a) ∧ w'.cell? ⟨w.heap.size, 1, none⟩ = some (.int .i64 b) ∧ w'.cell? ⟨w.heap.size, 2, none⟩ = some (.int .i64 c) ∧ w'.cell? ⟨w.heap.size, 3, none⟩ = some (.int .i64 d)) (by kernel_rfl) ?_ (fun hHeld => ?_)
  · (try dsimp only); exact ⟨((HR.out.1.below hB HR.out.1.lt).cell 0).trans rfl, ((HR.out.1.below hB HR.out.1.lt).cell 1).trans rfl, ((HR.out.1.below hB HR.out.1.lt).cell 2).trans rfl, ((HR.out.1.below hB HR.out.1.lt).cell 3).trans rfl⟩
  refine tkw 1 5 ?_
  refine tkw 2 6 ?_
  refine tkw 3 7 ?_
  refine tkw 5 9 ?_
  refine tkw 6 10 ?_
  refine tkw 7 11 ?_
  refine tkw 11 15 ?_
  refine tkw 12 16 ?_
  refine tkw 13 17 ?_
  refine tkw 15 19 ?_
  refine tkw 16 20 ?_
  refine tkw 17 21 ?_
  refine wpAnyH_ready (rs := [0, 4, 10]) (by kernel_rfl) (by simp) ?_
  refine AllReadyH.cons (o := ⟨some 4, _, _, _, _, _⟩) rfl (fun K hK => ?_) ?_
  · go_simp
    have hB0 := hB.size
    have kb := below_map wa.drew (.cells #[.bool false, .slice none 0 0] 66)
    replace hB := hB.trans (kb.mono hB.size)
    have Z0 : ZB (wa.drew.alloc (.cells #[.bool false, .slice none 0 0] 66)) wa.drew.heap.size := Row.made wa.drew [.bool false, .slice none 0 0] 66
    have hb0 : wa.heap.size ≤ wa.drew.heap.size := hB0
    clear kb hB0
    refine hK.out _ _ ?_ (fun hHeld => ?_)
    · (try dsimp only); exact ⟨((HR.out.1.below hB HR.out.1.lt).cell 0).trans rfl, ((HR.out.1.below hB HR.out.1.lt).cell 1).trans rfl, ((HR.out.1.below hB HR.out.1.lt).cell 2).trans rfl, ((HR.out.1.below hB HR.out.1.lt).cell 3).trans rfl⟩
    clear hK K hHeld
    try simp only [Act.put, List.setIfInBounds_toArray, List.set_cons_zero, List.set_cons_succ]
    refine wpAnyH_ready (rs := [4, 10]) (by kernel_rfl) (by simp) ?_
    refine AllReadyH.cons (o := ⟨some 8, _, _, _, _, _⟩) rfl (fun K hK => ?_) ?_
    · go_simp
      go_at_call 45
      refine (num_any a HI.out.1 _).mono ?_
      rintro e w1 ⟨qn0, hq, rfl, n0, kb⟩
      have en0_0 : qn0 ≠ wa.drew.heap.size := Nat.ne_of_gt (Nat.lt_of_lt_of_le (Row.lt Z0) hq)
      clear hq
      replace Z0 := Row.below Z0 kb (Row.lt Z0)
      replace hB := hB.trans (kb.mono hB.size)
      clear kb
      refine hK.out _ _ ?_ (fun hHeld => ?_)
      · (try dsimp only); exact ⟨((HR.out.1.below hB HR.out.1.lt).cell 0).trans rfl, ((HR.out.1.below hB HR.out.1.lt).cell 1).trans rfl, ((HR.out.1.below hB HR.out.1.lt).cell 2).trans rfl, ((HR.out.1.below hB HR.out.1.lt).cell 3).trans rfl⟩
      clear hK K hHeld
      try simp only [Act.put, List.setIfInBounds_toArray, List.set_cons_zero, List.set_cons_succ]
      refine wpAnyH_ready (rs := [8, 10]) (by kernel_rfl) (by simp) ?_
      refine AllReadyH.cons (o := ⟨some 12, _, _, _, _, _⟩) rfl (fun K hK => ?_) ?_
      · go_simp
        go_at_call 45
        refine (num_any d HI.out.2.2.2 _).mono ?_
        rintro e w2 ⟨qn1, hq, rfl, n1, kb⟩
        have en1_0 : qn1 ≠ wa.drew.heap.size := Nat.ne_of_gt (Nat.lt_of_lt_of_le (Row.lt Z0) hq)
        clear hq
        replace n0 := n0.below kb
        replace Z0 := Row.below Z0 kb (Row.lt Z0)
        replace hB := hB.trans (kb.mono hB.size)
        clear kb
        refine hK.out _ _ ?_ (fun hHeld => ?_)
        · (try dsimp only); exact ⟨((HR.out.1.below hB HR.out.1.lt).cell 0).trans rfl, ((HR.out.1.below hB HR.out.1.lt).cell 1).trans rfl, ((HR.out.1.below hB HR.out.1.lt).cell 2).trans rfl, ((HR.out.1.below hB HR.out.1.lt).cell 3).trans rfl⟩
        clear hK K hHeld
        try simp only [Act.put, List.setIfInBounds_toArray, List.set_cons_zero, List.set_cons_succ]
        refine wpAnyH_ready (rs := [9, 10]) (by kernel_rfl) (by simp) ?_
        refine AllReadyH.cons (o := ⟨some 13, _, _, _, _, _⟩) rfl (fun K hK => ?_) ?_
        · go_simp
          go_at_call 74
          refine (sub_any _ _ _ a d HI.out.1 HI.out.2.2.2 en0_0 en1_0 _ Z0 n0 n1).mono ?_
          rintro e w3 ⟨rfl, P0, kk⟩
          replace n0 := n0.kept en0_0 Z0 kk
          replace n1 := n1.kept en1_0 Z0 kk
          replace hB := hB.trans (kk.below hB.size (mem1 hb0))
          clear kk Z0 hb0
          refine hK.out _ _ ?_ (fun hHeld => ?_)
          · (try dsimp only); exact ⟨((HR.out.1.below hB HR.out.1.lt).cell 0).trans rfl, ((HR.out.1.below hB HR.out.1.lt).cell 1).trans rfl, ((HR.out.1.below hB HR.out.1.lt).cell 2).trans rfl, ((HR.out.1.below hB HR.out.1.lt).cell 3).trans rfl⟩
          clear hK K hHeld
          try simp only [Act.put, List.setIfInBounds_toArray, List.set_cons_zero, List.set_cons_succ]
          refine wpAnyH_ready (rs := [10, 14]) (by kernel_rfl) (by simp) ?_
          refine AllReadyH.cons (o := ⟨some 14, _, _, _, _, _⟩) rfl (fun K hK => ?_) ?_
          · go_simp
            have hB0 := hB.size
            have kb := below_map w3 (.cells #[.bool false, .slice none 0 0] 66)
            have en0_1 : qn0 ≠ w3.heap.size := by have hlt := n0.lt; exact Nat.ne_of_lt hlt
            have en1_1 : qn1 ≠ w3.heap.size := by have hlt := n1.lt; exact Nat.ne_of_lt hlt
            have eP0_1 : wa.drew.heap.size ≠ w3.heap.size := by have hlt := P0.lt; exact Nat.ne_of_lt hlt
            replace n0 := n0.below kb
            replace n1 := n1.below kb
            replace P0 := P0.below kb
            replace hB := hB.trans (kb.mono hB.size)
            have Z1 : ZB (w3.alloc (.cells #[.bool false, .slice none 0 0] 66)) w3.heap.size := Row.made w3 [.bool false, .slice none 0 0] 66
            have hb1 : wa.heap.size ≤ w3.heap.size := hB0
            clear kb hB0
            refine hK.out _ _ ?_ (fun hHeld => ?_)
            · (try dsimp only); exact ⟨((HR.out.1.below hB HR.out.1.lt).cell 0).trans rfl, ((HR.out.1.below hB HR.out.1.lt).cell 1).trans rfl, ((HR.out.1.below hB HR.out.1.lt).cell 2).trans rfl, ((HR.out.1.below hB HR.out.1.lt).cell 3).trans rfl⟩
            clear hK K hHeld
            try simp only [Act.put, List.setIfInBounds_toArray, List.set_cons_zero, List.set_cons_succ]
            refine wpAnyH_ready (rs := [14]) (by kernel_rfl) (by simp) ?_
            refine AllReadyH.cons (o := ⟨some 18, _, _, _, _, _⟩) rfl (fun K hK => ?_) AllReadyH.nil
            go_simp
            go_at_call 45
            refine (num_any b HI.out.2.1 _).mono ?_
            rintro e w4 ⟨qm0, hq, rfl, m0, kb⟩
            have em0_1 : qm0 ≠ w3.heap.size := Nat.ne_of_gt (Nat.lt_of_lt_of_le (Row.lt Z1) hq)
            clear hq
            replace n0 := n0.below kb
            replace n1 := n1.below kb
            replace P0 := P0.below kb
            replace Z1 := Row.below Z1 kb (Row.lt Z1)
            replace hB := hB.trans (kb.mono hB.size)
            clear kb
            refine hK.out _ _ ?_ (fun hHeld => ?_)
            · (try dsimp only); exact ⟨((HR.out.1.below hB HR.out.1.lt).cell 0).trans rfl, ((HR.out.1.below hB HR.out.1.lt).cell 1).trans rfl, ((HR.out.1.below hB HR.out.1.lt).cell 2).trans rfl, ((HR.out.1.below hB HR.out.1.lt).cell 3).trans rfl⟩
            clear hK K hHeld
            try simp only [Act.put, List.setIfInBounds_toArray, List.set_cons_zero, List.set_cons_succ]
            refine wpAnyH_ready (rs := [18]) (by kernel_rfl) (by simp) ?_
            refine AllReadyH.cons (o := ⟨some 22, _, _, _, _, _⟩) rfl (fun K hK => ?_) AllReadyH.nil
            go_simp
            go_at_call 45
            refine (num_any c HI.out.2.2.1 _).mono ?_
            rintro e w5 ⟨qm1, hq, rfl, m1, kb⟩
            have em1_1 : qm1 ≠ w3.heap.size := Nat.ne_of_gt (Nat.lt_of_lt_of_le (Row.lt Z1) hq)
            clear hq
            replace n0 := n0.below kb
            replace n1 := n1.below kb
            replace P0 := P0.below kb
            replace m0 := m0.below kb
            replace Z1 := Row.below Z1 kb (Row.lt Z1)
            replace hB := hB.trans (kb.mono hB.size)
            clear kb
            refine hK.out _ _ ?_ (fun hHeld => ?_)
            · (try dsimp only); exact ⟨((HR.out.1.below hB HR.out.1.lt).cell 0).trans rfl, ((HR.out.1.below hB HR.out.1.lt).cell 1).trans rfl, ((HR.out.1.below hB HR.out.1.lt).cell 2).trans rfl, ((HR.out.1.below hB HR.out.1.lt).cell 3).trans rfl⟩
            clear hK K hHeld
            try simp only [Act.put, List.setIfInBounds_toArray, List.set_cons_zero, List.set_cons_succ]
            refine wpAnyH_ready (rs := [19]) (by kernel_rfl) (by simp) ?_
            refine AllReadyH.cons (o := ⟨some 23, _, _, _, _, _⟩) rfl (fun K hK => ?_) AllReadyH.nil
            go_simp
            go_at_call 74
            refine (sub_any _ _ _ b c HI.out.2.1 HI.out.2.2.1 em0_1 em1_1 _ Z1 m0 m1).mono ?_
            rintro e w6 ⟨rfl, P1, kk⟩
            replace n0 := n0.kept en0_1 Z1 kk
            replace n1 := n1.kept en1_1 Z1 kk
            replace P0 := P0.kept eP0_1 Z1 kk
            replace m0 := m0.kept em0_1 Z1 kk
            replace m1 := m1.kept em1_1 Z1 kk
            replace hB := hB.trans (kk.below hB.size (mem1 hb1))
            clear kk Z1 hb1
            refine hK.out _ _ ?_ (fun hHeld => ?_)
            · (try dsimp only); exact ⟨((HR.out.1.below hB HR.out.1.lt).cell 0).trans rfl, ((HR.out.1.below hB HR.out.1.lt).cell 1).trans rfl, ((HR.out.1.below hB HR.out.1.lt).cell 2).trans rfl, ((HR.out.1.below hB HR.out.1.lt).cell 3).trans rfl⟩
            clear hK K hHeld
            try simp only [Act.put, List.setIfInBounds_toArray, List.set_cons_zero, List.set_cons_succ]
            refine wpAnyH_ready (rs := [20]) (by kernel_rfl) (by simp) ?_
            refine AllReadyH.cons (o := ⟨some 24, _, _, _, _, _⟩) rfl (fun K hK => ?_) AllReadyH.nil
            go_simp
            go_at_call 43
            refine (FIT.out _ _ _ P0 P1).mono ?_
            rintro e w7 ⟨rfl, kb⟩
            replace hB := hB.trans (kb.mono hB.size)
            clear kb
            refine hK.out _ _ ?_ (fun hHeld => ?_)
            · (try dsimp only); exact ⟨((HR.out.1.below hB HR.out.1.lt).cell 0).trans rfl, ((HR.out.1.below hB HR.out.1.lt).cell 1).trans rfl, ((HR.out.1.below hB HR.out.1.lt).cell 2).trans rfl, ((HR.out.1.below hB HR.out.1.lt).cell 3).trans rfl⟩
            clear hK K
            try simp only [Act.put, List.setIfInBounds_toArray, List.set_cons_zero, List.set_cons_succ]
            refine tkw 21 25 ?_
            refine tkw 22 26 ?_
            have hr2 := HR.out.2.1.below hB HR.out.2.1.lt
            have hr1 := HR.out.1.below hB HR.out.1.lt
            have hb2 := HR.out.2.2.trans (hB.mono HR.out.2.2.size)
            obtain ⟨⟨q0, q1, q2, q3⟩, f0, f1, f2, f3⟩ := spc_row hr2
            refine wpAnyH_ready (rs := [23]) (by kernel_rfl) (by simp) ?_
            refine AllReadyH.cons (o := ⟨none, _, _, _, _, _⟩) rfl (fun K hK => ?_) AllReadyH.nil
            go_simp
            refine hK.out _ _ ?_ (fun hHeld => ?_)
            · have ho := (((hr1.other ⟨w.heap.size + 1, 0, none⟩ (.int .i64 A) (by simp)).other ⟨w.heap.size + 1, 1, none⟩ (.int .i64 B) (by simp)).other ⟨w.heap.size + 1, 2, none⟩ (.bool P) (by simp)).other ⟨w.heap.size + 1, 3, none⟩ (.bool Q) (by simp)
              (try dsimp only)
              exact ⟨(ho.cell 0).trans rfl, (ho.cell 1).trans rfl, (ho.cell 2).trans rfl, (ho.cell 3).trans rfl⟩
            clear hK K
            try simp only [Act.put, List.setIfInBounds_toArray, List.set_cons_zero, List.set_cons_succ]
            refine tkw 24 3 ?_
            refine wpAnyH_done (by kernel_rfl) ?_ _
            clear hHeld
            obtain ⟨⟨z0, z1, z2, z3⟩, _⟩ := spc_row (spc_put hr2 A B P Q)
            have HBZ := Lib.hid (below_set4 hb2 (Nat.le_succ w.heap.size) (.int .i64 A) (.int .i64 B) (.bool P) (.bool Q))
            have Z := Lib.hid (And.intro z0 (And.intro z1 (And.intro z2 z3)))
            clear z0 z1 z2 z3 hr1 hr2 hb2
            go_wp2
            obtain ⟨z0, z1, z2, z3⟩ := Z.out
            exact bodyPost_ret (v := .tuple #[.agg #[.int .i64 A, .int .i64 B, .bool P, .bool Q], .bool R]) (by simp [results, Tryz.results30, go_sem, z0, z1, z2, z3]) rfl ⟨rfl, HBZ.out⟩
          refine AllReadyH.cons (o := ⟨some 18, _, _, _, _, _⟩) rfl (fun K hK => ?_) AllReadyH.nil
          go_simp
          go_at_call 45
          refine (num_any b HI.out.2.1 _).mono ?_
          rintro e w8 ⟨qm0, hq, rfl, m0, kb⟩
          clear hq
          replace n0 := n0.below kb
          replace n1 := n1.below kb
          replace P0 := P0.below kb
          replace hB := hB.trans (kb.mono hB.size)
          clear kb
          refine hK.out _ _ ?_ (fun hHeld => ?_)
          · (try dsimp only); exact ⟨((HR.out.1.below hB HR.out.1.lt).cell 0).trans rfl, ((HR.out.1.below hB HR.out.1.lt).cell 1).trans rfl, ((HR.out.1.below hB HR.out.1.lt).cell 2).trans rfl, ((HR.out.1.below hB HR.out.1.lt).cell 3).trans rfl⟩
          clear hK K hHeld
          try simp only [Act.put, List.setIfInBounds_toArray, List.set_cons_zero, List.set_cons_succ]
          refine wpAnyH_ready (rs := [10, 18]) (by kernel_rfl) (by simp) ?_
          refine AllReadyH.cons (o := ⟨some 14, _, _, _, _, _⟩) rfl (fun K hK => ?_) ?_
          · go_simp
            have hB0 := hB.size
            have kb := below_map w8 (.cells #[.bool false, .slice none 0 0] 66)
            have en0_1 : qn0 ≠ w8.heap.size := by have hlt := n0.lt; exact Nat.ne_of_lt hlt
            have en1_1 : qn1 ≠ w8.heap.size := by have hlt := n1.lt; exact Nat.ne_of_lt hlt
            have eP0_1 : wa.drew.heap.size ≠ w8.heap.size := by have hlt := P0.lt; exact Nat.ne_of_lt hlt
            have em0_1 : qm0 ≠ w8.heap.size := by have hlt := m0.lt; exact Nat.ne_of_lt hlt
            replace n0 := n0.below kb
            replace n1 := n1.below kb
            replace P0 := P0.below kb
            replace m0 := m0.below kb
            replace hB := hB.trans (kb.mono hB.size)
            have Z1 : ZB (w8.alloc (.cells #[.bool false, .slice none 0 0] 66)) w8.heap.size := Row.made w8 [.bool false, .slice none 0 0] 66
            have hb1 : wa.heap.size ≤ w8.heap.size := hB0
            clear kb hB0
            refine hK.out _ _ ?_ (fun hHeld => ?_)
            · (try dsimp only); exact ⟨((HR.out.1.below hB HR.out.1.lt).cell 0).trans rfl, ((HR.out.1.below hB HR.out.1.lt).cell 1).trans rfl, ((HR.out.1.below hB HR.out.1.lt).cell 2).trans rfl, ((HR.out.1.below hB HR.out.1.lt).cell 3).trans rfl⟩
            clear hK K hHeld
            try simp only [Act.put, List.setIfInBounds_toArray, List.set_cons_zero, List.set_cons_succ]
            refine wpAnyH_ready (rs := [18]) (by kernel_rfl) (by simp) ?_
            refine AllReadyH.cons (o := ⟨some 22, _, _, _, _, _⟩) rfl (fun K hK => ?_) AllReadyH.nil
            go_simp
            go_at_call 45
            refine (num_any c HI.out.2.2.1 _).mono ?_
            rintro e w9 ⟨qm1, hq, rfl, m1, kb⟩
            have em1_1 : qm1 ≠ w8.heap.size := Nat.ne_of_gt (Nat.lt_of_lt_of_le (Row.lt Z1) hq)
            clear hq
            replace n0 := n0.below kb
            replace n1 := n1.below kb
            replace P0 := P0.below kb
            replace m0 := m0.below kb
            replace Z1 := Row.below Z1 kb (Row.lt Z1)
            replace hB := hB.trans (kb.mono hB.size)
            clear kb
            refine hK.out _ _ ?_ (fun hHeld => ?_)
            · (try dsimp only); exact ⟨((HR.out.1.below hB HR.out.1.lt).cell 0).trans rfl, ((HR.out.1.below hB HR.out.1.lt).cell 1).trans rfl, ((HR.out.1.below hB HR.out.1.lt).cell 2).trans rfl, ((HR.out.1.below hB HR.out.1.lt).cell 3).trans rfl⟩
            clear hK K hHeld
            try simp only [Act.put, List.setIfInBounds_toArray, List.set_cons_zero, List.set_cons_succ]
            refine wpAnyH_ready (rs := [19]) (by kernel_rfl) (by simp) ?_
            refine AllReadyH.cons (o := ⟨some 23, _, _, _, _, _⟩) rfl (fun K hK => ?_) AllReadyH.nil
            go_simp
            go_at_call 74
            refine (sub_any _ _ _ b c HI.out.2.1 HI.out.2.2.1 em0_1 em1_1 _ Z1 m0 m1).mono ?_
            rintro e w10 ⟨rfl, P1, kk⟩
            replace n0 := n0.kept en0_1 Z1 kk
            replace n1 := n1.kept en1_1 Z1 kk
            replace P0 := P0.kept eP0_1 Z1 kk
            replace m0 := m0.kept em0_1 Z1 kk
            replace m1 := m1.kept em1_1 Z1 kk
            replace hB := hB.trans (kk.below hB.size (mem1 hb1))
            clear kk Z1 hb1
            refine hK.out _ _ ?_ (fun hHeld => ?_)
            · (try dsimp only); exact ⟨((HR.out.1.below hB HR.out.1.lt).cell 0).trans rfl, ((HR.out.1.below hB HR.out.1.lt).cell 1).trans rfl, ((HR.out.1.below hB HR.out.1.lt).cell 2).trans rfl, ((HR.out.1.below hB HR.out.1.lt).cell 3).trans rfl⟩
            clear hK K hHeld
            try simp only [Act.put, List.setIfInBounds_toArray, List.set_cons_zero, List.set_cons_succ]
            refine wpAnyH_ready (rs := [20]) (by kernel_rfl) (by simp) ?_
            refine AllReadyH.cons (o := ⟨some 24, _, _, _, _, _⟩) rfl (fun K hK => ?_) AllReadyH.nil
            go_simp
            go_at_call 43
            refine (FIT.out _ _ _ P0 P1).mono ?_
            rintro e w11 ⟨rfl, kb⟩
            replace hB := hB.trans (kb.mono hB.size)
            clear kb
            refine hK.out _ _ ?_ (fun hHeld => ?_)
            · (try dsimp only); exact ⟨((HR.out.1.below hB HR.out.1.lt).cell 0).trans rfl, ((HR.out.1.below hB HR.out.1.lt).cell 1).trans rfl, ((HR.out.1.below hB HR.out.1.lt).cell 2).trans rfl, ((HR.out.1.below hB HR.out.1.lt).cell 3).trans rfl⟩
            clear hK K
            try simp only [Act.put, List.setIfInBounds_toArray, List.set_cons_zero, List.set_cons_succ]
            refine tkw 21 25 ?_
            refine tkw 22 26 ?_
            have hr2 := HR.out.2.1.below hB HR.out.2.1.lt
            have hr1 := HR.out.1.below hB HR.out.1.lt
            have hb2 := HR.out.2.2.trans (hB.mono HR.out.2.2.size)
            obtain ⟨⟨q0, q1, q2, q3⟩, f0, f1, f2, f3⟩ := spc_row hr2
            refine wpAnyH_ready (rs := [23]) (by kernel_rfl) (by simp) ?_
            refine AllReadyH.cons (o := ⟨none, _, _, _, _, _⟩) rfl (fun K hK => ?_) AllReadyH.nil
            go_simp
            refine hK.out _ _ ?_ (fun hHeld => ?_)
            · have ho := (((hr1.other ⟨w.heap.size + 1, 0, none⟩ (.int .i64 A) (by simp)).other ⟨w.heap.size + 1, 1, none⟩ (.int .i64 B) (by simp)).other ⟨w.heap.size + 1, 2, none⟩ (.bool P) (by simp)).other ⟨w.heap.size + 1, 3, none⟩ (.bool Q) (by simp)
              (try dsimp only)
              exact ⟨(ho.cell 0).trans rfl, (ho.cell 1).trans rfl, (ho.cell 2).trans rfl, (ho.cell 3).trans rfl⟩
            clear hK K
            try simp only [Act.put, List.setIfInBounds_toArray, List.set_cons_zero, List.set_cons_succ]
            refine tkw 24 3 ?_
            refine wpAnyH_done (by kernel_rfl) ?_ _
            clear hHeld
            obtain ⟨⟨z0, z1, z2, z3⟩, _⟩ := spc_row (spc_put hr2 A B P Q)
            have HBZ := Lib.hid (below_set4 hb2 (Nat.le_succ w.heap.size) (.int .i64 A) (.int .i64 B) (.bool P) (.bool Q))
            have Z := Lib.hid (And.intro z0 (And.intro z1 (And.intro z2 z3)))
            clear z0 z1 z2 z3 hr1 hr2 hb2
            go_wp2
            obtain ⟨z0, z1, z2, z3⟩ := Z.out
            exact bodyPost_ret (v := .tuple #[.agg #[.int .i64 A, .int .i64 B, .bool P, .bool Q], .bool R]) (by simp [results, Tryz.results30, go_sem, z0, z1, z2, z3]) rfl ⟨rfl, HBZ.out⟩
          refine AllReadyH.cons (o := ⟨some 22, _, _, _, _, _⟩) rfl (fun K hK => ?_) AllReadyH.nil
          go_simp
          go_at_call 45
          refine (num_any c HI.out.2.2.1 _).mono ?_
          rintro e w12 ⟨qm1, hq, rfl, m1, kb⟩
          clear hq
          replace n0 := n0.below kb
          replace n1 := n1.below kb
          replace P0 := P0.below kb
          replace m0 := m0.below kb
          replace hB := hB.trans (kb.mono hB.size)
          clear kb
          refine hK.out _ _ ?_ (fun hHeld => ?_)
          · (try dsimp only); exact ⟨((HR.out.1.below hB HR.out.1.lt).cell 0).trans rfl, ((HR.out.1.below hB HR.out.1.lt).cell 1).trans rfl, ((HR.out.1.below hB HR.out.1.lt).cell 2).trans rfl, ((HR.out.1.below hB HR.out.1.lt).cell 3).trans rfl⟩
          clear hK K hHeld
          try simp only [Act.put, List.setIfInBounds_toArray, List.set_cons_zero, List.set_cons_succ]
          refine wpAnyH_ready (rs := [10]) (by kernel_rfl) (by simp) ?_
          refine AllReadyH.cons (o := ⟨some 14, _, _, _, _, _⟩) rfl (fun K hK => ?_) AllReadyH.nil
          go_simp
          have hB0 := hB.size
          have kb := below_map w12 (.cells #[.bool false, .slice none 0 0] 66)
          have en0_1 : qn0 ≠ w12.heap.size := by have hlt := n0.lt; exact Nat.ne_of_lt hlt
          have en1_1 : qn1 ≠ w12.heap.size := by have hlt := n1.lt; exact Nat.ne_of_lt hlt
          have eP0_1 : wa.drew.heap.size ≠ w12.heap.size := by have hlt := P0.lt; exact Nat.ne_of_lt hlt
          have em0_1 : qm0 ≠ w12.heap.size := by have hlt := m0.lt; exact Nat.ne_of_lt hlt
          have em1_1 : qm1 ≠ w12.heap.size := by have hlt := m1.lt; exact Nat.ne_of_lt hlt
          replace n0 := n0.below kb
          replace n1 := n1.below kb
          replace P0 := P0.below kb
          replace m0 := m0.below kb
          replace m1 := m1.below kb
          replace hB := hB.trans (kb.mono hB.size)
          have Z1 : ZB (w12.alloc (.cells #[.bool false, .slice none 0 0] 66)) w12.heap.size := Row.made w12 [.bool false, .slice none 0 0] 66
          have hb1 : wa.heap.size ≤ w12.heap.size := hB0
          clear kb hB0
          refine hK.out _ _ ?_ (fun hHeld => ?_)
          · (try dsimp only); exact ⟨((HR.out.1.below hB HR.out.1.lt).cell 0).trans rfl, ((HR.out.1.below hB HR.out.1.lt).cell 1).trans rfl, ((HR.out.1.below hB HR.out.1.lt).cell 2).trans rfl, ((HR.out.1.below hB HR.out.1.lt).cell 3).trans rfl⟩
          clear hK K hHeld
          try simp only [Act.put, List.setIfInBounds_toArray, List.set_cons_zero, List.set_cons_succ]
          refine wpAnyH_ready (rs := [19]) (by kernel_rfl) (by simp) ?_
          refine AllReadyH.cons (o := ⟨some 23, _, _, _, _, _⟩) rfl (fun K hK => ?_) AllReadyH.nil
          go_simp
          go_at_call 74
          refine (sub_any _ _ _ b c HI.out.2.1 HI.out.2.2.1 em0_1 em1_1 _ Z1 m0 m1).mono ?_
          rintro e w13 ⟨rfl, P1, kk⟩
          replace n0 := n0.kept en0_1 Z1 kk
          replace n1 := n1.kept en1_1 Z1 kk
          replace P0 := P0.kept eP0_1 Z1 kk
          replace m0 := m0.kept em0_1 Z1 kk
          replace m1 := m1.kept em1_1 Z1 kk
          replace hB := hB.trans (kk.below hB.size (mem1 hb1))
          clear kk Z1 hb1
          refine hK.out _ _ ?_ (fun hHeld => ?_)
          · (try dsimp only); exact ⟨((HR.out.1.below hB HR.out.1.lt).cell 0).trans rfl, ((HR.out.1.below hB HR.out.1.lt).cell 1).trans rfl, ((HR.out.1.below hB HR.out.1.lt).cell 2).trans rfl, ((HR.out.1.below hB HR.out.1.lt).cell 3).trans rfl⟩
          clear hK K hHeld
          try simp only [Act.put, List.setIfInBounds_toArray, List.set_cons_zero, List.set_cons_succ]
          refine wpAnyH_ready (rs := [20]) (by kernel_rfl) (by simp) ?_
          refine AllReadyH.cons (o := ⟨some 24, _, _, _, _, _⟩) rfl (fun K hK => ?_) AllReadyH.nil
          go_simp
          go_at_call 43
          refine (FIT.out _ _ _ P0 P1).mono ?_
          rintro e w14 ⟨rfl, kb⟩
          replace hB := hB.trans (kb.mono hB.size)
          clear kb
          refine hK.out _ _ ?_ (fun hHeld => ?_)
          · (try dsimp only); exact ⟨((HR.out.1.below hB HR.out.1.lt).cell 0).trans rfl, ((HR.out.1.below hB HR.out.1.lt).cell 1).trans rfl, ((HR.out.1.below hB HR.out.1.lt).cell 2).trans rfl, ((HR.out.1.below hB HR.out.1.lt).cell 3).trans rfl⟩
          clear hK K
          try simp only [Act.put, List.setIfInBounds_toArray, List.set_cons_zero, List.set_cons_succ]
          refine tkw 21 25 ?_
          refine tkw 22 26 ?_
          have hr2 := HR.out.2.1.below hB HR.out.2.1.lt
          have hr1 := HR.out.1.below hB HR.out.1.lt
          have hb2 := HR.out.2.2.trans (hB.mono HR.out.2.2.size)
          obtain ⟨⟨q0, q1, q2, q3⟩, f0, f1, f2, f3⟩ := spc_row hr2
          refine wpAnyH_ready (rs := [23]) (by kernel_rfl) (by simp) ?_
          refine AllReadyH.cons (o := ⟨none, _, _, _, _, _⟩) rfl (fun K hK => ?_) AllReadyH.nil
          go_simp
          refine hK.out _ _ ?_ (fun hHeld => ?_)
          · have ho := (((hr1.other ⟨w.heap.size + 1, 0, none⟩ (.int .i64 A) (by simp)).other ⟨w.heap.size + 1, 1, none⟩ (.int .i64 B) (by simp)).other ⟨w.heap.size + 1, 2, none⟩ (.bool P) (by simp)).other ⟨w.heap.size + 1, 3, none⟩ (.bool Q) (by simp)
            (try dsimp only)
            exact ⟨(ho.cell 0).trans rfl, (ho.cell 1).trans rfl, (ho.cell 2).trans rfl, (ho.cell 3).trans rfl⟩
          clear hK K
          try simp only [Act.put, List.setIfInBounds_toArray, List.set_cons_zero, List.set_cons_succ]
          refine tkw 24 3 ?_
          refine wpAnyH_done (by kernel_rfl) ?_ _
          clear hHeld
          obtain ⟨⟨z0, z1, z2, z3⟩, _⟩ := spc_row (spc_put hr2 A B P Q)
          have HBZ := Lib.hid (below_set4 hb2 (Nat.le_succ w.heap.size) (.int .i64 A) (.int .i64 B) (.bool P) (.bool Q))
          have Z := Lib.hid (And.intro z0 (And.intro z1 (And.intro z2 z3)))
          clear z0 z1 z2 z3 hr1 hr2 hb2
          go_wp2
          obtain ⟨z0, z1, z2, z3⟩ := Z.out
          exact bodyPost_ret (v := .tuple #[.agg #[.int .i64 A, .int .i64 B, .bool P, .bool Q], .bool R]) (by simp [results, Tryz.results30, go_sem, z0, z1, z2, z3]) rfl ⟨rfl, HBZ.out⟩
        refine AllReadyH.cons (o := ⟨some 14, _, _, _, _, _⟩) rfl (fun K hK => ?_) AllReadyH.nil
        go_simp
        have hB0 := hB.size
        have kb := below_map w2 (.cells #[.bool false, .slice none 0 0] 66)
        have en0_1 : qn0 ≠ w2.heap.size := by have hlt := n0.lt; exact Nat.ne_of_lt hlt
        have en1_1 : qn1 ≠ w2.heap.size := by have hlt := n1.lt; exact Nat.ne_of_lt hlt
        have hne : w2.heap.size ≠ wa.drew.heap.size := by have hlt := Row.lt Z0; exact Nat.ne_of_gt hlt
        replace n0 := n0.below kb
        replace n1 := n1.below kb
        replace Z0 := Row.below Z0 kb (Row.lt Z0)
        replace hB := hB.trans (kb.mono hB.size)
        have Z1 : ZB (w2.alloc (.cells #[.bool false, .slice none 0 0] 66)) w2.heap.size := Row.made w2 [.bool false, .slice none 0 0] 66
        have hb1 : wa.heap.size ≤ w2.heap.size := hB0
        clear kb hB0
        refine hK.out _ _ ?_ (fun hHeld => ?_)
        · (try dsimp only); exact ⟨((HR.out.1.below hB HR.out.1.lt).cell 0).trans rfl, ((HR.out.1.below hB HR.out.1.lt).cell 1).trans rfl, ((HR.out.1.below hB HR.out.1.lt).cell 2).trans rfl, ((HR.out.1.below hB HR.out.1.lt).cell 3).trans rfl⟩
        clear hK K hHeld
        try simp only [Act.put, List.setIfInBounds_toArray, List.set_cons_zero, List.set_cons_succ]
        refine wpAnyH_ready (rs := [9]) (by kernel_rfl) (by simp) ?_
        refine AllReadyH.cons (o := ⟨some 13, _, _, _, _, _⟩) rfl (fun K hK => ?_) AllReadyH.nil
        go_simp
        go_at_call 74
        refine (sub_any _ _ _ a d HI.out.1 HI.out.2.2.2 en0_0 en1_0 _ Z0 n0 n1).mono ?_
        rintro e w15 ⟨rfl, P0, kk⟩
        replace n0 := n0.kept en0_0 Z0 kk
        replace n1 := n1.kept en1_0 Z0 kk
        replace Z1 := kk.row Z1 (nmem1 hne)
        have eP0_1 := hne.symm
        replace hB := hB.trans (kk.below hB.size (mem1 hb0))
        clear kk Z0 hb0
        refine hK.out _ _ ?_ (fun hHeld => ?_)
        · (try dsimp only); exact ⟨((HR.out.1.below hB HR.out.1.lt).cell 0).trans rfl, ((HR.out.1.below hB HR.out.1.lt).cell 1).trans rfl, ((HR.out.1.below hB HR.out.1.lt).cell 2).trans rfl, ((HR.out.1.below hB HR.out.1.lt).cell 3).trans rfl⟩
        clear hK K hHeld
        try simp only [Act.put, List.setIfInBounds_toArray, List.set_cons_zero, List.set_cons_succ]
        refine wpAnyH_ready (rs := [14]) (by kernel_rfl) (by simp) ?_
        refine AllReadyH.cons (o := ⟨some 18, _, _, _, _, _⟩) rfl (fun K hK => ?_) AllReadyH.nil
        go_simp
        go_at_call 45
        refine (num_any b HI.out.2.1 _).mono ?_
        rintro e w16 ⟨qm0, hq, rfl, m0, kb⟩
        have em0_1 : qm0 ≠ w2.heap.size := Nat.ne_of_gt (Nat.lt_of_lt_of_le (Row.lt Z1) hq)
        clear hq
        replace n0 := n0.below kb
        replace n1 := n1.below kb
        replace P0 := P0.below kb
        replace Z1 := Row.below Z1 kb (Row.lt Z1)
        replace hB := hB.trans (kb.mono hB.size)
        clear kb
        refine hK.out _ _ ?_ (fun hHeld => ?_)
        · (try dsimp only); exact ⟨((HR.out.1.below hB HR.out.1.lt).cell 0).trans rfl, ((HR.out.1.below hB HR.out.1.lt).cell 1).trans rfl, ((HR.out.1.below hB HR.out.1.lt).cell 2).trans rfl, ((HR.out.1.below hB HR.out.1.lt).cell 3).trans rfl⟩
        clear hK K hHeld
        try simp only [Act.put, List.setIfInBounds_toArray, List.set_cons_zero, List.set_cons_succ]
        refine wpAnyH_ready (rs := [18]) (by kernel_rfl) (by simp) ?_
        refine AllReadyH.cons (o := ⟨some 22, _, _, _, _, _⟩) rfl (fun K hK => ?_) AllReadyH.nil
        go_simp
        go_at_call 45
        refine (num_any c HI.out.2.2.1 _).mono ?_
        rintro e w17 ⟨qm1, hq, rfl, m1, kb⟩
        have em1_1 : qm1 ≠ w2.heap.size := Nat.ne_of_gt (Nat.lt_of_lt_of_le (Row.lt Z1) hq)
        clear hq
        replace n0 := n0.below kb
        replace n1 := n1.below kb
        replace P0 := P0.below kb
        replace m0 := m0.below kb
        replace Z1 := Row.below Z1 kb (Row.lt Z1)
        replace hB := hB.trans (kb.mono hB.size)
        clear kb
        refine hK.out _ _ ?_ (fun hHeld => ?_)
        · (try dsimp only); exact ⟨((HR.out.1.below hB HR.out.1.lt).cell 0).trans rfl, ((HR.out.1.below hB HR.out.1.lt).cell 1).trans rfl, ((HR.out.1.below hB HR.out.1.lt).cell 2).trans rfl, ((HR.out.1.below hB HR.out.1.lt).cell 3).trans rfl⟩
        clear hK K hHeld
        try simp only [Act.put, List.setIfInBounds_toArray, List.set_cons_zero, List.set_cons_succ]
        refine wpAnyH_ready (rs := [19]) (by kernel_rfl) (by simp) ?_
        refine AllReadyH.cons (o := ⟨some 23, _, _, _, _, _⟩) rfl (fun K hK => ?_) AllReadyH.nil
        go_simp
        go_at_call 74
        refine (sub_any _ _ _ b c HI.out.2.1 HI.out.2.2.1 em0_1 em1_1 _ Z1 m0 m1).mono ?_
        rintro e w18 ⟨rfl, P1, kk⟩
        replace n0 := n0.kept en0_1 Z1 kk
        replace n1 := n1.kept en1_1 Z1 kk
        replace P0 := P0.kept eP0_1 Z1 kk
        replace m0 := m0.kept em0_1 Z1 kk
        replace m1 := m1.kept em1_1 Z1 kk
        replace hB := hB.trans (kk.below hB.size (mem1 hb1))
        clear kk Z1 hb1
        refine hK.out _ _ ?_ (fun hHeld => ?_)
        · (try dsimp only); exact ⟨((HR.out.1.below hB HR.out.1.lt).cell 0).trans rfl, ((HR.out.1.below hB HR.out.1.lt).cell 1).trans rfl, ((HR.out.1.below hB HR.out.1.lt).cell 2).trans rfl, ((HR.out.1.below hB HR.out.1.lt).cell 3).trans rfl⟩
        clear hK K hHeld
        try simp only [Act.put, List.setIfInBounds_toArray, List.set_cons_zero, List.set_cons_succ]
        refine wpAnyH_ready (rs := [20]) (by kernel_rfl) (by simp) ?_
        refine AllReadyH.cons (o := ⟨some 24, _, _, _, _, _⟩) rfl (fun K hK => ?_) AllReadyH.nil
        go_simp
        go_at_call 43
        refine (FIT.out _ _ _ P0 P1).mono ?_
        rintro e w19 ⟨rfl, kb⟩
        replace hB := hB.trans (kb.mono hB.size)
        clear kb
        refine hK.out _ _ ?_ (fun hHeld => ?_)
        · (try dsimp only); exact ⟨((HR.out.1.below hB HR.out.1.lt).cell 0).trans rfl, ((HR.out.1.below hB HR.out.1.lt).cell 1).trans rfl, ((HR.out.1.below hB HR.out.1.lt).cell 2).trans rfl, ((HR.out.1.below hB HR.out.1.lt).cell 3).trans rfl⟩
        clear hK K
        try simp only [Act.put, List.setIfInBounds_toArray, List.set_cons_zero, List.set_cons_succ]
        refine tkw 21 25 ?_
        refine tkw 22 26 ?_
        have hr2 := HR.out.2.1.below hB HR.out.2.1.lt
        have hr1 := HR.out.1.below hB HR.out.1.lt
        have hb2 := HR.out.2.2.trans (hB.mono HR.out.2.2.size)
        obtain ⟨⟨q0, q1, q2, q3⟩, f0, f1, f2, f3⟩ := spc_row hr2
        refine wpAnyH_ready (rs := [23]) (by kernel_rfl) (by simp) ?_
        refine AllReadyH.cons (o := ⟨none, _, _, _, _, _⟩) rfl (fun K hK => ?_) AllReadyH.nil
        go_simp
        refine hK.out _ _ ?_ (fun hHeld => ?_)
        · have ho := (((hr1.other ⟨w.heap.size + 1, 0, none⟩ (.int .i64 A) (by simp)).other ⟨w.heap.size + 1, 1, none⟩ (.int .i64 B) (by simp)).other ⟨w.heap.size + 1, 2, none⟩ (.bool P) (by simp)).other ⟨w.heap.size + 1, 3, none⟩ (.bool Q) (by simp)
          (try dsimp only)
          exact ⟨(ho.cell 0).trans rfl, (ho.cell 1).trans rfl, (ho.cell 2).trans rfl, (ho.cell 3).trans rfl⟩
        clear hK K
        try simp only [Act.put, List.setIfInBounds_toArray, List.set_cons_zero, List.set_cons_succ]
        refine tkw 24 3 ?_
        refine wpAnyH_done (by kernel_rfl) ?_ _
        clear hHeld
        obtain ⟨⟨z0, z1, z2, z3⟩, _⟩ := spc_row (spc_put hr2 A B P Q)
        have HBZ := Lib.hid (below_set4 hb2 (Nat.le_succ w.heap.size) (.int .i64 A) (.int .i64 B) (.bool P) (.bool Q))
        have Z := Lib.hid (And.intro z0 (And.intro z1 (And.intro z2 z3)))
        clear z0 z1 z2 z3 hr1 hr2 hb2
        go_wp2
        obtain ⟨z0, z1, z2, z3⟩ := Z.out
        exact bodyPost_ret (v := .tuple #[.agg #[.int .i64 A, .int .i64 B, .bool P, .bool Q], .bool R]) (by simp [results, Tryz.results30, go_sem, z0, z1, z2, z3]) rfl ⟨rfl, HBZ.out⟩
      refine AllReadyH.cons (o := ⟨some 14, _, _, _, _, _⟩) rfl (fun K hK => ?_) AllReadyH.nil
      go_simp
      have hB0 := hB.size
      have kb := below_map w1 (.cells #[.bool false, .slice none 0 0] 66)
      have en0_1 : qn0 ≠ w1.heap.size := by have hlt := n0.lt; exact Nat.ne_of_lt hlt
      have hne : w1.heap.size ≠ wa.drew.heap.size := by have hlt := Row.lt Z0; exact Nat.ne_of_gt hlt
      replace n0 := n0.below kb
      replace Z0 := Row.below Z0 kb (Row.lt Z0)
      replace hB := hB.trans (kb.mono hB.size)
      have Z1 : ZB (w1.alloc (.cells #[.bool false, .slice none 0 0] 66)) w1.heap.size := Row.made w1 [.bool false, .slice none 0 0] 66
      have hb1 : wa.heap.size ≤ w1.heap.size := hB0
      clear kb hB0
      refine hK.out _ _ ?_ (fun hHeld => ?_)
      · (try dsimp only); exact ⟨((HR.out.1.below hB HR.out.1.lt).cell 0).trans rfl, ((HR.out.1.below hB HR.out.1.lt).cell 1).trans rfl, ((HR.out.1.below hB HR.out.1.lt).cell 2).trans rfl, ((HR.out.1.below hB HR.out.1.lt).cell 3).trans rfl⟩
      clear hK K hHeld
      try simp only [Act.put, List.setIfInBounds_toArray, List.set_cons_zero, List.set_cons_succ]
      refine wpAnyH_ready (rs := [8]) (by kernel_rfl) (by simp) ?_
      refine AllReadyH.cons (o := ⟨some 12, _, _, _, _, _⟩) rfl (fun K hK => ?_) AllReadyH.nil
      go_simp
      go_at_call 45
      refine (num_any d HI.out.2.2.2 _).mono ?_
      rintro e w20 ⟨qn1, hq, rfl, n1, kb⟩
      have en1_0 : qn1 ≠ wa.drew.heap.size := Nat.ne_of_gt (Nat.lt_of_lt_of_le (Row.lt Z0) hq)
      have en1_1 : qn1 ≠ w1.heap.size := Nat.ne_of_gt (Nat.lt_of_lt_of_le (Row.lt Z1) hq)
      clear hq
      replace n0 := n0.below kb
      replace Z0 := Row.below Z0 kb (Row.lt Z0)
      replace Z1 := Row.below Z1 kb (Row.lt Z1)
      replace hB := hB.trans (kb.mono hB.size)
      clear kb
      refine hK.out _ _ ?_ (fun hHeld => ?_)
      · (try dsimp only); exact ⟨((HR.out.1.below hB HR.out.1.lt).cell 0).trans rfl, ((HR.out.1.below hB HR.out.1.lt).cell 1).trans rfl, ((HR.out.1.below hB HR.out.1.lt).cell 2).trans rfl, ((HR.out.1.below hB HR.out.1.lt).cell 3).trans rfl⟩
      clear hK K hHeld
      try simp only [Act.put, List.setIfInBounds_toArray, List.set_cons_zero, List.set_cons_succ]
      refine wpAnyH_ready (rs := [9]) (by kernel_rfl) (by simp) ?_
      refine AllReadyH.cons (o := ⟨some 13, _, _, _, _, _⟩) rfl (fun K hK => ?_) AllReadyH.nil
      go_simp
      go_at_call 74
      refine (sub_any _ _ _ a d HI.out.1 HI.out.2.2.2 en0_0 en1_0 _ Z0 n0 n1).mono ?_
      rintro e w21 ⟨rfl, P0, kk⟩
      replace n0 := n0.kept en0_0 Z0 kk
      replace n1 := n1.kept en1_0 Z0 kk
      replace Z1 := kk.row Z1 (nmem1 hne)
      have eP0_1 := hne.symm
      replace hB := hB.trans (kk.below hB.size (mem1 hb0))
      clear kk Z0 hb0
      refine hK.out _ _ ?_ (fun hHeld => ?_)
      · (try dsimp only); exact ⟨((HR.out.1.below hB HR.out.1.lt).cell 0).trans rfl, ((HR.out.1.below hB HR.out.1.lt).cell 1).trans rfl, ((HR.out.1.below hB HR.out.1.lt).cell 2).trans rfl, ((HR.out.1.below hB HR.out.1.lt).cell 3).trans rfl⟩
      clear hK K hHeld
      try simp only [Act.put, List.setIfInBounds_toArray, List.set_cons_zero, List.set_cons_succ]
      refine wpAnyH_ready (rs := [14]) (by kernel_rfl) (by simp) ?_
      refine AllReadyH.cons (o := ⟨some 18, _, _, _, _, _⟩) rfl (fun K hK => ?_) AllReadyH.nil
      go_simp
      go_at_call 45
      refine (num_any b HI.out.2.1 _).mono ?_
      rintro e w22 ⟨qm0, hq, rfl, m0, kb⟩
      have em0_1 : qm0 ≠ w1.heap.size := Nat.ne_of_gt (Nat.lt_of_lt_of_le (Row.lt Z1) hq)
      clear hq
      replace n0 := n0.below kb
      replace n1 := n1.below kb
      replace P0 := P0.below kb
      replace Z1 := Row.below Z1 kb (Row.lt Z1)
      replace hB := hB.trans (kb.mono hB.size)
      clear kb
      refine hK.out _ _ ?_ (fun hHeld => ?_)
      · (try dsimp only); exact ⟨((HR.out.1.below hB HR.out.1.lt).cell 0).trans rfl, ((HR.out.1.below hB HR.out.1.lt).cell 1).trans rfl, ((HR.out.1.below hB HR.out.1.lt).cell 2).trans rfl, ((HR.out.1.below hB HR.out.1.lt).cell 3).trans rfl⟩
      clear hK K hHeld
      try simp only [Act.put, List.setIfInBounds_toArray, List.set_cons_zero, List.set_cons_succ]
      refine wpAnyH_ready (rs := [18]) (by kernel_rfl) (by simp) ?_
      refine AllReadyH.cons (o := ⟨some 22, _, _, _, _, _⟩) rfl (fun K hK => ?_) AllReadyH.nil
      go_simp
      go_at_call 45
      refine (num_any c HI.out.2.2.1 _).mono ?_
      rintro e w23 ⟨qm1, hq, rfl, m1, kb⟩
      have em1_1 : qm1 ≠ w1.heap.size := Nat.ne_of_gt (Nat.lt_of_lt_of_le (Row.lt Z1) hq)
      clear hq
      replace n0 := n0.below kb
      replace n1 := n1.below kb
      replace P0 := P0.below kb
      replace m0 := m0.below kb
      replace Z1 := Row.below Z1 kb (Row.lt Z1)
      replace hB := hB.trans (kb.mono hB.size)
      clear kb
      refine hK.out _ _ ?_ (fun hHeld => ?_)
      · (try dsimp only); exact ⟨((HR.out.1.below hB HR.out.1.lt).cell 0).trans rfl, ((HR.out.1.below hB HR.out.1.lt).cell 1).trans rfl, ((HR.out.1.below hB HR.out.1.lt).cell 2).trans rfl, ((HR.out.1.below hB HR.out.1.lt).cell 3).trans rfl⟩
      clear hK K hHeld
      try simp only [Act.put, List.setIfInBounds_toArray, List.set_cons_zero, List.set_cons_succ]
      refine wpAnyH_ready (rs := [19]) (by kernel_rfl) (by simp) ?_
      refine AllReadyH.cons (o := ⟨some 23, _, _, _, _, _⟩) rfl (fun K hK => ?_) AllReadyH.nil
      go_simp
      go_at_call 74
      refine (sub_any _ _ _ b c HI.out.2.1 HI.out.2.2.1 em0_1 em1_1 _ Z1 m0 m1).mono ?_
      rintro e w24 ⟨rfl, P1, kk⟩
      replace n0 := n0.kept en0_1 Z1 kk
      replace n1 := n1.kept en1_1 Z1 kk
      replace P0 := P0.kept eP0_1 Z1 kk
      replace m0 := m0.kept em0_1 Z1 kk
      replace m1 := m1.kept em1_1 Z1 kk
      replace hB := hB.trans (kk.below hB.size (mem1 hb1))
      clear kk Z1 hb1
      refine hK.out _ _ ?_ (fun hHeld => ?_)
      · (try dsimp only); exact ⟨((HR.out.1.below hB HR.out.1.lt).cell 0).trans rfl, ((HR.out.1.below hB HR.out.1.lt).cell 1).trans rfl, ((HR.out.1.below hB HR.out.1.lt).cell 2).trans rfl, ((HR.out.1.below hB HR.out.1.lt).cell 3).trans rfl⟩
      clear hK K hHeld
      try simp only [Act.put, List.setIfInBounds_toArray, List.set_cons_zero, List.set_cons_succ]
      refine wpAnyH_ready (rs := [20]) (by kernel_rfl) (by simp) ?_
      refine AllReadyH.cons (o := ⟨some 24, _, _, _, _, _⟩) rfl (fun K hK => ?_) AllReadyH.nil
      go_simp
      go_at_call 43
      refine (FIT.out _ _ _ P0 P1).mono ?_
      rintro e w25 ⟨rfl, kb⟩
      replace hB := hB.trans (kb.mono hB.size)
      clear kb
      refine hK.out _ _ ?_ (fun hHeld => ?_)
      · (try dsimp only); exact ⟨((HR.out.1.below hB HR.out.1.lt).cell 0).trans rfl, ((HR.out.1.below hB HR.out.1.lt).cell 1).trans rfl, ((HR.out.1.below hB HR.out.1.lt).cell 2).trans rfl, ((HR.out.1.below hB HR.out.1.lt).cell 3).trans rfl⟩
      clear hK K
      try simp only [Act.put, List.setIfInBounds_toArray, List.set_cons_zero, List.set_cons_succ]
      refine tkw 21 25 ?_
      refine tkw 22 26 ?_
      have hr2 := HR.out.2.1.below hB HR.out.2.1.lt
      have hr1 := HR.out.1.below hB HR.out.1.lt
      have hb2 := HR.out.2.2.trans (hB.mono HR.out.2.2.size)
      obtain ⟨⟨q0, q1, q2, q3⟩, f0, f1, f2, f3⟩ := spc_row hr2
      refine wpAnyH_ready (rs := [23]) (by kernel_rfl) (by simp) ?_
      refine AllReadyH.cons (o := ⟨none, _, _, _, _, _⟩) rfl (fun K hK => ?_) AllReadyH.nil
      go_simp
      refine hK.out _ _ ?_ (fun hHeld => ?_)
      · have ho := (((hr1.other ⟨w.heap.size + 1, 0, none⟩ (.int .i64 A) (by simp)).other ⟨w.heap.size + 1, 1, none⟩ (.int .i64 B) (by simp)).other ⟨w.heap.size + 1, 2, none⟩ (.bool P) (by simp)).other ⟨w.heap.size + 1, 3, none⟩ (.bool Q) (by simp)
        (try dsimp only)
        exact ⟨(ho.cell 0).trans rfl, (ho.cell 1).trans rfl, (ho.cell 2).trans rfl, (ho.cell 3).trans rfl⟩
      clear hK K
      try simp only [Act.put, List.setIfInBounds_toArray, List.set_cons_zero, List.set_cons_succ]
      refine tkw 24 3 ?_
      refine wpAnyH_done (by kernel_rfl) ?_ _
      clear hHeld
      obtain ⟨⟨z0, z1, z2, z3⟩, _⟩ := spc_row (spc_put hr2 A B P Q)
      have HBZ := Lib.hid (below_set4 hb2 (Nat.le_succ w.heap.size) (.int .i64 A) (.int .i64 B) (.bool P) (.bool Q))
      have Z := Lib.hid (And.intro z0 (And.intro z1 (And.intro z2 z3)))
      clear z0 z1 z2 z3 hr1 hr2 hb2
      go_wp2
      obtain ⟨z0, z1, z2, z3⟩ := Z.out
      exact bodyPost_ret (v := .tuple #[.agg #[.int .i64 A, .int .i64 B, .bool P, .bool Q], .bool R]) (by simp [results, Tryz.results30, go_sem, z0, z1, z2, z3]) rfl ⟨rfl, HBZ.out⟩
    refine AllReadyH.cons (o := ⟨some 14, _, _, _, _, _⟩) rfl (fun K hK => ?_) AllReadyH.nil
    go_simp
    have hB0 := hB.size
    have kb := below_map (wa.drew.alloc (.cells #[.bool false, .slice none 0 0] 66)) (.cells #[.bool false, .slice none 0 0] 66)
    have hne : (wa.drew.heap.size + 1) ≠ wa.drew.heap.size := by have hlt := Row.lt Z0; rw [size_al] at hlt; exact Nat.ne_of_gt hlt
    replace Z0 := Row.below Z0 kb (Row.lt Z0)
    replace hB := hB.trans (kb.mono hB.size)
    have Z1 : ZB ((wa.drew.alloc (.cells #[.bool false, .slice none 0 0] 66)).alloc (.cells #[.bool false, .slice none 0 0] 66)) (wa.drew.heap.size + 1) := row2 wa.drew (.cells #[.bool false, .slice none 0 0] 66) [.bool false, .slice none 0 0] 66
    have hb1 : wa.heap.size ≤ (wa.drew.heap.size + 1) := by rw [size_al] at hB0; exact hB0
    clear kb hB0
    refine hK.out _ _ ?_ (fun hHeld => ?_)
    · (try dsimp only); exact ⟨((HR.out.1.below hB HR.out.1.lt).cell 0).trans rfl, ((HR.out.1.below hB HR.out.1.lt).cell 1).trans rfl, ((HR.out.1.below hB HR.out.1.lt).cell 2).trans rfl, ((HR.out.1.below hB HR.out.1.lt).cell 3).trans rfl⟩
    clear hK K hHeld
    try simp only [Act.put, List.setIfInBounds_toArray, List.set_cons_zero, List.set_cons_succ]
    refine wpAnyH_ready (rs := [4]) (by kernel_rfl) (by simp) ?_
    refine AllReadyH.cons (o := ⟨some 8, _, _, _, _, _⟩) rfl (fun K hK => ?_) AllReadyH.nil
    go_simp
    go_at_call 45
    refine (num_any a HI.out.1 _).mono ?_
    rintro e w26 ⟨qn0, hq, rfl, n0, kb⟩
    have en0_0 : qn0 ≠ wa.drew.heap.size := Nat.ne_of_gt (Nat.lt_of_lt_of_le (Row.lt Z0) hq)
    have en0_1 : qn0 ≠ (wa.drew.heap.size + 1) := Nat.ne_of_gt (Nat.lt_of_lt_of_le (Row.lt Z1) hq)
    clear hq
    replace Z0 := Row.below Z0 kb (Row.lt Z0)
    replace Z1 := Row.below Z1 kb (Row.lt Z1)
    replace hB := hB.trans (kb.mono hB.size)
    clear kb
    refine hK.out _ _ ?_ (fun hHeld => ?_)
    · (try dsimp only); exact ⟨((HR.out.1.below hB HR.out.1.lt).cell 0).trans rfl, ((HR.out.1.below hB HR.out.1.lt).cell 1).trans rfl, ((HR.out.1.below hB HR.out.1.lt).cell 2).trans rfl, ((HR.out.1.below hB HR.out.1.lt).cell 3).trans rfl⟩
    clear hK K hHeld
    try simp only [Act.put, List.setIfInBounds_toArray, List.set_cons_zero, List.set_cons_succ]
    refine wpAnyH_ready (rs := [8]) (by kernel_rfl) (by simp) ?_
    refine AllReadyH.cons (o := ⟨some 12, _, _, _, _, _⟩) rfl (fun K hK => ?_) AllReadyH.nil
    go_simp
    go_at_call 45
    refine (num_any d HI.out.2.2.2 _).mono ?_
    rintro e w27 ⟨qn1, hq, rfl, n1, kb⟩
    have en1_0 : qn1 ≠ wa.drew.heap.size := Nat.ne_of_gt (Nat.lt_of_lt_of_le (Row.lt Z0) hq)
    have en1_1 : qn1 ≠ (wa.drew.heap.size + 1) := Nat.ne_of_gt (Nat.lt_of_lt_of_le (Row.lt Z1) hq)
    clear hq
    replace n0 := n0.below kb
    replace Z0 := Row.below Z0 kb (Row.lt Z0)
    replace Z1 := Row.below Z1 kb (Row.lt Z1)
    replace hB := hB.trans (kb.mono hB.size)
    clear kb
    refine hK.out _ _ ?_ (fun hHeld => ?_)
    · (try dsimp only); exact ⟨((HR.out.1.below hB HR.out.1.lt).cell 0).trans rfl, ((HR.out.1.below hB HR.out.1.lt).cell 1).trans rfl, ((HR.out.1.below hB HR.out.1.lt).cell 2).trans rfl, ((HR.out.1.below hB HR.out.1.lt).cell 3).trans rfl⟩
    clear hK K hHeld
    try simp only [Act.put, List.setIfInBounds_toArray, List.set_cons_zero, List.set_cons_succ]
    refine wpAnyH_ready (rs := [9]) (by kernel_rfl) (by simp) ?_
    refine AllReadyH.cons (o := ⟨some 13, _, _, _, _, _⟩) rfl (fun K hK => ?_) AllReadyH.nil
    go_simp
    go_at_call 74
    refine (sub_any _ _ _ a d HI.out.1 HI.out.2.2.2 en0_0 en1_0 _ Z0 n0 n1).mono ?_
    rintro e w28 ⟨rfl, P0, kk⟩
    replace n0 := n0.kept en0_0 Z0 kk
    replace n1 := n1.kept en1_0 Z0 kk
    replace Z1 := kk.row Z1 (nmem1 hne)
    have eP0_1 := hne.symm
    replace hB := hB.trans (kk.below hB.size (mem1 hb0))
    clear kk Z0 hb0
    refine hK.out _ _ ?_ (fun hHeld => ?_)
    · (try dsimp only); exact ⟨((HR.out.1.below hB HR.out.1.lt).cell 0).trans rfl, ((HR.out.1.below hB HR.out.1.lt).cell 1).trans rfl, ((HR.out.1.below hB HR.out.1.lt).cell 2).trans rfl, ((HR.out.1.below hB HR.out.1.lt).cell 3).trans rfl⟩
    clear hK K hHeld
    try simp only [Act.put, List.setIfInBounds_toArray, List.set_cons_zero, List.set_cons_succ]
    refine wpAnyH_ready (rs := [14]) (by kernel_rfl) (by simp) ?_
    refine AllReadyH.cons (o := ⟨some 18, _, _, _, _, _⟩) rfl (fun K hK => ?_) AllReadyH.nil
    go_simp
    go_at_call 45
    refine (num_any b HI.out.2.1 _).mono ?_
    rintro e w29 ⟨qm0, hq, rfl, m0, kb⟩
    have em0_1 : qm0 ≠ (wa.drew.heap.size + 1) := Nat.ne_of_gt (Nat.lt_of_lt_of_le (Row.lt Z1) hq)
    clear hq
    replace n0 := n0.below kb
    replace n1 := n1.below kb
    replace P0 := P0.below kb
    replace Z1 := Row.below Z1 kb (Row.lt Z1)
    replace hB := hB.trans (kb.mono hB.size)
    clear kb
    refine hK.out _ _ ?_ (fun hHeld => ?_)
    · (try dsimp only); exact ⟨((HR.out.1.below hB HR.out.1.lt).cell 0).trans rfl, ((HR.out.1.below hB HR.out.1.lt).cell 1).trans rfl, ((HR.out.1.below hB HR.out.1.lt).cell 2).trans rfl, ((HR.out.1.below hB HR.out.1.lt).cell 3).trans rfl⟩
    clear hK K hHeld
    try simp only [Act.put, List.setIfInBounds_toArray, List.set_cons_zero, List.set_cons_succ]
    refine wpAnyH_ready (rs := [18]) (by kernel_rfl) (by simp) ?_
    refine AllReadyH.cons (o := ⟨some 22, _, _, _, _, _⟩) rfl (fun K hK => ?_) AllReadyH.nil
    go_simp
    go_at_call 45
    refine (num_any c HI.out.2.2.1 _).mono ?_
    rintro e w30 ⟨qm1, hq, rfl, m1, kb⟩
    have em1_1 : qm1 ≠ (wa.drew.heap.size + 1) := Nat.ne_of_gt (Nat.lt_of_lt_of_le (Row.lt Z1) hq)
    clear hq
    replace n0 := n0.below kb
    replace n1 := n1.below kb
    replace P0 := P0.below kb
    replace m0 := m0.below kb
    replace Z1 := Row.below Z1 kb (Row.lt Z1)
    replace hB := hB.trans (kb.mono hB.size)
    clear kb
    refine hK.out _ _ ?_ (fun hHeld => ?_)
    · (try dsimp only); exact ⟨((HR.out.1.below hB HR.out.1.lt).cell 0).trans rfl, ((HR.out.1.below hB HR.out.1.lt).cell 1).trans rfl, ((HR.out.1.below hB HR.out.1.lt).cell 2).trans rfl, ((HR.out.1.below hB HR.out.1.lt).cell 3).trans rfl⟩
    clear hK K hHeld
    try simp only [Act.put, List.setIfInBounds_toArray, List.set_cons_zero, List.set_cons_succ]
    refine wpAnyH_ready (rs := [19]) (by kernel_rfl) (by simp) ?_
    refine AllReadyH.cons (o := ⟨some 23, _, _, _, _, _⟩) rfl (fun K hK => ?_) AllReadyH.nil
    go_simp
    go_at_call 74
    refine (sub_any _ _ _ b c HI.out.2.1 HI.out.2.2.1 em0_1 em1_1 _ Z1 m0 m1).mono ?_
    rintro e w31 ⟨rfl, P1, kk⟩
    replace n0 := n0.kept en0_1 Z1 kk
    replace n1 := n1.kept en1_1 Z1 kk
    replace P0 := P0.kept eP0_1 Z1 kk
    replace m0 := m0.kept em0_1 Z1 kk
    replace m1 := m1.kept em1_1 Z1 kk
    replace hB := hB.trans (kk.below hB.size (mem1 hb1))
    clear kk Z1 hb1
    refine hK.out _ _ ?_ (fun hHeld => ?_)
    · (try dsimp only); exact ⟨((HR.out.1.below hB HR.out.1.lt).cell 0).trans rfl, ((HR.out.1.below hB HR.out.1.lt).cell 1).trans rfl, ((HR.out.1.below hB HR.out.1.lt).cell 2).trans rfl, ((HR.out.1.below hB HR.out.1.lt).cell 3).trans rfl⟩
    clear hK K hHeld
    try simp only [Act.put, List.setIfInBounds_toArray, List.set_cons_zero, List.set_cons_succ]
    refine wpAnyH_ready (rs := [20]) (by kernel_rfl) (by simp) ?_
    refine AllReadyH.cons (o := ⟨some 24, _, _, _, _, _⟩) rfl (fun K hK => ?_) AllReadyH.nil
    go_simp
    go_at_call 43
    refine (FIT.out _ _ _ P0 P1).mono ?_
    rintro e w32 ⟨rfl, kb⟩
    replace hB := hB.trans (kb.mono hB.size)
    clear kb
    refine hK.out _ _ ?_ (fun hHeld => ?_)
    · (try dsimp only); exact ⟨((HR.out.1.below hB HR.out.1.lt).cell 0).trans rfl, ((HR.out.1.below hB HR.out.1.lt).cell 1).trans rfl, ((HR.out.1.below hB HR.out.1.lt).cell 2).trans rfl, ((HR.out.1.below hB HR.out.1.lt).cell 3).trans rfl⟩
    clear hK K
    try simp only [Act.put, List.setIfInBounds_toArray, List.set_cons_zero, List.set_cons_succ]
    refine tkw 21 25 ?_
    refine tkw 22 26 ?_
    have hr2 := HR.out.2.1.below hB HR.out.2.1.lt
    have hr1 := HR.out.1.below hB HR.out.1.lt
    have hb2 := HR.out.2.2.trans (hB.mono HR.out.2.2.size)
    obtain ⟨⟨q0, q1, q2, q3⟩, f0, f1, f2, f3⟩ := spc_row hr2
    refine wpAnyH_ready (rs := [23]) (by kernel_rfl) (by simp) ?_
    refine AllReadyH.cons (o := ⟨none, _, _, _, _, _⟩) rfl (fun K hK => ?_) AllReadyH.nil
    go_simp
    refine hK.out _ _ ?_ (fun hHeld => ?_)
    · have ho := (((hr1.other ⟨w.heap.size + 1, 0, none⟩ (.int .i64 A) (by simp)).other ⟨w.heap.size + 1, 1, none⟩ (.int .i64 B) (by simp)).other ⟨w.heap.size + 1, 2, none⟩ (.bool P) (by simp)).other ⟨w.heap.size + 1, 3, none⟩ (.bool Q) (by simp)
      (try dsimp only)
      exact ⟨(ho.cell 0).trans rfl, (ho.cell 1).trans rfl, (ho.cell 2).trans rfl, (ho.cell 3).trans rfl⟩
    clear hK K
    try simp only [Act.put, List.setIfInBounds_toArray, List.set_cons_zero, List.set_cons_succ]
    refine tkw 24 3 ?_
    refine wpAnyH_done (by kernel_rfl) ?_ _
    clear hHeld
    obtain ⟨⟨z0, z1, z2, z3⟩, _⟩ := spc_row (spc_put hr2 A B P Q)
    have HBZ := Lib.hid (below_set4 hb2 (Nat.le_succ w.heap.size) (.int .i64 A) (.int .i64 B) (.bool P) (.bool Q))
    have Z := Lib.hid (And.intro z0 (And.intro z1 (And.intro z2 z3)))
    clear z0 z1 z2 z3 hr1 hr2 hb2
    go_wp2
    obtain ⟨z0, z1, z2, z3⟩ := Z.out
    exact bodyPost_ret (v := .tuple #[.agg #[.int .i64 A, .int .i64 B, .bool P, .bool Q], .bool R]) (by simp [results, Tryz.results30, go_sem, z0, z1, z2, z3]) rfl ⟨rfl, HBZ.out⟩
  refine AllReadyH.cons (o := ⟨some 8, _, _, _, _, _⟩) rfl (fun K hK => ?_) ?_
  · go_simp
    go_at_call 45
    refine (num_any a HI.out.1 _).mono ?_
    rintro e w33 ⟨qn0, hq, rfl, n0, kb⟩
    clear hq
    replace hB := hB.trans (kb.mono hB.size)
    clear kb
    refine hK.out _ _ ?_ (fun hHeld => ?_)
    · (try dsimp only); exact ⟨((HR.out.1.below hB HR.out.1.lt).cell 0).trans rfl, ((HR.out.1.below hB HR.out.1.lt).cell 1).trans rfl, ((HR.out.1.below hB HR.out.1.lt).cell 2).trans rfl, ((HR.out.1.below hB HR.out.1.lt).cell 3).trans rfl⟩
    clear hK K hHeld
    try simp only [Act.put, List.setIfInBounds_toArray, List.set_cons_zero, List.set_cons_succ]
    refine wpAnyH_ready (rs := [0, 8, 10]) (by kernel_rfl) (by simp) ?_
    refine AllReadyH.cons (o := ⟨some 4, _, _, _, _, _⟩) rfl (fun K hK => ?_) ?_
    · go_simp
      have hB0 := hB.size
      have kb := below_map w33 (.cells #[.bool false, .slice none 0 0] 66)
      have en0_0 : qn0 ≠ w33.heap.size := by have hlt := n0.lt; exact Nat.ne_of_lt hlt
      replace n0 := n0.below kb
      replace hB := hB.trans (kb.mono hB.size)
      have Z0 : ZB (w33.alloc (.cells #[.bool false, .slice none 0 0] 66)) w33.heap.size := Row.made w33 [.bool false, .slice none 0 0] 66
      have hb0 : wa.heap.size ≤ w33.heap.size := hB0
      clear kb hB0
      refine hK.out _ _ ?_ (fun hHeld => ?_)
      · (try dsimp only); exact ⟨((HR.out.1.below hB HR.out.1.lt).cell 0).trans rfl, ((HR.out.1.below hB HR.out.1.lt).cell 1).trans rfl, ((HR.out.1.below hB HR.out.1.lt).cell 2).trans rfl, ((HR.out.1.below hB HR.out.1.lt).cell 3).trans rfl⟩
      clear hK K hHeld
      try simp only [Act.put, List.setIfInBounds_toArray, List.set_cons_zero, List.set_cons_succ]
      refine wpAnyH_ready (rs := [8, 10]) (by kernel_rfl) (by simp) ?_
      refine AllReadyH.cons (o := ⟨some 12, _, _, _, _, _⟩) rfl (fun K hK => ?_) ?_
      · go_simp
        go_at_call 45
        refine (num_any d HI.out.2.2.2 _).mono ?_
        rintro e w34 ⟨qn1, hq, rfl, n1, kb⟩
        have en1_0 : qn1 ≠ w33.heap.size := Nat.ne_of_gt (Nat.lt_of_lt_of_le (Row.lt Z0) hq)
        clear hq
        replace n0 := n0.below kb
        replace Z0 := Row.below Z0 kb (Row.lt Z0)
        replace hB := hB.trans (kb.mono hB.size)
        clear kb
        refine hK.out _ _ ?_ (fun hHeld => ?_)
        · (try dsimp only); exact ⟨((HR.out.1.below hB HR.out.1.lt).cell 0).trans rfl, ((HR.out.1.below hB HR.out.1.lt).cell 1).trans rfl, ((HR.out.1.below hB HR.out.1.lt).cell 2).trans rfl, ((HR.out.1.below hB HR.out.1.lt).cell 3).trans rfl⟩
        clear hK K hHeld
        try simp only [Act.put, List.setIfInBounds_toArray, List.set_cons_zero, List.set_cons_succ]
        refine wpAnyH_ready (rs := [9, 10]) (by kernel_rfl) (by simp) ?_
        refine AllReadyH.cons (o := ⟨some 13, _, _, _, _, _⟩) rfl (fun K hK => ?_) ?_
        · go_simp
          go_at_call 74
          refine (sub_any _ _ _ a d HI.out.1 HI.out.2.2.2 en0_0 en1_0 _ Z0 n0 n1).mono ?_
          rintro e w35 ⟨rfl, P0, kk⟩
          replace n0 := n0.kept en0_0 Z0 kk
          replace n1 := n1.kept en1_0 Z0 kk
          replace hB := hB.trans (kk.below hB.size (mem1 hb0))
          clear kk Z0 hb0
          refine hK.out _ _ ?_ (fun hHeld => ?_)
          · (try dsimp only); exact ⟨((HR.out.1.below hB HR.out.1.lt).cell 0).trans rfl, ((HR.out.1.below hB HR.out.1.lt).cell 1).trans rfl, ((HR.out.1.below hB HR.out.1.lt).cell 2).trans rfl, ((HR.out.1.below hB HR.out.1.lt).cell 3).trans rfl⟩
          clear hK K hHeld
          try simp only [Act.put, List.setIfInBounds_toArray, List.set_cons_zero, List.set_cons_succ]
          refine wpAnyH_ready (rs := [10, 14]) (by kernel_rfl) (by simp) ?_
          refine AllReadyH.cons (o := ⟨some 14, _, _, _, _, _⟩) rfl (fun K hK => ?_) ?_
          · go_simp
            have hB0 := hB.size
            have kb := below_map w35 (.cells #[.bool false, .slice none 0 0] 66)
            have en0_1 : qn0 ≠ w35.heap.size := by have hlt := n0.lt; exact Nat.ne_of_lt hlt
            have en1_1 : qn1 ≠ w35.heap.size := by have hlt := n1.lt; exact Nat.ne_of_lt hlt
            have eP0_1 : w33.heap.size ≠ w35.heap.size := by have hlt := P0.lt; exact Nat.ne_of_lt hlt
            replace n0 := n0.below kb
            replace n1 := n1.below kb
            replace P0 := P0.below kb
            replace hB := hB.trans (kb.mono hB.size)
            have Z1 : ZB (w35.alloc (.cells #[.bool false, .slice none 0 0] 66)) w35.heap.size := Row.made w35 [.bool false, .slice none 0 0] 66
            have hb1 : wa.heap.size ≤ w35.heap.size := hB0
            clear kb hB0
            refine hK.out _ _ ?_ (fun hHeld => ?_)
            · (try dsimp only); exact ⟨((HR.out.1.below hB HR.out.1.lt).cell 0).trans rfl, ((HR.out.1.below hB HR.out.1.lt).cell 1).trans rfl, ((HR.out.1.below hB HR.out.1.lt).cell 2).trans rfl, ((HR.out.1.below hB HR.out.1.lt).cell 3).trans rfl⟩
            clear hK K hHeld
            try simp only [Act.put, List.setIfInBounds_toArray, List.set_cons_zero, List.set_cons_succ]
            refine wpAnyH_ready (rs := [14]) (by kernel_rfl) (by simp) ?_
            refine AllReadyH.cons (o := ⟨some 18, _, _, _, _, _⟩) rfl (fun K hK => ?_) AllReadyH.nil
            go_simp
            go_at_call 45
            refine (num_any b HI.out.2.1 _).mono ?_
            rintro e w36 ⟨qm0, hq, rfl, m0, kb⟩
            have em0_1 : qm0 ≠ w35.heap.size := Nat.ne_of_gt (Nat.lt_of_lt_of_le (Row.lt Z1) hq)
            clear hq
            replace n0 := n0.below kb
            replace n1 := n1.below kb
            replace P0 := P0.below kb
            replace Z1 := Row.below Z1 kb (Row.lt Z1)
            replace hB := hB.trans (kb.mono hB.size)
            clear kb
            refine hK.out _ _ ?_ (fun hHeld => ?_)
            · (try dsimp only); exact ⟨((HR.out.1.below hB HR.out.1.lt).cell 0).trans rfl, ((HR.out.1.below hB HR.out.1.lt).cell 1).trans rfl, ((HR.out.1.below hB HR.out.1.lt).cell 2).trans rfl, ((HR.out.1.below hB HR.out.1.lt).cell 3).trans rfl⟩
            clear hK K hHeld
            try simp only [Act.put, List.setIfInBounds_toArray, List.set_cons_zero, List.set_cons_succ]
            refine wpAnyH_ready (rs := [18]) (by kernel_rfl) (by simp) ?_
            refine AllReadyH.cons (o := ⟨some 22, _, _, _, _, _⟩) rfl (fun K hK => ?_) AllReadyH.nil
            go_simp
            go_at_call 45
            refine (num_any c HI.out.2.2.1 _).mono ?_
            rintro e w37 ⟨qm1, hq, rfl, m1, kb⟩
            have em1_1 : qm1 ≠ w35.heap.size := Nat.ne_of_gt (Nat.lt_of_lt_of_le (Row.lt Z1) hq)
            clear hq
            replace n0 := n0.below kb
            replace n1 := n1.below kb
            replace P0 := P0.below kb
            replace m0 := m0.below kb
            replace Z1 := Row.below Z1 kb (Row.lt Z1)
            replace hB := hB.trans (kb.mono hB.size)
            clear kb
            refine hK.out _ _ ?_ (fun hHeld => ?_)
            · (try dsimp only); exact ⟨((HR.out.1.below hB HR.out.1.lt).cell 0).trans rfl, ((HR.out.1.below hB HR.out.1.lt).cell 1).trans rfl, ((HR.out.1.below hB HR.out.1.lt).cell 2).trans rfl, ((HR.out.1.below hB HR.out.1.lt).cell 3).trans rfl⟩
            clear hK K hHeld
            try simp only [Act.put, List.setIfInBounds_toArray, List.set_cons_zero, List.set_cons_succ]
            refine wpAnyH_ready (rs := [19]) (by kernel_rfl) (by simp) ?_
            refine AllReadyH.cons (o := ⟨some 23, _, _, _, _, _⟩) rfl (fun K hK => ?_) AllReadyH.nil
            go_simp
            go_at_call 74
            refine (sub_any _ _ _ b c HI.out.2.1 HI.out.2.2.1 em0_1 em1_1 _ Z1 m0 m1).mono ?_
            rintro e w38 ⟨rfl, P1, kk⟩
            replace n0 := n0.kept en0_1 Z1 kk
            replace n1 := n1.kept en1_1 Z1 kk
            replace P0 := P0.kept eP0_1 Z1 kk
            replace m0 := m0.kept em0_1 Z1 kk
            replace m1 := m1.kept em1_1 Z1 kk
            replace hB := hB.trans (kk.below hB.size (mem1 hb1))
            clear kk Z1 hb1
            refine hK.out _ _ ?_ (fun hHeld => ?_)
            · (try dsimp only); exact ⟨((HR.out.1.below hB HR.out.1.lt).cell 0).trans rfl, ((HR.out.1.below hB HR.out.1.lt).cell 1).trans rfl, ((HR.out.1.below hB HR.out.1.lt).cell 2).trans rfl, ((HR.out.1.below hB HR.out.1.lt).cell 3).trans rfl⟩
            clear hK K hHeld
            try simp only [Act.put, List.setIfInBounds_toArray, List.set_cons_zero, List.set_cons_succ]
            refine wpAnyH_ready (rs := [20]) (by kernel_rfl) (by simp) ?_
            refine AllReadyH.cons (o := ⟨some 24, _, _, _, _, _⟩) rfl (fun K hK => ?_) AllReadyH.nil
            go_simp
            go_at_call 43
            refine (FIT.out _ _ _ P0 P1).mono ?_
            rintro e w39 ⟨rfl, kb⟩
            replace hB := hB.trans (kb.mono hB.size)
            clear kb
            refine hK.out _ _ ?_ (fun hHeld => ?_)
            · (try dsimp only); exact ⟨((HR.out.1.below hB HR.out.1.lt).cell 0).trans rfl, ((HR.out.1.below hB HR.out.1.lt).cell 1).trans rfl, ((HR.out.1.below hB HR.out.1.lt).cell 2).trans rfl, ((HR.out.1.below hB HR.out.1.lt).cell 3).trans rfl⟩
            clear hK K
            try simp only [Act.put, List.setIfInBounds_toArray, List.set_cons_zero, List.set_cons_succ]
            refine tkw 21 25 ?_
            refine tkw 22 26 ?_
            have hr2 := HR.out.2.1.below hB HR.out.2.1.lt
            have hr1 := HR.out.1.below hB HR.out.1.lt
            have hb2 := HR.out.2.2.trans (hB.mono HR.out.2.2.size)
            obtain ⟨⟨q0, q1, q2, q3⟩, f0, f1, f2, f3⟩ := spc_row hr2
            refine wpAnyH_ready (rs := [23]) (by kernel_rfl) (by simp) ?_
            refine AllReadyH.cons (o := ⟨none, _, _, _, _, _⟩) rfl (fun K hK => ?_) AllReadyH.nil
            go_simp
            refine hK.out _ _ ?_ (fun hHeld => ?_)
            · have ho := (((hr1.other ⟨w.heap.size + 1, 0, none⟩ (.int .i64 A) (by simp)).other ⟨w.heap.size + 1, 1, none⟩ (.int .i64 B) (by simp)).other ⟨w.heap.size + 1, 2, none⟩ (.bool P) (by simp)).other ⟨w.heap.size + 1, 3, none⟩ (.bool Q) (by simp)
              (try dsimp only)
              exact ⟨(ho.cell 0).trans rfl, (ho.cell 1).trans rfl, (ho.cell 2).trans rfl, (ho.cell 3).trans rfl⟩
            clear hK K
            try simp only [Act.put, List.setIfInBounds_toArray, List.set_cons_zero, List.set_cons_succ]
            refine tkw 24 3 ?_
            refine wpAnyH_done (by kernel_rfl) ?_ _
            clear hHeld
            obtain ⟨⟨z0, z1, z2, z3⟩, _⟩ := spc_row (spc_put hr2 A B P Q)
            have HBZ := Lib.hid (below_set4 hb2 (Nat.le_succ w.heap.size) (.int .i64 A) (.int .i64 B) (.bool P) (.bool Q))
            have Z := Lib.hid (And.intro z0 (And.intro z1 (And.intro z2 z3)))
            clear z0 z1 z2 z3 hr1 hr2 hb2
            go_wp2
            obtain ⟨z0, z1, z2, z3⟩ := Z.out
            exact bodyPost_ret (v := .tuple #[.agg #[.int .i64 A, .int .i64 B, .bool P, .bool Q], .bool R]) (by simp [results, Tryz.results30, go_sem, z0, z1, z2, z3]) rfl ⟨rfl, HBZ.out⟩
          refine AllReadyH.cons (o := ⟨some 18, _, _, _, _, _⟩) rfl (fun K hK => ?_) AllReadyH.nil
          go_simp
          go_at_call 45
          refine (num_any b HI.out.2.1 _).mono ?_
          rintro e w40 ⟨qm0, hq, rfl, m0, kb⟩
          clear hq
          replace n0 := n0.below kb
          replace n1 := n1.below kb
          replace P0 := P0.below kb
          replace hB := hB.trans (kb.mono hB.size)
          clear kb
          refine hK.out _ _ ?_ (fun hHeld => ?_)
          · (try dsimp only); exact ⟨((HR.out.1.below hB HR.out.1.lt).cell 0).trans rfl, ((HR.out.1.below hB HR.out.1.lt).cell 1).trans rfl, ((HR.out.1.below hB HR.out.1.lt).cell 2).trans rfl, ((HR.out.1.below hB HR.out.1.lt).cell 3).trans rfl⟩
          clear hK K hHeld
          try simp only [Act.put, List.setIfInBounds_toArray, List.set_cons_zero, List.set_cons_succ]
          refine wpAnyH_ready (rs := [10, 18]) (by kernel_rfl) (by simp) ?_
          refine AllReadyH.cons (o := ⟨some 14, _, _, _, _, _⟩) rfl (fun K hK => ?_) ?_
          · go_simp
            have hB0 := hB.size
            have kb := below_map w40 (.cells #[.bool false, .slice none 0 0] 66)
            have en0_1 : qn0 ≠ w40.heap.size := by have hlt := n0.lt; exact Nat.ne_of_lt hlt
            have en1_1 : qn1 ≠ w40.heap.size := by have hlt := n1.lt; exact Nat.ne_of_lt hlt
            have eP0_1 : w33.heap.size ≠ w40.heap.size := by have hlt := P0.lt; exact Nat.ne_of_lt hlt
            have em0_1 : qm0 ≠ w40.heap.size := by have hlt := m0.lt; exact Nat.ne_of_lt hlt
            replace n0 := n0.below kb
            replace n1 := n1.below kb
            replace P0 := P0.below kb
            replace m0 := m0.below kb
            replace hB := hB.trans (kb.mono hB.size)
            have Z1 : ZB (w40.alloc (.cells #[.bool false, .slice none 0 0] 66)) w40.heap.size := Row.made w40 [.bool false, .slice none 0 0] 66
            have hb1 : wa.heap.size ≤ w40.heap.size := hB0
            clear kb hB0
            refine hK.out _ _ ?_ (fun hHeld => ?_)
            · (try dsimp only); exact ⟨((HR.out.1.below hB HR.out.1.lt).cell 0).trans rfl, ((HR.out.1.below hB HR.out.1.lt).cell 1).trans rfl, ((HR.out.1.below hB HR.out.1.lt).cell 2).trans rfl, ((HR.out.1.below hB HR.out.1.lt).cell 3).trans rfl⟩
            clear hK K hHeld
            try simp only [Act.put, List.setIfInBounds_toArray, List.set_cons_zero, List.set_cons_succ]
            refine wpAnyH_ready (rs := [18]) (by kernel_rfl) (by simp) ?_
            refine AllReadyH.cons (o := ⟨some 22, _, _, _, _, _⟩) rfl (fun K hK => ?_) AllReadyH.nil
            go_simp
            go_at_call 45
            refine (num_any c HI.out.2.2.1 _).mono ?_
            rintro e w41 ⟨qm1, hq, rfl, m1, kb⟩
            have em1_1 : qm1 ≠ w40.heap.size := Nat.ne_of_gt (Nat.lt_of_lt_of_le (Row.lt Z1) hq)
            clear hq
            replace n0 := n0.below kb
            replace n1 := n1.below kb
            replace P0 := P0.below kb
            replace m0 := m0.below kb
            replace Z1 := Row.below Z1 kb (Row.lt Z1)
            replace hB := hB.trans (kb.mono hB.size)
            clear kb
            refine hK.out _ _ ?_ (fun hHeld => ?_)
            · (try dsimp only); exact ⟨((HR.out.1.below hB HR.out.1.lt).cell 0).trans rfl, ((HR.out.1.below hB HR.out.1.lt).cell 1).trans rfl, ((HR.out.1.below hB HR.out.1.lt).cell 2).trans rfl, ((HR.out.1.below hB HR.out.1.lt).cell 3).trans rfl⟩
            clear hK K hHeld
            try simp only [Act.put, List.setIfInBounds_toArray, List.set_cons_zero, List.set_cons_succ]
            refine wpAnyH_ready (rs := [19]) (by kernel_rfl) (by simp) ?_
            refine AllReadyH.cons (o := ⟨some 23, _, _, _, _, _⟩) rfl (fun K hK => ?_) AllReadyH.nil
            go_simp
            go_at_call 74
            refine (sub_any _ _ _ b c HI.out.2.1 HI.out.2.2.1 em0_1 em1_1 _ Z1 m0 m1).mono ?_
            rintro e w42 ⟨rfl, P1, kk⟩
            replace n0 := n0.kept en0_1 Z1 kk
            replace n1 := n1.kept en1_1 Z1 kk
            replace P0 := P0.kept eP0_1 Z1 kk
            replace m0 := m0.kept em0_1 Z1 kk
            replace m1 := m1.kept em1_1 Z1 kk
            replace hB := hB.trans (kk.below hB.size (mem1 hb1))
            clear kk Z1 hb1
            refine hK.out _ _ ?_ (fun hHeld => ?_)
            · (try dsimp only); exact ⟨((HR.out.1.below hB HR.out.1.lt).cell 0).trans rfl, ((HR.out.1.below hB HR.out.1.lt).cell 1).trans rfl, ((HR.out.1.below hB HR.out.1.lt).cell 2).trans rfl, ((HR.out.1.below hB HR.out.1.lt).cell 3).trans rfl⟩
            clear hK K hHeld
            try simp only [Act.put, List.setIfInBounds_toArray, List.set_cons_zero, List.set_cons_succ]
            refine wpAnyH_ready (rs := [20]) (by kernel_rfl) (by simp) ?_
            refine AllReadyH.cons (o := ⟨some 24, _, _, _, _, _⟩) rfl (fun K hK => ?_) AllReadyH.nil
            go_simp
            go_at_call 43
            refine (FIT.out _ _ _ P0 P1).mono ?_
            rintro e w43 ⟨rfl, kb⟩
            replace hB := hB.trans (kb.mono hB.size)
            clear kb
            refine hK.out _ _ ?_ (fun hHeld => ?_)
            · (try dsimp only); exact ⟨((HR.out.1.below hB HR.out.1.lt).cell 0).trans rfl, ((HR.out.1.below hB HR.out.1.lt).cell 1).trans rfl, ((HR.out.1.below hB HR.out.1.lt).cell 2).trans rfl, ((HR.out.1.below hB HR.out.1.lt).cell 3).trans rfl⟩
            clear hK K
            try simp only [Act.put, List.setIfInBounds_toArray, List.set_cons_zero, List.set_cons_succ]
            refine tkw 21 25 ?_
            refine tkw 22 26 ?_
            have hr2 := HR.out.2.1.below hB HR.out.2.1.lt
            have hr1 := HR.out.1.below hB HR.out.1.lt
            have hb2 := HR.out.2.2.trans (hB.mono HR.out.2.2.size)
            obtain ⟨⟨q0, q1, q2, q3⟩, f0, f1, f2, f3⟩ := spc_row hr2
            refine wpAnyH_ready (rs := [23]) (by kernel_rfl) (by simp) ?_
            refine AllReadyH.cons (o := ⟨none, _, _, _, _, _⟩) rfl (fun K hK => ?_) AllReadyH.nil
            go_simp
            refine hK.out _ _ ?_ (fun hHeld => ?_)
            · have ho := (((hr1.other ⟨w.heap.size + 1, 0, none⟩ (.int .i64 A) (by simp)).other ⟨w.heap.size + 1, 1, none⟩ (.int .i64 B) (by simp)).other ⟨w.heap.size + 1, 2, none⟩ (.bool P) (by simp)).other ⟨w.heap.size + 1, 3, none⟩ (.bool Q) (by simp)
              (try dsimp only)
              exact ⟨(ho.cell 0).trans rfl, (ho.cell 1).trans rfl, (ho.cell 2).trans rfl, (ho.cell 3).trans rfl⟩
            clear hK K
            try simp only [Act.put, List.setIfInBounds_toArray, List.set_cons_zero, List.set_cons_succ]
            refine tkw 24 3 ?_
            refine wpAnyH_done (by kernel_rfl) ?_ _
            clear hHeld
            obtain ⟨⟨z0, z1, z2, z3⟩, _⟩ := spc_row (spc_put hr2 A B P Q)
            have HBZ := Lib.hid (below_set4 hb2 (Nat.le_succ w.heap.size) (.int .i64 A) (.int .i64 B) (.bool P) (.bool Q))
            have Z := Lib.hid (And.intro z0 (And.intro z1 (And.intro z2 z3)))
            clear z0 z1 z2 z3 hr1 hr2 hb2
            go_wp2
            obtain ⟨z0, z1, z2, z3⟩ := Z.out
            exact bodyPost_ret (v := .tuple #[.agg #[.int .i64 A, .int .i64 B, .bool P, .bool Q], .bool R]) (by simp [results, Tryz.results30, go_sem, z0, z1, z2, z3]) rfl ⟨rfl, HBZ.out⟩
          refine AllReadyH.cons (o := ⟨some 22, _, _, _, _, _⟩) rfl (fun K hK => ?_) AllReadyH.nil
          go_simp
          go_at_call 45
          refine (num_any c HI.out.2.2.1 _).mono ?_
          rintro e w44 ⟨qm1, hq, rfl, m1, kb⟩
          clear hq
          replace n0 := n0.below kb
          replace n1 := n1.below kb
          replace P0 := P0.below kb
          replace m0 := m0.below kb
          replace hB := hB.trans (kb.mono hB.size)
          clear kb
          refine hK.out _ _ ?_ (fun hHeld => ?_)
          · (try dsimp only); exact ⟨((HR.out.1.below hB HR.out.1.lt).cell 0).trans rfl, ((HR.out.1.below hB HR.out.1.lt).cell 1).trans rfl, ((HR.out.1.below hB HR.out.1.lt).cell 2).trans rfl, ((HR.out.1.below hB HR.out.1.lt).cell 3).trans rfl⟩
          clear hK K hHeld
          try simp only [Act.put, List.setIfInBounds_toArray, List.set_cons_zero, List.set_cons_succ]
          refine wpAnyH_ready (rs := [10]) (by kernel_rfl) (by simp) ?_
          refine AllReadyH.cons (o := ⟨some 14, _, _, _, _, _⟩) rfl (fun K hK => ?_) AllReadyH.nil
          go_simp
          have hB0 := hB.size
          have kb := below_map w44 (.cells #[.bool false, .slice none 0 0] 66)
          have en0_1 : qn0 ≠ w44.heap.size := by have hlt := n0.lt; exact Nat.ne_of_lt hlt
          have en1_1 : qn1 ≠ w44.heap.size := by have hlt := n1.lt; exact Nat.ne_of_lt hlt
          have eP0_1 : w33.heap.size ≠ w44.heap.size := by have hlt := P0.lt; exact Nat.ne_of_lt hlt
          have em0_1 : qm0 ≠ w44.heap.size := by have hlt := m0.lt; exact Nat.ne_of_lt hlt
          have em1_1 : qm1 ≠ w44.heap.size := by have hlt := m1.lt; exact Nat.ne_of_lt hlt
          replace n0 := n0.below kb
          replace n1 := n1.below kb
          replace P0 := P0.below kb
          replace m0 := m0.below kb
          replace m1 := m1.below kb
          replace hB := hB.trans (kb.mono hB.size)
          have Z1 : ZB (w44.alloc (.cells #[.bool false, .slice none 0 0] 66)) w44.heap.size := Row.made w44 [.bool false, .slice none 0 0] 66
          have hb1 : wa.heap.size ≤ w44.heap.size := hB0
          clear kb hB0
          refine hK.out _ _ ?_ (fun hHeld => ?_)
          · (try dsimp only); exact ⟨((HR.out.1.below hB HR.out.1.lt).cell 0).trans rfl, ((HR.out.1.below hB HR.out.1.lt).cell 1).trans rfl, ((HR.out.1.below hB HR.out.1.lt).cell 2).trans rfl, ((HR.out.1.below hB HR.out.1.lt).cell 3).trans rfl⟩
          clear hK K hHeld
          try simp only [Act.put, List.setIfInBounds_toArray, List.set_cons_zero, List.set_cons_succ]
          refine wpAnyH_ready (rs := [19]) (by kernel_rfl) (by simp) ?_
          refine AllReadyH.cons (o := ⟨some 23, _, _, _, _, _⟩) rfl (fun K hK => ?_) AllReadyH.nil
          go_simp
          go_at_call 74
          refine (sub_any _ _ _ b c HI.out.2.1 HI.out.2.2.1 em0_1 em1_1 _ Z1 m0 m1).mono ?_
          rintro e w45 ⟨rfl, P1, kk⟩
          replace n0 := n0.kept en0_1 Z1 kk
          replace n1 := n1.kept en1_1 Z1 kk
          replace P0 := P0.kept eP0_1 Z1 kk
          replace m0 := m0.kept em0_1 Z1 kk
          replace m1 := m1.kept em1_1 Z1 kk
          replace hB := hB.trans (kk.below hB.size (mem1 hb1))
          clear kk Z1 hb1
          refine hK.out _ _ ?_ (fun hHeld => ?_)
          · (try dsimp only); exact ⟨((HR.out.1.below hB HR.out.1.lt).cell 0).trans rfl, ((HR.out.1.below hB HR.out.1.lt).cell 1).trans rfl, ((HR.out.1.below hB HR.out.1.lt).cell 2).trans rfl, ((HR.out.1.below hB HR.out.1.lt).cell 3).trans rfl⟩
          clear hK K hHeld
          try simp only [Act.put, List.setIfInBounds_toArray, List.set_cons_zero, List.set_cons_succ]
          refine wpAnyH_ready (rs := [20]) (by kernel_rfl) (by simp) ?_
          refine AllReadyH.cons (o := ⟨some 24, _, _, _, _, _⟩) rfl (fun K hK => ?_) AllReadyH.nil
          go_simp
          go_at_call 43
          refine (FIT.out _ _ _ P0 P1).mono ?_
          rintro e w46 ⟨rfl, kb⟩
          replace hB := hB.trans (kb.mono hB.size)
          clear kb
          refine hK.out _ _ ?_ (fun hHeld => ?_)
          · (try dsimp only); exact ⟨((HR.out.1.below hB HR.out.1.lt).cell 0).trans rfl, ((HR.out.1.below hB HR.out.1.lt).cell 1).trans rfl, ((HR.out.1.below hB HR.out.1.lt).cell 2).trans rfl, ((HR.out.1.below hB HR.out.1.lt).cell 3).trans rfl⟩
          clear hK K
          try simp only [Act.put, List.setIfInBounds_toArray, List.set_cons_zero, List.set_cons_succ]
          refine tkw 21 25 ?_
          refine tkw 22 26 ?_
          have hr2 := HR.out.2.1.below hB HR.out.2.1.lt
          have hr1 := HR.out.1.below hB HR.out.1.lt
          have hb2 := HR.out.2.2.trans (hB.mono HR.out.2.2.size)
          obtain ⟨⟨q0, q1, q2, q3⟩, f0, f1, f2, f3⟩ := spc_row hr2
          refine wpAnyH_ready (rs := [23]) (by kernel_rfl) (by simp) ?_
          refine AllReadyH.cons (o := ⟨none, _, _, _, _, _⟩) rfl (fun K hK => ?_) AllReadyH.nil
          go_simp
          refine hK.out _ _ ?_ (fun hHeld => ?_)
          · have ho := (((hr1.other ⟨w.heap.size + 1, 0, none⟩ (.int .i64 A) (by simp)).other ⟨w.heap.size + 1, 1, none⟩ (.int .i64 B) (by simp)).other ⟨w.heap.size + 1, 2, none⟩ (.bool P) (by simp)).other ⟨w.heap.size + 1, 3, none⟩ (.bool Q) (by simp)
            (try dsimp only)
            exact ⟨(ho.cell 0).trans rfl, (ho.cell 1).trans rfl, (ho.cell 2).trans rfl, (ho.cell 3).trans rfl⟩
          clear hK K
          try simp only [Act.put, List.setIfInBounds_toArray, List.set_cons_zero, List.set_cons_succ]
          refine tkw 24 3 ?_
          refine wpAnyH_done (by kernel_rfl) ?_ _
          clear hHeld
          obtain ⟨⟨z0, z1, z2, z3⟩, _⟩ := spc_row (spc_put hr2 A B P Q)
          have HBZ := Lib.hid (below_set4 hb2 (Nat.le_succ w.heap.size) (.int .i64 A) (.int .i64 B) (.bool P) (.bool Q))
          have Z := Lib.hid (And.intro z0 (And.intro z1 (And.intro z2 z3)))
          clear z0 z1 z2 z3 hr1 hr2 hb2
          go_wp2
          obtain ⟨z0, z1, z2, z3⟩ := Z.out
          exact bodyPost_ret (v := .tuple #[.agg #[.int .i64 A, .int .i64 B, .bool P, .bool Q], .bool R]) (by simp [results, Tryz.results30, go_sem, z0, z1, z2, z3]) rfl ⟨rfl, HBZ.out⟩
        refine AllReadyH.cons (o := ⟨some 14, _, _, _, _, _⟩) rfl (fun K hK => ?_) AllReadyH.nil
        go_simp
        have hB0 := hB.size
        have kb := below_map w34 (.cells #[.bool false, .slice none 0 0] 66)
        have en0_1 : qn0 ≠ w34.heap.size := by have hlt := n0.lt; exact Nat.ne_of_lt hlt
        have en1_1 : qn1 ≠ w34.heap.size := by have hlt := n1.lt; exact Nat.ne_of_lt hlt
        have hne : w34.heap.size ≠ w33.heap.size := by have hlt := Row.lt Z0; exact Nat.ne_of_gt hlt
        replace n0 := n0.below kb
        replace n1 := n1.below kb
        replace Z0 := Row.below Z0 kb (Row.lt Z0)
        replace hB := hB.trans (kb.mono hB.size)
        have Z1 : ZB (w34.alloc (.cells #[.bool false, .slice none 0 0] 66)) w34.heap.size := Row.made w34 [.bool false, .slice none 0 0] 66
        have hb1 : wa.heap.size ≤ w34.heap.size := hB0
        clear kb hB0
        refine hK.out _ _ ?_ (fun hHeld => ?_)
        · (try dsimp only); exact ⟨((HR.out.1.below hB HR.out.1.lt).cell 0).trans rfl, ((HR.out.1.below hB HR.out.1.lt).cell 1).trans rfl, ((HR.out.1.below hB HR.out.1.lt).cell 2).trans rfl, ((HR.out.1.below hB HR.out.1.lt).cell 3).trans rfl⟩
        clear hK K hHeld
        try simp only [Act.put, List.setIfInBounds_toArray, List.set_cons_zero, List.set_cons_succ]
        refine wpAnyH_ready (rs := [9]) (by kernel_rfl) (by simp) ?_
        refine AllReadyH.cons (o := ⟨some 13, _, _, _, _, _⟩) rfl (fun K hK => ?_) AllReadyH.nil
        go_simp
        go_at_call 74
        refine (sub_any _ _ _ a d HI.out.1 HI.out.2.2.2 en0_0 en1_0 _ Z0 n0 n1).mono ?_
        rintro e w47 ⟨rfl, P0, kk⟩
        replace n0 := n0.kept en0_0 Z0 kk
        replace n1 := n1.kept en1_0 Z0 kk
        replace Z1 := kk.row Z1 (nmem1 hne)
        have eP0_1 := hne.symm
        replace hB := hB.trans (kk.below hB.size (mem1 hb0))
        clear kk Z0 hb0
        refine hK.out _ _ ?_ (fun hHeld => ?_)
        · (try dsimp only); exact ⟨((HR.out.1.below hB HR.out.1.lt).cell 0).trans rfl, ((HR.out.1.below hB HR.out.1.lt).cell 1).trans rfl, ((HR.out.1.below hB HR.out.1.lt).cell 2).trans rfl, ((HR.out.1.below hB HR.out.1.lt).cell 3).trans rfl⟩
        clear hK K hHeld
        try simp only [Act.put, List.setIfInBounds_toArray, List.set_cons_zero, List.set_cons_succ]
        refine wpAnyH_ready (rs := [14]) (by kernel_rfl) (by simp) ?_
        refine AllReadyH.cons (o := ⟨some 18, _, _, _, _, _⟩) rfl (fun K hK => ?_) AllReadyH.nil
        go_simp
        go_at_call 45
        refine (num_any b HI.out.2.1 _).mono ?_
        rintro e w48 ⟨qm0, hq, rfl, m0, kb⟩
        have em0_1 : qm0 ≠ w34.heap.size := Nat.ne_of_gt (Nat.lt_of_lt_of_le (Row.lt Z1) hq)
        clear hq
        replace n0 := n0.below kb
        replace n1 := n1.below kb
        replace P0 := P0.below kb
        replace Z1 := Row.below Z1 kb (Row.lt Z1)
        replace hB := hB.trans (kb.mono hB.size)
        clear kb
        refine hK.out _ _ ?_ (fun hHeld => ?_)
        · (try dsimp only); exact ⟨((HR.out.1.below hB HR.out.1.lt).cell 0).trans rfl, ((HR.out.1.below hB HR.out.1.lt).cell 1).trans rfl, ((HR.out.1.below hB HR.out.1.lt).cell 2).trans rfl, ((HR.out.1.below hB HR.out.1.lt).cell 3).trans rfl⟩
        clear hK K hHeld
        try simp only [Act.put, List.setIfInBounds_toArray, List.set_cons_zero, List.set_cons_succ]
        refine wpAnyH_ready (rs := [18]) (by kernel_rfl) (by simp) ?_
        refine AllReadyH.cons (o := ⟨some 22, _, _, _, _, _⟩) rfl (fun K hK => ?_) AllReadyH.nil
        go_simp
        go_at_call 45
        refine (num_any c HI.out.2.2.1 _).mono ?_
        rintro e w49 ⟨qm1, hq, rfl, m1, kb⟩
        have em1_1 : qm1 ≠ w34.heap.size := Nat.ne_of_gt (Nat.lt_of_lt_of_le (Row.lt Z1) hq)
        clear hq
        replace n0 := n0.below kb
        replace n1 := n1.below kb
        replace P0 := P0.below kb
        replace m0 := m0.below kb
        replace Z1 := Row.below Z1 kb (Row.lt Z1)
        replace hB := hB.trans (kb.mono hB.size)
        clear kb
        refine hK.out _ _ ?_ (fun hHeld => ?_)
        · (try dsimp only); exact ⟨((HR.out.1.below hB HR.out.1.lt).cell 0).trans rfl, ((HR.out.1.below hB HR.out.1.lt).cell 1).trans rfl, ((HR.out.1.below hB HR.out.1.lt).cell 2).trans rfl, ((HR.out.1.below hB HR.out.1.lt).cell 3).trans rfl⟩
        clear hK K hHeld
        try simp only [Act.put, List.setIfInBounds_toArray, List.set_cons_zero, List.set_cons_succ]
        refine wpAnyH_ready (rs := [19]) (by kernel_rfl) (by simp) ?_
        refine AllReadyH.cons (o := ⟨some 23, _, _, _, _, _⟩) rfl (fun K hK => ?_) AllReadyH.nil
        go_simp
        go_at_call 74
        refine (sub_any _ _ _ b c HI.out.2.1 HI.out.2.2.1 em0_1 em1_1 _ Z1 m0 m1).mono ?_
        rintro e w50 ⟨rfl, P1, kk⟩
        replace n0 := n0.kept en0_1 Z1 kk
        replace n1 := n1.kept en1_1 Z1 kk
        replace P0 := P0.kept eP0_1 Z1 kk
        replace m0 := m0.kept em0_1 Z1 kk
        replace m1 := m1.kept em1_1 Z1 kk
        replace hB := hB.trans (kk.below hB.size (mem1 hb1))
        clear kk Z1 hb1
        refine hK.out _ _ ?_ (fun hHeld => ?_)
        · (try dsimp only); exact ⟨((HR.out.1.below hB HR.out.1.lt).cell 0).trans rfl, ((HR.out.1.below hB HR.out.1.lt).cell 1).trans rfl, ((HR.out.1.below hB HR.out.1.lt).cell 2).trans rfl, ((HR.out.1.below hB HR.out.1.lt).cell 3).trans rfl⟩
        clear hK K hHeld
        try simp only [Act.put, List.setIfInBounds_toArray, List.set_cons_zero, List.set_cons_succ]
        refine wpAnyH_ready (rs := [20]) (by kernel_rfl) (by simp) ?_
        refine AllReadyH.cons (o := ⟨some 24, _, _, _, _, _⟩) rfl (fun K hK => ?_) AllReadyH.nil
        go_simp
        go_at_call 43
        refine (FIT.out _ _ _ P0 P1).mono ?_
        rintro e w51 ⟨rfl, kb⟩
        replace hB := hB.trans (kb.mono hB.size)
        clear kb
        refine hK.out _ _ ?_ (fun hHeld => ?_)
        · (try dsimp only); exact ⟨((HR.out.1.below hB HR.out.1.lt).cell 0).trans rfl, ((HR.out.1.below hB HR.out.1.lt).cell 1).trans rfl, ((HR.out.1.below hB HR.out.1.lt).cell 2).trans rfl, ((HR.out.1.below hB HR.out.1.lt).cell 3).trans rfl⟩
        clear hK K
        try simp only [Act.put, List.setIfInBounds_toArray, List.set_cons_zero, List.set_cons_succ]
        refine tkw 21 25 ?_
        refine tkw 22 26 ?_
        have hr2 := HR.out.2.1.below hB HR.out.2.1.lt
        have hr1 := HR.out.1.below hB HR.out.1.lt
        have hb2 := HR.out.2.2.trans (hB.mono HR.out.2.2.size)
        obtain ⟨⟨q0, q1, q2, q3⟩, f0, f1, f2, f3⟩ := spc_row hr2
        refine wpAnyH_ready (rs := [23]) (by kernel_rfl) (by simp) ?_
        refine AllReadyH.cons (o := ⟨none, _, _, _, _, _⟩) rfl (fun K hK => ?_) AllReadyH.nil
        go_simp
        refine hK.out _ _ ?_ (fun hHeld => ?_)
        · have ho := (((hr1.other ⟨w.heap.size + 1, 0, none⟩ (.int .i64 A) (by simp)).other ⟨w.heap.size + 1, 1, none⟩ (.int .i64 B) (by simp)).other ⟨w.heap.size + 1, 2, none⟩ (.bool P) (by simp)).other ⟨w.heap.size + 1, 3, none⟩ (.bool Q) (by simp)
          (try dsimp only)
          exact ⟨(ho.cell 0).trans rfl, (ho.cell 1).trans rfl, (ho.cell 2).trans rfl, (ho.cell 3).trans rfl⟩
        clear hK K
        try simp only [Act.put, List.setIfInBounds_toArray, List.set_cons_zero, List.set_cons_succ]
        refine tkw 24 3 ?_
        refine wpAnyH_done (by kernel_rfl) ?_ _
        clear hHeld
        obtain ⟨⟨z0, z1, z2, z3⟩, _⟩ := spc_row (spc_put hr2 A B P Q)
        have HBZ := Lib.hid (below_set4 hb2 (Nat.le_succ w.heap.size) (.int .i64 A) (.int .i64 B) (.bool P) (.bool Q))
        have Z := Lib.hid (And.intro z0 (And.intro z1 (And.intro z2 z3)))
        clear z0 z1 z2 z3 hr1 hr2 hb2
        go_wp2
        obtain ⟨z0, z1, z2, z3⟩ := Z.out
        exact bodyPost_ret (v := .tuple #[.agg #[.int .i64 A, .int .i64 B, .bool P, .bool Q], .bool R]) (by simp [results, Tryz.results30, go_sem, z0, z1, z2, z3]) rfl ⟨rfl, HBZ.out⟩
      refine AllReadyH.cons (o := ⟨some 14, _, _, _, _, _⟩) rfl (fun K hK => ?_) AllReadyH.nil
      go_simp
      have hB0 := hB.size
      have kb := below_map (w33.alloc (.cells #[.bool false, .slice none 0 0] 66)) (.cells #[.bool false, .slice none 0 0] 66)
      have en0_1 : qn0 ≠ (w33.heap.size + 1) := by have hlt := n0.lt; rw [size_al] at hlt; exact Nat.ne_of_lt hlt
      have hne : (w33.heap.size + 1) ≠ w33.heap.size := by have hlt := Row.lt Z0; rw [size_al] at hlt; exact Nat.ne_of_gt hlt
      replace n0 := n0.below kb
      replace Z0 := Row.below Z0 kb (Row.lt Z0)
      replace hB := hB.trans (kb.mono hB.size)
      have Z1 : ZB ((w33.alloc (.cells #[.bool false, .slice none 0 0] 66)).alloc (.cells #[.bool false, .slice none 0 0] 66)) (w33.heap.size + 1) := row2 w33 (.cells #[.bool false, .slice none 0 0] 66) [.bool false, .slice none 0 0] 66
      have hb1 : wa.heap.size ≤ (w33.heap.size + 1) := by rw [size_al] at hB0; exact hB0
      clear kb hB0
      refine hK.out _ _ ?_ (fun hHeld => ?_)
      · (try dsimp only); exact ⟨((HR.out.1.below hB HR.out.1.lt).cell 0).trans rfl, ((HR.out.1.below hB HR.out.1.lt).cell 1).trans rfl, ((HR.out.1.below hB HR.out.1.lt).cell 2).trans rfl, ((HR.out.1.below hB HR.out.1.lt).cell 3).trans rfl⟩
      clear hK K hHeld
      try simp only [Act.put, List.setIfInBounds_toArray, List.set_cons_zero, List.set_cons_succ]
      refine wpAnyH_ready (rs := [8]) (by kernel_rfl) (by simp) ?_
      refine AllReadyH.cons (o := ⟨some 12, _, _, _, _, _⟩) rfl (fun K hK => ?_) AllReadyH.nil
      go_simp
      go_at_call 45
      refine (num_any d HI.out.2.2.2 _).mono ?_
      rintro e w52 ⟨qn1, hq, rfl, n1, kb⟩
      have en1_0 : qn1 ≠ w33.heap.size := Nat.ne_of_gt (Nat.lt_of_lt_of_le (Row.lt Z0) hq)
      have en1_1 : qn1 ≠ (w33.heap.size + 1) := Nat.ne_of_gt (Nat.lt_of_lt_of_le (Row.lt Z1) hq)
      clear hq
      replace n0 := n0.below kb
      replace Z0 := Row.below Z0 kb (Row.lt Z0)
      replace Z1 := Row.below Z1 kb (Row.lt Z1)
      replace hB := hB.trans (kb.mono hB.size)
      clear kb
      refine hK.out _ _ ?_ (fun hHeld => ?_)
      · (try dsimp only); exact ⟨((HR.out.1.below hB HR.out.1.lt).cell 0).trans rfl, ((HR.out.1.below hB HR.out.1.lt).cell 1).trans rfl, ((HR.out.1.below hB HR.out.1.lt).cell 2).trans rfl, ((HR.out.1.below hB HR.out.1.lt).cell 3).trans rfl⟩
      clear hK K hHeld
      try simp only [Act.put, List.setIfInBounds_toArray, List.set_cons_zero, List.set_cons_succ]
      refine wpAnyH_ready (rs := [9]) (by kernel_rfl) (by simp) ?_
      refine AllReadyH.cons (o := ⟨some 13, _, _, _, _, _⟩) rfl (fun K hK => ?_) AllReadyH.nil
      go_simp
      go_at_call 74
      refine (sub_any _ _ _ a d HI.out.1 HI.out.2.2.2 en0_0 en1_0 _ Z0 n0 n1).mono ?_
      rintro e w53 ⟨rfl, P0, kk⟩
      replace n0 := n0.kept en0_0 Z0 kk
      replace n1 := n1.kept en1_0 Z0 kk
      replace Z1 := kk.row Z1 (nmem1 hne)
      have eP0_1 := hne.symm
      replace hB := hB.trans (kk.below hB.size (mem1 hb0))
      clear kk Z0 hb0
      refine hK.out _ _ ?_ (fun hHeld => ?_)
      · (try dsimp only); exact ⟨((HR.out.1.below hB HR.out.1.lt).cell 0).trans rfl, ((HR.out.1.below hB HR.out.1.lt).cell 1).trans rfl, ((HR.out.1.below hB HR.out.1.lt).cell 2).trans rfl, ((HR.out.1.below hB HR.out.1.lt).cell 3).trans rfl⟩
      clear hK K hHeld
      try simp only [Act.put, List.setIfInBounds_toArray, List.set_cons_zero, List.set_cons_succ]
      refine wpAnyH_ready (rs := [14]) (by kernel_rfl) (by simp) ?_
      refine AllReadyH.cons (o := ⟨some 18, _, _, _, _, _⟩) rfl (fun K hK => ?_) AllReadyH.nil
      go_simp
      go_at_call 45
      refine (num_any b HI.out.2.1 _).mono ?_
      rintro e w54 ⟨qm0, hq, rfl, m0, kb⟩
      have em0_1 : qm0 ≠ (w33.heap.size + 1) := Nat.ne_of_gt (Nat.lt_of_lt_of_le (Row.lt Z1) hq)
      clear hq
      replace n0 := n0.below kb
      replace n1 := n1.below kb
      replace P0 := P0.below kb
      replace Z1 := Row.below Z1 kb (Row.lt Z1)
      replace hB := hB.trans (kb.mono hB.size)
      clear kb
      refine hK.out _ _ ?_ (fun hHeld => ?_)
      · (try dsimp only); exact ⟨((HR.out.1.below hB HR.out.1.lt).cell 0).trans rfl, ((HR.out.1.below hB HR.out.1.lt).cell 1).trans rfl, ((HR.out.1.below hB HR.out.1.lt).cell 2).trans rfl, ((HR.out.1.below hB HR.out.1.lt).cell 3).trans rfl⟩
      clear hK K hHeld
      try simp only [Act.put, List.setIfInBounds_toArray, List.set_cons_zero, List.set_cons_succ]
      refine wpAnyH_ready (rs := [18]) (by kernel_rfl) (by simp) ?_
      refine AllReadyH.cons (o := ⟨some 22, _, _, _, _, _⟩) rfl (fun K hK => ?_) AllReadyH.nil
      go_simp
      go_at_call 45
      refine (num_any c HI.out.2.2.1 _).mono ?_
      rintro e w55 ⟨qm1, hq, rfl, m1, kb⟩
      have em1_1 : qm1 ≠ (w33.heap.size + 1) := Nat.ne_of_gt (Nat.lt_of_lt_of_le (Row.lt Z1) hq)
      clear hq
      replace n0 := n0.below kb
      replace n1 := n1.below kb
      replace P0 := P0.below kb
      replace m0 := m0.below kb
      replace Z1 := Row.below Z1 kb (Row.lt Z1)
      replace hB := hB.trans (kb.mono hB.size)
      clear kb
      refine hK.out _ _ ?_ (fun hHeld => ?_)
      · (try dsimp only); exact ⟨((HR.out.1.below hB HR.out.1.lt).cell 0).trans rfl, ((HR.out.1.below hB HR.out.1.lt).cell 1).trans rfl, ((HR.out.1.below hB HR.out.1.lt).cell 2).trans rfl, ((HR.out.1.below hB HR.out.1.lt).cell 3).trans rfl⟩
      clear hK K hHeld
      try simp only [Act.put, List.setIfInBounds_toArray, List.set_cons_zero, List.set_cons_succ]
      refine wpAnyH_ready (rs := [19]) (by kernel_rfl) (by simp) ?_
      refine AllReadyH.cons (o := ⟨some 23, _, _, _, _, _⟩) rfl (fun K hK => ?_) AllReadyH.nil
      go_simp
      go_at_call 74
      refine (sub_any _ _ _ b c HI.out.2.1 HI.out.2.2.1 em0_1 em1_1 _ Z1 m0 m1).mono ?_
      rintro e w56 ⟨rfl, P1, kk⟩
      replace n0 := n0.kept en0_1 Z1 kk
      replace n1 := n1.kept en1_1 Z1 kk
      replace P0 := P0.kept eP0_1 Z1 kk
      replace m0 := m0.kept em0_1 Z1 kk
      replace m1 := m1.kept em1_1 Z1 kk
      replace hB := hB.trans (kk.below hB.size (mem1 hb1))
      clear kk Z1 hb1
      refine hK.out _ _ ?_ (fun hHeld => ?_)
      · (try dsimp only); exact ⟨((HR.out.1.below hB HR.out.1.lt).cell 0).trans rfl, ((HR.out.1.below hB HR.out.1.lt).cell 1).trans rfl, ((HR.out.1.below hB HR.out.1.lt).cell 2).trans rfl, ((HR.out.1.below hB HR.out.1.lt).cell 3).trans rfl⟩
      clear hK K hHeld
      try simp only [Act.put, List.setIfInBounds_toArray, List.set_cons_zero, List.set_cons_succ]
      refine wpAnyH_ready (rs := [20]) (by kernel_rfl) (by simp) ?_
      refine AllReadyH.cons (o := ⟨some 24, _, _, _, _, _⟩) rfl (fun K hK => ?_) AllReadyH.nil
      go_simp
      go_at_call 43
      refine (FIT.out _ _ _ P0 P1).mono ?_
      rintro e w57 ⟨rfl, kb⟩
      replace hB := hB.trans (kb.mono hB.size)
      clear kb
      refine hK.out _ _ ?_ (fun hHeld => ?_)
      · (try dsimp only); exact ⟨((HR.out.1.below hB HR.out.1.lt).cell 0).trans rfl, ((HR.out.1.below hB HR.out.1.lt).cell 1).trans rfl, ((HR.out.1.below hB HR.out.1.lt).cell 2).trans rfl, ((HR.out.1.below hB HR.out.1.lt).cell 3).trans rfl⟩
      clear hK K
      try simp only [Act.put, List.setIfInBounds_toArray, List.set_cons_zero, List.set_cons_succ]
      refine tkw 21 25 ?_
      refine tkw 22 26 ?_
      have hr2 := HR.out.2.1.below hB HR.out.2.1.lt
      have hr1 := HR.out.1.below hB HR.out.1.lt
      have hb2 := HR.out.2.2.trans (hB.mono HR.out.2.2.size)
      obtain ⟨⟨q0, q1, q2, q3⟩, f0, f1, f2, f3⟩ := spc_row hr2
      refine wpAnyH_ready (rs := [23]) (by kernel_rfl) (by simp) ?_
      refine AllReadyH.cons (o := ⟨none, _, _, _, _, _⟩) rfl (fun K hK => ?_) AllReadyH.nil
      go_simp
      refine hK.out _ _ ?_ (fun hHeld => ?_)
      · have ho := (((hr1.other ⟨w.heap.size + 1, 0, none⟩ (.int .i64 A) (by simp)).other ⟨w.heap.size + 1, 1, none⟩ (.int .i64 B) (by simp)).other ⟨w.heap.size + 1, 2, none⟩ (.bool P) (by simp)).other ⟨w.heap.size + 1, 3, none⟩ (.bool Q) (by simp)
        (try dsimp only)
        exact ⟨(ho.cell 0).trans rfl, (ho.cell 1).trans rfl, (ho.cell 2).trans rfl, (ho.cell 3).trans rfl⟩
      clear hK K
      try simp only [Act.put, List.setIfInBounds_toArray, List.set_cons_zero, List.set_cons_succ]
      refine tkw 24 3 ?_
      refine wpAnyH_done (by kernel_rfl) ?_ _
      clear hHeld
      obtain ⟨⟨z0, z1, z2, z3⟩, _⟩ := spc_row (spc_put hr2 A B P Q)
      have HBZ := Lib.hid (below_set4 hb2 (Nat.le_succ w.heap.size) (.int .i64 A) (.int .i64 B) (.bool P) (.bool Q))
      have Z := Lib.hid (And.intro z0 (And.intro z1 (And.intro z2 z3)))
      clear z0 z1 z2 z3 hr1 hr2 hb2
      go_wp2
      obtain ⟨z0, z1, z2, z3⟩ := Z.out
      exact bodyPost_ret (v := .tuple #[.agg #[.int .i64 A, .int .i64 B, .bool P, .bool Q], .bool R]) (by simp [results, Tryz.results30, go_sem, z0, z1, z2, z3]) rfl ⟨rfl, HBZ.out⟩
    refine AllReadyH.cons (o := ⟨some 12, _, _, _, _, _⟩) rfl (fun K hK => ?_) ?_
    · go_simp
      go_at_call 45
      refine (num_any d HI.out.2.2.2 _).mono ?_
      rintro e w58 ⟨qn1, hq, rfl, n1, kb⟩
      clear hq
      replace n0 := n0.below kb
      replace hB := hB.trans (kb.mono hB.size)
      clear kb
      refine hK.out _ _ ?_ (fun hHeld => ?_)
      · (try dsimp only); exact ⟨((HR.out.1.below hB HR.out.1.lt).cell 0).trans rfl, ((HR.out.1.below hB HR.out.1.lt).cell 1).trans rfl, ((HR.out.1.below hB HR.out.1.lt).cell 2).trans rfl, ((HR.out.1.below hB HR.out.1.lt).cell 3).trans rfl⟩
      clear hK K hHeld
      try simp only [Act.put, List.setIfInBounds_toArray, List.set_cons_zero, List.set_cons_succ]
      refine wpAnyH_ready (rs := [0, 10]) (by kernel_rfl) (by simp) ?_
      refine AllReadyH.cons (o := ⟨some 4, _, _, _, _, _⟩) rfl (fun K hK => ?_) ?_
      · go_simp
        have hB0 := hB.size
        have kb := below_map w58 (.cells #[.bool false, .slice none 0 0] 66)
        have en0_0 : qn0 ≠ w58.heap.size := by have hlt := n0.lt; exact Nat.ne_of_lt hlt
        have en1_0 : qn1 ≠ w58.heap.size := by have hlt := n1.lt; exact Nat.ne_of_lt hlt
        replace n0 := n0.below kb
        replace n1 := n1.below kb
        replace hB := hB.trans (kb.mono hB.size)
        have Z0 : ZB (w58.alloc (.cells #[.bool false, .slice none 0 0] 66)) w58.heap.size := Row.made w58 [.bool false, .slice none 0 0] 66
        have hb0 : wa.heap.size ≤ w58.heap.size := hB0
        clear kb hB0
        refine hK.out _ _ ?_ (fun hHeld => ?_)
        · (try dsimp only); exact ⟨((HR.out.1.below hB HR.out.1.lt).cell 0).trans rfl, ((HR.out.1.below hB HR.out.1.lt).cell 1).trans rfl, ((HR.out.1.below hB HR.out.1.lt).cell 2).trans rfl, ((HR.out.1.below hB HR.out.1.lt).cell 3).trans rfl⟩
        clear hK K hHeld
        try simp only [Act.put, List.setIfInBounds_toArray, List.set_cons_zero, List.set_cons_succ]
        refine wpAnyH_ready (rs := [9, 10]) (by kernel_rfl) (by simp) ?_
        refine AllReadyH.cons (o := ⟨some 13, _, _, _, _, _⟩) rfl (fun K hK => ?_) ?_
        · go_simp
          go_at_call 74
          refine (sub_any _ _ _ a d HI.out.1 HI.out.2.2.2 en0_0 en1_0 _ Z0 n0 n1).mono ?_
          rintro e w59 ⟨rfl, P0, kk⟩
          replace n0 := n0.kept en0_0 Z0 kk
          replace n1 := n1.kept en1_0 Z0 kk
          replace hB := hB.trans (kk.below hB.size (mem1 hb0))
          clear kk Z0 hb0
          refine hK.out _ _ ?_ (fun hHeld => ?_)
          · (try dsimp only); exact ⟨((HR.out.1.below hB HR.out.1.lt).cell 0).trans rfl, ((HR.out.1.below hB HR.out.1.lt).cell 1).trans rfl, ((HR.out.1.below hB HR.out.1.lt).cell 2).trans rfl, ((HR.out.1.below hB HR.out.1.lt).cell 3).trans rfl⟩
          clear hK K hHeld
          try simp only [Act.put, List.setIfInBounds_toArray, List.set_cons_zero, List.set_cons_succ]
          refine wpAnyH_ready (rs := [10, 14]) (by kernel_rfl) (by simp) ?_
          refine AllReadyH.cons (o := ⟨some 14, _, _, _, _, _⟩) rfl (fun K hK => ?_) ?_
          · go_simp
            have hB0 := hB.size
            have kb := below_map w59 (.cells #[.bool false, .slice none 0 0] 66)
            have en0_1 : qn0 ≠ w59.heap.size := by have hlt := n0.lt; exact Nat.ne_of_lt hlt
            have en1_1 : qn1 ≠ w59.heap.size := by have hlt := n1.lt; exact Nat.ne_of_lt hlt
            have eP0_1 : w58.heap.size ≠ w59.heap.size := by have hlt := P0.lt; exact Nat.ne_of_lt hlt
            replace n0 := n0.below kb
            replace n1 := n1.below kb
            replace P0 := P0.below kb
            replace hB := hB.trans (kb.mono hB.size)
            have Z1 : ZB (w59.alloc (.cells #[.bool false, .slice none 0 0] 66)) w59.heap.size := Row.made w59 [.bool false, .slice none 0 0] 66
            have hb1 : wa.heap.size ≤ w59.heap.size := hB0
            clear kb hB0
            refine hK.out _ _ ?_ (fun hHeld => ?_)
            · (try dsimp only); exact ⟨((HR.out.1.below hB HR.out.1.lt).cell 0).trans rfl, ((HR.out.1.below hB HR.out.1.lt).cell 1).trans rfl, ((HR.out.1.below hB HR.out.1.lt).cell 2).trans rfl, ((HR.out.1.below hB HR.out.1.lt).cell 3).trans rfl⟩
            clear hK K hHeld
            try simp only [Act.put, List.setIfInBounds_toArray, List.set_cons_zero, List.set_cons_succ]
            refine wpAnyH_ready (rs := [14]) (by kernel_rfl) (by simp) ?_
            refine AllReadyH.cons (o := ⟨some 18, _, _, _, _, _⟩) rfl (fun K hK => ?_) AllReadyH.nil
            go_simp
            go_at_call 45
            refine (num_any b HI.out.2.1 _).mono ?_
            rintro e w60 ⟨qm0, hq, rfl, m0, kb⟩
            have em0_1 : qm0 ≠ w59.heap.size := Nat.ne_of_gt (Nat.lt_of_lt_of_le (Row.lt Z1) hq)
            clear hq
            replace n0 := n0.below kb
            replace n1 := n1.below kb
            replace P0 := P0.below kb
            replace Z1 := Row.below Z1 kb (Row.lt Z1)
            replace hB := hB.trans (kb.mono hB.size)
            clear kb
            refine hK.out _ _ ?_ (fun hHeld => ?_)
            · (try dsimp only); exact ⟨((HR.out.1.below hB HR.out.1.lt).cell 0).trans rfl, ((HR.out.1.below hB HR.out.1.lt).cell 1).trans rfl, ((HR.out.1.below hB HR.out.1.lt).cell 2).trans rfl, ((HR.out.1.below hB HR.out.1.lt).cell 3).trans rfl⟩
            clear hK K hHeld
            try simp only [Act.put, List.setIfInBounds_toArray, List.set_cons_zero, List.set_cons_succ]
            refine wpAnyH_ready (rs := [18]) (by kernel_rfl) (by simp) ?_
            refine AllReadyH.cons (o := ⟨some 22, _, _, _, _, _⟩) rfl (fun K hK => ?_) AllReadyH.nil
            go_simp
            go_at_call 45
            refine (num_any c HI.out.2.2.1 _).mono ?_
            rintro e w61 ⟨qm1, hq, rfl, m1, kb⟩
            have em1_1 : qm1 ≠ w59.heap.size := Nat.ne_of_gt (Nat.lt_of_lt_of_le (Row.lt Z1) hq)
            clear hq
            replace n0 := n0.below kb
            replace n1 := n1.below kb
            replace P0 := P0.below kb
            replace m0 := m0.below kb
            replace Z1 := Row.below Z1 kb (Row.lt Z1)
            replace hB := hB.trans (kb.mono hB.size)
            clear kb
            refine hK.out _ _ ?_ (fun hHeld => ?_)
            · (try dsimp only); exact ⟨((HR.out.1.below hB HR.out.1.lt).cell 0).trans rfl, ((HR.out.1.below hB HR.out.1.lt).cell 1).trans rfl, ((HR.out.1.below hB HR.out.1.lt).cell 2).trans rfl, ((HR.out.1.below hB HR.out.1.lt).cell 3).trans rfl⟩
            clear hK K hHeld
            try simp only [Act.put, List.setIfInBounds_toArray, List.set_cons_zero, List.set_cons_succ]
            refine wpAnyH_ready (rs := [19]) (by kernel_rfl) (by simp) ?_
            refine AllReadyH.cons (o := ⟨some 23, _, _, _, _, _⟩) rfl (fun K hK => ?_) AllReadyH.nil
            go_simp
            go_at_call 74
            refine (sub_any _ _ _ b c HI.out.2.1 HI.out.2.2.1 em0_1 em1_1 _ Z1 m0 m1).mono ?_
            rintro e w62 ⟨rfl, P1, kk⟩
            replace n0 := n0.kept en0_1 Z1 kk
            replace n1 := n1.kept en1_1 Z1 kk
            replace P0 := P0.kept eP0_1 Z1 kk
            replace m0 := m0.kept em0_1 Z1 kk
            replace m1 := m1.kept em1_1 Z1 kk
            replace hB := hB.trans (kk.below hB.size (mem1 hb1))
            clear kk Z1 hb1
            refine hK.out _ _ ?_ (fun hHeld => ?_)
            · (try dsimp only); exact ⟨((HR.out.1.below hB HR.out.1.lt).cell 0).trans rfl, ((HR.out.1.below hB HR.out.1.lt).cell 1).trans rfl, ((HR.out.1.below hB HR.out.1.lt).cell 2).trans rfl, ((HR.out.1.below hB HR.out.1.lt).cell 3).trans rfl⟩
            clear hK K hHeld
            try simp only [Act.put, List.setIfInBounds_toArray, List.set_cons_zero, List.set_cons_succ]
            refine wpAnyH_ready (rs := [20]) (by kernel_rfl) (by simp) ?_
            refine AllReadyH.cons (o := ⟨some 24, _, _, _, _, _⟩) rfl (fun K hK => ?_) AllReadyH.nil
            go_simp
            go_at_call 43
            refine (FIT.out _ _ _ P0 P1).mono ?_
            rintro e w63 ⟨rfl, kb⟩
            replace hB := hB.trans (kb.mono hB.size)
            clear kb
            refine hK.out _ _ ?_ (fun hHeld => ?_)
            · (try dsimp only); exact ⟨((HR.out.1.below hB HR.out.1.lt).cell 0).trans rfl, ((HR.out.1.below hB HR.out.1.lt).cell 1).trans rfl, ((HR.out.1.below hB HR.out.1.lt).cell 2).trans rfl, ((HR.out.1.below hB HR.out.1.lt).cell 3).trans rfl⟩
            clear hK K
            try simp only [Act.put, List.setIfInBounds_toArray, List.set_cons_zero, List.set_cons_succ]
            refine tkw 21 25 ?_
            refine tkw 22 26 ?_
            have hr2 := HR.out.2.1.below hB HR.out.2.1.lt
            have hr1 := HR.out.1.below hB HR.out.1.lt
            have hb2 := HR.out.2.2.trans (hB.mono HR.out.2.2.size)
            obtain ⟨⟨q0, q1, q2, q3⟩, f0, f1, f2, f3⟩ := spc_row hr2
            refine wpAnyH_ready (rs := [23]) (by kernel_rfl) (by simp) ?_
            refine AllReadyH.cons (o := ⟨none, _, _, _, _, _⟩) rfl (fun K hK => ?_) AllReadyH.nil
            go_simp
            refine hK.out _ _ ?_ (fun hHeld => ?_)
            · have ho := (((hr1.other ⟨w.heap.size + 1, 0, none⟩ (.int .i64 A) (by simp)).other ⟨w.heap.size + 1, 1, none⟩ (.int .i64 B) (by simp)).other ⟨w.heap.size + 1, 2, none⟩ (.bool P) (by simp)).other ⟨w.heap.size + 1, 3, none⟩ (.bool Q) (by simp)
              (try dsimp only)
              exact ⟨(ho.cell 0).trans rfl, (ho.cell 1).trans rfl, (ho.cell 2).trans rfl, (ho.cell 3).trans rfl⟩
            clear hK K
            try simp only [Act.put, List.setIfInBounds_toArray, List.set_cons_zero, List.set_cons_succ]
            refine tkw 24 3 ?_
            refine wpAnyH_done (by kernel_rfl) ?_ _
            clear hHeld
            obtain ⟨⟨z0, z1, z2, z3⟩, _⟩ := spc_row (spc_put hr2 A B P Q)
            have HBZ := Lib.hid (below_set4 hb2 (Nat.le_succ w.heap.size) (.int .i64 A) (.int .i64 B) (.bool P) (.bool Q))
            have Z := Lib.hid (And.intro z0 (And.intro z1 (And.intro z2 z3)))
            clear z0 z1 z2 z3 hr1 hr2 hb2
            go_wp2
            obtain ⟨z0, z1, z2, z3⟩ := Z.out
            exact bodyPost_ret (v := .tuple #[.agg #[.int .i64 A, .int .i64 B, .bool P, .bool Q], .bool R]) (by simp [results, Tryz.results30, go_sem, z0, z1, z2, z3]) rfl ⟨rfl, HBZ.out⟩
          refine AllReadyH.cons (o := ⟨some 18, _, _, _, _, _⟩) rfl (fun K hK => ?_) AllReadyH.nil
          go_simp
          go_at_call 45
          refine (num_any b HI.out.2.1 _).mono ?_
          rintro e w64 ⟨qm0, hq, rfl, m0, kb⟩
          clear hq
          replace n0 := n0.below kb
          replace n1 := n1.below kb
          replace P0 := P0.below kb
          replace hB := hB.trans (kb.mono hB.size)
          clear kb
          refine hK.out _ _ ?_ (fun hHeld => ?_)
          · (try dsimp only); exact ⟨((HR.out.1.below hB HR.out.1.lt).cell 0).trans rfl, ((HR.out.1.below hB HR.out.1.lt).cell 1).trans rfl, ((HR.out.1.below hB HR.out.1.lt).cell 2).trans rfl, ((HR.out.1.below hB HR.out.1.lt).cell 3).trans rfl⟩
          clear hK K hHeld
          try simp only [Act.put, List.setIfInBounds_toArray, List.set_cons_zero, List.set_cons_succ]
          refine wpAnyH_ready (rs := [10, 18]) (by kernel_rfl) (by simp) ?_
          refine AllReadyH.cons (o := ⟨some 14, _, _, _, _, _⟩) rfl (fun K hK => ?_) ?_
          · go_simp
            have hB0 := hB.size
            have kb := below_map w64 (.cells #[.bool false, .slice none 0 0] 66)
            have en0_1 : qn0 ≠ w64.heap.size := by have hlt := n0.lt; exact Nat.ne_of_lt hlt
            have en1_1 : qn1 ≠ w64.heap.size := by have hlt := n1.lt; exact Nat.ne_of_lt hlt
            have eP0_1 : w58.heap.size ≠ w64.heap.size := by have hlt := P0.lt; exact Nat.ne_of_lt hlt
            have em0_1 : qm0 ≠ w64.heap.size := by have hlt := m0.lt; exact Nat.ne_of_lt hlt
            replace n0 := n0.below kb
            replace n1 := n1.below kb
            replace P0 := P0.below kb
            replace m0 := m0.below kb
            replace hB := hB.trans (kb.mono hB.size)
            have Z1 : ZB (w64.alloc (.cells #[.bool false, .slice none 0 0] 66)) w64.heap.size := Row.made w64 [.bool false, .slice none 0 0] 66
            have hb1 : wa.heap.size ≤ w64.heap.size := hB0
            clear kb hB0
            refine hK.out _ _ ?_ (fun hHeld => ?_)
            · (try dsimp only); exact ⟨((HR.out.1.below hB HR.out.1.lt).cell 0).trans rfl, ((HR.out.1.below hB HR.out.1.lt).cell 1).trans rfl, ((HR.out.1.below hB HR.out.1.lt).cell 2).trans rfl, ((HR.out.1.below hB HR.out.1.lt).cell 3).trans rfl⟩
            clear hK K hHeld
            try simp only [Act.put, List.setIfInBounds_toArray, List.set_cons_zero, List.set_cons_succ]
            refine wpAnyH_ready (rs := [18]) (by kernel_rfl) (by simp) ?_
            refine AllReadyH.cons (o := ⟨some 22, _, _, _, _, _⟩) rfl (fun K hK => ?_) AllReadyH.nil
            go_simp
            go_at_call 45
            refine (num_any c HI.out.2.2.1 _).mono ?_
            rintro e w65 ⟨qm1, hq, rfl, m1, kb⟩
            have em1_1 : qm1 ≠ w64.heap.size := Nat.ne_of_gt (Nat.lt_of_lt_of_le (Row.lt Z1) hq)
            clear hq
            replace n0 := n0.below kb
            replace n1 := n1.below kb
            replace P0 := P0.below kb
            replace m0 := m0.below kb
            replace Z1 := Row.below Z1 kb (Row.lt Z1)
            replace hB := hB.trans (kb.mono hB.size)
            clear kb
            refine hK.out _ _ ?_ (fun hHeld => ?_)
            · (try dsimp only); exact ⟨((HR.out.1.below hB HR.out.1.lt).cell 0).trans rfl, ((HR.out.1.below hB HR.out.1.lt).cell 1).trans rfl, ((HR.out.1.below hB HR.out.1.lt).cell 2).trans rfl, ((HR.out.1.below hB HR.out.1.lt).cell 3).trans rfl⟩
            clear hK K hHeld
            try simp only [Act.put, List.setIfInBounds_toArray, List.set_cons_zero, List.set_cons_succ]
            refine wpAnyH_ready (rs := [19]) (by kernel_rfl) (by simp) ?_
            refine AllReadyH.cons (o := ⟨some 23, _, _, _, _, _⟩) rfl (fun K hK => ?_) AllReadyH.nil
            go_simp
            go_at_call 74
            refine (sub_any _ _ _ b c HI.out.2.1 HI.out.2.2.1 em0_1 em1_1 _ Z1 m0 m1).mono ?_
            rintro e w66 ⟨rfl, P1, kk⟩
            replace n0 := n0.kept en0_1 Z1 kk
            replace n1 := n1.kept en1_1 Z1 kk
            replace P0 := P0.kept eP0_1 Z1 kk
            replace m0 := m0.kept em0_1 Z1 kk
            replace m1 := m1.kept em1_1 Z1 kk
            replace hB := hB.trans (kk.below hB.size (mem1 hb1))
            clear kk Z1 hb1
            refine hK.out _ _ ?_ (fun hHeld => ?_)
            · (try dsimp only); exact ⟨((HR.out.1.below hB HR.out.1.lt).cell 0).trans rfl, ((HR.out.1.below hB HR.out.1.lt).cell 1).trans rfl, ((HR.out.1.below hB HR.out.1.lt).cell 2).trans rfl, ((HR.out.1.below hB HR.out.1.lt).cell 3).trans rfl⟩
            clear hK K hHeld
            try simp only [Act.put, List.setIfInBounds_toArray, List.set_cons_zero, List.set_cons_succ]
            refine wpAnyH_ready (rs := [20]) (by kernel_rfl) (by simp) ?_
            refine AllReadyH.cons (o := ⟨some 24, _, _, _, _, _⟩) rfl (fun K hK => ?_) AllReadyH.nil
            go_simp
            go_at_call 43
            refine (FIT.out _ _ _ P0 P1).mono ?_
            rintro e w67 ⟨rfl, kb⟩
            replace hB := hB.trans (kb.mono hB.size)
            clear kb
            refine hK.out _ _ ?_ (fun hHeld => ?_)
            · (try dsimp only); exact ⟨((HR.out.1.below hB HR.out.1.lt).cell 0).trans rfl, ((HR.out.1.below hB HR.out.1.lt).cell 1).trans rfl, ((HR.out.1.below hB HR.out.1.lt).cell 2).trans rfl, ((HR.out.1.below hB HR.out.1.lt).cell 3).trans rfl⟩
            clear hK K
            try simp only [Act.put, List.setIfInBounds_toArray, List.set_cons_zero, List.set_cons_succ]
            refine tkw 21 25 ?_
            refine tkw 22 26 ?_
            have hr2 := HR.out.2.1.below hB HR.out.2.1.lt
            have hr1 := HR.out.1.below hB HR.out.1.lt
            have hb2 := HR.out.2.2.trans (hB.mono HR.out.2.2.size)
            obtain ⟨⟨q0, q1, q2, q3⟩, f0, f1, f2, f3⟩ := spc_row hr2
            refine wpAnyH_ready (rs := [23]) (by kernel_rfl) (by simp) ?_
            refine AllReadyH.cons (o := ⟨none, _, _, _, _, _⟩) rfl (fun K hK => ?_) AllReadyH.nil
            go_simp
            refine hK.out _ _ ?_ (fun hHeld => ?_)
            · have ho := (((hr1.other ⟨w.heap.size + 1, 0, none⟩ (.int .i64 A) (by simp)).other ⟨w.heap.size + 1, 1, none⟩ (.int .i64 B) (by simp)).other ⟨w.heap.size + 1, 2, none⟩ (.bool P) (by simp)).other ⟨w.heap.size + 1, 3, none⟩ (.bool Q) (by simp)
              (try dsimp only)
              exact ⟨(ho.cell 0).trans rfl, (ho.cell 1).trans rfl, (ho.cell 2).trans rfl, (ho.cell 3).trans rfl⟩
            clear hK K
            try simp only [Act.put, List.setIfInBounds_toArray, List.set_cons_zero, List.set_cons_succ]
            refine tkw 24 3 ?_
            refine wpAnyH_done (by kernel_rfl) ?_ _
            clear hHeld
            obtain ⟨⟨z0, z1, z2, z3⟩, _⟩ := spc_row (spc_put hr2 A B P Q)
            have HBZ := Lib.hid (below_set4 hb2 (Nat.le_succ w.heap.size) (.int .i64 A) (.int .i64 B) (.bool P) (.bool Q))
            have Z := Lib.hid (And.intro z0 (And.intro z1 (And.intro z2 z3)))
            clear z0 z1 z2 z3 hr1 hr2 hb2
            go_wp2
            obtain ⟨z0, z1, z2, z3⟩ := Z.out
            exact bodyPost_ret (v := .tuple #[.agg #[.int .i64 A, .int .i64 B, .bool P, .bool Q], .bool R]) (by simp [results, Tryz.results30, go_sem, z0, z1, z2, z3]) rfl ⟨rfl, HBZ.out⟩
          refine AllReadyH.cons (o := ⟨some 22, _, _, _, _, _⟩) rfl (fun K hK => ?_) AllReadyH.nil
          go_simp
          go_at_call 45
          refine (num_any c HI.out.2.2.1 _).mono ?_
          rintro e w68 ⟨qm1, hq, rfl, m1, kb⟩
          clear hq
          replace n0 := n0.below kb
          replace n1 := n1.below kb
          replace P0 := P0.below kb
          replace m0 := m0.below kb
          replace hB := hB.trans (kb.mono hB.size)
          clear kb
          refine hK.out _ _ ?_ (fun hHeld => ?_)
          · (try dsimp only); exact ⟨((HR.out.1.below hB HR.out.1.lt).cell 0).trans rfl, ((HR.out.1.below hB HR.out.1.lt).cell 1).trans rfl, ((HR.out.1.below hB HR.out.1.lt).cell 2).trans rfl, ((HR.out.1.below hB HR.out.1.lt).cell 3).trans rfl⟩
          clear hK K hHeld
          try simp only [Act.put, List.setIfInBounds_toArray, List.set_cons_zero, List.set_cons_succ]
          refine wpAnyH_ready (rs := [10]) (by kernel_rfl) (by simp) ?_
          refine AllReadyH.cons (o := ⟨some 14, _, _, _, _, _⟩) rfl (fun K hK => ?_) AllReadyH.nil
          go_simp
          have hB0 := hB.size
          have kb := below_map w68 (.cells #[.bool false, .slice none 0 0] 66)
          have en0_1 : qn0 ≠ w68.heap.size := by have hlt := n0.lt; exact Nat.ne_of_lt hlt
          have en1_1 : qn1 ≠ w68.heap.size := by have hlt := n1.lt; exact Nat.ne_of_lt hlt
          have eP0_1 : w58.heap.size ≠ w68.heap.size := by have hlt := P0.lt; exact Nat.ne_of_lt hlt
          have em0_1 : qm0 ≠ w68.heap.size := by have hlt := m0.lt; exact Nat.ne_of_lt hlt
          have em1_1 : qm1 ≠ w68.heap.size := by have hlt := m1.lt; exact Nat.ne_of_lt hlt
          replace n0 := n0.below kb
          replace n1 := n1.below kb
          replace P0 := P0.below kb
          replace m0 := m0.below kb
          replace m1 := m1.below kb
          replace hB := hB.trans (kb.mono hB.size)
          have Z1 : ZB (w68.alloc (.cells #[.bool false, .slice none 0 0] 66)) w68.heap.size := Row.made w68 [.bool false, .slice none 0 0] 66
          have hb1 : wa.heap.size ≤ w68.heap.size := hB0
          clear kb hB0
          refine hK.out _ _ ?_ (fun hHeld => ?_)
          · (try dsimp only); exact ⟨((HR.out.1.below hB HR.out.1.lt).cell 0).trans rfl, ((HR.out.1.below hB HR.out.1.lt).cell 1).trans rfl, ((HR.out.1.below hB HR.out.1.lt).cell 2).trans rfl, ((HR.out.1.below hB HR.out.1.lt).cell 3).trans rfl⟩
          clear hK K hHeld
          try simp only [Act.put, List.setIfInBounds_toArray, List.set_cons_zero, List.set_cons_succ]
          refine wpAnyH_ready (rs := [19]) (by kernel_rfl) (by simp) ?_
          refine AllReadyH.cons (o := ⟨some 23, _, _, _, _, _⟩) rfl (fun K hK => ?_) AllReadyH.nil
          go_simp
          go_at_call 74
          refine (sub_any _ _ _ b c HI.out.2.1 HI.out.2.2.1 em0_1 em1_1 _ Z1 m0 m1).mono ?_
          rintro e w69 ⟨rfl, P1, kk⟩
          replace n0 := n0.kept en0_1 Z1 kk
          replace n1 := n1.kept en1_1 Z1 kk
          replace P0 := P0.kept eP0_1 Z1 kk
          replace m0 := m0.kept em0_1 Z1 kk
          replace m1 := m1.kept em1_1 Z1 kk
          replace hB := hB.trans (kk.below hB.size (mem1 hb1))
          clear kk Z1 hb1
          refine hK.out _ _ ?_ (fun hHeld => ?_)
          · (try dsimp only); exact ⟨((HR.out.1.below hB HR.out.1.lt).cell 0).trans rfl, ((HR.out.1.below hB HR.out.1.lt).cell 1).trans rfl, ((HR.out.1.below hB HR.out.1.lt).cell 2).trans rfl, ((HR.out.1.below hB HR.out.1.lt).cell 3).trans rfl⟩
          clear hK K hHeld
          try simp only [Act.put, List.setIfInBounds_toArray, List.set_cons_zero, List.set_cons_succ]
          refine wpAnyH_ready (rs := [20]) (by kernel_rfl) (by simp) ?_
          refine AllReadyH.cons (o := ⟨some 24, _, _, _, _, _⟩) rfl (fun K hK => ?_) AllReadyH.nil
          go_simp
          go_at_call 43
          refine (FIT.out _ _ _ P0 P1).mono ?_
          rintro e w70 ⟨rfl, kb⟩
          replace hB := hB.trans (kb.mono hB.size)
          clear kb
          refine hK.out _ _ ?_ (fun hHeld => ?_)
          · (try dsimp only); exact ⟨((HR.out.1.below hB HR.out.1.lt).cell 0).trans rfl, ((HR.out.1.below hB HR.out.1.lt).cell 1).trans rfl, ((HR.out.1.below hB HR.out.1.lt).cell 2).trans rfl, ((HR.out.1.below hB HR.out.1.lt).cell 3).trans rfl⟩
          clear hK K
          try simp only [Act.put, List.setIfInBounds_toArray, List.set_cons_zero, List.set_cons_succ]
          refine tkw 21 25 ?_
          refine tkw 22 26 ?_
          have hr2 := HR.out.2.1.below hB HR.out.2.1.lt
          have hr1 := HR.out.1.below hB HR.out.1.lt
          have hb2 := HR.out.2.2.trans (hB.mono HR.out.2.2.size)
          obtain ⟨⟨q0, q1, q2, q3⟩, f0, f1, f2, f3⟩ := spc_row hr2
          refine wpAnyH_ready (rs := [23]) (by kernel_rfl) (by simp) ?_
          refine AllReadyH.cons (o := ⟨none, _, _, _, _, _⟩) rfl (fun K hK => ?_) AllReadyH.nil
          go_simp
          refine hK.out _ _ ?_ (fun hHeld => ?_)
          · have ho := (((hr1.other ⟨w.heap.size + 1, 0, none⟩ (.int .i64 A) (by simp)).other ⟨w.heap.size + 1, 1, none⟩ (.int .i64 B) (by simp)).other ⟨w.heap.size + 1, 2, none⟩ (.bool P) (by simp)).other ⟨w.heap.size + 1, 3, none⟩ (.bool Q) (by simp)
            (try dsimp only)
            exact ⟨(ho.cell 0).trans rfl, (ho.cell 1).trans rfl, (ho.cell 2).trans rfl, (ho.cell 3).trans rfl⟩
          clear hK K
          try simp only [Act.put, List.setIfInBounds_toArray, List.set_cons_zero, List.set_cons_succ]
          refine tkw 24 3 ?_
          refine wpAnyH_done (by kernel_rfl) ?_ _
          clear hHeld
          obtain ⟨⟨z0, z1, z2, z3⟩, _⟩ := spc_row (spc_put hr2 A B P Q)
          have HBZ := Lib.hid (below_set4 hb2 (Nat.le_succ w.heap.size) (.int .i64 A) (.int .i64 B) (.bool P) (.bool Q))
          have Z := Lib.hid (And.intro z0 (And.intro z1 (And.intro z2 z3)))
          clear z0 z1 z2 z3 hr1 hr2 hb2
          go_wp2
          obtain ⟨z0, z1, z2, z3⟩ := Z.out
          exact bodyPost_ret (v := .tuple #[.agg #[.int .i64 A, .int .i64 B, .bool P, .bool Q], .bool R]) (by simp [results, Tryz.results30, go_sem, z0, z1, z2, z3]) rfl ⟨rfl, HBZ.out⟩
        refine AllReadyH.cons (o := ⟨some 14, _, _, _, _, _⟩) rfl (fun K hK => ?_) AllReadyH.nil
        go_simp
        have hB0 := hB.size
        have kb := below_map (w58.alloc (.cells #[.bool false, .slice none 0 0] 66)) (.cells #[.bool false, .slice none 0 0] 66)
        have en0_1 : qn0 ≠ (w58.heap.size + 1) := by have hlt := n0.lt; rw [size_al] at hlt; exact Nat.ne_of_lt hlt
        have en1_1 : qn1 ≠ (w58.heap.size + 1) := by have hlt := n1.lt; rw [size_al] at hlt; exact Nat.ne_of_lt hlt
        have hne : (w58.heap.size + 1) ≠ w58.heap.size := by have hlt := Row.lt Z0; rw [size_al] at hlt; exact Nat.ne_of_gt hlt
        replace n0 := n0.below kb
        replace n1 := n1.below kb
        replace Z0 := Row.below Z0 kb (Row.lt Z0)
        replace hB := hB.trans (kb.mono hB.size)
        have Z1 : ZB ((w58.alloc (.cells #[.bool false, .slice none 0 0] 66)).alloc (.cells #[.bool false, .slice none 0 0] 66)) (w58.heap.size + 1) := row2 w58 (.cells #[.bool false, .slice none 0 0] 66) [.bool false, .slice none 0 0] 66
        have hb1 : wa.heap.size ≤ (w58.heap.size + 1) := by rw [size_al] at hB0; exact hB0
        clear kb hB0
        refine hK.out _ _ ?_ (fun hHeld => ?_)
        · (try dsimp only); exact ⟨((HR.out.1.below hB HR.out.1.lt).cell 0).trans rfl, ((HR.out.1.below hB HR.out.1.lt).cell 1).trans rfl, ((HR.out.1.below hB HR.out.1.lt).cell 2).trans rfl, ((HR.out.1.below hB HR.out.1.lt).cell 3).trans rfl⟩
        clear hK K hHeld
        try simp only [Act.put, List.setIfInBounds_toArray, List.set_cons_zero, List.set_cons_succ]
        refine wpAnyH_ready (rs := [9]) (by kernel_rfl) (by simp) ?_
        refine AllReadyH.cons (o := ⟨some 13, _, _, _, _, _⟩) rfl (fun K hK => ?_) AllReadyH.nil
        go_simp
        go_at_call 74
        refine (sub_any _ _ _ a d HI.out.1 HI.out.2.2.2 en0_0 en1_0 _ Z0 n0 n1).mono ?_
        rintro e w71 ⟨rfl, P0, kk⟩
        replace n0 := n0.kept en0_0 Z0 kk
        replace n1 := n1.kept en1_0 Z0 kk
        replace Z1 := kk.row Z1 (nmem1 hne)
        have eP0_1 := hne.symm
        replace hB := hB.trans (kk.below hB.size (mem1 hb0))
        clear kk Z0 hb0
        refine hK.out _ _ ?_ (fun hHeld => ?_)
        · (try dsimp only); exact ⟨((HR.out.1.below hB HR.out.1.lt).cell 0).trans rfl, ((HR.out.1.below hB HR.out.1.lt).cell 1).trans rfl, ((HR.out.1.below hB HR.out.1.lt).cell 2).trans rfl, ((HR.out.1.below hB HR.out.1.lt).cell 3).trans rfl⟩
        clear hK K hHeld
        try simp only [Act.put, List.setIfInBounds_toArray, List.set_cons_zero, List.set_cons_succ]
        refine wpAnyH_ready (rs := [14]) (by kernel_rfl) (by simp) ?_
        refine AllReadyH.cons (o := ⟨some 18, _, _, _, _, _⟩) rfl (fun K hK => ?_) AllReadyH.nil
        go_simp
        go_at_call 45
        refine (num_any b HI.out.2.1 _).mono ?_
        rintro e w72 ⟨qm0, hq, rfl, m0, kb⟩
        have em0_1 : qm0 ≠ (w58.heap.size + 1) := Nat.ne_of_gt (Nat.lt_of_lt_of_le (Row.lt Z1) hq)
        clear hq
        replace n0 := n0.below kb
        replace n1 := n1.below kb
        replace P0 := P0.below kb
        replace Z1 := Row.below Z1 kb (Row.lt Z1)
        replace hB := hB.trans (kb.mono hB.size)
        clear kb
        refine hK.out _ _ ?_ (fun hHeld => ?_)
        · (try dsimp only); exact ⟨((HR.out.1.below hB HR.out.1.lt).cell 0).trans rfl, ((HR.out.1.below hB HR.out.1.lt).cell 1).trans rfl, ((HR.out.1.below hB HR.out.1.lt).cell 2).trans rfl, ((HR.out.1.below hB HR.out.1.lt).cell 3).trans rfl⟩
        clear hK K hHeld
        try simp only [Act.put, List.setIfInBounds_toArray, List.set_cons_zero, List.set_cons_succ]
        refine wpAnyH_ready (rs := [18]) (by kernel_rfl) (by simp) ?_
        refine AllReadyH.cons (o := ⟨some 22, _, _, _, _, _⟩) rfl (fun K hK => ?_) AllReadyH.nil
        go_simp
        go_at_call 45
        refine (num_any c HI.out.2.2.1 _).mono ?_
        rintro e w73 ⟨qm1, hq, rfl, m1, kb⟩
        have em1_1 : qm1 ≠ (w58.heap.size + 1) := Nat.ne_of_gt (Nat.lt_of_lt_of_le (Row.lt Z1) hq)
        clear hq
        replace n0 := n0.below kb
        replace n1 := n1.below kb
        replace P0 := P0.below kb
        replace m0 := m0.below kb
        replace Z1 := Row.below Z1 kb (Row.lt Z1)
        replace hB := hB.trans (kb.mono hB.size)
        clear kb
        refine hK.out _ _ ?_ (fun hHeld => ?_)
        · (try dsimp only); exact ⟨((HR.out.1.below hB HR.out.1.lt).cell 0).trans rfl, ((HR.out.1.below hB HR.out.1.lt).cell 1).trans rfl, ((HR.out.1.below hB HR.out.1.lt).cell 2).trans rfl, ((HR.out.1.below hB HR.out.1.lt).cell 3).trans rfl⟩
        clear hK K hHeld
        try simp only [Act.put, List.setIfInBounds_toArray, List.set_cons_zero, List.set_cons_succ]
        refine wpAnyH_ready (rs := [19]) (by kernel_rfl) (by simp) ?_
        refine AllReadyH.cons (o := ⟨some 23, _, _, _, _, _⟩) rfl (fun K hK => ?_) AllReadyH.nil
        go_simp
        go_at_call 74
        refine (sub_any _ _ _ b c HI.out.2.1 HI.out.2.2.1 em0_1 em1_1 _ Z1 m0 m1).mono ?_
        rintro e w74 ⟨rfl, P1, kk⟩
        replace n0 := n0.kept en0_1 Z1 kk
        replace n1 := n1.kept en1_1 Z1 kk
        replace P0 := P0.kept eP0_1 Z1 kk
        replace m0 := m0.kept em0_1 Z1 kk
        replace m1 := m1.kept em1_1 Z1 kk
        replace hB := hB.trans (kk.below hB.size (mem1 hb1))
        clear kk Z1 hb1
        refine hK.out _ _ ?_ (fun hHeld => ?_)
        · (try dsimp only); exact ⟨((HR.out.1.below hB HR.out.1.lt).cell 0).trans rfl, ((HR.out.1.below hB HR.out.1.lt).cell 1).trans rfl, ((HR.out.1.below hB HR.out.1.lt).cell 2).trans rfl, ((HR.out.1.below hB HR.out.1.lt).cell 3).trans rfl⟩
        clear hK K hHeld
        try simp only [Act.put, List.setIfInBounds_toArray, List.set_cons_zero, List.set_cons_succ]
        refine wpAnyH_ready (rs := [20]) (by kernel_rfl) (by simp) ?_
        refine AllReadyH.cons (o := ⟨some 24, _, _, _, _, _⟩) rfl (fun K hK => ?_) AllReadyH.nil
        go_simp
        go_at_call 43
        refine (FIT.out _ _ _ P0 P1).mono ?_
        rintro e w75 ⟨rfl, kb⟩
        replace hB := hB.trans (kb.mono hB.size)
        clear kb
        refine hK.out _ _ ?_ (fun hHeld => ?_)
        · (try dsimp only); exact ⟨((HR.out.1.below hB HR.out.1.lt).cell 0).trans rfl, ((HR.out.1.below hB HR.out.1.lt).cell 1).trans rfl, ((HR.out.1.below hB HR.out.1.lt).cell 2).trans rfl, ((HR.out.1.below hB HR.out.1.lt).cell 3).trans rfl⟩
        clear hK K
        try simp only [Act.put, List.setIfInBounds_toArray, List.set_cons_zero, List.set_cons_succ]
        refine tkw 21 25 ?_
        refine tkw 22 26 ?_
        have hr2 := HR.out.2.1.below hB HR.out.2.1.lt
        have hr1 := HR.out.1.below hB HR.out.1.lt
        have hb2 := HR.out.2.2.trans (hB.mono HR.out.2.2.size)
        obtain ⟨⟨q0, q1, q2, q3⟩, f0, f1, f2, f3⟩ := spc_row hr2
        refine wpAnyH_ready (rs := [23]) (by kernel_rfl) (by simp) ?_
        refine AllReadyH.cons (o := ⟨none, _, _, _, _, _⟩) rfl (fun K hK => ?_) AllReadyH.nil
        go_simp
        refine hK.out _ _ ?_ (fun hHeld => ?_)
        · have ho := (((hr1.other ⟨w.heap.size + 1, 0, none⟩ (.int .i64 A) (by simp)).other ⟨w.heap.size + 1, 1, none⟩ (.int .i64 B) (by simp)).other ⟨w.heap.size + 1, 2, none⟩ (.bool P) (by simp)).other ⟨w.heap.size + 1, 3, none⟩ (.bool Q) (by simp)
          (try dsimp only)
          exact ⟨(ho.cell 0).trans rfl, (ho.cell 1).trans rfl, (ho.cell 2).trans rfl, (ho.cell 3).trans rfl⟩
        clear hK K
        try simp only [Act.put, List.setIfInBounds_toArray, List.set_cons_zero, List.set_cons_succ]
        refine tkw 24 3 ?_
        refine wpAnyH_done (by kernel_rfl) ?_ _
        clear hHeld
        obtain ⟨⟨z0, z1, z2, z3⟩, _⟩ := spc_row (spc_put hr2 A B P Q)
        have HBZ := Lib.hid (below_set4 hb2 (Nat.le_succ w.heap.size) (.int .i64 A) (.int .i64 B) (.bool P) (.bool Q))
        have Z := Lib.hid (And.intro z0 (And.intro z1 (And.intro z2 z3)))
        clear z0 z1 z2 z3 hr1 hr2 hb2
        go_wp2
        obtain ⟨z0, z1, z2, z3⟩ := Z.out
        exact bodyPost_ret (v := .tuple #[.agg #[.int .i64 A, .int .i64 B, .bool P, .bool Q], .bool R]) (by simp [results, Tryz.results30, go_sem, z0, z1, z2, z3]) rfl ⟨rfl, HBZ.out⟩
      refine AllReadyH.cons (o := ⟨some 14, _, _, _, _, _⟩) rfl (fun K hK => ?_) AllReadyH.nil
      go_simp
      have hB0 := hB.size
      have kb := below_map w58 (.cells #[.bool false, .slice none 0 0] 66)
      have en0_1 : qn0 ≠ w58.heap.size := by have hlt := n0.lt; exact Nat.ne_of_lt hlt
      have en1_1 : qn1 ≠ w58.heap.size := by have hlt := n1.lt; exact Nat.ne_of_lt hlt
      replace n0 := n0.below kb
      replace n1 := n1.below kb
      replace hB := hB.trans (kb.mono hB.size)
      have Z1 : ZB (w58.alloc (.cells #[.bool false, .slice none 0 0] 66)) w58.heap.size := Row.made w58 [.bool false, .slice none 0 0] 66
      have hb1 : wa.heap.size ≤ w58.heap.size := hB0
      clear kb hB0
      refine hK.out _ _ ?_ (fun hHeld => ?_)
      · (try dsimp only); exact ⟨((HR.out.1.below hB HR.out.1.lt).cell 0).trans rfl, ((HR.out.1.below hB HR.out.1.lt).cell 1).trans rfl, ((HR.out.1.below hB HR.out.1.lt).cell 2).trans rfl, ((HR.out.1.below hB HR.out.1.lt).cell 3).trans rfl⟩
      clear hK K hHeld
      try simp only [Act.put, List.setIfInBounds_toArray, List.set_cons_zero, List.set_cons_succ]
      refine wpAnyH_ready (rs := [0]) (by kernel_rfl) (by simp) ?_
      refine AllReadyH.cons (o := ⟨some 4, _, _, _, _, _⟩) rfl (fun K hK => ?_) AllReadyH.nil
      go_simp
      have hB0 := hB.size
      have kb := below_map (w58.alloc (.cells #[.bool false, .slice none 0 0] 66)) (.cells #[.bool false, .slice none 0 0] 66)
      have en0_0 : qn0 ≠ (w58.heap.size + 1) := by have hlt := n0.lt; rw [size_al] at hlt; exact Nat.ne_of_lt hlt
      have en1_0 : qn1 ≠ (w58.heap.size + 1) := by have hlt := n1.lt; rw [size_al] at hlt; exact Nat.ne_of_lt hlt
      have hne : (w58.heap.size + 1) ≠ w58.heap.size := by have hlt := Row.lt Z1; rw [size_al] at hlt; exact Nat.ne_of_gt hlt
      replace n0 := n0.below kb
      replace n1 := n1.below kb
      replace Z1 := Row.below Z1 kb (Row.lt Z1)
      replace hB := hB.trans (kb.mono hB.size)
      have Z0 : ZB ((w58.alloc (.cells #[.bool false, .slice none 0 0] 66)).alloc (.cells #[.bool false, .slice none 0 0] 66)) (w58.heap.size + 1) := row2 w58 (.cells #[.bool false, .slice none 0 0] 66) [.bool false, .slice none 0 0] 66
      have hb0 : wa.heap.size ≤ (w58.heap.size + 1) := by rw [size_al] at hB0; exact hB0
      clear kb hB0
      refine hK.out _ _ ?_ (fun hHeld => ?_)
      · (try dsimp only); exact ⟨((HR.out.1.below hB HR.out.1.lt).cell 0).trans rfl, ((HR.out.1.below hB HR.out.1.lt).cell 1).trans rfl, ((HR.out.1.below hB HR.out.1.lt).cell 2).trans rfl, ((HR.out.1.below hB HR.out.1.lt).cell 3).trans rfl⟩
      clear hK K hHeld
      try simp only [Act.put, List.setIfInBounds_toArray, List.set_cons_zero, List.set_cons_succ]
      refine wpAnyH_ready (rs := [9]) (by kernel_rfl) (by simp) ?_
      refine AllReadyH.cons (o := ⟨some 13, _, _, _, _, _⟩) rfl (fun K hK => ?_) AllReadyH.nil
      go_simp
      go_at_call 74
      refine (sub_any _ _ _ a d HI.out.1 HI.out.2.2.2 en0_0 en1_0 _ Z0 n0 n1).mono ?_
      rintro e w76 ⟨rfl, P0, kk⟩
      replace n0 := n0.kept en0_0 Z0 kk
      replace n1 := n1.kept en1_0 Z0 kk
      replace Z1 := kk.row Z1 (nmem1 hne.symm)
      have eP0_1 := hne
      replace hB := hB.trans (kk.below hB.size (mem1 hb0))
      clear kk Z0 hb0
      refine hK.out _ _ ?_ (fun hHeld => ?_)
      · (try dsimp only); exact ⟨((HR.out.1.below hB HR.out.1.lt).cell 0).trans rfl, ((HR.out.1.below hB HR.out.1.lt).cell 1).trans rfl, ((HR.out.1.below hB HR.out.1.lt).cell 2).trans rfl, ((HR.out.1.below hB HR.out.1.lt).cell 3).trans rfl⟩
      clear hK K hHeld
      try simp only [Act.put, List.setIfInBounds_toArray, List.set_cons_zero, List.set_cons_succ]
      refine wpAnyH_ready (rs := [14]) (by kernel_rfl) (by simp) ?_
      refine AllReadyH.cons (o := ⟨some 18, _, _, _, _, _⟩) rfl (fun K hK => ?_) AllReadyH.nil
      go_simp
      go_at_call 45
      refine (num_any b HI.out.2.1 _).mono ?_
      rintro e w77 ⟨qm0, hq, rfl, m0, kb⟩
      have em0_1 : qm0 ≠ w58.heap.size := Nat.ne_of_gt (Nat.lt_of_lt_of_le (Row.lt Z1) hq)
      clear hq
      replace n0 := n0.below kb
      replace n1 := n1.below kb
      replace P0 := P0.below kb
      replace Z1 := Row.below Z1 kb (Row.lt Z1)
      replace hB := hB.trans (kb.mono hB.size)
      clear kb
      refine hK.out _ _ ?_ (fun hHeld => ?_)
      · (try dsimp only); exact ⟨((HR.out.1.below hB HR.out.1.lt).cell 0).trans rfl, ((HR.out.1.below hB HR.out.1.lt).cell 1).trans rfl, ((HR.out.1.below hB HR.out.1.lt).cell 2).trans rfl, ((HR.out.1.below hB HR.out.1.lt).cell 3).trans rfl⟩
      clear hK K hHeld
      try simp only [Act.put, List.setIfInBounds_toArray, List.set_cons_zero, List.set_cons_succ]
      refine wpAnyH_ready (rs := [18]) (by kernel_rfl) (by simp) ?_
      refine AllReadyH.cons (o := ⟨some 22, _, _, _, _, _⟩) rfl (fun K hK => ?_) AllReadyH.nil
      go_simp
      go_at_call 45
      refine (num_any c HI.out.2.2.1 _).mono ?_
      rintro e w78 ⟨qm1, hq, rfl, m1, kb⟩
      have em1_1 : qm1 ≠ w58.heap.size := Nat.ne_of_gt (Nat.lt_of_lt_of_le (Row.lt Z1) hq)
      clear hq
      replace n0 := n0.below kb
      replace n1 := n1.below kb
      replace P0 := P0.below kb
      replace m0 := m0.below kb
      replace Z1 := Row.below Z1 kb (Row.lt Z1)
      replace hB := hB.trans (kb.mono hB.size)
      clear kb
      refine hK.out _ _ ?_ (fun hHeld => ?_)
      · (try dsimp only); exact ⟨((HR.out.1.below hB HR.out.1.lt).cell 0).trans rfl, ((HR.out.1.below hB HR.out.1.lt).cell 1).trans rfl, ((HR.out.1.below hB HR.out.1.lt).cell 2).trans rfl, ((HR.out.1.below hB HR.out.1.lt).cell 3).trans rfl⟩
      clear hK K hHeld
      try simp only [Act.put, List.setIfInBounds_toArray, List.set_cons_zero, List.set_cons_succ]
      refine wpAnyH_ready (rs := [19]) (by kernel_rfl) (by simp) ?_
      refine AllReadyH.cons (o := ⟨some 23, _, _, _, _, _⟩) rfl (fun K hK => ?_) AllReadyH.nil
      go_simp
      go_at_call 74
      refine (sub_any _ _ _ b c HI.out.2.1 HI.out.2.2.1 em0_1 em1_1 _ Z1 m0 m1).mono ?_
      rintro e w79 ⟨rfl, P1, kk⟩
      replace n0 := n0.kept en0_1 Z1 kk
      replace n1 := n1.kept en1_1 Z1 kk
      replace P0 := P0.kept eP0_1 Z1 kk
      replace m0 := m0.kept em0_1 Z1 kk
      replace m1 := m1.kept em1_1 Z1 kk
      replace hB := hB.trans (kk.below hB.size (mem1 hb1))
      clear kk Z1 hb1
      refine hK.out _ _ ?_ (fun hHeld => ?_)
      · (try dsimp only); exact ⟨((HR.out.1.below hB HR.out.1.lt).cell 0).trans rfl, ((HR.out.1.below hB HR.out.1.lt).cell 1).trans rfl, ((HR.out.1.below hB HR.out.1.lt).cell 2).trans rfl, ((HR.out.1.below hB HR.out.1.lt).cell 3).trans rfl⟩
      clear hK K hHeld
      try simp only [Act.put, List.setIfInBounds_toArray, List.set_cons_zero, List.set_cons_succ]
      refine wpAnyH_ready (rs := [20]) (by kernel_rfl) (by simp) ?_
      refine AllReadyH.cons (o := ⟨some 24, _, _, _, _, _⟩) rfl (fun K hK => ?_) AllReadyH.nil
      go_simp
      go_at_call 43
      refine (FIT.out _ _ _ P0 P1).mono ?_
      rintro e w80 ⟨rfl, kb⟩
      replace hB := hB.trans (kb.mono hB.size)
      clear kb
      refine hK.out _ _ ?_ (fun hHeld => ?_)
      · (try dsimp only); exact ⟨((HR.out.1.below hB HR.out.1.lt).cell 0).trans rfl, ((HR.out.1.below hB HR.out.1.lt).cell 1).trans rfl, ((HR.out.1.below hB HR.out.1.lt).cell 2).trans rfl, ((HR.out.1.below hB HR.out.1.lt).cell 3).trans rfl⟩
      clear hK K
      try simp only [Act.put, List.setIfInBounds_toArray, List.set_cons_zero, List.set_cons_succ]
      refine tkw 21 25 ?_
      refine tkw 22 26 ?_
      have hr2 := HR.out.2.1.below hB HR.out.2.1.lt
      have hr1 := HR.out.1.below hB HR.out.1.lt
      have hb2 := HR.out.2.2.trans (hB.mono HR.out.2.2.size)
      obtain ⟨⟨q0, q1, q2, q3⟩, f0, f1, f2, f3⟩ := spc_row hr2
      refine wpAnyH_ready (rs := [23]) (by kernel_rfl) (by simp) ?_
      refine AllReadyH.cons (o := ⟨none, _, _, _, _, _⟩) rfl (fun K hK => ?_) AllReadyH.nil
      go_simp
      refine hK.out _ _ ?_ (fun hHeld => ?_)
      · have ho := (((hr1.other ⟨w.heap.size + 1, 0, none⟩ (.int .i64 A) (by simp)).other ⟨w.heap.size + 1, 1, none⟩ (.int .i64 B) (by simp)).other ⟨w.heap.size + 1, 2, none⟩ (.bool P) (by simp)).other ⟨w.heap.size + 1, 3, none⟩ (.bool Q) (by simp)
        (try dsimp only)
        exact ⟨(ho.cell 0).trans rfl, (ho.cell 1).trans rfl, (ho.cell 2).trans rfl, (ho.cell 3).trans rfl⟩
      clear hK K
      try simp only [Act.put, List.setIfInBounds_toArray, List.set_cons_zero, List.set_cons_succ]
      refine tkw 24 3 ?_
      refine wpAnyH_done (by kernel_rfl) ?_ _
      clear hHeld
      obtain ⟨⟨z0, z1, z2, z3⟩, _⟩ := spc_row (spc_put hr2 A B P Q)
      have HBZ := Lib.hid (below_set4 hb2 (Nat.le_succ w.heap.size) (.int .i64 A) (.int .i64 B) (.bool P) (.bool Q))
      have Z := Lib.hid (And.intro z0 (And.intro z1 (And.intro z2 z3)))
      clear z0 z1 z2 z3 hr1 hr2 hb2
      go_wp2
      obtain ⟨z0, z1, z2, z3⟩ := Z.out
      exact bodyPost_ret (v := .tuple #[.agg #[.int .i64 A, .int .i64 B, .bool P, .bool Q], .bool R]) (by simp [results, Tryz.results30, go_sem, z0, z1, z2, z3]) rfl ⟨rfl, HBZ.out⟩
    refine AllReadyH.cons (o := ⟨some 14, _, _, _, _, _⟩) rfl (fun K hK => ?_) AllReadyH.nil
    go_simp
    have hB0 := hB.size
    have kb := below_map w33 (.cells #[.bool false, .slice none 0 0] 66)
    have en0_1 : qn0 ≠ w33.heap.size := by have hlt := n0.lt; exact Nat.ne_of_lt hlt
    replace n0 := n0.below kb
    replace hB := hB.trans (kb.mono hB.size)
    have Z1 : ZB (w33.alloc (.cells #[.bool false, .slice none 0 0] 66)) w33.heap.size := Row.made w33 [.bool false, .slice none 0 0] 66
    have hb1 : wa.heap.size ≤ w33.heap.size := hB0
    clear kb hB0
    refine hK.out _ _ ?_ (fun hHeld => ?_)
    · (try dsimp only); exact ⟨((HR.out.1.below hB HR.out.1.lt).cell 0).trans rfl, ((HR.out.1.below hB HR.out.1.lt).cell 1).trans rfl, ((HR.out.1.below hB HR.out.1.lt).cell 2).trans rfl, ((HR.out.1.below hB HR.out.1.lt).cell 3).trans rfl⟩
    clear hK K hHeld
    try simp only [Act.put, List.setIfInBounds_toArray, List.set_cons_zero, List.set_cons_succ]
    refine wpAnyH_ready (rs := [0, 8]) (by kernel_rfl) (by simp) ?_
    refine AllReadyH.cons (o := ⟨some 4, _, _, _, _, _⟩) rfl (fun K hK => ?_) ?_
    · go_simp
      have hB0 := hB.size
      have kb := below_map (w33.alloc (.cells #[.bool false, .slice none 0 0] 66)) (.cells #[.bool false, .slice none 0 0] 66)
      have en0_0 : qn0 ≠ (w33.heap.size + 1) := by have hlt := n0.lt; rw [size_al] at hlt; exact Nat.ne_of_lt hlt
      have hne : (w33.heap.size + 1) ≠ w33.heap.size := by have hlt := Row.lt Z1; rw [size_al] at hlt; exact Nat.ne_of_gt hlt
      replace n0 := n0.below kb
      replace Z1 := Row.below Z1 kb (Row.lt Z1)
      replace hB := hB.trans (kb.mono hB.size)
      have Z0 : ZB ((w33.alloc (.cells #[.bool false, .slice none 0 0] 66)).alloc (.cells #[.bool false, .slice none 0 0] 66)) (w33.heap.size + 1) := row2 w33 (.cells #[.bool false, .slice none 0 0] 66) [.bool false, .slice none 0 0] 66
      have hb0 : wa.heap.size ≤ (w33.heap.size + 1) := by rw [size_al] at hB0; exact hB0
      clear kb hB0
      refine hK.out _ _ ?_ (fun hHeld => ?_)
      · (try dsimp only); exact ⟨((HR.out.1.below hB HR.out.1.lt).cell 0).trans rfl, ((HR.out.1.below hB HR.out.1.lt).cell 1).trans rfl, ((HR.out.1.below hB HR.out.1.lt).cell 2).trans rfl, ((HR.out.1.below hB HR.out.1.lt).cell 3).trans rfl⟩
      clear hK K hHeld
      try simp only [Act.put, List.setIfInBounds_toArray, List.set_cons_zero, List.set_cons_succ]
      refine wpAnyH_ready (rs := [8]) (by kernel_rfl) (by simp) ?_
      refine AllReadyH.cons (o := ⟨some 12, _, _, _, _, _⟩) rfl (fun K hK => ?_) AllReadyH.nil
      go_simp
      go_at_call 45
      refine (num_any d HI.out.2.2.2 _).mono ?_
      rintro e w81 ⟨qn1, hq, rfl, n1, kb⟩
      have en1_1 : qn1 ≠ w33.heap.size := Nat.ne_of_gt (Nat.lt_of_lt_of_le (Row.lt Z1) hq)
      have en1_0 : qn1 ≠ (w33.heap.size + 1) := Nat.ne_of_gt (Nat.lt_of_lt_of_le (Row.lt Z0) hq)
      clear hq
      replace n0 := n0.below kb
      replace Z1 := Row.below Z1 kb (Row.lt Z1)
      replace Z0 := Row.below Z0 kb (Row.lt Z0)
      replace hB := hB.trans (kb.mono hB.size)
      clear kb
      refine hK.out _ _ ?_ (fun hHeld => ?_)
      · (try dsimp only); exact ⟨((HR.out.1.below hB HR.out.1.lt).cell 0).trans rfl, ((HR.out.1.below hB HR.out.1.lt).cell 1).trans rfl, ((HR.out.1.below hB HR.out.1.lt).cell 2).trans rfl, ((HR.out.1.below hB HR.out.1.lt).cell 3).trans rfl⟩
      clear hK K hHeld
      try simp only [Act.put, List.setIfInBounds_toArray, List.set_cons_zero, List.set_cons_succ]
      refine wpAnyH_ready (rs := [9]) (by kernel_rfl) (by simp) ?_
      refine AllReadyH.cons (o := ⟨some 13, _, _, _, _, _⟩) rfl (fun K hK => ?_) AllReadyH.nil
      go_simp
      go_at_call 74
      refine (sub_any _ _ _ a d HI.out.1 HI.out.2.2.2 en0_0 en1_0 _ Z0 n0 n1).mono ?_
      rintro e w82 ⟨rfl, P0, kk⟩
      replace n0 := n0.kept en0_0 Z0 kk
      replace n1 := n1.kept en1_0 Z0 kk
      replace Z1 := kk.row Z1 (nmem1 hne.symm)
      have eP0_1 := hne
      replace hB := hB.trans (kk.below hB.size (mem1 hb0))
      clear kk Z0 hb0
      refine hK.out _ _ ?_ (fun hHeld => ?_)
      · (try dsimp only); exact ⟨((HR.out.1.below hB HR.out.1.lt).cell 0).trans rfl, ((HR.out.1.below hB HR.out.1.lt).cell 1).trans rfl, ((HR.out.1.below hB HR.out.1.lt).cell 2).trans rfl, ((HR.out.1.below hB HR.out.1.lt).cell 3).trans rfl⟩
      clear hK K hHeld
      try simp only [Act.put, List.setIfInBounds_toArray, List.set_cons_zero, List.set_cons_succ]
      refine wpAnyH_ready (rs := [14]) (by kernel_rfl) (by simp) ?_
      refine AllReadyH.cons (o := ⟨some 18, _, _, _, _, _⟩) rfl (fun K hK => ?_) AllReadyH.nil
      go_simp
      go_at_call 45
      refine (num_any b HI.out.2.1 _).mono ?_
      rintro e w83 ⟨qm0, hq, rfl, m0, kb⟩
      have em0_1 : qm0 ≠ w33.heap.size := Nat.ne_of_gt (Nat.lt_of_lt_of_le (Row.lt Z1) hq)
      clear hq
      replace n0 := n0.below kb
      replace n1 := n1.below kb
      replace P0 := P0.below kb
      replace Z1 := Row.below Z1 kb (Row.lt Z1)
      replace hB := hB.trans (kb.mono hB.size)
      clear kb
      refine hK.out _ _ ?_ (fun hHeld => ?_)
      · (try dsimp only); exact ⟨((HR.out.1.below hB HR.out.1.lt).cell 0).trans rfl, ((HR.out.1.below hB HR.out.1.lt).cell 1).trans rfl, ((HR.out.1.below hB HR.out.1.lt).cell 2).trans rfl, ((HR.out.1.below hB HR.out.1.lt).cell 3).trans rfl⟩
      clear hK K hHeld
      try simp only [Act.put, List.setIfInBounds_toArray, List.set_cons_zero, List.set_cons_succ]
      refine wpAnyH_ready (rs := [18]) (by kernel_rfl) (by simp) ?_
      refine AllReadyH.cons (o := ⟨some 22, _, _, _, _, _⟩) rfl (fun K hK => ?_) AllReadyH.nil
      go_simp
      go_at_call 45
      refine (num_any c HI.out.2.2.1 _).mono ?_
      rintro e w84 ⟨qm1, hq, rfl, m1, kb⟩
      have em1_1 : qm1 ≠ w33.heap.size := Nat.ne_of_gt (Nat.lt_of_lt_of_le (Row.lt Z1) hq)
      clear hq
      replace n0 := n0.below kb
      replace n1 := n1.below kb
      replace P0 := P0.below kb
      replace m0 := m0.below kb
      replace Z1 := Row.below Z1 kb (Row.lt Z1)
      replace hB := hB.trans (kb.mono hB.size)
      clear kb
      refine hK.out _ _ ?_ (fun hHeld => ?_)
      · (try dsimp only); exact ⟨((HR.out.1.below hB HR.out.1.lt).cell 0).trans rfl, ((HR.out.1.below hB HR.out.1.lt).cell 1).trans rfl, ((HR.out.1.below hB HR.out.1.lt).cell 2).trans rfl, ((HR.out.1.below hB HR.out.1.lt).cell 3).trans rfl⟩
      clear hK K hHeld
      try simp only [Act.put, List.setIfInBounds_toArray, List.set_cons_zero, List.set_cons_succ]
      refine wpAnyH_ready (rs := [19]) (by kernel_rfl) (by simp) ?_
      refine AllReadyH.cons (o := ⟨some 23, _, _, _, _, _⟩) rfl (fun K hK => ?_) AllReadyH.nil
      go_simp
      go_at_call 74
      refine (sub_any _ _ _ b c HI.out.2.1 HI.out.2.2.1 em0_1 em1_1 _ Z1 m0 m1).mono ?_
      rintro e w85 ⟨rfl, P1, kk⟩
      replace n0 := n0.kept en0_1 Z1 kk
      replace n1 := n1.kept en1_1 Z1 kk
      replace P0 := P0.kept eP0_1 Z1 kk
      replace m0 := m0.kept em0_1 Z1 kk
      replace m1 := m1.kept em1_1 Z1 kk
      replace hB := hB.trans (kk.below hB.size (mem1 hb1))
      clear kk Z1 hb1
      refine hK.out _ _ ?_ (fun hHeld => ?_)
      · (try dsimp only); exact ⟨((HR.out.1.below hB HR.out.1.lt).cell 0).trans rfl, ((HR.out.1.below hB HR.out.1.lt).cell 1).trans rfl, ((HR.out.1.below hB HR.out.1.lt).cell 2).trans rfl, ((HR.out.1.below hB HR.out.1.lt).cell 3).trans rfl⟩
      clear hK K hHeld
      try simp only [Act.put, List.setIfInBounds_toArray, List.set_cons_zero, List.set_cons_succ]
      refine wpAnyH_ready (rs := [20]) (by kernel_rfl) (by simp) ?_
      refine AllReadyH.cons (o := ⟨some 24, _, _, _, _, _⟩) rfl (fun K hK => ?_) AllReadyH.nil
      go_simp
      go_at_call 43
      refine (FIT.out _ _ _ P0 P1).mono ?_
      rintro e w86 ⟨rfl, kb⟩
      replace hB := hB.trans (kb.mono hB.size)
      clear kb
      refine hK.out _ _ ?_ (fun hHeld => ?_)
      · (try dsimp only); exact ⟨((HR.out.1.below hB HR.out.1.lt).cell 0).trans rfl, ((HR.out.1.below hB HR.out.1.lt).cell 1).trans rfl, ((HR.out.1.below hB HR.out.1.lt).cell 2).trans rfl, ((HR.out.1.below hB HR.out.1.lt).cell 3).trans rfl⟩
      clear hK K
      try simp only [Act.put, List.setIfInBounds_toArray, List.set_cons_zero, List.set_cons_succ]
      refine tkw 21 25 ?_
      refine tkw 22 26 ?_
      have hr2 := HR.out.2.1.below hB HR.out.2.1.lt
      have hr1 := HR.out.1.below hB HR.out.1.lt
      have hb2 := HR.out.2.2.trans (hB.mono HR.out.2.2.size)
      obtain ⟨⟨q0, q1, q2, q3⟩, f0, f1, f2, f3⟩ := spc_row hr2
      refine wpAnyH_ready (rs := [23]) (by kernel_rfl) (by simp) ?_
      refine AllReadyH.cons (o := ⟨none, _, _, _, _, _⟩) rfl (fun K hK => ?_) AllReadyH.nil
      go_simp
      refine hK.out _ _ ?_ (fun hHeld => ?_)
      · have ho := (((hr1.other ⟨w.heap.size + 1, 0, none⟩ (.int .i64 A) (by simp)).other ⟨w.heap.size + 1, 1, none⟩ (.int .i64 B) (by simp)).other ⟨w.heap.size + 1, 2, none⟩ (.bool P) (by simp)).other ⟨w.heap.size + 1, 3, none⟩ (.bool Q) (by simp)
        (try dsimp only)
        exact ⟨(ho.cell 0).trans rfl, (ho.cell 1).trans rfl, (ho.cell 2).trans rfl, (ho.cell 3).trans rfl⟩
      clear hK K
      try simp only [Act.put, List.setIfInBounds_toArray, List.set_cons_zero, List.set_cons_succ]
      refine tkw 24 3 ?_
      refine wpAnyH_done (by kernel_rfl) ?_ _
      clear hHeld
      obtain ⟨⟨z0, z1, z2, z3⟩, _⟩ := spc_row (spc_put hr2 A B P Q)
      have HBZ := Lib.hid (below_set4 hb2 (Nat.le_succ w.heap.size) (.int .i64 A) (.int .i64 B) (.bool P) (.bool Q))
      have Z := Lib.hid (And.intro z0 (And.intro z1 (And.intro z2 z3)))
      clear z0 z1 z2 z3 hr1 hr2 hb2
      go_wp2
      obtain ⟨z0, z1, z2, z3⟩ := Z.out
      exact bodyPost_ret (v := .tuple #[.agg #[.int .i64 A, .int .i64 B, .bool P, .bool Q], .bool R]) (by simp [results, Tryz.results30, go_sem, z0, z1, z2, z3]) rfl ⟨rfl, HBZ.out⟩
    refine AllReadyH.cons (o := ⟨some 12, _, _, _, _, _⟩) rfl (fun K hK => ?_) AllReadyH.nil
    go_simp
    go_at_call 45
    refine (num_any d HI.out.2.2.2 _).mono ?_
    rintro e w87 ⟨qn1, hq, rfl, n1, kb⟩
    have en1_1 : qn1 ≠ w33.heap.size := Nat.ne_of_gt (Nat.lt_of_lt_of_le (Row.lt Z1) hq)
    clear hq
    replace n0 := n0.below kb
    replace Z1 := Row.below Z1 kb (Row.lt Z1)
    replace hB := hB.trans (kb.mono hB.size)
    clear kb
    refine hK.out _ _ ?_ (fun hHeld => ?_)
    · (try dsimp only); exact ⟨((HR.out.1.below hB HR.out.1.lt).cell 0).trans rfl, ((HR.out.1.below hB HR.out.1.lt).cell 1).trans rfl, ((HR.out.1.below hB HR.out.1.lt).cell 2).trans rfl, ((HR.out.1.below hB HR.out.1.lt).cell 3).trans rfl⟩
    clear hK K hHeld
    try simp only [Act.put, List.setIfInBounds_toArray, List.set_cons_zero, List.set_cons_succ]
    refine wpAnyH_ready (rs := [0]) (by kernel_rfl) (by simp) ?_
    refine AllReadyH.cons (o := ⟨some 4, _, _, _, _, _⟩) rfl (fun K hK => ?_) AllReadyH.nil
    go_simp
    have hB0 := hB.size
    have kb := below_map w87 (.cells #[.bool false, .slice none 0 0] 66)
    have en0_0 : qn0 ≠ w87.heap.size := by have hlt := n0.lt; exact Nat.ne_of_lt hlt
    have en1_0 : qn1 ≠ w87.heap.size := by have hlt := n1.lt; exact Nat.ne_of_lt hlt
    have hne : w87.heap.size ≠ w33.heap.size := by have hlt := Row.lt Z1; exact Nat.ne_of_gt hlt
    replace n0 := n0.below kb
    replace n1 := n1.below kb
    replace Z1 := Row.below Z1 kb (Row.lt Z1)
    replace hB := hB.trans (kb.mono hB.size)
    have Z0 : ZB (w87.alloc (.cells #[.bool false, .slice none 0 0] 66)) w87.heap.size := Row.made w87 [.bool false, .slice none 0 0] 66
    have hb0 : wa.heap.size ≤ w87.heap.size := hB0
    clear kb hB0
    refine hK.out _ _ ?_ (fun hHeld => ?_)
    · (try dsimp only); exact ⟨((HR.out.1.below hB HR.out.1.lt).cell 0).trans rfl, ((HR.out.1.below hB HR.out.1.lt).cell 1).trans rfl, ((HR.out.1.below hB HR.out.1.lt).cell 2).trans rfl, ((HR.out.1.below hB HR.out.1.lt).cell 3).trans rfl⟩
    clear hK K hHeld
    try simp only [Act.put, List.setIfInBounds_toArray, List.set_cons_zero, List.set_cons_succ]
    refine wpAnyH_ready (rs := [9]) (by kernel_rfl) (by simp) ?_
    refine AllReadyH.cons (o := ⟨some 13, _, _, _, _, _⟩) rfl (fun K hK => ?_) AllReadyH.nil
    go_simp
    go_at_call 74
    refine (sub_any _ _ _ a d HI.out.1 HI.out.2.2.2 en0_0 en1_0 _ Z0 n0 n1).mono ?_
    rintro e w88 ⟨rfl, P0, kk⟩
    replace n0 := n0.kept en0_0 Z0 kk
    replace n1 := n1.kept en1_0 Z0 kk
    replace Z1 := kk.row Z1 (nmem1 hne.symm)
    have eP0_1 := hne
    replace hB := hB.trans (kk.below hB.size (mem1 hb0))
    clear kk Z0 hb0
    refine hK.out _ _ ?_ (fun hHeld => ?_)
    · (try dsimp only); exact ⟨((HR.out.1.below hB HR.out.1.lt).cell 0).trans rfl, ((HR.out.1.below hB HR.out.1.lt).cell 1).trans rfl, ((HR.out.1.below hB HR.out.1.lt).cell 2).trans rfl, ((HR.out.1.below hB HR.out.1.lt).cell 3).trans rfl⟩
    clear hK K hHeld
    try simp only [Act.put, List.setIfInBounds_toArray, List.set_cons_zero, List.set_cons_succ]
    refine wpAnyH_ready (rs := [14]) (by kernel_rfl) (by simp) ?_
    refine AllReadyH.cons (o := ⟨some 18, _, _, _, _, _⟩) rfl (fun K hK => ?_) AllReadyH.nil
    go_simp
    go_at_call 45
    refine (num_any b HI.out.2.1 _).mono ?_
    rintro e w89 ⟨qm0, hq, rfl, m0, kb⟩
    have em0_1 : qm0 ≠ w33.heap.size := Nat.ne_of_gt (Nat.lt_of_lt_of_le (Row.lt Z1) hq)
    clear hq
    replace n0 := n0.below kb
    replace n1 := n1.below kb
    replace P0 := P0.below kb
    replace Z1 := Row.below Z1 kb (Row.lt Z1)
    replace hB := hB.trans (kb.mono hB.size)
    clear kb
    refine hK.out _ _ ?_ (fun hHeld => ?_)
    · (try dsimp only); exact ⟨((HR.out.1.below hB HR.out.1.lt).cell 0).trans rfl, ((HR.out.1.below hB HR.out.1.lt).cell 1).trans rfl, ((HR.out.1.below hB HR.out.1.lt).cell 2).trans rfl, ((HR.out.1.below hB HR.out.1.lt).cell 3).trans rfl⟩
    clear hK K hHeld
    try simp only [Act.put, List.setIfInBounds_toArray, List.set_cons_zero, List.set_cons_succ]
    refine wpAnyH_ready (rs := [18]) (by kernel_rfl) (by simp) ?_
    refine AllReadyH.cons (o := ⟨some 22, _, _, _, _, _⟩) rfl (fun K hK => ?_) AllReadyH.nil
    go_simp
    go_at_call 45
    refine (num_any c HI.out.2.2.1 _).mono ?_
    rintro e w90 ⟨qm1, hq, rfl, m1, kb⟩
    have em1_1 : qm1 ≠ w33.heap.size := Nat.ne_of_gt (Nat.lt_of_lt_of_le (Row.lt Z1) hq)
    clear hq
    replace n0 := n0.below kb
    replace n1 := n1.below kb
    replace P0 := P0.below kb
    replace m0 := m0.below kb
    replace Z1 := Row.below Z1 kb (Row.lt Z1)
    replace hB := hB.trans (kb.mono hB.size)
    clear kb
    refine hK.out _ _ ?_ (fun hHeld => ?_)
    · (try dsimp only); exact ⟨((HR.out.1.below hB HR.out.1.lt).cell 0).trans rfl, ((HR.out.1.below hB HR.out.1.lt).cell 1).trans rfl, ((HR.out.1.below hB HR.out.1.lt).cell 2).trans rfl, ((HR.out.1.below hB HR.out.1.lt).cell 3).trans rfl⟩
    clear hK K hHeld
    try simp only [Act.put, List.setIfInBounds_toArray, List.set_cons_zero, List.set_cons_succ]
    refine wpAnyH_ready (rs := [19]) (by kernel_rfl) (by simp) ?_
    refine AllReadyH.cons (o := ⟨some 23, _, _, _, _, _⟩) rfl (fun K hK => ?_) AllReadyH.nil
    go_simp
    go_at_call 74
    refine (sub_any _ _ _ b c HI.out.2.1 HI.out.2.2.1 em0_1 em1_1 _ Z1 m0 m1).mono ?_
    rintro e w91 ⟨rfl, P1, kk⟩
    replace n0 := n0.kept en0_1 Z1 kk
    replace n1 := n1.kept en1_1 Z1 kk
    replace P0 := P0.kept eP0_1 Z1 kk
    replace m0 := m0.kept em0_1 Z1 kk
    replace m1 := m1.kept em1_1 Z1 kk
    replace hB := hB.trans (kk.below hB.size (mem1 hb1))
    clear kk Z1 hb1
    refine hK.out _ _ ?_ (fun hHeld => ?_)
    · (try dsimp only); exact ⟨((HR.out.1.below hB HR.out.1.lt).cell 0).trans rfl, ((HR.out.1.below hB HR.out.1.lt).cell 1).trans rfl, ((HR.out.1.below hB HR.out.1.lt).cell 2).trans rfl, ((HR.out.1.below hB HR.out.1.lt).cell 3).trans rfl⟩
    clear hK K hHeld
    try simp only [Act.put, List.setIfInBounds_toArray, List.set_cons_zero, List.set_cons_succ]
    refine wpAnyH_ready (rs := [20]) (by kernel_rfl) (by simp) ?_
    refine AllReadyH.cons (o := ⟨some 24, _, _, _, _, _⟩) rfl (fun K hK => ?_) AllReadyH.nil
    go_simp
    go_at_call 43
    refine (FIT.out _ _ _ P0 P1).mono ?_
    rintro e w92 ⟨rfl, kb⟩
    replace hB := hB.trans (kb.mono hB.size)
    clear kb
    refine hK.out _ _ ?_ (fun hHeld => ?_)
    · (try dsimp only); exact ⟨((HR.out.1.below hB HR.out.1.lt).cell 0).trans rfl, ((HR.out.1.below hB HR.out.1.lt).cell 1).trans rfl, ((HR.out.1.below hB HR.out.1.lt).cell 2).trans rfl, ((HR.out.1.below hB HR.out.1.lt).cell 3).trans rfl⟩
    clear hK K
    try simp only [Act.put, List.setIfInBounds_toArray, List.set_cons_zero, List.set_cons_succ]
    refine tkw 21 25 ?_
    refine tkw 22 26 ?_
    have hr2 := HR.out.2.1.below hB HR.out.2.1.lt
    have hr1 := HR.out.1.below hB HR.out.1.lt
    have hb2 := HR.out.2.2.trans (hB.mono HR.out.2.2.size)
    obtain ⟨⟨q0, q1, q2, q3⟩, f0, f1, f2, f3⟩ := spc_row hr2
    refine wpAnyH_ready (rs := [23]) (by kernel_rfl) (by simp) ?_
    refine AllReadyH.cons (o := ⟨none, _, _, _, _, _⟩) rfl (fun K hK => ?_) AllReadyH.nil
    go_simp
    refine hK.out _ _ ?_ (fun hHeld => ?_)
    · have ho := (((hr1.other ⟨w.heap.size + 1, 0, none⟩ (.int .i64 A) (by simp)).other ⟨w.heap.size + 1, 1, none⟩ (.int .i64 B) (by simp)).other ⟨w.heap.size + 1, 2, none⟩ (.bool P) (by simp)).other ⟨w.heap.size + 1, 3, none⟩ (.bool Q) (by simp)
      (try dsimp only)
      exact ⟨(ho.cell 0).trans rfl, (ho.cell 1).trans rfl, (ho.cell 2).trans rfl, (ho.cell 3).trans rfl⟩
    clear hK K
    try simp only [Act.put, List.setIfInBounds_toArray, List.set_cons_zero, List.set_cons_succ]
    refine tkw 24 3 ?_
    refine wpAnyH_done (by kernel_rfl) ?_ _
    clear hHeld
    obtain ⟨⟨z0, z1, z2, z3⟩, _⟩ := spc_row (spc_put hr2 A B P Q)
    have HBZ := Lib.hid (below_set4 hb2 (Nat.le_succ w.heap.size) (.int .i64 A) (.int .i64 B) (.bool P) (.bool Q))
    have Z := Lib.hid (And.intro z0 (And.intro z1 (And.intro z2 z3)))
    clear z0 z1 z2 z3 hr1 hr2 hb2
    go_wp2
    obtain ⟨z0, z1, z2, z3⟩ := Z.out
    exact bodyPost_ret (v := .tuple #[.agg #[.int .i64 A, .int .i64 B, .bool P, .bool Q], .bool R]) (by simp [results, Tryz.results30, go_sem, z0, z1, z2, z3]) rfl ⟨rfl, HBZ.out⟩
  refine AllReadyH.cons (o := ⟨some 14, _, _, _, _, _⟩) rfl (fun K hK => ?_) AllReadyH.nil
  go_simp
  have hB0 := hB.size
  have kb := below_map wa.drew (.cells #[.bool false, .slice none 0 0] 66)
  replace hB := hB.trans (kb.mono hB.size)
  have Z1 : ZB (wa.drew.alloc (.cells #[.bool false, .slice none 0 0] 66)) wa.drew.heap.size := Row.made wa.drew [.bool false, .slice none 0 0] 66
  have hb1 : wa.heap.size ≤ wa.drew.heap.size := hB0
  clear kb hB0
  refine hK.out _ _ ?_ (fun hHeld => ?_)
  · (try dsimp only); exact ⟨((HR.out.1.below hB HR.out.1.lt).cell 0).trans rfl, ((HR.out.1.below hB HR.out.1.lt).cell 1).trans rfl, ((HR.out.1.below hB HR.out.1.lt).cell 2).trans rfl, ((HR.out.1.below hB HR.out.1.lt).cell 3).trans rfl⟩
  clear hK K hHeld
  try simp only [Act.put, List.setIfInBounds_toArray, List.set_cons_zero, List.set_cons_succ]
  refine wpAnyH_ready (rs := [0, 4]) (by kernel_rfl) (by simp) ?_
  refine AllReadyH.cons (o := ⟨some 4, _, _, _, _, _⟩) rfl (fun K hK => ?_) ?_
  · go_simp
    have hB0 := hB.size
    have kb := below_map (wa.drew.alloc (.cells #[.bool false, .slice none 0 0] 66)) (.cells #[.bool false, .slice none 0 0] 66)
    have hne : (wa.drew.heap.size + 1) ≠ wa.drew.heap.size := by have hlt := Row.lt Z1; rw [size_al] at hlt; exact Nat.ne_of_gt hlt
    replace Z1 := Row.below Z1 kb (Row.lt Z1)
    replace hB := hB.trans (kb.mono hB.size)
    have Z0 : ZB ((wa.drew.alloc (.cells #[.bool false, .slice none 0 0] 66)).alloc (.cells #[.bool false, .slice none 0 0] 66)) (wa.drew.heap.size + 1) := row2 wa.drew (.cells #[.bool false, .slice none 0 0] 66) [.bool false, .slice none 0 0] 66
    have hb0 : wa.heap.size ≤ (wa.drew.heap.size + 1) := by rw [size_al] at hB0; exact hB0
    clear kb hB0
    refine hK.out _ _ ?_ (fun hHeld => ?_)
    · (try dsimp only); exact ⟨((HR.out.1.below hB HR.out.1.lt).cell 0).trans rfl, ((HR.out.1.below hB HR.out.1.lt).cell 1).trans rfl, ((HR.out.1.below hB HR.out.1.lt).cell 2).trans rfl, ((HR.out.1.below hB HR.out.1.lt).cell 3).trans rfl⟩
    clear hK K hHeld
    try simp only [Act.put, List.setIfInBounds_toArray, List.set_cons_zero, List.set_cons_succ]
    refine wpAnyH_ready (rs := [4]) (by kernel_rfl) (by simp) ?_
    refine AllReadyH.cons (o := ⟨some 8, _, _, _, _, _⟩) rfl (fun K hK => ?_) AllReadyH.nil
    go_simp
    go_at_call 45
    refine (num_any a HI.out.1 _).mono ?_
    rintro e w93 ⟨qn0, hq, rfl, n0, kb⟩
    have en0_1 : qn0 ≠ wa.drew.heap.size := Nat.ne_of_gt (Nat.lt_of_lt_of_le (Row.lt Z1) hq)
    have en0_0 : qn0 ≠ (wa.drew.heap.size + 1) := Nat.ne_of_gt (Nat.lt_of_lt_of_le (Row.lt Z0) hq)
    clear hq
    replace Z1 := Row.below Z1 kb (Row.lt Z1)
    replace Z0 := Row.below Z0 kb (Row.lt Z0)
    replace hB := hB.trans (kb.mono hB.size)
    clear kb
    refine hK.out _ _ ?_ (fun hHeld => ?_)
    · (try dsimp only); exact ⟨((HR.out.1.below hB HR.out.1.lt).cell 0).trans rfl, ((HR.out.1.below hB HR.out.1.lt).cell 1).trans rfl, ((HR.out.1.below hB HR.out.1.lt).cell 2).trans rfl, ((HR.out.1.below hB HR.out.1.lt).cell 3).trans rfl⟩
    clear hK K hHeld
    try simp only [Act.put, List.setIfInBounds_toArray, List.set_cons_zero, List.set_cons_succ]
    refine wpAnyH_ready (rs := [8]) (by kernel_rfl) (by simp) ?_
    refine AllReadyH.cons (o := ⟨some 12, _, _, _, _, _⟩) rfl (fun K hK => ?_) AllReadyH.nil
    go_simp
    go_at_call 45
    refine (num_any d HI.out.2.2.2 _).mono ?_
    rintro e w94 ⟨qn1, hq, rfl, n1, kb⟩
    have en1_1 : qn1 ≠ wa.drew.heap.size := Nat.ne_of_gt (Nat.lt_of_lt_of_le (Row.lt Z1) hq)
    have en1_0 : qn1 ≠ (wa.drew.heap.size + 1) := Nat.ne_of_gt (Nat.lt_of_lt_of_le (Row.lt Z0) hq)
    clear hq
    replace n0 := n0.below kb
    replace Z1 := Row.below Z1 kb (Row.lt Z1)
    replace Z0 := Row.below Z0 kb (Row.lt Z0)
    replace hB := hB.trans (kb.mono hB.size)
    clear kb
    refine hK.out _ _ ?_ (fun hHeld => ?_)
    · (try dsimp only); exact ⟨((HR.out.1.below hB HR.out.1.lt).cell 0).trans rfl, ((HR.out.1.below hB HR.out.1.lt).cell 1).trans rfl, ((HR.out.1.below hB HR.out.1.lt).cell 2).trans rfl, ((HR.out.1.below hB HR.out.1.lt).cell 3).trans rfl⟩
    clear hK K hHeld
    try simp only [Act.put, List.setIfInBounds_toArray, List.set_cons_zero, List.set_cons_succ]
    refine wpAnyH_ready (rs := [9]) (by kernel_rfl) (by simp) ?_
    refine AllReadyH.cons (o := ⟨some 13, _, _, _, _, _⟩) rfl (fun K hK => ?_) AllReadyH.nil
    go_simp
    go_at_call 74
    refine (sub_any _ _ _ a d HI.out.1 HI.out.2.2.2 en0_0 en1_0 _ Z0 n0 n1).mono ?_
    rintro e w95 ⟨rfl, P0, kk⟩
    replace n0 := n0.kept en0_0 Z0 kk
    replace n1 := n1.kept en1_0 Z0 kk
    replace Z1 := kk.row Z1 (nmem1 hne.symm)
    have eP0_1 := hne
    replace hB := hB.trans (kk.below hB.size (mem1 hb0))
    clear kk Z0 hb0
    refine hK.out _ _ ?_ (fun hHeld => ?_)
    · (try dsimp only); exact ⟨((HR.out.1.below hB HR.out.1.lt).cell 0).trans rfl, ((HR.out.1.below hB HR.out.1.lt).cell 1).trans rfl, ((HR.out.1.below hB HR.out.1.lt).cell 2).trans rfl, ((HR.out.1.below hB HR.out.1.lt).cell 3).trans rfl⟩
    clear hK K hHeld
    try simp only [Act.put, List.setIfInBounds_toArray, List.set_cons_zero, List.set_cons_succ]
    refine wpAnyH_ready (rs := [14]) (by kernel_rfl) (by simp) ?_
    refine AllReadyH.cons (o := ⟨some 18, _, _, _, _, _⟩) rfl (fun K hK => ?_) AllReadyH.nil
    go_simp
    go_at_call 45
    refine (num_any b HI.out.2.1 _).mono ?_
    rintro e w96 ⟨qm0, hq, rfl, m0, kb⟩
    have em0_1 : qm0 ≠ wa.drew.heap.size := Nat.ne_of_gt (Nat.lt_of_lt_of_le (Row.lt Z1) hq)
    clear hq
    replace n0 := n0.below kb
    replace n1 := n1.below kb
    replace P0 := P0.below kb
    replace Z1 := Row.below Z1 kb (Row.lt Z1)
    replace hB := hB.trans (kb.mono hB.size)
    clear kb
    refine hK.out _ _ ?_ (fun hHeld => ?_)
    · (try dsimp only); exact ⟨((HR.out.1.below hB HR.out.1.lt).cell 0).trans rfl, ((HR.out.1.below hB HR.out.1.lt).cell 1).trans rfl, ((HR.out.1.below hB HR.out.1.lt).cell 2).trans rfl, ((HR.out.1.below hB HR.out.1.lt).cell 3).trans rfl⟩
    clear hK K hHeld
    try simp only [Act.put, List.setIfInBounds_toArray, List.set_cons_zero, List.set_cons_succ]
    refine wpAnyH_ready (rs := [18]) (by kernel_rfl) (by simp) ?_
    refine AllReadyH.cons (o := ⟨some 22, _, _, _, _, _⟩) rfl (fun K hK => ?_) AllReadyH.nil
    go_simp
    go_at_call 45
    refine (num_any c HI.out.2.2.1 _).mono ?_
    rintro e w97 ⟨qm1, hq, rfl, m1, kb⟩
    have em1_1 : qm1 ≠ wa.drew.heap.size := Nat.ne_of_gt (Nat.lt_of_lt_of_le (Row.lt Z1) hq)
    clear hq
    replace n0 := n0.below kb
    replace n1 := n1.below kb
    replace P0 := P0.below kb
    replace m0 := m0.below kb
    replace Z1 := Row.below Z1 kb (Row.lt Z1)
    replace hB := hB.trans (kb.mono hB.size)
    clear kb
    refine hK.out _ _ ?_ (fun hHeld => ?_)
    · (try dsimp only); exact ⟨((HR.out.1.below hB HR.out.1.lt).cell 0).trans rfl, ((HR.out.1.below hB HR.out.1.lt).cell 1).trans rfl, ((HR.out.1.below hB HR.out.1.lt).cell 2).trans rfl, ((HR.out.1.below hB HR.out.1.lt).cell 3).trans rfl⟩
    clear hK K hHeld
    try simp only [Act.put, List.setIfInBounds_toArray, List.set_cons_zero, List.set_cons_succ]
    refine wpAnyH_ready (rs := [19]) (by kernel_rfl) (by simp) ?_
    refine AllReadyH.cons (o := ⟨some 23, _, _, _, _, _⟩) rfl (fun K hK => ?_) AllReadyH.nil
    go_simp
    go_at_call 74
    refine (sub_any _ _ _ b c HI.out.2.1 HI.out.2.2.1 em0_1 em1_1 _ Z1 m0 m1).mono ?_
    rintro e w98 ⟨rfl, P1, kk⟩
    replace n0 := n0.kept en0_1 Z1 kk
    replace n1 := n1.kept en1_1 Z1 kk
    replace P0 := P0.kept eP0_1 Z1 kk
    replace m0 := m0.kept em0_1 Z1 kk
    replace m1 := m1.kept em1_1 Z1 kk
    replace hB := hB.trans (kk.below hB.size (mem1 hb1))
    clear kk Z1 hb1
    refine hK.out _ _ ?_ (fun hHeld => ?_)
    · (try dsimp only); exact ⟨((HR.out.1.below hB HR.out.1.lt).cell 0).trans rfl, ((HR.out.1.below hB HR.out.1.lt).cell 1).trans rfl, ((HR.out.1.below hB HR.out.1.lt).cell 2).trans rfl, ((HR.out.1.below hB HR.out.1.lt).cell 3).trans rfl⟩
    clear hK K hHeld
    try simp only [Act.put, List.setIfInBounds_toArray, List.set_cons_zero, List.set_cons_succ]
    refine wpAnyH_ready (rs := [20]) (by kernel_rfl) (by simp) ?_
    refine AllReadyH.cons (o := ⟨some 24, _, _, _, _, _⟩) rfl (fun K hK => ?_) AllReadyH.nil
    go_simp
    go_at_call 43
    refine (FIT.out _ _ _ P0 P1).mono ?_
    rintro e w99 ⟨rfl, kb⟩
    replace hB := hB.trans (kb.mono hB.size)
    clear kb
    refine hK.out _ _ ?_ (fun hHeld => ?_)
    · (try dsimp only); exact ⟨((HR.out.1.below hB HR.out.1.lt).cell 0).trans rfl, ((HR.out.1.below hB HR.out.1.lt).cell 1).trans rfl, ((HR.out.1.below hB HR.out.1.lt).cell 2).trans rfl, ((HR.out.1.below hB HR.out.1.lt).cell 3).trans rfl⟩
    clear hK K
    try simp only [Act.put, List.setIfInBounds_toArray, List.set_cons_zero, List.set_cons_succ]
    refine tkw 21 25 ?_
    refine tkw 22 26 ?_
    have hr2 := HR.out.2.1.below hB HR.out.2.1.lt
    have hr1 := HR.out.1.below hB HR.out.1.lt
    have hb2 := HR.out.2.2.trans (hB.mono HR.out.2.2.size)
    obtain ⟨⟨q0, q1, q2, q3⟩, f0, f1, f2, f3⟩ := spc_row hr2
    refine wpAnyH_ready (rs := [23]) (by kernel_rfl) (by simp) ?_
    refine AllReadyH.cons (o := ⟨none, _, _, _, _, _⟩) rfl (fun K hK => ?_) AllReadyH.nil
    go_simp
    refine hK.out _ _ ?_ (fun hHeld => ?_)
    · have ho := (((hr1.other ⟨w.heap.size + 1, 0, none⟩ (.int .i64 A) (by simp)).other ⟨w.heap.size + 1, 1, none⟩ (.int .i64 B) (by simp)).other ⟨w.heap.size + 1, 2, none⟩ (.bool P) (by simp)).other ⟨w.heap.size + 1, 3, none⟩ (.bool Q) (by simp)
      (try dsimp only)
      exact ⟨(ho.cell 0).trans rfl, (ho.cell 1).trans rfl, (ho.cell 2).trans rfl, (ho.cell 3).trans rfl⟩
    clear hK K
    try simp only [Act.put, List.setIfInBounds_toArray, List.set_cons_zero, List.set_cons_succ]
    refine tkw 24 3 ?_
    refine wpAnyH_done (by kernel_rfl) ?_ _
    clear hHeld
    obtain ⟨⟨z0, z1, z2, z3⟩, _⟩ := spc_row (spc_put hr2 A B P Q)
    have HBZ := Lib.hid (below_set4 hb2 (Nat.le_succ w.heap.size) (.int .i64 A) (.int .i64 B) (.bool P) (.bool Q))
    have Z := Lib.hid (And.intro z0 (And.intro z1 (And.intro z2 z3)))
    clear z0 z1 z2 z3 hr1 hr2 hb2
    go_wp2
    obtain ⟨z0, z1, z2, z3⟩ := Z.out
    exact bodyPost_ret (v := .tuple #[.agg #[.int .i64 A, .int .i64 B, .bool P, .bool Q], .bool R]) (by simp [results, Tryz.results30, go_sem, z0, z1, z2, z3]) rfl ⟨rfl, HBZ.out⟩
  refine AllReadyH.cons (o := ⟨some 8, _, _, _, _, _⟩) rfl (fun K hK => ?_) AllReadyH.nil
  go_simp
  go_at_call 45
  refine (num_any a HI.out.1 _).mono ?_
  rintro e w100 ⟨qn0, hq, rfl, n0, kb⟩
  have en0_1 : qn0 ≠ wa.drew.heap.size := Nat.ne_of_gt (Nat.lt_of_lt_of_le (Row.lt Z1) hq)
  clear hq
  replace Z1 := Row.below Z1 kb (Row.lt Z1)
  replace hB := hB.trans (kb.mono hB.size)
  clear kb
  refine hK.out _ _ ?_ (fun hHeld => ?_)
  · (try dsimp only); exact ⟨((HR.out.1.below hB HR.out.1.lt).cell 0).trans rfl, ((HR.out.1.below hB HR.out.1.lt).cell 1).trans rfl, ((HR.out.1.below hB HR.out.1.lt).cell 2).trans rfl, ((HR.out.1.below hB HR.out.1.lt).cell 3).trans rfl⟩
  clear hK K hHeld
  try simp only [Act.put, List.setIfInBounds_toArray, List.set_cons_zero, List.set_cons_succ]
  refine wpAnyH_ready (rs := [0, 8]) (by kernel_rfl) (by simp) ?_
  refine AllReadyH.cons (o := ⟨some 4, _, _, _, _, _⟩) rfl (fun K hK => ?_) ?_
  · go_simp
    have hB0 := hB.size
    have kb := below_map w100 (.cells #[.bool false, .slice none 0 0] 66)
    have en0_0 : qn0 ≠ w100.heap.size := by have hlt := n0.lt; exact Nat.ne_of_lt hlt
    have hne : w100.heap.size ≠ wa.drew.heap.size := by have hlt := Row.lt Z1; exact Nat.ne_of_gt hlt
    replace n0 := n0.below kb
    replace Z1 := Row.below Z1 kb (Row.lt Z1)
    replace hB := hB.trans (kb.mono hB.size)
    have Z0 : ZB (w100.alloc (.cells #[.bool false, .slice none 0 0] 66)) w100.heap.size := Row.made w100 [.bool false, .slice none 0 0] 66
    have hb0 : wa.heap.size ≤ w100.heap.size := hB0
    clear kb hB0
    refine hK.out _ _ ?_ (fun hHeld => ?_)
    · (try dsimp only); exact ⟨((HR.out.1.below hB HR.out.1.lt).cell 0).trans rfl, ((HR.out.1.below hB HR.out.1.lt).cell 1).trans rfl, ((HR.out.1.below hB HR.out.1.lt).cell 2).trans rfl, ((HR.out.1.below hB HR.out.1.lt).cell 3).trans rfl⟩
    clear hK K hHeld
    try simp only [Act.put, List.setIfInBounds_toArray, List.set_cons_zero, List.set_cons_succ]
    refine wpAnyH_ready (rs := [8]) (by kernel_rfl) (by simp) ?_
    refine AllReadyH.cons (o := ⟨some 12, _, _, _, _, _⟩) rfl (fun K hK => ?_) AllReadyH.nil
    go_simp
    go_at_call 45
    refine (num_any d HI.out.2.2.2 _).mono ?_
    rintro e w101 ⟨qn1, hq, rfl, n1, kb⟩
    have en1_1 : qn1 ≠ wa.drew.heap.size := Nat.ne_of_gt (Nat.lt_of_lt_of_le (Row.lt Z1) hq)
    have en1_0 : qn1 ≠ w100.heap.size := Nat.ne_of_gt (Nat.lt_of_lt_of_le (Row.lt Z0) hq)
    clear hq
    replace n0 := n0.below kb
    replace Z1 := Row.below Z1 kb (Row.lt Z1)
    replace Z0 := Row.below Z0 kb (Row.lt Z0)
    replace hB := hB.trans (kb.mono hB.size)
    clear kb
    refine hK.out _ _ ?_ (fun hHeld => ?_)
    · (try dsimp only); exact ⟨((HR.out.1.below hB HR.out.1.lt).cell 0).trans rfl, ((HR.out.1.below hB HR.out.1.lt).cell 1).trans rfl, ((HR.out.1.below hB HR.out.1.lt).cell 2).trans rfl, ((HR.out.1.below hB HR.out.1.lt).cell 3).trans rfl⟩
    clear hK K hHeld
    try simp only [Act.put, List.setIfInBounds_toArray, List.set_cons_zero, List.set_cons_succ]
    refine wpAnyH_ready (rs := [9]) (by kernel_rfl) (by simp) ?_
    refine AllReadyH.cons (o := ⟨some 13, _, _, _, _, _⟩) rfl (fun K hK => ?_) AllReadyH.nil
    go_simp
    go_at_call 74
    refine (sub_any _ _ _ a d HI.out.1 HI.out.2.2.2 en0_0 en1_0 _ Z0 n0 n1).mono ?_
    rintro e w102 ⟨rfl, P0, kk⟩
    replace n0 := n0.kept en0_0 Z0 kk
    replace n1 := n1.kept en1_0 Z0 kk
    replace Z1 := kk.row Z1 (nmem1 hne.symm)
    have eP0_1 := hne
    replace hB := hB.trans (kk.below hB.size (mem1 hb0))
    clear kk Z0 hb0
    refine hK.out _ _ ?_ (fun hHeld => ?_)
    · (try dsimp only); exact ⟨((HR.out.1.below hB HR.out.1.lt).cell 0).trans rfl, ((HR.out.1.below hB HR.out.1.lt).cell 1).trans rfl, ((HR.out.1.below hB HR.out.1.lt).cell 2).trans rfl, ((HR.out.1.below hB HR.out.1.lt).cell 3).trans rfl⟩
    clear hK K hHeld
    try simp only [Act.put, List.setIfInBounds_toArray, List.set_cons_zero, List.set_cons_succ]
    refine wpAnyH_ready (rs := [14]) (by kernel_rfl) (by simp) ?_
    refine AllReadyH.cons (o := ⟨some 18, _, _, _, _, _⟩) rfl (fun K hK => ?_) AllReadyH.nil
    go_simp
    go_at_call 45
    refine (num_any b HI.out.2.1 _).mono ?_
    rintro e w103 ⟨qm0, hq, rfl, m0, kb⟩
    have em0_1 : qm0 ≠ wa.drew.heap.size := Nat.ne_of_gt (Nat.lt_of_lt_of_le (Row.lt Z1) hq)
    clear hq
    replace n0 := n0.below kb
    replace n1 := n1.below kb
    replace P0 := P0.below kb
    replace Z1 := Row.below Z1 kb (Row.lt Z1)
    replace hB := hB.trans (kb.mono hB.size)
    clear kb
    refine hK.out _ _ ?_ (fun hHeld => ?_)
    · (try dsimp only); exact ⟨((HR.out.1.below hB HR.out.1.lt).cell 0).trans rfl, ((HR.out.1.below hB HR.out.1.lt).cell 1).trans rfl, ((HR.out.1.below hB HR.out.1.lt).cell 2).trans rfl, ((HR.out.1.below hB HR.out.1.lt).cell 3).trans rfl⟩
    clear hK K hHeld
    try simp only [Act.put, List.setIfInBounds_toArray, List.set_cons_zero, List.set_cons_succ]
    refine wpAnyH_ready (rs := [18]) (by kernel_rfl) (by simp) ?_
    refine AllReadyH.cons (o := ⟨some 22, _, _, _, _, _⟩) rfl (fun K hK => ?_) AllReadyH.nil
    go_simp
    go_at_call 45
    refine (num_any c HI.out.2.2.1 _).mono ?_
    rintro e w104 ⟨qm1, hq, rfl, m1, kb⟩
    have em1_1 : qm1 ≠ wa.drew.heap.size := Nat.ne_of_gt (Nat.lt_of_lt_of_le (Row.lt Z1) hq)
    clear hq
    replace n0 := n0.below kb
    replace n1 := n1.below kb
    replace P0 := P0.below kb
    replace m0 := m0.below kb
    replace Z1 := Row.below Z1 kb (Row.lt Z1)
    replace hB := hB.trans (kb.mono hB.size)
    clear kb
    refine hK.out _ _ ?_ (fun hHeld => ?_)
    · (try dsimp only); exact ⟨((HR.out.1.below hB HR.out.1.lt).cell 0).trans rfl, ((HR.out.1.below hB HR.out.1.lt).cell 1).trans rfl, ((HR.out.1.below hB HR.out.1.lt).cell 2).trans rfl, ((HR.out.1.below hB HR.out.1.lt).cell 3).trans rfl⟩
    clear hK K hHeld
    try simp only [Act.put, List.setIfInBounds_toArray, List.set_cons_zero, List.set_cons_succ]
    refine wpAnyH_ready (rs := [19]) (by kernel_rfl) (by simp) ?_
    refine AllReadyH.cons (o := ⟨some 23, _, _, _, _, _⟩) rfl (fun K hK => ?_) AllReadyH.nil
    go_simp
    go_at_call 74
    refine (sub_any _ _ _ b c HI.out.2.1 HI.out.2.2.1 em0_1 em1_1 _ Z1 m0 m1).mono ?_
    rintro e w105 ⟨rfl, P1, kk⟩
    replace n0 := n0.kept en0_1 Z1 kk
    replace n1 := n1.kept en1_1 Z1 kk
    replace P0 := P0.kept eP0_1 Z1 kk
    replace m0 := m0.kept em0_1 Z1 kk
    replace m1 := m1.kept em1_1 Z1 kk
    replace hB := hB.trans (kk.below hB.size (mem1 hb1))
    clear kk Z1 hb1
    refine hK.out _ _ ?_ (fun hHeld => ?_)
    · (try dsimp only); exact ⟨((HR.out.1.below hB HR.out.1.lt).cell 0).trans rfl, ((HR.out.1.below hB HR.out.1.lt).cell 1).trans rfl, ((HR.out.1.below hB HR.out.1.lt).cell 2).trans rfl, ((HR.out.1.below hB HR.out.1.lt).cell 3).trans rfl⟩
    clear hK K hHeld
    try simp only [Act.put, List.setIfInBounds_toArray, List.set_cons_zero, List.set_cons_succ]
    refine wpAnyH_ready (rs := [20]) (by kernel_rfl) (by simp) ?_
    refine AllReadyH.cons (o := ⟨some 24, _, _, _, _, _⟩) rfl (fun K hK => ?_) AllReadyH.nil
    go_simp
    go_at_call 43
    refine (FIT.out _ _ _ P0 P1).mono ?_
    rintro e w106 ⟨rfl, kb⟩
    replace hB := hB.trans (kb.mono hB.size)
    clear kb
    refine hK.out _ _ ?_ (fun hHeld => ?_)
    · (try dsimp only); exact ⟨((HR.out.1.below hB HR.out.1.lt).cell 0).trans rfl, ((HR.out.1.below hB HR.out.1.lt).cell 1).trans rfl, ((HR.out.1.below hB HR.out.1.lt).cell 2).trans rfl, ((HR.out.1.below hB HR.out.1.lt).cell 3).trans rfl⟩
    clear hK K
    try simp only [Act.put, List.setIfInBounds_toArray, List.set_cons_zero, List.set_cons_succ]
    refine tkw 21 25 ?_
    refine tkw 22 26 ?_
    have hr2 := HR.out.2.1.below hB HR.out.2.1.lt
    have hr1 := HR.out.1.below hB HR.out.1.lt
    have hb2 := HR.out.2.2.trans (hB.mono HR.out.2.2.size)
    obtain ⟨⟨q0, q1, q2, q3⟩, f0, f1, f2, f3⟩ := spc_row hr2
    refine wpAnyH_ready (rs := [23]) (by kernel_rfl) (by simp) ?_
    refine AllReadyH.cons (o := ⟨none, _, _, _, _, _⟩) rfl (fun K hK => ?_) AllReadyH.nil
    go_simp
    refine hK.out _ _ ?_ (fun hHeld => ?_)
    · have ho := (((hr1.other ⟨w.heap.size + 1, 0, none⟩ (.int .i64 A) (by simp)).other ⟨w.heap.size + 1, 1, none⟩ (.int .i64 B) (by simp)).other ⟨w.heap.size + 1, 2, none⟩ (.bool P) (by simp)).other ⟨w.heap.size + 1, 3, none⟩ (.bool Q) (by simp)
      (try dsimp only)
      exact ⟨(ho.cell 0).trans rfl, (ho.cell 1).trans rfl, (ho.cell 2).trans rfl, (ho.cell 3).trans rfl⟩
    clear hK K
    try simp only [Act.put, List.setIfInBounds_toArray, List.set_cons_zero, List.set_cons_succ]
    refine tkw 24 3 ?_
    refine wpAnyH_done (by kernel_rfl) ?_ _
    clear hHeld
    obtain ⟨⟨z0, z1, z2, z3⟩, _⟩ := spc_row (spc_put hr2 A B P Q)
    have HBZ := Lib.hid (below_set4 hb2 (Nat.le_succ w.heap.size) (.int .i64 A) (.int .i64 B) (.bool P) (.bool Q))
    have Z := Lib.hid (And.intro z0 (And.intro z1 (And.intro z2 z3)))
    clear z0 z1 z2 z3 hr1 hr2 hb2
    go_wp2
    obtain ⟨z0, z1, z2, z3⟩ := Z.out
    exact bodyPost_ret (v := .tuple #[.agg #[.int .i64 A, .int .i64 B, .bool P, .bool Q], .bool R]) (by simp [results, Tryz.results30, go_sem, z0, z1, z2, z3]) rfl ⟨rfl, HBZ.out⟩
  refine AllReadyH.cons (o := ⟨some 12, _, _, _, _, _⟩) rfl (fun K hK => ?_) AllReadyH.nil
  go_simp
  go_at_call 45
  refine (num_any d HI.out.2.2.2 _).mono ?_
  rintro e w107 ⟨qn1, hq, rfl, n1, kb⟩
  have en1_1 : qn1 ≠ wa.drew.heap.size := Nat.ne_of_gt (Nat.lt_of_lt_of_le (Row.lt Z1) hq)
  clear hq
  replace n0 := n0.below kb
  replace Z1 := Row.below Z1 kb (Row.lt Z1)
  replace hB := hB.trans (kb.mono hB.size)
  clear kb
  refine hK.out _ _ ?_ (fun hHeld => ?_)
  · (try dsimp only); exact ⟨((HR.out.1.below hB HR.out.1.lt).cell 0).trans rfl, ((HR.out.1.below hB HR.out.1.lt).cell 1).trans rfl, ((HR.out.1.below hB HR.out.1.lt).cell 2).trans rfl, ((HR.out.1.below hB HR.out.1.lt).cell 3).trans rfl⟩
  clear hK K hHeld
  try simp only [Act.put, List.setIfInBounds_toArray, List.set_cons_zero, List.set_cons_succ]
  refine wpAnyH_ready (rs := [0]) (by kernel_rfl) (by simp) ?_
  refine AllReadyH.cons (o := ⟨some 4, _, _, _, _, _⟩) rfl (fun K hK => ?_) AllReadyH.nil
  go_simp
  have hB0 := hB.size
  have kb := below_map w107 (.cells #[.bool false, .slice none 0 0] 66)
  have en0_0 : qn0 ≠ w107.heap.size := by have hlt := n0.lt; exact Nat.ne_of_lt hlt
  have en1_0 : qn1 ≠ w107.heap.size := by have hlt := n1.lt; exact Nat.ne_of_lt hlt
  have hne : w107.heap.size ≠ wa.drew.heap.size := by have hlt := Row.lt Z1; exact Nat.ne_of_gt hlt
  replace n0 := n0.below kb
  replace n1 := n1.below kb
  replace Z1 := Row.below Z1 kb (Row.lt Z1)
  replace hB := hB.trans (kb.mono hB.size)
  have Z0 : ZB (w107.alloc (.cells #[.bool false, .slice none 0 0] 66)) w107.heap.size := Row.made w107 [.bool false, .slice none 0 0] 66
  have hb0 : wa.heap.size ≤ w107.heap.size := hB0
  clear kb hB0
  refine hK.out _ _ ?_ (fun hHeld => ?_)
  · (try dsimp only); exact ⟨((HR.out.1.below hB HR.out.1.lt).cell 0).trans rfl, ((HR.out.1.below hB HR.out.1.lt).cell 1).trans rfl, ((HR.out.1.below hB HR.out.1.lt).cell 2).trans rfl, ((HR.out.1.below hB HR.out.1.lt).cell 3).trans rfl⟩
  clear hK K hHeld
  try simp only [Act.put, List.setIfInBounds_toArray, List.set_cons_zero, List.set_cons_succ]
  refine wpAnyH_ready (rs := [9]) (by kernel_rfl) (by simp) ?_
  refine AllReadyH.cons (o := ⟨some 13, _, _, _, _, _⟩) rfl (fun K hK => ?_) AllReadyH.nil
  go_simp
  go_at_call 74
  refine (sub_any _ _ _ a d HI.out.1 HI.out.2.2.2 en0_0 en1_0 _ Z0 n0 n1).mono ?_
  rintro e w108 ⟨rfl, P0, kk⟩
  replace n0 := n0.kept en0_0 Z0 kk
  replace n1 := n1.kept en1_0 Z0 kk
  replace Z1 := kk.row Z1 (nmem1 hne.symm)
  have eP0_1 := hne
  replace hB := hB.trans (kk.below hB.size (mem1 hb0))
  clear kk Z0 hb0
  refine hK.out _ _ ?_ (fun hHeld => ?_)
  · (try dsimp only); exact ⟨((HR.out.1.below hB HR.out.1.lt).cell 0).trans rfl, ((HR.out.1.below hB HR.out.1.lt).cell 1).trans rfl, ((HR.out.1.below hB HR.out.1.lt).cell 2).trans rfl, ((HR.out.1.below hB HR.out.1.lt).cell 3).trans rfl⟩
  clear hK K hHeld
  try simp only [Act.put, List.setIfInBounds_toArray, List.set_cons_zero, List.set_cons_succ]
  refine wpAnyH_ready (rs := [14]) (by kernel_rfl) (by simp) ?_
  refine AllReadyH.cons (o := ⟨some 18, _, _, _, _, _⟩) rfl (fun K hK => ?_) AllReadyH.nil
  go_simp
  go_at_call 45
  refine (num_any b HI.out.2.1 _).mono ?_
  rintro e w109 ⟨qm0, hq, rfl, m0, kb⟩
  have em0_1 : qm0 ≠ wa.drew.heap.size := Nat.ne_of_gt (Nat.lt_of_lt_of_le (Row.lt Z1) hq)
  clear hq
  replace n0 := n0.below kb
  replace n1 := n1.below kb
  replace P0 := P0.below kb
  replace Z1 := Row.below Z1 kb (Row.lt Z1)
  replace hB := hB.trans (kb.mono hB.size)
  clear kb
  refine hK.out _ _ ?_ (fun hHeld => ?_)
  · (try dsimp only); exact ⟨((HR.out.1.below hB HR.out.1.lt).cell 0).trans rfl, ((HR.out.1.below hB HR.out.1.lt).cell 1).trans rfl, ((HR.out.1.below hB HR.out.1.lt).cell 2).trans rfl, ((HR.out.1.below hB HR.out.1.lt).cell 3).trans rfl⟩
  clear hK K hHeld
  try simp only [Act.put, List.setIfInBounds_toArray, List.set_cons_zero, List.set_cons_succ]
  refine wpAnyH_ready (rs := [18]) (by kernel_rfl) (by simp) ?_
  refine AllReadyH.cons (o := ⟨some 22, _, _, _, _, _⟩) rfl (fun K hK => ?_) AllReadyH.nil
  go_simp
  go_at_call 45
  refine (num_any c HI.out.2.2.1 _).mono ?_
  rintro e w110 ⟨qm1, hq, rfl, m1, kb⟩
  have em1_1 : qm1 ≠ wa.drew.heap.size := Nat.ne_of_gt (Nat.lt_of_lt_of_le (Row.lt Z1) hq)
  clear hq
  replace n0 := n0.below kb
  replace n1 := n1.below kb
  replace P0 := P0.below kb
  replace m0 := m0.below kb
  replace Z1 := Row.below Z1 kb (Row.lt Z1)
  replace hB := hB.trans (kb.mono hB.size)
  clear kb
  refine hK.out _ _ ?_ (fun hHeld => ?_)
  · (try dsimp only); exact ⟨((HR.out.1.below hB HR.out.1.lt).cell 0).trans rfl, ((HR.out.1.below hB HR.out.1.lt).cell 1).trans rfl, ((HR.out.1.below hB HR.out.1.lt).cell 2).trans rfl, ((HR.out.1.below hB HR.out.1.lt).cell 3).trans rfl⟩
  clear hK K hHeld
  try simp only [Act.put, List.setIfInBounds_toArray, List.set_cons_zero, List.set_cons_succ]
  refine wpAnyH_ready (rs := [19]) (by kernel_rfl) (by simp) ?_
  refine AllReadyH.cons (o := ⟨some 23, _, _, _, _, _⟩) rfl (fun K hK => ?_) AllReadyH.nil
  go_simp
  go_at_call 74
  refine (sub_any _ _ _ b c HI.out.2.1 HI.out.2.2.1 em0_1 em1_1 _ Z1 m0 m1).mono ?_
  rintro e w111 ⟨rfl, P1, kk⟩
  replace n0 := n0.kept en0_1 Z1 kk
  replace n1 := n1.kept en1_1 Z1 kk
  replace P0 := P0.kept eP0_1 Z1 kk
  replace m0 := m0.kept em0_1 Z1 kk
  replace m1 := m1.kept em1_1 Z1 kk
  replace hB := hB.trans (kk.below hB.size (mem1 hb1))
  clear kk Z1 hb1
  refine hK.out _ _ ?_ (fun hHeld => ?_)
  · (try dsimp only); exact ⟨((HR.out.1.below hB HR.out.1.lt).cell 0).trans rfl, ((HR.out.1.below hB HR.out.1.lt).cell 1).trans rfl, ((HR.out.1.below hB HR.out.1.lt).cell 2).trans rfl, ((HR.out.1.below hB HR.out.1.lt).cell 3).trans rfl⟩
  clear hK K hHeld
  try simp only [Act.put, List.setIfInBounds_toArray, List.set_cons_zero, List.set_cons_succ]
  refine wpAnyH_ready (rs := [20]) (by kernel_rfl) (by simp) ?_
  refine AllReadyH.cons (o := ⟨some 24, _, _, _, _, _⟩) rfl (fun K hK => ?_) AllReadyH.nil
  go_simp
  go_at_call 43
  refine (FIT.out _ _ _ P0 P1).mono ?_
  rintro e w112 ⟨rfl, kb⟩
  replace hB := hB.trans (kb.mono hB.size)
  clear kb
  refine hK.out _ _ ?_ (fun hHeld => ?_)
  · (try dsimp only); exact ⟨((HR.out.1.below hB HR.out.1.lt).cell 0).trans rfl, ((HR.out.1.below hB HR.out.1.lt).cell 1).trans rfl, ((HR.out.1.below hB HR.out.1.lt).cell 2).trans rfl, ((HR.out.1.below hB HR.out.1.lt).cell 3).trans rfl⟩
  clear hK K
  try simp only [Act.put, List.setIfInBounds_toArray, List.set_cons_zero, List.set_cons_succ]
  refine tkw 21 25 ?_
  refine tkw 22 26 ?_
  have hr2 := HR.out.2.1.below hB HR.out.2.1.lt
  have hr1 := HR.out.1.below hB HR.out.1.lt
  have hb2 := HR.out.2.2.trans (hB.mono HR.out.2.2.size)
  obtain ⟨⟨q0, q1, q2, q3⟩, f0, f1, f2, f3⟩ := spc_row hr2
  refine wpAnyH_ready (rs := [23]) (by kernel_rfl) (by simp) ?_
  refine AllReadyH.cons (o := ⟨none, _, _, _, _, _⟩) rfl (fun K hK => ?_) AllReadyH.nil
  go_simp
  refine hK.out _ _ ?_ (fun hHeld => ?_)
  · have ho := (((hr1.other ⟨w.heap.size + 1, 0, none⟩ (.int .i64 A) (by simp)).other ⟨w.heap.size + 1, 1, none⟩ (.int .i64 B) (by simp)).other ⟨w.heap.size + 1, 2, none⟩ (.bool P) (by simp)).other ⟨w.heap.size + 1, 3, none⟩ (.bool Q) (by simp)
    (try dsimp only)
    exact ⟨(ho.cell 0).trans rfl, (ho.cell 1).trans rfl, (ho.cell 2).trans rfl, (ho.cell 3).trans rfl⟩
  clear hK K
  try simp only [Act.put, List.setIfInBounds_toArray, List.set_cons_zero, List.set_cons_succ]
  refine tkw 24 3 ?_
  refine wpAnyH_done (by kernel_rfl) ?_ _
  clear hHeld
  obtain ⟨⟨z0, z1, z2, z3⟩, _⟩ := spc_row (spc_put hr2 A B P Q)
  have HBZ := Lib.hid (below_set4 hb2 (Nat.le_succ w.heap.size) (.int .i64 A) (.int .i64 B) (.bool P) (.bool Q))
  have Z := Lib.hid (And.intro z0 (And.intro z1 (And.intro z2 z3)))
  clear z0 z1 z2 z3 hr1 hr2 hb2
  go_wp2
  obtain ⟨z0, z1, z2, z3⟩ := Z.out
  exact bodyPost_ret (v := .tuple #[.agg #[.int .i64 A, .int .i64 B, .bool P, .bool Q], .bool R]) (by simp [results, Tryz.results30, go_sem, z0, z1, z2, z3]) rfl ⟨rfl, HBZ.out⟩
end Go.Proofs.YtaaidjphacofgaaGreatDoor
