/-
  math/big: Add and Sub of any two numbers of 64 bits.
-/
import Derived.Test.YtaaidjphacofgaaGreatDoorBigJ
namespace Go.Proofs.YtaaidjphacofgaaGreatDoor
open Go.RowKit
set_option linter.unusedVariables false
set_option linter.unusedSimpArgs false

theorem nmemK {a b : Nat} (h : a ≠ b) : a ∉ [b] := by simpa using h
theorem Mag.put {w : World} {v : Value} {m : Int} (h : Mag w v m) {z : Nat} {cs : List Value} (hz : Row w z 66 cs) (i : Nat) (u : Value) : Mag (w.setCell ⟨z, i, none⟩ u) v m := by
  have hg : ∀ g ds, Row w g 96 ds → Row (w.setCell ⟨z, i, none⟩ u) g 96 ds := fun g ds hr => hr.other _ _ (by
    rintro rfl
    unfold Row at hr hz
    rw [hr] at hz
    injection hz with h2
    injection h2 with _ h3
    exact absurd h3 (by decide))
  rcases h with h | ⟨k1, k2, g, cs, k3, k4, k5⟩ | ⟨k1, k2, g, cs, k3, k4, k5⟩
  · exact .inl h
  · exact .inr (.inl ⟨k1, k2, g, cs, k3, k4, hg _ _ k5⟩)
  · exact .inr (.inr ⟨k1, k2, g, cs, k3, k4, hg _ _ k5⟩)
theorem mag_heap {w w' : World} {v : Value} {m : Int} (h : w'.heap = w.heap) (hm : Mag w v m) : Mag w' v m := by
  unfold Mag Row at hm ⊢
  rw [h]
  exact hm
set_option maxRecDepth 100000 in
set_option maxHeartbeats 3200000 in
theorem add_same (z a b : Nat) (x y r : Int) (nx ny : Bool) (hnx : decide (x < 0) = nx) (hny : decide (y < 0) = ny) (hc : (nx == ny) = true) (hx : mag x < 18446744073709551616) (hy : mag y < 18446744073709551616) (hr : mag r = mag x + mag y)
    (hsg : ∀ n : Nat, (0 < n ↔ 0 < mag x + mag y) → (decide (0 < n) && nx) = decide (r < 0)) (hza : a ≠ z) (hzb : b ≠ z) (w : World) (hz : ZB w z) (ha : BN w a x) (hb : BN w b y) :
    Calls Tryz.prog 73 #[.pointer (some ⟨z, 0, none⟩), .pointer (some ⟨a, 0, none⟩), .pointer (some ⟨b, 0, none⟩)] w fun e w' => e = .returned (.pointer (some ⟨z, 0, none⟩)) ∧ BN w' z r ∧ Kept [z] w w' := by
  obtain ⟨a1, n1, c1, har, ham⟩ := ha
  obtain ⟨a2, n2, c2, hbr, hbm⟩ := hb
  rw [hnx] at har
  rw [hny] at hbr
  have a0 : w.cell? ⟨a, 0, none⟩ = some (.bool nx) := (har.cell 0).trans rfl
  have b0 : w.cell? ⟨b, 0, none⟩ = some (.bool ny) := (hbr.cell 0).trans rfl
  have ac : w.cell? ⟨a, 1, none⟩ = some (.slice a1 n1 c1) := (har.cell 1).trans rfl
  have bc : w.cell? ⟨b, 1, none⟩ = some (.slice a2 n2 c2) := (hbr.cell 1).trans rfl
  have HX0 := Lib.hid (And.intro ac (And.intro bc (And.intro har.lt (And.intro hbr.lt (And.intro hza (And.intro hzb (And.intro hz (And.intro ham hbm))))))))
  clear har hbr ham hbm hz hza hzb hnx hny
  go_enter Tryz.func73, Tryz.ntmps73
  go_wp2
  go_quiet (fail)
  have HX := Lib.hid (show (w.drewN nq).cell? ⟨a, 1, none⟩ = some (.slice a1 n1 c1) ∧ (w.drewN nq).cell? ⟨b, 1, none⟩ = some (.slice a2 n2 c2) ∧ a < (w.drewN nq).heap.size ∧ b < (w.drewN nq).heap.size ∧ a ≠ z ∧ b ≠ z ∧ ZB (w.drewN nq) z ∧ Mag (w.drewN nq) (.slice a1 n1 c1) (mag x) ∧ Mag (w.drewN nq) (.slice a2 n2 c2) (mag y) from HX0.out)
  have HW : Hid (Kept [z] w (w.drewN nq)) := Lib.hid ((Kept.refl _ _).drewN nq)
  clear HX0 a0 b0 ac bc
  generalize World.drewN _ _ = wa at HX HW ⊢
  go_upto_region 3 with fail
  have hKW : Kept [z] wa wa.drew := (Kept.refl _ _).drew
  refine wp_region_held_drew (S := fun w' => w'.cell? ⟨a, 1, none⟩ = some (.slice a1 n1 c1) ∧ w'.cell? ⟨b, 1, none⟩ = some (.slice a2 n2 c2)) (by kernel_rfl) ?_ (fun hHeld => ?_)
  · (try dsimp only); exact ⟨(World.cell?_of_block (a := ⟨a, 1, none⟩) (hKW.block a HX.out.2.2.1 (nmemK HX.out.2.2.2.2.1))).trans HX.out.1, (World.cell?_of_block (a := ⟨b, 1, none⟩) (hKW.block b HX.out.2.2.2.1 (nmemK HX.out.2.2.2.2.2.1))).trans HX.out.2.1⟩
  refine tkw 0 21 ?_
  refine tkw 1 22 ?_
  refine tkw 2 23 ?_
  refine tkw 3 24 ?_
  refine tkw 5 26 ?_
  refine tkw 6 27 ?_
  refine tkw 7 28 ?_
  refine tkw 8 29 ?_
  refine tkw 9 30 ?_
  refine tkw 10 31 ?_
  refine tkw 11 32 ?_
  refine tkw 12 33 ?_
  have zc := (HX.out.2.2.2.2.2.2.1.drew.cell 1).trans rfl
  refine wpAnyH_ready (rs := [4]) (by kernel_rfl) (by simp) ?_
  refine AllReadyH.cons (o := ⟨some 25, _, _, _, _, _⟩) rfl (fun K hK => ?_) AllReadyH.nil
  go_simp
  refine hK.out _ _ ?_ (fun hHeld => ?_)
  · (try dsimp only); exact ⟨(World.cell?_of_block (a := ⟨a, 1, none⟩) (hKW.block a HX.out.2.2.1 (nmemK HX.out.2.2.2.2.1))).trans HX.out.1, (World.cell?_of_block (a := ⟨b, 1, none⟩) (hKW.block b HX.out.2.2.2.1 (nmemK HX.out.2.2.2.2.2.1))).trans HX.out.2.1⟩
  clear hK K zc
  try simp only [Act.put, List.setIfInBounds_toArray, List.set_cons_zero, List.set_cons_succ]
  refine wpAnyH_ready (rs := [13]) (by kernel_rfl) (by simp) ?_
  refine AllReadyH.cons (o := ⟨some 34, _, _, _, _, _⟩) rfl (fun K hK => ?_) AllReadyH.nil
  go_simp
  go_at_call 95
  refine Calls.mono (nataddM _ _ _ _ hx hy wa.drew HX.out.2.2.2.2.2.2.2.1 HX.out.2.2.2.2.2.2.2.2) ?_
  rintro e w2 ⟨ar, nr, cr, rfl, hn, hm, hB⟩
  have hKW : Kept [z] wa w2 := ⟨hB.os, hB.tape, hB.output, hB.size, fun i hi _ => hB.block i hi⟩
  refine hK.out _ _ ?_ (fun hHeld => ?_)
  · (try dsimp only); exact ⟨(World.cell?_of_block (a := ⟨a, 1, none⟩) (hKW.block a HX.out.2.2.1 (nmemK HX.out.2.2.2.2.1))).trans HX.out.1, (World.cell?_of_block (a := ⟨b, 1, none⟩) (hKW.block b HX.out.2.2.2.1 (nmemK HX.out.2.2.2.2.2.1))).trans HX.out.2.1⟩
  clear hK K
  try simp only [Act.put, List.setIfInBounds_toArray, List.set_cons_zero, List.set_cons_succ]
  refine tkw 14 35 ?_
  refine tkw 15 36 ?_
  have hzr : Row w2 z 66 [.bool false, .slice none 0 0] := Row.below (w := wa.drew) HX.out.2.2.2.2.2.2.1.drew hB (Row.lt HX.out.2.2.2.2.2.2.1)
  have zc := (hzr.cell 1).trans rfl
  have zf := hzr.free 1
  refine wpAnyH_ready (rs := [16]) (by kernel_rfl) (by simp) ?_
  refine AllReadyH.cons (o := ⟨none, _, _, _, _, _⟩) rfl (fun K hK => ?_) AllReadyH.nil
  go_simp
  have hKW : Kept [z] wa (w2.setCell ⟨z, 1, none⟩ (.slice ar nr cr)) := hKW.trans (setCell_kept _ _ _ _)
  refine hK.out _ _ ?_ (fun hHeld => ?_)
  · (try dsimp only); exact ⟨(World.cell?_of_block (a := ⟨a, 1, none⟩) (hKW.block a HX.out.2.2.1 (nmemK HX.out.2.2.2.2.1))).trans HX.out.1, (World.cell?_of_block (a := ⟨b, 1, none⟩) (hKW.block b HX.out.2.2.2.1 (nmemK HX.out.2.2.2.2.2.1))).trans HX.out.2.1⟩
  clear hK K
  try simp only [Act.put, List.setIfInBounds_toArray, List.set_cons_zero, List.set_cons_succ]
  refine wpAnyH_done (by kernel_rfl) ?_ _
  have hz3 : Row (w2.setCell ⟨z, 1, none⟩ (.slice ar nr cr)) z 66 [.bool false, .slice ar nr cr] := hzr.put 1 (.slice ar nr cr)
  have hm3 := hm.put hzr 1 (.slice ar nr cr)
  clear hHeld hB hm zc zf
  generalize World.setCell _ _ _ = w3 at hz3 hm3 hKW ⊢
  have q1 : w3.cell? ⟨z, 1, none⟩ = some (.slice ar nr cr) := (hz3.cell 1).trans rfl
  have q0 : w3.cell? ⟨z, 0, none⟩ = some (.bool false) := (hz3.cell 0).trans rfl
  have qf := hz3.free 0
  have hsg2 := hsg nr hn
  obtain ⟨d, hd⟩ : ∃ d, decide (0 < nr) = d := ⟨_, rfl⟩
  rw [hd] at hsg2
  have hz4 := hz3.put 0 (.bool (decide (r < 0)))
  have hm4 := hm3.put hz3 0 (.bool (decide (r < 0)))
  have hk4 := hKW.trans (setCell_kept w3 z 0 (.bool (decide (r < 0))))
  rw [← hsg2] at hz4 hm4 hk4
  have HR := Lib.hid (And.intro hz4 (And.intro hm4 hk4))
  have HSG := Lib.hid hsg2
  clear hz3 hm3 hKW hz4 hm4 hk4 hsg2 hzr hsg hn
  cases d
  all_goals cases nx
  all_goals
    go_wp2
    go_ret
    exact ⟨rfl, ⟨ar, nr, cr, by rw [← HSG.out]; exact HR.out.1, by rw [hr]; exact HR.out.2.1⟩, HW.out.trans HR.out.2.2⟩
set_option maxRecDepth 100000 in
set_option maxHeartbeats 3200000 in
theorem add_ge (z a b : Nat) (x y r : Int) (nx ny : Bool) (hnx : decide (x < 0) = nx) (hny : decide (y < 0) = ny) (hc : (nx == ny) = false) (hx : mag x < 18446744073709551616) (hy : mag y < 18446744073709551616) (hle : mag y ≤ mag x) (hr : mag r = mag x - mag y)
    (hsg : ∀ n : Nat, (0 < n ↔ 0 < mag x - mag y) → (decide (0 < n) && nx) = decide (r < 0)) (hza : a ≠ z) (hzb : b ≠ z) (w : World) (hz : ZB w z) (ha : BN w a x) (hb : BN w b y) :
    Calls Tryz.prog 73 #[.pointer (some ⟨z, 0, none⟩), .pointer (some ⟨a, 0, none⟩), .pointer (some ⟨b, 0, none⟩)] w fun e w' => e = .returned (.pointer (some ⟨z, 0, none⟩)) ∧ BN w' z r ∧ Kept [z] w w' := by
  obtain ⟨a1, n1, c1, har, ham⟩ := ha
  obtain ⟨a2, n2, c2, hbr, hbm⟩ := hb
  rw [hnx] at har
  rw [hny] at hbr
  have a0 : w.cell? ⟨a, 0, none⟩ = some (.bool nx) := (har.cell 0).trans rfl
  have b0 : w.cell? ⟨b, 0, none⟩ = some (.bool ny) := (hbr.cell 0).trans rfl
  have ac : w.cell? ⟨a, 1, none⟩ = some (.slice a1 n1 c1) := (har.cell 1).trans rfl
  have bc : w.cell? ⟨b, 1, none⟩ = some (.slice a2 n2 c2) := (hbr.cell 1).trans rfl
  have HX0 := Lib.hid (And.intro ac (And.intro bc (And.intro har.lt (And.intro hbr.lt (And.intro hza (And.intro hzb (And.intro hz (And.intro ham hbm))))))))
  clear har hbr ham hbm hz hza hzb hnx hny
  go_enter Tryz.func73, Tryz.ntmps73
  go_wp2
  go_quiet (fail)
  have HX := Lib.hid (show (w.drewN nq).cell? ⟨a, 1, none⟩ = some (.slice a1 n1 c1) ∧ (w.drewN nq).cell? ⟨b, 1, none⟩ = some (.slice a2 n2 c2) ∧ a < (w.drewN nq).heap.size ∧ b < (w.drewN nq).heap.size ∧ a ≠ z ∧ b ≠ z ∧ ZB (w.drewN nq) z ∧ Mag (w.drewN nq) (.slice a1 n1 c1) (mag x) ∧ Mag (w.drewN nq) (.slice a2 n2 c2) (mag y) from HX0.out)
  have HW : Hid (Kept [z] w (w.drewN nq)) := Lib.hid ((Kept.refl _ _).drewN nq)
  clear HX0 a0 b0 ac bc
  generalize World.drewN _ _ = wq at HX HW ⊢
  have ac := HX.out.1
  have bc := HX.out.2.1
  have hcm : ∀ w', w'.heap = wq.heap → Calls Tryz.prog 96 #[.slice a1 n1 c1, .slice a2 n2 c2] w' fun e w2 => e = .returned (.int .i64 (cmpm (mag x) (mag y))) ∧ ∃ k, w2 = w'.drewN k := fun w' hw => natcmpM _ _ _ _ hy w' (mag_heap hw HX.out.2.2.2.2.2.2.2.1) (mag_heap hw HX.out.2.2.2.2.2.2.2.2)
  have HCM := Lib.hid hcm
  clear hcm
  have hge : decide (0 ≤ cmpm (mag x) (mag y)) = true := by unfold cmpm; simp; split <;> (try split) <;> omega
  generalize cmpm (mag x) (mag y) = cm at hge HCM
  go_wp2
  go_quiet ((go_at_call 96; refine Calls.mono (HCM.out (wq.drewN _) rfl) ?_; rintro e w' ⟨rfl, k, rfl⟩; exact ⟨rfl, _, by first | rfl | rw [World.drewN_drewN]⟩))
  have HX := Lib.hid (show (wq.drewN nq).cell? ⟨a, 1, none⟩ = some (.slice a1 n1 c1) ∧ (wq.drewN nq).cell? ⟨b, 1, none⟩ = some (.slice a2 n2 c2) ∧ a < (wq.drewN nq).heap.size ∧ b < (wq.drewN nq).heap.size ∧ a ≠ z ∧ b ≠ z ∧ ZB (wq.drewN nq) z ∧ Mag (wq.drewN nq) (.slice a1 n1 c1) (mag x) ∧ Mag (wq.drewN nq) (.slice a2 n2 c2) (mag y) from HX.out)
  have HW : Hid (Kept [z] w (wq.drewN nq)) := Lib.hid (HW.out.drewN nq)
  clear ac bc
  generalize World.drewN _ _ = wa at HX HW ⊢
  go_upto_region 5 with fail
  have hKW : Kept [z] wa wa.drew := (Kept.refl _ _).drew
  refine wp_region_held_drew (S := fun w' => w'.cell? ⟨a, 1, none⟩ = some (.slice a1 n1 c1) ∧ w'.cell? ⟨b, 1, none⟩ = some (.slice a2 n2 c2)) (by kernel_rfl) ?_ (fun hHeld => ?_)
  · (try dsimp only); exact ⟨(World.cell?_of_block (a := ⟨a, 1, none⟩) (hKW.block a HX.out.2.2.1 (nmemK HX.out.2.2.2.2.1))).trans HX.out.1, (World.cell?_of_block (a := ⟨b, 1, none⟩) (hKW.block b HX.out.2.2.2.1 (nmemK HX.out.2.2.2.2.2.1))).trans HX.out.2.1⟩
  refine tkw 0 47 ?_
  refine tkw 1 48 ?_
  refine tkw 2 49 ?_
  refine tkw 3 50 ?_
  refine tkw 5 52 ?_
  refine tkw 6 53 ?_
  refine tkw 7 54 ?_
  refine tkw 8 55 ?_
  refine tkw 9 56 ?_
  refine tkw 10 57 ?_
  refine tkw 11 58 ?_
  refine tkw 12 59 ?_
  have zc := (HX.out.2.2.2.2.2.2.1.drew.cell 1).trans rfl
  refine wpAnyH_ready (rs := [4]) (by kernel_rfl) (by simp) ?_
  refine AllReadyH.cons (o := ⟨some 51, _, _, _, _, _⟩) rfl (fun K hK => ?_) AllReadyH.nil
  go_simp
  refine hK.out _ _ ?_ (fun hHeld => ?_)
  · (try dsimp only); exact ⟨(World.cell?_of_block (a := ⟨a, 1, none⟩) (hKW.block a HX.out.2.2.1 (nmemK HX.out.2.2.2.2.1))).trans HX.out.1, (World.cell?_of_block (a := ⟨b, 1, none⟩) (hKW.block b HX.out.2.2.2.1 (nmemK HX.out.2.2.2.2.2.1))).trans HX.out.2.1⟩
  clear hK K zc
  try simp only [Act.put, List.setIfInBounds_toArray, List.set_cons_zero, List.set_cons_succ]
  refine wpAnyH_ready (rs := [13]) (by kernel_rfl) (by simp) ?_
  refine AllReadyH.cons (o := ⟨some 60, _, _, _, _, _⟩) rfl (fun K hK => ?_) AllReadyH.nil
  go_simp
  go_at_call 97
  refine Calls.mono (natsubM _ _ _ _ hx hle wa.drew HX.out.2.2.2.2.2.2.2.1 HX.out.2.2.2.2.2.2.2.2) ?_
  rintro e w2 ⟨ar, nr, cr, rfl, hn, hm, hB⟩
  have hKW : Kept [z] wa w2 := ⟨hB.os, hB.tape, hB.output, hB.size, fun i hi _ => hB.block i hi⟩
  refine hK.out _ _ ?_ (fun hHeld => ?_)
  · (try dsimp only); exact ⟨(World.cell?_of_block (a := ⟨a, 1, none⟩) (hKW.block a HX.out.2.2.1 (nmemK HX.out.2.2.2.2.1))).trans HX.out.1, (World.cell?_of_block (a := ⟨b, 1, none⟩) (hKW.block b HX.out.2.2.2.1 (nmemK HX.out.2.2.2.2.2.1))).trans HX.out.2.1⟩
  clear hK K
  try simp only [Act.put, List.setIfInBounds_toArray, List.set_cons_zero, List.set_cons_succ]
  refine tkw 14 61 ?_
  refine tkw 15 62 ?_
  have hzr : Row w2 z 66 [.bool false, .slice none 0 0] := Row.below (w := wa.drew) HX.out.2.2.2.2.2.2.1.drew hB (Row.lt HX.out.2.2.2.2.2.2.1)
  have zc := (hzr.cell 1).trans rfl
  have zf := hzr.free 1
  refine wpAnyH_ready (rs := [16]) (by kernel_rfl) (by simp) ?_
  refine AllReadyH.cons (o := ⟨none, _, _, _, _, _⟩) rfl (fun K hK => ?_) AllReadyH.nil
  go_simp
  have hKW : Kept [z] wa (w2.setCell ⟨z, 1, none⟩ (.slice ar nr cr)) := hKW.trans (setCell_kept _ _ _ _)
  refine hK.out _ _ ?_ (fun hHeld => ?_)
  · (try dsimp only); exact ⟨(World.cell?_of_block (a := ⟨a, 1, none⟩) (hKW.block a HX.out.2.2.1 (nmemK HX.out.2.2.2.2.1))).trans HX.out.1, (World.cell?_of_block (a := ⟨b, 1, none⟩) (hKW.block b HX.out.2.2.2.1 (nmemK HX.out.2.2.2.2.2.1))).trans HX.out.2.1⟩
  clear hK K
  try simp only [Act.put, List.setIfInBounds_toArray, List.set_cons_zero, List.set_cons_succ]
  refine wpAnyH_done (by kernel_rfl) ?_ _
  have hz3 : Row (w2.setCell ⟨z, 1, none⟩ (.slice ar nr cr)) z 66 [.bool false, .slice ar nr cr] := hzr.put 1 (.slice ar nr cr)
  have hm3 := hm.put hzr 1 (.slice ar nr cr)
  clear hHeld hB hm zc zf
  generalize World.setCell _ _ _ = w3 at hz3 hm3 hKW ⊢
  have q1 : w3.cell? ⟨z, 1, none⟩ = some (.slice ar nr cr) := (hz3.cell 1).trans rfl
  have q0 : w3.cell? ⟨z, 0, none⟩ = some (.bool false) := (hz3.cell 0).trans rfl
  have qf := hz3.free 0
  have hsg2 := hsg nr hn
  obtain ⟨d, hd⟩ : ∃ d, decide (0 < nr) = d := ⟨_, rfl⟩
  rw [hd] at hsg2
  have hz4 := hz3.put 0 (.bool (decide (r < 0)))
  have hm4 := hm3.put hz3 0 (.bool (decide (r < 0)))
  have hk4 := hKW.trans (setCell_kept w3 z 0 (.bool (decide (r < 0))))
  rw [← hsg2] at hz4 hm4 hk4
  have HR := Lib.hid (And.intro hz4 (And.intro hm4 hk4))
  have HSG := Lib.hid hsg2
  clear hz3 hm3 hKW hz4 hm4 hk4 hsg2 hzr hsg hn
  cases d
  all_goals cases nx
  all_goals
    go_wp2
    go_ret
    exact ⟨rfl, ⟨ar, nr, cr, by rw [← HSG.out]; exact HR.out.1, by rw [hr]; exact HR.out.2.1⟩, HW.out.trans HR.out.2.2⟩
set_option maxRecDepth 100000 in
set_option maxHeartbeats 3200000 in
theorem add_lt (z a b : Nat) (x y r : Int) (nx ny : Bool) (hnx : decide (x < 0) = nx) (hny : decide (y < 0) = ny) (hc : (nx == ny) = false) (hx : mag x < 18446744073709551616) (hy : mag y < 18446744073709551616) (hlt : mag x < mag y) (hr : mag r = mag y - mag x)
    (hsg : ∀ n : Nat, (0 < n ↔ 0 < mag y - mag x) → (decide (0 < n) && !nx) = decide (r < 0)) (hza : a ≠ z) (hzb : b ≠ z) (w : World) (hz : ZB w z) (ha : BN w a x) (hb : BN w b y) :
    Calls Tryz.prog 73 #[.pointer (some ⟨z, 0, none⟩), .pointer (some ⟨a, 0, none⟩), .pointer (some ⟨b, 0, none⟩)] w fun e w' => e = .returned (.pointer (some ⟨z, 0, none⟩)) ∧ BN w' z r ∧ Kept [z] w w' := by
  obtain ⟨a1, n1, c1, har, ham⟩ := ha
  obtain ⟨a2, n2, c2, hbr, hbm⟩ := hb
  rw [hnx] at har
  rw [hny] at hbr
  have a0 : w.cell? ⟨a, 0, none⟩ = some (.bool nx) := (har.cell 0).trans rfl
  have b0 : w.cell? ⟨b, 0, none⟩ = some (.bool ny) := (hbr.cell 0).trans rfl
  have ac : w.cell? ⟨a, 1, none⟩ = some (.slice a1 n1 c1) := (har.cell 1).trans rfl
  have bc : w.cell? ⟨b, 1, none⟩ = some (.slice a2 n2 c2) := (hbr.cell 1).trans rfl
  have HX0 := Lib.hid (And.intro ac (And.intro bc (And.intro har.lt (And.intro hbr.lt (And.intro hza (And.intro hzb (And.intro hz (And.intro ham hbm))))))))
  clear har hbr ham hbm hz hza hzb hnx hny
  go_enter Tryz.func73, Tryz.ntmps73
  go_wp2
  go_quiet (fail)
  have HX := Lib.hid (show (w.drewN nq).cell? ⟨a, 1, none⟩ = some (.slice a1 n1 c1) ∧ (w.drewN nq).cell? ⟨b, 1, none⟩ = some (.slice a2 n2 c2) ∧ a < (w.drewN nq).heap.size ∧ b < (w.drewN nq).heap.size ∧ a ≠ z ∧ b ≠ z ∧ ZB (w.drewN nq) z ∧ Mag (w.drewN nq) (.slice a1 n1 c1) (mag x) ∧ Mag (w.drewN nq) (.slice a2 n2 c2) (mag y) from HX0.out)
  have HW : Hid (Kept [z] w (w.drewN nq)) := Lib.hid ((Kept.refl _ _).drewN nq)
  clear HX0 a0 b0 ac bc
  generalize World.drewN _ _ = wq at HX HW ⊢
  have ac := HX.out.1
  have bc := HX.out.2.1
  have hcm : ∀ w', w'.heap = wq.heap → Calls Tryz.prog 96 #[.slice a1 n1 c1, .slice a2 n2 c2] w' fun e w2 => e = .returned (.int .i64 (cmpm (mag x) (mag y))) ∧ ∃ k, w2 = w'.drewN k := fun w' hw => natcmpM _ _ _ _ hy w' (mag_heap hw HX.out.2.2.2.2.2.2.2.1) (mag_heap hw HX.out.2.2.2.2.2.2.2.2)
  have HCM := Lib.hid hcm
  clear hcm
  have hge : decide (0 ≤ cmpm (mag x) (mag y)) = false := by unfold cmpm; rw [if_pos hlt]; decide
  generalize cmpm (mag x) (mag y) = cm at hge HCM
  go_wp2
  go_quiet ((go_at_call 96; refine Calls.mono (HCM.out (wq.drewN _) rfl) ?_; rintro e w' ⟨rfl, k, rfl⟩; exact ⟨rfl, _, by first | rfl | rw [World.drewN_drewN]⟩))
  have HX := Lib.hid (show (wq.drewN nq).cell? ⟨a, 1, none⟩ = some (.slice a1 n1 c1) ∧ (wq.drewN nq).cell? ⟨b, 1, none⟩ = some (.slice a2 n2 c2) ∧ a < (wq.drewN nq).heap.size ∧ b < (wq.drewN nq).heap.size ∧ a ≠ z ∧ b ≠ z ∧ ZB (wq.drewN nq) z ∧ Mag (wq.drewN nq) (.slice a1 n1 c1) (mag x) ∧ Mag (wq.drewN nq) (.slice a2 n2 c2) (mag y) from HX.out)
  have HW : Hid (Kept [z] w (wq.drewN nq)) := Lib.hid (HW.out.drewN nq)
  clear ac bc
  generalize World.drewN _ _ = wa at HX HW ⊢
  go_upto_region 7 with fail
  have hKW : Kept [z] wa wa.drew := (Kept.refl _ _).drew
  refine wp_region_held_drew (S := fun w' => w'.cell? ⟨a, 1, none⟩ = some (.slice a1 n1 c1) ∧ w'.cell? ⟨b, 1, none⟩ = some (.slice a2 n2 c2)) (by kernel_rfl) ?_ (fun hHeld => ?_)
  · (try dsimp only); exact ⟨(World.cell?_of_block (a := ⟨a, 1, none⟩) (hKW.block a HX.out.2.2.1 (nmemK HX.out.2.2.2.2.1))).trans HX.out.1, (World.cell?_of_block (a := ⟨b, 1, none⟩) (hKW.block b HX.out.2.2.2.1 (nmemK HX.out.2.2.2.2.2.1))).trans HX.out.2.1⟩
  refine tkw 0 65 ?_
  refine tkw 1 66 ?_
  refine tkw 2 67 ?_
  refine tkw 3 68 ?_
  refine tkw 5 70 ?_
  refine tkw 6 71 ?_
  refine tkw 7 72 ?_
  refine tkw 8 73 ?_
  refine tkw 9 74 ?_
  refine tkw 10 75 ?_
  refine tkw 11 76 ?_
  refine tkw 12 77 ?_
  have zc := (HX.out.2.2.2.2.2.2.1.drew.cell 1).trans rfl
  refine wpAnyH_ready (rs := [4]) (by kernel_rfl) (by simp) ?_
  refine AllReadyH.cons (o := ⟨some 69, _, _, _, _, _⟩) rfl (fun K hK => ?_) AllReadyH.nil
  go_simp
  refine hK.out _ _ ?_ (fun hHeld => ?_)
  · (try dsimp only); exact ⟨(World.cell?_of_block (a := ⟨a, 1, none⟩) (hKW.block a HX.out.2.2.1 (nmemK HX.out.2.2.2.2.1))).trans HX.out.1, (World.cell?_of_block (a := ⟨b, 1, none⟩) (hKW.block b HX.out.2.2.2.1 (nmemK HX.out.2.2.2.2.2.1))).trans HX.out.2.1⟩
  clear hK K zc
  try simp only [Act.put, List.setIfInBounds_toArray, List.set_cons_zero, List.set_cons_succ]
  refine wpAnyH_ready (rs := [13]) (by kernel_rfl) (by simp) ?_
  refine AllReadyH.cons (o := ⟨some 78, _, _, _, _, _⟩) rfl (fun K hK => ?_) AllReadyH.nil
  go_simp
  go_at_call 97
  refine Calls.mono (natsubM _ _ _ _ hy (Int.le_of_lt hlt) wa.drew HX.out.2.2.2.2.2.2.2.2 HX.out.2.2.2.2.2.2.2.1) ?_
  rintro e w2 ⟨ar, nr, cr, rfl, hn, hm, hB⟩
  have hKW : Kept [z] wa w2 := ⟨hB.os, hB.tape, hB.output, hB.size, fun i hi _ => hB.block i hi⟩
  refine hK.out _ _ ?_ (fun hHeld => ?_)
  · (try dsimp only); exact ⟨(World.cell?_of_block (a := ⟨a, 1, none⟩) (hKW.block a HX.out.2.2.1 (nmemK HX.out.2.2.2.2.1))).trans HX.out.1, (World.cell?_of_block (a := ⟨b, 1, none⟩) (hKW.block b HX.out.2.2.2.1 (nmemK HX.out.2.2.2.2.2.1))).trans HX.out.2.1⟩
  clear hK K
  try simp only [Act.put, List.setIfInBounds_toArray, List.set_cons_zero, List.set_cons_succ]
  refine tkw 14 79 ?_
  refine tkw 15 80 ?_
  have hzr : Row w2 z 66 [.bool false, .slice none 0 0] := Row.below (w := wa.drew) HX.out.2.2.2.2.2.2.1.drew hB (Row.lt HX.out.2.2.2.2.2.2.1)
  have zc := (hzr.cell 1).trans rfl
  have zf := hzr.free 1
  refine wpAnyH_ready (rs := [16]) (by kernel_rfl) (by simp) ?_
  refine AllReadyH.cons (o := ⟨none, _, _, _, _, _⟩) rfl (fun K hK => ?_) AllReadyH.nil
  go_simp
  have hKW : Kept [z] wa (w2.setCell ⟨z, 1, none⟩ (.slice ar nr cr)) := hKW.trans (setCell_kept _ _ _ _)
  refine hK.out _ _ ?_ (fun hHeld => ?_)
  · (try dsimp only); exact ⟨(World.cell?_of_block (a := ⟨a, 1, none⟩) (hKW.block a HX.out.2.2.1 (nmemK HX.out.2.2.2.2.1))).trans HX.out.1, (World.cell?_of_block (a := ⟨b, 1, none⟩) (hKW.block b HX.out.2.2.2.1 (nmemK HX.out.2.2.2.2.2.1))).trans HX.out.2.1⟩
  clear hK K
  try simp only [Act.put, List.setIfInBounds_toArray, List.set_cons_zero, List.set_cons_succ]
  refine wpAnyH_done (by kernel_rfl) ?_ _
  have hz3 : Row (w2.setCell ⟨z, 1, none⟩ (.slice ar nr cr)) z 66 [.bool false, .slice ar nr cr] := hzr.put 1 (.slice ar nr cr)
  have hm3 := hm.put hzr 1 (.slice ar nr cr)
  clear hHeld hB hm zc zf
  generalize World.setCell _ _ _ = w3 at hz3 hm3 hKW ⊢
  have q1 : w3.cell? ⟨z, 1, none⟩ = some (.slice ar nr cr) := (hz3.cell 1).trans rfl
  have q0 : w3.cell? ⟨z, 0, none⟩ = some (.bool false) := (hz3.cell 0).trans rfl
  have qf := hz3.free 0
  have hsg2 := hsg nr hn
  obtain ⟨d, hd⟩ : ∃ d, decide (0 < nr) = d := ⟨_, rfl⟩
  rw [hd] at hsg2
  have hz4 := hz3.put 0 (.bool (decide (r < 0)))
  have hm4 := hm3.put hz3 0 (.bool (decide (r < 0)))
  have hk4 := hKW.trans (setCell_kept w3 z 0 (.bool (decide (r < 0))))
  rw [← hsg2] at hz4 hm4 hk4
  have HR := Lib.hid (And.intro hz4 (And.intro hm4 hk4))
  have HSG := Lib.hid hsg2
  clear hz3 hm3 hKW hz4 hm4 hk4 hsg2 hzr hsg hn
  cases d
  all_goals cases nx
  all_goals
    go_wp2
    go_ret
    exact ⟨rfl, ⟨ar, nr, cr, by rw [← HSG.out]; exact HR.out.1, by rw [hr]; exact HR.out.2.1⟩, HW.out.trans HR.out.2.2⟩
set_option maxRecDepth 100000 in
set_option maxHeartbeats 3200000 in
theorem sub_same (z a b : Nat) (x y r : Int) (nx ny : Bool) (hnx : decide (x < 0) = nx) (hny : decide (y < 0) = ny) (hc : (nx != ny) = true) (hx : mag x < 18446744073709551616) (hy : mag y < 18446744073709551616) (hr : mag r = mag x + mag y)
    (hsg : ∀ n : Nat, (0 < n ↔ 0 < mag x + mag y) → (decide (0 < n) && nx) = decide (r < 0)) (hza : a ≠ z) (hzb : b ≠ z) (w : World) (hz : ZB w z) (ha : BN w a x) (hb : BN w b y) :
    Calls Tryz.prog 74 #[.pointer (some ⟨z, 0, none⟩), .pointer (some ⟨a, 0, none⟩), .pointer (some ⟨b, 0, none⟩)] w fun e w' => e = .returned (.pointer (some ⟨z, 0, none⟩)) ∧ BN w' z r ∧ Kept [z] w w' := by
  obtain ⟨a1, n1, c1, har, ham⟩ := ha
  obtain ⟨a2, n2, c2, hbr, hbm⟩ := hb
  rw [hnx] at har
  rw [hny] at hbr
  have a0 : w.cell? ⟨a, 0, none⟩ = some (.bool nx) := (har.cell 0).trans rfl
  have b0 : w.cell? ⟨b, 0, none⟩ = some (.bool ny) := (hbr.cell 0).trans rfl
  have ac : w.cell? ⟨a, 1, none⟩ = some (.slice a1 n1 c1) := (har.cell 1).trans rfl
  have bc : w.cell? ⟨b, 1, none⟩ = some (.slice a2 n2 c2) := (hbr.cell 1).trans rfl
  have HX0 := Lib.hid (And.intro ac (And.intro bc (And.intro har.lt (And.intro hbr.lt (And.intro hza (And.intro hzb (And.intro hz (And.intro ham hbm))))))))
  clear har hbr ham hbm hz hza hzb hnx hny
  have hx1 : (nx == ny) = false := by cases nx <;> cases ny <;> simp at hc ⊢
  go_enter Tryz.func74, Tryz.ntmps74
  go_wp2
  go_quiet (fail)
  have HX := Lib.hid (show (w.drewN nq).cell? ⟨a, 1, none⟩ = some (.slice a1 n1 c1) ∧ (w.drewN nq).cell? ⟨b, 1, none⟩ = some (.slice a2 n2 c2) ∧ a < (w.drewN nq).heap.size ∧ b < (w.drewN nq).heap.size ∧ a ≠ z ∧ b ≠ z ∧ ZB (w.drewN nq) z ∧ Mag (w.drewN nq) (.slice a1 n1 c1) (mag x) ∧ Mag (w.drewN nq) (.slice a2 n2 c2) (mag y) from HX0.out)
  have HW : Hid (Kept [z] w (w.drewN nq)) := Lib.hid ((Kept.refl _ _).drewN nq)
  clear HX0 a0 b0 ac bc
  generalize World.drewN _ _ = wa at HX HW ⊢
  go_upto_region 3 with fail
  have hKW : Kept [z] wa wa.drew := (Kept.refl _ _).drew
  refine wp_region_held_drew (S := fun w' => w'.cell? ⟨a, 1, none⟩ = some (.slice a1 n1 c1) ∧ w'.cell? ⟨b, 1, none⟩ = some (.slice a2 n2 c2)) (by kernel_rfl) ?_ (fun hHeld => ?_)
  · (try dsimp only); exact ⟨(World.cell?_of_block (a := ⟨a, 1, none⟩) (hKW.block a HX.out.2.2.1 (nmemK HX.out.2.2.2.2.1))).trans HX.out.1, (World.cell?_of_block (a := ⟨b, 1, none⟩) (hKW.block b HX.out.2.2.2.1 (nmemK HX.out.2.2.2.2.2.1))).trans HX.out.2.1⟩
  refine tkw 0 21 ?_
  refine tkw 1 22 ?_
  refine tkw 2 23 ?_
  refine tkw 3 24 ?_
  refine tkw 5 26 ?_
  refine tkw 6 27 ?_
  refine tkw 7 28 ?_
  refine tkw 8 29 ?_
  refine tkw 9 30 ?_
  refine tkw 10 31 ?_
  refine tkw 11 32 ?_
  refine tkw 12 33 ?_
  have zc := (HX.out.2.2.2.2.2.2.1.drew.cell 1).trans rfl
  refine wpAnyH_ready (rs := [4]) (by kernel_rfl) (by simp) ?_
  refine AllReadyH.cons (o := ⟨some 25, _, _, _, _, _⟩) rfl (fun K hK => ?_) AllReadyH.nil
  go_simp
  refine hK.out _ _ ?_ (fun hHeld => ?_)
  · (try dsimp only); exact ⟨(World.cell?_of_block (a := ⟨a, 1, none⟩) (hKW.block a HX.out.2.2.1 (nmemK HX.out.2.2.2.2.1))).trans HX.out.1, (World.cell?_of_block (a := ⟨b, 1, none⟩) (hKW.block b HX.out.2.2.2.1 (nmemK HX.out.2.2.2.2.2.1))).trans HX.out.2.1⟩
  clear hK K zc
  try simp only [Act.put, List.setIfInBounds_toArray, List.set_cons_zero, List.set_cons_succ]
  refine wpAnyH_ready (rs := [13]) (by kernel_rfl) (by simp) ?_
  refine AllReadyH.cons (o := ⟨some 34, _, _, _, _, _⟩) rfl (fun K hK => ?_) AllReadyH.nil
  go_simp
  go_at_call 95
  refine Calls.mono (nataddM _ _ _ _ hx hy wa.drew HX.out.2.2.2.2.2.2.2.1 HX.out.2.2.2.2.2.2.2.2) ?_
  rintro e w2 ⟨ar, nr, cr, rfl, hn, hm, hB⟩
  have hKW : Kept [z] wa w2 := ⟨hB.os, hB.tape, hB.output, hB.size, fun i hi _ => hB.block i hi⟩
  refine hK.out _ _ ?_ (fun hHeld => ?_)
  · (try dsimp only); exact ⟨(World.cell?_of_block (a := ⟨a, 1, none⟩) (hKW.block a HX.out.2.2.1 (nmemK HX.out.2.2.2.2.1))).trans HX.out.1, (World.cell?_of_block (a := ⟨b, 1, none⟩) (hKW.block b HX.out.2.2.2.1 (nmemK HX.out.2.2.2.2.2.1))).trans HX.out.2.1⟩
  clear hK K
  try simp only [Act.put, List.setIfInBounds_toArray, List.set_cons_zero, List.set_cons_succ]
  refine tkw 14 35 ?_
  refine tkw 15 36 ?_
  have hzr : Row w2 z 66 [.bool false, .slice none 0 0] := Row.below (w := wa.drew) HX.out.2.2.2.2.2.2.1.drew hB (Row.lt HX.out.2.2.2.2.2.2.1)
  have zc := (hzr.cell 1).trans rfl
  have zf := hzr.free 1
  refine wpAnyH_ready (rs := [16]) (by kernel_rfl) (by simp) ?_
  refine AllReadyH.cons (o := ⟨none, _, _, _, _, _⟩) rfl (fun K hK => ?_) AllReadyH.nil
  go_simp
  have hKW : Kept [z] wa (w2.setCell ⟨z, 1, none⟩ (.slice ar nr cr)) := hKW.trans (setCell_kept _ _ _ _)
  refine hK.out _ _ ?_ (fun hHeld => ?_)
  · (try dsimp only); exact ⟨(World.cell?_of_block (a := ⟨a, 1, none⟩) (hKW.block a HX.out.2.2.1 (nmemK HX.out.2.2.2.2.1))).trans HX.out.1, (World.cell?_of_block (a := ⟨b, 1, none⟩) (hKW.block b HX.out.2.2.2.1 (nmemK HX.out.2.2.2.2.2.1))).trans HX.out.2.1⟩
  clear hK K
  try simp only [Act.put, List.setIfInBounds_toArray, List.set_cons_zero, List.set_cons_succ]
  refine wpAnyH_done (by kernel_rfl) ?_ _
  have hz3 : Row (w2.setCell ⟨z, 1, none⟩ (.slice ar nr cr)) z 66 [.bool false, .slice ar nr cr] := hzr.put 1 (.slice ar nr cr)
  have hm3 := hm.put hzr 1 (.slice ar nr cr)
  clear hHeld hB hm zc zf
  generalize World.setCell _ _ _ = w3 at hz3 hm3 hKW ⊢
  have q1 : w3.cell? ⟨z, 1, none⟩ = some (.slice ar nr cr) := (hz3.cell 1).trans rfl
  have q0 : w3.cell? ⟨z, 0, none⟩ = some (.bool false) := (hz3.cell 0).trans rfl
  have qf := hz3.free 0
  have hsg2 := hsg nr hn
  obtain ⟨d, hd⟩ : ∃ d, decide (0 < nr) = d := ⟨_, rfl⟩
  rw [hd] at hsg2
  have hz4 := hz3.put 0 (.bool (decide (r < 0)))
  have hm4 := hm3.put hz3 0 (.bool (decide (r < 0)))
  have hk4 := hKW.trans (setCell_kept w3 z 0 (.bool (decide (r < 0))))
  rw [← hsg2] at hz4 hm4 hk4
  have HR := Lib.hid (And.intro hz4 (And.intro hm4 hk4))
  have HSG := Lib.hid hsg2
  clear hz3 hm3 hKW hz4 hm4 hk4 hsg2 hzr hsg hn
  cases d
  all_goals cases nx
  all_goals
    go_wp2
    go_ret
    exact ⟨rfl, ⟨ar, nr, cr, by rw [← HSG.out]; exact HR.out.1, by rw [hr]; exact HR.out.2.1⟩, HW.out.trans HR.out.2.2⟩
set_option maxRecDepth 100000 in
set_option maxHeartbeats 3200000 in
theorem sub_ge (z a b : Nat) (x y r : Int) (nx ny : Bool) (hnx : decide (x < 0) = nx) (hny : decide (y < 0) = ny) (hc : (nx != ny) = false) (hx : mag x < 18446744073709551616) (hy : mag y < 18446744073709551616) (hle : mag y ≤ mag x) (hr : mag r = mag x - mag y)
    (hsg : ∀ n : Nat, (0 < n ↔ 0 < mag x - mag y) → (decide (0 < n) && nx) = decide (r < 0)) (hza : a ≠ z) (hzb : b ≠ z) (w : World) (hz : ZB w z) (ha : BN w a x) (hb : BN w b y) :
    Calls Tryz.prog 74 #[.pointer (some ⟨z, 0, none⟩), .pointer (some ⟨a, 0, none⟩), .pointer (some ⟨b, 0, none⟩)] w fun e w' => e = .returned (.pointer (some ⟨z, 0, none⟩)) ∧ BN w' z r ∧ Kept [z] w w' := by
  obtain ⟨a1, n1, c1, har, ham⟩ := ha
  obtain ⟨a2, n2, c2, hbr, hbm⟩ := hb
  rw [hnx] at har
  rw [hny] at hbr
  have a0 : w.cell? ⟨a, 0, none⟩ = some (.bool nx) := (har.cell 0).trans rfl
  have b0 : w.cell? ⟨b, 0, none⟩ = some (.bool ny) := (hbr.cell 0).trans rfl
  have ac : w.cell? ⟨a, 1, none⟩ = some (.slice a1 n1 c1) := (har.cell 1).trans rfl
  have bc : w.cell? ⟨b, 1, none⟩ = some (.slice a2 n2 c2) := (hbr.cell 1).trans rfl
  have HX0 := Lib.hid (And.intro ac (And.intro bc (And.intro har.lt (And.intro hbr.lt (And.intro hza (And.intro hzb (And.intro hz (And.intro ham hbm))))))))
  clear har hbr ham hbm hz hza hzb hnx hny
  have hx1 : (nx == ny) = true := by cases nx <;> cases ny <;> simp at hc ⊢
  go_enter Tryz.func74, Tryz.ntmps74
  go_wp2
  go_quiet (fail)
  have HX := Lib.hid (show (w.drewN nq).cell? ⟨a, 1, none⟩ = some (.slice a1 n1 c1) ∧ (w.drewN nq).cell? ⟨b, 1, none⟩ = some (.slice a2 n2 c2) ∧ a < (w.drewN nq).heap.size ∧ b < (w.drewN nq).heap.size ∧ a ≠ z ∧ b ≠ z ∧ ZB (w.drewN nq) z ∧ Mag (w.drewN nq) (.slice a1 n1 c1) (mag x) ∧ Mag (w.drewN nq) (.slice a2 n2 c2) (mag y) from HX0.out)
  have HW : Hid (Kept [z] w (w.drewN nq)) := Lib.hid ((Kept.refl _ _).drewN nq)
  clear HX0 a0 b0 ac bc
  generalize World.drewN _ _ = wq at HX HW ⊢
  have ac := HX.out.1
  have bc := HX.out.2.1
  have hcm : ∀ w', w'.heap = wq.heap → Calls Tryz.prog 96 #[.slice a1 n1 c1, .slice a2 n2 c2] w' fun e w2 => e = .returned (.int .i64 (cmpm (mag x) (mag y))) ∧ ∃ k, w2 = w'.drewN k := fun w' hw => natcmpM _ _ _ _ hy w' (mag_heap hw HX.out.2.2.2.2.2.2.2.1) (mag_heap hw HX.out.2.2.2.2.2.2.2.2)
  have HCM := Lib.hid hcm
  clear hcm
  have hge : decide (0 ≤ cmpm (mag x) (mag y)) = true := by unfold cmpm; simp; split <;> (try split) <;> omega
  generalize cmpm (mag x) (mag y) = cm at hge HCM
  go_wp2
  go_quiet ((go_at_call 96; refine Calls.mono (HCM.out (wq.drewN _) rfl) ?_; rintro e w' ⟨rfl, k, rfl⟩; exact ⟨rfl, _, by first | rfl | rw [World.drewN_drewN]⟩))
  have HX := Lib.hid (show (wq.drewN nq).cell? ⟨a, 1, none⟩ = some (.slice a1 n1 c1) ∧ (wq.drewN nq).cell? ⟨b, 1, none⟩ = some (.slice a2 n2 c2) ∧ a < (wq.drewN nq).heap.size ∧ b < (wq.drewN nq).heap.size ∧ a ≠ z ∧ b ≠ z ∧ ZB (wq.drewN nq) z ∧ Mag (wq.drewN nq) (.slice a1 n1 c1) (mag x) ∧ Mag (wq.drewN nq) (.slice a2 n2 c2) (mag y) from HX.out)
  have HW : Hid (Kept [z] w (wq.drewN nq)) := Lib.hid (HW.out.drewN nq)
  clear ac bc
  generalize World.drewN _ _ = wa at HX HW ⊢
  go_upto_region 5 with fail
  have hKW : Kept [z] wa wa.drew := (Kept.refl _ _).drew
  refine wp_region_held_drew (S := fun w' => w'.cell? ⟨a, 1, none⟩ = some (.slice a1 n1 c1) ∧ w'.cell? ⟨b, 1, none⟩ = some (.slice a2 n2 c2)) (by kernel_rfl) ?_ (fun hHeld => ?_)
  · (try dsimp only); exact ⟨(World.cell?_of_block (a := ⟨a, 1, none⟩) (hKW.block a HX.out.2.2.1 (nmemK HX.out.2.2.2.2.1))).trans HX.out.1, (World.cell?_of_block (a := ⟨b, 1, none⟩) (hKW.block b HX.out.2.2.2.1 (nmemK HX.out.2.2.2.2.2.1))).trans HX.out.2.1⟩
  refine tkw 0 47 ?_
  refine tkw 1 48 ?_
  refine tkw 2 49 ?_
  refine tkw 3 50 ?_
  refine tkw 5 52 ?_
  refine tkw 6 53 ?_
  refine tkw 7 54 ?_
  refine tkw 8 55 ?_
  refine tkw 9 56 ?_
  refine tkw 10 57 ?_
  refine tkw 11 58 ?_
  refine tkw 12 59 ?_
  have zc := (HX.out.2.2.2.2.2.2.1.drew.cell 1).trans rfl
  refine wpAnyH_ready (rs := [4]) (by kernel_rfl) (by simp) ?_
  refine AllReadyH.cons (o := ⟨some 51, _, _, _, _, _⟩) rfl (fun K hK => ?_) AllReadyH.nil
  go_simp
  refine hK.out _ _ ?_ (fun hHeld => ?_)
  · (try dsimp only); exact ⟨(World.cell?_of_block (a := ⟨a, 1, none⟩) (hKW.block a HX.out.2.2.1 (nmemK HX.out.2.2.2.2.1))).trans HX.out.1, (World.cell?_of_block (a := ⟨b, 1, none⟩) (hKW.block b HX.out.2.2.2.1 (nmemK HX.out.2.2.2.2.2.1))).trans HX.out.2.1⟩
  clear hK K zc
  try simp only [Act.put, List.setIfInBounds_toArray, List.set_cons_zero, List.set_cons_succ]
  refine wpAnyH_ready (rs := [13]) (by kernel_rfl) (by simp) ?_
  refine AllReadyH.cons (o := ⟨some 60, _, _, _, _, _⟩) rfl (fun K hK => ?_) AllReadyH.nil
  go_simp
  go_at_call 97
  refine Calls.mono (natsubM _ _ _ _ hx hle wa.drew HX.out.2.2.2.2.2.2.2.1 HX.out.2.2.2.2.2.2.2.2) ?_
  rintro e w2 ⟨ar, nr, cr, rfl, hn, hm, hB⟩
  have hKW : Kept [z] wa w2 := ⟨hB.os, hB.tape, hB.output, hB.size, fun i hi _ => hB.block i hi⟩
  refine hK.out _ _ ?_ (fun hHeld => ?_)
  · (try dsimp only); exact ⟨(World.cell?_of_block (a := ⟨a, 1, none⟩) (hKW.block a HX.out.2.2.1 (nmemK HX.out.2.2.2.2.1))).trans HX.out.1, (World.cell?_of_block (a := ⟨b, 1, none⟩) (hKW.block b HX.out.2.2.2.1 (nmemK HX.out.2.2.2.2.2.1))).trans HX.out.2.1⟩
  clear hK K
  try simp only [Act.put, List.setIfInBounds_toArray, List.set_cons_zero, List.set_cons_succ]
  refine tkw 14 61 ?_
  refine tkw 15 62 ?_
  have hzr : Row w2 z 66 [.bool false, .slice none 0 0] := Row.below (w := wa.drew) HX.out.2.2.2.2.2.2.1.drew hB (Row.lt HX.out.2.2.2.2.2.2.1)
  have zc := (hzr.cell 1).trans rfl
  have zf := hzr.free 1
  refine wpAnyH_ready (rs := [16]) (by kernel_rfl) (by simp) ?_
  refine AllReadyH.cons (o := ⟨none, _, _, _, _, _⟩) rfl (fun K hK => ?_) AllReadyH.nil
  go_simp
  have hKW : Kept [z] wa (w2.setCell ⟨z, 1, none⟩ (.slice ar nr cr)) := hKW.trans (setCell_kept _ _ _ _)
  refine hK.out _ _ ?_ (fun hHeld => ?_)
  · (try dsimp only); exact ⟨(World.cell?_of_block (a := ⟨a, 1, none⟩) (hKW.block a HX.out.2.2.1 (nmemK HX.out.2.2.2.2.1))).trans HX.out.1, (World.cell?_of_block (a := ⟨b, 1, none⟩) (hKW.block b HX.out.2.2.2.1 (nmemK HX.out.2.2.2.2.2.1))).trans HX.out.2.1⟩
  clear hK K
  try simp only [Act.put, List.setIfInBounds_toArray, List.set_cons_zero, List.set_cons_succ]
  refine wpAnyH_done (by kernel_rfl) ?_ _
  have hz3 : Row (w2.setCell ⟨z, 1, none⟩ (.slice ar nr cr)) z 66 [.bool false, .slice ar nr cr] := hzr.put 1 (.slice ar nr cr)
  have hm3 := hm.put hzr 1 (.slice ar nr cr)
  clear hHeld hB hm zc zf
  generalize World.setCell _ _ _ = w3 at hz3 hm3 hKW ⊢
  have q1 : w3.cell? ⟨z, 1, none⟩ = some (.slice ar nr cr) := (hz3.cell 1).trans rfl
  have q0 : w3.cell? ⟨z, 0, none⟩ = some (.bool false) := (hz3.cell 0).trans rfl
  have qf := hz3.free 0
  have hsg2 := hsg nr hn
  obtain ⟨d, hd⟩ : ∃ d, decide (0 < nr) = d := ⟨_, rfl⟩
  rw [hd] at hsg2
  have hz4 := hz3.put 0 (.bool (decide (r < 0)))
  have hm4 := hm3.put hz3 0 (.bool (decide (r < 0)))
  have hk4 := hKW.trans (setCell_kept w3 z 0 (.bool (decide (r < 0))))
  rw [← hsg2] at hz4 hm4 hk4
  have HR := Lib.hid (And.intro hz4 (And.intro hm4 hk4))
  have HSG := Lib.hid hsg2
  clear hz3 hm3 hKW hz4 hm4 hk4 hsg2 hzr hsg hn
  cases d
  all_goals cases nx
  all_goals
    go_wp2
    go_ret
    exact ⟨rfl, ⟨ar, nr, cr, by rw [← HSG.out]; exact HR.out.1, by rw [hr]; exact HR.out.2.1⟩, HW.out.trans HR.out.2.2⟩
set_option maxRecDepth 100000 in
set_option maxHeartbeats 3200000 in
theorem sub_lt (z a b : Nat) (x y r : Int) (nx ny : Bool) (hnx : decide (x < 0) = nx) (hny : decide (y < 0) = ny) (hc : (nx != ny) = false) (hx : mag x < 18446744073709551616) (hy : mag y < 18446744073709551616) (hlt : mag x < mag y) (hr : mag r = mag y - mag x)
    (hsg : ∀ n : Nat, (0 < n ↔ 0 < mag y - mag x) → (decide (0 < n) && !nx) = decide (r < 0)) (hza : a ≠ z) (hzb : b ≠ z) (w : World) (hz : ZB w z) (ha : BN w a x) (hb : BN w b y) :
    Calls Tryz.prog 74 #[.pointer (some ⟨z, 0, none⟩), .pointer (some ⟨a, 0, none⟩), .pointer (some ⟨b, 0, none⟩)] w fun e w' => e = .returned (.pointer (some ⟨z, 0, none⟩)) ∧ BN w' z r ∧ Kept [z] w w' := by
  obtain ⟨a1, n1, c1, har, ham⟩ := ha
  obtain ⟨a2, n2, c2, hbr, hbm⟩ := hb
  rw [hnx] at har
  rw [hny] at hbr
  have a0 : w.cell? ⟨a, 0, none⟩ = some (.bool nx) := (har.cell 0).trans rfl
  have b0 : w.cell? ⟨b, 0, none⟩ = some (.bool ny) := (hbr.cell 0).trans rfl
  have ac : w.cell? ⟨a, 1, none⟩ = some (.slice a1 n1 c1) := (har.cell 1).trans rfl
  have bc : w.cell? ⟨b, 1, none⟩ = some (.slice a2 n2 c2) := (hbr.cell 1).trans rfl
  have HX0 := Lib.hid (And.intro ac (And.intro bc (And.intro har.lt (And.intro hbr.lt (And.intro hza (And.intro hzb (And.intro hz (And.intro ham hbm))))))))
  clear har hbr ham hbm hz hza hzb hnx hny
  have hx1 : (nx == ny) = true := by cases nx <;> cases ny <;> simp at hc ⊢
  go_enter Tryz.func74, Tryz.ntmps74
  go_wp2
  go_quiet (fail)
  have HX := Lib.hid (show (w.drewN nq).cell? ⟨a, 1, none⟩ = some (.slice a1 n1 c1) ∧ (w.drewN nq).cell? ⟨b, 1, none⟩ = some (.slice a2 n2 c2) ∧ a < (w.drewN nq).heap.size ∧ b < (w.drewN nq).heap.size ∧ a ≠ z ∧ b ≠ z ∧ ZB (w.drewN nq) z ∧ Mag (w.drewN nq) (.slice a1 n1 c1) (mag x) ∧ Mag (w.drewN nq) (.slice a2 n2 c2) (mag y) from HX0.out)
  have HW : Hid (Kept [z] w (w.drewN nq)) := Lib.hid ((Kept.refl _ _).drewN nq)
  clear HX0 a0 b0 ac bc
  generalize World.drewN _ _ = wq at HX HW ⊢
  have ac := HX.out.1
  have bc := HX.out.2.1
  have hcm : ∀ w', w'.heap = wq.heap → Calls Tryz.prog 96 #[.slice a1 n1 c1, .slice a2 n2 c2] w' fun e w2 => e = .returned (.int .i64 (cmpm (mag x) (mag y))) ∧ ∃ k, w2 = w'.drewN k := fun w' hw => natcmpM _ _ _ _ hy w' (mag_heap hw HX.out.2.2.2.2.2.2.2.1) (mag_heap hw HX.out.2.2.2.2.2.2.2.2)
  have HCM := Lib.hid hcm
  clear hcm
  have hge : decide (0 ≤ cmpm (mag x) (mag y)) = false := by unfold cmpm; rw [if_pos hlt]; decide
  generalize cmpm (mag x) (mag y) = cm at hge HCM
  go_wp2
  go_quiet ((go_at_call 96; refine Calls.mono (HCM.out (wq.drewN _) rfl) ?_; rintro e w' ⟨rfl, k, rfl⟩; exact ⟨rfl, _, by first | rfl | rw [World.drewN_drewN]⟩))
  have HX := Lib.hid (show (wq.drewN nq).cell? ⟨a, 1, none⟩ = some (.slice a1 n1 c1) ∧ (wq.drewN nq).cell? ⟨b, 1, none⟩ = some (.slice a2 n2 c2) ∧ a < (wq.drewN nq).heap.size ∧ b < (wq.drewN nq).heap.size ∧ a ≠ z ∧ b ≠ z ∧ ZB (wq.drewN nq) z ∧ Mag (wq.drewN nq) (.slice a1 n1 c1) (mag x) ∧ Mag (wq.drewN nq) (.slice a2 n2 c2) (mag y) from HX.out)
  have HW : Hid (Kept [z] w (wq.drewN nq)) := Lib.hid (HW.out.drewN nq)
  clear ac bc
  generalize World.drewN _ _ = wa at HX HW ⊢
  go_upto_region 7 with fail
  have hKW : Kept [z] wa wa.drew := (Kept.refl _ _).drew
  refine wp_region_held_drew (S := fun w' => w'.cell? ⟨a, 1, none⟩ = some (.slice a1 n1 c1) ∧ w'.cell? ⟨b, 1, none⟩ = some (.slice a2 n2 c2)) (by kernel_rfl) ?_ (fun hHeld => ?_)
  · (try dsimp only); exact ⟨(World.cell?_of_block (a := ⟨a, 1, none⟩) (hKW.block a HX.out.2.2.1 (nmemK HX.out.2.2.2.2.1))).trans HX.out.1, (World.cell?_of_block (a := ⟨b, 1, none⟩) (hKW.block b HX.out.2.2.2.1 (nmemK HX.out.2.2.2.2.2.1))).trans HX.out.2.1⟩
  refine tkw 0 65 ?_
  refine tkw 1 66 ?_
  refine tkw 2 67 ?_
  refine tkw 3 68 ?_
  refine tkw 5 70 ?_
  refine tkw 6 71 ?_
  refine tkw 7 72 ?_
  refine tkw 8 73 ?_
  refine tkw 9 74 ?_
  refine tkw 10 75 ?_
  refine tkw 11 76 ?_
  refine tkw 12 77 ?_
  have zc := (HX.out.2.2.2.2.2.2.1.drew.cell 1).trans rfl
  refine wpAnyH_ready (rs := [4]) (by kernel_rfl) (by simp) ?_
  refine AllReadyH.cons (o := ⟨some 69, _, _, _, _, _⟩) rfl (fun K hK => ?_) AllReadyH.nil
  go_simp
  refine hK.out _ _ ?_ (fun hHeld => ?_)
  · (try dsimp only); exact ⟨(World.cell?_of_block (a := ⟨a, 1, none⟩) (hKW.block a HX.out.2.2.1 (nmemK HX.out.2.2.2.2.1))).trans HX.out.1, (World.cell?_of_block (a := ⟨b, 1, none⟩) (hKW.block b HX.out.2.2.2.1 (nmemK HX.out.2.2.2.2.2.1))).trans HX.out.2.1⟩
  clear hK K zc
  try simp only [Act.put, List.setIfInBounds_toArray, List.set_cons_zero, List.set_cons_succ]
  refine wpAnyH_ready (rs := [13]) (by kernel_rfl) (by simp) ?_
  refine AllReadyH.cons (o := ⟨some 78, _, _, _, _, _⟩) rfl (fun K hK => ?_) AllReadyH.nil
  go_simp
  go_at_call 97
  refine Calls.mono (natsubM _ _ _ _ hy (Int.le_of_lt hlt) wa.drew HX.out.2.2.2.2.2.2.2.2 HX.out.2.2.2.2.2.2.2.1) ?_
  rintro e w2 ⟨ar, nr, cr, rfl, hn, hm, hB⟩
  have hKW : Kept [z] wa w2 := ⟨hB.os, hB.tape, hB.output, hB.size, fun i hi _ => hB.block i hi⟩
  refine hK.out _ _ ?_ (fun hHeld => ?_)
  · (try dsimp only); exact ⟨(World.cell?_of_block (a := ⟨a, 1, none⟩) (hKW.block a HX.out.2.2.1 (nmemK HX.out.2.2.2.2.1))).trans HX.out.1, (World.cell?_of_block (a := ⟨b, 1, none⟩) (hKW.block b HX.out.2.2.2.1 (nmemK HX.out.2.2.2.2.2.1))).trans HX.out.2.1⟩
  clear hK K
  try simp only [Act.put, List.setIfInBounds_toArray, List.set_cons_zero, List.set_cons_succ]
  refine tkw 14 79 ?_
  refine tkw 15 80 ?_
  have hzr : Row w2 z 66 [.bool false, .slice none 0 0] := Row.below (w := wa.drew) HX.out.2.2.2.2.2.2.1.drew hB (Row.lt HX.out.2.2.2.2.2.2.1)
  have zc := (hzr.cell 1).trans rfl
  have zf := hzr.free 1
  refine wpAnyH_ready (rs := [16]) (by kernel_rfl) (by simp) ?_
  refine AllReadyH.cons (o := ⟨none, _, _, _, _, _⟩) rfl (fun K hK => ?_) AllReadyH.nil
  go_simp
  have hKW : Kept [z] wa (w2.setCell ⟨z, 1, none⟩ (.slice ar nr cr)) := hKW.trans (setCell_kept _ _ _ _)
  refine hK.out _ _ ?_ (fun hHeld => ?_)
  · (try dsimp only); exact ⟨(World.cell?_of_block (a := ⟨a, 1, none⟩) (hKW.block a HX.out.2.2.1 (nmemK HX.out.2.2.2.2.1))).trans HX.out.1, (World.cell?_of_block (a := ⟨b, 1, none⟩) (hKW.block b HX.out.2.2.2.1 (nmemK HX.out.2.2.2.2.2.1))).trans HX.out.2.1⟩
  clear hK K
  try simp only [Act.put, List.setIfInBounds_toArray, List.set_cons_zero, List.set_cons_succ]
  refine wpAnyH_done (by kernel_rfl) ?_ _
  have hz3 : Row (w2.setCell ⟨z, 1, none⟩ (.slice ar nr cr)) z 66 [.bool false, .slice ar nr cr] := hzr.put 1 (.slice ar nr cr)
  have hm3 := hm.put hzr 1 (.slice ar nr cr)
  clear hHeld hB hm zc zf
  generalize World.setCell _ _ _ = w3 at hz3 hm3 hKW ⊢
  have q1 : w3.cell? ⟨z, 1, none⟩ = some (.slice ar nr cr) := (hz3.cell 1).trans rfl
  have q0 : w3.cell? ⟨z, 0, none⟩ = some (.bool false) := (hz3.cell 0).trans rfl
  have qf := hz3.free 0
  have hsg2 := hsg nr hn
  obtain ⟨d, hd⟩ : ∃ d, decide (0 < nr) = d := ⟨_, rfl⟩
  rw [hd] at hsg2
  have hz4 := hz3.put 0 (.bool (decide (r < 0)))
  have hm4 := hm3.put hz3 0 (.bool (decide (r < 0)))
  have hk4 := hKW.trans (setCell_kept w3 z 0 (.bool (decide (r < 0))))
  rw [← hsg2] at hz4 hm4 hk4
  have HR := Lib.hid (And.intro hz4 (And.intro hm4 hk4))
  have HSG := Lib.hid hsg2
  clear hz3 hm3 hKW hz4 hm4 hk4 hsg2 hzr hsg hn
  cases d
  all_goals cases nx
  all_goals
    go_wp2
    go_ret
    exact ⟨rfl, ⟨ar, nr, cr, by rw [← HSG.out]; exact HR.out.1, by rw [hr]; exact HR.out.2.1⟩, HW.out.trans HR.out.2.2⟩
end Go.Proofs.YtaaidjphacofgaaGreatDoor
