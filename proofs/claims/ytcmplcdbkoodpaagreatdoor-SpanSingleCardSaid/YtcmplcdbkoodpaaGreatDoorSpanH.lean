/-
  Spans: the reference's size, cmp.
-/
import Derived.Test.YtcmplcdbkoodpaaGreatDoorSpanG
import Derived.LoopN
namespace Go.Proofs.YtcmplcdbkoodpaaGreatDoor
open Go.RowKit
set_option linter.unusedVariables false

set_option maxHeartbeats 4000000 in
theorem size_run (a b : Bool) (x0 x1 y0 y1 : Int) (d1 d2 d3 d4 : Bool) (h1 : decide (x1 < y1) = d1) (h2 : decide (y1 < x1) = d2) (h3 : decide (x0 < y0) = d3) (h4 : decide (y0 < x0) = d4) (w : World) :
    Calls Tryz.prog 153 #[.agg #[.bool a, .int .u32 x0, .int .u32 x1, .int .u32 0, .int .u32 0], .agg #[.bool b, .int .u32 y0, .int .u32 y1, .int .u32 0, .int .u32 0]] w (Ret w (.int .i64 (if d1 then -1 else if d2 then 1 else if d3 then -1 else if d4 then 1 else 0))) := by
  have hB : ∀ a b : Obj, ∀ n, Below w.heap.size w (((w.alloc a).alloc b).drewN n) := fun a b n => below_drewN (((Below.refl w.heap.size w).alloc (Nat.le_refl _) _).alloc (by simp) _) n
  cases d1
  · cases d2
    · cases d3
      · cases d4
        · go_enter Tryz.func153, Tryz.ntmps153
          go_wp2
          refine wp_loop_rounds (0+1+1+1+1+1) ?_
          rw [rounds_succ]
          go_wp2
          go_quiet (fail)
          go_wp2
          go_quiet (fail)
          go_wp2
          rw [rounds_succ]
          go_wp2
          go_quiet (fail)
          go_wp2
          go_quiet (fail)
          go_wp2
          rw [rounds_succ]
          go_wp2
          go_quiet (fail)
          go_wp2
          go_quiet (fail)
          go_wp2
          rw [rounds_succ]
          go_wp2
          go_quiet (fail)
          go_wp2
          go_quiet (fail)
          go_wp2
          rw [rounds_succ]
          go_wp2
          go_ret
          repeat rw [drewN_drewN]
          exact ⟨rfl, hB _ _ _⟩
        · go_enter Tryz.func153, Tryz.ntmps153
          go_wp2
          refine wp_loop_rounds (0+1+1+1+1+1) ?_
          rw [rounds_succ]
          go_wp2
          go_quiet (fail)
          go_wp2
          go_quiet (fail)
          go_wp2
          rw [rounds_succ]
          go_wp2
          go_quiet (fail)
          go_wp2
          go_quiet (fail)
          go_wp2
          rw [rounds_succ]
          go_wp2
          go_quiet (fail)
          go_wp2
          go_quiet (fail)
          go_wp2
          rw [rounds_succ]
          go_wp2
          go_quiet (fail)
          go_wp2
          go_quiet (fail)
          go_wp2
          go_ret
          repeat rw [drewN_drewN]
          exact ⟨rfl, hB _ _ _⟩
      · go_enter Tryz.func153, Tryz.ntmps153
        go_wp2
        refine wp_loop_rounds (0+1+1+1+1+1) ?_
        rw [rounds_succ]
        go_wp2
        go_quiet (fail)
        go_wp2
        go_quiet (fail)
        go_wp2
        rw [rounds_succ]
        go_wp2
        go_quiet (fail)
        go_wp2
        go_quiet (fail)
        go_wp2
        rw [rounds_succ]
        go_wp2
        go_quiet (fail)
        go_wp2
        go_quiet (fail)
        go_wp2
        rw [rounds_succ]
        go_wp2
        go_quiet (fail)
        go_wp2
        go_ret
        repeat rw [drewN_drewN]
        exact ⟨rfl, hB _ _ _⟩
    · go_enter Tryz.func153, Tryz.ntmps153
      go_wp2
      refine wp_loop_rounds (0+1+1+1+1+1) ?_
      rw [rounds_succ]
      go_wp2
      go_quiet (fail)
      go_wp2
      go_quiet (fail)
      go_wp2
      rw [rounds_succ]
      go_wp2
      go_quiet (fail)
      go_wp2
      go_quiet (fail)
      go_wp2
      rw [rounds_succ]
      go_wp2
      go_quiet (fail)
      go_wp2
      go_quiet (fail)
      go_wp2
      go_ret
      repeat rw [drewN_drewN]
      exact ⟨rfl, hB _ _ _⟩
  · go_enter Tryz.func153, Tryz.ntmps153
    go_wp2
    refine wp_loop_rounds (0+1+1+1+1+1) ?_
    rw [rounds_succ]
    go_wp2
    go_quiet (fail)
    go_wp2
    go_quiet (fail)
    go_wp2
    rw [rounds_succ]
    go_wp2
    go_quiet (fail)
    go_wp2
    go_quiet (fail)
    go_wp2
    rw [rounds_succ]
    go_wp2
    go_quiet (fail)
    go_wp2
    go_ret
    repeat rw [drewN_drewN]
    exact ⟨rfl, hB _ _ _⟩

/-- Which one is greater. -/
def cmpv (x y : Int) : Int := if x < y then -1 else if y < x then 1 else 0
theorem size_of (a b : Bool) (X Y : Int) (hX : 0 ≤ X ∧ X ≤ 9223372036854775808) (hY : 0 ≤ Y ∧ Y ≤ 9223372036854775808) (w : World) :
    Calls Tryz.prog 153 #[.agg #[.bool a, .int .u32 (X % 4294967296), .int .u32 (X / 4294967296), .int .u32 0, .int .u32 0], .agg #[.bool b, .int .u32 (Y % 4294967296), .int .u32 (Y / 4294967296), .int .u32 0, .int .u32 0]] w (Ret w (.int .i64 (cmpv X Y))) := by
  have h := size_run a b (X % 4294967296) (X / 4294967296) (Y % 4294967296) (Y / 4294967296) _ _ _ _ rfl rfl rfl rfl w
  have e : (if decide (X / 4294967296 < Y / 4294967296) = true then (-1 : Int) else if decide (Y / 4294967296 < X / 4294967296) = true then 1 else if decide (X % 4294967296 < Y % 4294967296) = true then -1 else if decide (Y % 4294967296 < X % 4294967296) = true then 1 else 0) = cmpv X Y := by
    unfold cmpv
    simp only [decide_eq_true_eq]
    split
    · rw [if_pos (by omega)]
    · split
      · rw [if_neg (by omega), if_pos (by omega)]
      · split
        · rw [if_pos (by omega)]
        · split
          · rw [if_neg (by omega), if_pos (by omega)]
          · rw [if_neg (by omega), if_neg (by omega)]
  rw [e] at h
  exact h
theorem mag_pos {v : Int} (h : -9223372036854775808 ≤ v ∧ v ≤ 9223372036854775807) : 0 ≤ mag v ∧ mag v ≤ 9223372036854775808 := by
  unfold mag; split <;> omega

set_option maxHeartbeats 1600000 in
theorem cmp_of (x y : Int) (hx : -9223372036854775808 ≤ x ∧ x ≤ 9223372036854775807) (hy : -9223372036854775808 ≤ y ∧ y ≤ 9223372036854775807) (w : World) : Calls Tryz.prog 149 #[wd x, wd y] w (Ret w (.int .i64 (cmpv x y))) := by
  have hs := fun a b w => size_of a b (mag x) (mag y) (mag_pos hx) (mag_pos hy) w
  have hm : cmpv x y = if decide (x < 0) then (if decide (y < 0) then - cmpv (mag x) (mag y) else -1) else (if decide (y < 0) then 1 else cmpv (mag x) (mag y)) := by
    unfold cmpv mag
    simp only [decide_eq_true_eq]
    split <;> split <;> (repeat' split) <;> omega
  have hcr : -1 ≤ cmpv (mag x) (mag y) ∧ cmpv (mag x) (mag y) ≤ 1 := by unfold cmpv; (repeat' split) <;> omega
  rw [hm]
  unfold wd
  obtain ⟨A, hA⟩ : ∃ A, decide (x < 0) = A := ⟨_, rfl⟩
  obtain ⟨B, hB⟩ : ∃ B, decide (y < 0) = B := ⟨_, rfl⟩
  rw [hA, hB]
  obtain ⟨C, hC⟩ : ∃ C, cmpv (mag x) (mag y) = C := ⟨_, rfl⟩
  rw [hC] at hs hcr ⊢
  obtain ⟨x0, hx0⟩ : ∃ t, mag x % 4294967296 = t := ⟨_, rfl⟩
  obtain ⟨x1, hx1⟩ : ∃ t, mag x / 4294967296 = t := ⟨_, rfl⟩
  obtain ⟨y0, hy0⟩ : ∃ t, mag y % 4294967296 = t := ⟨_, rfl⟩
  obtain ⟨y1, hy1⟩ : ∃ t, mag y / 4294967296 = t := ⟨_, rfl⟩
  rw [hx0, hx1, hy0, hy1] at hs ⊢
  have hBa : ∀ a b : Obj, Below w.heap.size w ((w.alloc a).alloc b) := fun a b => ((Below.refl w.heap.size w).alloc (Nat.le_refl _) _).alloc (by simp) _
  have HS := Lib.hid hs
  have HCR := Lib.hid hcr
  have hr0 : Row ((w.alloc (.cells #[.bool A, .int .u32 x0, .int .u32 x1, .int .u32 0, .int .u32 0] 97)).alloc (.cells #[.bool B, .int .u32 y0, .int .u32 y1, .int .u32 0, .int .u32 0] 97)) w.heap.size 97 [.bool A, .int .u32 x0, .int .u32 x1, .int .u32 0, .int .u32 0] := (Row.made w [.bool A, .int .u32 x0, .int .u32 x1, .int .u32 0, .int .u32 0] 97).alloc _
  have HR0 := Lib.hid hr0
  clear hs hcr hm hA hB hC hx0 hx1 hy0 hy1 hr0 hx hy
  cases A
  · cases B
    · go_enter Tryz.func149, Tryz.ntmps149
      go_wp2_with fail
      refine (HS.out _ _ _).mono ?_
      rintro e w1 ⟨rfl, hB1⟩
      have h0 : w1.cell? ⟨w.heap.size, 0, none⟩ = some (.bool false) := by rw [(HR0.out.below hB1 HR0.out.lt).cell]; rfl
      have HBZ := Lib.hid ((hBa _ _).trans (hB1.mono (hBa _ _).size))
      clear hB1
      go_wp2
      go_ret
      exact ⟨rfl, HBZ.out⟩
    · go_enter Tryz.func149, Tryz.ntmps149
      go_wp2
      go_ret
      exact ⟨rfl, hBa _ _⟩
  · cases B
    · go_enter Tryz.func149, Tryz.ntmps149
      go_wp2
      go_ret
      exact ⟨rfl, hBa _ _⟩
    · go_enter Tryz.func149, Tryz.ntmps149
      go_wp2_with fail
      refine (HS.out _ _ _).mono ?_
      rintro e w1 ⟨rfl, hB1⟩
      have h0 : w1.cell? ⟨w.heap.size, 0, none⟩ = some (.bool true) := by rw [(HR0.out.below hB1 HR0.out.lt).cell]; rfl
      have HBZ := Lib.hid ((hBa _ _).trans (hB1.mono (hBa _ _).size))
      have hc := HCR.out
      clear hB1
      go_wp2
      go_ret
      exact ⟨rfl, HBZ.out⟩
end Go.Proofs.YtcmplcdbkoodpaaGreatDoor
