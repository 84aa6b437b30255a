/-
  Spans: the reference's Sound, read, ends, Has, wide.
-/
import Derived.Test.YtcmplcdbkoodpaaGreatDoorSpanD
namespace Go.Proofs.YtcmplcdbkoodpaaGreatDoor
open Go.RowKit
set_option linter.unusedVariables false

set_option maxRecDepth 100000 in
set_option maxHeartbeats 4000000 in
theorem sound_run (lo hi : Int) (p q n1 n2 d1 d2 d3 d4 d5 : Bool) (h1 : (lo != 0) = n1) (h2 : (hi != 0) = n2) (h3 : decide (lo < -1152921504606846976) = d1) (h4 : decide (1152921504606846976 < lo) = d2) (h5 : decide (hi < -1152921504606846976) = d3) (h6 : decide (1152921504606846976 < hi) = d4) (h7 : decide (lo ≤ hi) = d5) (w : World) :
    Calls Tryz.prog 46 #[.agg #[.int .i64 lo, .int .i64 hi, .bool p, .bool q]] w (Ret w (.bool (!(p && n1) && !(q && n2) && !d1 && !d2 && !d3 && !d4 && (p || q || d5)))) := by
  have hB := (Below.refl w.heap.size w).alloc (Nat.le_refl _) (.cells #[.int .i64 lo, .int .i64 hi, .bool p, .bool q] 23)
  cases p
  · cases q
    · cases d1
      · cases d2
        · cases d3
          · cases d4
            · cases d5
              · go_enter Tryz.func46, Tryz.ntmps46
                go_wp2
                go_ret
                exact ⟨rfl, hB⟩
              · go_enter Tryz.func46, Tryz.ntmps46
                go_wp2
                go_ret
                exact ⟨rfl, hB⟩
            · go_enter Tryz.func46, Tryz.ntmps46
              go_wp2
              go_ret
              exact ⟨rfl, hB⟩
          · go_enter Tryz.func46, Tryz.ntmps46
            go_wp2
            go_ret
            exact ⟨rfl, hB⟩
        · go_enter Tryz.func46, Tryz.ntmps46
          go_wp2
          go_ret
          exact ⟨rfl, hB⟩
      · go_enter Tryz.func46, Tryz.ntmps46
        go_wp2
        go_ret
        exact ⟨rfl, hB⟩
    · cases n2
      · cases d1
        · cases d2
          · cases d3
            · cases d4
              · go_enter Tryz.func46, Tryz.ntmps46
                go_wp2
                go_ret
                exact ⟨rfl, hB⟩
              · go_enter Tryz.func46, Tryz.ntmps46
                go_wp2
                go_ret
                exact ⟨rfl, hB⟩
            · go_enter Tryz.func46, Tryz.ntmps46
              go_wp2
              go_ret
              exact ⟨rfl, hB⟩
          · go_enter Tryz.func46, Tryz.ntmps46
            go_wp2
            go_ret
            exact ⟨rfl, hB⟩
        · go_enter Tryz.func46, Tryz.ntmps46
          go_wp2
          go_ret
          exact ⟨rfl, hB⟩
      · go_enter Tryz.func46, Tryz.ntmps46
        go_wp2
        go_ret
        exact ⟨rfl, hB⟩
  · cases q
    · cases n1
      · cases d1
        · cases d2
          · cases d3
            · cases d4
              · go_enter Tryz.func46, Tryz.ntmps46
                go_wp2
                go_ret
                exact ⟨rfl, hB⟩
              · go_enter Tryz.func46, Tryz.ntmps46
                go_wp2
                go_ret
                exact ⟨rfl, hB⟩
            · go_enter Tryz.func46, Tryz.ntmps46
              go_wp2
              go_ret
              exact ⟨rfl, hB⟩
          · go_enter Tryz.func46, Tryz.ntmps46
            go_wp2
            go_ret
            exact ⟨rfl, hB⟩
        · go_enter Tryz.func46, Tryz.ntmps46
          go_wp2
          go_ret
          exact ⟨rfl, hB⟩
      · go_enter Tryz.func46, Tryz.ntmps46
        go_wp2
        go_ret
        exact ⟨rfl, hB⟩
    · cases n1
      · cases n2
        · cases d1
          · cases d2
            · cases d3
              · cases d4
                · go_enter Tryz.func46, Tryz.ntmps46
                  go_wp2
                  go_ret
                  exact ⟨rfl, hB⟩
                · go_enter Tryz.func46, Tryz.ntmps46
                  go_wp2
                  go_ret
                  exact ⟨rfl, hB⟩
              · go_enter Tryz.func46, Tryz.ntmps46
                go_wp2
                go_ret
                exact ⟨rfl, hB⟩
            · go_enter Tryz.func46, Tryz.ntmps46
              go_wp2
              go_ret
              exact ⟨rfl, hB⟩
          · go_enter Tryz.func46, Tryz.ntmps46
            go_wp2
            go_ret
            exact ⟨rfl, hB⟩
        · go_enter Tryz.func46, Tryz.ntmps46
          go_wp2
          go_ret
          exact ⟨rfl, hB⟩
      · go_enter Tryz.func46, Tryz.ntmps46
        go_wp2
        go_ret
        exact ⟨rfl, hB⟩

theorem sound_of (lo hi : Int) (p q : Bool) (w : World) : Calls Tryz.prog 46 #[.agg #[.int .i64 lo, .int .i64 hi, .bool p, .bool q]] w (Ret w (.bool (decide (Snd lo hi p q)))) := by
  have h := sound_run lo hi p q _ _ _ _ _ _ _ rfl rfl rfl rfl rfl rfl rfl w
  have e : (!(p && (lo != 0)) && !(q && (hi != 0)) && !(decide (lo < -1152921504606846976)) && !(decide (1152921504606846976 < lo)) && !(decide (hi < -1152921504606846976)) && !(decide (1152921504606846976 < hi)) && (p || q || decide (lo ≤ hi))) = decide (Snd lo hi p q) := by
    rw [Bool.eq_iff_iff, decide_eq_true_iff]
    cases p <;> cases q
    · rw [snd_ff]; simp; omega
    · rw [snd_ft]; simp; omega
    · rw [snd_tf]; simp; omega
    · rw [snd_tt]; simp; omega
  rw [e] at h
  exact h
end Go.Proofs.YtcmplcdbkoodpaaGreatDoor
