/-
  Spans: the reference's Has, wide.
-/
import Derived.Test.YtnioafagehkmaaaSpanF
namespace Go.Proofs.Ytnioafagehkmaaa
open Go.RowKit
set_option linter.unusedVariables false

set_option maxHeartbeats 800000 in
theorem rhas_of (lo hi : Int) (p q : Bool) (v : Int) (w : World) : Calls Try.prog 9 #[.agg #[.int .i64 lo, .int .i64 hi, .bool p, .bool q], .int .i64 v] w (Ret w (.bool (hasv lo hi p q v))) := by
  have hrd := fun w => rends_of lo hi p q w
  unfold endv at hrd
  unfold hasv
  obtain ⟨E, hE⟩ : ∃ E, E = elo lo hi p q := ⟨_, rfl⟩
  obtain ⟨F, hF⟩ : ∃ F, F = ehi lo hi p q := ⟨_, rfl⟩
  rw [← hE, ← hF] at hrd ⊢
  have HRD := Lib.hid hrd
  have hBa := (Below.refl w.heap.size w).alloc (Nat.le_refl _) (.cells #[.int .i64 lo, .int .i64 hi, .bool p, .bool q] 23)
  obtain ⟨d1, h1⟩ : ∃ d, decide (E ≤ v) = d := ⟨_, rfl⟩
  obtain ⟨d2, h2⟩ : ∃ d, decide (v ≤ F) = d := ⟨_, rfl⟩
  rw [h1, h2]
  clear hrd hE hF
  cases d1
  all_goals cases d2
  all_goals
    go_enter Try.func9, Try.ntmps9
    go_wp2_with fail
    refine (HRD.out _).mono ?_
    rintro e w1 ⟨rfl, hB⟩
    have hB1 := hBa.trans (hB.mono hBa.size)
    have HB2 := Lib.hid (hB1.alloc hB1.size (.cells #[.int .i64 E, .int .i64 F] 35))
    clear hB hB1
    go_wp2
    go_ret
    exact ⟨rfl, HB2.out⟩

theorem floor_of (v : Int) (w : World) : Calls Try.prog 22 #[.int .i64 v] w (Ret w (.int .i64 (v / 4294967296))) := by
  go_enter Try.func22, Try.ntmps22
  go_wp2
  go_ret
  exact ⟨rfl, Below.refl _ _⟩

/-- A whole number of 64 bits as one of 128. -/
def mag (v : Int) : Int := if v < 0 then -v else v
def wd (v : Int) : Value := .agg #[.bool (decide (v < 0)), .int .u32 (mag v % 4294967296), .int .u32 (mag v / 4294967296), .int .u32 0, .int .u32 0]
set_option maxHeartbeats 800000 in
theorem wide_of (v : Int) (hv : -9223372036854775808 ≤ v ∧ v ≤ 9223372036854775807) (w : World) : Calls Try.prog 24 #[.int .i64 v] w (Ret w (wd v)) := by
  have hB : ∀ a b : Obj, Below w.heap.size w ((w.alloc a).alloc b) := fun a b => ((Below.refl w.heap.size w).alloc (Nat.le_refl _) _).alloc (by simp) _
  by_cases h : v < 0
  · have hw : IntKind.u64.wrap (-IntKind.u64.wrap v) = mag v := by
      unfold mag
      rw [if_pos h]
      simp only [IntKind.wrap, IntKind.signed, IntKind.bits, Bool.false_and, Bool.false_eq_true, ↓reduceIte]
      omega
    have hm : mag v / 4294967296 % 4294967296 = mag v / 4294967296 := by
      unfold mag
      rw [if_pos h]
      omega
    have hd : decide (v < 0) = true := by simpa using h
    have HV := Lib.hid (show wd v = .agg #[.bool true, .int .u32 (IntKind.u64.wrap (-IntKind.u64.wrap v) % 4294967296), .int .u32 (IntKind.u64.wrap (-IntKind.u64.wrap v) / 4294967296 % 4294967296), .int .u32 0, .int .u32 0] by unfold wd; rw [hw, hm, hd])
    clear hw hm hd
    go_enter Try.func24, Try.ntmps24
    go_wp2
    exact bodyPost_ret (v := .agg #[.bool true, .int .u32 (IntKind.u64.wrap (-IntKind.u64.wrap v) % 4294967296), .int .u32 (IntKind.u64.wrap (-IntKind.u64.wrap v) / 4294967296 % 4294967296), .int .u32 0, .int .u32 0]) (by simp [results, Try.results24, go_sem]) rfl ⟨by rw [HV.out], hB _ _⟩
  · have h0 : 0 ≤ v := by omega
    have hd : decide (v < 0) = false := by simpa using h
    have HV := Lib.hid (show wd v = .agg #[.bool false, .int .u32 (v % 4294967296), .int .u32 (v / 4294967296), .int .u32 0, .int .u32 0] by unfold wd mag; rw [if_neg h, hd])
    clear hd
    go_enter Try.func24, Try.ntmps24
    go_wp2
    exact bodyPost_ret (v := .agg #[.bool false, .int .u32 (v % 4294967296), .int .u32 (v / 4294967296), .int .u32 0, .int .u32 0]) (by simp [results, Try.results24, go_sem]) rfl ⟨by rw [HV.out], hB _ _⟩
end Go.Proofs.Ytnioafagehkmaaa
