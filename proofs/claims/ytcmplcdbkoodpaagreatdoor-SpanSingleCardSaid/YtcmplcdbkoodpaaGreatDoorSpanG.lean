/-
  Spans: the reference's Has, wide.
-/
import Derived.Test.YtcmplcdbkoodpaaGreatDoorSpanF
namespace Go.Proofs.YtcmplcdbkoodpaaGreatDoor
open Go.RowKit
set_option linter.unusedVariables false

theorem floor_of (v : Int) (w : World) : Calls Tryz.prog 104 #[.int .i64 v] w (Ret w (.int .i64 (v / 4294967296))) := by
  go_enter Tryz.func104, Tryz.ntmps104
  go_wp2
  go_ret
  exact ⟨rfl, Below.refl _ _⟩

/-- A whole number of 64 bits as one of 128. -/
def mag (v : Int) : Int := if v < 0 then -v else v
def wd (v : Int) : Value := .agg #[.bool (decide (v < 0)), .int .u32 (mag v % 4294967296), .int .u32 (mag v / 4294967296), .int .u32 0, .int .u32 0]
set_option maxHeartbeats 800000 in
theorem wide_of (v : Int) (hv : -9223372036854775808 ≤ v ∧ v ≤ 9223372036854775807) (w : World) : Calls Tryz.prog 80 #[.int .i64 v] w (Ret w (wd v)) := by
  have hB : ∀ a b : Obj, Below w.heap.size w ((w.alloc a).alloc b) := fun a b => ((Below.refl w.heap.size w).alloc (Nat.le_refl _) _).alloc (by simp) _
  by_cases h : v < 0
  · have hw : IntKind.u64.wrap (-IntKind.u64.wrap v) = mag v := by
      unfold mag
      rw [if_pos h]
      simp only [IntKind.wrap, IntKind.signed, IntKind.bits, Bool.false_and, Bool.false_eq_true, ↓reduceIte]
      omega
    have hm : mag v / 4294967296 % 4294967296 = mag v / 4294967296 := by
      unfold mag
      rw [if_pos h]
      omega
    have hd : decide (v < 0) = true := by simpa using h
    have HV := Lib.hid (show wd v = .agg #[.bool true, .int .u32 (IntKind.u64.wrap (-IntKind.u64.wrap v) % 4294967296), .int .u32 (IntKind.u64.wrap (-IntKind.u64.wrap v) / 4294967296 % 4294967296), .int .u32 0, .int .u32 0] by unfold wd; rw [hw, hm, hd])
    clear hw hm hd
    go_enter Tryz.func80, Tryz.ntmps80
    go_wp2
    exact bodyPost_ret (v := .agg #[.bool true, .int .u32 (IntKind.u64.wrap (-IntKind.u64.wrap v) % 4294967296), .int .u32 (IntKind.u64.wrap (-IntKind.u64.wrap v) / 4294967296 % 4294967296), .int .u32 0, .int .u32 0]) (by simp [results, Tryz.results80, go_sem]) rfl ⟨by rw [HV.out], hB _ _⟩
  · have h0 : 0 ≤ v := by omega
    have hd : decide (v < 0) = false := by simpa using h
    have HV := Lib.hid (show wd v = .agg #[.bool false, .int .u32 (v % 4294967296), .int .u32 (v / 4294967296), .int .u32 0, .int .u32 0] by unfold wd mag; rw [if_neg h, hd])
    clear hd
    go_enter Tryz.func80, Tryz.ntmps80
    go_wp2
    exact bodyPost_ret (v := .agg #[.bool false, .int .u32 (v % 4294967296), .int .u32 (v / 4294967296), .int .u32 0, .int .u32 0]) (by simp [results, Tryz.results80, go_sem]) rfl ⟨by rw [HV.out], hB _ _⟩
end Go.Proofs.YtcmplcdbkoodpaaGreatDoor
