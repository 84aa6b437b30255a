/-
  Spans: the reference's number.
-/
import Derived.Test.YtcmplcdbkoodpaaGreatDoorSpanI
import Derived.Deep.QuietTactic
import Derived.Deep.RegionHeld3
namespace Go.Proofs.YtcmplcdbkoodpaaGreatDoor
open Go.RowKit
set_option linter.unusedVariables false

/-- One number's box, kept. -/
structure KW (b : Nat) (w : World) (A : Bool) (a0 a1 : Int) (w' : World) : Prop where
  row : Row w' b 97 (wdc A a0 a1)
  bel : Below w.heap.size w w'
theorem KW.below {b : Nat} {w w1 w2 : World} {A : Bool} {a0 a1 : Int} (h : KW b w A a0 a1 w1) (hB : Below w1.heap.size w1 w2) : KW b w A a0 a1 w2 :=
  ⟨h.row.below hB h.row.lt, h.bel.trans (hB.mono h.bel.size)⟩
theorem KW.drew {b : Nat} {w w1 : World} {A : Bool} {a0 a1 : Int} (h : KW b w A a0 a1 w1) : KW b w A a0 a1 w1.drew := h.below (Below.refl _ _).drew
def KS (b : Nat) (w : World) (A : Bool) (a0 a1 : Int) (w' : World) : Prop :=
  w'.cell? ⟨b, 0, none⟩ = some (.bool A) ∧ w'.cell? ⟨b, 1, none⟩ = some (.int .u32 a0) ∧ w'.cell? ⟨b, 2, none⟩ = some (.int .u32 a1) ∧ w'.cell? ⟨b, 3, none⟩ = some (.int .u32 0) ∧ w'.cell? ⟨b, 4, none⟩ = some (.int .u32 0) ∧ KW b w A a0 a1 w'
theorem KW.kept {b : Nat} {w w1 : World} {A : Bool} {a0 a1 : Int} (h : KW b w A a0 a1 w1) :
  w1.cell? ⟨b, 0, none⟩ = some (.bool A) ∧ w1.cell? ⟨b, 1, none⟩ = some (.int .u32 a0) ∧ w1.cell? ⟨b, 2, none⟩ = some (.int .u32 a1) ∧ w1.cell? ⟨b, 3, none⟩ = some (.int .u32 0) ∧ w1.cell? ⟨b, 4, none⟩ = some (.int .u32 0) ∧ KW b w A a0 a1 w1 :=
  let ⟨⟨q0, q1, q2, q3, q4⟩, _⟩ := wdc_row h.1
  ⟨q0, q1, q2, q3, q4, h⟩
theorem KW.of {b : Nat} {w w1 : World} {A : Bool} {a0 a1 : Int} (h : w1.cell? ⟨b, 0, none⟩ = some (.bool A) ∧ w1.cell? ⟨b, 1, none⟩ = some (.int .u32 a0) ∧ w1.cell? ⟨b, 2, none⟩ = some (.int .u32 a1) ∧ w1.cell? ⟨b, 3, none⟩ = some (.int .u32 0) ∧ w1.cell? ⟨b, 4, none⟩ = some (.int .u32 0) ∧ KW b w A a0 a1 w1) : KW b w A a0 a1 w1 := h.2.2.2.2.2

/-- What number's guard asks: at the least and at the greatest number. -/
def cm2 (C1 C2 y : Int) : Int := if y < 0 then C1 else C2
theorem cm2_lo (C1 C2 : Int) : cm2 C1 C2 (-9223372036854775808) = C1 := rfl
theorem cm2_hi (C1 C2 : Int) : cm2 C1 C2 9223372036854775807 = C2 := rfl

/-- A number's two digits, joined. -/
def jo (a0 a1 : Int) : Int := bits .or .u64 (IntKind.u64.wrap a0) (IntKind.u64.wrap (IntKind.u64.wrap a1 * 4294967296))
def nov (A : Bool) (a0 a1 : Int) : Int := if A then wrap64 (IntKind.u64.wrap (- jo a0 a1)) else wrap64 (jo a0 a1)

set_option maxRecDepth 100000 in
set_option maxHeartbeats 16000000 in
theorem number_run (A : Bool) (a0 a1 C1 C2 : Int) (hC1 : C1 = 0 ∨ C1 = 1) (hC2 : C2 = 0 ∨ C2 = -1)
    (h : ∀ y, (y = -9223372036854775808 ∨ y = 9223372036854775807) → ∀ w, Calls Tryz.prog 149 #[.agg #[.bool A, .int .u32 a0, .int .u32 a1, .int .u32 0, .int .u32 0], wd y] w (Ret w (.int .i64 (cm2 C1 C2 y)))) (w : World) :
    Calls Tryz.prog 150 #[.agg #[.bool A, .int .u32 a0, .int .u32 a1, .int .u32 0, .int .u32 0]] w (Ret w (.tuple #[.int .i64 (nov A a0 a1), .bool true])) := by
  have H := Lib.hid h
  have hk : KW w.heap.size w A a0 a1 (w.alloc (.cells #[.bool A, .int .u32 a0, .int .u32 a1, .int .u32 0, .int .u32 0] 97)) := ⟨Row.made w (wdc A a0 a1) _, (Below.refl _ _).alloc (Nat.le_refl _) _⟩
  have HK := Lib.hid hk
  obtain ⟨V, hV⟩ : ∃ V, nov A a0 a1 = V := ⟨_, rfl⟩
  have hW := hV
  rw [hV]
  unfold nov jo at hW
  have HW := Lib.hid hW
  clear h hk hV hW
  rcases hC1 with rfl | rfl <;> rcases hC2 with rfl | rfl
  all_goals
    go_enter Tryz.func150, Tryz.ntmps150
    go_wp2
    have hks := HK.out.drew.kept
    go_region_held3 (fun w' => w'.cell? ⟨w.heap.size, 0, none⟩ = some (.bool A) ∧ w'.cell? ⟨w.heap.size, 1, none⟩ = some (.int .u32 a0) ∧ w'.cell? ⟨w.heap.size, 2, none⟩ = some (.int .u32 a1) ∧ w'.cell? ⟨w.heap.size, 3, none⟩ = some (.int .u32 0) ∧ w'.cell? ⟨w.heap.size, 4, none⟩ = some (.int .u32 0) ∧ KW w.heap.size w A a0 a1 w') (first | assumption | exact (KW.below (KW.of (by assumption)) hb).kept | exact HK.out.drew.kept)
      (first
        | (go_at_call 80; refine (wide_of _ (by decide) _).mono ?_; rintro e w' ⟨rfl, hb⟩)
        | (go_at_call 149; refine (H.out _ (by decide) _).mono ?_; rintro e w' ⟨rfl, hb⟩; simp only [cm2_lo, cm2_hi]))
    all_goals go_wp2
    all_goals
      rename_i hA
      have hW := HW.out
      rw [hA] at hW
      simp only [Bool.false_eq_true, if_true, if_false] at hW
      exact bodyPost_ret (v := .tuple #[.int .i64 V, .bool true]) (by simp [results, Tryz.results150, go_sem, hW]) rfl ⟨rfl, (KW.of (by assumption)).bel⟩
end Go.Proofs.YtcmplcdbkoodpaaGreatDoor
