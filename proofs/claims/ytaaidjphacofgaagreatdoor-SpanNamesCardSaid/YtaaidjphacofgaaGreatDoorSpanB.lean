/-
  Spans: what a span stands for: read, and Has.
-/
import Derived.Test.YtaaidjphacofgaaGreatDoorSpanA
namespace Go.Proofs.YtaaidjphacofgaaGreatDoor
open Go.RowKit
set_option linter.unusedVariables false

/-- Is a span one of the chapter's? -/
def Snd (lo hi : Int) (p q : Bool) : Prop := (p = true → lo = 0) ∧ (q = true → hi = 0) ∧ -1152921504606846976 ≤ lo ∧ lo ≤ 1152921504606846976 ∧ -1152921504606846976 ≤ hi ∧ hi ≤ 1152921504606846976 ∧ (p = false → q = false → lo ≤ hi)
instance (lo hi : Int) (p q : Bool) : Decidable (Snd lo hi p q) := by unfold Snd; exact inferInstance
def elo (lo hi : Int) (p q : Bool) : Int := if Snd lo hi p q then (if p then -9223372036854775808 else lo) else -9223372036854775808
def ehi (lo hi : Int) (p q : Bool) : Int := if Snd lo hi p q then (if q then 9223372036854775807 else hi) else 9223372036854775807
def endv (lo hi : Int) (p q : Bool) : Value := .agg #[.int .i64 (elo lo hi p q), .int .i64 (ehi lo hi p q)]

theorem endv_bad {lo hi : Int} {p q : Bool} (h : ¬ Snd lo hi p q) : endv lo hi p q = .agg #[.int .i64 (-9223372036854775808), .int .i64 9223372036854775807] := by
  unfold endv elo ehi
  rw [if_neg h, if_neg h]
theorem endv_ok {lo hi : Int} {p q : Bool} (h : Snd lo hi p q) : endv lo hi p q = .agg #[.int .i64 (if p then -9223372036854775808 else lo), .int .i64 (if q then 9223372036854775807 else hi)] := by
  unfold endv elo ehi
  rw [if_pos h, if_pos h]
theorem snd_ff (lo hi : Int) : Snd lo hi false false ↔ -1152921504606846976 ≤ lo ∧ lo ≤ 1152921504606846976 ∧ -1152921504606846976 ≤ hi ∧ hi ≤ 1152921504606846976 ∧ lo ≤ hi := by simp [Snd]
theorem snd_ft (lo hi : Int) : Snd lo hi false true ↔ hi = 0 ∧ -1152921504606846976 ≤ lo ∧ lo ≤ 1152921504606846976 := by
  simp [Snd]; omega
theorem snd_tf (lo hi : Int) : Snd lo hi true false ↔ lo = 0 ∧ -1152921504606846976 ≤ hi ∧ hi ≤ 1152921504606846976 := by
  simp [Snd]; omega
theorem snd_tt (lo hi : Int) : Snd lo hi true true ↔ lo = 0 ∧ hi = 0 := by
  simp [Snd]; omega

set_option maxRecDepth 100000 in
set_option maxHeartbeats 1600000 in
theorem read_of (lo hi : Int) (p q : Bool) (w : World) : Calls Tryz.prog 14 #[.agg #[.int .i64 lo, .int .i64 hi, .bool p, .bool q]] w (Ret w (endv lo hi p q)) := by
  obtain ⟨mx, hmx⟩ : ∃ mx : Int, mx = if hi > lo then hi else lo := ⟨_, rfl⟩
  obtain ⟨mn, hmn⟩ : ∃ mn : Int, mn = if hi < lo then hi else lo := ⟨_, rfl⟩
  have hmax : ∀ (ts : Array TypeId) (t : TypeId) (W : World), (Builtin.max_ ts t #[.int .i64 lo, .int .i64 hi]).run Tryz.prog W = .ok (.int .i64 mx) W := fun ts t W => by rw [run_max_int2, hmx]
  have hmin : ∀ (ts : Array TypeId) (t : TypeId) (W : World), (Builtin.min_ ts t #[.int .i64 lo, .int .i64 hi]).run Tryz.prog W = .ok (.int .i64 mn) W := fun ts t W => by rw [run_min_int2, hmn]
  have HX := Lib.hid hmx
  have HN := Lib.hid hmn
  clear hmx hmn
  have hb : ∀ a b c : Obj, Below w.heap.size w (((w.alloc a).alloc b).alloc c) := fun a b c => (((Below.refl w.heap.size w).alloc (Nat.le_refl _) _).alloc (by simp) _).alloc (by simp; omega) _
  have hr : (lo ≤ mx ∧ hi ≤ mx ∧ (mx = lo ∨ mx = hi)) ∧ (mn ≤ lo ∧ mn ≤ hi ∧ (mn = lo ∨ mn = hi)) := by
    have hx := HX.out
    have hn := HN.out
    split at hx <;> split at hn <;> omega
  have HRR := Lib.hid hr
  clear hr
  cases p
  · cases q
    · go_enter Tryz.func14, Tryz.ntmps14
      go_wp2
      all_goals
        have hr := HRR.out
        try simp only [bne_iff_ne, ne_eq, bne_eq_false_iff_eq] at *
        (first
        | (have hs : ¬ Snd lo hi false false := by
             rw [snd_ff]
             omega
           exact bodyPost_ret (v := .agg #[.int .i64 (-9223372036854775808), .int .i64 9223372036854775807]) (by simp [results, Tryz.results14, go_sem]) rfl ⟨by rw [endv_bad hs], hb _ _ _⟩)
        | (have hs : Snd lo hi false false := by
             rw [snd_ff]
             omega
           exact bodyPost_ret (v := .agg #[.int .i64 lo, .int .i64 hi]) (by simp [results, Tryz.results14, go_sem]) rfl ⟨by rw [endv_ok hs]; rfl, hb _ _ _⟩))
    · go_enter Tryz.func14, Tryz.ntmps14
      go_wp2
      all_goals
        have hr := HRR.out
        try simp only [bne_iff_ne, ne_eq, bne_eq_false_iff_eq] at *
        (first
        | (have hs : ¬ Snd lo hi false true := by
             rw [snd_ft]
             omega
           exact bodyPost_ret (v := .agg #[.int .i64 (-9223372036854775808), .int .i64 9223372036854775807]) (by simp [results, Tryz.results14, go_sem]) rfl ⟨by rw [endv_bad hs], hb _ _ _⟩)
        | (have hs : Snd lo hi false true := by
             rw [snd_ft]
             omega
           exact bodyPost_ret (v := .agg #[.int .i64 lo, .int .i64 9223372036854775807]) (by simp [results, Tryz.results14, go_sem]) rfl ⟨by rw [endv_ok hs]; rfl, hb _ _ _⟩))
  · cases q
    · go_enter Tryz.func14, Tryz.ntmps14
      go_wp2
      all_goals
        have hr := HRR.out
        try simp only [bne_iff_ne, ne_eq, bne_eq_false_iff_eq] at *
        (first
        | (have hs : ¬ Snd lo hi true false := by
             rw [snd_tf]
             omega
           exact bodyPost_ret (v := .agg #[.int .i64 (-9223372036854775808), .int .i64 9223372036854775807]) (by simp [results, Tryz.results14, go_sem]) rfl ⟨by rw [endv_bad hs], hb _ _ _⟩)
        | (have hs : Snd lo hi true false := by
             rw [snd_tf]
             omega
           exact bodyPost_ret (v := .agg #[.int .i64 (-9223372036854775808), .int .i64 hi]) (by simp [results, Tryz.results14, go_sem]) rfl ⟨by rw [endv_ok hs]; rfl, hb _ _ _⟩))
    · go_enter Tryz.func14, Tryz.ntmps14
      go_wp2
      all_goals
        have hr := HRR.out
        try simp only [bne_iff_ne, ne_eq, bne_eq_false_iff_eq] at *
        (first
        | (have hs : ¬ Snd lo hi true true := by
             rw [snd_tt]
             omega
           exact bodyPost_ret (v := .agg #[.int .i64 (-9223372036854775808), .int .i64 9223372036854775807]) (by simp [results, Tryz.results14, go_sem]) rfl ⟨by rw [endv_bad hs], hb _ _ _⟩)
        | (have hs : Snd lo hi true true := by
             rw [snd_tt]
             omega
           exact bodyPost_ret (v := .agg #[.int .i64 (-9223372036854775808), .int .i64 9223372036854775807]) (by simp [results, Tryz.results14, go_sem]) rfl ⟨by rw [endv_ok hs]; rfl, hb _ _ _⟩))

end Go.Proofs.YtaaidjphacofgaaGreatDoor
