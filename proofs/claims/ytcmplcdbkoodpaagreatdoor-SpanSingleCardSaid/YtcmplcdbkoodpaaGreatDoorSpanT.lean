/-
  Spans: Swap and Extend: the program's and the reference's are the same, and hold what they promise.
-/
import Derived.Test.YtcmplcdbkoodpaaGreatDoorSpanS
import Derived.Test.YtcmplcdbkoodpaaGreatDoorSwBC
import Derived.Test.YtcmplcdbkoodpaaGreatDoorTurnsA
namespace Go.Proofs.YtcmplcdbkoodpaaGreatDoor
open Go.RowKit
set_option linter.unusedVariables false
set_option linter.unusedSimpArgs false

theorem ofs_snd {a b A B : Int} {P Q : Bool} (hab : a ≤ b) (h : ofs a b = .agg #[.int .i64 A, .int .i64 B, .bool P, .bool Q]) : Snd A B P Q := by
  unfold ofs oflo ofhi at h
  rw [if_neg (by omega)] at h
  simp only [Value.agg.injEq, Array.mk.injEq, List.cons.injEq, Value.int.injEq, Value.bool.injEq, true_and, and_true] at h
  obtain ⟨h1, h2, h3, h4⟩ := h
  subst h3 h4
  unfold Snd
  simp only [decide_eq_true_eq, decide_eq_false_iff_not]
  refine ⟨fun hp => ?_, fun hq => ?_, ?_, ?_, ?_, ?_, fun hp hq => ?_⟩
  · rw [if_pos hp] at h1; exact h1.symm
  · rw [if_pos hq] at h2; exact h2.symm
  all_goals (split at h1 <;> split at h2 <;> (try split at h1) <;> (try split at h2) <;> omega)
theorem ofs_has {a b A B : Int} {P Q : Bool} (h : ofs a b = .agg #[.int .i64 A, .int .i64 B, .bool P, .bool Q]) (x : Int) (hx : -9223372036854775808 ≤ x ∧ x ≤ 9223372036854775807) (hab : a ≤ x ∧ x ≤ b) : hasv A B P Q x = true := by
  have hs := ofs_snd (by omega) h
  unfold ofs oflo ofhi at h
  rw [if_neg (by omega)] at h
  simp only [Value.agg.injEq, Array.mk.injEq, List.cons.injEq, Value.int.injEq, Value.bool.injEq, true_and, and_true] at h
  obtain ⟨h1, h2, h3, h4⟩ := h
  subst h3 h4
  unfold hasv elo ehi
  rw [if_pos hs, if_pos hs]
  simp only [decide_eq_true_eq, Bool.and_eq_true]
  constructor
  · split
    · omega
    · split at h1 <;> (try split at h1) <;> omega
  · split
    · omega
    · split at h2 <;> (try split at h2) <;> omega
theorem has_fullv (x : Int) (h : -9223372036854775808 ≤ x ∧ x ≤ 9223372036854775807) : hasv 0 0 true true x = true := by
  have hs : Snd 0 0 true true := by decide
  unfold hasv elo ehi
  rw [if_pos hs, if_pos hs]
  simp; omega
theorem low_has (E F v : Int) (h : E ≤ v ∧ v ≤ F) : llo E F ≤ v % 4294967296 ∧ v % 4294967296 ≤ lhi E F := by
  unfold llo lhi
  split
  · omega
  · split <;> omega
/-- A call of one number's answer, as a contract. -/
theorem Tells.ret {f : FuncId} {args : Array Value} {v : Int} (h : Tells f args v) (w : World) : Calls Tryz.prog f args w (Ret w (.int .i64 v)) := h w
/-- Swap of one number: both, and where it lies. -/
def SwapB (size : Int) (t : Bool) (a s : Int) : Prop := Tells 48 #[.int .i64 size, .bool t, .int .i64 a] s ∧ Tells 27 #[.int .i64 size, .bool t, .int .i64 a] s
theorem swapB16 (t : Bool) (a : Int) (ra : -9223372036854775808 ≤ a ∧ a ≤ 9223372036854775807) : ∃ s, SwapB 16 t a s ∧ 0 ≤ s ∧ s ≤ 65535 ∧ (t = false → s = a % 65536) := by
  cases t
  · refine ⟨_, ⟨swap_tells (k := 0) (fun w => swap16_false a ra w), fun w => refSwap16_false a w⟩, ?_⟩
    have h := swap_low 2 a (by decide)
    have e : (2 : Int) ^ (8 * 2) = 65536 := rfl
    rw [e] at h
    rw [h]
    omega
  · refine ⟨_, ⟨swap_tells (k := 0) (fun w => swap16_true a ra w), fun w => refSwap16_true a w⟩, ?_⟩
    have h := swp_lt 2 true a
    have e : (256 : Nat) ^ 2 = 65536 := rfl
    rw [e] at h
    rw [IntWalk.wrap64_in _ (by omega)]
    refine ⟨by omega, by omega, fun h => by cases h⟩
theorem swapB32 (t : Bool) (a : Int) (ra : -9223372036854775808 ≤ a ∧ a ≤ 9223372036854775807) : ∃ s, SwapB 32 t a s ∧ 0 ≤ s ∧ s ≤ 4294967295 ∧ (t = false → s = a % 4294967296) := by
  cases t
  · refine ⟨_, ⟨swap_tells (k := 0) (fun w => swap32_false a ra w), fun w => refSwap32_false a w⟩, ?_⟩
    have h := swap_low 4 a (by decide)
    have e : (2 : Int) ^ (8 * 4) = 4294967296 := rfl
    rw [e] at h
    rw [h]
    omega
  · refine ⟨_, ⟨swap_tells (k := 0) (fun w => swap32_true a ra w), fun w => refSwap32_true a w⟩, ?_⟩
    have h := swp_lt 4 true a
    have e : (256 : Nat) ^ 4 = 4294967296 := rfl
    rw [e] at h
    rw [IntWalk.wrap64_in _ (by omega)]
    refine ⟨by omega, by omega, fun h => by cases h⟩
theorem wrap64_rng (x : Int) : -9223372036854775808 ≤ wrap64 x ∧ wrap64 x ≤ 9223372036854775807 := by unfold wrap64; omega
theorem swapB64 (t : Bool) (a : Int) (ra : -9223372036854775808 ≤ a ∧ a ≤ 9223372036854775807) : ∃ s, SwapB 64 t a s ∧ (-9223372036854775808 ≤ s ∧ s ≤ 9223372036854775807) ∧ (t = false → s = a) := by
  cases t
  · refine ⟨_, ⟨swap_tells (k := 0) (fun w => swap64_false a ra w), fun w => refSwap64_false a w⟩, ?_⟩
    rw [swap_64 a ra]
    exact ⟨ra, fun _ => rfl⟩
  · exact ⟨_, ⟨swap_tells (k := 0) (fun w => swap64_true a ra w), fun w => refSwap64_true a w⟩, wrap64_rng _, fun h => by cases h⟩
theorem swapB_other (size : Int) (t : Bool) (a : Int) (h : size ≠ 16 ∧ size ≠ 32 ∧ size ≠ 64) : SwapB size t a 0 :=
  ⟨swap_tells (k := 0) (fun w => swap_other size t a h w), fun w => (refSwap_other size t a h w).mono fun e w' ⟨he, hw⟩ => ⟨he, hw ▸ Below.refl _ _⟩⟩
/-- Extend of one number. -/
def ExtB (size : Int) (t : Bool) (a s : Int) : Prop := Tells 56 #[.int .i64 size, .bool t, .int .i64 a] s ∧ Tells 28 #[.int .i64 size, .bool t, .int .i64 a] s
theorem i8v (a : Int) : IntKind.i8.wrap a = if a % 256 ≥ 128 then a % 256 - 256 else a % 256 := by simp [IntKind.wrap, IntKind.bits, IntKind.signed]
theorem i16v (a : Int) : IntKind.i16.wrap a = if a % 65536 ≥ 32768 then a % 65536 - 65536 else a % 65536 := by simp [IntKind.wrap, IntKind.bits, IntKind.signed]
theorem ext8v (a : Int) : ext 8 a = if a % 256 ≥ 128 then a % 256 - 256 else a % 256 := by
  rw [← ext8, i8v, IntWalk.wrap64_in _ (by split <;> omega)]
theorem ext16v (a : Int) : ext 16 a = if a % 65536 ≥ 32768 then a % 65536 - 65536 else a % 65536 := by
  rw [← ext16, i16v, IntWalk.wrap64_in _ (by split <;> omega)]
theorem ext32v (a : Int) : ext 32 a = if a % 4294967296 ≥ 2147483648 then a % 4294967296 - 4294967296 else a % 4294967296 := by
  rw [← ext32]
  have h : wrap32 a = if a % 4294967296 ≥ 2147483648 then a % 4294967296 - 4294967296 else a % 4294967296 := by unfold wrap32; omega
  rw [h, IntWalk.wrap64_in _ (by split <;> omega)]
theorem extB8f (a : Int) : ∃ s, ExtB 8 false a s ∧ -128 ≤ s ∧ s ≤ 127 ∧ (-128 ≤ a → a ≤ 127 → s = a) := by
  refine ⟨ext 8 a, ⟨Tells.same (extend_wide8 a), refExtend_wide8 a⟩, ?_⟩
  rw [ext8v]
  split <;> omega
theorem extB8t (a : Int) : ∃ s, ExtB 8 true a s ∧ 0 ≤ s ∧ s ≤ 4294967295 ∧ (0 ≤ a → a ≤ 127 → s = a) ∧ (-128 ≤ a → a < 0 → s = a + 4294967296) := by
  refine ⟨ext 8 a % 4294967296, ⟨Tells.same (extend_nar8 a), refExtend_nar8 a⟩, ?_⟩
  rw [ext8v]
  split <;> omega
theorem extB16f (a : Int) : ∃ s, ExtB 16 false a s ∧ -32768 ≤ s ∧ s ≤ 32767 ∧ (-32768 ≤ a → a ≤ 32767 → s = a) := by
  refine ⟨ext 16 a, ⟨Tells.same (extend_wide16 a), refExtend_wide16 a⟩, ?_⟩
  rw [ext16v]
  split <;> omega
theorem extB16t (a : Int) : ∃ s, ExtB 16 true a s ∧ 0 ≤ s ∧ s ≤ 4294967295 ∧ (0 ≤ a → a ≤ 32767 → s = a) ∧ (-32768 ≤ a → a < 0 → s = a + 4294967296) := by
  refine ⟨ext 16 a % 4294967296, ⟨Tells.same (extend_nar16 a), refExtend_nar16 a⟩, ?_⟩
  rw [ext16v]
  split <;> omega
theorem extB32f (a : Int) : ∃ s, ExtB 32 false a s ∧ -2147483648 ≤ s ∧ s ≤ 2147483647 ∧ (-2147483648 ≤ a → a ≤ 2147483647 → s = a) := by
  refine ⟨ext 32 a, ⟨Tells.same (extend_wide32 a), refExtend_wide32 a⟩, ?_⟩
  rw [ext32v]
  split <;> omega
theorem extB_other (size : Int) (t : Bool) (a : Int) (h8 : size ≠ 8) (h16 : size ≠ 16) (h32 : size ≠ 32 ∨ t = true) : ExtB size t a 0 := by
  refine ⟨?_, Tells.same (refExtend_none size t a h8 h16 h32)⟩
  rcases h32 with h | rfl
  · exact Tells.same (extend_none size t a h8 h16 h)
  · by_cases h : size = 32
    · subst h; exact Tells.same (extend_nar32 a)
    · exact Tells.same (extend_none size true a h8 h16 h)

/-- What both answer of a span, and that it holds what the numbers give. -/
def SwapS (size : Int) (t : Bool) (lo hi : Int) (p q : Bool) : Prop := ∃ A B P Q,
  (∀ w, Calls Tryz.prog 22 #[.int .i64 size, .bool t, .agg #[.int .i64 lo, .int .i64 hi, .bool p, .bool q]] w (Ret w (.agg #[.int .i64 A, .int .i64 B, .bool P, .bool Q]))) ∧
  (∀ w, Calls Tryz.prog 23 #[.int .i64 size, .bool t, .agg #[.int .i64 lo, .int .i64 hi, .bool p, .bool q]] w (Ret w (.agg #[.int .i64 A, .int .i64 B, .bool P, .bool Q]))) ∧
  Snd A B P Q ∧ ∀ v, (-9223372036854775808 ≤ v ∧ v ≤ 9223372036854775807) → elo lo hi p q ≤ v → v ≤ ehi lo hi p q → ∃ s, SwapB size t v s ∧ hasv A B P Q s = true

/-- What both answer of a span, and that it holds what the numbers give. -/
def ExtS (size : Int) (t : Bool) (lo hi : Int) (p q : Bool) : Prop := ∃ A B P Q,
  (∀ w, Calls Tryz.prog 24 #[.int .i64 size, .bool t, .agg #[.int .i64 lo, .int .i64 hi, .bool p, .bool q]] w (Ret w (.agg #[.int .i64 A, .int .i64 B, .bool P, .bool Q]))) ∧
  (∀ w, Calls Tryz.prog 25 #[.int .i64 size, .bool t, .agg #[.int .i64 lo, .int .i64 hi, .bool p, .bool q]] w (Ret w (.agg #[.int .i64 A, .int .i64 B, .bool P, .bool Q]))) ∧
  Snd A B P Q ∧ ∀ v, (-9223372036854775808 ≤ v ∧ v ≤ 9223372036854775807) → elo lo hi p q ≤ v → v ≤ ehi lo hi p q → ∃ s, ExtB size t v s ∧ hasv A B P Q s = true

theorem full_snd : Snd 0 0 true true := by decide
set_option maxHeartbeats 1600000 in
theorem swap_spans (size : Int) (t : Bool) (lo hi : Int) (p q : Bool) : SwapS size t lo hi p q := by
  unfold SwapS
  have hrg := ends_rng lo hi p q
  have hle := ends_le lo hi p q
  have hrp := fun w => read_of lo hi p q w
  have hrr := fun w => rends_of lo hi p q w
  have hrd := fun w => rread_of lo hi p q w
  rw [read_all] at hrd
  have hsr := fun w => rsingle_of lo hi p q w
  have hslp := fun w => slow_of lo hi p q w
  have hslr := fun w => rlow_of lo hi p q w
  unfold endv at hrp hrr
  unfold lowv at hslp hslr
  obtain ⟨E, hE⟩ : ∃ E, E = elo lo hi p q := ⟨_, rfl⟩
  obtain ⟨F, hF⟩ : ∃ F, F = ehi lo hi p q := ⟨_, rfl⟩
  have hss := fun w => single_of E F w
  rw [← hE, ← hF] at hrp hrr hrd hsr hslp hslr hrg hle ⊢
  clear hE hF
  by_cases hz : size ≠ 16 ∧ size ≠ 32 ∧ size ≠ 64
  · refine ⟨0, 0, true, true, fun w => swap_leaf_other size t lo hi p q E F 0 0 true true hrp (by simpa using hz.1) (by simpa using hz.2.1) (by simpa using hz.2.2) full_of w, fun w => rswap_leaf_other size t lo hi p q E F 0 0 true true hrr (by simpa using hz.1) (by simpa using hz.2.1) (by simpa using hz.2.2) reffull_of w, full_snd, fun v rv _ _ => ⟨0, swapB_other size t v hz, by decide⟩⟩
  by_cases hs : E = F
  · have hss' : ∀ w, Calls Tryz.prog 30 #[.agg #[.int .i64 E, .int .i64 F]] w (Ret w (.bool true)) := fun w => by have h := hss w; rw [show (E == F) = true by simpa using hs] at h; exact h
    have hsr' : ∀ w, Calls Tryz.prog 52 #[.agg #[.int .i64 lo, .int .i64 hi, .bool p, .bool q]] w (Ret w (.bool true)) := fun w => by have h := hsr w; rw [show (E == F) = true by simpa using hs] at h; exact h
    have hsz : size = 16 ∨ size = 32 ∨ size = 64 := by omega
    have key : ∀ s, SwapB size t E s → (-9223372036854775808 ≤ s ∧ s ≤ 9223372036854775807) → ∃ A B P Q,
        (∀ w, Calls Tryz.prog 22 #[.int .i64 size, .bool t, .agg #[.int .i64 lo, .int .i64 hi, .bool p, .bool q]] w (Ret w (.agg #[.int .i64 A, .int .i64 B, .bool P, .bool Q]))) ∧
        (∀ w, Calls Tryz.prog 23 #[.int .i64 size, .bool t, .agg #[.int .i64 lo, .int .i64 hi, .bool p, .bool q]] w (Ret w (.agg #[.int .i64 A, .int .i64 B, .bool P, .bool Q]))) ∧
        Snd A B P Q ∧ ∀ v, (-9223372036854775808 ≤ v ∧ v ≤ 9223372036854775807) → E ≤ v → v ≤ F → ∃ s, SwapB size t v s ∧ hasv A B P Q s = true := by
      intro s hB hr
      obtain ⟨A, B, P, Q, ho⟩ := ofs_form s s
      have hof := fun w => of_of s s w
      have hsp := fun w => rspan_of s s hr hr (Int.le_refl _) w
      rw [ho] at hof hsp
      refine ⟨A, B, P, Q, ?_, ?_, ofs_snd (Int.le_refl _) ho, fun v _ h1 h2 => ⟨s, by rw [show v = E by omega]; exact hB, ofs_has ho s hr ⟨Int.le_refl _, Int.le_refl _⟩⟩⟩
      · intro w
        rcases hsz with rfl | rfl | rfl <;> cases t
        · exact swap_one_16_false s lo hi p q E F A B P Q hrp hss' hB.1.ret hof w
        · exact swap_one_16_true s lo hi p q E F A B P Q hrp hss' hB.1.ret hof w
        · exact swap_one_32_false s lo hi p q E F A B P Q hrp hss' hB.1.ret hof w
        · exact swap_one_32_true s lo hi p q E F A B P Q hrp hss' hB.1.ret hof w
        · exact swap_one_64_false s lo hi p q E F A B P Q hrp hss' hB.1.ret hof w
        · exact swap_one_64_true s lo hi p q E F A B P Q hrp hss' hB.1.ret hof w
      · intro w
        rcases hsz with rfl | rfl | rfl <;> cases t
        · exact rswap_one_16_false s lo hi p q E F A B P Q hrr hsr' hB.2.ret hsp w
        · exact rswap_one_16_true s lo hi p q E F A B P Q hrr hsr' hB.2.ret hsp w
        · exact rswap_one_32_false s lo hi p q E F A B P Q hrr hsr' hB.2.ret hsp w
        · exact rswap_one_32_true s lo hi p q E F A B P Q hrr hsr' hB.2.ret hsp w
        · exact rswap_one_64_false s lo hi p q E F A B P Q hrr hsr' hB.2.ret hsp w
        · exact rswap_one_64_true s lo hi p q E F A B P Q hrr hsr' hB.2.ret hsp w
    rcases hsz with rfl | rfl | rfl
    · obtain ⟨s, hB, g1, g2, _⟩ := swapB16 t E hrg.1
      exact key s hB (by omega)
    · obtain ⟨s, hB, g1, g2, _⟩ := swapB32 t E hrg.1
      exact key s hB (by omega)
    · obtain ⟨s, hB, g1, _⟩ := swapB64 t E hrg.1
      exact key s hB g1
  have hss' : ∀ w, Calls Tryz.prog 30 #[.agg #[.int .i64 E, .int .i64 F]] w (Ret w (.bool false)) := fun w => by have h := hss w; rw [show (E == F) = false by simpa using hs] at h; exact h
  have hsr' : ∀ w, Calls Tryz.prog 52 #[.agg #[.int .i64 lo, .int .i64 hi, .bool p, .bool q]] w (Ret w (.bool false)) := fun w => by have h := hsr w; rw [show (E == F) = false by simpa using hs] at h; exact h
  have hsz : size = 16 ∨ size = 32 ∨ size = 64 := by omega
  have span01 : ∀ b : Int, 0 ≤ b → b ≤ 4294967295 → ∃ A B P Q, ofs 0 b = .agg #[.int .i64 A, .int .i64 B, .bool P, .bool Q] ∧ (∀ w, Calls Tryz.prog 14 #[.int .i64 0, .int .i64 b] w (Ret w (.agg #[.int .i64 A, .int .i64 B, .bool P, .bool Q]))) ∧ (∀ w, Calls Tryz.prog 53 #[.int .i64 0, .int .i64 b] w (Ret w (.agg #[.int .i64 A, .int .i64 B, .bool P, .bool Q]))) := by
    intro b h0 h1
    obtain ⟨A, B, P, Q, ho⟩ := ofs_form 0 b
    have hof := fun w => of_of 0 b w
    have hsp := fun w => rspan_of 0 b (by decide) (by omega) h0 w
    rw [ho] at hof hsp
    exact ⟨A, B, P, Q, ho, hof, hsp⟩
  obtain ⟨A, B, P, Q, ho⟩ := ofs_form E F
  have hspn := fun w => spn_of E F w
  rw [ho] at hspn hrd
  rcases hsz with rfl | rfl | rfl
  · cases t
    · by_cases hin : 0 ≤ E ∧ F ≤ 65535
      · refine ⟨A, B, P, Q, fun w => swap_many_16_in lo hi p q E F A B P Q hrp hss' (fun w => by have h := in_of E F 0 65535 w; rw [show (decide (0 ≤ E) && decide (F ≤ 65535)) = true by simpa using hin] at h; exact h) hspn w, fun w => rswap_many_16_in lo hi p q E F A B P Q hrr (by simpa using hin.1) (by simpa using hin.2) hsr' hrd w, ofs_snd hle ho, fun v rv h1 h2 => ?_⟩
        obtain ⟨s, hB, g1, g2, g3⟩ := swapB16 false v rv
        exact ⟨s, hB, ofs_has ho s (by omega) (by rw [g3 rfl]; omega)⟩
      · obtain ⟨A1, B1, P1, Q1, ho1, hof, hsp⟩ := span01 65535 (by decide) (by decide)
        refine ⟨A1, B1, P1, Q1, fun w => swap_many_16_out lo hi p q E F A1 B1 P1 Q1 hrp hss' (fun w => by have h := in_of E F 0 65535 w; rw [show (decide (0 ≤ E) && decide (F ≤ 65535)) = false by simp; omega] at h; exact h) hof w, ?_, ofs_snd (by decide) ho1, fun v rv h1 h2 => ?_⟩
        · intro w
          by_cases h0 : 0 ≤ E
          · exact rswap_many_16_out1 lo hi p q E F A1 B1 P1 Q1 hrr (by simpa using h0) (by simp; omega) hsr' hsp w
          · exact rswap_many_16_out0 lo hi p q E F A1 B1 P1 Q1 hrr (by simpa using h0) hsr' hsp w
        · obtain ⟨s, hB, g1, g2, g3⟩ := swapB16 false v rv
          exact ⟨s, hB, ofs_has ho1 s (by omega) (by omega)⟩
    · obtain ⟨A1, B1, P1, Q1, ho1, hof, hsp⟩ := span01 65535 (by decide) (by decide)
      refine ⟨A1, B1, P1, Q1, fun w => swap_many_16_true lo hi p q E F A1 B1 P1 Q1 hrp hss' hof w, fun w => rswap_many_16_true lo hi p q E F A1 B1 P1 Q1 hrr hsr' hsp w, ofs_snd (by decide) ho1, fun v rv h1 h2 => ?_⟩
      obtain ⟨s, hB, g1, g2, g3⟩ := swapB16 true v rv
      exact ⟨s, hB, ofs_has ho1 s (by omega) (by omega)⟩
  · cases t
    · obtain ⟨A1, B1, P1, Q1, ho1⟩ := ofs_form (llo E F) (lhi E F)
      have hg := low_rng E F hle
      have hsp := fun w => spn_of (llo E F) (lhi E F) w
      rw [ho1] at hsp hslr
      refine ⟨A1, B1, P1, Q1, fun w => swap_many_32_false (llo E F) (lhi E F) lo hi p q E F A1 B1 P1 Q1 hrp hss' (fun w => low_of E F w) hsp w, fun w => rswap_many_32_false lo hi p q E F A1 B1 P1 Q1 hrr hsr' hslr w, ofs_snd hg.2.1 ho1, fun v rv h1 h2 => ?_⟩
      obtain ⟨s, hB, g1, g2, g3⟩ := swapB32 false v rv
      exact ⟨s, hB, ofs_has ho1 s (by omega) (by rw [g3 rfl]; exact low_has E F v ⟨h1, h2⟩)⟩
    · obtain ⟨A1, B1, P1, Q1, ho1, hof, hsp⟩ := span01 4294967295 (by decide) (by decide)
      refine ⟨A1, B1, P1, Q1, fun w => swap_many_32_true lo hi p q E F A1 B1 P1 Q1 hrp hss' hof w, fun w => rswap_many_32_true lo hi p q E F A1 B1 P1 Q1 hrr hsr' hsp w, ofs_snd (by decide) ho1, fun v rv h1 h2 => ?_⟩
      obtain ⟨s, hB, g1, g2, g3⟩ := swapB32 true v rv
      exact ⟨s, hB, ofs_has ho1 s (by omega) (by omega)⟩
  · cases t
    · refine ⟨A, B, P, Q, fun w => swap_many_64_false lo hi p q E F A B P Q hrp hss' hspn w, fun w => rswap_many_64_false lo hi p q E F A B P Q hrr hsr' hrd w, ofs_snd hle ho, fun v rv h1 h2 => ?_⟩
      obtain ⟨s, hB, g1, g3⟩ := swapB64 false v rv
      exact ⟨s, hB, ofs_has ho s (by omega) (by rw [g3 rfl]; omega)⟩
    · refine ⟨0, 0, true, true, fun w => swap_many_64_true lo hi p q E F 0 0 true true hrp hss' full_of w, fun w => rswap_many_64_true lo hi p q E F 0 0 true true hrr hsr' reffull_of w, full_snd, fun v rv h1 h2 => ?_⟩
      obtain ⟨s, hB, g1, g3⟩ := swapB64 true v rv
      exact ⟨s, hB, has_fullv s g1⟩

set_option maxHeartbeats 3200000 in
theorem ext_spans (size : Int) (t : Bool) (lo hi : Int) (p q : Bool) : ExtS size t lo hi p q := by
  unfold ExtS
  have hrg := ends_rng lo hi p q
  have hle := ends_le lo hi p q
  have hrp := fun w => read_of lo hi p q w
  have hrr := fun w => rends_of lo hi p q w
  have hrd := fun w => rread_of lo hi p q w
  rw [read_all] at hrd
  have hsr := fun w => rsingle_of lo hi p q w
  have hslp := fun w => slow_of lo hi p q w
  have hslr := fun w => rlow_of lo hi p q w
  unfold endv at hrp hrr
  unfold lowv at hslp hslr
  obtain ⟨E, hE⟩ : ∃ E, E = elo lo hi p q := ⟨_, rfl⟩
  obtain ⟨F, hF⟩ : ∃ F, F = ehi lo hi p q := ⟨_, rfl⟩
  have hss := fun w => single_of E F w
  rw [← hE, ← hF] at hrp hrr hrd hsr hslp hslr hrg hle ⊢
  clear hE hF hslp hslr
  by_cases hz : size ≠ 8 ∧ size ≠ 16 ∧ (size ≠ 32 ∨ t = true)
  · by_cases h32 : size = 32
    · obtain rfl := h32
      have ht : t = true := hz.2.2.resolve_left (fun h => h rfl)
      subst ht
      exact ⟨0, 0, true, true, fun w => ext_leaf_32t lo hi p q E F 0 0 true true hrp full_of w, fun w => rext_leaf_32t lo hi p q E F 0 0 true true hrr reffull_of w, full_snd, fun v rv _ _ => ⟨0, extB_other 32 true v (by decide) (by decide) (.inr rfl), by decide⟩⟩
    · exact ⟨0, 0, true, true, fun w => ext_leaf_other size t lo hi p q E F 0 0 true true hrp (by simpa using hz.1) (by simpa using hz.2.1) (by simpa using h32) full_of w, fun w => rext_leaf_other size t lo hi p q E F 0 0 true true hrr (by simpa using hz.1) (by simpa using hz.2.1) (by simpa using h32) reffull_of w, full_snd, fun v rv _ _ => ⟨0, extB_other size t v hz.1 hz.2.1 (.inl h32), by decide⟩⟩
  have hsz : (size = 8 ∧ t = false) ∨ (size = 8 ∧ t = true) ∨ (size = 16 ∧ t = false) ∨ (size = 16 ∧ t = true) ∨ (size = 32 ∧ t = false) := by
    cases t <;> simp at hz ⊢ <;> omega
  by_cases hs : E = F
  · have hss' : ∀ w, Calls Tryz.prog 30 #[.agg #[.int .i64 E, .int .i64 F]] w (Ret w (.bool true)) := fun w => by have h := hss w; rw [show (E == F) = true by simpa using hs] at h; exact h
    have hsr' : ∀ w, Calls Tryz.prog 52 #[.agg #[.int .i64 lo, .int .i64 hi, .bool p, .bool q]] w (Ret w (.bool true)) := fun w => by have h := hsr w; rw [show (E == F) = true by simpa using hs] at h; exact h
    have key : ∀ s, ExtB size t E s → (-9223372036854775808 ≤ s ∧ s ≤ 9223372036854775807) → ∃ A B P Q,
        (∀ w, Calls Tryz.prog 24 #[.int .i64 size, .bool t, .agg #[.int .i64 lo, .int .i64 hi, .bool p, .bool q]] w (Ret w (.agg #[.int .i64 A, .int .i64 B, .bool P, .bool Q]))) ∧
        (∀ w, Calls Tryz.prog 25 #[.int .i64 size, .bool t, .agg #[.int .i64 lo, .int .i64 hi, .bool p, .bool q]] w (Ret w (.agg #[.int .i64 A, .int .i64 B, .bool P, .bool Q]))) ∧
        Snd A B P Q ∧ ∀ v, (-9223372036854775808 ≤ v ∧ v ≤ 9223372036854775807) → E ≤ v → v ≤ F → ∃ s, ExtB size t v s ∧ hasv A B P Q s = true := by
      intro s hB hr
      obtain ⟨A, B, P, Q, ho⟩ := ofs_form s s
      have hof := fun w => of_of s s w
      have hsp := fun w => rspan_of s s hr hr (Int.le_refl _) w
      rw [ho] at hof hsp
      refine ⟨A, B, P, Q, ?_, ?_, ofs_snd (Int.le_refl _) ho, fun v _ h1 h2 => ⟨s, by rw [show v = E by omega]; exact hB, ofs_has ho s hr ⟨Int.le_refl _, Int.le_refl _⟩⟩⟩
      · intro w
        rcases hsz with ⟨rfl, rfl⟩ | ⟨rfl, rfl⟩ | ⟨rfl, rfl⟩ | ⟨rfl, rfl⟩ | ⟨rfl, rfl⟩
        · exact ext_one_8_false s lo hi p q E F A B P Q hrp hss' hB.1.ret hof w
        · exact ext_one_8_true s lo hi p q E F A B P Q hrp hss' hB.1.ret hof w
        · exact ext_one_16_false s lo hi p q E F A B P Q hrp hss' hB.1.ret hof w
        · exact ext_one_16_true s lo hi p q E F A B P Q hrp hss' hB.1.ret hof w
        · exact ext_one_32_false s lo hi p q E F A B P Q hrp hss' hB.1.ret hof w
      · intro w
        rcases hsz with ⟨rfl, rfl⟩ | ⟨rfl, rfl⟩ | ⟨rfl, rfl⟩ | ⟨rfl, rfl⟩ | ⟨rfl, rfl⟩
        · exact rext_one_8_false s lo hi p q E F A B P Q hrr hsr' hB.2.ret hsp w
        · exact rext_one_8_true s lo hi p q E F A B P Q hrr hsr' hB.2.ret hsp w
        · exact rext_one_16_false s lo hi p q E F A B P Q hrr hsr' hB.2.ret hsp w
        · exact rext_one_16_true s lo hi p q E F A B P Q hrr hsr' hB.2.ret hsp w
        · exact rext_one_32_false s lo hi p q E F A B P Q hrr hsr' hB.2.ret hsp w
    rcases hsz with ⟨rfl, rfl⟩ | ⟨rfl, rfl⟩ | ⟨rfl, rfl⟩ | ⟨rfl, rfl⟩ | ⟨rfl, rfl⟩
    · obtain ⟨s, hB, g1, g2, _⟩ := extB8f E
      exact key s hB (by omega)
    · obtain ⟨s, hB, g1, g2, _⟩ := extB8t E
      exact key s hB (by omega)
    · obtain ⟨s, hB, g1, g2, _⟩ := extB16f E
      exact key s hB (by omega)
    · obtain ⟨s, hB, g1, g2, _⟩ := extB16t E
      exact key s hB (by omega)
    · obtain ⟨s, hB, g1, g2, _⟩ := extB32f E
      exact key s hB (by omega)
  have hss' : ∀ w, Calls Tryz.prog 30 #[.agg #[.int .i64 E, .int .i64 F]] w (Ret w (.bool false)) := fun w => by have h := hss w; rw [show (E == F) = false by simpa using hs] at h; exact h
  have hsr' : ∀ w, Calls Tryz.prog 52 #[.agg #[.int .i64 lo, .int .i64 hi, .bool p, .bool q]] w (Ret w (.bool false)) := fun w => by have h := hsr w; rw [show (E == F) = false by simpa using hs] at h; exact h
  have spanab : ∀ a b : Int, -9223372036854775808 ≤ a → a ≤ b → b ≤ 4294967295 → ∃ A B P Q, ofs a b = .agg #[.int .i64 A, .int .i64 B, .bool P, .bool Q] ∧ (∀ w, Calls Tryz.prog 14 #[.int .i64 a, .int .i64 b] w (Ret w (.agg #[.int .i64 A, .int .i64 B, .bool P, .bool Q]))) ∧ (∀ w, Calls Tryz.prog 53 #[.int .i64 a, .int .i64 b] w (Ret w (.agg #[.int .i64 A, .int .i64 B, .bool P, .bool Q]))) := by
    intro a b h0 h1 h2
    obtain ⟨A, B, P, Q, ho⟩ := ofs_form a b
    have hof := fun w => of_of a b w
    have hsp := fun w => rspan_of a b (by omega) (by omega) h1 w
    rw [ho] at hof hsp
    exact ⟨A, B, P, Q, ho, hof, hsp⟩
  obtain ⟨A, B, P, Q, ho⟩ := ofs_form E F
  have hspn := fun w => spn_of E F w
  rw [ho] at hspn hrd
  rcases hsz with ⟨rfl, rfl⟩ | ⟨rfl, rfl⟩ | ⟨rfl, rfl⟩ | ⟨rfl, rfl⟩ | ⟨rfl, rfl⟩
  · by_cases hin : -128 ≤ E ∧ F ≤ 127
    · refine ⟨A, B, P, Q, fun w => ext_in_8_false lo hi p q E F A B P Q hrp hss' (fun w => by have h := in_of E F (-128) 127 w; rw [show (decide (-128 ≤ E) && decide (F ≤ 127)) = true by simpa using hin] at h; exact h) hspn w, fun w => rext_in_8_false lo hi p q E F A B P Q hrr (by simpa using hin.1) (by simpa using hin.2) hsr' hrd w, ofs_snd hle ho, fun v rv h1 h2 => ?_⟩
      obtain ⟨s, hB, g1, g2, g3⟩ := extB8f v
      exact ⟨s, hB, ofs_has ho s (by omega) (by rw [g3 (by omega) (by omega)]; omega)⟩
    · obtain ⟨A1, B1, P1, Q1, ho1, hof, hsp⟩ := spanab (-128) 127 (by decide) (by decide) (by decide)
      refine ⟨A1, B1, P1, Q1, fun w => ext_out_8_false_any lo hi p q E F A1 B1 P1 Q1 hrp hss' (fun b => decide (-128 ≤ E) && decide (F ≤ b)) (by simp; omega) (by simp; omega) (fun b w => in_of E F (-128) b w) hof w, ?_, ofs_snd (by decide) ho1, fun v rv h1 h2 => ?_⟩
      · intro w
        by_cases h0 : -128 ≤ E
        · exact rext_out1_8_false lo hi p q E F A1 B1 P1 Q1 hrr (by simpa using h0) (by simp; omega) hsr' hsp w
        · exact rext_out0_8_false lo hi p q E F A1 B1 P1 Q1 hrr (by simpa using h0) hsr' hsp w
      · obtain ⟨s, hB, g1, g2, g3⟩ := extB8f v
        exact ⟨s, hB, ofs_has ho1 s (by omega) (by omega)⟩
  · by_cases hin : -128 ≤ E ∧ F ≤ 127
    · by_cases h0 : 0 ≤ E
      · refine ⟨A, B, P, Q, fun w => ext_in_8_true lo hi p q E F A B P Q hrp (by simpa using h0) hss' (fun w => by have h := in_of E F (-128) 127 w; rw [show (decide (-128 ≤ E) && decide (F ≤ 127)) = true by simpa using hin] at h; exact h) hspn w, fun w => rext_in_8_true lo hi p q E F A B P Q hrr (by simpa using hin.1) (by simpa using hin.2) (by simpa using h0) hsr' hrd w, ofs_snd hle ho, fun v rv h1 h2 => ?_⟩
        obtain ⟨s, hB, g1, g2, g3, g4⟩ := extB8t v
        exact ⟨s, hB, ofs_has ho s (by omega) (by rw [g3 (by omega) (by omega)]; omega)⟩
      · by_cases h3 : F < 0
        · obtain ⟨A1, B1, P1, Q1, ho1, hof, hsp⟩ := spanab (E + 4294967296) (F + 4294967296) (by omega) (by omega) (by omega)
          refine ⟨A1, B1, P1, Q1, fun w => ext_neg_8_true_below (E + 4294967295) (E + 4294967296) (F + 4294967295) (F + 4294967296) lo hi p q E F A1 B1 P1 Q1 hrp (by simpa using h0) (by unfold wrap64; omega) (by unfold wrap64; omega) (by unfold wrap64; omega) (by unfold wrap64; omega) hss' (fun b => decide (-128 ≤ E) && decide (F ≤ b)) (by simp; omega) (by simp; omega) (fun b w => in_of E F (-128) b w) hof w, fun w => rext_below_8_true (E + 4294967295) (E + 4294967296) (F + 4294967295) (F + 4294967296) lo hi p q E F A1 B1 P1 Q1 hrr (by simpa using hin.1) (by simpa using hin.2) (by simpa using h0) (by simpa using h3) (by unfold wrap64; omega) (by unfold wrap64; omega) (by unfold wrap64; omega) (by unfold wrap64; omega) hsr' hsp w, ofs_snd (by omega) ho1, fun v rv h1 h2 => ?_⟩
          obtain ⟨s, hB, g1, g2, g3, g4⟩ := extB8t v
          exact ⟨s, hB, ofs_has ho1 s (by omega) (by rw [g4 (by omega) (by omega)]; omega)⟩
        · obtain ⟨A1, B1, P1, Q1, ho1, hof, hsp⟩ := spanab 0 4294967295 (by decide) (by decide) (by decide)
          refine ⟨A1, B1, P1, Q1, fun w => ext_neg_8_true_any lo hi p q E F A1 B1 P1 Q1 hrp (by simpa using h0) hss' (fun b => decide (-128 ≤ E) && decide (F ≤ b)) (by simp; omega) (by simp; omega) (fun b w => in_of E F (-128) b w) hof w, fun w => rext_mix_8_true lo hi p q E F A1 B1 P1 Q1 hrr (by simpa using hin.1) (by simpa using hin.2) (by simpa using h0) (by simpa using h3) hsr' hsp w, ofs_snd (by decide) ho1, fun v rv h1 h2 => ?_⟩
          obtain ⟨s, hB, g1, g2, g3, g4⟩ := extB8t v
          exact ⟨s, hB, ofs_has ho1 s (by omega) (by omega)⟩
    · obtain ⟨A1, B1, P1, Q1, ho1, hof, hsp⟩ := spanab 0 4294967295 (by decide) (by decide) (by decide)
      refine ⟨A1, B1, P1, Q1, fun w => ext_out_8_true_any lo hi p q E F A1 B1 P1 Q1 hrp hss' (fun b => decide (-128 ≤ E) && decide (F ≤ b)) (by simp; omega) (by simp; omega) (fun b w => in_of E F (-128) b w) hof w, ?_, ofs_snd (by decide) ho1, fun v rv h1 h2 => ?_⟩
      · intro w
        by_cases h0 : -128 ≤ E
        · exact rext_out1_8_true lo hi p q E F A1 B1 P1 Q1 hrr (by simpa using h0) (by simp; omega) hsr' hsp w
        · exact rext_out0_8_true lo hi p q E F A1 B1 P1 Q1 hrr (by simpa using h0) hsr' hsp w
      · obtain ⟨s, hB, g1, g2, g3, g4⟩ := extB8t v
        exact ⟨s, hB, ofs_has ho1 s (by omega) (by omega)⟩
  · by_cases hin : -32768 ≤ E ∧ F ≤ 32767
    · refine ⟨A, B, P, Q, fun w => ext_in_16_false lo hi p q E F A B P Q hrp hss' (fun w => by have h := in_of E F (-32768) 32767 w; rw [show (decide (-32768 ≤ E) && decide (F ≤ 32767)) = true by simpa using hin] at h; exact h) hspn w, fun w => rext_in_16_false lo hi p q E F A B P Q hrr (by simpa using hin.1) (by simpa using hin.2) hsr' hrd w, ofs_snd hle ho, fun v rv h1 h2 => ?_⟩
      obtain ⟨s, hB, g1, g2, g3⟩ := extB16f v
      exact ⟨s, hB, ofs_has ho s (by omega) (by rw [g3 (by omega) (by omega)]; omega)⟩
    · obtain ⟨A1, B1, P1, Q1, ho1, hof, hsp⟩ := spanab (-32768) 32767 (by decide) (by decide) (by decide)
      refine ⟨A1, B1, P1, Q1, fun w => ext_out_16_false_any lo hi p q E F A1 B1 P1 Q1 hrp hss' (fun b => decide (-32768 ≤ E) && decide (F ≤ b)) (by simp; omega) (by simp; omega) (fun b w => in_of E F (-32768) b w) hof w, ?_, ofs_snd (by decide) ho1, fun v rv h1 h2 => ?_⟩
      · intro w
        by_cases h0 : -32768 ≤ E
        · exact rext_out1_16_false lo hi p q E F A1 B1 P1 Q1 hrr (by simpa using h0) (by simp; omega) hsr' hsp w
        · exact rext_out0_16_false lo hi p q E F A1 B1 P1 Q1 hrr (by simpa using h0) hsr' hsp w
      · obtain ⟨s, hB, g1, g2, g3⟩ := extB16f v
        exact ⟨s, hB, ofs_has ho1 s (by omega) (by omega)⟩
  · by_cases hin : -32768 ≤ E ∧ F ≤ 32767
    · by_cases h0 : 0 ≤ E
      · refine ⟨A, B, P, Q, fun w => ext_in_16_true lo hi p q E F A B P Q hrp (by simpa using h0) hss' (fun w => by have h := in_of E F (-32768) 32767 w; rw [show (decide (-32768 ≤ E) && decide (F ≤ 32767)) = true by simpa using hin] at h; exact h) hspn w, fun w => rext_in_16_true lo hi p q E F A B P Q hrr (by simpa using hin.1) (by simpa using hin.2) (by simpa using h0) hsr' hrd w, ofs_snd hle ho, fun v rv h1 h2 => ?_⟩
        obtain ⟨s, hB, g1, g2, g3, g4⟩ := extB16t v
        exact ⟨s, hB, ofs_has ho s (by omega) (by rw [g3 (by omega) (by omega)]; omega)⟩
      · by_cases h3 : F < 0
        · obtain ⟨A1, B1, P1, Q1, ho1, hof, hsp⟩ := spanab (E + 4294967296) (F + 4294967296) (by omega) (by omega) (by omega)
          refine ⟨A1, B1, P1, Q1, fun w => ext_neg_16_true_below (E + 4294967295) (E + 4294967296) (F + 4294967295) (F + 4294967296) lo hi p q E F A1 B1 P1 Q1 hrp (by simpa using h0) (by unfold wrap64; omega) (by unfold wrap64; omega) (by unfold wrap64; omega) (by unfold wrap64; omega) hss' (fun b => decide (-32768 ≤ E) && decide (F ≤ b)) (by simp; omega) (by simp; omega) (fun b w => in_of E F (-32768) b w) hof w, fun w => rext_below_16_true (E + 4294967295) (E + 4294967296) (F + 4294967295) (F + 4294967296) lo hi p q E F A1 B1 P1 Q1 hrr (by simpa using hin.1) (by simpa using hin.2) (by simpa using h0) (by simpa using h3) (by unfold wrap64; omega) (by unfold wrap64; omega) (by unfold wrap64; omega) (by unfold wrap64; omega) hsr' hsp w, ofs_snd (by omega) ho1, fun v rv h1 h2 => ?_⟩
          obtain ⟨s, hB, g1, g2, g3, g4⟩ := extB16t v
          exact ⟨s, hB, ofs_has ho1 s (by omega) (by rw [g4 (by omega) (by omega)]; omega)⟩
        · obtain ⟨A1, B1, P1, Q1, ho1, hof, hsp⟩ := spanab 0 4294967295 (by decide) (by decide) (by decide)
          refine ⟨A1, B1, P1, Q1, fun w => ext_neg_16_true_any lo hi p q E F A1 B1 P1 Q1 hrp (by simpa using h0) hss' (fun b => decide (-32768 ≤ E) && decide (F ≤ b)) (by simp; omega) (by simp; omega) (fun b w => in_of E F (-32768) b w) hof w, fun w => rext_mix_16_true lo hi p q E F A1 B1 P1 Q1 hrr (by simpa using hin.1) (by simpa using hin.2) (by simpa using h0) (by simpa using h3) hsr' hsp w, ofs_snd (by decide) ho1, fun v rv h1 h2 => ?_⟩
          obtain ⟨s, hB, g1, g2, g3, g4⟩ := extB16t v
          exact ⟨s, hB, ofs_has ho1 s (by omega) (by omega)⟩
    · obtain ⟨A1, B1, P1, Q1, ho1, hof, hsp⟩ := spanab 0 4294967295 (by decide) (by decide) (by decide)
      refine ⟨A1, B1, P1, Q1, fun w => ext_out_16_true_any lo hi p q E F A1 B1 P1 Q1 hrp hss' (fun b => decide (-32768 ≤ E) && decide (F ≤ b)) (by simp; omega) (by simp; omega) (fun b w => in_of E F (-32768) b w) hof w, ?_, ofs_snd (by decide) ho1, fun v rv h1 h2 => ?_⟩
      · intro w
        by_cases h0 : -32768 ≤ E
        · exact rext_out1_16_true lo hi p q E F A1 B1 P1 Q1 hrr (by simpa using h0) (by simp; omega) hsr' hsp w
        · exact rext_out0_16_true lo hi p q E F A1 B1 P1 Q1 hrr (by simpa using h0) hsr' hsp w
      · obtain ⟨s, hB, g1, g2, g3, g4⟩ := extB16t v
        exact ⟨s, hB, ofs_has ho1 s (by omega) (by omega)⟩
  · by_cases hin : -2147483648 ≤ E ∧ F ≤ 2147483647
    · refine ⟨A, B, P, Q, fun w => ext_in_32_false lo hi p q E F A B P Q hrp hss' (fun w => by have h := in_of E F (-2147483648) 2147483647 w; rw [show (decide (-2147483648 ≤ E) && decide (F ≤ 2147483647)) = true by simpa using hin] at h; exact h) hspn w, fun w => rext_in_32_false lo hi p q E F A B P Q hrr (by simpa using hin.1) (by simpa using hin.2) hsr' hrd w, ofs_snd hle ho, fun v rv h1 h2 => ?_⟩
      obtain ⟨s, hB, g1, g2, g3⟩ := extB32f v
      exact ⟨s, hB, ofs_has ho s (by omega) (by rw [g3 (by omega) (by omega)]; omega)⟩
    · obtain ⟨A1, B1, P1, Q1, ho1, hof, hsp⟩ := spanab (-2147483648) 2147483647 (by decide) (by decide) (by decide)
      refine ⟨A1, B1, P1, Q1, fun w => ext_out_32_false_any lo hi p q E F A1 B1 P1 Q1 hrp hss' (fun b => decide (-2147483648 ≤ E) && decide (F ≤ b)) (by simp; omega) (by simp; omega) (fun b w => in_of E F (-2147483648) b w) hof w, ?_, ofs_snd (by decide) ho1, fun v rv h1 h2 => ?_⟩
      · intro w
        by_cases h0 : -2147483648 ≤ E
        · exact rext_out1_32_false lo hi p q E F A1 B1 P1 Q1 hrr (by simpa using h0) (by simp; omega) hsr' hsp w
        · exact rext_out0_32_false lo hi p q E F A1 B1 P1 Q1 hrr (by simpa using h0) hsr' hsp w
      · obtain ⟨s, hB, g1, g2, g3⟩ := extB32f v
        exact ⟨s, hB, ofs_has ho1 s (by omega) (by omega)⟩
end Go.Proofs.YtcmplcdbkoodpaaGreatDoor
