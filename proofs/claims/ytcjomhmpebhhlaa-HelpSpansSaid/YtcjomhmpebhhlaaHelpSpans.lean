/-
  HelpSpans: answers lie in the spans that Sig tells; no condition.
-/
import Derived.Test.YtcjomhmpebhhlaaHelpD
import Derived.Test.YtcjomhmpebhhlaaPart
import Derived.OpenShut
import Derived.Deep.QuietTactic
import Derived.BigQuiet
import Derived.Deep.RegionHeld3
namespace Go.Proofs.Ytcjomhmpebhhlaa.helpSpans
open Go.ChangeShapes Go.WideShapes Go.ChangeAt Go.RowKit
set_option linter.unusedVariables false

theorem findv_rng (c : Int) : ∀ xs : List Int, -1 ≤ findv xs c ∧ findv xs c ≤ (xs.length : Int) - 1
  | [] => by show -1 ≤ (-1 : Int) ∧ (-1 : Int) ≤ _; simp
  | x :: xs => by
    have ih := findv_rng c xs
    have e : findv (x :: xs) c = if x = c then 0 else if findv xs c = -1 then -1 else findv xs c + 1 := rfl
    rw [e, List.length_cons]
    split
    · omega
    · split <;> omega
theorem cmpv_rng : ∀ xs ys : List Int, -1 ≤ cmpv xs ys ∧ cmpv xs ys ≤ 1
  | [], [] => by decide
  | [], _ :: _ => by show -1 ≤ (-1 : Int) ∧ (-1 : Int) ≤ 1; decide
  | _ :: _, [] => by show -1 ≤ (1 : Int) ∧ (1 : Int) ≤ 1; decide
  | x :: xs, y :: ys => by
    have ih := cmpv_rng xs ys
    rw [show cmpv (x :: xs) (y :: ys) = if x < y then -1 else if y < x then 1 else cmpv xs ys from rfl]
    split
    · omega
    · split <;> omega
theorem sumv_rng {xs : List Int} (h : IsBytes xs) (s : Int) : 0 ≤ sumv xs s ∧ sumv xs s ≤ 65535 := sumN_range h (by omega) _

set_option maxHeartbeats 1600000 in
theorem has_of (lo hi x : Int) (h1 : lo ≤ x) (h2 : x ≤ hi) (w : World) : Calls Try.prog 39 #[.agg #[.int .i64 lo, .int .i64 hi, .bool false, .bool false], .int .i64 x] w fun e w' => e = .returned (.bool true) ∧ Below w.heap.size w w' := by
  have d1 : decide (lo ≤ x) = true := by simpa using h1
  have d2 : decide (x ≤ hi) = true := by simpa using h2
  have hR := Row.made w [.int .i64 lo, .int .i64 hi, .bool false, .bool false] 38
  have hB := (Below.refl w.heap.size w).alloc (Nat.le_refl _) (.cells #[.int .i64 lo, .int .i64 hi, .bool false, .bool false] 38)
  go_enter Try.func39, Try.ntmps39
  go_wp2
  go_ret
  exact ⟨rfl, hB⟩

/-- What stays: the three answers of Sig, the bytes, the halves. -/
def Keep (w : World) (g1 g2 g3 a1 a2 a3 : Nat) (v v1 v2 : Value) (ys y1 y2 : List Int) (w' : World) : Prop :=
  Row w' g1 51 [.slice (some ⟨a1, 0, none⟩) 5 5, .int .i64 0, .int .i64 65535, .bool false, .bool false] ∧ Row w' g2 51 [.slice (some ⟨a2, 0, none⟩) 5 5, .int .i64 (-1), .int .i64 65534, .bool false, .bool false] ∧ Row w' g3 51 [.slice (some ⟨a3, 0, none⟩) 5 5, .int .i64 (-1), .int .i64 1, .bool false, .bool false] ∧ Held w' v ys ∧ Held w' v1 y1 ∧ Held w' v2 y2 ∧ Below w.heap.size w w'
theorem Keep.below {w : World} {g1 g2 g3 a1 a2 a3 : Nat} {v v1 v2 : Value} {ys y1 y2 : List Int} {w1 w2 : World} (h : Keep w g1 g2 g3 a1 a2 a3 v v1 v2 ys y1 y2 w1) (hb : Below w1.heap.size w1 w2) : Keep w g1 g2 g3 a1 a2 a3 v v1 v2 ys y1 y2 w2 := by
  obtain ⟨r1, r2, r3, h1, h2, h3, hB⟩ := h
  exact ⟨r1.below hb r1.lt, r2.below hb r2.lt, r3.below hb r3.lt, h1.below hb (Nat.le_refl _), h2.below hb (Nat.le_refl _), h3.below hb (Nat.le_refl _), hB.trans (hb.mono hB.size)⟩
theorem Keep.held {w : World} {g1 g2 g3 a1 a2 a3 : Nat} {v v1 v2 : Value} {ys y1 y2 : List Int} {w' : World} (h : Keep w g1 g2 g3 a1 a2 a3 v v1 v2 ys y1 y2 w') : Held w' v ys := h.2.2.2.1
theorem Keep.held1 {w : World} {g1 g2 g3 a1 a2 a3 : Nat} {v v1 v2 : Value} {ys y1 y2 : List Int} {w' : World} (h : Keep w g1 g2 g3 a1 a2 a3 v v1 v2 ys y1 y2 w') : Held w' v1 y1 := h.2.2.2.2.1
theorem Keep.held2 {w : World} {g1 g2 g3 a1 a2 a3 : Nat} {v v1 v2 : Value} {ys y1 y2 : List Int} {w' : World} (h : Keep w g1 g2 g3 a1 a2 a3 v v1 v2 ys y1 y2 w') : Held w' v2 y2 := h.2.2.2.2.2.1
/-- The same, with the cells said one by one. -/
def Kept (w : World) (g1 g2 g3 a1 a2 a3 : Nat) (v v1 v2 : Value) (ys y1 y2 : List Int) (w' : World) : Prop :=
  w'.cell? ⟨g1, 1, none⟩ = some (.int .i64 0) ∧ w'.cell? ⟨g1, 2, none⟩ = some (.int .i64 65535) ∧ w'.cell? ⟨g1, 3, none⟩ = some (.bool false) ∧ w'.cell? ⟨g1, 4, none⟩ = some (.bool false) ∧ w'.cell? ⟨g2, 1, none⟩ = some (.int .i64 (-1)) ∧ w'.cell? ⟨g2, 2, none⟩ = some (.int .i64 65534) ∧ w'.cell? ⟨g2, 3, none⟩ = some (.bool false) ∧ w'.cell? ⟨g2, 4, none⟩ = some (.bool false) ∧ w'.cell? ⟨g3, 1, none⟩ = some (.int .i64 (-1)) ∧ w'.cell? ⟨g3, 2, none⟩ = some (.int .i64 1) ∧ w'.cell? ⟨g3, 3, none⟩ = some (.bool false) ∧ w'.cell? ⟨g3, 4, none⟩ = some (.bool false) ∧ Keep w g1 g2 g3 a1 a2 a3 v v1 v2 ys y1 y2 w'
theorem Keep.kept {w : World} {g1 g2 g3 a1 a2 a3 : Nat} {v v1 v2 : Value} {ys y1 y2 : List Int} {w' : World} (h : Keep w g1 g2 g3 a1 a2 a3 v v1 v2 ys y1 y2 w') : w'.cell? ⟨g1, 1, none⟩ = some (.int .i64 0) ∧ w'.cell? ⟨g1, 2, none⟩ = some (.int .i64 65535) ∧ w'.cell? ⟨g1, 3, none⟩ = some (.bool false) ∧ w'.cell? ⟨g1, 4, none⟩ = some (.bool false) ∧ w'.cell? ⟨g2, 1, none⟩ = some (.int .i64 (-1)) ∧ w'.cell? ⟨g2, 2, none⟩ = some (.int .i64 65534) ∧ w'.cell? ⟨g2, 3, none⟩ = some (.bool false) ∧ w'.cell? ⟨g2, 4, none⟩ = some (.bool false) ∧ w'.cell? ⟨g3, 1, none⟩ = some (.int .i64 (-1)) ∧ w'.cell? ⟨g3, 2, none⟩ = some (.int .i64 1) ∧ w'.cell? ⟨g3, 3, none⟩ = some (.bool false) ∧ w'.cell? ⟨g3, 4, none⟩ = some (.bool false) ∧ Keep w g1 g2 g3 a1 a2 a3 v v1 v2 ys y1 y2 w' := by
  have h' := h
  obtain ⟨r1, r2, r3, _⟩ := h
  exact ⟨by simpa using r1.cell 1, by simpa using r1.cell 2, by simpa using r1.cell 3, by simpa using r1.cell 4, by simpa using r2.cell 1, by simpa using r2.cell 2, by simpa using r2.cell 3, by simpa using r2.cell 4, by simpa using r3.cell 1, by simpa using r3.cell 2, by simpa using r3.cell 3, by simpa using r3.cell 4, h'⟩

theorem Keep.of {w : World} {g1 g2 g3 a1 a2 a3 : Nat} {v v1 v2 : Value} {ys y1 y2 : List Int} {w' : World} (h : w'.cell? ⟨g1, 1, none⟩ = some (.int .i64 0) ∧ w'.cell? ⟨g1, 2, none⟩ = some (.int .i64 65535) ∧ w'.cell? ⟨g1, 3, none⟩ = some (.bool false) ∧ w'.cell? ⟨g1, 4, none⟩ = some (.bool false) ∧ w'.cell? ⟨g2, 1, none⟩ = some (.int .i64 (-1)) ∧ w'.cell? ⟨g2, 2, none⟩ = some (.int .i64 65534) ∧ w'.cell? ⟨g2, 3, none⟩ = some (.bool false) ∧ w'.cell? ⟨g2, 4, none⟩ = some (.bool false) ∧ w'.cell? ⟨g3, 1, none⟩ = some (.int .i64 (-1)) ∧ w'.cell? ⟨g3, 2, none⟩ = some (.int .i64 1) ∧ w'.cell? ⟨g3, 3, none⟩ = some (.bool false) ∧ w'.cell? ⟨g3, 4, none⟩ = some (.bool false) ∧ Keep w g1 g2 g3 a1 a2 a3 v v1 v2 ys y1 y2 w') : Keep w g1 g2 g3 a1 a2 a3 v v1 v2 ys y1 y2 w' := h.2.2.2.2.2.2.2.2.2.2.2.2

set_option maxRecDepth 100000 in
set_option maxHeartbeats 6400000 in
theorem walk (bv : Value) (xs : List Int) (hl : xs.length ≤ 140737488351232) (seed : Int) (rs : -9223372036854775808 ≤ seed ∧ seed ≤ 9223372036854775807) (c : Int) (rc : -9223372036854775808 ≤ c ∧ c ≤ 9223372036854775807) (w : World) (h : Held w bv xs) :
    Calls Try.prog 8 #[bv, .int .i64 seed, .int .i64 c] w fun e w' => e = .returned (.bool true) ∧ Below w.heap.size w w' := by
  clear rs rc
  have hx := h.bytes
  obtain ⟨a, cap, rfl, hcap, hcm, htk, hc⟩ := h.open
  obtain ⟨n, hn⟩ : ∃ n, n = xs.length := ⟨_, rfl⟩
  obtain ⟨m, hm⟩ : ∃ m, m = min n 65535 := ⟨_, rfl⟩
  obtain ⟨q, hq⟩ : ∃ q, q = m / 2 := ⟨_, rfl⟩
  obtain ⟨q2, hq2⟩ : ∃ q2, q2 = 2 * q := ⟨_, rfl⟩
  rw [← hn] at hcap hl htk hc ⊢
  have hY := htk m (by omega)
  have hY1 := htk q (by omega)
  have t1 : (m : Int).tdiv 2 = (q : Int) := by rw [hq]; rfl
  have t2 : (m : Int) / 2 = (q : Int) := by omega
  have t3 : (2 : Int) * (q : Int) = (q2 : Int) := by omega
  have hq2m : q2 ≤ cap := by omega
  have hq2q : q ≤ q2 := by omega
  have hmc : m ≤ cap := by omega
  have hY2 : Held w (.slice (if cap = q then a else a.map (·.add (q * 1))) (q2 - q) (cap - q)) ((xs.drop q).take (q2 - q)) := by
    rcases hc with ⟨h0, hc⟩ | ⟨b, off, rfl, hlt, hcell⟩
    · have hq0 : q = 0 := by omega
      have hq20 : q2 = 0 := by omega
      subst hq0 hq20
      rcases hc with ⟨rfl, rfl⟩ | ⟨a', rfl⟩
      · exact held_nil w
      · by_cases hc0 : cap = 0
        · subst hc0
          exact ⟨IsBytes.nil, Or.inl ⟨rfl, Or.inr ⟨_, 0, rfl, by decide⟩⟩⟩
        · rw [if_neg hc0]
          exact ⟨IsBytes.nil, Or.inl ⟨rfl, Or.inr ⟨_, cap, rfl, hcm⟩⟩⟩
    · by_cases hcq : cap = q
      · rw [if_pos hcq]
        have hq0 : q = 0 := by omega
        have hq20 : q2 = 0 := by omega
        subst hq0 hq20 hcq
        exact ⟨IsBytes.nil, Or.inl ⟨rfl, Or.inr ⟨_, _, rfl, by decide⟩⟩⟩
      · rw [if_neg hcq]
        have e : (some (⟨b, off, none⟩ : Addr)).map (·.add (q * 1)) = some ⟨b, off + q, none⟩ := by
          rw [Nat.mul_one]
          show some ((⟨b, off, none⟩ : Addr).add q) = _
          unfold Addr.add; split <;> simp_all
        rw [e]
        exact held_part hx hn hcap hcm hlt hcell q (q2 - q) (by omega)
  unfold maxLen at hcm
  obtain ⟨ys, hys⟩ : ∃ ys, ys = xs.take m := ⟨_, rfl⟩
  obtain ⟨y1, hy1⟩ : ∃ y1, y1 = xs.take q := ⟨_, rfl⟩
  rw [← hys] at hY
  rw [← hy1] at hY1
  have hlen : ys.length = m := by rw [hys, List.length_take]; omega
  have r1 := sumv_rng hY.bytes seed
  have r2 := findv_rng (c % 256) ys
  have r3 := cmpv_rng
  obtain ⟨y2, hy2⟩ : ∃ y2, y2 = (xs.drop q).take (q2 - q) := ⟨_, rfl⟩
  rw [← hy2] at hY2
  have r3 := cmpv_rng y1 y2
  have hl5 : ys.length ≤ 281474976710656 := by omega
  obtain ⟨s1, hs1⟩ : ∃ s1, s1 = sumv ys seed := ⟨_, rfl⟩
  obtain ⟨s2, hs2⟩ : ∃ s2, s2 = findv ys (c % 256) := ⟨_, rfl⟩
  obtain ⟨s3, hs3⟩ : ∃ s3, s3 = cmpv y1 y2 := ⟨_, rfl⟩
  rw [← hs1] at r1
  rw [← hs2, hlen] at r2
  rw [← hs3] at r3
  have hm5 : m ≤ 65535 := by omega
  have hab : (q = 0 ∧ q2 = 0 ∧ cap = 0 ∧ m = 0 ∧ n = 0) ∨ (cap ≠ q ∧ ∃ a', a = some a') := by
    by_cases hcq : cap = q
    · exact Or.inl ⟨by omega, by omega, by omega, by omega, by omega⟩
    · refine Or.inr ⟨hcq, ?_⟩
      rcases hc with ⟨h0, ⟨_, hc⟩ | ⟨a', hc⟩⟩ | ⟨b, off, hc, _⟩
      · omega
      · exact ⟨_, hc⟩
      · exact ⟨_, hc⟩
  have HY := Lib.hid hY
  have HY1 := Lib.hid hY1
  have HY2 := Lib.hid hY2
  have R1 := Lib.hid r1
  have R2 := Lib.hid (show -1 ≤ s2 ∧ s2 ≤ 65534 by omega)
  have R3 := Lib.hid r3
  have HS1 := Lib.hid hs1
  have HS2 := Lib.hid hs2
  have HS3 := Lib.hid hs3
  have HL5 := Lib.hid hl5
  clear hm5 hl5 hY hY1 hY2 r1 r2 r3 hs1 hs2 hs3 hy1 hy2 hys hlen htk hc hx h
  have T1 := Lib.hid t1
  have T2 := Lib.hid t2
  have T3 := Lib.hid t3
  rcases hab with ⟨rfl, rfl, rfl, rfl, rfl⟩ | ⟨hcq, a', rfl⟩
  · clear hn hm hq hq2 t1 t2 t3
    go_enter Try.func8, Try.ntmps8
    go_wp2_with fail
    refine (known_any _).mono ?_
    rintro e w1 ⟨rfl, hB⟩
    have hs := hB.size
    go_wp2_with fail
    refine (sig1 _).mono ?_
    rintro e w2 ⟨a1, rfl, ha1, hA1, hB1⟩
    have hB2 := hB.trans (hB1.mono hs)
    have hs2 := hB2.size
    have r1 := row_new w2 [.slice (some ⟨a1, 0, none⟩) 5 5, .int .i64 0, .int .i64 65535, .bool false, .bool false] 51
    have hB3 := hB2.alloc hs2 (.cells #[.slice (some ⟨a1, 0, none⟩) 5 5, .int .i64 0, .int .i64 65535, .bool false, .bool false] 51)
    have HR1 := Lib.hid r1
    have HB3 := Lib.hid hB3
    clear hB hs ha1 hA1 hB1 hB2 hs2 r1 hB3
    go_wp2_with fail
    refine (sig5 _).mono ?_
    rintro e w3 ⟨a2, rfl, ha2, hA2, hB1⟩
    have hB2 := HB3.out.trans (hB1.mono HB3.out.size)
    have hs2 := hB2.size
    have r1 := (HR1.out.below hB1 HR1.out.lt).alloc (.cells #[.slice (some ⟨a2, 0, none⟩) 5 5, .int .i64 (-1), .int .i64 65534, .bool false, .bool false] 51)
    have r2 := row_new w3 [.slice (some ⟨a2, 0, none⟩) 5 5, .int .i64 (-1), .int .i64 65534, .bool false, .bool false] 51
    have hB3 := hB2.alloc hs2 (.cells #[.slice (some ⟨a2, 0, none⟩) 5 5, .int .i64 (-1), .int .i64 65534, .bool false, .bool false] 51)
    have HR1' := Lib.hid r1
    have HR2 := Lib.hid r2
    have HB4 := Lib.hid hB3
    clear ha2 hA2 hB1 hB2 hs2 r1 r2 hB3 HR1 HB3
    go_wp2_with fail
    refine (sig4 _).mono ?_
    rintro e w4 ⟨a3, rfl, ha3, hA3, hB1⟩
    have hB2 := HB4.out.trans (hB1.mono HB4.out.size)
    have hs2 := hB2.size
    have r1 := (HR1'.out.below hB1 HR1'.out.lt).alloc (.cells #[.slice (some ⟨a3, 0, none⟩) 5 5, .int .i64 (-1), .int .i64 1, .bool false, .bool false] 51)
    have r2 := (HR2.out.below hB1 HR2.out.lt).alloc (.cells #[.slice (some ⟨a3, 0, none⟩) 5 5, .int .i64 (-1), .int .i64 1, .bool false, .bool false] 51)
    have r3 := row_new w4 [.slice (some ⟨a3, 0, none⟩) 5 5, .int .i64 (-1), .int .i64 1, .bool false, .bool false] 51
    have hB3 := hB2.alloc hs2 (.cells #[.slice (some ⟨a3, 0, none⟩) 5 5, .int .i64 (-1), .int .i64 1, .bool false, .bool false] 51)
    have hK : Keep w w2.heap.size w3.heap.size w4.heap.size a1 a2 a3 (.slice a 0 0) (.slice a 0 0) (.slice a 0 0) ys y1 y2 (w4.alloc (.cells #[.slice (some ⟨a3, 0, none⟩) 5 5, .int .i64 (-1), .int .i64 1, .bool false, .bool false] 51)) :=
      ⟨r1, r2, r3, HY.out.below hB3 (Nat.le_refl _), HY1.out.below hB3 (Nat.le_refl _), HY2.out.below hB3 (Nat.le_refl _), hB3⟩
    have HK := Lib.hid hK
    clear ha3 hA3 hB1 hB2 hs2 r1 r2 r3 hB3 HR1' HR2 HB4 hK
    have hw0 : IntKind.i64.wrap 0 = 0 := by decide
    go_wp2

    have hk := HK.out.kept
    go_region_held3 (fun w' => w'.cell? ⟨w2.heap.size, 1, none⟩ = some (.int .i64 0) ∧ w'.cell? ⟨w2.heap.size, 2, none⟩ = some (.int .i64 65535) ∧ w'.cell? ⟨w2.heap.size, 3, none⟩ = some (.bool false) ∧ w'.cell? ⟨w2.heap.size, 4, none⟩ = some (.bool false) ∧ w'.cell? ⟨w3.heap.size, 1, none⟩ = some (.int .i64 (-1)) ∧ w'.cell? ⟨w3.heap.size, 2, none⟩ = some (.int .i64 65534) ∧ w'.cell? ⟨w3.heap.size, 3, none⟩ = some (.bool false) ∧ w'.cell? ⟨w3.heap.size, 4, none⟩ = some (.bool false) ∧ w'.cell? ⟨w4.heap.size, 1, none⟩ = some (.int .i64 (-1)) ∧ w'.cell? ⟨w4.heap.size, 2, none⟩ = some (.int .i64 1) ∧ w'.cell? ⟨w4.heap.size, 3, none⟩ = some (.bool false) ∧ w'.cell? ⟨w4.heap.size, 4, none⟩ = some (.bool false) ∧ Keep w w2.heap.size w3.heap.size w4.heap.size a1 a2 a3 (.slice a 0 0) (.slice a 0 0) (.slice a 0 0) ys y1 y2 w') (first | exact (HK.out.below (Below.refl _ _).drew).kept | exact (Keep.below (Keep.of (by assumption)) h1).kept | assumption)
      (first
        | (go_at_call 37; refine (sum_of _ ys HL5.out seed _ (Keep.held (Keep.of (by assumption)))).mono ?_; rintro e w' ⟨rfl, rfl⟩; rw [← HS1.out])
        | (go_at_call 40; refine (find_of _ ys c _ (Keep.held (Keep.of (by assumption)))).mono ?_; rintro e w' ⟨rfl, rfl⟩; rw [← HS2.out])
        | (go_at_call 41; refine (diff_of _ _ y1 y2 _ (Keep.held1 (Keep.of (by assumption))) (Keep.held2 (Keep.of (by assumption)))).mono ?_; rintro e w' ⟨rfl, rfl⟩; rw [← HS3.out])
        | (go_at_call 39; refine (has_of _ _ _ (by first | exact R1.out.1 | exact R2.out.1 | exact R3.out.1) (by first | exact R1.out.2 | exact R2.out.2 | exact R3.out.2) _).mono ?_; rintro e w' ⟨rfl, h1⟩))
    have hS := by assumption
    have hS := Keep.of hS
    go_wp2
    go_ret
    exact ⟨rfl, hS.2.2.2.2.2.2⟩

  · have hY2 : Held w (.slice (some (a'.add q)) (q2 - q) (cap - q)) y2 := by
      have h2 := HY2.out
      rw [if_neg hcq] at h2
      simp only [Nat.mul_one] at h2
      exact h2
    have HY2 := Lib.hid hY2
    clear hY2
    go_enter Try.func8, Try.ntmps8
    go_wp2_with fail
    refine (known_any _).mono ?_
    rintro e w1 ⟨rfl, hB⟩
    have hs := hB.size
    by_cases hbig : 65535 < n
    · have HM := Lib.hid (show m = 65535 by omega)
      have hbd : decide ((65535 : Int) < (n : Int)) = true := by simp; omega
      clear hn hm hq hq2 t1 t2 t3
      go_wp2_with fail
      have e65 : Value.slice (some a') 65535 cap = Value.slice (some a') m cap := by rw [HM.out]
      simp only [e65]
      clear e65 HM hbd hbig
      refine (sig1 _).mono ?_
      rintro e w2 ⟨a1, rfl, ha1, hA1, hB1⟩
      have hB2 := hB.trans (hB1.mono hs)
      have hs2 := hB2.size
      have r1 := row_new w2 [.slice (some ⟨a1, 0, none⟩) 5 5, .int .i64 0, .int .i64 65535, .bool false, .bool false] 51
      have hB3 := hB2.alloc hs2 (.cells #[.slice (some ⟨a1, 0, none⟩) 5 5, .int .i64 0, .int .i64 65535, .bool false, .bool false] 51)
      have HR1 := Lib.hid r1
      have HB3 := Lib.hid hB3
      clear hB hs ha1 hA1 hB1 hB2 hs2 r1 hB3
      go_wp2_with fail
      refine (sig5 _).mono ?_
      rintro e w3 ⟨a2, rfl, ha2, hA2, hB1⟩
      have hB2 := HB3.out.trans (hB1.mono HB3.out.size)
      have hs2 := hB2.size
      have r1 := (HR1.out.below hB1 HR1.out.lt).alloc (.cells #[.slice (some ⟨a2, 0, none⟩) 5 5, .int .i64 (-1), .int .i64 65534, .bool false, .bool false] 51)
      have r2 := row_new w3 [.slice (some ⟨a2, 0, none⟩) 5 5, .int .i64 (-1), .int .i64 65534, .bool false, .bool false] 51
      have hB3 := hB2.alloc hs2 (.cells #[.slice (some ⟨a2, 0, none⟩) 5 5, .int .i64 (-1), .int .i64 65534, .bool false, .bool false] 51)
      have HR1' := Lib.hid r1
      have HR2 := Lib.hid r2
      have HB4 := Lib.hid hB3
      clear ha2 hA2 hB1 hB2 hs2 r1 r2 hB3 HR1 HB3
      go_wp2_with fail
      refine (sig4 _).mono ?_
      rintro e w4 ⟨a3, rfl, ha3, hA3, hB1⟩
      have hB2 := HB4.out.trans (hB1.mono HB4.out.size)
      have hs2 := hB2.size
      have r1 := (HR1'.out.below hB1 HR1'.out.lt).alloc (.cells #[.slice (some ⟨a3, 0, none⟩) 5 5, .int .i64 (-1), .int .i64 1, .bool false, .bool false] 51)
      have r2 := (HR2.out.below hB1 HR2.out.lt).alloc (.cells #[.slice (some ⟨a3, 0, none⟩) 5 5, .int .i64 (-1), .int .i64 1, .bool false, .bool false] 51)
      have r3 := row_new w4 [.slice (some ⟨a3, 0, none⟩) 5 5, .int .i64 (-1), .int .i64 1, .bool false, .bool false] 51
      have hB3 := hB2.alloc hs2 (.cells #[.slice (some ⟨a3, 0, none⟩) 5 5, .int .i64 (-1), .int .i64 1, .bool false, .bool false] 51)
      have hK : Keep w w2.heap.size w3.heap.size w4.heap.size a1 a2 a3 (.slice (some a') m cap) (.slice (some a') q cap) (.slice (some (a'.add q)) (q2 - q) (cap - q)) ys y1 y2 (w4.alloc (.cells #[.slice (some ⟨a3, 0, none⟩) 5 5, .int .i64 (-1), .int .i64 1, .bool false, .bool false] 51)) :=
        ⟨r1, r2, r3, HY.out.below hB3 (Nat.le_refl _), HY1.out.below hB3 (Nat.le_refl _), HY2.out.below hB3 (Nat.le_refl _), hB3⟩
      have HK := Lib.hid hK
      clear ha3 hA3 hB1 hB2 hs2 r1 r2 r3 hB3 HR1' HR2 HB4 hK
      have t1 := T1.out
      have t2 := T2.out
      have hw2 : IntKind.i64.wrap (2 * (q : Int)) = (q2 : Int) := by rw [T3.out, IntWalk.i64_in _ (by omega)]
      have i0 : (0 : Int) ≤ (q : Int) := by omega
      have i1 : (q : Int) ≤ (cap : Int) := by omega
      have i2 : (q : Int) ≤ (q2 : Int) := by omega
      have i3 : (0 : Int) ≤ (q2 : Int) := by omega
      have i4 : (q2 : Int) ≤ (cap : Int) := by omega
      go_wp2

      have hk := HK.out.kept
      go_region_held3 (fun w' => w'.cell? ⟨w2.heap.size, 1, none⟩ = some (.int .i64 0) ∧ w'.cell? ⟨w2.heap.size, 2, none⟩ = some (.int .i64 65535) ∧ w'.cell? ⟨w2.heap.size, 3, none⟩ = some (.bool false) ∧ w'.cell? ⟨w2.heap.size, 4, none⟩ = some (.bool false) ∧ w'.cell? ⟨w3.heap.size, 1, none⟩ = some (.int .i64 (-1)) ∧ w'.cell? ⟨w3.heap.size, 2, none⟩ = some (.int .i64 65534) ∧ w'.cell? ⟨w3.heap.size, 3, none⟩ = some (.bool false) ∧ w'.cell? ⟨w3.heap.size, 4, none⟩ = some (.bool false) ∧ w'.cell? ⟨w4.heap.size, 1, none⟩ = some (.int .i64 (-1)) ∧ w'.cell? ⟨w4.heap.size, 2, none⟩ = some (.int .i64 1) ∧ w'.cell? ⟨w4.heap.size, 3, none⟩ = some (.bool false) ∧ w'.cell? ⟨w4.heap.size, 4, none⟩ = some (.bool false) ∧ Keep w w2.heap.size w3.heap.size w4.heap.size a1 a2 a3 (.slice (some a') m cap) (.slice (some a') q cap) (.slice (some (a'.add q)) (q2 - q) (cap - q)) ys y1 y2 w') (first | exact (HK.out.below (Below.refl _ _).drew).kept | exact (Keep.below (Keep.of (by assumption)) h1).kept | assumption)
        (first
          | (go_at_call 37; refine (sum_of _ ys HL5.out seed _ (Keep.held (Keep.of (by assumption)))).mono ?_; rintro e w' ⟨rfl, rfl⟩; rw [← HS1.out])
          | (go_at_call 40; refine (find_of _ ys c _ (Keep.held (Keep.of (by assumption)))).mono ?_; rintro e w' ⟨rfl, rfl⟩; rw [← HS2.out])
          | (go_at_call 41; refine (diff_of _ _ y1 y2 _ (Keep.held1 (Keep.of (by assumption))) (Keep.held2 (Keep.of (by assumption)))).mono ?_; rintro e w' ⟨rfl, rfl⟩; rw [← HS3.out])
          | (go_at_call 39; refine (has_of _ _ _ (by first | exact R1.out.1 | exact R2.out.1 | exact R3.out.1) (by first | exact R1.out.2 | exact R2.out.2 | exact R3.out.2) _).mono ?_; rintro e w' ⟨rfl, h1⟩))
      have hS := by assumption
      have hS := Keep.of hS
      go_wp2
      go_ret
      exact ⟨rfl, hS.2.2.2.2.2.2⟩

    · have hm5 : m = n := by omega
      have hbd : decide ((65535 : Int) < (n : Int)) = false := by simp; omega
      clear hn hm hq hq2 t1 t2 t3
      subst hm5
      go_wp2_with fail
      clear hbd hbig
      refine (sig1 _).mono ?_
      rintro e w2 ⟨a1, rfl, ha1, hA1, hB1⟩
      have hB2 := hB.trans (hB1.mono hs)
      have hs2 := hB2.size
      have r1 := row_new w2 [.slice (some ⟨a1, 0, none⟩) 5 5, .int .i64 0, .int .i64 65535, .bool false, .bool false] 51
      have hB3 := hB2.alloc hs2 (.cells #[.slice (some ⟨a1, 0, none⟩) 5 5, .int .i64 0, .int .i64 65535, .bool false, .bool false] 51)
      have HR1 := Lib.hid r1
      have HB3 := Lib.hid hB3
      clear hB hs ha1 hA1 hB1 hB2 hs2 r1 hB3
      go_wp2_with fail
      refine (sig5 _).mono ?_
      rintro e w3 ⟨a2, rfl, ha2, hA2, hB1⟩
      have hB2 := HB3.out.trans (hB1.mono HB3.out.size)
      have hs2 := hB2.size
      have r1 := (HR1.out.below hB1 HR1.out.lt).alloc (.cells #[.slice (some ⟨a2, 0, none⟩) 5 5, .int .i64 (-1), .int .i64 65534, .bool false, .bool false] 51)
      have r2 := row_new w3 [.slice (some ⟨a2, 0, none⟩) 5 5, .int .i64 (-1), .int .i64 65534, .bool false, .bool false] 51
      have hB3 := hB2.alloc hs2 (.cells #[.slice (some ⟨a2, 0, none⟩) 5 5, .int .i64 (-1), .int .i64 65534, .bool false, .bool false] 51)
      have HR1' := Lib.hid r1
      have HR2 := Lib.hid r2
      have HB4 := Lib.hid hB3
      clear ha2 hA2 hB1 hB2 hs2 r1 r2 hB3 HR1 HB3
      go_wp2_with fail
      refine (sig4 _).mono ?_
      rintro e w4 ⟨a3, rfl, ha3, hA3, hB1⟩
      have hB2 := HB4.out.trans (hB1.mono HB4.out.size)
      have hs2 := hB2.size
      have r1 := (HR1'.out.below hB1 HR1'.out.lt).alloc (.cells #[.slice (some ⟨a3, 0, none⟩) 5 5, .int .i64 (-1), .int .i64 1, .bool false, .bool false] 51)
      have r2 := (HR2.out.below hB1 HR2.out.lt).alloc (.cells #[.slice (some ⟨a3, 0, none⟩) 5 5, .int .i64 (-1), .int .i64 1, .bool false, .bool false] 51)
      have r3 := row_new w4 [.slice (some ⟨a3, 0, none⟩) 5 5, .int .i64 (-1), .int .i64 1, .bool false, .bool false] 51
      have hB3 := hB2.alloc hs2 (.cells #[.slice (some ⟨a3, 0, none⟩) 5 5, .int .i64 (-1), .int .i64 1, .bool false, .bool false] 51)
      have hK : Keep w w2.heap.size w3.heap.size w4.heap.size a1 a2 a3 (.slice (some a') m cap) (.slice (some a') q cap) (.slice (some (a'.add q)) (q2 - q) (cap - q)) ys y1 y2 (w4.alloc (.cells #[.slice (some ⟨a3, 0, none⟩) 5 5, .int .i64 (-1), .int .i64 1, .bool false, .bool false] 51)) :=
        ⟨r1, r2, r3, HY.out.below hB3 (Nat.le_refl _), HY1.out.below hB3 (Nat.le_refl _), HY2.out.below hB3 (Nat.le_refl _), hB3⟩
      have HK := Lib.hid hK
      clear ha3 hA3 hB1 hB2 hs2 r1 r2 r3 hB3 HR1' HR2 HB4 hK
      have t1 := T1.out
      have t2 := T2.out
      have hw2 : IntKind.i64.wrap (2 * (q : Int)) = (q2 : Int) := by rw [T3.out, IntWalk.i64_in _ (by omega)]
      have i0 : (0 : Int) ≤ (q : Int) := by omega
      have i1 : (q : Int) ≤ (cap : Int) := by omega
      have i2 : (q : Int) ≤ (q2 : Int) := by omega
      have i3 : (0 : Int) ≤ (q2 : Int) := by omega
      have i4 : (q2 : Int) ≤ (cap : Int) := by omega
      go_wp2

      have hk := HK.out.kept
      go_region_held3 (fun w' => w'.cell? ⟨w2.heap.size, 1, none⟩ = some (.int .i64 0) ∧ w'.cell? ⟨w2.heap.size, 2, none⟩ = some (.int .i64 65535) ∧ w'.cell? ⟨w2.heap.size, 3, none⟩ = some (.bool false) ∧ w'.cell? ⟨w2.heap.size, 4, none⟩ = some (.bool false) ∧ w'.cell? ⟨w3.heap.size, 1, none⟩ = some (.int .i64 (-1)) ∧ w'.cell? ⟨w3.heap.size, 2, none⟩ = some (.int .i64 65534) ∧ w'.cell? ⟨w3.heap.size, 3, none⟩ = some (.bool false) ∧ w'.cell? ⟨w3.heap.size, 4, none⟩ = some (.bool false) ∧ w'.cell? ⟨w4.heap.size, 1, none⟩ = some (.int .i64 (-1)) ∧ w'.cell? ⟨w4.heap.size, 2, none⟩ = some (.int .i64 1) ∧ w'.cell? ⟨w4.heap.size, 3, none⟩ = some (.bool false) ∧ w'.cell? ⟨w4.heap.size, 4, none⟩ = some (.bool false) ∧ Keep w w2.heap.size w3.heap.size w4.heap.size a1 a2 a3 (.slice (some a') m cap) (.slice (some a') q cap) (.slice (some (a'.add q)) (q2 - q) (cap - q)) ys y1 y2 w') (first | exact (HK.out.below (Below.refl _ _).drew).kept | exact (Keep.below (Keep.of (by assumption)) h1).kept | assumption)
        (first
          | (go_at_call 37; refine (sum_of _ ys HL5.out seed _ (Keep.held (Keep.of (by assumption)))).mono ?_; rintro e w' ⟨rfl, rfl⟩; rw [← HS1.out])
          | (go_at_call 40; refine (find_of _ ys c _ (Keep.held (Keep.of (by assumption)))).mono ?_; rintro e w' ⟨rfl, rfl⟩; rw [← HS2.out])
          | (go_at_call 41; refine (diff_of _ _ y1 y2 _ (Keep.held1 (Keep.of (by assumption))) (Keep.held2 (Keep.of (by assumption)))).mono ?_; rintro e w' ⟨rfl, rfl⟩; rw [← HS3.out])
          | (go_at_call 39; refine (has_of _ _ _ (by first | exact R1.out.1 | exact R2.out.1 | exact R3.out.1) (by first | exact R1.out.2 | exact R2.out.2 | exact R3.out.2) _).mono ?_; rintro e w' ⟨rfl, h1⟩))
      have hS := by assumption
      have hS := Keep.of hS
      go_wp2
      go_ret
      exact ⟨rfl, hS.2.2.2.2.2.2⟩



theorem own : ownKnob Try.prog.godebug = none := by kernel_rfl
set_option maxRecDepth 100000 in
theorem lifted (os : Os) (started : os.Started) (H : Type) (enc : TypeId × Value → H) :
    ReturnsInHanded {} Try.checked os 8 .any (Rows.helpSpansSpec.pre6 enc Try.prog Try.f8 Rows.helpSpansRow.domain false) (Rows.helpSpansSpec.post enc Try.prog Try.f8 false true false false) := by
  refine returnsInHanded_of_change_sized (C := Try.checked) own started (by kernel_rfl) Try.func8
    (ChangeSpec.witness6 (enc := enc) (C := Try.checked) false ⟨#[], #[.slice none 0 0, .int .i64 0, .int .i64 0], []⟩ 8 (by kernel_rfl) (by kernel_rfl) (by kernel_rfl) (by kernel_rfl)) ?_
  intro W base args ds gs before hval0 hW hcnd hsz0 _
  have hsz : (DataW.weightsEach Try.prog (Try.f8.params.toList ++ Rows.helpSpansSpec.plain.varTypes Try.prog) (ds ++ gs)).all (· ≤ reachBytes) = true := hsz0
  have hval : ∀ (j : Nat) t v, Try.f8.params[j]? = some t → args[j]? = some v → Value.okWide Try.prog W .any base t v := hval0
  have hW' := hW
  obtain ⟨p, q, hA0, hV, rfl, hfz, hnd⟩ := hW
  have hA : DataW.TrodAll enc Try.prog W 0 (fun _ => true) true Try.f8.params.toList args.toList ds p := hA0
  rw [Try.params8] at hA hval hsz
  obtain ⟨v0, vs0, d0, ds0, p0, q0, hargs, rfl, rfl, h0, r0⟩ := trodAll_cons hA
  obtain ⟨v1, vs1, d1, ds1, p1, q1, rfl, rfl, rfl, h1, r1⟩ := trodAll_cons r0
  obtain ⟨v2, vs2, d2, ds2, p2, q2, rfl, rfl, rfl, h2, r2⟩ := trodAll_cons r1
  obtain ⟨rfl, rfl, rfl⟩ := trodAll_nil r2
  obtain rfl : args = #[v0, v1, v2] := by cases args; simp_all
  obtain ⟨xs0, hX0, hd0⟩ := bytes_arg (hval 0 27 v0 rfl rfl) h0
  have hl0 : xs0.length ≤ 140737488351232 := by
    rcases hd0 with rfl | ⟨spare, rfl⟩
    · simp
    · have := sized_slice hsz (j := 0) (t := 27) (e := 5) rfl rfl Try.underlying27
      rw [show Try.prog.bytesOf 5 = 1 by kernel_rfl] at this
      simp only [lits, List.length_map, reachBytes] at this
      omega
  obtain ⟨a1, rfl, rfl, rfl, w1⟩ := open_int Try.underlying3 (hval 1 3 v1 rfl rfl) h1
  obtain ⟨a2, rfl, rfl, rfl, w2⟩ := open_int Try.underlying3 (hval 2 3 v2 rfl rfl) h2
  refine (walk v0 xs0 (Nat.le_trans hl0 (by decide)) a1 (range_i64 w1) a2 (range_i64 w2) W hX0).mono fun e W' ⟨he, hb⟩ => ?_
  subst he
  exact ⟨_, rfl, law_post (tb := 4) (by kernel_rfl) (by kernel_rfl) rfl Try.underlying4 rfl (fun h => by subst h; rfl) hW' hb⟩

theorem proved : Rows.HelpSpansSaid :=
  OpenClaim.holds_of_wide 8 Try.f8 rfl rfl rfl rfl rfl rfl rfl ⟨rfl, rfl, rfl, rfl, rfl⟩ rfl rfl rfl rfl rfl (by kernel_rfl) Try.func8 (by kernel_rfl)
    (of_decide_eq_true (by kernel_rfl)) (by unfold Func.isWrapper; first | (rw [if_pos (by decide +kernel)]; kernel_rfl) | (rw [if_neg (by decide +kernel)]; exact ⟨rfl, rfl⟩))
    (fun os started H enc _ => lifted os started H enc)
#print axioms proved

end Go.Proofs.Ytcjomhmpebhhlaa.helpSpans
