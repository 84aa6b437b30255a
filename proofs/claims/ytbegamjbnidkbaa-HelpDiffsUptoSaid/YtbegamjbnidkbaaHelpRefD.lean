/-
  The reference's Diff.
-/
import Derived.Test.YtbegamjbnidkbaaHelpC
namespace Go.Proofs.Ytbegamjbnidkbaa
open Go.RowKit
set_option linter.unusedVariables false

theorem cmpv_cons (x y : Int) (xs ys : List Int) : cmpv (x :: xs) (y :: ys) = if x < y then -1 else if y < x then 1 else cmpv xs ys := rfl
theorem cmpv_self : ∀ xs : List Int, cmpv xs xs = 0
  | [] => rfl
  | x :: xs => by rw [cmpv_cons, if_neg (by omega), if_neg (by omega)]; exact cmpv_self xs
theorem drop_at (xs : List Int) (i : Nat) (hi : i < xs.length) : xs.drop i = xs.getD i 0 :: xs.drop (i + 1) := by
  rw [List.drop_eq_getElem_cons hi]
  simp [List.getD, hi]
def cmpF (xs ys : List Int) (i : Nat) : Int := cmpv (xs.drop i) (ys.drop i)
theorem cmpF_both (xs ys : List Int) (i : Nat) (h1 : i < xs.length) (h2 : i < ys.length) : cmpF xs ys i = if xs.getD i 0 < ys.getD i 0 then -1 else if ys.getD i 0 < xs.getD i 0 then 1 else cmpF xs ys (i + 1) := by
  unfold cmpF
  rw [drop_at xs i h1, drop_at ys i h2, cmpv_cons]
theorem cmpF_left (xs ys : List Int) (i : Nat) (h1 : i < xs.length) (h2 : ¬ i < ys.length) : cmpF xs ys i = 1 := by
  unfold cmpF
  rw [drop_at xs i h1, List.drop_eq_nil_of_le (show ys.length ≤ i by omega)]
  rfl
theorem cmpF_right (xs ys : List Int) (i : Nat) (h1 : ¬ i < xs.length) (h2 : i < ys.length) : cmpF xs ys i = -1 := by
  unfold cmpF
  rw [drop_at ys i h2, List.drop_eq_nil_of_le (show xs.length ≤ i by omega)]
  rfl
theorem cmpF_none (xs ys : List Int) (i : Nat) (h1 : ¬ i < xs.length) (h2 : ¬ i < ys.length) : cmpF xs ys i = 0 := by
  unfold cmpF
  rw [List.drop_eq_nil_of_le (by omega), List.drop_eq_nil_of_le (by omega)]
  rfl

set_option maxHeartbeats 1600000 in
theorem refdiff_of (v v2 : Value) (xs ys : List Int) (hl : xs.length ≤ 281474976710656) (hl2 : ys.length ≤ 281474976710656) (w : World) (h : Held w v xs) (h2 : Held w v2 ys) :
    Calls Try.prog 28 #[v, v2] w fun e w' => e = .returned (.int .i64 (cmpv xs ys)) ∧ w = w' := by
  have hx := h.bytes
  have hy := h2.bytes
  have hsl : ∃ a cap, v = .slice a xs.length cap ∧ ∀ i, i < xs.length → ∃ b off, a = some ⟨b, off, none⟩ ∧ w.cell? ⟨b, off + i, none⟩ = some (.int .u8 (xs.getD i 0)) := by
    obtain ⟨_, ⟨rfl, rfl | ⟨a, cap, rfl, _⟩⟩ | ⟨_, b, off, cap, rfl, _, _, _, hcell⟩⟩ := h
    · exact ⟨_, _, rfl, fun i hi => by simp at hi⟩
    · exact ⟨_, _, rfl, fun i hi => by simp at hi⟩
    · exact ⟨_, _, rfl, fun i hi => ⟨b, off, rfl, hcell i hi⟩⟩
  have hsl2 : ∃ a cap, v2 = .slice a ys.length cap ∧ ∀ i, i < ys.length → ∃ b off, a = some ⟨b, off, none⟩ ∧ w.cell? ⟨b, off + i, none⟩ = some (.int .u8 (ys.getD i 0)) := by
    obtain ⟨_, ⟨rfl, rfl | ⟨a, cap, rfl, _⟩⟩ | ⟨_, b, off, cap, rfl, _, _, _, hcell⟩⟩ := h2
    · exact ⟨_, _, rfl, fun i hi => by simp at hi⟩
    · exact ⟨_, _, rfl, fun i hi => by simp at hi⟩
    · exact ⟨_, _, rfl, fun i hi => ⟨b, off, rfl, hcell i hi⟩⟩
  obtain ⟨a, cap, rfl, hc⟩ := hsl
  obtain ⟨a2, cap2, rfl, hc2⟩ := hsl2
  have hb := cmpF_both xs ys
  have hlf := cmpF_left xs ys
  have hrt := cmpF_right xs ys
  have hno := cmpF_none xs ys
  have hz : cmpF xs ys 0 = cmpv xs ys := rfl
  obtain ⟨n, hn⟩ : ∃ n, n = xs.length := ⟨_, rfl⟩
  obtain ⟨m, hm⟩ : ∃ m, m = ys.length := ⟨_, rfl⟩
  rw [← hn] at hc hl hb hlf hrt hno ⊢
  rw [← hm] at hc2 hl2 hb hlf hrt hno ⊢
  rw [← hz]
  have HC := Lib.hid hc
  have HC2 := Lib.hid hc2
  have HX := Lib.hid hx
  have HY := Lib.hid hy
  have HB := Lib.hid hb
  have HL := Lib.hid hlf
  have HR := Lib.hid hrt
  have HN := Lib.hid hno
  clear hc hc2 hx hy hb hlf hrt hno hz hn hm h h2
  go_enter Try.func28, Try.ntmps28
  go_wp2
  go_loop [5, 6, 7] (fun s _ _ => ∃ i : Nat, (i ≤ n ∨ i ≤ m) ∧ s = .int .i64 i ∧ cmpF xs ys i = cmpF xs ys 0) (fun s _ _ => n + m - (intOf s).toNat)
  case atStart => exact ⟨0, Or.inl (Nat.zero_le _), rfl, rfl⟩
  case round =>
    obtain ⟨i, hi, rfl, hq⟩ := hrel
    have HQ := Lib.hid hq
    clear hq
    by_cases h1 : i < n
    · obtain ⟨b, off, rfl, e1⟩ := HC.out i h1
      have hr := HX.out.at' i
      have hd1 : decide ((i : Int) < (n : Int)) = true := by simpa using h1
      by_cases h2 : i < m
      · obtain ⟨b2, off2, rfl, e2⟩ := HC2.out i h2
        have hr2 := HY.out.at' i
        have hd2 : decide ((i : Int) < (m : Int)) = true := by simpa using h2
        have hs := HB.out i h1 h2
        rw [HQ.out] at hs
        obtain ⟨x, hxx⟩ : ∃ x, x = xs.getD i 0 := ⟨_, rfl⟩
        obtain ⟨y, hyy⟩ : ∃ y, y = ys.getD i 0 := ⟨_, rfl⟩
        rw [← hxx] at hr hs e1
        rw [← hyy] at hr2 hs e2
        clear hxx hyy
        by_cases hlt : x < y
        · rw [if_pos hlt] at hs
          have HS := Lib.hid hs
          clear hs
          go_wp2
          go_ret
          exact ⟨ret_int HS.out.symm, rfl⟩
        · rw [if_neg hlt] at hs
          by_cases hgt : y < x
          · rw [if_pos hgt] at hs
            have HS := Lib.hid hs
            clear hs
            go_wp2
            go_ret
            exact ⟨ret_int HS.out.symm, rfl⟩
          · rw [if_neg hgt] at hs
            have HS := Lib.hid hs
            clear hs
            go_wp2
            go_round
            case rel => exact ⟨i + 1, by omega, by go_num, HS.out.symm⟩
            case measure => (simp [intOf] <;> omega)
      · have hd2 : decide ((i : Int) < (m : Int)) = false := by simpa using h2
        have hs := HL.out i h1 h2
        rw [HQ.out] at hs
        obtain ⟨x, hxx⟩ : ∃ x, x = xs.getD i 0 := ⟨_, rfl⟩
        rw [← hxx] at hr e1
        have HS := Lib.hid hs
        clear hs hxx
        go_wp2
        go_ret
        exact ⟨ret_int HS.out.symm, rfl⟩
    · have hd1 : decide ((i : Int) < (n : Int)) = false := by simpa using h1
      by_cases h2 : i < m
      · obtain ⟨b2, off2, rfl, e2⟩ := HC2.out i h2
        have hr2 := HY.out.at' i
        have hd2 : decide ((i : Int) < (m : Int)) = true := by simpa using h2
        have hs := HR.out i h1 h2
        rw [HQ.out] at hs
        obtain ⟨y, hyy⟩ : ∃ y, y = ys.getD i 0 := ⟨_, rfl⟩
        rw [← hyy] at hr2 e2
        have HS := Lib.hid hs
        clear hs hyy
        go_wp2
        go_ret
        exact ⟨ret_int HS.out.symm, rfl⟩
      · have hd2 : decide ((i : Int) < (m : Int)) = false := by simpa using h2
        have hs := HN.out i h1 h2
        rw [HQ.out] at hs
        have HS := Lib.hid hs
        clear hs
        go_wp2
        go_ret
        exact ⟨ret_int HS.out.symm, rfl⟩
end Go.Proofs.Ytbegamjbnidkbaa
