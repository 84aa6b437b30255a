/-
  HelpOrders: Diff is an order; no condition.
-/
import Derived.Test.YtbegamjbnidkbaaHelpD
import Derived.OpenShut
namespace Go.Proofs.Ytbegamjbnidkbaa.helpOrders
open Go.ChangeShapes Go.WideShapes Go.ChangeAt Go.RowKit
set_option linter.unusedVariables false

theorem cmpv_cons (x y : Int) (xs ys : List Int) : cmpv (x :: xs) (y :: ys) = if x < y then -1 else if y < x then 1 else cmpv xs ys := rfl
theorem cmpv_range : ∀ xs ys : List Int, cmpv xs ys = -1 ∨ cmpv xs ys = 0 ∨ cmpv xs ys = 1
  | [], [] => Or.inr (Or.inl rfl)
  | [], _ :: _ => Or.inl rfl
  | _ :: _, [] => Or.inr (Or.inr rfl)
  | x :: xs, y :: ys => by
    have ih := cmpv_range xs ys
    rw [cmpv_cons]
    split
    · exact Or.inl rfl
    · split
      · exact Or.inr (Or.inr rfl)
      · exact ih
theorem cmpv_swap : ∀ xs ys : List Int, cmpv ys xs = -cmpv xs ys
  | [], [] => rfl
  | [], _ :: _ => rfl
  | _ :: _, [] => rfl
  | x :: xs, y :: ys => by
    have ih := cmpv_swap xs ys
    rw [cmpv_cons, cmpv_cons]
    by_cases h1 : x < y
    · rw [if_pos h1, if_neg (by omega), if_pos h1]; rfl
    · by_cases h2 : y < x
      · rw [if_pos h2, if_neg h1, if_pos h2]
      · rw [if_neg h1, if_neg h2, if_neg h2, if_neg h1, ih]
theorem cmpv_zero : ∀ xs ys : List Int, cmpv xs ys = 0 ↔ xs = ys
  | [], [] => by simp [cmpv]
  | [], _ :: _ => by simp [cmpv]
  | _ :: _, [] => by simp [cmpv]
  | x :: xs, y :: ys => by
    have ih := cmpv_zero xs ys
    rw [cmpv_cons]
    by_cases h1 : x < y
    · rw [if_pos h1]
      exact ⟨fun h => by omega, fun h => by simp at h; omega⟩
    · by_cases h2 : y < x
      · rw [if_neg h1, if_pos h2]
        exact ⟨fun h => by omega, fun h => by simp at h; omega⟩
      · rw [if_neg h1, if_neg h2, ih]
        have : x = y := by omega
        subst this
        simp
theorem cmpv_trans : ∀ xs ys zs : List Int, cmpv xs ys ≤ 0 → cmpv ys zs ≤ 0 → cmpv xs zs ≤ 0 ∧ (cmpv xs zs = 0 → cmpv xs ys = 0 ∧ cmpv ys zs = 0)
  | [], [], [], _, _ => by decide
  | [], [], _ :: _, _, _ => by simp [cmpv]
  | [], _ :: _, [], _, h => by simp [cmpv] at h
  | [], _ :: _, _ :: _, _, _ => by simp [cmpv]
  | _ :: _, [], _, h, _ => by simp [cmpv] at h
  | _ :: _, _ :: _, [], _, h => by simp [cmpv] at h
  | x :: xs, y :: ys, z :: zs, h1, h2 => by
    have ih := cmpv_trans xs ys zs
    rw [cmpv_cons] at h1 h2
    rw [cmpv_cons x z, cmpv_cons x y, cmpv_cons y z]
    by_cases a1 : x < y
    · by_cases b1 : y < z
      · rw [if_pos (show x < z by omega)]
        exact ⟨by omega, fun h => by omega⟩
      · by_cases b2 : z < y
        · rw [if_neg b1, if_pos b2] at h2; omega
        · rw [if_pos (show x < z by omega)]
          exact ⟨by omega, fun h => by omega⟩
    · by_cases a2 : y < x
      · rw [if_neg a1, if_pos a2] at h1; omega
      · have : x = y := by omega
        subst this
        rw [if_neg a1, if_neg a1] at h1
        by_cases b1 : x < z
        · rw [if_pos b1]
          exact ⟨by omega, fun h => by omega⟩
        · by_cases b2 : z < x
          · rw [if_neg b1, if_pos b2] at h2; omega
          · rw [if_neg b1, if_neg b2] at h2
            rw [if_neg b1, if_neg b2, if_neg a1, if_neg a1, if_neg b1, if_neg b2]
            exact ih h1 h2
theorem cmpv_last (xs ys zs : List Int) (h1 : cmpv xs ys ≤ 0) (h2 : cmpv ys zs ≤ 0) : cmpv xs zs = if cmpv xs ys = 0 ∧ cmpv ys zs = 0 then 0 else -1 := by
  obtain ⟨h3, h4⟩ := cmpv_trans xs ys zs h1 h2
  have h5 := cmpv_range xs zs
  split
  · rename_i h
    have e1 := (cmpv_zero _ _).1 h.1
    have e2 := (cmpv_zero _ _).1 h.2
    subst e1 e2
    exact (cmpv_zero _ _).2 rfl
  · rename_i h
    have : cmpv xs zs ≠ 0 := fun h0 => h (h4 h0)
    omega

set_option maxRecDepth 100000 in
set_option maxHeartbeats 3200000 in
theorem walk (av : Value) (xs : List Int) (hl1 : xs.length ≤ 140737488355328) (bv : Value) (ys : List Int) (hl2 : ys.length ≤ 140737488355328) (cv : Value) (zs : List Int) (hl3 : zs.length ≤ 140737488355328) (w : World) (hX : Held w av xs) (hY : Held w bv ys) (hZ : Held w cv zs) :
    Calls Try.prog 12 #[av, bv, cv] w fun e w' => e = .returned (.bool true) ∧ Below w.heap.size w w' := by
  have HX := Lib.hid hX
  have HY := Lib.hid hY
  have HZ := Lib.hid hZ
  clear hX hY hZ hl1 hl2 hl3
  obtain ⟨X, hx⟩ : ∃ X, X = cmpv xs ys := ⟨_, rfl⟩
  obtain ⟨Y, hy⟩ : ∃ Y, Y = cmpv ys zs := ⟨_, rfl⟩
  obtain ⟨Z, hz⟩ : ∃ Z, Z = cmpv xs zs := ⟨_, rfl⟩
  have rX := cmpv_range xs ys
  have rY := cmpv_range ys zs
  rw [← hx] at rX
  rw [← hy] at rY
  have hx1 : -1 ≤ X := by omega
  have hx2 : X ≤ 1 := by omega
  have hsw : cmpv ys xs = -X := by rw [hx]; exact cmpv_swap xs ys
  have hsm : decide (xs = ys) = (X == 0) := by
    rw [Bool.eq_iff_iff]
    simp only [decide_eq_true_eq, beq_iff_eq]
    rw [hx]; exact (cmpv_zero xs ys).symm
  have hlast : X ≤ 0 → Y ≤ 0 → Z = if X = 0 ∧ Y = 0 then 0 else -1 := by rw [hx, hy, hz]; exact cmpv_last xs ys zs
  have haa : cmpv xs xs = 0 := (cmpv_zero xs xs).2 rfl
  have E1 := Lib.hid hx
  have E2 := Lib.hid hy
  have E3 := Lib.hid hz
  have RX := Lib.hid rX
  have RY := Lib.hid rY
  have SW := Lib.hid hsw
  have SM := Lib.hid hsm
  have LA := Lib.hid hlast
  have AA := Lib.hid haa
  have t1 : (-X != -X) = false := by simp
  have t2 : ((X == 0) != (X == 0)) = false := by simp
  clear hx hy hz rX rY hsw hsm hlast haa
  go_enter Try.func12, Try.ntmps12
  go_wp2_with fail
  refine (known_any _).mono ?_
  rintro e w1 ⟨rfl, hB⟩
  have HX := Lib.hid (HX.out.below hB (Nat.le_refl _))
  have HY := Lib.hid (HY.out.below hB (Nat.le_refl _))
  have HZ := Lib.hid (HZ.out.below hB (Nat.le_refl _))
  go_wp2_with fail
  refine (diff_of _ _ _ _ _ HX.out HY.out).mono ?_
  rintro e w2 ⟨rfl, rfl⟩
  rw [← E1.out]
  go_wp2_with fail
  refine (diff_of _ _ _ _ _ HY.out HZ.out).mono ?_
  rintro e w2 ⟨rfl, rfl⟩
  rw [← E2.out]
  go_wp2_with fail
  refine (diff_of _ _ _ _ _ HX.out HZ.out).mono ?_
  rintro e w2 ⟨rfl, rfl⟩
  rw [← E3.out]
  go_wp2_with fail
  refine (diff_of _ _ _ _ _ HY.out HX.out).mono ?_
  rintro e w2 ⟨rfl, rfl⟩
  rw [SW.out]
  go_wp2_with fail
  refine (same_of _ _ _ _ _ HX.out HY.out).mono ?_
  rintro e w2 ⟨rfl, rfl⟩
  rw [SM.out]
  go_wp2_with fail
  refine (diff_of _ _ _ _ _ HX.out HX.out).mono ?_
  rintro e w2 ⟨rfl, rfl⟩
  rw [AA.out]
  have la := LA.out
  clear t1 t2 hx1 hx2 LA SW SM E1 E2 E3
  rcases RX.out with rfl | rfl | rfl
  · rcases RY.out with rfl | rfl | rfl
    · obtain rfl : Z = -1 := by simpa using la
      clear la
      go_wp2
      go_ret
      exact ⟨rfl, hB⟩
    · obtain rfl : Z = -1 := by simpa using la
      clear la
      go_wp2
      go_ret
      exact ⟨rfl, hB⟩
    · clear la
      go_wp2
      go_ret
      exact ⟨rfl, hB⟩
  · rcases RY.out with rfl | rfl | rfl
    · obtain rfl : Z = -1 := by simpa using la
      clear la
      go_wp2
      go_ret
      exact ⟨rfl, hB⟩
    · obtain rfl : Z = 0 := by simpa using la
      clear la
      go_wp2
      go_ret
      exact ⟨rfl, hB⟩
    · clear la
      go_wp2
      go_ret
      exact ⟨rfl, hB⟩
  · clear la
    go_wp2
    go_ret
    exact ⟨rfl, hB⟩


theorem own : ownKnob Try.prog.godebug = none := by kernel_rfl
set_option maxRecDepth 100000 in
theorem lifted (os : Os) (started : os.Started) (H : Type) (enc : TypeId × Value → H) :
    ReturnsInHanded {} Try.checked os 12 .any (Rows.helpOrdersSpec.pre6 enc Try.prog Try.f12 Rows.helpOrdersRow.domain false) (Rows.helpOrdersSpec.post enc Try.prog Try.f12 false true false false) := by
  refine returnsInHanded_of_change_sized (C := Try.checked) own started (by kernel_rfl) Try.func12
    (ChangeSpec.witness6 (enc := enc) (C := Try.checked) false ⟨#[], #[.slice none 0 0, .slice none 0 0, .slice none 0 0], []⟩ 8 (by kernel_rfl) (by kernel_rfl) (by kernel_rfl) (by kernel_rfl)) ?_
  intro W base args ds gs before hval0 hW hcnd hsz0 _
  have hsz : (DataW.weightsEach Try.prog (Try.f12.params.toList ++ Rows.helpOrdersSpec.plain.varTypes Try.prog) (ds ++ gs)).all (· ≤ reachBytes) = true := hsz0
  have hval : ∀ (j : Nat) t v, Try.f12.params[j]? = some t → args[j]? = some v → Value.okWide Try.prog W .any base t v := hval0
  have hW' := hW
  obtain ⟨p, q, hA0, hV, rfl, hfz, hnd⟩ := hW
  have hA : DataW.TrodAll enc Try.prog W 0 (fun _ => true) true Try.f12.params.toList args.toList ds p := hA0
  rw [Try.params12] at hA hval hsz
  obtain ⟨v0, vs0, d0, ds0, p0, q0, hargs, rfl, rfl, h0, r0⟩ := trodAll_cons hA
  obtain ⟨v1, vs1, d1, ds1, p1, q1, rfl, rfl, rfl, h1, r1⟩ := trodAll_cons r0
  obtain ⟨v2, vs2, d2, ds2, p2, q2, rfl, rfl, rfl, h2, r2⟩ := trodAll_cons r1
  obtain ⟨rfl, rfl, rfl⟩ := trodAll_nil r2
  obtain rfl : args = #[v0, v1, v2] := by cases args; simp_all
  obtain ⟨xs0, hX0, hd0⟩ := bytes_arg (hval 0 37 v0 rfl rfl) h0
  have hl0 : xs0.length ≤ 140737488355328 := by
    rcases hd0 with rfl | ⟨spare, rfl⟩
    · simp
    · have := sized_slice hsz (j := 0) (t := 37) (e := 5) rfl rfl Try.underlying37
      rw [show Try.prog.bytesOf 5 = 1 by kernel_rfl] at this
      simp only [lits, List.length_map, reachBytes] at this
      omega
  obtain ⟨xs1, hX1, hd1⟩ := bytes_arg (hval 1 37 v1 rfl rfl) h1
  have hl1 : xs1.length ≤ 140737488355328 := by
    rcases hd1 with rfl | ⟨spare, rfl⟩
    · simp
    · have := sized_slice hsz (j := 1) (t := 37) (e := 5) rfl rfl Try.underlying37
      rw [show Try.prog.bytesOf 5 = 1 by kernel_rfl] at this
      simp only [lits, List.length_map, reachBytes] at this
      omega
  obtain ⟨xs2, hX2, hd2⟩ := bytes_arg (hval 2 37 v2 rfl rfl) h2
  have hl2 : xs2.length ≤ 140737488355328 := by
    rcases hd2 with rfl | ⟨spare, rfl⟩
    · simp
    · have := sized_slice hsz (j := 2) (t := 37) (e := 5) rfl rfl Try.underlying37
      rw [show Try.prog.bytesOf 5 = 1 by kernel_rfl] at this
      simp only [lits, List.length_map, reachBytes] at this
      omega
  refine (walk v0 xs0 hl0 v1 xs1 hl1 v2 xs2 hl2 W hX0 hX1 hX2).mono fun e W' ⟨he, hb⟩ => ?_
  subst he
  exact ⟨_, rfl, law_post (tb := 4) (by kernel_rfl) (by kernel_rfl) rfl Try.underlying4 rfl (fun h => by subst h; rfl) hW' hb⟩

theorem proved : Rows.HelpOrdersSaid :=
  OpenClaim.holds_of_wide 12 Try.f12 rfl rfl rfl rfl rfl rfl rfl ⟨rfl, rfl, rfl, rfl, rfl⟩ rfl rfl rfl rfl rfl (by kernel_rfl) Try.func12 (by kernel_rfl)
    (of_decide_eq_true (by kernel_rfl)) (by unfold Func.isWrapper; first | (rw [if_pos (by decide +kernel)]; kernel_rfl) | (rw [if_neg (by decide +kernel)]; exact ⟨rfl, rfl⟩))
    (fun os started H enc _ => lifted os started H enc)
#print axioms proved

end Go.Proofs.Ytbegamjbnidkbaa.helpOrders
