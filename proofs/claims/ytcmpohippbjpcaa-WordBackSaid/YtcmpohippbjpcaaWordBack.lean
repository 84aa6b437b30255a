/-
  WordBack: numbers into bytes and back, bytes into numbers and back; no condition.
-/
import Derived.Test.YtcmpohippbjpcaaBackA
import Derived.Test.YtcmpohippbjpcaaWordOut
namespace Go.Proofs.Ytcmpohippbjpcaa.wordBack
open Go.ChangeShapes Go.WideShapes Go.ChangeAt Go.RowKit
set_option linter.unusedVariables false

set_option maxRecDepth 100000 in
set_option maxHeartbeats 6400000 in
theorem walk (v : Int) (rv : -9223372036854775808 ≤ v ∧ v ≤ 9223372036854775807) (bv : Value) (xs : List Int) (hl : xs.length ≤ 140737488355328) (w : World) (hX : Held w bv xs) :
    Calls Try.prog 6 #[.int .i64 v, bv] w fun e w' => e = .returned (.bool true) ∧ Below w.heap.size w w' := by
  have HRV := Lib.hid rv
  have HX := Lib.hid hX
  have HL := Lib.hid hl
  clear rv hX hl
  go_enter Try.func6, Try.ntmps6
  go_wp2
  go_loopw [5] (fun s wr => ∃ k : Nat, 1 ≤ k ∧ k ≤ 9 ∧ s = .int .i64 k ∧ Below w.heap.size w wr) (fun s _ => (9 - intOf s).toNat)
  case atStart => exact ⟨1, by decide, by decide, by go_num, Below.refl _ _⟩
  case round =>
    obtain ⟨k, hk1, hk2, rfl, hB⟩ := hrel
    have hs := hB.size
    by_cases hlt : k ≤ 7
    · obtain ⟨X, Y, e1, e2, e3, e4, e5, e6, e7⟩ := backk k hk1 hlt v
      have E1 := Lib.hid e1
      have E2 := Lib.hid e2
      have E3 := Lib.hid e3
      have E4 := Lib.hid e4
      clear e1 e2 e3 e4
      have e8 : (decide (Y < 0) != (X / 2 ^ (8 * k - 1) == 1)) = false := by rw [e7]; simp
      have e5' : decide (Y < wrap64 (-2 ^ (8 * k - 1))) = false := by simpa using e5
      have e6' : decide (wrap64 (2 ^ (8 * k - 1)) ≤ Y) = false := by simpa using e6
      have hv1 : (X != X) = false := by simp
      have hk8 : ((k : Int) == 8) = false := by rw [beq_eq_false_iff_ne]; omega
      have hkk : ((k : Int) != k) = false := by simp
      have hd8 : decide (k < 8) = true := by simp; omega
      go_wp2_with fail
      refine (put_of k k v rfl hk1 (by omega) _).mono ?_
      rintro e w1 ⟨b, rfl, hb, hR, hB1⟩
      have HH := Lib.hid (held_utab hR (by omega))
      have hB := hB.trans (hB1.mono hs)
      have hs := hB.size
      clear hR hB1 hb
      go_wp2_with fail
      refine (copy_of _ _ _ HH.out (by rw [putl_length]; omega)).mono ?_
      rintro e w2 ⟨v2, rfl, hown, hB1⟩
      have HH := Lib.hid (HH.out.below hB1 (Nat.le_refl _))
      have HC := Lib.hid (held_of_own hown (putl_bytes _ _) rfl)
      have hB := hB.trans (hB1.mono hs)
      have hs := hB.size
      clear hown hB1
      go_wp2_with fail
      refine (get_of _ false _ _ HC.out).mono ?_
      rintro e w3 ⟨rfl, rfl⟩
      rw [E1.out]
      go_wp2_with fail
      refine (copy_of _ _ _ HH.out (by rw [putl_length]; omega)).mono ?_
      rintro e w3 ⟨v3, rfl, hown, hB1⟩
      have HC := Lib.hid (held_of_own hown (putl_bytes _ _) rfl)
      have hB := hB.trans (hB1.mono hs)
      have hs := hB.size
      clear hown hB1
      go_wp2_with fail
      refine (get_of _ true _ _ HC.out).mono ?_
      rintro e w4 ⟨rfl, rfl⟩
      rw [E2.out]
      go_simp
      iterate 12 (first | simp only [List.append_eq, List.cons_append, List.nil_append] | go_step)
      go_wp2_with fail
      refine (low_of v (8 * k) (8 * k) (by omega) (by omega) _).mono ?_
      rintro e w5 ⟨rfl, rfl⟩
      rw [E3.out]
      go_wp2_with fail
      refine (low_of Y (8 * k) (8 * k) (by omega) (by omega) _).mono ?_
      rintro e w6 ⟨rfl, rfl⟩
      rw [E4.out]
      go_wp2
      go_roundw
      case rel => exact ⟨k + 1, by omega, by omega, by go_num, hB⟩
      case measure => simp [intOf]; omega
    · by_cases hlt8 : k = 8
      · subst hlt8
        have E := Lib.hid (fun sg => get_put8 v HRV.out sg)
        have hv1 : (v != v) = false := by simp
        go_wp2_with fail
        refine (put_of 8 8 v rfl (by decide) (by decide) _).mono ?_
        rintro e w1 ⟨b, rfl, hb, hR, hB1⟩
        have HH := Lib.hid (held_utab hR (by decide))
        have hB := hB.trans (hB1.mono hs)
        have hs := hB.size
        clear hR hB1 hb
        go_wp2_with fail
        refine (copy_of _ _ _ HH.out (by rw [putl_length]; decide)).mono ?_
        rintro e w2 ⟨v2, rfl, hown, hB1⟩
        have HH := Lib.hid (HH.out.below hB1 (Nat.le_refl _))
        have HC := Lib.hid (held_of_own hown (putl_bytes _ _) rfl)
        have hB := hB.trans (hB1.mono hs)
        have hs := hB.size
        clear hown hB1
        go_wp2_with fail
        refine (get_of _ false _ _ HC.out).mono ?_
        rintro e w3 ⟨rfl, rfl⟩
        rw [E.out]
        go_wp2_with fail
        refine (copy_of _ _ _ HH.out (by rw [putl_length]; decide)).mono ?_
        rintro e w3 ⟨v3, rfl, hown, hB1⟩
        have HC := Lib.hid (held_of_own hown (putl_bytes _ _) rfl)
        have hB := hB.trans (hB1.mono hs)
        have hs := hB.size
        clear hown hB1
        go_wp2_with fail
        refine (get_of _ true _ _ HC.out).mono ?_
        rintro e w4 ⟨rfl, rfl⟩
        rw [E.out]
        go_simp
        iterate 12 (first | simp only [List.append_eq, List.cons_append, List.nil_append] | go_step)
        go_wp2
        go_roundw
        case rel => exact ⟨9, by decide, by decide, rfl, hB⟩
        case measure => simp [intOf]
      · obtain rfl : k = 9 := by omega
        clear hlt hk1 hk2
        have hx := HX.out.bytes
        have HXB := Lib.hid hx
        have HX1 := Lib.hid (HX.out.below hB (Nat.le_refl _))
        obtain ⟨n, hn⟩ : ∃ n, n = xs.length := ⟨_, rfl⟩
        have HN := Lib.hid hn
        have hsl : ∃ a cap, bv = .slice a n cap := by
          obtain ⟨_, ⟨h0, rfl | ⟨a, cap, rfl, _⟩⟩ | ⟨_, b, off, cap, rfl, _⟩⟩ := HX.out
          · subst h0; exact ⟨_, _, by rw [hn]; rfl⟩
          · subst h0; exact ⟨_, _, by rw [hn]; rfl⟩
          · exact ⟨_, _, by rw [hn]⟩
        have hnl : n ≤ 140737488355328 := by rw [hn]; exact HL.out
        clear hx hn
        obtain ⟨a, cap, rfl⟩ := hsl
        by_cases hlen : 1 ≤ n ∧ n ≤ 8
        · obtain ⟨hl1, hl8⟩ := hlen
          have hcc : ∀ sg, putl n (getv sg xs) = xs := fun sg => by
            have := putl_get' xs sg HXB.out (by rw [← HN.out]; exact hl1) (by rw [← HN.out]; exact hl8)
            rwa [← HN.out] at this
          have HCC := Lib.hid hcc
          clear hcc
          go_wp2_with fail
          refine (copy_of _ _ _ HX1.out HL.out).mono ?_
          rintro e wc0 ⟨v2, rfl, hown, hB1⟩
          have HC := Lib.hid (held_of_own hown HXB.out rfl)
          have HX1 := Lib.hid (HX1.out.below hB1 (Nat.le_refl _))
          skip
          have hB := hB.trans (hB1.mono hs)
          have hs := hB.size
          clear hown hB1
          go_wp2_with fail
          refine (get_of _ false _ _ HC.out).mono ?_
          rintro e wg0 ⟨rfl, rfl⟩
          go_wp2_with fail
          refine (put_of n n _ rfl hl1 hl8 _).mono ?_
          rintro e wp0 ⟨b0, rfl, hb, hR, hB1⟩
          have HO0 := Lib.hid (held_utab hR hl8)
          have HX1 := Lib.hid (HX1.out.below hB1 (Nat.le_refl _))
          skip
          have hB := hB.trans (hB1.mono hs)
          have hs := hB.size
          clear hR hB1 hb
          rw [HCC.out] at HO0
          go_wp2_with fail
          refine (copy_of _ _ _ HX1.out HL.out).mono ?_
          rintro e wc1 ⟨v2, rfl, hown, hB1⟩
          have HC := Lib.hid (held_of_own hown HXB.out rfl)
          have HX1 := Lib.hid (HX1.out.below hB1 (Nat.le_refl _))
          have HO0 := Lib.hid (HO0.out.below hB1 (Nat.le_refl _))
          have hB := hB.trans (hB1.mono hs)
          have hs := hB.size
          clear hown hB1
          go_wp2_with fail
          refine (get_of _ true _ _ HC.out).mono ?_
          rintro e wg1 ⟨rfl, rfl⟩
          go_wp2_with fail
          refine (put_of n n _ rfl hl1 hl8 _).mono ?_
          rintro e wp1 ⟨b1, rfl, hb, hR, hB1⟩
          have HO1 := Lib.hid (held_utab hR hl8)
          have HX1 := Lib.hid (HX1.out.below hB1 (Nat.le_refl _))
          have HO0 := Lib.hid (HO0.out.below hB1 (Nat.le_refl _))
          have hB := hB.trans (hB1.mono hs)
          have hs := hB.size
          clear hR hB1 hb
          rw [HCC.out] at HO1
          skip
          go_wp2_with fail
          refine (same_at _ _ _ _ HX1.out HO0.out).mono ?_
          rintro e ws ⟨rfl, rfl⟩
          go_wp2_with fail
          refine (same_at _ _ _ _ HX1.out HO1.out).mono ?_
          rintro e ws ⟨rfl, rfl⟩
          go_wp2
          go_ret
          exact ⟨rfl, hB⟩
        · have h0 : getv true xs = 0 := by
            unfold getv
            rw [if_pos]
            have := HN.out
            by_cases hl : 8 < xs.length
            · exact Or.inr hl
            · exact Or.inl (List.length_eq_zero_iff.1 (by omega))
          have H0 := Lib.hid h0
          clear h0
          have hl2 : n < 1 ∨ 8 < n := by omega
          clear hlen
          rcases hl2 with hl2 | hl2
          all_goals
            go_wp2_with fail
            refine (copy_of _ _ _ HX1.out HL.out).mono ?_
            rintro e wc ⟨v2, rfl, hown, hB1⟩
            have HC := Lib.hid (held_of_own hown HXB.out rfl)
            have hB := hB.trans (hB1.mono hs)
            clear hown hB1
            go_wp2_with fail
            refine (get_of _ true _ _ HC.out).mono ?_
            rintro e wg ⟨rfl, rfl⟩
            rw [H0.out]
            go_wp2
            go_ret
            exact ⟨rfl, hB⟩

theorem own : ownKnob Try.prog.godebug = none := by kernel_rfl
set_option maxRecDepth 100000 in
theorem lifted (os : Os) (started : os.Started) (H : Type) (enc : TypeId × Value → H) :
    ReturnsInHanded {} Try.checked os 6 .any (Rows.wordBackSpec.pre6 enc Try.prog Try.f6 Rows.wordBackRow.domain false) (Rows.wordBackSpec.post enc Try.prog Try.f6 false true false false) := by
  refine returnsInHanded_of_change_sized (C := Try.checked) own started (by kernel_rfl) Try.func6
    (ChangeSpec.witness6 (enc := enc) (C := Try.checked) false ⟨#[], #[.int .i64 0, .slice none 0 0], []⟩ 8 (by kernel_rfl) (by kernel_rfl) (by kernel_rfl) (by kernel_rfl)) ?_
  intro W base args ds gs before hval0 hW hcnd hsz0 _
  have hsz : (DataW.weightsEach Try.prog (Try.f6.params.toList ++ Rows.wordBackSpec.plain.varTypes Try.prog) (ds ++ gs)).all (· ≤ reachBytes) = true := hsz0
  have hval : ∀ (j : Nat) t v, Try.f6.params[j]? = some t → args[j]? = some v → Value.okWide Try.prog W .any base t v := hval0
  have hW' := hW
  obtain ⟨p, q, hA0, hV, rfl, hfz, hnd⟩ := hW
  have hA : DataW.TrodAll enc Try.prog W 0 (fun _ => true) true Try.f6.params.toList args.toList ds p := hA0
  rw [Try.params6] at hA hval hsz
  obtain ⟨v0, vs0, d0, ds0, p0, q0, hargs, rfl, rfl, h0, r0⟩ := trodAll_cons hA
  obtain ⟨v1, vs1, d1, ds1, p1, q1, rfl, rfl, rfl, h1, r1⟩ := trodAll_cons r0
  obtain ⟨rfl, rfl, rfl⟩ := trodAll_nil r1
  obtain rfl : args = #[v0, v1] := by cases args; simp_all
  obtain ⟨a0, rfl, rfl, rfl, w0⟩ := open_int Try.underlying3 (hval 0 3 v0 rfl rfl) h0
  obtain ⟨xs1, hX1, hd1⟩ := bytes_arg (hval 1 27 v1 rfl rfl) h1
  have hl1 : xs1.length ≤ 140737488355328 := by
    rcases hd1 with rfl | ⟨spare, rfl⟩
    · simp
    · have := sized_slice hsz (j := 1) (t := 27) (e := 5) rfl rfl Try.underlying27
      rw [show Try.prog.bytesOf 5 = 1 by kernel_rfl] at this
      simp only [lits, List.length_map, reachBytes] at this
      omega
  refine (walk a0 (range_i64 w0) v1 xs1 hl1 W hX1).mono fun e W' ⟨he, hb⟩ => ?_
  subst he
  exact ⟨_, rfl, law_post (tb := 4) (by kernel_rfl) (by kernel_rfl) rfl Try.underlying4 rfl (fun h => by subst h; rfl) hW' hb⟩

theorem proved : Rows.WordBackSaid :=
  OpenClaim.holds_of_wide 6 Try.f6 rfl rfl rfl rfl rfl rfl rfl ⟨rfl, rfl, rfl, rfl, rfl⟩ rfl rfl rfl rfl rfl (by kernel_rfl) Try.func6 (by kernel_rfl)
    (of_decide_eq_true (by kernel_rfl)) (by unfold Func.isWrapper; first | (rw [if_pos (by decide +kernel)]; kernel_rfl) | (rw [if_neg (by decide +kernel)]; exact ⟨rfl, rfl⟩))
    (fun os started H enc _ => lifted os started H enc)
#print axioms proved

end Go.Proofs.Ytcmpohippbjpcaa.wordBack
