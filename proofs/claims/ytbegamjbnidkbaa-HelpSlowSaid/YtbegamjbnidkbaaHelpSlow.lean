/-
  HelpSlow: the sum word by word; no condition.
-/
import Derived.Test.YtbegamjbnidkbaaHelpD
import Derived.OpenShut
namespace Go.Proofs.Ytbegamjbnidkbaa.helpSlow
open Go.ChangeShapes Go.WideShapes Go.ChangeAt Go.RowKit
set_option linter.unusedVariables false

set_option maxRecDepth 100000 in
set_option maxHeartbeats 3200000 in
theorem walk (bv : Value) (xs : List Int) (hl : xs.length ≤ 140737488355328) (seed : Int) (rs : -9223372036854775808 ≤ seed ∧ seed ≤ 9223372036854775807) (w : World) (h : Held w bv xs) :
    Calls Try.prog 11 #[bv, .int .i64 seed] w fun e w' => e = .returned (.bool true) ∧ Below w.heap.size w w' := by
  clear rs
  have hx := h.bytes
  have hsd := seed_low seed
  have HH := Lib.hid h
  have hsl : ∃ a cap, bv = .slice a xs.length cap ∧ ∀ i, i < xs.length → ∃ b off, a = some ⟨b, off, none⟩ ∧ b < w.heap.size ∧ w.cell? ⟨b, off + i, none⟩ = some (.int .u8 (xs.getD i 0)) := by
    obtain ⟨_, ⟨rfl, rfl | ⟨a, cap, rfl, _⟩⟩ | ⟨_, b, off, cap, rfl, _, _, hlt, hcell⟩⟩ := h
    · exact ⟨_, _, rfl, fun i hi => by simp at hi⟩
    · exact ⟨_, _, rfl, fun i hi => by simp at hi⟩
    · exact ⟨_, _, rfl, fun i hi => ⟨b, off, rfl, hlt, hcell i hi⟩⟩
  obtain ⟨a, cap, rfl, hc⟩ := hsl
  have HL := Lib.hid hl
  obtain ⟨n, hn⟩ : ∃ n, n = xs.length := ⟨_, rfl⟩
  rw [← hn] at hc hl HH ⊢
  have HN := Lib.hid hn
  have HC := Lib.hid hc
  have HX := Lib.hid hx
  clear hn hc hx h
  obtain ⟨s0, hs0⟩ : ∃ s0, s0 = seed % 65536 := ⟨_, rfl⟩
  have hs0r : 0 ≤ s0 ∧ s0 ≤ 65535 := by omega
  rw [← hs0] at hsd
  have HS0 := Lib.hid hs0
  have HS0R := Lib.hid hs0r
  clear hs0 hs0r
  go_enter Try.func11, Try.ntmps11
  go_wp2_with fail
  refine (known_any _).mono ?_
  rintro e w1 ⟨rfl, hB⟩
  go_wp2
  go_loopw [5, 6] (fun z s wr => ∃ k : Nat, 2 * k ≤ n + 1 ∧ s = .int .i64 ((2 * k : Nat) : Int) ∧ z = .int .i64 (sumN xs s0 k) ∧ Below w.heap.size w wr) (fun _ s _ => n + 2 - (intOf s).toNat)
  case atStart => exact ⟨0, Nat.zero_le _, rfl, rfl, hB⟩
  case round =>
    clear hB
    obtain ⟨k, hk, rfl, rfl, hB⟩ := hrel
    obtain ⟨i, hi⟩ : ∃ i, i = 2 * k := ⟨_, rfl⟩
    rw [← hi]
    have HI := Lib.hid hi
    clear hi
    by_cases hlt : i < n
    · obtain ⟨b, off, rfl, hb1, e1⟩ := HC.out i hlt
      have e1 := (hB.cell (p := ⟨b, off + i, none⟩) hb1).trans e1
      have hsr := sumN_range HX.out HS0R.out k
      obtain ⟨z, hz⟩ : ∃ z, z = sumN xs s0 k := ⟨_, rfl⟩
      rw [← hz] at hsr ⊢
      have hx1 := HX.out.at' i
      have hx2 := HX.out.at' (i + 1)
      obtain ⟨x, hx⟩ : ∃ x, x = xs.getD i 0 := ⟨_, rfl⟩
      obtain ⟨y, hy⟩ : ∃ y, y = xs.getD (i + 1) 0 := ⟨_, rfl⟩
      rw [← hx] at hx1 e1
      rw [← hy] at hx2
      have hnx : sumN xs s0 (k + 1) = if 65535 < z + (256 * x + y) then z + (256 * x + y) - 65535 else z + (256 * x + y) := by
        show stp (sumN xs s0 k) (wordAt xs k) = _
        unfold stp wordAt
        rw [← hz, ← HI.out, ← hx, ← hy]
      have HNX := Lib.hid hnx
      have HXX := Lib.hid hx
      have HY := Lib.hid hy
      have HZ := Lib.hid hz
      clear hnx hx hy hz
      by_cases hlt2 : i + 1 < n
      · obtain ⟨b', off', hbb, hb2, e2⟩ := HC.out (i + 1) hlt2
        cases hbb
        have e2 := (hB.cell (p := ⟨b, off + (i + 1), none⟩) hb1).trans e2
        rw [← HY.out] at e2
        by_cases hbig : 65535 < z + (256 * x + y)
        · have HBG := Lib.hid hbig
          go_wp2
          go_roundw
          case rel => exact ⟨k + 1, by have := HI.out; omega, by have := HI.out; go_num, by rw [HNX.out, if_pos HBG.out], hB⟩
          case measure => simp [intOf]; omega
        · have HBG := Lib.hid hbig
          go_wp2
          go_roundw
          case rel => exact ⟨k + 1, by have := HI.out; omega, by have := HI.out; go_num, by rw [HNX.out, if_neg HBG.out], hB⟩
          case measure => simp [intOf]; omega
      · have hy0 : y = 0 := by
          rw [HY.out]; simp [List.getD, List.getElem?_eq_none (show xs.length ≤ i + 1 by have := HN.out; omega)]
        have hnx2 := HNX.out
        rw [hy0, Int.add_zero] at hnx2
        have HNX := Lib.hid hnx2
        clear hnx2 hy0 hx2
        by_cases hbig : 65535 < z + 256 * x
        · have HBG := Lib.hid hbig
          go_wp2
          go_roundw
          case rel => exact ⟨k + 1, by have := HI.out; omega, by have := HI.out; go_num, by rw [HNX.out, if_pos HBG.out], hB⟩
          case measure => simp [intOf]; omega
        · have HBG := Lib.hid hbig
          go_wp2
          go_roundw
          case rel => exact ⟨k + 1, by have := HI.out; omega, by have := HI.out; go_num, by rw [HNX.out, if_neg HBG.out], hB⟩
          case measure => simp [intOf]; omega
    · have hv : sumv xs seed = sumN xs s0 k := by
        unfold sumv
        rw [← HN.out, ← HS0.out]
        congr 1
        have := HI.out
        omega
      have HV := Lib.hid hv
      clear hv
      have HH1 := Lib.hid (HH.out.below hB (Nat.le_refl _))
      go_wp2_with fail
      refine (sum_of _ xs (by have := HL.out; omega) seed _ HH1.out).mono ?_
      rintro e w2 ⟨rfl, rfl⟩
      rw [HV.out]
      have hss : (sumN xs s0 k == sumN xs s0 k) = true := by simp
      go_wp2
      go_ret
      exact ⟨rfl, hB⟩


theorem own : ownKnob Try.prog.godebug = none := by kernel_rfl
set_option maxRecDepth 100000 in
theorem lifted (os : Os) (started : os.Started) (H : Type) (enc : TypeId × Value → H) :
    ReturnsInHanded {} Try.checked os 11 .any (Rows.helpSlowSpec.pre6 enc Try.prog Try.f11 Rows.helpSlowRow.domain false) (Rows.helpSlowSpec.post enc Try.prog Try.f11 false true false false) := by
  refine returnsInHanded_of_change_sized (C := Try.checked) own started (by kernel_rfl) Try.func11
    (ChangeSpec.witness6 (enc := enc) (C := Try.checked) false ⟨#[], #[.slice none 0 0, .int .i64 0], []⟩ 8 (by kernel_rfl) (by kernel_rfl) (by kernel_rfl) (by kernel_rfl)) ?_
  intro W base args ds gs before hval0 hW hcnd hsz0 _
  have hsz : (DataW.weightsEach Try.prog (Try.f11.params.toList ++ Rows.helpSlowSpec.plain.varTypes Try.prog) (ds ++ gs)).all (· ≤ reachBytes) = true := hsz0
  have hval : ∀ (j : Nat) t v, Try.f11.params[j]? = some t → args[j]? = some v → Value.okWide Try.prog W .any base t v := hval0
  have hW' := hW
  obtain ⟨p, q, hA0, hV, rfl, hfz, hnd⟩ := hW
  have hA : DataW.TrodAll enc Try.prog W 0 (fun _ => true) true Try.f11.params.toList args.toList ds p := hA0
  rw [Try.params11] at hA hval hsz
  obtain ⟨v0, vs0, d0, ds0, p0, q0, hargs, rfl, rfl, h0, r0⟩ := trodAll_cons hA
  obtain ⟨v1, vs1, d1, ds1, p1, q1, rfl, rfl, rfl, h1, r1⟩ := trodAll_cons r0
  obtain ⟨rfl, rfl, rfl⟩ := trodAll_nil r1
  obtain rfl : args = #[v0, v1] := by cases args; simp_all
  obtain ⟨xs0, hX0, hd0⟩ := bytes_arg (hval 0 37 v0 rfl rfl) h0
  have hl0 : xs0.length ≤ 140737488355328 := by
    rcases hd0 with rfl | ⟨spare, rfl⟩
    · simp
    · have := sized_slice hsz (j := 0) (t := 37) (e := 5) rfl rfl Try.underlying37
      rw [show Try.prog.bytesOf 5 = 1 by kernel_rfl] at this
      simp only [lits, List.length_map, reachBytes] at this
      omega
  obtain ⟨a1, rfl, rfl, rfl, w1⟩ := open_int Try.underlying3 (hval 1 3 v1 rfl rfl) h1
  refine (walk v0 xs0 hl0 a1 (range_i64 w1) W hX0).mono fun e W' ⟨he, hb⟩ => ?_
  subst he
  exact ⟨_, rfl, law_post (tb := 4) (by kernel_rfl) (by kernel_rfl) rfl Try.underlying4 rfl (fun h => by subst h; rfl) hW' hb⟩

theorem proved : Rows.HelpSlowSaid :=
  OpenClaim.holds_of_wide 11 Try.f11 rfl rfl rfl rfl rfl rfl rfl ⟨rfl, rfl, rfl, rfl, rfl⟩ rfl rfl rfl rfl rfl (by kernel_rfl) Try.func11 (by kernel_rfl)
    (of_decide_eq_true (by kernel_rfl)) (by unfold Func.isWrapper; first | (rw [if_pos (by decide +kernel)]; kernel_rfl) | (rw [if_neg (by decide +kernel)]; exact ⟨rfl, rfl⟩))
    (fun os started H enc _ => lifted os started H enc)
#print axioms proved

end Go.Proofs.Ytbegamjbnidkbaa.helpSlow
