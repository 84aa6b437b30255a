/-
  HelpPlaces: where the byte is, and nowhere ahead; no condition.
-/
import Derived.Test.YtbegamjbnidkbaaHelpD
import Derived.OpenShut
namespace Go.Proofs.Ytbegamjbnidkbaa.helpPlaces
open Go.ChangeShapes Go.WideShapes Go.ChangeAt Go.RowKit
set_option linter.unusedVariables false

theorem findv_cons (x : Int) (xs : List Int) (c : Int) : findv (x :: xs) c = if x = c then 0 else if findv xs c = -1 then -1 else findv xs c + 1 := rfl
theorem findv_spec (c : Int) : ∀ xs : List Int, (findv xs c = -1 ∧ ∀ i, i < xs.length → xs.getD i 0 ≠ c) ∨ ∃ k : Nat, k < xs.length ∧ findv xs c = k ∧ xs.getD k 0 = c ∧ ∀ i, i < k → xs.getD i 0 ≠ c
  | [] => Or.inl ⟨rfl, fun i hi => by simp at hi⟩
  | x :: xs => by
    rw [findv_cons]
    by_cases h : x = c
    · right
      exact ⟨0, by simp, by rw [if_pos h]; rfl, by simpa using h, fun i hi => by omega⟩
    · rw [if_neg h]
      rcases findv_spec c xs with ⟨h1, h2⟩ | ⟨k, h1, h2, h3, h4⟩
      · left
        refine ⟨by rw [if_pos h1], fun i hi => ?_⟩
        cases i with
        | zero => simpa using h
        | succ i => simpa using h2 i (by simpa using hi)
      · right
        refine ⟨k + 1, by simpa using h1, by rw [if_neg (by omega), h2]; rfl, by simpa using h3, fun i hi => ?_⟩
        cases i with
        | zero => simpa using h
        | succ i => simpa using h4 i (by omega)
theorem findv_end (c : Int) : ∀ xs r : List Int, (∀ x ∈ xs, x ≠ c) → findv (xs ++ c :: r) c = (xs.length : Int)
  | [], r, _ => by rw [List.nil_append, findv_cons, if_pos rfl]; rfl
  | x :: xs, r, h => by
    have ih := findv_end c xs r (fun y hy => h y (by simp [hy]))
    rw [List.cons_append, findv_cons, if_neg (h x (by simp)), ih, if_neg (by omega)]
    simp
theorem take_ne (c : Int) (xs : List Int) (k : Nat) (hk : k ≤ xs.length) (h : ∀ i, i < k → xs.getD i 0 ≠ c) : ∀ x ∈ xs.take k, x ≠ c := by
  intro x hx
  obtain ⟨i, hi, rfl⟩ := List.mem_iff_getElem.1 hx
  have hi2 : i < k := by rw [List.length_take] at hi; omega
  have := h i hi2
  have e : xs.getD i 0 = (xs.take k)[i] := by
    rw [List.getElem_take]
    simp [List.getD, show i < xs.length by omega]
  rwa [e] at this
theorem low8 (c : Int) : bits .and .i64 c 255 = c % 256 := by
  have h := i64_and_mask c 8 (by decide)
  have e : (2 : Int) ^ 8 = 256 := rfl
  rw [e] at h
  exact h

/-- What stands behind the tests: the loop and the last look. -/
def Tail (e : Nat) : Prop := True

set_option maxRecDepth 100000 in
set_option maxHeartbeats 3200000 in
theorem walk (bv : Value) (xs : List Int) (hl : xs.length ≤ 140737488351232) (c : Int) (rc : -9223372036854775808 ≤ c ∧ c ≤ 9223372036854775807) (w : World) (h : Held w bv xs) :
    Calls Try.prog 13 #[bv, .int .i64 c] w fun e w' => e = .returned (.bool true) ∧ Below w.heap.size w w' := by
  clear rc
  obtain ⟨C, hC⟩ : ∃ C, C = c % 256 := ⟨_, rfl⟩
  have hC0 : 0 ≤ C ∧ C ≤ 255 := by omega
  have hlow := low8 c
  have hu8 := u8_low c
  rw [← hC] at hlow hu8
  have hCC : (C != C) = false := by simp
  have HCE := Lib.hid hC
  have HC0 := Lib.hid hC0
  clear hC hC0
  have hx := h.bytes
  have HH := Lib.hid h
  have hsl : ∃ a cap, bv = .slice a xs.length cap ∧ xs.length ≤ cap ∧ cap ≤ maxLen ∧ (∀ k, k ≤ xs.length → Held w (.slice a k cap) (xs.take k)) ∧ ∀ i, i < xs.length → ∃ b off, a = some ⟨b, off, none⟩ ∧ b < w.heap.size ∧ w.cell? ⟨b, off + i, none⟩ = some (.int .u8 (xs.getD i 0)) := by
    obtain ⟨_, ⟨rfl, rfl | ⟨a, cap, rfl, hcm⟩⟩ | ⟨hp, b, off, cap, rfl, hcap, hcm, hlt, hcell⟩⟩ := h
    · exact ⟨_, _, rfl, Nat.le_refl _, by decide, fun k hk => by obtain rfl : k = 0 := by simpa using hk
                                                                 exact held_nil w, fun i hi => by simp at hi⟩
    · exact ⟨_, _, rfl, Nat.zero_le _, hcm, fun k hk => by obtain rfl : k = 0 := by simpa using hk
                                                           exact ⟨IsBytes.nil, Or.inl ⟨rfl, Or.inr ⟨_, _, rfl, hcm⟩⟩⟩, fun i hi => by simp at hi⟩
    · refine ⟨_, _, rfl, hcap, hcm, fun k hk => ⟨hx.take k, ?_⟩, fun i hi => ⟨b, off, rfl, hlt, hcell i hi⟩⟩
      have hkl : (xs.take k).length = k := by rw [List.length_take]; omega
      by_cases hk0 : 0 < k
      · refine Or.inr ⟨by omega, b, off, cap, by rw [hkl], by omega, hcm, hlt, fun i hi => ?_⟩
        rw [hkl] at hi
        rw [hcell i (by omega)]
        simp [List.getD, hi]
      · obtain rfl : k = 0 := by omega
        exact Or.inl ⟨by simp, Or.inr ⟨_, _, rfl, hcm⟩⟩
  obtain ⟨a, cap, rfl, hcap, hcm, htk, hc⟩ := hsl
  obtain ⟨n, hn⟩ : ∃ n, n = xs.length := ⟨_, rfl⟩
  have hsp := findv_spec C xs
  rw [← hn] at hc hl HH hcap htk hsp ⊢
  have HN := Lib.hid hn
  have HC := Lib.hid hc
  have HX := Lib.hid hx
  have HTK := Lib.hid htk
  clear hn hc hx h htk
  unfold maxLen at hcm
  have hcc : c % 256 % 256 = c % 256 := by omega
  have HMM := Lib.hid hcc
  clear hcc
  rcases hsp with ⟨h1, h2⟩ | ⟨k, h1, h2, h3, h4⟩
  · have H1 := Lib.hid h1
    have H2 := Lib.hid h2
    clear h1 h2
    go_enter Try.func13, Try.ntmps13
    go_wp2_with fail
    refine (known_any _).mono ?_
    rintro e w1 ⟨rfl, hB⟩
    have hs := hB.size
    have HH := Lib.hid (HH.out.below hB (Nat.le_refl _))
    go_wp2_with fail
    refine (find_of _ _ _ _ HH.out).mono ?_
    rintro e w2 ⟨rfl, rfl⟩
    rw [← HCE.out, H1.out]
    go_wp2_with fail
    refine (find_of _ _ _ _ HH.out).mono ?_
    rintro e w2 ⟨rfl, rfl⟩
    rw [show C % 256 = C by have := HC0.out; omega, H1.out]
    go_wp2
    go_loopw [7] (fun s wr => ∃ i : Nat, i ≤ n ∧ s = .int .i64 i ∧ Below w.heap.size w wr) (fun s _ => n - (intOf s).toNat)
    case atStart => exact ⟨0, Nat.zero_le _, rfl, hB⟩
    case round =>
      clear hB hs
      obtain ⟨i, hi, rfl, hB⟩ := hrel
      have hs := hB.size
      by_cases hlt : i < n
      · obtain ⟨b, off, rfl, hb1, e1⟩ := HC.out i (by omega)
        have e1 := (hB.cell (p := ⟨b, off + i, none⟩) hb1).trans e1
        have hne := H2.out i hlt
        obtain ⟨x, hx⟩ : ∃ x, x = xs.getD i 0 := ⟨_, rfl⟩
        have hx1 := HX.out.at' i
        rw [← hx] at e1 hne hx1
        have hf : (x == C) = false := by simpa using hne
        clear hx hne
        go_wp2
        go_roundw
        case rel => exact ⟨i + 1, hlt, by go_num, hB⟩
        case measure => simp [intOf]; omega
      · obtain rfl : i = n := by omega
        have HNE := Lib.hid (H2.out)
        have HT := Lib.hid ((HTK.out i (Nat.le_refl _)).below hB (Nat.le_refl _))
        have hlt2 : (xs.take i).length = i := by rw [List.length_take, ← HN.out]; omega
        have HTL := Lib.hid hlt2
        clear hlt2
        obtain ⟨i0, hi0, hz0, hz1, hz2⟩ := info_parts info_u8
        go_wp2_with fail
        refine (copy_of _ _ _ HT.out (by rw [HTL.out]; omega)).mono ?_
        rintro e w2 ⟨v2, rfl, hown, hB1⟩
        have HB := Lib.hid (hB.trans (hB1.mono hs))
        have HB1 := Lib.hid hB1
        rw [HTL.out] at hown
        have HO := Lib.hid hown
        have hws := hB1.size
        have HWS := Lib.hid hs
        clear hown hB1 hB hs
        have hsB := HB.out.size
        have hnw : ∀ (j : Nat) (u : Value), [Value.int .u8 C, Value.int .u8 C][j]? = some u → (w2.alloc (.cells #[Value.int .u8 C, Value.int .u8 C] 5)).cell? ((⟨w2.heap.size, 0, none⟩ : Addr).add j) = some u := bytes_new_news w2 [C, C] _
        have hon : ∀ u ∈ [Value.int .u8 C, Value.int .u8 C], u.oneCell' = true := bytes_one [C, C]
        have hm3 : i + 2 ≤ maxLen := by unfold maxLen; omega
        have hm4 : (i + 2) * 1 ≤ 140737488355328 := by omega
        have hm5 : wr.heap.size ≤ (w2.alloc (.cells #[Value.int .u8 C, Value.int .u8 C] 5)).heap.size := by simp; omega
        go_wp2_with (at_builtin; refine wpList_append_own _ rfl (.tmp 65) (.tmp 70) 37 rfl wr.heap.size 5 i0 (.int .u8 0) 1 1 Try.underlying37 hi0 hz0 hz1 hz2 rfl (by decide) v2 i _ rfl (HO.out.alloc _) ⟨w2.heap.size, 0, none⟩ 2 2 [.int .u8 C, .int .u8 C] rfl rfl hnw hon hm3 hm4 hm5 ?_; intro v3 w3 hown3 hgrow _)
        have hB3 : Below w.heap.size w w3 := Below.grown (HB.out.alloc hsB _) hgrow (by simp; omega) (fun k hk => Nat.le_trans HWS.out (HO.out.lt k hk).1)
        have el : (xs.take i).map (Value.int .u8) ++ [Value.int .u8 C, Value.int .u8 C] = (xs.take i ++ [C, C]).map (Value.int .u8) := by rw [List.map_append]; rfl
        rw [el] at hown3
        have hH3 := held_of_own hown3 ((HX.out.take i).append (fun y hy => by simp at hy; rw [hy]; exact HC0.out)) (by rw [List.length_append, HTL.out]; rfl)
        have hfe : findv (xs.take i ++ [C, C]) C = (i : Int) := by
          have := findv_end C (xs.take i) [C] (take_ne C xs i (by rw [← HN.out]; omega) HNE.out)
          rwa [HTL.out] at this
        have HFE := Lib.hid hfe
        clear hown3 hgrow el hfe hnw hon hm3 hm4 hm5
        have hii : ((i : Int) == i) = true := by simp
        go_wp2_with fail
        refine (find_of _ _ _ _ hH3).mono ?_
        rintro e w4 ⟨rfl, rfl⟩
        rw [← HCE.out, HFE.out]
        go_wp2
        go_ret
        exact ⟨rfl, hB3⟩
  · have H2 := Lib.hid h2
    have H3 := Lib.hid h3
    have H4 := Lib.hid h4
    have hkn : (k : Int) < n := by omega
    clear h2 h3 h4
    go_enter Try.func13, Try.ntmps13
    go_wp2_with fail
    refine (known_any _).mono ?_
    rintro e w1 ⟨rfl, hB⟩
    have hs := hB.size
    have HH := Lib.hid (HH.out.below hB (Nat.le_refl _))
    have hkk : ((k : Int) != k) = false := by simp
    obtain ⟨b, off, rfl, hb1, e1⟩ := HC.out k h1
    rw [H3.out] at e1
    have e1 := (hB.cell (p := ⟨b, off + k, none⟩) hb1).trans e1
    have hc0 := HC0.out
    go_wp2_with fail
    refine (find_of _ _ _ _ HH.out).mono ?_
    rintro e w2 ⟨rfl, rfl⟩
    rw [← HCE.out, H2.out]
    go_wp2_with fail
    refine (find_of _ _ _ _ HH.out).mono ?_
    rintro e w2 ⟨rfl, rfl⟩
    rw [show C % 256 = C by have := HC0.out; omega, H2.out]
    go_wp2
    clear e1 hb1 hc0
    go_loopw [7] (fun s wr => ∃ i : Nat, i ≤ k ∧ s = .int .i64 i ∧ Below w.heap.size w wr) (fun s _ => k - (intOf s).toNat)
    case atStart => exact ⟨0, Nat.zero_le _, rfl, hB⟩
    case round =>
      clear hB hs
      obtain ⟨i, hi, rfl, hB⟩ := hrel
      have hs := hB.size
      by_cases hlt : i < k
      · obtain ⟨b', off', hbb, hb1, e1⟩ := HC.out i (by omega)
        cases hbb
        have e1 := (hB.cell (p := ⟨b, off + i, none⟩) hb1).trans e1
        have hne := H4.out i hlt
        obtain ⟨x, hx⟩ : ∃ x, x = xs.getD i 0 := ⟨_, rfl⟩
        have hx1 := HX.out.at' i
        rw [← hx] at e1 hne hx1
        have hf : (x == C) = false := by simpa using hne
        clear hx hne
        go_wp2
        go_roundw
        case rel => exact ⟨i + 1, hlt, by go_num, hB⟩
        case measure => simp [intOf]; omega
      · obtain rfl : i = k := by omega
        have HNE := Lib.hid (H4.out)
        have HT := Lib.hid ((HTK.out i (by omega)).below hB (Nat.le_refl _))
        have hlt2 : (xs.take i).length = i := by rw [List.length_take, ← HN.out]; omega
        have HTL := Lib.hid hlt2
        clear hlt2
        obtain ⟨i0, hi0, hz0, hz1, hz2⟩ := info_parts info_u8
        go_wp2_with fail
        refine (copy_of _ _ _ HT.out (by rw [HTL.out]; omega)).mono ?_
        rintro e w2 ⟨v2, rfl, hown, hB1⟩
        have HB := Lib.hid (hB.trans (hB1.mono hs))
        have HB1 := Lib.hid hB1
        rw [HTL.out] at hown
        have HO := Lib.hid hown
        have hws := hB1.size
        have HWS := Lib.hid hs
        clear hown hB1 hB hs
        have hsB := HB.out.size
        have hnw : ∀ (j : Nat) (u : Value), [Value.int .u8 C, Value.int .u8 C][j]? = some u → (w2.alloc (.cells #[Value.int .u8 C, Value.int .u8 C] 5)).cell? ((⟨w2.heap.size, 0, none⟩ : Addr).add j) = some u := bytes_new_news w2 [C, C] _
        have hon : ∀ u ∈ [Value.int .u8 C, Value.int .u8 C], u.oneCell' = true := bytes_one [C, C]
        have hm3 : i + 2 ≤ maxLen := by unfold maxLen; omega
        have hm4 : (i + 2) * 1 ≤ 140737488355328 := by omega
        have hm5 : wr.heap.size ≤ (w2.alloc (.cells #[Value.int .u8 C, Value.int .u8 C] 5)).heap.size := by simp; omega
        go_wp2_with (at_builtin; refine wpList_append_own _ rfl (.tmp 65) (.tmp 70) 37 rfl wr.heap.size 5 i0 (.int .u8 0) 1 1 Try.underlying37 hi0 hz0 hz1 hz2 rfl (by decide) v2 i _ rfl (HO.out.alloc _) ⟨w2.heap.size, 0, none⟩ 2 2 [.int .u8 C, .int .u8 C] rfl rfl hnw hon hm3 hm4 hm5 ?_; intro v3 w3 hown3 hgrow _)
        have hB3 : Below w.heap.size w w3 := Below.grown (HB.out.alloc hsB _) hgrow (by simp; omega) (fun k hk => Nat.le_trans HWS.out (HO.out.lt k hk).1)
        have el : (xs.take i).map (Value.int .u8) ++ [Value.int .u8 C, Value.int .u8 C] = (xs.take i ++ [C, C]).map (Value.int .u8) := by rw [List.map_append]; rfl
        rw [el] at hown3
        have hH3 := held_of_own hown3 ((HX.out.take i).append (fun y hy => by simp at hy; rw [hy]; exact HC0.out)) (by rw [List.length_append, HTL.out]; rfl)
        have hfe : findv (xs.take i ++ [C, C]) C = (i : Int) := by
          have := findv_end C (xs.take i) [C] (take_ne C xs i (by rw [← HN.out]; omega) HNE.out)
          rwa [HTL.out] at this
        have HFE := Lib.hid hfe
        clear hown3 hgrow el hfe hnw hon hm3 hm4 hm5
        have hii : ((i : Int) == i) = true := by simp
        go_wp2_with fail
        refine (find_of _ _ _ _ hH3).mono ?_
        rintro e w4 ⟨rfl, rfl⟩
        rw [← HCE.out, HFE.out]
        go_wp2
        go_ret
        exact ⟨rfl, hB3⟩

theorem own : ownKnob Try.prog.godebug = none := by kernel_rfl
set_option maxRecDepth 100000 in
theorem lifted (os : Os) (started : os.Started) (H : Type) (enc : TypeId × Value → H) :
    ReturnsInHanded {} Try.checked os 13 .any (Rows.helpPlacesSpec.pre6 enc Try.prog Try.f13 Rows.helpPlacesRow.domain false) (Rows.helpPlacesSpec.post enc Try.prog Try.f13 false true false false) := by
  refine returnsInHanded_of_change_sized (C := Try.checked) own started (by kernel_rfl) Try.func13
    (ChangeSpec.witness6 (enc := enc) (C := Try.checked) false ⟨#[], #[.slice none 0 0, .int .i64 0], []⟩ 8 (by kernel_rfl) (by kernel_rfl) (by kernel_rfl) (by kernel_rfl)) ?_
  intro W base args ds gs before hval0 hW hcnd hsz0 _
  have hsz : (DataW.weightsEach Try.prog (Try.f13.params.toList ++ Rows.helpPlacesSpec.plain.varTypes Try.prog) (ds ++ gs)).all (· ≤ reachBytes) = true := hsz0
  have hval : ∀ (j : Nat) t v, Try.f13.params[j]? = some t → args[j]? = some v → Value.okWide Try.prog W .any base t v := hval0
  have hW' := hW
  obtain ⟨p, q, hA0, hV, rfl, hfz, hnd⟩ := hW
  have hA : DataW.TrodAll enc Try.prog W 0 (fun _ => true) true Try.f13.params.toList args.toList ds p := hA0
  rw [Try.params13] at hA hval hsz
  obtain ⟨v0, vs0, d0, ds0, p0, q0, hargs, rfl, rfl, h0, r0⟩ := trodAll_cons hA
  obtain ⟨v1, vs1, d1, ds1, p1, q1, rfl, rfl, rfl, h1, r1⟩ := trodAll_cons r0
  obtain ⟨rfl, rfl, rfl⟩ := trodAll_nil r1
  obtain rfl : args = #[v0, v1] := by cases args; simp_all
  obtain ⟨xs0, hX0, hd0⟩ := bytes_arg (hval 0 37 v0 rfl rfl) h0
  have hl0 : xs0.length ≤ 140737488351232 := by
    rcases hd0 with rfl | ⟨spare, rfl⟩
    · simp
    · have := sized_slice hsz (j := 0) (t := 37) (e := 5) rfl rfl Try.underlying37
      rw [show Try.prog.bytesOf 5 = 1 by kernel_rfl] at this
      simp only [lits, List.length_map, reachBytes] at this
      omega
  obtain ⟨a1, rfl, rfl, rfl, w1⟩ := open_int Try.underlying3 (hval 1 3 v1 rfl rfl) h1
  refine (walk v0 xs0 (Nat.le_trans hl0 (by decide)) a1 (range_i64 w1) W hX0).mono fun e W' ⟨he, hb⟩ => ?_
  subst he
  exact ⟨_, rfl, law_post (tb := 4) (by kernel_rfl) (by kernel_rfl) rfl Try.underlying4 rfl (fun h => by subst h; rfl) hW' hb⟩

theorem proved : Rows.HelpPlacesSaid :=
  OpenClaim.holds_of_wide 13 Try.f13 rfl rfl rfl rfl rfl rfl rfl ⟨rfl, rfl, rfl, rfl, rfl⟩ rfl rfl rfl rfl rfl (by kernel_rfl) Try.func13 (by kernel_rfl)
    (of_decide_eq_true (by kernel_rfl)) (by unfold Func.isWrapper; first | (rw [if_pos (by decide +kernel)]; kernel_rfl) | (rw [if_neg (by decide +kernel)]; exact ⟨rfl, rfl⟩))
    (fun os started H enc _ => lifted os started H enc)
#print axioms proved

end Go.Proofs.Ytbegamjbnidkbaa.helpPlaces
