/-
  The Book's write.
-/
import Derived.Test.YtcjomhmpebhhlaaLedB
import Derived.Deep.RegionLaw
namespace Go.Proofs.Ytcjomhmpebhhlaa.Led
open Go.RowKit
set_option linter.unusedVariables false

set_option maxRecDepth 100000 in
set_option maxHeartbeats 6400000 in
theorem write_of (base hb : Nat) (ρ : Nat → Nat) (cnt tot : Int) (vf vw vk vn : Value) (F : List (Value × List Int)) (ws : List Value) (K : List (Value × Nat × Nat)) {A : List (Value × List Value × TypeId)} (w : World) (hF : F.length ≤ 100) (hFl : ∀ x ∈ F, x.2.length ≤ 1000000000) (hK : K.length ≤ 100000) (htot : 0 ≤ tot ∧ tot ≤ 1000000000000)
    (hKl : ∀ x ∈ K, x.2.1 ≤ 1000000 ∧ x.2.2 ≤ 1000000000000) (h : Core w base hb ρ cnt tot vf vw vk vn F ws K A) :
    Calls Try.prog 58 #[.pointer (some ⟨hb, 0, none⟩)] w fun e w' => e = .returned (.tuple #[]) ∧ Below base w w' ∧ ∃ ρ' vk' vn' K', Core w' base hb ρ' cnt tot (.slice none 0 0) (.slice none 0 0) vk' vn' [] [] K' A ∧ K'.length = K.length + 2 * F.length ∧ (∀ x ∈ K', x.2.1 ≤ 1000000 ∧ x.2.2 ≤ 1000000000000) := by
  have HC := Lib.hid h
  obtain ⟨n, hn⟩ : ∃ n, n = F.length := ⟨_, rfl⟩
  obtain ⟨f, hf⟩ : ∃ f, f = K.length := ⟨_, rfl⟩
  obtain ⟨v, hv⟩ : ∃ v : Nat → Value, v = fun t => (F.getD t (.slice none 0 0, [])).1 := ⟨_, rfl⟩
  obtain ⟨c0, hc0⟩ : ∃ c0 : Nat → List Value, c0 = fun t => (F.getD t (.slice none 0 0, [])).2.map (Value.int .i64) := ⟨_, rfl⟩
  obtain ⟨len, hlen⟩ : ∃ len : Nat → Nat, len = fun t => (c0 t).length := ⟨_, rfl⟩
  have hmap : F.map (·.1) = (List.range n).map v := by
    apply List.ext_getElem?
    intro t
    by_cases ht : t < n
    · simp [hv, List.getD, show t < F.length by omega, ht]
    · rw [List.getElem?_eq_none (by simp; omega), List.getElem?_eq_none (by simp; omega)]
  have hw0 : WCore w base hb ρ cnt tot vf vw vk vn n v c0 (fun t => 10 + t) (K.map (·.1)) (K.map fun (x : Value × Nat × Nat) => Value.int .i64 (x.2.1 : Int)) K A := by
    refine ⟨h.row, h.rol, h.low, by rw [← hmap]; exact h.fresh, h.kept, h.nums, fun t ht => ?_, h.done, h.side⟩
    have hx : F[t]? = some (F.getD t (.slice none 0 0, [])) := by simp [List.getD, show t < F.length by omega]
    have := (h.item t _ hx).1
    rw [hv, hc0]
    exact this
  have hlb : ∀ t, len t ≤ 1000000000 := fun t => by
    rw [hlen, hc0]
    simp only [List.length_map]
    by_cases ht : t < F.length
    · have : F.getD t (.slice none 0 0, []) ∈ F := by simp [List.getD, ht]
      exact hFl _ this
    · simp [List.getD, List.getElem?_eq_none (show F.length ≤ t by omega)]
  have hl0 : ∀ t, (c0 t).length = len t := fun t => by rw [hlen]
  have hn1 : n ≤ 100 := by omega
  have hf1 : f ≤ 100000 := by omega
  obtain ⟨af, cf, hvf, hfc⟩ := own_row_cell hw0.fresh
  obtain ⟨ak, ck, hvk, hck1, hck2, _⟩ := hw0.kept.open
  rw [List.length_map, ← hf] at hvk hck1
  have hdrop : ∀ w', WCore w' base hb ρ cnt tot vf vw vk vn n v c0 (fun t => 10 + t) (K.map (·.1)) (K.map fun (x : Value × Nat × Nat) => Value.int .i64 (x.2.1 : Int)) K A → True := fun _ _ => trivial
  clear hdrop
  have HN := Lib.hid hn
  have HF := Lib.hid hf
  have HW0 := Lib.hid hw0
  have HLB := Lib.hid hlb
  have HL0 := Lib.hid hl0
  have HKL := Lib.hid hKl
  have HFC := Lib.hid hfc
  have HFF := Lib.hid hF
  have HVK := Lib.hid hvk
  have HVF := Lib.hid hvf
  have HT := Lib.hid htot
  clear hn hf hv hc0 hlen hmap hw0 hlb hl0 hKl hfc h hF hFl hvk hvf htot
  go_enter Try.func58, Try.ntmps58
  go_wp2_with fail
  refine (look_of base hb ρ cnt tot vf vw vk vn F ws K _ (by have := HFF.out; omega) HC.out).mono ?_
  rintro e w1 ⟨rfl, hCa⟩
  have hw1 := HW0.out.calm hCa
  have q4 := hw1.row.cell 3
  simp only [List.getElem?_cons_zero, List.getElem?_cons_succ] at q4
  rw [HVK.out] at q4
  have HB1 := Lib.hid (hCa.below base)
  have HW1 := Lib.hid hw1
  clear hCa hw1
  go_wp2
  clear q4
  go_loopw [3] (fun s wr => ∃ (i : Nat) (c : Nat → List Value), i ≤ n ∧ s = .int .i64 i ∧ WCore wr base hb ρ cnt tot vf vw vk vn n v c (fun t => 10 + t) (K.map (·.1)) (K.map fun (x : Value × Nat × Nat) => Value.int .i64 (x.2.1 : Int)) K A ∧ (∀ t, (c t).length = len t) ∧ (∀ t, t < i → c t = ownl (f + t) (len t)) ∧ Below base w wr) (fun s _ => n - (intOf s).toNat)
  case atStart => exact ⟨0, c0, Nat.zero_le _, rfl, HW1.out, HL0.out, fun t ht => by omega, HB1.out⟩
  case round =>
    obtain ⟨i, c, hi, rfl, hW, hcl, hcd, hB⟩ := hrel
    have q2 := hW.row.cell 1
    simp only [List.getElem?_cons_zero, List.getElem?_cons_succ] at q2
    rw [HVF.out] at q2
    by_cases hlt : i < n
    · have i1 : (i : Int) < n := by omega
      obtain ⟨bf, haf, hfcell⟩ := HFC.out (by omega)
      subst haf
      have HW := Lib.hid hW
      have HB := Lib.hid hB
      have HCL := Lib.hid hcl
      have HCD := Lib.hid hcd
      obtain ⟨l, hl⟩ : ∃ l, l = f + i := ⟨_, rfl⟩
      have hlc : (f : Int) + (i : Int) = (l : Int) := by omega
      obtain ⟨av, cv, hvi, _, _, _⟩ := (hW.item i hlt).open
      rw [hcl] at hvi
      have HVI := Lib.hid hvi
      have HL := Lib.hid hl
      have hln := HLB.out i
      obtain ⟨m, hm⟩ : ∃ m, m = len i := ⟨_, rfl⟩
      rw [← hm] at hln HVI
      have HM := Lib.hid hm
      clear hW hB hcl hcd hvi hl hm
      go_wp2
      clear q2
      go_loopw [4] (fun s wr => ∃ (j : Nat) (c' : Nat → List Value), j ≤ m ∧ s = .int .i64 j ∧ WCore wr base hb ρ cnt tot vf vw vk vn n v c' (fun t => 10 + t) (K.map (·.1)) (K.map fun (x : Value × Nat × Nat) => Value.int .i64 (x.2.1 : Int)) K A ∧ (∀ t, (c' t).length = len t) ∧ (∀ t, t < i → c' t = ownl (f + t) (len t)) ∧ (c' i).take j = ownl l j ∧ Below base w wr) (fun s _ => m - (intOf s).toNat)
      case atStart => exact ⟨0, c, Nat.zero_le _, rfl, HW.out, HCL.out, HCD.out, rfl, HB.out⟩
      case round =>
        obtain ⟨j, c', hj, rfl, hW', hcl', hcd', hct, hB'⟩ := hrel
        have q2 := hW'.row.cell 1
        simp only [List.getElem?_cons_zero, List.getElem?_cons_succ] at q2
        rw [HVF.out] at q2
        have e1 : wr.cell? ⟨bf, i, none⟩ = some (.slice av m cv) := by
          obtain ⟨a2, c2, hv2, hc2⟩ := own_row_cell hW'.fresh
          rw [HVF.out] at hv2
          injection hv2 with hv2 _ _
          obtain ⟨b2, hb2, hcc⟩ := hc2 (by omega)
          rw [← hv2] at hb2
          injection hb2 with hb2
          injection hb2 with hb2
          rw [hb2, hcc i hlt, HVI.out]
        by_cases hlt2 : j < m
        · have j1 : (j : Int) < m := by omega
          have j2 : (0 : Int) ≤ (j : Int) := by omega
          have i2 : (0 : Int) ≤ (i : Int) := by omega
          obtain ⟨a3, c3, hv3, _, _, hg3⟩ := (hW'.item i hlt).open
          rw [HVI.out, hcl', ← HM.out] at hv3
          injection hv3 with hv3a _ hv3c
          subst hv3a hv3c
          obtain ⟨b, rfl, _, hbb, hrb, hcell⟩ := hg3 (by rw [hcl', ← HM.out]; omega)
          obtain ⟨z, hz⟩ : ∃ z, (c' i)[j]? = some z := ⟨(c' i)[j]'(by rw [hcl', ← HM.out]; exact hlt2), by simp⟩
          have e2 := (hcell j (by rw [hcl', ← HM.out]; exact hlt2)).1
          have f2 := (hcell j (by rw [hcl', ← HM.out]; exact hlt2)).2
          rw [hz] at e2
          have HW' := Lib.hid hW'
          have HCL' := Lib.hid hcl'
          have HCD' := Lib.hid hcd'
          have HCT := Lib.hid hct
          have HB' := Lib.hid hB'
          have HBB := Lib.hid hbb
          clear hW' hcl' hcd' hct hB' hg3 hcell hz hrb hbb
          have hlb : l ≤ 1000000 := by have := HL.out; omega
          have hw1 : IntKind.i64.wrap ((l : Int) + 1) = (l : Int) + 1 := IntWalk.i64_in _ (by omega)
          have hw2 : IntKind.i64.wrap (-1000003 * ((l : Int) + 1)) = -1000003 * ((l : Int) + 1) := IntWalk.i64_in _ (by omega)
          have hw3 : IntKind.i64.wrap (-1000003 * ((l : Int) + 1) - (j : Int)) = ownv l j := IntWalk.i64_in _ (by omega)
          obtain ⟨z2, hz2⟩ : ∃ z2, z2 = ownv l j := ⟨_, rfl⟩
          rw [← hz2] at hw3
          have HZ2 := Lib.hid hz2
          have HWD := HW'
          have HBD := HB'
          clear hz2
          go_wp2
          go_roundw
          case rel =>
            have hlen : ∀ t, (if t = i then (c' i).set j (.int .i64 z2) else c' t).length = len t := fun t => by
              by_cases e : t = i
              · subst e; rw [if_pos rfl, List.length_set, HCL'.out]
              · rw [if_neg e, HCL'.out]
            refine ⟨j + 1, _, hlt2, by go_num, HWD.out.put hlt (by omega) (by rw [HCL'.out, ← HM.out]; exact HVI.out) (by rw [HCL'.out, ← HM.out]; exact hlt2) _, hlen, fun t ht => ?_, ?_, HBD.out.setCell HBB.out _⟩
            · rw [if_neg (by omega)]; exact HCD'.out t ht
            · rw [if_pos rfl]
              rw [HZ2.out]
              exact take_set_own HCT.out (by rw [HCL'.out, ← HM.out]; exact hlt2)
          case measure => simp [intOf]; omega
        · obtain rfl : j = m := by omega
          go_wp2
          go_roundw
          case rel =>
            refine ⟨i + 1, c', hlt, by go_num, hW', hcl', fun t ht => ?_, hB'⟩
            by_cases e : t = i
            · subst e
              rw [← hct.symm.trans (List.take_of_length_le (by rw [hcl', ← HM.out]; exact Nat.le_refl _)), ← HL.out, ← HM.out]
            · exact hcd' t (by omega)
          case measure => simp [intOf]; omega
    · obtain rfl : n = i := by omega
      have hW2 : WCore wr base hb ρ cnt tot vf vw vk vn n v (fun t => ownl (f + t) (len t)) (fun t => if t < 0 then 9 else 10 + t) (K.map (·.1)) (K.map fun (x : Value × Nat × Nat) => Value.int .i64 (x.2.1 : Int)) K A :=
        hW.congr (fun t ht => hcd t ht) (fun t _ => by rw [if_neg (by omega)])
      have HW := Lib.hid hW2
      have HB := Lib.hid hB
      obtain ⟨M, hM⟩ : ∃ M : Int, M = if (4000 : Int) < tot then 4000 else tot := ⟨_, rfl⟩
      have hM2 : 0 ≤ M ∧ M ≤ 4000 := by
        have := HT.out
        rw [hM]
        split <;> omega
      have hmin : ∀ (ts : Array TypeId) (t : TypeId) (W : World), (Builtin.min_ ts t #[.int .i64 tot, .int .i64 4000]).run Try.prog W = .ok (.int .i64 M) W := fun ts t W => by rw [run_min_int2, hM]
      obtain ⟨T, hT, hTm⟩ : ∃ T : Nat, M + 70 = (T : Int) ∧ T ≤ 4070 := ⟨(M + 70).toNat, by omega, by omega⟩
      clear hM hM2
      have HTT := Lib.hid hT
      clear hW hB hcl hcd hW2 hT
      go_wp2
      clear q2
      go_loopw [5] (fun s wr => ∃ (i : Nat) (ρ' : Nat → Nat) (vk' vn' : Value) (K' : List (Value × Nat × Nat)), i ≤ n ∧ s = .int .i64 i ∧ WCore wr base hb ρ' cnt tot vf vw vk' vn' n v (fun t => ownl (f + t) (len t)) (fun t => if t < i then 9 else 10 + t) (K'.map (·.1)) (K'.map fun (x : Value × Nat × Nat) => Value.int .i64 (x.2.1 : Int)) K' A ∧ K'.length = f + i ∧ (∀ x ∈ K', x.2.1 ≤ 1000000 ∧ x.2.2 ≤ 1000000000000) ∧ Below base w wr) (fun s _ => n - (intOf s).toNat)
      case atStart => exact ⟨0, ρ, vk, vn, K, Nat.zero_le _, rfl, HW.out, HF.out.symm, HKL.out, HB.out⟩
      case round =>
        clear HW HB
        obtain ⟨i, ρ', vk', vn', K', hi, rfl, hW, hKn, hKb, hB⟩ := hrel
        have q2 := hW.row.cell 1
        have q1 := hW.row.cell 0
        simp only [List.getElem?_cons_zero, List.getElem?_cons_succ] at q1 q2
        rw [HVF.out] at q2
        by_cases hlt : i < n
        · have i1 : (i : Int) < n := by omega
          have i2 : (0 : Int) ≤ (i : Int) := by omega
          obtain ⟨bf, haf, _⟩ := HFC.out (by omega)
          subst haf
          obtain ⟨l, hl⟩ : ∃ l, l = f + i := ⟨_, rfl⟩
          have hlc : (f : Int) + (i : Int) = (l : Int) := by omega
          obtain ⟨av, cv, hvi, _, _, _⟩ := (hW.item i hlt).open
          rw [ownl_length] at hvi
          have e1 : wr.cell? ⟨bf, i, none⟩ = some (.slice av (len i) cv) := by
            obtain ⟨a2, c2, hv2, hc2⟩ := own_row_cell hW.fresh
            rw [HVF.out] at hv2
            injection hv2 with hv2 _ _
            obtain ⟨b2, hb2, hcc⟩ := hc2 (by omega)
            rw [← hv2] at hb2
            injection hb2 with hb2
            injection hb2 with hb2
            rw [hb2, hcc i hlt, hvi]
          have hln := HLB.out i
          obtain ⟨m, hm⟩ : ∃ m, m = len i := ⟨_, rfl⟩
          rw [← hm] at hln hvi e1
          have hG0 : Own1 wr base ρ' (10 + i) 3 (v i) (ownl l (m + 0)) := by
            have := hW.item i hlt
            rw [if_neg (by omega)] at this
            rw [hl, Nat.add_zero, hm]
            exact this
          rw [hvi] at hG0
          have HVI := Lib.hid hvi
          have HL := Lib.hid hl
          have HM := Lib.hid hm
          have HG0 := Lib.hid hG0
          have HW := Lib.hid hW
          have HB := Lib.hid hB
          have HKN := Lib.hid hKn
          have HKB := Lib.hid hKb
          clear hvi hl hm hG0 hW hB hKn hKb
          go_wp2
          clear q1 q2 e1
          go_loopw [6, 7] (fun g s wr => ∃ (k : Nat) (ρ2 : Nat → Nat) (gv : Value), gv = g ∧ k ≤ T ∧ s = .int .i64 k ∧ WCore wr base hb ρ2 cnt tot vf vw vk' vn' n v (fun t => ownl (f + t) (len t)) (fun t => if t < i then 9 else 10 + t) (K'.map (·.1)) (K'.map fun (x : Value × Nat × Nat) => Value.int .i64 (x.2.1 : Int)) K' A ∧ Own1 wr base ρ2 (10 + i) 3 gv (ownl l (m + k)) ∧ Below base w wr) (fun _ s _ => T - (intOf s).toNat)
          case atStart => exact ⟨0, ρ', _, rfl, Nat.zero_le _, rfl, HW.out, HG0.out, HB.out⟩
          case round =>
            clear HW HB HG0
            obtain ⟨k, ρ2, gv, hgv, hk, rfl, hW, hG, hB⟩ := hrel
            subst hgv
            have q1 := hW.row.cell 0
            simp only [List.getElem?_cons_zero] at q1
            have hT := HTT.out
            by_cases hltk : k < T
            · have k1 : (k : Int) < T := by omega
              obtain ⟨ag, cg, hgf, hgc1, hgc2, _⟩ := hG.open
              rw [ownl_length] at hgf hgc1
              obtain ⟨p, hp⟩ : ∃ p, p = m + k := ⟨_, rfl⟩
              rw [← hp] at hgf hgc1 hG
              have hpb : p ≤ 1000004070 := by omega
              subst hgf
              have HW := Lib.hid hW
              have HB := Lib.hid hB
              have HG := Lib.hid hG
              have HP := Lib.hid hp
              clear hW hB hG hp hgc1 hgc2
              all_goals
                have hlb : l ≤ 1000000 := by have := HL.out; omega
                have hw1 : IntKind.i64.wrap ((l : Int) + 1) = (l : Int) + 1 := IntWalk.i64_in _ (by omega)
                have hw2 : IntKind.i64.wrap (-1000003 * ((l : Int) + 1)) = -1000003 * ((l : Int) + 1) := IntWalk.i64_in _ (by omega)
                have hw3 : IntKind.i64.wrap (-1000003 * ((l : Int) + 1) - (p : Int)) = ownv l p := IntWalk.i64_in _ (by omega)
                obtain ⟨i0, hi0, hz0, hz1, hz2⟩ := info_parts info_num
                have hWa := HW.out.alloc (.cells #[.int .i64 (ownv l p)] 3)
                have hGa := HG.out.alloc (.cells #[.int .i64 (ownv l p)] 3)
                have hbz : base ≤ wr.heap.size := Nat.le_trans HW.out.low (Nat.le_of_lt HW.out.row.lt)
                have hBa := HB.out.alloc hbz (.cells #[.int .i64 (ownv l p)] 3)
                obtain ⟨z, hz⟩ : ∃ z, z = ownv l p := ⟨_, rfl⟩
                have hsn := ownl_snoc l p
                rw [← hz] at hWa hGa hBa hsn hw3
                have hGo := hGa.1
                rw [ownl_length] at hGo
                have hnw := cell_one_new wr (.int .i64 z) 3
                have hon : ∀ u ∈ [Value.int .i64 z], u.oneCell' = true := fun u hu => by simp at hu; subst hu; rfl
                have hm3 : p + 1 ≤ maxLen := by unfold maxLen; omega
                have hm4 : (p + 1) * 8 ≤ 140737488355328 := by omega
                have hm5 : base ≤ (wr.alloc (.cells #[.int .i64 z] 3)).heap.size := by simp; omega
                have HWa := Lib.hid hWa
                have HGa := Lib.hid hGa
                have HBa := Lib.hid hBa
                have HGo := Lib.hid hGo
                have HSN := Lib.hid hsn
                clear hWa hGa hBa hGo hsn hz
                go_wp2_with (at_builtin; refine wpList_append_keep rfl (.tmp 79) (.tmp 88) 24 rfl base 3 i0 (.int .i64 0) 8 Try.underlying24 hi0 hz0 hz1 hz2 rfl _ p _ rfl HGo.out ⟨wr.heap.size, 0, none⟩ 1 1 [.int .i64 z] rfl rfl hnw hon (by decide) hm3 hm4 hm5 ?_; intro g2 cap2 w2 hown hgrow hnew hlt2 hkeep)
                rw [HSN.out] at hown
                have hrow : ∀ b, (Value.slice ag p cg).ownBlock = some b → ρ2 b = 10 + i := fun b hb2 => HGa.out.2 b hb2
                have hRi : (fun t => if t < i then 9 else 10 + t) i = 10 + i := if_neg (Nat.lt_irrefl i)
                have hRt : ∀ t, t < n → t ≠ i → (fun t => if t < i then 9 else 10 + t) t ≠ 10 + i := fun t _ hti => by
                  show (if t < i then 9 else 10 + t) ≠ 10 + i
                  split <;> omega
                have hit := HWa.out.item i hlt
                have hit2 := hkeep (v i) _ _ hit.1 (fun _ => by rw [ownl_length, ← HM.out]; have := HP.out; omega)
                have hW3 := HWa.out.growItem hgrow hrow hnew hRt hRi hlt (by omega) hit2
                have hG3 : Own1 w2 base (fun q => if q = g2 then 10 + i else ρ2 q) (10 + i) 3 (.slice (some ⟨g2, 0, none⟩) (p + 1) cap2) (ownl l (m + (k + 1))) := by
                  have e : m + (k + 1) = p + 1 := by have := HP.out; omega
                  rw [e]
                  refine ⟨by rw [ownl_length]; exact hown, fun b hb2 => ?_⟩
                  cases hb2
                  show (if g2 = g2 then 10 + i else ρ2 g2) = 10 + i
                  rw [if_pos rfl]
                have hB3 : Below base w w2 := Below.grown HBa.out hgrow hm5 (fun b hb2 => (HGa.out.1.lt b hb2).1)
                have HW3 := Lib.hid hW3
                have HG3 := Lib.hid hG3
                clear hown hgrow hnew hlt2 hkeep hrow hRi hRt hit hit2 hW3 hG3 hnw hon hm3 hm4 hm5
                go_wp2
                go_roundw
                case rel => exact ⟨k + 1, _, _, rfl, hltk, by go_num, HW3.out, HG3.out, hB3⟩
                case measure => simp [intOf]; omega
            · obtain rfl : T = k := by omega
              obtain ⟨ag, cg, hgf, _, _, _⟩ := hG.open
              rw [ownl_length] at hgf
              obtain ⟨p, hp⟩ : ∃ p, p = m + T := ⟨_, rfl⟩
              rw [← hp] at hgf hG
              have hpb : p ≤ 1000004070 := by omega
              subst hgf
              obtain ⟨N, hN⟩ : ∃ N, N = K'.length := ⟨_, rfl⟩
              have hNb : N ≤ 200000 := by rw [hN, HKN.out]; omega
              obtain ⟨KV, hKV⟩ : ∃ KV, KV = K'.map (·.1) := ⟨_, rfl⟩
              obtain ⟨KN, hKN⟩ : ∃ KN, KN = K'.map fun (x : Value × Nat × Nat) => Value.int .i64 (x.2.1 : Int) := ⟨_, rfl⟩
              have hKVl : KV.length = N := by rw [hKV, List.length_map, hN]
              have hKNl : KN.length = N := by rw [hKN, List.length_map, hN]
              rw [← hKV, ← hKN] at hW
              have hbz : base ≤ wr.heap.size := Nat.le_trans hW.low (Nat.le_of_lt hW.row.lt)
              have q4 := hW.row.cell 3
              simp only [List.getElem?_cons_zero, List.getElem?_cons_succ] at q4
              have hWa := hW.alloc (.cells #[.slice ag p cg] 24)
              have hGa := hG.alloc (.cells #[.slice ag p cg] 24)
              have hBa := hB.alloc hbz (.cells #[.slice ag p cg] 24)
              have hko := hWa.kept.1
              rw [hKVl] at hko
              have hnw := cell_one_new wr (.slice ag p cg) 24
              have hon : ∀ u ∈ [Value.slice ag p cg], u.oneCell' = true := fun u hu => by simp at hu; subst hu; rfl
              have hm3 : N + 1 ≤ maxLen := by unfold maxLen; omega
              have hm4 : (N + 1) * 24 ≤ 140737488355328 := by omega
              have hm4' : (N + 1) * 8 ≤ 140737488355328 := by omega
              have hm5 : base ≤ (wr.alloc (.cells #[.slice ag p cg] 24)).heap.size := by simp; omega
              have hR9 : ∀ t, t < n → 9 ≤ (fun t => if t < i then 9 else 10 + t) t := fun t _ => by
                show 9 ≤ if t < i then 9 else 10 + t
                split <;> omega
              obtain ⟨i1, hi1, hy0, hy1, hy2⟩ := info_parts info_list
              obtain ⟨i3, hi3, hx0, hx1, hx2⟩ := info_parts info_num
              have HW := Lib.hid hWa
              have HB := Lib.hid hBa
              have HG := Lib.hid hGa
              have HKO := Lib.hid hko
              have HP := Lib.hid hp
              have HNN := Lib.hid hN
              have HKV := Lib.hid hKV
              have HKNN := Lib.hid hKN
              have HKVL := Lib.hid hKVl
              have HKNL := Lib.hid hKNl
              clear hW hB hG hWa hGa hBa hko hp hN hKV hKN hKVl hKNl
              have HBZ := Lib.hid hbz
              clear hbz
              go_wp2_with
                (first
                  | (at_builtin
                     refine wpList_append_lies _ rfl (.tmp 94) (.tmp 96) 47 rfl base 24 i1 (.slice none 0 0) 1 24 Try.underlying47 hi1 hy0 hy1 hy2 rfl (by decide) vk' N KV rfl HKO.out ⟨wr.heap.size, 0, none⟩ 1 1 [Value.slice ag p cg] rfl rfl hnw hon (by decide) hm3 hm4 hm5 _ rfl ?_
                     intro g3 cap3 w3 hown hgrow hnew hlt3
                     have hrow : ∀ b, Value.ownBlock vk' = some b → ρ2 b = 2 := fun b hb2 => HW.out.kept.2 b hb2
                     have hl1 : (KV ++ [Value.slice ag p cg]).length = N + 1 := by rw [List.length_append, HKVL.out]; rfl
                     have hW3 := HW.out.growKept hgrow hrow hnew hR9 hl1 hown
                     have r3 := HW.out.row.grow (by rw [HW.out.rol]; omega) hgrow hrow hnew
                     have q4 := r3.cell 3
                     have f4 := r3.free 3
                     have q5 := hW3.row.cell 4
                     simp only [List.getElem?_cons_zero, List.getElem?_cons_succ] at q4 q5
                     have hB3 : Below base w w3 := Below.grown HB.out hgrow hm5 (fun b hb2 => (HKO.out.lt b hb2).1)
                     have hB4 := hB3.setCell (p := ⟨hb, 3, none⟩) HW.out.low (.slice (some ⟨g3, 0, none⟩) (N + 1) cap3)
                     have hG4 := ((HG.out.grow (show 10 + i ≠ 2 by omega) hgrow hrow hnew).set (a := ⟨hb, 3, none⟩) (by rw [hW3.rol]; omega) (.slice (some ⟨g3, 0, none⟩) (N + 1) cap3)).alloc (.cells #[.int .i64 (l : Int)] 3)
                     have HG4 := Lib.hid hG4
                     clear hG4
                     have hs4 : (w3.setCell ⟨hb, 3, none⟩ (.slice (some ⟨g3, 0, none⟩) (N + 1) cap3)).heap.size = w3.heap.size := by simp
                     have hnw2 := cell_one_new (w3.setCell ⟨hb, 3, none⟩ (.slice (some ⟨g3, 0, none⟩) (N + 1) cap3)) (.int .i64 (l : Int)) 3
                     rw [hs4] at hnw2
                     have hon2 : ∀ u ∈ [Value.int .i64 (l : Int)], u.oneCell' = true := fun u hu => by simp at hu; subst hu; rfl
                     have hW4 := hW3.alloc (.cells #[.int .i64 (l : Int)] 3)
                     have hbz4 : base ≤ w3.heap.size := Nat.le_trans HW.out.low (Nat.le_of_lt r3.lt)
                     have hB5 := hB4.alloc (by rw [hs4]; exact hbz4) (.cells #[.int .i64 (l : Int)] 3)
                     have hno := hW4.nums.1
                     rw [HKNL.out] at hno
                     have hm6 : base ≤ ((w3.setCell ⟨hb, 3, none⟩ (.slice (some ⟨g3, 0, none⟩) (N + 1) cap3)).alloc (.cells #[.int .i64 (l : Int)] 3)).heap.size := by simp; omega
                     have HW4 := Lib.hid hW4
                     have HB5 := Lib.hid hB5
                     have HNO := Lib.hid hno
                     clear hown hgrow hnew hlt3 hrow hl1 hW3 r3 hB3 hB4 hs4 hW4 hbz4 hB5 hno)
                  | (at_builtin
                     refine wpList_append_lies _ rfl (.tmp 104) (.tmp 108) 24 rfl base 3 i3 (.int .i64 0) 1 8 Try.underlying24 hi3 hx0 hx1 hx2 rfl (by decide) vn' N KN rfl HNO.out ⟨w3.heap.size, 0, none⟩ 1 1 [.int .i64 (l : Int)] rfl rfl hnw2 hon2 (by decide) hm3 hm4' hm6 _ rfl ?_
                     intro g5 cap5 w5 hown hgrow hnew hlt5
                     have hrow : ∀ b, Value.ownBlock vn' = some b → (fun q => if q = g3 then 2 else ρ2 q) b = 3 := fun b hb2 => HW4.out.nums.2 b hb2
                     have hl1 : (KN ++ [Value.int .i64 (l : Int)]).length = N + 1 := by rw [List.length_append, HKNL.out]; rfl
                     have hW5 := HW4.out.growNums hgrow hrow hnew hR9 hl1 hown
                     have r5 := HW4.out.row.grow (by rw [HW4.out.rol]; omega) hgrow hrow hnew
                     clear q4 f4 q5
                     have q6 := r5.cell 4
                     have f6 := r5.free 4
                     have q2 := hW5.row.cell 1
                     simp only [List.getElem?_cons_zero, List.getElem?_cons_succ] at q6 q2
                     have hB6 := (Below.grown HB5.out hgrow hm6 (fun b hb2 => (HNO.out.lt b hb2).1)).setCell (p := ⟨hb, 4, none⟩) HW.out.low (.slice (some ⟨g5, 0, none⟩) (N + 1) cap5)
                     have hG6 := (HG4.out.grow (show 10 + i ≠ 3 by omega) hgrow hrow hnew).set (a := ⟨hb, 4, none⟩) (by rw [hW5.rol]; omega) (.slice (some ⟨g5, 0, none⟩) (N + 1) cap5)
                     have HG6 := Lib.hid hG6
                     clear hG6
                     have HW5 := Lib.hid hW5
                     have HB6 := Lib.hid hB6
                     clear hown hgrow hnew hlt5 hrow hl1 hW5 r5 hB6 hnw2 hon2))
              all_goals
                have hS := HW5.out.settle (i := i) (x := (.slice ag p cg, l, p)) (by omega) (fun t _ hti => by
                  show (if t < i then 9 else 10 + t) ≠ 10 + i
                  split <;> omega) (Or.inl HG6.out)
                have hS2 := hS.congr (c' := fun t => ownl (f + t) (len t)) (R' := fun t => if t < i + 1 then 9 else 10 + t) (fun t _ => rfl) (fun t _ => by
                  show (if (if t < i then 9 else 10 + t) = 10 + i then 9 else (if t < i then 9 else 10 + t)) = if t < i + 1 then 9 else 10 + t
                  by_cases h1 : t < i
                  · rw [if_pos h1, if_neg (by omega), if_pos (by omega)]
                  · rw [if_neg h1]
                    by_cases h2 : t = i
                    · subst h2; rw [if_pos rfl, if_pos (by omega)]
                    · rw [if_neg (by omega), if_neg (by omega)])
                have e1 : KV ++ [Value.slice ag p cg] = (K' ++ [(Value.slice ag p cg, l, p)]).map (·.1) := by rw [List.map_append, ← HKV.out]; rfl
                have e2 : KN ++ [Value.int .i64 (l : Int)] = (K' ++ [(Value.slice ag p cg, l, p)]).map fun (x : Value × Nat × Nat) => Value.int .i64 (x.2.1 : Int) := by rw [List.map_append, ← HKNN.out]; rfl
                rw [e1, e2] at hS2
                have HS2 := Lib.hid hS2
                have hlen2 : (K' ++ [(Value.slice ag p cg, l, p)]).length = f + (i + 1) := by rw [List.length_append, HKN.out]; rfl
                have hbd2 : ∀ x ∈ K' ++ [(Value.slice ag p cg, l, p)], x.2.1 ≤ 1000000 ∧ x.2.2 ≤ 1000000000000 := by
                  intro x hx
                  rcases List.mem_append.1 hx with hx | hx
                  · exact HKB.out x hx
                  · obtain rfl : x = (Value.slice ag p cg, l, p) := by simpa using hx
                    exact ⟨by show l ≤ _; have := HL.out; omega, by show p ≤ _; omega⟩
                clear hS hS2 e1 e2
                go_wp2
                go_roundw
                case rel => exact ⟨i + 1, _, _, _, _, hlt, by go_num, HS2.out, hlen2, hbd2, HB6.out⟩
                case measure => simp [intOf]; omega
        · obtain rfl : n = i := by omega
          have hW2 := hW.congr (c' := fun t => ownl (f + t) (len t)) (R' := fun _ => 9) (fun t _ => rfl) (fun t ht => if_pos ht)
          have HW := Lib.hid hW2
          have HB := Lib.hid hB
          have HKN := Lib.hid hKn
          have HKB := Lib.hid hKb
          clear hW hB hKn hKb q1 hW2
          go_wp2
          clear q2
          go_loopw [8] (fun s wr => ∃ (i : Nat) (ρ' : Nat → Nat) (vk' vn' : Value) (K' : List (Value × Nat × Nat)), i ≤ n ∧ s = .int .i64 i ∧ WCore wr base hb ρ' cnt tot vf vw vk' vn' n v (fun t => ownl (f + t) (len t)) (fun _ => 9) (K'.map (·.1)) (K'.map fun (x : Value × Nat × Nat) => Value.int .i64 (x.2.1 : Int)) K' A ∧ K'.length = f + n + i ∧ (∀ x ∈ K', x.2.1 ≤ 1000000 ∧ x.2.2 ≤ 1000000000000) ∧ Below base w wr) (fun s _ => n - (intOf s).toNat)
          case atStart => exact ⟨0, ρ', vk', vn', K', Nat.zero_le _, rfl, HW.out, HKN.out, HKB.out, HB.out⟩
          case round =>
            clear HW HB HKN HKB
            obtain ⟨i, ρ', vk', vn', K', hi, rfl, hW, hKn, hKb, hB⟩ := hrel
            have q2 := hW.row.cell 1
            simp only [List.getElem?_cons_zero, List.getElem?_cons_succ] at q2
            rw [HVF.out] at q2
            by_cases hlt : i < n
            · have i1 : (i : Int) < n := by omega
              have i2 : (0 : Int) ≤ (i : Int) := by omega
              obtain ⟨bf, haf, _⟩ := HFC.out (by omega)
              subst haf
              obtain ⟨l, hl⟩ : ∃ l, l = f + i := ⟨_, rfl⟩
              have hlc : (f : Int) + (i : Int) = (l : Int) := by omega
              obtain ⟨ag, cg, hvi, _, _, _⟩ := (hW.item i hlt).open
              rw [ownl_length] at hvi
              have e1 : wr.cell? ⟨bf, i, none⟩ = some (.slice ag (len i) cg) := by
                obtain ⟨a2, c2, hv2, hc2⟩ := own_row_cell hW.fresh
                rw [HVF.out] at hv2
                injection hv2 with hv2 _ _
                obtain ⟨b2, hb2, hcc⟩ := hc2 (by omega)
                rw [← hv2] at hb2
                injection hb2 with hb2
                injection hb2 with hb2
                rw [hb2, hcc i hlt, hvi]
              have hln := HLB.out i
              have hG := hW.item i hlt
              obtain ⟨p, hp⟩ : ∃ p, p = len i := ⟨_, rfl⟩
              rw [← hp] at hln hvi e1
              have hG : Own1 wr base ρ' 9 3 (.slice ag p cg) (ownl l p) := by rw [← hvi, hl, hp]; exact hG
              obtain ⟨N, hN⟩ : ∃ N, N = K'.length := ⟨_, rfl⟩
              have hNb : N ≤ 200000 := by rw [hN, hKn]; omega
              obtain ⟨KV, hKV⟩ : ∃ KV, KV = K'.map (·.1) := ⟨_, rfl⟩
              obtain ⟨KN, hKN⟩ : ∃ KN, KN = K'.map fun (x : Value × Nat × Nat) => Value.int .i64 (x.2.1 : Int) := ⟨_, rfl⟩
              have hKVl : KV.length = N := by rw [hKV, List.length_map, hN]
              have hKNl : KN.length = N := by rw [hKN, List.length_map, hN]
              rw [← hKV, ← hKN] at hW
              have hbz : base ≤ wr.heap.size := Nat.le_trans hW.low (Nat.le_of_lt hW.row.lt)
              have q4 := hW.row.cell 3
              simp only [List.getElem?_cons_zero, List.getElem?_cons_succ] at q4
              have hcd : Calm (wr.alloc (.cells #[.slice ag p cg] 24)) (wr.alloc (.cells #[.slice ag p cg] 24)).drew := (Calm.refl _).drew
              have hWa0 := hW.alloc (.cells #[.slice ag p cg] 24)
              have q4a := hWa0.row.cell 3
              have q2a := hWa0.row.cell 1
              simp only [List.getElem?_cons_zero, List.getElem?_cons_succ] at q4a q2a
              rw [HVF.out] at q2a
              have e1a : (wr.alloc (.cells #[.slice ag p cg] 24)).cell? ⟨bf, i, none⟩ = some (.slice ag p cg) := by
                rw [← e1]; exact World.cell?_of_block (Below.heap_alloc _ _ _ (World.block_lt_of_cell? wr _ e1))
              have hWa := hWa0.calm hcd
              have hGa := (hG.alloc (.cells #[.slice ag p cg] 24)).same hcd.heap
              have hBa := (hB.alloc hbz (.cells #[.slice ag p cg] 24)).drew
              have hko := hWa.kept.1
              rw [hKVl] at hko
              have hnw : ∀ j u, [Value.slice ag p cg][j]? = some u → (wr.alloc (.cells #[.slice ag p cg] 24)).drew.cell? ((⟨wr.heap.size, 0, none⟩ : Addr).add j) = some u := cell_one_new wr (.slice ag p cg) 24
              have hon : ∀ u ∈ [Value.slice ag p cg], u.oneCell' = true := fun u hu => by simp at hu; subst hu; rfl
              have hm3 : N + 1 ≤ maxLen := by unfold maxLen; omega
              have hm4 : (N + 1) * 24 ≤ 140737488355328 := by omega
              have hm4' : (N + 1) * 8 ≤ 140737488355328 := by omega
              have hm5 : base ≤ (wr.alloc (.cells #[.slice ag p cg] 24)).drew.heap.size := by simp; omega
              have hR9 : ∀ t, t < n → 9 ≤ (fun _ : Nat => 9) t := fun t _ => Nat.le_refl 9
              obtain ⟨i1', hi1, hy0, hy1, hy2⟩ := info_parts info_list
              obtain ⟨i3, hi3, hx0, hx1, hx2⟩ := info_parts info_num
              have HW := Lib.hid hWa
              have HB := Lib.hid hBa
              have HG := Lib.hid hGa
              have HKO := Lib.hid hko
              have HP := Lib.hid hp
              have HL := Lib.hid hl
              have HNN := Lib.hid hN
              have HKV := Lib.hid hKV
              have HKNN := Lib.hid hKN
              have HKVL := Lib.hid hKVl
              have HKNL := Lib.hid hKNl
              have HKNe := Lib.hid hKn
              have HKB := Lib.hid hKb
              clear hW hB hG hWa0 hWa hGa hBa hko hp hl hN hKV hKN hKVl hKNl hbz hcd hKn hKb hvi
              go_wp2
              go_region_law
                (first
                  | (skip
                     refine step_append_lies _ rfl (.tmp 125) (.tmp 133) 47 rfl base 24 i1' (.slice none 0 0) 1 24 Try.underlying47 hi1 hy0 hy1 hy2 rfl (by decide) vk' N KV rfl HKO.out ⟨wr.heap.size, 0, none⟩ 1 1 [Value.slice ag p cg] rfl rfl hnw hon (by decide) hm3 hm4 hm5 _ rfl ?_
                     intro g3 cap3 w3 hown hgrow hnew hlt3
                     have hrow : ∀ b, Value.ownBlock vk' = some b → ρ' b = 2 := fun b hb2 => HW.out.kept.2 b hb2
                     have hl1 : (KV ++ [Value.slice ag p cg]).length = N + 1 := by rw [List.length_append, HKVL.out]; rfl
                     have hW3 := HW.out.growKept hgrow hrow hnew hR9 hl1 hown
                     have r3 := HW.out.row.grow (by rw [HW.out.rol]; omega) hgrow hrow hnew
                     have q4 := r3.cell 3
                     have f4 := r3.free 3
                     have q5 := hW3.row.cell 4
                     simp only [List.getElem?_cons_zero, List.getElem?_cons_succ] at q4 q5
                     have hB3 : Below base w w3 := Below.grown HB.out hgrow hm5 (fun b hb2 => (HKO.out.lt b hb2).1)
                     have hB4 := hB3.setCell (p := ⟨hb, 3, none⟩) HW.out.low (.slice (some ⟨g3, 0, none⟩) (N + 1) cap3)
                     have hG4 := ((HG.out.grow (show 9 ≠ 2 by omega) hgrow hrow hnew).set (a := ⟨hb, 3, none⟩) (by rw [hW3.rol]; omega) (.slice (some ⟨g3, 0, none⟩) (N + 1) cap3)).alloc (.cells #[.int .i64 (l : Int)] 3)
                     have HG4 := Lib.hid hG4
                     clear hG4
                     have hs4 : (w3.setCell ⟨hb, 3, none⟩ (.slice (some ⟨g3, 0, none⟩) (N + 1) cap3)).heap.size = w3.heap.size := by simp
                     have hnw2 := cell_one_new (w3.setCell ⟨hb, 3, none⟩ (.slice (some ⟨g3, 0, none⟩) (N + 1) cap3)) (.int .i64 (l : Int)) 3
                     rw [hs4] at hnw2
                     have hon2 : ∀ u ∈ [Value.int .i64 (l : Int)], u.oneCell' = true := fun u hu => by simp at hu; subst hu; rfl
                     have hW4 := hW3.alloc (.cells #[.int .i64 (l : Int)] 3)
                     have hbz4 : base ≤ w3.heap.size := Nat.le_trans HW.out.low (Nat.le_of_lt r3.lt)
                     have hB5 := hB4.alloc (by rw [hs4]; exact hbz4) (.cells #[.int .i64 (l : Int)] 3)
                     have hno := hW4.nums.1
                     rw [HKNL.out] at hno
                     have hm6 : base ≤ ((w3.setCell ⟨hb, 3, none⟩ (.slice (some ⟨g3, 0, none⟩) (N + 1) cap3)).alloc (.cells #[.int .i64 (l : Int)] 3)).heap.size := by simp; omega
                     have HW4 := Lib.hid hW4
                     have HB5 := Lib.hid hB5
                     have HNO := Lib.hid hno
                     clear hown hgrow hnew hlt3 hrow hl1 hW3 r3 hB3 hB4 hs4 hW4 hbz4 hB5 hno))
              all_goals
                go_wp2_with
                  (first
                    | (at_builtin
                       refine wpList_append_lies _ rfl (.tmp 141) (.tmp 145) 24 rfl base 3 i3 (.int .i64 0) 1 8 Try.underlying24 hi3 hx0 hx1 hx2 rfl (by decide) vn' N KN rfl HNO.out ⟨w3.heap.size, 0, none⟩ 1 1 [.int .i64 (l : Int)] rfl rfl hnw2 hon2 (by decide) hm3 hm4' hm6 _ rfl ?_
                       intro g5 cap5 w5 hown hgrow hnew hlt5
                       have hrow : ∀ b, Value.ownBlock vn' = some b → (fun q => if q = g3 then 2 else ρ' q) b = 3 := fun b hb2 => HW4.out.nums.2 b hb2
                       have hl1 : (KN ++ [Value.int .i64 (l : Int)]).length = N + 1 := by rw [List.length_append, HKNL.out]; rfl
                       have hW5 := HW4.out.growNums hgrow hrow hnew hR9 hl1 hown
                       have r5 := HW4.out.row.grow (by rw [HW4.out.rol]; omega) hgrow hrow hnew
                       clear q4 f4 q5
                       have q6 := r5.cell 4
                       have f6 := r5.free 4
                       have q2 := hW5.row.cell 1
                       simp only [List.getElem?_cons_zero, List.getElem?_cons_succ] at q6 q2
                       have hB6 := (Below.grown HB5.out hgrow hm6 (fun b hb2 => (HNO.out.lt b hb2).1)).setCell (p := ⟨hb, 4, none⟩) HW.out.low (.slice (some ⟨g5, 0, none⟩) (N + 1) cap5)
                       have hG6 := (HG4.out.grow (show 9 ≠ 3 by omega) hgrow hrow hnew).set (a := ⟨hb, 4, none⟩) (by rw [hW5.rol]; omega) (.slice (some ⟨g5, 0, none⟩) (N + 1) cap5)
                       have HG6 := Lib.hid hG6
                       clear hG6
                       have HW5 := Lib.hid hW5
                       have HB6 := Lib.hid hB6
                       clear hown hgrow hnew hlt5 hrow hl1 hW5 r5 hB6 hnw2 hon2))
              all_goals
                have hS := HW5.out.settle (i := 0) (x := (.slice ag p cg, l, p)) (by omega) (fun t _ _ => by show (9 : Nat) ≠ 10 + 0; decide) (Or.inr HG6.out)
                have hS2 := hS.congr (c' := fun t => ownl (f + t) (len t)) (R' := fun _ => 9) (fun t _ => rfl) (fun t _ => rfl)
                have e1 : KV ++ [Value.slice ag p cg] = (K' ++ [(Value.slice ag p cg, l, p)]).map (·.1) := by rw [List.map_append, ← HKV.out]; rfl
                have e2 : KN ++ [Value.int .i64 (l : Int)] = (K' ++ [(Value.slice ag p cg, l, p)]).map fun (x : Value × Nat × Nat) => Value.int .i64 (x.2.1 : Int) := by rw [List.map_append, ← HKNN.out]; rfl
                rw [e1, e2] at hS2
                have HS2 := Lib.hid hS2
                have hlen2 : (K' ++ [(Value.slice ag p cg, l, p)]).length = f + n + (i + 1) := by rw [List.length_append, HKNe.out]; rfl
                have hbd2 : ∀ x ∈ K' ++ [(Value.slice ag p cg, l, p)], x.2.1 ≤ 1000000 ∧ x.2.2 ≤ 1000000000000 := by
                  intro x hx
                  rcases List.mem_append.1 hx with hx | hx
                  · exact HKB.out x hx
                  · obtain rfl : x = (Value.slice ag p cg, l, p) := by simpa using hx
                    exact ⟨by show l ≤ _; have := HL.out; omega, by show p ≤ _; omega⟩
                clear hS hS2 e1 e2
                go_wp2
                go_roundw
                case rel => exact ⟨i + 1, _, _, _, _, hlt, by go_num, HS2.out, hlen2, hbd2, HB6.out⟩
                case measure => simp [intOf]; omega
            · obtain rfl : n = i := by omega
              have r1 := hW.row
              have f2 := r1.free 1
              have r2 := r1.put 1 (.slice none 0 0)
              have q3 := r2.cell 2
              have f3 := r2.free 2
              simp only [List.set_cons_zero, List.set_cons_succ, List.getElem?_cons_zero, List.getElem?_cons_succ] at q3
              have r3 := r2.put 2 (.slice none 0 0)
              simp only [List.set_cons_zero, List.set_cons_succ] at r3
              have hset : ∀ {r : Nat} {e : TypeId} {u : Value} {xs : List Value}, r ≠ 0 → Own1 wr base ρ' r e u xs → Own1 ((wr.setCell ⟨hb, 1, none⟩ (.slice none 0 0)).setCell ⟨hb, 2, none⟩ (.slice none 0 0)) base ρ' r e u xs := fun hr ho => (ho.set (a := ⟨hb, 1, none⟩) (by show ρ' hb ≠ _; rw [hW.rol]; exact fun e => hr e.symm) _).set (a := ⟨hb, 2, none⟩) (by show ρ' hb ≠ _; rw [hW.rol]; exact fun e => hr e.symm) _
              have hC : Core ((wr.setCell ⟨hb, 1, none⟩ (.slice none 0 0)).setCell ⟨hb, 2, none⟩ (.slice none 0 0)) base hb ρ' cnt tot (.slice none 0 0) (.slice none 0 0) vk' vn' [] [] K' A :=
                { row := r3, rol := hW.rol, low := hW.low, fresh := Own1.nil _ _ _ _ _, was := Own1.nil _ _ _ _ _, wlen := rfl, kept := hset (by omega) hW.kept, nums := hset (by omega) hW.nums,
                  item := fun i x hx => (by cases hx), copy := fun i v x hv hx => (by cases hx), done := fun x hx => hset (by omega) (hW.done x hx), side := fun j y hy => hset (by omega) (hW.side j y hy) }
              have hBz := (hB.setCell (p := ⟨hb, 1, none⟩) hW.low (.slice none 0 0)).setCell (p := ⟨hb, 2, none⟩) hW.low (.slice none 0 0)
              have HCC := Lib.hid hC
              have HBZ := Lib.hid hBz
              have HKN := Lib.hid hKn
              have HKB := Lib.hid hKb
              clear r1 r2 r3 hset hC hBz hW hB hKn hKb
              go_wp2
              go_end0
              refine ⟨rfl, HBZ.out, ρ', vk', vn', K', HCC.out, ?_, HKB.out⟩
              rw [HKN.out, HF.out, HN.out]; omega
end Go.Proofs.Ytcjomhmpebhhlaa.Led
