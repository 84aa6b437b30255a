/-
  The Book's Own and Done.
-/
import Derived.Test.YtcjomhmpebhhlaaLedD
namespace Go.Proofs.Ytcjomhmpebhhlaa.Led
open Go.RowKit
set_option linter.unusedVariables false

/-- A Book that has taken so much. -/
def Good (w : World) (base hb : Nat) (cnt tot : Int) (k : Nat) (A : List (Value × List Value × TypeId)) : Prop :=
  ∃ ρ vf vw vk vn F ws K, Core w base hb ρ cnt tot vf vw vk vn F ws K A ∧ F.length ≤ 2 ∧ (∀ x ∈ F, x.2.length ≤ 1000000000) ∧ K.length ≤ k ∧ (∀ x ∈ K, x.2.1 ≤ 1000000 ∧ x.2.2 ≤ 1000000000000)

theorem ownsRow_base {w : World} {base base' : Nat} {e : TypeId} {v : Value} {n : Nat} {xs : List Value} (h : w.ownsRow base' e 1 v n xs) (hb : base ≤ base') : w.ownsRow base e 1 v n xs := by
  obtain ⟨hl, hz | ⟨g, cap, cur, rfl, hb', rest⟩⟩ := h
  · exact ⟨hl, Or.inl hz⟩
  · exact ⟨hl, Or.inr ⟨g, cap, cur, rfl, by omega, rest⟩⟩
theorem own_form {w : World} {base : Nat} {e : TypeId} {v : Value} {n : Nat} {xs : List Value} (h : w.ownsRow base e 1 v n xs) : ∃ a c, v = .slice a n c := by
  rcases h.2 with ⟨rfl, h0⟩ | ⟨g, c, cur, rfl, _⟩
  · exact ⟨none, 0, by rw [h0]⟩
  · exact ⟨_, _, rfl⟩

set_option maxHeartbeats 800000 in
theorem copyints_of (v : Value) (xs : List Int) (w : World) (base : Nat) (h : w.ownsRow base 3 1 v xs.length (xs.map (Value.int .i64))) (hl : xs.length ≤ 1000000000) :
    Calls Try.prog 57 #[v] w fun e w' => ∃ v', e = .returned v' ∧ w'.ownsRow w.heap.size 3 1 v' xs.length (xs.map (Value.int .i64)) ∧ Below w.heap.size w w' := by
  obtain ⟨i0, hi, hz0, hz1, hz2⟩ := info_parts info_num
  have h0 := h
  obtain ⟨hl1, ⟨rfl, hn⟩ | ⟨g, cap, cur, rfl, hb, hg, hnc, hcm, hcs, ht⟩⟩ := h
  · have hx : xs = [] := List.length_eq_zero_iff.1 hn
    subst hx
    go_enter Try.func57, Try.ntmps57
    go_wp2_with (at_builtin; refine wpList_append_own_none rfl (.const (.slice none 0 0)) (.tmp 3) 24 rfl w.heap.size 3 i0 1 Try.underlying24 hi (.slice none 0 0) 0 [] rfl (World.ownsRow_nil _ _ _ _) rfl ?_)
    go_ret
    exact ⟨_, rfl, World.ownsRow_nil _ _ _ _, Below.refl _ _⟩
  · have hnews : ∀ (j : Nat) (u : Value), (xs.map (Value.int .i64))[j]? = some u → w.cell? ((⟨g, 0, none⟩ : Addr).add j) = some u := by
      intro j u hu
      have hplain : (⟨g, 0, none⟩ : Addr).add j = ⟨g, j, none⟩ := by unfold Addr.add; split <;> simp_all
      have hj : j < xs.length := by
        rcases Nat.lt_or_ge j xs.length with h | h
        · exact h
        · rw [List.getElem?_eq_none (by simpa using h)] at hu; cases hu
      rw [hplain, h0.cellAt j (by omega), hu]
    have hone : ∀ u ∈ xs.map (Value.int .i64), u.oneCell' = true := by
      intro u hu
      obtain ⟨x, _, rfl⟩ := List.mem_map.1 hu
      rfl
    obtain ⟨m, hm⟩ : ∃ m, m = xs.length := ⟨_, rfl⟩
    have hnl : (xs.map (Value.int .i64)).length = m * 1 := by rw [List.length_map, hm, Nat.mul_one]
    rw [← hm] at hl ⊢
    obtain ⟨zs, hzs⟩ : ∃ zs, zs = xs.map (Value.int .i64) := ⟨_, rfl⟩
    rw [← hzs] at hnews hone hnl ⊢
    clear hl1 hnc hcm hcs ht h0 hg hb hm hzs
    go_enter Try.func57, Try.ntmps57
    go_wp2_with (at_builtin; refine wpList_append_own _ rfl (.const (.slice none 0 0)) (.tmp 3) 24 rfl w.heap.size 3 i0 (.int .i64 0) 1 8 Try.underlying24 hi hz0 hz1 hz2 rfl (by decide) (.slice none 0 0) 0 [] rfl (World.ownsRow_nil _ _ _ _) ⟨g, 0, none⟩ m _ zs rfl hnl hnews hone (by unfold maxLen; omega) (by omega) (Nat.le_refl _) ?_; intro v1 w1 hown hgrow _)
    have hB := Below.grown (Below.refl _ _) hgrow (Nat.le_refl _) (fun k hk => by cases hk)
    rw [Nat.zero_add, List.nil_append] at hown
    go_wp2
    go_ret
    exact ⟨_, rfl, hown, hB⟩

set_option maxRecDepth 100000 in
set_option maxHeartbeats 6400000 in
theorem ownb_of (base hb : Nat) (ρ : Nat → Nat) (cnt tot : Int) (vf vw vk vn : Value) (F : List (Value × List Int)) (ws : List Value) (K : List (Value × Nat × Nat)) (v : Value) (xs : List Int) (kk : Nat) {A : List (Value × List Value × TypeId)} (w : World)
    (hF : F.length ≤ 2) (hFl : ∀ x ∈ F, x.2.length ≤ 1000000000) (hK : K.length ≤ kk) (hkk : kk ≤ 90000) (hKl : ∀ x ∈ K, x.2.1 ≤ 1000000 ∧ x.2.2 ≤ 1000000000000) (hcnt : 0 ≤ cnt ∧ cnt ≤ 1000000000) (htot : 0 ≤ tot ∧ tot ≤ 500000000000)
    (hx : AnyInts xs) (hxl : xs.length ≤ 1000000000) (h : Core w base hb ρ cnt tot vf vw vk vn F ws K A) (hv : Own1 w base ρ (10 + F.length) 3 v (xs.map (Value.int .i64))) :
    Calls Try.prog 35 #[.pointer (some ⟨hb, 0, none⟩), v] w fun e w' => e = .returned (.bool true) ∧ Below base w w' ∧ Good w' base hb cnt (tot + xs.length) (kk + 6) A := by
  obtain ⟨av, cv, hvf, _, _, _⟩ := hv.open
  rw [List.length_map] at hvf
  obtain ⟨m, hm⟩ : ∃ m, m = xs.length := ⟨_, rfl⟩
  rw [← hm] at hvf hxl ⊢
  subst hvf
  obtain ⟨n, hn⟩ : ∃ n, n = F.length := ⟨_, rfl⟩
  rw [← hn] at hv hF
  obtain ⟨c1, hc1⟩ : ∃ c1, c1 = cnt := ⟨_, rfl⟩
  obtain ⟨t1, ht1⟩ : ∃ t1, tot + (m : Int) = t1 := ⟨_, rfl⟩
  rw [ht1]
  subst hc1
  have hwl := h.wlen
  have hM := h.mid.total t1
  have hbz : base ≤ w.heap.size := Nat.le_trans h.low (Nat.le_of_lt h.row.lt)
  have hrA := h.row
  have q1 := hrA.cell 0
  have f1 := hrA.free 0
  have hrB := hrA.put 0 (.int .i64 t1)
  have q2 := hrB.cell 1
  simp only [List.set_cons_zero, List.getElem?_cons_zero, List.getElem?_cons_succ] at q1 q2
  obtain ⟨W2, hW2⟩ : ∃ W2, W2 = w.setCell ⟨hb, 0, none⟩ (.int .i64 t1) := ⟨_, rfl⟩
  have hs2 : W2.heap.size = w.heap.size := by rw [hW2]; simp
  have hset : ∀ (i : Nat) (x : Value) {w0 : World} {u : Value} {zs : List Value}, Own1 w0 base ρ (10 + n) 3 u zs → Own1 (w0.setCell ⟨hb, i, none⟩ x) base ρ (10 + n) 3 u zs := fun i x {w0 u zs} ho => ho.set (a := ⟨hb, i, none⟩) (by show ρ hb ≠ _; rw [h.rol]; omega) x
  have hv2 : Own1 W2 base ρ (10 + n) 3 (.slice av m cv) (xs.map (Value.int .i64)) := by rw [hW2]; exact hset 0 _ hv
  have hB2 : Below base w W2 := by rw [hW2]; exact (Below.refl base w).setCell h.low _
  rw [← hW2] at hM
  have hMa := hM.alloc (.cells #[.slice av m cv] 24)
  have hva := hv2.alloc (.cells #[.slice av m cv] 24)
  have hBa := hB2.alloc (by rw [hs2]; exact hbz) (.cells #[.slice av m cv] 24)
  have hko := hMa.fresh.1
  rw [List.length_map, ← hn] at hko
  have hnw := cell_one_new W2 (.slice av m cv) 24
  rw [hs2] at hnw
  have hon : ∀ u ∈ [Value.slice av m cv], u.oneCell' = true := fun u hu => by simp at hu; subst hu; rfl
  have hm3 : n + 1 ≤ maxLen := by unfold maxLen; omega
  have hm4 : (n + 1) * 24 ≤ 140737488355328 := by omega
  have hm5 : base ≤ (W2.alloc (.cells #[.slice av m cv] 24)).heap.size := by simp; omega
  obtain ⟨i1, hi1, hy0, hy1, hy2⟩ := info_parts info_list
  have HM := Lib.hid hMa
  have HV := Lib.hid hva
  have HB := Lib.hid hBa
  have HKO := Lib.hid hko
  have HN := Lib.hid hn
  have HF := Lib.hid hF
  have HFL := Lib.hid hFl
  have HK := Lib.hid hK
  have HKK := Lib.hid hkk
  have HKL := Lib.hid hKl
  have HT := Lib.hid htot
  have HT1 := Lib.hid ht1
  have HX := Lib.hid hx
  have HXL := Lib.hid hxl
  have HMM := Lib.hid hm
  have HWL := Lib.hid hwl
  clear hMa hva hBa hko hn hF hFl hK hkk hKl hx hm hwl hM hv2 hB2 hset hrA hrB hv h
  subst hW2
  go_enter Try.func35, Try.ntmps35
  go_wp2_with
    (at_builtin
     refine wpList_append_lies _ rfl (.tmp 19) (.tmp 21) 47 rfl base 24 i1 (.slice none 0 0) 1 24 Try.underlying47 hi1 hy0 hy1 hy2 rfl (by decide) vf n _ rfl HKO.out ⟨w.heap.size, 0, none⟩ 1 1 [Value.slice av m cv] rfl rfl hnw hon (by decide) hm3 hm4 hm5 _ rfl ?_
     intro g3 cap3 w3 hown hgrow hnew hlt3
     have hrow : ∀ b, Value.ownBlock vf = some b → ρ b = 1 := fun b hb2 => HM.out.fresh.2 b hb2
     have hl1 : (F.map (·.1) ++ [Value.slice av m cv]).length = n + 1 := by rw [List.length_append, List.length_map, ← HN.out]; rfl
     have hM3 := HM.out.growFresh hgrow hrow hnew hl1 hown
     have hv3 := (HV.out.grow (show 10 + n ≠ 1 by omega) hgrow hrow hnew).set (a := ⟨hb, 1, none⟩) (by rw [hM3.rol]; omega) (.slice (some ⟨g3, 0, none⟩) (n + 1) cap3)
     have r3 := HM.out.row.grow (by rw [HM.out.rol]; omega) hgrow hrow hnew
     clear q1 f1 q2
     have q2 := r3.cell 1
     have f2 := r3.free 1
     simp only [List.getElem?_cons_zero, List.getElem?_cons_succ] at q2
     have hB3 := (Below.grown HB.out hgrow hm5 (fun b hb2 => (HKO.out.lt b hb2).1)).setCell (p := ⟨hb, 1, none⟩) HM.out.low (.slice (some ⟨g3, 0, none⟩) (n + 1) cap3)
     have HM3 := Lib.hid hM3
     have HV3 := Lib.hid hv3
     have HB3 := Lib.hid hB3
     clear hown hgrow hnew hlt3 hrow hl1 hM3 hv3 r3 hB3 hnw)
  clear q2 f2
  generalize (w3.setCell ⟨hb, 1, none⟩ (.slice (some ⟨g3, 0, none⟩) (n + 1) cap3)) = w4 at HM3 HV3 HB3 ⊢
  generalize (fun q => if q = g3 then 1 else ρ q) = ρ4 at HM3 HV3
  have hcd : Calm w4 w4.drew := (Calm.refl w4).drew
  have hM4 := HM3.out.calm hcd
  have hv4 := HV3.out.same hcd.heap
  have hB4 := HB3.out.drew
  have q3 := HM3.out.row.cell 2
  simp only [List.getElem?_cons_zero, List.getElem?_cons_succ] at q3
  have hh4 : w4.drew.ownsRow base 3 1 (.slice av m cv) xs.length (xs.map (Value.int .i64)) := by have := hv4.1; rwa [List.length_map] at this
  have hbz4 : base ≤ w4.drew.heap.size := Nat.le_trans hM4.low (Nat.le_of_lt hM4.row.lt)
  have HM4 := Lib.hid hM4
  have HV4 := Lib.hid hv4
  have HB4 := Lib.hid hB4
  have HH4 := Lib.hid hh4
  have HBZ4 := Lib.hid hbz4
  clear hcd hM4 hv4 hB4 hh4 hbz4 HM HV HB HKO hm5
  go_region_law
    (first
      | (refine step_append_lies _ rfl (.tmp 29) (.tmp 32) 47 rfl base 24 i1 (.slice none 0 0) 1 24 Try.underlying47 hi1 hy0 hy1 hy2 rfl (by decide) vw n _ rfl HKO5.out ⟨w5.heap.size, 0, none⟩ 1 1 [Value.slice a5 m c5] rfl rfl hnw5 hon5 (by decide) hm3 hm4 hm6 _ rfl ?_
         intro g6 cap6 w6 hown hgrow hnew hlt6
         have hrow : ∀ b, Value.ownBlock vw = some b → (fun q => if w4.drew.heap.size ≤ q then 9 else ρ4 q) b = 4 := fun b hb2 => HM5.out.was.2 b hb2
         have hl1 : (ws ++ [Value.slice a5 m c5]).length = n + 1 := by rw [List.length_append, HWL.out, ← HN.out]; rfl
         have hM6 := HM5.out.growWas hgrow hrow hnew hl1 hown
         have hv6 := (HV5.out.grow (show 10 + n ≠ 4 by omega) hgrow hrow hnew).set (a := ⟨hb, 2, none⟩) (by rw [hM6.rol]; omega) (.slice (some ⟨g6, 0, none⟩) (n + 1) cap6)
         have hc6 := (HC5.out.grow (show 9 ≠ 4 by omega) hgrow hrow hnew).set (a := ⟨hb, 2, none⟩) (by rw [hM6.rol]; omega) (.slice (some ⟨g6, 0, none⟩) (n + 1) cap6)
         have r6 := HM5.out.row.grow (by rw [HM5.out.rol]; omega) hgrow hrow hnew
         clear q3a q3b
         have q3 := r6.cell 2
         have f3 := r6.free 2
         have q2 := hM6.row.cell 1
         simp only [List.getElem?_cons_zero, List.getElem?_cons_succ] at q3 q2
         have hB6 := (Below.grown HB5.out hgrow hm6 (fun b hb2 => (HKO5.out.lt b hb2).1)).setCell (p := ⟨hb, 2, none⟩) HM5.out.low (.slice (some ⟨g6, 0, none⟩) (n + 1) cap6)
         have hC6 := hM6.core (by rw [HWL.out]) HX.out (by rw [← HN.out]; exact hv6) hc6
         have HC6 := Lib.hid hC6
         have HB6 := Lib.hid hB6
         clear hown hgrow hnew hlt6 hrow hl1 hM6 hv6 hc6 r6 hB6 hC6)
      | (go_simp
         go_at_call 57
         refine (copyints_of _ xs _ base HH4.out (by rw [← HMM.out]; have := HXL.out; omega)).mono ?_
         rintro e w5 ⟨v', rfl, hown5, hB5⟩
         obtain ⟨a5, c5, rfl⟩ := own_form hown5
         rw [← HMM.out] at hown5
         try rw [← HMM.out]
         have hM5a := HM4.out.news hB5
         have hv5a : Own1 w5 base (fun q => if w4.drew.heap.size ≤ q then 9 else ρ4 q) (10 + n) 3 (.slice av m cv) (xs.map (Value.int .i64)) := HV4.out.move fun q hq hr => ⟨hB5.block q hq, by
           show (if w4.drew.heap.size ≤ q then 9 else ρ4 q) = 10 + n
           rw [if_neg (by omega)]; exact hr⟩
         have hc5a : Own1 w5 base (fun q => if w4.drew.heap.size ≤ q then 9 else ρ4 q) 9 3 (.slice a5 m c5) (xs.map (Value.int .i64)) := ⟨by
           rw [List.length_map, ← HMM.out]; exact ownsRow_base hown5 HBZ4.out, fun b hb2 => by
           have := (hown5.lt b hb2).1
           show (if w4.drew.heap.size ≤ b then 9 else ρ4 b) = 9
           rw [if_pos this]⟩
         have hs5 := hB5.size
         have hbz5 : base ≤ w5.heap.size := Nat.le_trans HBZ4.out hs5
         have q3a := hM5a.row.cell 2
         have hM5 := hM5a.alloc (.cells #[.slice a5 m c5] 24)
         have q3b := hM5.row.cell 2
         simp only [List.getElem?_cons_zero, List.getElem?_cons_succ] at q3a q3b
         have hv5 := hv5a.alloc (.cells #[.slice a5 m c5] 24)
         have hc5 := hc5a.alloc (.cells #[.slice a5 m c5] 24)
         have hko5 := hM5.was.1
         rw [HWL.out, ← HN.out] at hko5
         have hnw5 := cell_one_new w5 (.slice a5 m c5) 24
         have hon5 : ∀ u ∈ [Value.slice a5 m c5], u.oneCell' = true := fun u hu => by simp at hu; subst hu; rfl
         have hm6 : base ≤ (w5.alloc (.cells #[.slice a5 m c5] 24)).heap.size := by simp; omega
         have hB5w := (HB4.out.trans (hB5.mono HBZ4.out)).alloc hbz5 (.cells #[.slice a5 m c5] 24)
         have HM5 := Lib.hid hM5
         have HV5 := Lib.hid hv5
         have HC5 := Lib.hid hc5
         have HKO5 := Lib.hid hko5
         have HB5 := Lib.hid hB5w
         clear hM5a hv5a hc5a hM5 hv5 hc5 hko5 hB5w hs5 hbz5 hown5 hB5))
  all_goals
    generalize (w6.setCell ⟨hb, 2, none⟩ (.slice (some ⟨g6, 0, none⟩) (n + 1) cap6)) = w7 at HC6 HB6 q2 ⊢
    have hFb : ∀ x ∈ F ++ [(Value.slice av m cv, xs)], x.2.length ≤ 1000000000 := by
      intro x hx
      rcases List.mem_append.1 hx with hx | hx
      · exact HFL.out x hx
      · obtain rfl : x = (Value.slice av m cv, xs) := by simpa using hx
        show xs.length ≤ _
        rw [← HMM.out]; exact HXL.out
    have hFlen : (F ++ [(Value.slice av m cv, xs)]).length = n + 1 := by rw [List.length_append, ← HN.out]; rfl
    have ht1b : 0 ≤ t1 ∧ t1 ≤ 1000000000000 := by have := HT.out; have := HT1.out; have := HXL.out; omega
    have HFB := Lib.hid hFb
    have HFLEN := Lib.hid hFlen
    have HTB := Lib.hid ht1b
    clear hFb hFlen ht1b
    by_cases h3 : n = 2
    · have i1 : (3 : Int) ≤ ((n + 1 : Nat) : Int) := by omega
      have i2 : (3 : Int) ≤ (n : Int) + 1 := by omega
      clear h3
      go_wp2_with fail
      refine (write_of base hb _ c1 t1 _ _ vk vn _ _ K _ (by rw [HFLEN.out]; have := HF.out; omega) HFB.out (by have := HK.out; have := HKK.out; omega) HTB.out HKL.out HC6.out).mono ?_
      rintro e w8 ⟨rfl, hB8, ρ8, vk8, vn8, K8, hC8, hK8, hKb8⟩
      have HC8 := Lib.hid hC8
      have HB8 := Lib.hid (HB6.out.trans hB8)
      have HK8 := Lib.hid hK8
      have HKB8 := Lib.hid hKb8
      clear hC8 hB8 hK8 hKb8
      go_wp2_with fail
      refine (holds_of base hb ρ8 c1 t1 _ _ vk8 vn8 [] [] K8 _ (by decide) (by rw [HK8.out, HFLEN.out]; have := HK.out; have := HKK.out; have := HF.out; omega) HKB8.out HC8.out).mono ?_
      rintro e w9 ⟨rfl, hCa⟩
      go_wp2
      go_ret
      exact ⟨rfl, HB8.out.trans (hCa.below base), ρ8, _, _, vk8, vn8, [], [], K8, HC8.out.calm hCa, by decide, fun x hx => (by cases hx), by rw [HK8.out, HFLEN.out]; have := HK.out; have := HF.out; omega, HKB8.out⟩
    · have i1 : ((n + 1 : Nat) : Int) < 3 := by have := HF.out; omega
      have i2 : (n : Int) + 1 < 3 := by have := HF.out; omega
      have i3 : ¬ ((3 : Int) ≤ (n : Int) + 1) := by omega
      have HH3 := Lib.hid h3
      clear h3
      go_wp2_with fail
      refine (holds_of base hb _ c1 t1 _ _ vk vn _ _ K _ (by rw [HFLEN.out]; have := HF.out; omega) (by have := HK.out; have := HKK.out; omega) HKL.out HC6.out).mono ?_
      rintro e w9 ⟨rfl, hCa⟩
      go_wp2
      go_ret
      exact ⟨rfl, HB6.out.trans (hCa.below base), _, _, _, vk, vn, _, _, K, HC6.out.calm hCa, by rw [HFLEN.out]; have := HF.out; have := HH3.out; omega, HFB.out, by have := HK.out; omega, HKL.out⟩

/-- A new Book. -/
theorem good_new (w : World) (base hb : Nat) (hlow : base ≤ hb) (h : Row w hb 49 [.int .i64 0, .slice none 0 0, .slice none 0 0, .slice none 0 0, .slice none 0 0, .bool false]) : Good w base hb 0 0 0 [] :=
  ⟨fun _ => 0, _, _, _, _, [], [], [], { row := h, rol := rfl, low := hlow, fresh := Own1.nil _ _ _ _ _, was := Own1.nil _ _ _ _ _, wlen := rfl, kept := Own1.nil _ _ _ _ _, nums := Own1.nil _ _ _ _ _, item := fun i x hx => (by cases hx), copy := fun i v x hv hx => (by cases hx), done := fun x hx => (by cases hx), side := fun j y hy => (by cases hy) },
    by decide, fun x hx => (by cases hx), Nat.le_refl _, fun x hx => (by cases hx)⟩
theorem Good.below {w w' : World} {base hb : Nat} {cnt tot : Int} {k : Nat} {A : List (Value × List Value × TypeId)} (h : Good w base hb cnt tot k A) (hB : Below w.heap.size w w') : Good w' base hb cnt tot k A := by
  obtain ⟨ρ, vf, vw, vk, vn, F, ws, K, hC, h1, h2, h3, h4⟩ := h
  exact ⟨ρ, vf, vw, vk, vn, F, ws, K, (hC.mid.move fun q hq => ⟨hB.block q hq, rfl⟩).back hC.wlen, h1, h2, h3, h4⟩
/-- What lies aside is there. -/
theorem Good.aside {w : World} {base hb : Nat} {cnt tot : Int} {k : Nat} {A : List (Value × List Value × TypeId)} (h : Good w base hb cnt tot k A) {j : Nat} {y : Value × List Value × TypeId} (hy : A[j]? = some y) : w.ownsRow base y.2.2 1 y.1 y.2.1.length y.2.1 := by
  obtain ⟨ρ, vf, vw, vk, vn, F, ws, K, hC, _⟩ := h
  exact (hC.side j y hy).1
theorem Good.lt {w : World} {base hb : Nat} {cnt tot : Int} {k : Nat} {A : List (Value × List Value × TypeId)} (h : Good w base hb cnt tot k A) : base ≤ hb ∧ hb < w.heap.size := by
  obtain ⟨ρ, vf, vw, vk, vn, F, ws, K, hC, _⟩ := h
  exact ⟨hC.low, hC.row.lt⟩
/-- A list that was made since lies aside. -/
theorem Good.give {w0 w : World} {base hb : Nat} {cnt tot : Int} {k : Nat} {A : List (Value × List Value × TypeId)} (hG : Good w0 base hb cnt tot k A) (hB : Below w0.heap.size w0 w) {e : TypeId} {v : Value} {xs : List Value} (hv : w.ownsRow w0.heap.size e 1 v xs.length xs) : Good w base hb cnt tot k (A ++ [(v, xs, e)]) := by
  obtain ⟨ρ, vf, vw, vk, vn, F, ws, K, hC, h1, h2, h3, h4⟩ := hG
  have hbz : base ≤ w0.heap.size := Nat.le_trans hC.low (Nat.le_of_lt hC.row.lt)
  have hC2 : Core w base hb (fun q => if w0.heap.size ≤ q then 1000 + A.length else ρ q) cnt tot vf vw vk vn F ws K A := (hC.mid.move fun q hq => ⟨hB.block q hq, by
    show (if w0.heap.size ≤ q then 1000 + A.length else ρ q) = ρ q
    rw [if_neg (by omega)]⟩).back hC.wlen
  refine ⟨_, vf, vw, vk, vn, F, ws, K, { row := hC2.row, rol := hC2.rol, low := hC2.low, fresh := hC2.fresh, was := hC2.was, wlen := hC2.wlen, kept := hC2.kept, nums := hC2.nums, item := hC2.item, copy := hC2.copy, done := hC2.done, side := fun j y hy => ?_ }, h1, h2, h3, h4⟩
  by_cases hj : j < A.length
  · rw [List.getElem?_append_left hj] at hy
    exact hC2.side j y hy
  · rw [List.getElem?_append_right (by omega)] at hy
    have hj2 : j = A.length := by
      rcases Nat.lt_or_ge A.length j with h | h
      · rw [List.getElem?_eq_none (by simp; omega)] at hy; cases hy
      · omega
    subst hj2
    simp at hy
    subst hy
    exact ⟨ownsRow_base hv hbz, fun b hb2 => by
      have := (hv.lt b hb2).1
      show (if w0.heap.size ≤ b then 1000 + A.length else ρ b) = _
      rw [if_pos this]⟩
/-- Own, of a list that lies aside. -/
theorem own_good (base hb : Nat) (cnt tot : Int) (k : Nat) (v : Value) (xs : List Int) (j : Nat) (A : List (Value × List Value × TypeId)) (w : World) (hG : Good w base hb cnt tot k A) (hA : A[j]? = some (v, xs.map (Value.int .i64), 3)) (hk : k ≤ 90000) (hcnt : 0 ≤ cnt ∧ cnt ≤ 1000000000) (htot : 0 ≤ tot ∧ tot ≤ 500000000000)
    (hx : AnyInts xs) (hxl : xs.length ≤ 1000000000) :
    Calls Try.prog 35 #[.pointer (some ⟨hb, 0, none⟩), v] w fun e w' => e = .returned (.bool true) ∧ Below base w w' ∧ Good w' base hb cnt (tot + xs.length) (k + 6) (A.set j (.slice none 0 0, [], 3)) := by
  obtain ⟨ρ, vf, vw, vk, vn, F, ws, K, hC, h1, h2, h3, h4⟩ := hG
  have hm : ∀ {r : Nat} {e : TypeId} {u : Value} {zs : List Value}, r ≠ 1000 + j → Own1 w base ρ r e u zs → Own1 w base (fun q => if ρ q = 1000 + j then 10 + F.length else ρ q) r e u zs := fun hr ho => ho.move fun q _ hq => ⟨rfl, by
    show (if ρ q = 1000 + j then 10 + F.length else ρ q) = _
    rw [if_neg (by rw [hq]; exact hr), hq]⟩
  have hC2 : Core w base hb (fun q => if ρ q = 1000 + j then 10 + F.length else ρ q) cnt tot vf vw vk vn F ws K (A.set j (.slice none 0 0, [], 3)) :=
    { row := hC.row, rol := by show (if ρ hb = 1000 + j then 10 + F.length else ρ hb) = 0; rw [hC.rol, if_neg (by omega)], low := hC.low, fresh := hm (by omega) hC.fresh, was := hm (by omega) hC.was, wlen := hC.wlen, kept := hm (by omega) hC.kept, nums := hm (by omega) hC.nums,
      item := fun i x hx => ⟨hm (by
        have : i < F.length := by
          rcases Nat.lt_or_ge i F.length with h | h
          · exact h
          · rw [List.getElem?_eq_none h] at hx; cases hx
        omega) (hC.item i x hx).1, (hC.item i x hx).2⟩, copy := fun i u x hu hx => hm (by omega) (hC.copy i u x hu hx), done := fun x hx => hm (by omega) (hC.done x hx),
      side := fun j' y hy => by
        rw [List.getElem?_set] at hy
        by_cases e : j = j'
        · subst e
          rw [if_pos rfl] at hy
          split at hy
          · injection hy with hy
            subst hy
            exact Own1.nil _ _ _ _ _
          · cases hy
        · rw [if_neg e] at hy
          exact hm (by omega) (hC.side j' y hy) }
  exact ownb_of base hb _ cnt tot vf vw vk vn F ws K v xs k w h1 h2 h3 hk h4 hcnt htot hx hxl hC2 ((hC.side j _ hA).move fun q _ hq => ⟨rfl, by
    show (if ρ q = 1000 + j then 10 + F.length else ρ q) = _
    rw [if_pos hq]⟩)
set_option maxHeartbeats 1600000 in
theorem done_good (base hb : Nat) (cnt tot : Int) (k : Nat) (A : List (Value × List Value × TypeId)) (w : World) (hG : Good w base hb cnt tot k A) (hk : k ≤ 90000) (htot : 0 ≤ tot ∧ tot ≤ 500000000000) :
    Calls Try.prog 36 #[.pointer (some ⟨hb, 0, none⟩)] w fun e w' => e = .returned (.bool true) ∧ Below base w w' := by
  obtain ⟨ρ, vf, vw, vk, vn, F, ws, K, hC, h1, h2, h3, h4⟩ := hG
  have HC := Lib.hid hC
  clear hC
  go_enter Try.func36, Try.ntmps36
  go_wp2_with fail
  refine (write_of base hb ρ cnt tot vf vw vk vn F ws K _ (by omega) h2 (by omega) ⟨htot.1, by omega⟩ h4 HC.out).mono ?_
  rintro e w8 ⟨rfl, hB8, ρ8, vk8, vn8, K8, hC8, hK8, hKb8⟩
  have HC8 := Lib.hid hC8
  have HB8 := Lib.hid hB8
  have HKB8 := Lib.hid hKb8
  clear hC8 hB8 hKb8
  go_wp2_with fail
  refine (holds_of base hb ρ8 cnt tot _ _ vk8 vn8 [] [] K8 _ (by decide) (by rw [hK8]; omega) HKB8.out HC8.out).mono ?_
  rintro e w9 ⟨rfl, hCa⟩
  go_wp2
  go_ret
  exact ⟨rfl, HB8.out.trans (hCa.below base)⟩
end Go.Proofs.Ytcjomhmpebhhlaa.Led
