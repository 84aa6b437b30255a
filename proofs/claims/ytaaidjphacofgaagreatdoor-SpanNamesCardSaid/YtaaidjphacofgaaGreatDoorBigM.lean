/-
  Spans: from and fit of any two whole numbers.
-/
import Derived.Test.YtaaidjphacofgaaGreatDoorBigL
import Derived.Test.YtaaidjphacofgaaGreatDoorBigE
namespace Go.Proofs.YtaaidjphacofgaaGreatDoor
open Go.RowKit
set_option linter.unusedVariables false
set_option linter.unusedSimpArgs false

/-- Is it a number of 64 bits? -/
def isI (x : Int) : Bool := decide (-9223372036854775808 ≤ x ∧ x ≤ 9223372036854775807)
theorem low64_0 (a : Option Addr) (c : Nat) (w : World) : Calls Tryz.prog 103 #[.slice a 0 c] w fun e w' => e = .returned (.int .u64 0) ∧ w = w' := by
  go_enter Tryz.func103, Tryz.ntmps103
  go_wp2
  go_ret
  exact ⟨rfl, rfl⟩
set_option maxHeartbeats 1600000 in
theorem isintN (b : Nat) (x : Int) (w : World) (h : BN w b x) : Calls Tryz.prog 87 #[.pointer (some ⟨b, 0, none⟩)] w fun e w' => e = .returned (.bool (isI x)) ∧ w = w' := by
  by_cases h0 : x = 0
  · subst h0
    obtain ⟨a, c, c0, c1⟩ := h.zero
    have HLO := Lib.hid (fun w => low64_0 a c w)
    clear h
    go_enter Tryz.func87, Tryz.ntmps87
    go_wp2_with (go_at_call 103; refine (HLO.out _).mono ?_; rintro e w' ⟨rfl, rfl⟩)
    go_ret
    exact ⟨rfl, rfl⟩
  by_cases hm : mag x < 18446744073709551616
  · have hp := h.bp h0 hm
    obtain ⟨g, c, ⟨q0, q1, q2⟩, _, _, hp0, _⟩ := hp.cells
    have HLO := Lib.hid (fun w k => low64_1 g c (mag x) w k)
    obtain ⟨nx, hnx⟩ : ∃ n, decide (x < 0) = n := ⟨_, rfl⟩
    rw [hnx] at q0
    by_cases hs : mag x < 9223372036854775808
    · have hv : isI x = true := by unfold isI; unfold mag at hs; simp; split at hs <;> omega
      have u1 : wrap64 (mag x) = mag x := by unfold wrap64; omega
      have d : decide (0 ≤ mag x) = true := by simp; omega
      rw [hv]
      generalize mag x = m at *
      clear h hp hm hs hv h0 hp0 hnx
      go_enter Tryz.func87, Tryz.ntmps87
      go_wp2_with (go_at_call 103; refine (HLO.out _ q2).mono ?_; rintro e w' ⟨rfl, rfl⟩)
      go_ret
      exact ⟨rfl, rfl⟩
    · obtain ⟨q, hq⟩ : ∃ q, q = wrap64 (mag x) := ⟨_, rfl⟩
      obtain ⟨q', hq'⟩ : ∃ q', q' = wrap64 (-q) := ⟨_, rfl⟩
      obtain ⟨e, he⟩ : ∃ e, (q == q') = e := ⟨_, rfl⟩
      have d : decide (0 ≤ q) = false := by rw [hq]; unfold wrap64; simp; omega
      have hev : e = decide (mag x = 9223372036854775808) := by
        rw [← he, Bool.eq_iff_iff]
        simp only [beq_iff_eq, decide_eq_true_eq]
        rw [hq', hq]
        unfold wrap64
        omega
      have hv : isI x = (nx && e) := by
        rw [hev, ← hnx]
        unfold isI
        unfold mag at hs hm ⊢
        rw [Bool.eq_iff_iff]
        simp only [decide_eq_true_eq, Bool.and_eq_true]
        split at hs <;> split <;> omega
      rw [hv]
      have u1 : wrap64 (mag x) = q := hq.symm
      have u2 : wrap64 (-q) = q' := hq'.symm
      generalize mag x = m at *
      clear h hp hm hs hv h0 hp0 hnx hq hq' hev
      cases nx
      all_goals cases e
      all_goals
        go_enter Tryz.func87, Tryz.ntmps87
        go_wp2_with (go_at_call 103; refine (HLO.out _ q2).mono ?_; rintro e w' ⟨rfl, rfl⟩)
        go_ret
        exact ⟨rfl, rfl⟩
  · obtain ⟨a, n, c, h1, h2⟩ := h
    have hv : isI x = false := by unfold isI; unfold mag at hm; simp; split at hm <;> omega
    rw [hv]
    have hn : n = 2 := by
      rcases h2 with ⟨k, _⟩ | ⟨_, k, _⟩ | ⟨_, _, g, cs, k, _⟩
      · omega
      · omega
      · simp only [Value.slice.injEq] at k
        exact k.2.1
    subst hn
    have q1 := (h1.cell 1).trans rfl
    clear h1 h2 hv hm h0
    go_enter Tryz.func87, Tryz.ntmps87
    go_wp2
    go_ret
    exact ⟨rfl, rfl⟩
theorem BN.put {w : World} {b s : Nat} {x : Int} (h : BN w b x) {cs : List Value} (hs : Row w s 23 cs) (i : Nat) (v : Value) : BN (w.setCell ⟨s, i, none⟩ v) b x := by
  obtain ⟨a, n, c, h1, h2⟩ := h
  have hg : ∀ g ds, Row w g 96 ds → Row (w.setCell ⟨s, i, none⟩ v) g 96 ds := fun g ds hr => hr.other _ _ (hr.ne hs (by decide))
  refine ⟨a, n, c, h1.other _ _ (h1.ne hs (by decide)), ?_⟩
  rcases h2 with h | ⟨k1, k2, g, cs, k3, k4, k5⟩ | ⟨k1, k2, g, cs, k3, k4, k5⟩
  · exact .inl h
  · exact .inr (.inl ⟨k1, k2, g, cs, k3, k4, hg _ _ k5⟩)
  · exact .inr (.inr ⟨k1, k2, g, cs, k3, k4, hg _ _ k5⟩)
/-- What from keeps. -/
structure FN (w : World) (a b : Nat) (x y : Int) (s : Nat) (sl sh : Int) (sp sq : Bool) (c : World) : Prop where
  res : Row c w.heap.size 23 (spc 0 0 false false)
  row : Row c s 23 (spc sl sh sp sq)
  ba : BN c a x
  bb : BN c b y
  bel : Below w.heap.size w c
  lt : w.heap.size < s
theorem FN.below {w : World} {a b : Nat} {x y : Int} {s : Nat} {sl sh : Int} {sp sq : Bool} {c c' : World} (h : FN w a b x y s sl sh sp sq c) (hB : Below c.heap.size c c') : FN w a b x y s sl sh sp sq c' :=
  ⟨h.res.below hB h.res.lt, h.row.below hB h.row.lt, h.ba.below hB, h.bb.below hB, h.bel.trans (hB.mono h.bel.size), h.lt⟩
theorem FN.put {w : World} {a b : Nat} {x y : Int} {s : Nat} {sl sh : Int} {sp sq : Bool} {c : World} (h : FN w a b x y s sl sh sp sq c) (i : Nat) (v : Value) (sl' sh' : Int) (sp' sq' : Bool) (he : (spc sl sh sp sq).set i v = spc sl' sh' sp' sq') :
    FN w a b x y s sl' sh' sp' sq' (c.setCell ⟨s, i, none⟩ v) :=
  ⟨h.res.other _ _ (Nat.ne_of_lt h.lt), he ▸ h.row.put i v, h.ba.put h.row i v, h.bb.put h.row i v, h.bel.setCell (p := ⟨s, i, none⟩) (Nat.le_of_lt h.lt) v, h.lt⟩
/-- The span of two whole numbers. -/
def fromv (x y : Int) : Value := .agg #[.int .i64 (oflo x), .int .i64 (ofhi y), .bool (decide (x < -1152921504606846976)), .bool (decide (1152921504606846976 < y))]
set_option maxRecDepth 100000 in
set_option maxHeartbeats 3200000 in
theorem from_00 (a b : Nat) (x y : Int) (hl1 : decide (0 ≤ cmpv x (-1152921504606846976)) = false) (hl2 : True) (hh1 : decide (cmpv y 1152921504606846976 ≤ 0) = false) (hh2 : True) (hxr : True) (hyr : True) (w : World) (ha : BN w a x) (hb : BN w b y) :
    Calls Tryz.prog 80 #[.pointer (some ⟨a, 0, none⟩), .pointer (some ⟨b, 0, none⟩)] w (Ret w (.agg #[.int .i64 0, .int .i64 0, .bool true, .bool true])) := by
  have HL := Lib.hid (And.intro hl1 hl2)
  have HH := Lib.hid (And.intro hh1 hh2)
  have HXR := Lib.hid hxr
  have HYR := Lib.hid hyr
  have HA := Lib.hid ha
  have HB := Lib.hid hb
  have HF := Lib.hid full_of
  clear ha hb hl1 hl2 hh1 hh2 hxr hyr
  go_enter Tryz.func80, Tryz.ntmps80
  go_upto_region 2 with (go_at_call 5; refine (HF.out _).mono ?_; rintro e w1 ⟨rfl, hB1⟩)
  have hm := Row.made w1 (spc 0 0 true true) 23
  have hB2 : Below w.heap.size w w1 := (below_map w _).trans (hB1.mono (by simp))
  have hfs : FN w a b x y w1.heap.size 0 0 true true (w1.alloc (.cells #[.int .i64 0, .int .i64 0, .bool true, .bool true] 23)) :=
    ⟨((Row.made w (spc 0 0 false false) 23).below hB1 (by simp)).alloc _, hm, (HA.out.below hB2).below (below_map _ _), (HB.out.below hB2).below (below_map _ _), hB2.trans ((below_map w1 _).mono hB2.size), by have := hB1.size; simp at this; omega⟩
  have HFS := Lib.hid hfs
  clear hm hB2 hB1 hfs HA HB HF
  obtain ⟨s, hs⟩ : ∃ s, s = w1.heap.size := ⟨_, rfl⟩
  rw [← hs] at HFS
  simp only [← hs]
  clear hs
  generalize World.alloc _ _ = wc at HFS ⊢
  have NP := Lib.hid (fun w => new_any 1152921504606846976 (by decide) w)
  have NN := Lib.hid (fun w => new_any (-1152921504606846976) (by decide) w)
  go_upto_region 6 with (first
    | (go_at_call 94; refine (NN.out _).mono ?_; rintro e wn ⟨nb, hnb, rfl, hnp, hnB⟩)
    | (go_at_call 82; refine (bigcmpN a nb x (-1152921504606846976) (by have := HFS.out.ba.lt; omega) (by decide) _ (HFS.out.below hnB).ba hnp).mono ?_; rintro e w2 ⟨rfl, k, rfl⟩; have hfact := HL.out.1))
  have HF1 := Lib.hid ((HFS.out.below hnB).below (drewN_below _ k))
  clear hnB hnp hnb HFS hfact
  generalize World.drewN _ _ = wc at HF1 ⊢
  go_upto_region 10 with (first
    | (go_at_call 94; refine (NP.out _).mono ?_; rintro e wn ⟨nb, hnb, rfl, hnp, hnB⟩)
    | (go_at_call 82; refine (bigcmpN b nb y 1152921504606846976 (by have := HF1.out.bb.lt; omega) (by decide) _ (HF1.out.below hnB).bb hnp).mono ?_; rintro e w2 ⟨rfl, k, rfl⟩; have hfact := HH.out.1))
  have HF2 := Lib.hid ((HF1.out.below hnB).below (drewN_below _ k))
  clear hnB hnp hnb HF1 hfact
  generalize World.drewN _ _ = wc at HF2 ⊢
  obtain ⟨⟨q0, q1, q2, q3⟩, f0, f1, f2, f3⟩ := spc_row HF2.out.row
  obtain ⟨⟨p0, p1, p2, p3⟩, g0, g1, g2, g3⟩ := spc_row HF2.out.res
  obtain ⟨⟨z0, z1, z2, z3⟩, _⟩ := spc_row (spc_put HF2.out.res 0 0 true true)
  have HBZ := Lib.hid (below_set4 HF2.out.bel (Nat.le_refl w.heap.size) (.int .i64 0) (.int .i64 0) (.bool true) (.bool true))
  have Z := Lib.hid (And.intro z0 (And.intro z1 (And.intro z2 z3)))
  clear z0 z1 z2 z3 HF2
  go_wp2
  obtain ⟨z0, z1, z2, z3⟩ := Z.out
  exact bodyPost_ret (v := .agg #[.int .i64 0, .int .i64 0, .bool true, .bool true]) (by simp [results, Tryz.results80, go_sem, z0, z1, z2, z3]) rfl ⟨rfl, HBZ.out⟩
set_option maxRecDepth 100000 in
set_option maxHeartbeats 3200000 in
theorem from_01 (a b : Nat) (x y : Int) (hl1 : decide (0 ≤ cmpv x (-1152921504606846976)) = false) (hl2 : True) (hh1 : decide (cmpv y 1152921504606846976 ≤ 0) = true) (hh2 : decide (0 < cmpv y (-1152921504606846976)) = true) (hxr : True) (hyr : (-9223372036854775807 ≤ y ∧ y ≤ 9223372036854775807)) (w : World) (ha : BN w a x) (hb : BN w b y) :
    Calls Tryz.prog 80 #[.pointer (some ⟨a, 0, none⟩), .pointer (some ⟨b, 0, none⟩)] w (Ret w (.agg #[.int .i64 0, .int .i64 y, .bool true, .bool false])) := by
  have HL := Lib.hid (And.intro hl1 hl2)
  have HH := Lib.hid (And.intro hh1 hh2)
  have HXR := Lib.hid hxr
  have HYR := Lib.hid hyr
  have HA := Lib.hid ha
  have HB := Lib.hid hb
  have HF := Lib.hid full_of
  clear ha hb hl1 hl2 hh1 hh2 hxr hyr
  go_enter Tryz.func80, Tryz.ntmps80
  go_upto_region 2 with (go_at_call 5; refine (HF.out _).mono ?_; rintro e w1 ⟨rfl, hB1⟩)
  have hm := Row.made w1 (spc 0 0 true true) 23
  have hB2 : Below w.heap.size w w1 := (below_map w _).trans (hB1.mono (by simp))
  have hfs : FN w a b x y w1.heap.size 0 0 true true (w1.alloc (.cells #[.int .i64 0, .int .i64 0, .bool true, .bool true] 23)) :=
    ⟨((Row.made w (spc 0 0 false false) 23).below hB1 (by simp)).alloc _, hm, (HA.out.below hB2).below (below_map _ _), (HB.out.below hB2).below (below_map _ _), hB2.trans ((below_map w1 _).mono hB2.size), by have := hB1.size; simp at this; omega⟩
  have HFS := Lib.hid hfs
  clear hm hB2 hB1 hfs HA HB HF
  obtain ⟨s, hs⟩ : ∃ s, s = w1.heap.size := ⟨_, rfl⟩
  rw [← hs] at HFS
  simp only [← hs]
  clear hs
  generalize World.alloc _ _ = wc at HFS ⊢
  have NP := Lib.hid (fun w => new_any 1152921504606846976 (by decide) w)
  have NN := Lib.hid (fun w => new_any (-1152921504606846976) (by decide) w)
  go_upto_region 6 with (first
    | (go_at_call 94; refine (NN.out _).mono ?_; rintro e wn ⟨nb, hnb, rfl, hnp, hnB⟩)
    | (go_at_call 82; refine (bigcmpN a nb x (-1152921504606846976) (by have := HFS.out.ba.lt; omega) (by decide) _ (HFS.out.below hnB).ba hnp).mono ?_; rintro e w2 ⟨rfl, k, rfl⟩; have hfact := HL.out.1))
  have HF1 := Lib.hid ((HFS.out.below hnB).below (drewN_below _ k))
  clear hnB hnp hnb HFS hfact
  generalize World.drewN _ _ = wc at HF1 ⊢
  go_upto_region 7 with (first
    | (go_at_call 94; refine (NP.out _).mono ?_; rintro e wn ⟨nb, hnb, rfl, hnp, hnB⟩)
    | (go_at_call 82; refine (bigcmpN b nb y 1152921504606846976 (by have := HF1.out.bb.lt; omega) (by decide) _ (HF1.out.below hnB).bb hnp).mono ?_; rintro e w2 ⟨rfl, k, rfl⟩; have hfact := HH.out.1))
  have HF2 := Lib.hid ((HF1.out.below hnB).below (drewN_below _ k))
  clear hnB hnp hnb HF1 hfact
  generalize World.drewN _ _ = wc at HF2 ⊢
  obtain ⟨⟨q0, q1, q2, q3⟩, f0, f1, f2, f3⟩ := spc_row HF2.out.row
  have HF3 := Lib.hid ((HF2.out.put 3 (.bool false) 0 0 true false rfl).put 1 (.int .i64 (-1152921504606846976)) 0 (-1152921504606846976) true false rfl)
  clear HF2
  go_upto_region 8 with fail
  clear q0 q1 q2 q3 f0 f1 f2 f3
  generalize World.setCell _ _ _ = wc at HF3 ⊢
  go_upto_region 9 with (first
    | (go_at_call 94; refine (NN.out _).mono ?_; rintro e wn ⟨nb, hnb, rfl, hnp, hnB⟩)
    | (go_at_call 82; refine (bigcmpN b nb y (-1152921504606846976) (by have := HF3.out.bb.lt; omega) (by decide) _ (HF3.out.below hnB).bb hnp).mono ?_; rintro e w2 ⟨rfl, k, rfl⟩; have hfact := HH.out.2))
  have HF4 := Lib.hid ((HF3.out.below hnB).below (drewN_below _ k))
  clear hnB hnp hnb HF3 hfact
  generalize World.drewN _ _ = wc at HF4 ⊢
  obtain ⟨⟨q0, q1, q2, q3⟩, f0, f1, f2, f3⟩ := spc_row HF4.out.row
  have HF5 := Lib.hid (HF4.out.put 1 (.int .i64 y) 0 y true false rfl)
  go_upto_region 10 with (go_at_call 100; refine (int64N b y HYR.out _ HF4.out.bb).mono ?_; rintro e w2 ⟨rfl, rfl⟩)
  clear q0 q1 q2 q3 f0 f1 f2 f3 HF4
  generalize World.setCell _ _ _ = wc at HF5 ⊢
  obtain ⟨⟨q0, q1, q2, q3⟩, f0, f1, f2, f3⟩ := spc_row HF5.out.row
  obtain ⟨⟨p0, p1, p2, p3⟩, g0, g1, g2, g3⟩ := spc_row HF5.out.res
  obtain ⟨⟨z0, z1, z2, z3⟩, _⟩ := spc_row (spc_put HF5.out.res 0 y true false)
  have HBZ := Lib.hid (below_set4 HF5.out.bel (Nat.le_refl w.heap.size) (.int .i64 0) (.int .i64 y) (.bool true) (.bool false))
  have Z := Lib.hid (And.intro z0 (And.intro z1 (And.intro z2 z3)))
  clear z0 z1 z2 z3 HF5
  go_wp2
  obtain ⟨z0, z1, z2, z3⟩ := Z.out
  exact bodyPost_ret (v := .agg #[.int .i64 0, .int .i64 y, .bool true, .bool false]) (by simp [results, Tryz.results80, go_sem, z0, z1, z2, z3]) rfl ⟨rfl, HBZ.out⟩
set_option maxRecDepth 100000 in
set_option maxHeartbeats 3200000 in
theorem from_02 (a b : Nat) (x y : Int) (hl1 : decide (0 ≤ cmpv x (-1152921504606846976)) = false) (hl2 : True) (hh1 : decide (cmpv y 1152921504606846976 ≤ 0) = true) (hh2 : decide (0 < cmpv y (-1152921504606846976)) = false) (hxr : True) (hyr : True) (w : World) (ha : BN w a x) (hb : BN w b y) :
    Calls Tryz.prog 80 #[.pointer (some ⟨a, 0, none⟩), .pointer (some ⟨b, 0, none⟩)] w (Ret w (.agg #[.int .i64 0, .int .i64 (-1152921504606846976), .bool true, .bool false])) := by
  have HL := Lib.hid (And.intro hl1 hl2)
  have HH := Lib.hid (And.intro hh1 hh2)
  have HXR := Lib.hid hxr
  have HYR := Lib.hid hyr
  have HA := Lib.hid ha
  have HB := Lib.hid hb
  have HF := Lib.hid full_of
  clear ha hb hl1 hl2 hh1 hh2 hxr hyr
  go_enter Tryz.func80, Tryz.ntmps80
  go_upto_region 2 with (go_at_call 5; refine (HF.out _).mono ?_; rintro e w1 ⟨rfl, hB1⟩)
  have hm := Row.made w1 (spc 0 0 true true) 23
  have hB2 : Below w.heap.size w w1 := (below_map w _).trans (hB1.mono (by simp))
  have hfs : FN w a b x y w1.heap.size 0 0 true true (w1.alloc (.cells #[.int .i64 0, .int .i64 0, .bool true, .bool true] 23)) :=
    ⟨((Row.made w (spc 0 0 false false) 23).below hB1 (by simp)).alloc _, hm, (HA.out.below hB2).below (below_map _ _), (HB.out.below hB2).below (below_map _ _), hB2.trans ((below_map w1 _).mono hB2.size), by have := hB1.size; simp at this; omega⟩
  have HFS := Lib.hid hfs
  clear hm hB2 hB1 hfs HA HB HF
  obtain ⟨s, hs⟩ : ∃ s, s = w1.heap.size := ⟨_, rfl⟩
  rw [← hs] at HFS
  simp only [← hs]
  clear hs
  generalize World.alloc _ _ = wc at HFS ⊢
  have NP := Lib.hid (fun w => new_any 1152921504606846976 (by decide) w)
  have NN := Lib.hid (fun w => new_any (-1152921504606846976) (by decide) w)
  go_upto_region 6 with (first
    | (go_at_call 94; refine (NN.out _).mono ?_; rintro e wn ⟨nb, hnb, rfl, hnp, hnB⟩)
    | (go_at_call 82; refine (bigcmpN a nb x (-1152921504606846976) (by have := HFS.out.ba.lt; omega) (by decide) _ (HFS.out.below hnB).ba hnp).mono ?_; rintro e w2 ⟨rfl, k, rfl⟩; have hfact := HL.out.1))
  have HF1 := Lib.hid ((HFS.out.below hnB).below (drewN_below _ k))
  clear hnB hnp hnb HFS hfact
  generalize World.drewN _ _ = wc at HF1 ⊢
  go_upto_region 7 with (first
    | (go_at_call 94; refine (NP.out _).mono ?_; rintro e wn ⟨nb, hnb, rfl, hnp, hnB⟩)
    | (go_at_call 82; refine (bigcmpN b nb y 1152921504606846976 (by have := HF1.out.bb.lt; omega) (by decide) _ (HF1.out.below hnB).bb hnp).mono ?_; rintro e w2 ⟨rfl, k, rfl⟩; have hfact := HH.out.1))
  have HF2 := Lib.hid ((HF1.out.below hnB).below (drewN_below _ k))
  clear hnB hnp hnb HF1 hfact
  generalize World.drewN _ _ = wc at HF2 ⊢
  obtain ⟨⟨q0, q1, q2, q3⟩, f0, f1, f2, f3⟩ := spc_row HF2.out.row
  have HF3 := Lib.hid ((HF2.out.put 3 (.bool false) 0 0 true false rfl).put 1 (.int .i64 (-1152921504606846976)) 0 (-1152921504606846976) true false rfl)
  clear HF2
  go_upto_region 8 with fail
  clear q0 q1 q2 q3 f0 f1 f2 f3
  generalize World.setCell _ _ _ = wc at HF3 ⊢
  go_upto_region 10 with (first
    | (go_at_call 94; refine (NN.out _).mono ?_; rintro e wn ⟨nb, hnb, rfl, hnp, hnB⟩)
    | (go_at_call 82; refine (bigcmpN b nb y (-1152921504606846976) (by have := HF3.out.bb.lt; omega) (by decide) _ (HF3.out.below hnB).bb hnp).mono ?_; rintro e w2 ⟨rfl, k, rfl⟩; have hfact := HH.out.2))
  have HF4 := Lib.hid ((HF3.out.below hnB).below (drewN_below _ k))
  clear hnB hnp hnb HF3 hfact
  generalize World.drewN _ _ = wc at HF4 ⊢
  obtain ⟨⟨q0, q1, q2, q3⟩, f0, f1, f2, f3⟩ := spc_row HF4.out.row
  obtain ⟨⟨p0, p1, p2, p3⟩, g0, g1, g2, g3⟩ := spc_row HF4.out.res
  obtain ⟨⟨z0, z1, z2, z3⟩, _⟩ := spc_row (spc_put HF4.out.res 0 (-1152921504606846976) true false)
  have HBZ := Lib.hid (below_set4 HF4.out.bel (Nat.le_refl w.heap.size) (.int .i64 0) (.int .i64 (-1152921504606846976)) (.bool true) (.bool false))
  have Z := Lib.hid (And.intro z0 (And.intro z1 (And.intro z2 z3)))
  clear z0 z1 z2 z3 HF4
  go_wp2
  obtain ⟨z0, z1, z2, z3⟩ := Z.out
  exact bodyPost_ret (v := .agg #[.int .i64 0, .int .i64 (-1152921504606846976), .bool true, .bool false]) (by simp [results, Tryz.results80, go_sem, z0, z1, z2, z3]) rfl ⟨rfl, HBZ.out⟩
set_option maxRecDepth 100000 in
set_option maxHeartbeats 3200000 in
theorem from_10 (a b : Nat) (x y : Int) (hl1 : decide (0 ≤ cmpv x (-1152921504606846976)) = true) (hl2 : decide (cmpv x 1152921504606846976 < 0) = true) (hh1 : decide (cmpv y 1152921504606846976 ≤ 0) = false) (hh2 : True) (hxr : (-9223372036854775807 ≤ x ∧ x ≤ 9223372036854775807)) (hyr : True) (w : World) (ha : BN w a x) (hb : BN w b y) :
    Calls Tryz.prog 80 #[.pointer (some ⟨a, 0, none⟩), .pointer (some ⟨b, 0, none⟩)] w (Ret w (.agg #[.int .i64 x, .int .i64 0, .bool false, .bool true])) := by
  have HL := Lib.hid (And.intro hl1 hl2)
  have HH := Lib.hid (And.intro hh1 hh2)
  have HXR := Lib.hid hxr
  have HYR := Lib.hid hyr
  have HA := Lib.hid ha
  have HB := Lib.hid hb
  have HF := Lib.hid full_of
  clear ha hb hl1 hl2 hh1 hh2 hxr hyr
  go_enter Tryz.func80, Tryz.ntmps80
  go_upto_region 2 with (go_at_call 5; refine (HF.out _).mono ?_; rintro e w1 ⟨rfl, hB1⟩)
  have hm := Row.made w1 (spc 0 0 true true) 23
  have hB2 : Below w.heap.size w w1 := (below_map w _).trans (hB1.mono (by simp))
  have hfs : FN w a b x y w1.heap.size 0 0 true true (w1.alloc (.cells #[.int .i64 0, .int .i64 0, .bool true, .bool true] 23)) :=
    ⟨((Row.made w (spc 0 0 false false) 23).below hB1 (by simp)).alloc _, hm, (HA.out.below hB2).below (below_map _ _), (HB.out.below hB2).below (below_map _ _), hB2.trans ((below_map w1 _).mono hB2.size), by have := hB1.size; simp at this; omega⟩
  have HFS := Lib.hid hfs
  clear hm hB2 hB1 hfs HA HB HF
  obtain ⟨s, hs⟩ : ∃ s, s = w1.heap.size := ⟨_, rfl⟩
  rw [← hs] at HFS
  simp only [← hs]
  clear hs
  generalize World.alloc _ _ = wc at HFS ⊢
  have NP := Lib.hid (fun w => new_any 1152921504606846976 (by decide) w)
  have NN := Lib.hid (fun w => new_any (-1152921504606846976) (by decide) w)
  go_upto_region 3 with (first
    | (go_at_call 94; refine (NN.out _).mono ?_; rintro e wn ⟨nb, hnb, rfl, hnp, hnB⟩)
    | (go_at_call 82; refine (bigcmpN a nb x (-1152921504606846976) (by have := HFS.out.ba.lt; omega) (by decide) _ (HFS.out.below hnB).ba hnp).mono ?_; rintro e w2 ⟨rfl, k, rfl⟩; have hfact := HL.out.1))
  have HF1 := Lib.hid ((HFS.out.below hnB).below (drewN_below _ k))
  clear hnB hnp hnb HFS hfact
  generalize World.drewN _ _ = wc at HF1 ⊢
  obtain ⟨⟨q0, q1, q2, q3⟩, f0, f1, f2, f3⟩ := spc_row HF1.out.row
  have HF2 := Lib.hid ((HF1.out.put 2 (.bool false) 0 0 false true rfl).put 0 (.int .i64 1152921504606846976) 1152921504606846976 0 false true rfl)
  clear HF1
  go_upto_region 4 with fail
  clear q0 q1 q2 q3 f0 f1 f2 f3
  generalize World.setCell _ _ _ = wc at HF2 ⊢
  go_upto_region 5 with (first
    | (go_at_call 94; refine (NP.out _).mono ?_; rintro e wn ⟨nb, hnb, rfl, hnp, hnB⟩)
    | (go_at_call 82; refine (bigcmpN a nb x 1152921504606846976 (by have := HF2.out.ba.lt; omega) (by decide) _ (HF2.out.below hnB).ba hnp).mono ?_; rintro e w2 ⟨rfl, k, rfl⟩; have hfact := HL.out.2))
  have HF3 := Lib.hid ((HF2.out.below hnB).below (drewN_below _ k))
  clear hnB hnp hnb HF2 hfact
  generalize World.drewN _ _ = wc at HF3 ⊢
  obtain ⟨⟨q0, q1, q2, q3⟩, f0, f1, f2, f3⟩ := spc_row HF3.out.row
  have HF4 := Lib.hid (HF3.out.put 0 (.int .i64 x) x 0 false true rfl)
  go_upto_region 6 with (go_at_call 100; refine (int64N a x HXR.out _ HF3.out.ba).mono ?_; rintro e w2 ⟨rfl, rfl⟩)
  clear q0 q1 q2 q3 f0 f1 f2 f3 HF3
  generalize World.setCell _ _ _ = wc at HF4 ⊢
  go_upto_region 10 with (first
    | (go_at_call 94; refine (NP.out _).mono ?_; rintro e wn ⟨nb, hnb, rfl, hnp, hnB⟩)
    | (go_at_call 82; refine (bigcmpN b nb y 1152921504606846976 (by have := HF4.out.bb.lt; omega) (by decide) _ (HF4.out.below hnB).bb hnp).mono ?_; rintro e w2 ⟨rfl, k, rfl⟩; have hfact := HH.out.1))
  have HF5 := Lib.hid ((HF4.out.below hnB).below (drewN_below _ k))
  clear hnB hnp hnb HF4 hfact
  generalize World.drewN _ _ = wc at HF5 ⊢
  obtain ⟨⟨q0, q1, q2, q3⟩, f0, f1, f2, f3⟩ := spc_row HF5.out.row
  obtain ⟨⟨p0, p1, p2, p3⟩, g0, g1, g2, g3⟩ := spc_row HF5.out.res
  obtain ⟨⟨z0, z1, z2, z3⟩, _⟩ := spc_row (spc_put HF5.out.res x 0 false true)
  have HBZ := Lib.hid (below_set4 HF5.out.bel (Nat.le_refl w.heap.size) (.int .i64 x) (.int .i64 0) (.bool false) (.bool true))
  have Z := Lib.hid (And.intro z0 (And.intro z1 (And.intro z2 z3)))
  clear z0 z1 z2 z3 HF5
  go_wp2
  obtain ⟨z0, z1, z2, z3⟩ := Z.out
  exact bodyPost_ret (v := .agg #[.int .i64 x, .int .i64 0, .bool false, .bool true]) (by simp [results, Tryz.results80, go_sem, z0, z1, z2, z3]) rfl ⟨rfl, HBZ.out⟩
set_option maxRecDepth 100000 in
set_option maxHeartbeats 3200000 in
theorem from_11 (a b : Nat) (x y : Int) (hl1 : decide (0 ≤ cmpv x (-1152921504606846976)) = true) (hl2 : decide (cmpv x 1152921504606846976 < 0) = true) (hh1 : decide (cmpv y 1152921504606846976 ≤ 0) = true) (hh2 : decide (0 < cmpv y (-1152921504606846976)) = true) (hxr : (-9223372036854775807 ≤ x ∧ x ≤ 9223372036854775807)) (hyr : (-9223372036854775807 ≤ y ∧ y ≤ 9223372036854775807)) (w : World) (ha : BN w a x) (hb : BN w b y) :
    Calls Tryz.prog 80 #[.pointer (some ⟨a, 0, none⟩), .pointer (some ⟨b, 0, none⟩)] w (Ret w (.agg #[.int .i64 x, .int .i64 y, .bool false, .bool false])) := by
  have HL := Lib.hid (And.intro hl1 hl2)
  have HH := Lib.hid (And.intro hh1 hh2)
  have HXR := Lib.hid hxr
  have HYR := Lib.hid hyr
  have HA := Lib.hid ha
  have HB := Lib.hid hb
  have HF := Lib.hid full_of
  clear ha hb hl1 hl2 hh1 hh2 hxr hyr
  go_enter Tryz.func80, Tryz.ntmps80
  go_upto_region 2 with (go_at_call 5; refine (HF.out _).mono ?_; rintro e w1 ⟨rfl, hB1⟩)
  have hm := Row.made w1 (spc 0 0 true true) 23
  have hB2 : Below w.heap.size w w1 := (below_map w _).trans (hB1.mono (by simp))
  have hfs : FN w a b x y w1.heap.size 0 0 true true (w1.alloc (.cells #[.int .i64 0, .int .i64 0, .bool true, .bool true] 23)) :=
    ⟨((Row.made w (spc 0 0 false false) 23).below hB1 (by simp)).alloc _, hm, (HA.out.below hB2).below (below_map _ _), (HB.out.below hB2).below (below_map _ _), hB2.trans ((below_map w1 _).mono hB2.size), by have := hB1.size; simp at this; omega⟩
  have HFS := Lib.hid hfs
  clear hm hB2 hB1 hfs HA HB HF
  obtain ⟨s, hs⟩ : ∃ s, s = w1.heap.size := ⟨_, rfl⟩
  rw [← hs] at HFS
  simp only [← hs]
  clear hs
  generalize World.alloc _ _ = wc at HFS ⊢
  have NP := Lib.hid (fun w => new_any 1152921504606846976 (by decide) w)
  have NN := Lib.hid (fun w => new_any (-1152921504606846976) (by decide) w)
  go_upto_region 3 with (first
    | (go_at_call 94; refine (NN.out _).mono ?_; rintro e wn ⟨nb, hnb, rfl, hnp, hnB⟩)
    | (go_at_call 82; refine (bigcmpN a nb x (-1152921504606846976) (by have := HFS.out.ba.lt; omega) (by decide) _ (HFS.out.below hnB).ba hnp).mono ?_; rintro e w2 ⟨rfl, k, rfl⟩; have hfact := HL.out.1))
  have HF1 := Lib.hid ((HFS.out.below hnB).below (drewN_below _ k))
  clear hnB hnp hnb HFS hfact
  generalize World.drewN _ _ = wc at HF1 ⊢
  obtain ⟨⟨q0, q1, q2, q3⟩, f0, f1, f2, f3⟩ := spc_row HF1.out.row
  have HF2 := Lib.hid ((HF1.out.put 2 (.bool false) 0 0 false true rfl).put 0 (.int .i64 1152921504606846976) 1152921504606846976 0 false true rfl)
  clear HF1
  go_upto_region 4 with fail
  clear q0 q1 q2 q3 f0 f1 f2 f3
  generalize World.setCell _ _ _ = wc at HF2 ⊢
  go_upto_region 5 with (first
    | (go_at_call 94; refine (NP.out _).mono ?_; rintro e wn ⟨nb, hnb, rfl, hnp, hnB⟩)
    | (go_at_call 82; refine (bigcmpN a nb x 1152921504606846976 (by have := HF2.out.ba.lt; omega) (by decide) _ (HF2.out.below hnB).ba hnp).mono ?_; rintro e w2 ⟨rfl, k, rfl⟩; have hfact := HL.out.2))
  have HF3 := Lib.hid ((HF2.out.below hnB).below (drewN_below _ k))
  clear hnB hnp hnb HF2 hfact
  generalize World.drewN _ _ = wc at HF3 ⊢
  obtain ⟨⟨q0, q1, q2, q3⟩, f0, f1, f2, f3⟩ := spc_row HF3.out.row
  have HF4 := Lib.hid (HF3.out.put 0 (.int .i64 x) x 0 false true rfl)
  go_upto_region 6 with (go_at_call 100; refine (int64N a x HXR.out _ HF3.out.ba).mono ?_; rintro e w2 ⟨rfl, rfl⟩)
  clear q0 q1 q2 q3 f0 f1 f2 f3 HF3
  generalize World.setCell _ _ _ = wc at HF4 ⊢
  go_upto_region 7 with (first
    | (go_at_call 94; refine (NP.out _).mono ?_; rintro e wn ⟨nb, hnb, rfl, hnp, hnB⟩)
    | (go_at_call 82; refine (bigcmpN b nb y 1152921504606846976 (by have := HF4.out.bb.lt; omega) (by decide) _ (HF4.out.below hnB).bb hnp).mono ?_; rintro e w2 ⟨rfl, k, rfl⟩; have hfact := HH.out.1))
  have HF5 := Lib.hid ((HF4.out.below hnB).below (drewN_below _ k))
  clear hnB hnp hnb HF4 hfact
  generalize World.drewN _ _ = wc at HF5 ⊢
  obtain ⟨⟨q0, q1, q2, q3⟩, f0, f1, f2, f3⟩ := spc_row HF5.out.row
  have HF6 := Lib.hid ((HF5.out.put 3 (.bool false) x 0 false false rfl).put 1 (.int .i64 (-1152921504606846976)) x (-1152921504606846976) false false rfl)
  clear HF5
  go_upto_region 8 with fail
  clear q0 q1 q2 q3 f0 f1 f2 f3
  generalize World.setCell _ _ _ = wc at HF6 ⊢
  go_upto_region 9 with (first
    | (go_at_call 94; refine (NN.out _).mono ?_; rintro e wn ⟨nb, hnb, rfl, hnp, hnB⟩)
    | (go_at_call 82; refine (bigcmpN b nb y (-1152921504606846976) (by have := HF6.out.bb.lt; omega) (by decide) _ (HF6.out.below hnB).bb hnp).mono ?_; rintro e w2 ⟨rfl, k, rfl⟩; have hfact := HH.out.2))
  have HF7 := Lib.hid ((HF6.out.below hnB).below (drewN_below _ k))
  clear hnB hnp hnb HF6 hfact
  generalize World.drewN _ _ = wc at HF7 ⊢
  obtain ⟨⟨q0, q1, q2, q3⟩, f0, f1, f2, f3⟩ := spc_row HF7.out.row
  have HF8 := Lib.hid (HF7.out.put 1 (.int .i64 y) x y false false rfl)
  go_upto_region 10 with (go_at_call 100; refine (int64N b y HYR.out _ HF7.out.bb).mono ?_; rintro e w2 ⟨rfl, rfl⟩)
  clear q0 q1 q2 q3 f0 f1 f2 f3 HF7
  generalize World.setCell _ _ _ = wc at HF8 ⊢
  obtain ⟨⟨q0, q1, q2, q3⟩, f0, f1, f2, f3⟩ := spc_row HF8.out.row
  obtain ⟨⟨p0, p1, p2, p3⟩, g0, g1, g2, g3⟩ := spc_row HF8.out.res
  obtain ⟨⟨z0, z1, z2, z3⟩, _⟩ := spc_row (spc_put HF8.out.res x y false false)
  have HBZ := Lib.hid (below_set4 HF8.out.bel (Nat.le_refl w.heap.size) (.int .i64 x) (.int .i64 y) (.bool false) (.bool false))
  have Z := Lib.hid (And.intro z0 (And.intro z1 (And.intro z2 z3)))
  clear z0 z1 z2 z3 HF8
  go_wp2
  obtain ⟨z0, z1, z2, z3⟩ := Z.out
  exact bodyPost_ret (v := .agg #[.int .i64 x, .int .i64 y, .bool false, .bool false]) (by simp [results, Tryz.results80, go_sem, z0, z1, z2, z3]) rfl ⟨rfl, HBZ.out⟩
set_option maxRecDepth 100000 in
set_option maxHeartbeats 3200000 in
theorem from_12 (a b : Nat) (x y : Int) (hl1 : decide (0 ≤ cmpv x (-1152921504606846976)) = true) (hl2 : decide (cmpv x 1152921504606846976 < 0) = true) (hh1 : decide (cmpv y 1152921504606846976 ≤ 0) = true) (hh2 : decide (0 < cmpv y (-1152921504606846976)) = false) (hxr : (-9223372036854775807 ≤ x ∧ x ≤ 9223372036854775807)) (hyr : True) (w : World) (ha : BN w a x) (hb : BN w b y) :
    Calls Tryz.prog 80 #[.pointer (some ⟨a, 0, none⟩), .pointer (some ⟨b, 0, none⟩)] w (Ret w (.agg #[.int .i64 x, .int .i64 (-1152921504606846976), .bool false, .bool false])) := by
  have HL := Lib.hid (And.intro hl1 hl2)
  have HH := Lib.hid (And.intro hh1 hh2)
  have HXR := Lib.hid hxr
  have HYR := Lib.hid hyr
  have HA := Lib.hid ha
  have HB := Lib.hid hb
  have HF := Lib.hid full_of
  clear ha hb hl1 hl2 hh1 hh2 hxr hyr
  go_enter Tryz.func80, Tryz.ntmps80
  go_upto_region 2 with (go_at_call 5; refine (HF.out _).mono ?_; rintro e w1 ⟨rfl, hB1⟩)
  have hm := Row.made w1 (spc 0 0 true true) 23
  have hB2 : Below w.heap.size w w1 := (below_map w _).trans (hB1.mono (by simp))
  have hfs : FN w a b x y w1.heap.size 0 0 true true (w1.alloc (.cells #[.int .i64 0, .int .i64 0, .bool true, .bool true] 23)) :=
    ⟨((Row.made w (spc 0 0 false false) 23).below hB1 (by simp)).alloc _, hm, (HA.out.below hB2).below (below_map _ _), (HB.out.below hB2).below (below_map _ _), hB2.trans ((below_map w1 _).mono hB2.size), by have := hB1.size; simp at this; omega⟩
  have HFS := Lib.hid hfs
  clear hm hB2 hB1 hfs HA HB HF
  obtain ⟨s, hs⟩ : ∃ s, s = w1.heap.size := ⟨_, rfl⟩
  rw [← hs] at HFS
  simp only [← hs]
  clear hs
  generalize World.alloc _ _ = wc at HFS ⊢
  have NP := Lib.hid (fun w => new_any 1152921504606846976 (by decide) w)
  have NN := Lib.hid (fun w => new_any (-1152921504606846976) (by decide) w)
  go_upto_region 3 with (first
    | (go_at_call 94; refine (NN.out _).mono ?_; rintro e wn ⟨nb, hnb, rfl, hnp, hnB⟩)
    | (go_at_call 82; refine (bigcmpN a nb x (-1152921504606846976) (by have := HFS.out.ba.lt; omega) (by decide) _ (HFS.out.below hnB).ba hnp).mono ?_; rintro e w2 ⟨rfl, k, rfl⟩; have hfact := HL.out.1))
  have HF1 := Lib.hid ((HFS.out.below hnB).below (drewN_below _ k))
  clear hnB hnp hnb HFS hfact
  generalize World.drewN _ _ = wc at HF1 ⊢
  obtain ⟨⟨q0, q1, q2, q3⟩, f0, f1, f2, f3⟩ := spc_row HF1.out.row
  have HF2 := Lib.hid ((HF1.out.put 2 (.bool false) 0 0 false true rfl).put 0 (.int .i64 1152921504606846976) 1152921504606846976 0 false true rfl)
  clear HF1
  go_upto_region 4 with fail
  clear q0 q1 q2 q3 f0 f1 f2 f3
  generalize World.setCell _ _ _ = wc at HF2 ⊢
  go_upto_region 5 with (first
    | (go_at_call 94; refine (NP.out _).mono ?_; rintro e wn ⟨nb, hnb, rfl, hnp, hnB⟩)
    | (go_at_call 82; refine (bigcmpN a nb x 1152921504606846976 (by have := HF2.out.ba.lt; omega) (by decide) _ (HF2.out.below hnB).ba hnp).mono ?_; rintro e w2 ⟨rfl, k, rfl⟩; have hfact := HL.out.2))
  have HF3 := Lib.hid ((HF2.out.below hnB).below (drewN_below _ k))
  clear hnB hnp hnb HF2 hfact
  generalize World.drewN _ _ = wc at HF3 ⊢
  obtain ⟨⟨q0, q1, q2, q3⟩, f0, f1, f2, f3⟩ := spc_row HF3.out.row
  have HF4 := Lib.hid (HF3.out.put 0 (.int .i64 x) x 0 false true rfl)
  go_upto_region 6 with (go_at_call 100; refine (int64N a x HXR.out _ HF3.out.ba).mono ?_; rintro e w2 ⟨rfl, rfl⟩)
  clear q0 q1 q2 q3 f0 f1 f2 f3 HF3
  generalize World.setCell _ _ _ = wc at HF4 ⊢
  go_upto_region 7 with (first
    | (go_at_call 94; refine (NP.out _).mono ?_; rintro e wn ⟨nb, hnb, rfl, hnp, hnB⟩)
    | (go_at_call 82; refine (bigcmpN b nb y 1152921504606846976 (by have := HF4.out.bb.lt; omega) (by decide) _ (HF4.out.below hnB).bb hnp).mono ?_; rintro e w2 ⟨rfl, k, rfl⟩; have hfact := HH.out.1))
  have HF5 := Lib.hid ((HF4.out.below hnB).below (drewN_below _ k))
  clear hnB hnp hnb HF4 hfact
  generalize World.drewN _ _ = wc at HF5 ⊢
  obtain ⟨⟨q0, q1, q2, q3⟩, f0, f1, f2, f3⟩ := spc_row HF5.out.row
  have HF6 := Lib.hid ((HF5.out.put 3 (.bool false) x 0 false false rfl).put 1 (.int .i64 (-1152921504606846976)) x (-1152921504606846976) false false rfl)
  clear HF5
  go_upto_region 8 with fail
  clear q0 q1 q2 q3 f0 f1 f2 f3
  generalize World.setCell _ _ _ = wc at HF6 ⊢
  go_upto_region 10 with (first
    | (go_at_call 94; refine (NN.out _).mono ?_; rintro e wn ⟨nb, hnb, rfl, hnp, hnB⟩)
    | (go_at_call 82; refine (bigcmpN b nb y (-1152921504606846976) (by have := HF6.out.bb.lt; omega) (by decide) _ (HF6.out.below hnB).bb hnp).mono ?_; rintro e w2 ⟨rfl, k, rfl⟩; have hfact := HH.out.2))
  have HF7 := Lib.hid ((HF6.out.below hnB).below (drewN_below _ k))
  clear hnB hnp hnb HF6 hfact
  generalize World.drewN _ _ = wc at HF7 ⊢
  obtain ⟨⟨q0, q1, q2, q3⟩, f0, f1, f2, f3⟩ := spc_row HF7.out.row
  obtain ⟨⟨p0, p1, p2, p3⟩, g0, g1, g2, g3⟩ := spc_row HF7.out.res
  obtain ⟨⟨z0, z1, z2, z3⟩, _⟩ := spc_row (spc_put HF7.out.res x (-1152921504606846976) false false)
  have HBZ := Lib.hid (below_set4 HF7.out.bel (Nat.le_refl w.heap.size) (.int .i64 x) (.int .i64 (-1152921504606846976)) (.bool false) (.bool false))
  have Z := Lib.hid (And.intro z0 (And.intro z1 (And.intro z2 z3)))
  clear z0 z1 z2 z3 HF7
  go_wp2
  obtain ⟨z0, z1, z2, z3⟩ := Z.out
  exact bodyPost_ret (v := .agg #[.int .i64 x, .int .i64 (-1152921504606846976), .bool false, .bool false]) (by simp [results, Tryz.results80, go_sem, z0, z1, z2, z3]) rfl ⟨rfl, HBZ.out⟩
set_option maxRecDepth 100000 in
set_option maxHeartbeats 3200000 in
theorem from_20 (a b : Nat) (x y : Int) (hl1 : decide (0 ≤ cmpv x (-1152921504606846976)) = true) (hl2 : decide (cmpv x 1152921504606846976 < 0) = false) (hh1 : decide (cmpv y 1152921504606846976 ≤ 0) = false) (hh2 : True) (hxr : True) (hyr : True) (w : World) (ha : BN w a x) (hb : BN w b y) :
    Calls Tryz.prog 80 #[.pointer (some ⟨a, 0, none⟩), .pointer (some ⟨b, 0, none⟩)] w (Ret w (.agg #[.int .i64 1152921504606846976, .int .i64 0, .bool false, .bool true])) := by
  have HL := Lib.hid (And.intro hl1 hl2)
  have HH := Lib.hid (And.intro hh1 hh2)
  have HXR := Lib.hid hxr
  have HYR := Lib.hid hyr
  have HA := Lib.hid ha
  have HB := Lib.hid hb
  have HF := Lib.hid full_of
  clear ha hb hl1 hl2 hh1 hh2 hxr hyr
  go_enter Tryz.func80, Tryz.ntmps80
  go_upto_region 2 with (go_at_call 5; refine (HF.out _).mono ?_; rintro e w1 ⟨rfl, hB1⟩)
  have hm := Row.made w1 (spc 0 0 true true) 23
  have hB2 : Below w.heap.size w w1 := (below_map w _).trans (hB1.mono (by simp))
  have hfs : FN w a b x y w1.heap.size 0 0 true true (w1.alloc (.cells #[.int .i64 0, .int .i64 0, .bool true, .bool true] 23)) :=
    ⟨((Row.made w (spc 0 0 false false) 23).below hB1 (by simp)).alloc _, hm, (HA.out.below hB2).below (below_map _ _), (HB.out.below hB2).below (below_map _ _), hB2.trans ((below_map w1 _).mono hB2.size), by have := hB1.size; simp at this; omega⟩
  have HFS := Lib.hid hfs
  clear hm hB2 hB1 hfs HA HB HF
  obtain ⟨s, hs⟩ : ∃ s, s = w1.heap.size := ⟨_, rfl⟩
  rw [← hs] at HFS
  simp only [← hs]
  clear hs
  generalize World.alloc _ _ = wc at HFS ⊢
  have NP := Lib.hid (fun w => new_any 1152921504606846976 (by decide) w)
  have NN := Lib.hid (fun w => new_any (-1152921504606846976) (by decide) w)
  go_upto_region 3 with (first
    | (go_at_call 94; refine (NN.out _).mono ?_; rintro e wn ⟨nb, hnb, rfl, hnp, hnB⟩)
    | (go_at_call 82; refine (bigcmpN a nb x (-1152921504606846976) (by have := HFS.out.ba.lt; omega) (by decide) _ (HFS.out.below hnB).ba hnp).mono ?_; rintro e w2 ⟨rfl, k, rfl⟩; have hfact := HL.out.1))
  have HF1 := Lib.hid ((HFS.out.below hnB).below (drewN_below _ k))
  clear hnB hnp hnb HFS hfact
  generalize World.drewN _ _ = wc at HF1 ⊢
  obtain ⟨⟨q0, q1, q2, q3⟩, f0, f1, f2, f3⟩ := spc_row HF1.out.row
  have HF2 := Lib.hid ((HF1.out.put 2 (.bool false) 0 0 false true rfl).put 0 (.int .i64 1152921504606846976) 1152921504606846976 0 false true rfl)
  clear HF1
  go_upto_region 4 with fail
  clear q0 q1 q2 q3 f0 f1 f2 f3
  generalize World.setCell _ _ _ = wc at HF2 ⊢
  go_upto_region 6 with (first
    | (go_at_call 94; refine (NP.out _).mono ?_; rintro e wn ⟨nb, hnb, rfl, hnp, hnB⟩)
    | (go_at_call 82; refine (bigcmpN a nb x 1152921504606846976 (by have := HF2.out.ba.lt; omega) (by decide) _ (HF2.out.below hnB).ba hnp).mono ?_; rintro e w2 ⟨rfl, k, rfl⟩; have hfact := HL.out.2))
  have HF3 := Lib.hid ((HF2.out.below hnB).below (drewN_below _ k))
  clear hnB hnp hnb HF2 hfact
  generalize World.drewN _ _ = wc at HF3 ⊢
  go_upto_region 10 with (first
    | (go_at_call 94; refine (NP.out _).mono ?_; rintro e wn ⟨nb, hnb, rfl, hnp, hnB⟩)
    | (go_at_call 82; refine (bigcmpN b nb y 1152921504606846976 (by have := HF3.out.bb.lt; omega) (by decide) _ (HF3.out.below hnB).bb hnp).mono ?_; rintro e w2 ⟨rfl, k, rfl⟩; have hfact := HH.out.1))
  have HF4 := Lib.hid ((HF3.out.below hnB).below (drewN_below _ k))
  clear hnB hnp hnb HF3 hfact
  generalize World.drewN _ _ = wc at HF4 ⊢
  obtain ⟨⟨q0, q1, q2, q3⟩, f0, f1, f2, f3⟩ := spc_row HF4.out.row
  obtain ⟨⟨p0, p1, p2, p3⟩, g0, g1, g2, g3⟩ := spc_row HF4.out.res
  obtain ⟨⟨z0, z1, z2, z3⟩, _⟩ := spc_row (spc_put HF4.out.res 1152921504606846976 0 false true)
  have HBZ := Lib.hid (below_set4 HF4.out.bel (Nat.le_refl w.heap.size) (.int .i64 1152921504606846976) (.int .i64 0) (.bool false) (.bool true))
  have Z := Lib.hid (And.intro z0 (And.intro z1 (And.intro z2 z3)))
  clear z0 z1 z2 z3 HF4
  go_wp2
  obtain ⟨z0, z1, z2, z3⟩ := Z.out
  exact bodyPost_ret (v := .agg #[.int .i64 1152921504606846976, .int .i64 0, .bool false, .bool true]) (by simp [results, Tryz.results80, go_sem, z0, z1, z2, z3]) rfl ⟨rfl, HBZ.out⟩
set_option maxRecDepth 100000 in
set_option maxHeartbeats 3200000 in
theorem from_21 (a b : Nat) (x y : Int) (hl1 : decide (0 ≤ cmpv x (-1152921504606846976)) = true) (hl2 : decide (cmpv x 1152921504606846976 < 0) = false) (hh1 : decide (cmpv y 1152921504606846976 ≤ 0) = true) (hh2 : decide (0 < cmpv y (-1152921504606846976)) = true) (hxr : True) (hyr : (-9223372036854775807 ≤ y ∧ y ≤ 9223372036854775807)) (w : World) (ha : BN w a x) (hb : BN w b y) :
    Calls Tryz.prog 80 #[.pointer (some ⟨a, 0, none⟩), .pointer (some ⟨b, 0, none⟩)] w (Ret w (.agg #[.int .i64 1152921504606846976, .int .i64 y, .bool false, .bool false])) := by
  have HL := Lib.hid (And.intro hl1 hl2)
  have HH := Lib.hid (And.intro hh1 hh2)
  have HXR := Lib.hid hxr
  have HYR := Lib.hid hyr
  have HA := Lib.hid ha
  have HB := Lib.hid hb
  have HF := Lib.hid full_of
  clear ha hb hl1 hl2 hh1 hh2 hxr hyr
  go_enter Tryz.func80, Tryz.ntmps80
  go_upto_region 2 with (go_at_call 5; refine (HF.out _).mono ?_; rintro e w1 ⟨rfl, hB1⟩)
  have hm := Row.made w1 (spc 0 0 true true) 23
  have hB2 : Below w.heap.size w w1 := (below_map w _).trans (hB1.mono (by simp))
  have hfs : FN w a b x y w1.heap.size 0 0 true true (w1.alloc (.cells #[.int .i64 0, .int .i64 0, .bool true, .bool true] 23)) :=
    ⟨((Row.made w (spc 0 0 false false) 23).below hB1 (by simp)).alloc _, hm, (HA.out.below hB2).below (below_map _ _), (HB.out.below hB2).below (below_map _ _), hB2.trans ((below_map w1 _).mono hB2.size), by have := hB1.size; simp at this; omega⟩
  have HFS := Lib.hid hfs
  clear hm hB2 hB1 hfs HA HB HF
  obtain ⟨s, hs⟩ : ∃ s, s = w1.heap.size := ⟨_, rfl⟩
  rw [← hs] at HFS
  simp only [← hs]
  clear hs
  generalize World.alloc _ _ = wc at HFS ⊢
  have NP := Lib.hid (fun w => new_any 1152921504606846976 (by decide) w)
  have NN := Lib.hid (fun w => new_any (-1152921504606846976) (by decide) w)
  go_upto_region 3 with (first
    | (go_at_call 94; refine (NN.out _).mono ?_; rintro e wn ⟨nb, hnb, rfl, hnp, hnB⟩)
    | (go_at_call 82; refine (bigcmpN a nb x (-1152921504606846976) (by have := HFS.out.ba.lt; omega) (by decide) _ (HFS.out.below hnB).ba hnp).mono ?_; rintro e w2 ⟨rfl, k, rfl⟩; have hfact := HL.out.1))
  have HF1 := Lib.hid ((HFS.out.below hnB).below (drewN_below _ k))
  clear hnB hnp hnb HFS hfact
  generalize World.drewN _ _ = wc at HF1 ⊢
  obtain ⟨⟨q0, q1, q2, q3⟩, f0, f1, f2, f3⟩ := spc_row HF1.out.row
  have HF2 := Lib.hid ((HF1.out.put 2 (.bool false) 0 0 false true rfl).put 0 (.int .i64 1152921504606846976) 1152921504606846976 0 false true rfl)
  clear HF1
  go_upto_region 4 with fail
  clear q0 q1 q2 q3 f0 f1 f2 f3
  generalize World.setCell _ _ _ = wc at HF2 ⊢
  go_upto_region 6 with (first
    | (go_at_call 94; refine (NP.out _).mono ?_; rintro e wn ⟨nb, hnb, rfl, hnp, hnB⟩)
    | (go_at_call 82; refine (bigcmpN a nb x 1152921504606846976 (by have := HF2.out.ba.lt; omega) (by decide) _ (HF2.out.below hnB).ba hnp).mono ?_; rintro e w2 ⟨rfl, k, rfl⟩; have hfact := HL.out.2))
  have HF3 := Lib.hid ((HF2.out.below hnB).below (drewN_below _ k))
  clear hnB hnp hnb HF2 hfact
  generalize World.drewN _ _ = wc at HF3 ⊢
  go_upto_region 7 with (first
    | (go_at_call 94; refine (NP.out _).mono ?_; rintro e wn ⟨nb, hnb, rfl, hnp, hnB⟩)
    | (go_at_call 82; refine (bigcmpN b nb y 1152921504606846976 (by have := HF3.out.bb.lt; omega) (by decide) _ (HF3.out.below hnB).bb hnp).mono ?_; rintro e w2 ⟨rfl, k, rfl⟩; have hfact := HH.out.1))
  have HF4 := Lib.hid ((HF3.out.below hnB).below (drewN_below _ k))
  clear hnB hnp hnb HF3 hfact
  generalize World.drewN _ _ = wc at HF4 ⊢
  obtain ⟨⟨q0, q1, q2, q3⟩, f0, f1, f2, f3⟩ := spc_row HF4.out.row
  have HF5 := Lib.hid ((HF4.out.put 3 (.bool false) 1152921504606846976 0 false false rfl).put 1 (.int .i64 (-1152921504606846976)) 1152921504606846976 (-1152921504606846976) false false rfl)
  clear HF4
  go_upto_region 8 with fail
  clear q0 q1 q2 q3 f0 f1 f2 f3
  generalize World.setCell _ _ _ = wc at HF5 ⊢
  go_upto_region 9 with (first
    | (go_at_call 94; refine (NN.out _).mono ?_; rintro e wn ⟨nb, hnb, rfl, hnp, hnB⟩)
    | (go_at_call 82; refine (bigcmpN b nb y (-1152921504606846976) (by have := HF5.out.bb.lt; omega) (by decide) _ (HF5.out.below hnB).bb hnp).mono ?_; rintro e w2 ⟨rfl, k, rfl⟩; have hfact := HH.out.2))
  have HF6 := Lib.hid ((HF5.out.below hnB).below (drewN_below _ k))
  clear hnB hnp hnb HF5 hfact
  generalize World.drewN _ _ = wc at HF6 ⊢
  obtain ⟨⟨q0, q1, q2, q3⟩, f0, f1, f2, f3⟩ := spc_row HF6.out.row
  have HF7 := Lib.hid (HF6.out.put 1 (.int .i64 y) 1152921504606846976 y false false rfl)
  go_upto_region 10 with (go_at_call 100; refine (int64N b y HYR.out _ HF6.out.bb).mono ?_; rintro e w2 ⟨rfl, rfl⟩)
  clear q0 q1 q2 q3 f0 f1 f2 f3 HF6
  generalize World.setCell _ _ _ = wc at HF7 ⊢
  obtain ⟨⟨q0, q1, q2, q3⟩, f0, f1, f2, f3⟩ := spc_row HF7.out.row
  obtain ⟨⟨p0, p1, p2, p3⟩, g0, g1, g2, g3⟩ := spc_row HF7.out.res
  obtain ⟨⟨z0, z1, z2, z3⟩, _⟩ := spc_row (spc_put HF7.out.res 1152921504606846976 y false false)
  have HBZ := Lib.hid (below_set4 HF7.out.bel (Nat.le_refl w.heap.size) (.int .i64 1152921504606846976) (.int .i64 y) (.bool false) (.bool false))
  have Z := Lib.hid (And.intro z0 (And.intro z1 (And.intro z2 z3)))
  clear z0 z1 z2 z3 HF7
  go_wp2
  obtain ⟨z0, z1, z2, z3⟩ := Z.out
  exact bodyPost_ret (v := .agg #[.int .i64 1152921504606846976, .int .i64 y, .bool false, .bool false]) (by simp [results, Tryz.results80, go_sem, z0, z1, z2, z3]) rfl ⟨rfl, HBZ.out⟩
set_option maxRecDepth 100000 in
set_option maxHeartbeats 3200000 in
theorem from_22 (a b : Nat) (x y : Int) (hl1 : decide (0 ≤ cmpv x (-1152921504606846976)) = true) (hl2 : decide (cmpv x 1152921504606846976 < 0) = false) (hh1 : decide (cmpv y 1152921504606846976 ≤ 0) = true) (hh2 : decide (0 < cmpv y (-1152921504606846976)) = false) (hxr : True) (hyr : True) (w : World) (ha : BN w a x) (hb : BN w b y) :
    Calls Tryz.prog 80 #[.pointer (some ⟨a, 0, none⟩), .pointer (some ⟨b, 0, none⟩)] w (Ret w (.agg #[.int .i64 1152921504606846976, .int .i64 (-1152921504606846976), .bool false, .bool false])) := by
  have HL := Lib.hid (And.intro hl1 hl2)
  have HH := Lib.hid (And.intro hh1 hh2)
  have HXR := Lib.hid hxr
  have HYR := Lib.hid hyr
  have HA := Lib.hid ha
  have HB := Lib.hid hb
  have HF := Lib.hid full_of
  clear ha hb hl1 hl2 hh1 hh2 hxr hyr
  go_enter Tryz.func80, Tryz.ntmps80
  go_upto_region 2 with (go_at_call 5; refine (HF.out _).mono ?_; rintro e w1 ⟨rfl, hB1⟩)
  have hm := Row.made w1 (spc 0 0 true true) 23
  have hB2 : Below w.heap.size w w1 := (below_map w _).trans (hB1.mono (by simp))
  have hfs : FN w a b x y w1.heap.size 0 0 true true (w1.alloc (.cells #[.int .i64 0, .int .i64 0, .bool true, .bool true] 23)) :=
    ⟨((Row.made w (spc 0 0 false false) 23).below hB1 (by simp)).alloc _, hm, (HA.out.below hB2).below (below_map _ _), (HB.out.below hB2).below (below_map _ _), hB2.trans ((below_map w1 _).mono hB2.size), by have := hB1.size; simp at this; omega⟩
  have HFS := Lib.hid hfs
  clear hm hB2 hB1 hfs HA HB HF
  obtain ⟨s, hs⟩ : ∃ s, s = w1.heap.size := ⟨_, rfl⟩
  rw [← hs] at HFS
  simp only [← hs]
  clear hs
  generalize World.alloc _ _ = wc at HFS ⊢
  have NP := Lib.hid (fun w => new_any 1152921504606846976 (by decide) w)
  have NN := Lib.hid (fun w => new_any (-1152921504606846976) (by decide) w)
  go_upto_region 3 with (first
    | (go_at_call 94; refine (NN.out _).mono ?_; rintro e wn ⟨nb, hnb, rfl, hnp, hnB⟩)
    | (go_at_call 82; refine (bigcmpN a nb x (-1152921504606846976) (by have := HFS.out.ba.lt; omega) (by decide) _ (HFS.out.below hnB).ba hnp).mono ?_; rintro e w2 ⟨rfl, k, rfl⟩; have hfact := HL.out.1))
  have HF1 := Lib.hid ((HFS.out.below hnB).below (drewN_below _ k))
  clear hnB hnp hnb HFS hfact
  generalize World.drewN _ _ = wc at HF1 ⊢
  obtain ⟨⟨q0, q1, q2, q3⟩, f0, f1, f2, f3⟩ := spc_row HF1.out.row
  have HF2 := Lib.hid ((HF1.out.put 2 (.bool false) 0 0 false true rfl).put 0 (.int .i64 1152921504606846976) 1152921504606846976 0 false true rfl)
  clear HF1
  go_upto_region 4 with fail
  clear q0 q1 q2 q3 f0 f1 f2 f3
  generalize World.setCell _ _ _ = wc at HF2 ⊢
  go_upto_region 6 with (first
    | (go_at_call 94; refine (NP.out _).mono ?_; rintro e wn ⟨nb, hnb, rfl, hnp, hnB⟩)
    | (go_at_call 82; refine (bigcmpN a nb x 1152921504606846976 (by have := HF2.out.ba.lt; omega) (by decide) _ (HF2.out.below hnB).ba hnp).mono ?_; rintro e w2 ⟨rfl, k, rfl⟩; have hfact := HL.out.2))
  have HF3 := Lib.hid ((HF2.out.below hnB).below (drewN_below _ k))
  clear hnB hnp hnb HF2 hfact
  generalize World.drewN _ _ = wc at HF3 ⊢
  go_upto_region 7 with (first
    | (go_at_call 94; refine (NP.out _).mono ?_; rintro e wn ⟨nb, hnb, rfl, hnp, hnB⟩)
    | (go_at_call 82; refine (bigcmpN b nb y 1152921504606846976 (by have := HF3.out.bb.lt; omega) (by decide) _ (HF3.out.below hnB).bb hnp).mono ?_; rintro e w2 ⟨rfl, k, rfl⟩; have hfact := HH.out.1))
  have HF4 := Lib.hid ((HF3.out.below hnB).below (drewN_below _ k))
  clear hnB hnp hnb HF3 hfact
  generalize World.drewN _ _ = wc at HF4 ⊢
  obtain ⟨⟨q0, q1, q2, q3⟩, f0, f1, f2, f3⟩ := spc_row HF4.out.row
  have HF5 := Lib.hid ((HF4.out.put 3 (.bool false) 1152921504606846976 0 false false rfl).put 1 (.int .i64 (-1152921504606846976)) 1152921504606846976 (-1152921504606846976) false false rfl)
  clear HF4
  go_upto_region 8 with fail
  clear q0 q1 q2 q3 f0 f1 f2 f3
  generalize World.setCell _ _ _ = wc at HF5 ⊢
  go_upto_region 10 with (first
    | (go_at_call 94; refine (NN.out _).mono ?_; rintro e wn ⟨nb, hnb, rfl, hnp, hnB⟩)
    | (go_at_call 82; refine (bigcmpN b nb y (-1152921504606846976) (by have := HF5.out.bb.lt; omega) (by decide) _ (HF5.out.below hnB).bb hnp).mono ?_; rintro e w2 ⟨rfl, k, rfl⟩; have hfact := HH.out.2))
  have HF6 := Lib.hid ((HF5.out.below hnB).below (drewN_below _ k))
  clear hnB hnp hnb HF5 hfact
  generalize World.drewN _ _ = wc at HF6 ⊢
  obtain ⟨⟨q0, q1, q2, q3⟩, f0, f1, f2, f3⟩ := spc_row HF6.out.row
  obtain ⟨⟨p0, p1, p2, p3⟩, g0, g1, g2, g3⟩ := spc_row HF6.out.res
  obtain ⟨⟨z0, z1, z2, z3⟩, _⟩ := spc_row (spc_put HF6.out.res 1152921504606846976 (-1152921504606846976) false false)
  have HBZ := Lib.hid (below_set4 HF6.out.bel (Nat.le_refl w.heap.size) (.int .i64 1152921504606846976) (.int .i64 (-1152921504606846976)) (.bool false) (.bool false))
  have Z := Lib.hid (And.intro z0 (And.intro z1 (And.intro z2 z3)))
  clear z0 z1 z2 z3 HF6
  go_wp2
  obtain ⟨z0, z1, z2, z3⟩ := Z.out
  exact bodyPost_ret (v := .agg #[.int .i64 1152921504606846976, .int .i64 (-1152921504606846976), .bool false, .bool false]) (by simp [results, Tryz.results80, go_sem, z0, z1, z2, z3]) rfl ⟨rfl, HBZ.out⟩
theorem from_any (a b : Nat) (x y : Int) (w : World) (ha : BN w a x) (hb : BN w b y) :
    Calls Tryz.prog 80 #[.pointer (some ⟨a, 0, none⟩), .pointer (some ⟨b, 0, none⟩)] w (Ret w (fromv x y)) := by
  have c1 : decide (0 ≤ cmpv x (-1152921504606846976)) = !decide (x < -1152921504606846976) := by unfold cmpv; (repeat' split) <;> simp <;> omega
  have c2 : decide (cmpv x 1152921504606846976 < 0) = decide (x < 1152921504606846976) := by unfold cmpv; (repeat' split) <;> simp <;> omega
  have c3 : decide (cmpv y 1152921504606846976 ≤ 0) = !decide (1152921504606846976 < y) := by unfold cmpv; (repeat' split) <;> simp <;> omega
  have c4 : decide (0 < cmpv y (-1152921504606846976)) = decide (-1152921504606846976 < y) := by unfold cmpv; (repeat' split) <;> simp <;> omega
  unfold fromv
  by_cases h1 : x < -1152921504606846976
  · have e1 : oflo x = 0 := by unfold oflo; rw [if_pos h1]
    by_cases h3 : 1152921504606846976 < y
    · have e3 : ofhi y = 0 := by unfold ofhi; rw [if_pos h3]
      have := from_00 a b x y (by rw [c1]; simp [h1]) trivial (by rw [c3]; simp [h3]) trivial trivial trivial w ha hb
      rw [e1, e3]; simpa [h1, h3] using this
    · by_cases h4 : -1152921504606846976 < y
      · have e3 : ofhi y = y := by unfold ofhi; rw [if_neg h3, if_neg (by omega)]
        have := from_01 a b x y (by rw [c1]; simp [h1]) trivial (by rw [c3]; simp [h3]) (by rw [c4]; simp [h4]) trivial (by omega) w ha hb
        rw [e1, e3]; simpa [h1, h3] using this
      · have e3 : ofhi y = -1152921504606846976 := by unfold ofhi; rw [if_neg h3]; split <;> omega
        have := from_02 a b x y (by rw [c1]; simp [h1]) trivial (by rw [c3]; simp [h3]) (by rw [c4]; simp [h4]) trivial trivial w ha hb
        rw [e1, e3]; simpa [h1, h3] using this
  · by_cases h2 : x < 1152921504606846976
    · have e1 : oflo x = x := by unfold oflo; rw [if_neg h1, if_neg (by omega)]
      by_cases h3 : 1152921504606846976 < y
      · have e3 : ofhi y = 0 := by unfold ofhi; rw [if_pos h3]
        have := from_10 a b x y (by rw [c1]; simp [h1]) (by rw [c2]; simp [h2]) (by rw [c3]; simp [h3]) trivial (by omega) trivial w ha hb
        rw [e1, e3]; simpa [h1, h3] using this
      · by_cases h4 : -1152921504606846976 < y
        · have e3 : ofhi y = y := by unfold ofhi; rw [if_neg h3, if_neg (by omega)]
          have := from_11 a b x y (by rw [c1]; simp [h1]) (by rw [c2]; simp [h2]) (by rw [c3]; simp [h3]) (by rw [c4]; simp [h4]) (by omega) (by omega) w ha hb
          rw [e1, e3]; simpa [h1, h3] using this
        · have e3 : ofhi y = -1152921504606846976 := by unfold ofhi; rw [if_neg h3]; split <;> omega
          have := from_12 a b x y (by rw [c1]; simp [h1]) (by rw [c2]; simp [h2]) (by rw [c3]; simp [h3]) (by rw [c4]; simp [h4]) (by omega) trivial w ha hb
          rw [e1, e3]; simpa [h1, h3] using this
    · have e1 : oflo x = 1152921504606846976 := by unfold oflo; rw [if_neg h1]; split <;> omega
      by_cases h3 : 1152921504606846976 < y
      · have e3 : ofhi y = 0 := by unfold ofhi; rw [if_pos h3]
        have := from_20 a b x y (by rw [c1]; simp [h1]) (by rw [c2]; simp [h2]) (by rw [c3]; simp [h3]) trivial trivial trivial w ha hb
        rw [e1, e3]; simpa [h1, h3] using this
      · by_cases h4 : -1152921504606846976 < y
        · have e3 : ofhi y = y := by unfold ofhi; rw [if_neg h3, if_neg (by omega)]
          have := from_21 a b x y (by rw [c1]; simp [h1]) (by rw [c2]; simp [h2]) (by rw [c3]; simp [h3]) (by rw [c4]; simp [h4]) trivial (by omega) w ha hb
          rw [e1, e3]; simpa [h1, h3] using this
        · have e3 : ofhi y = -1152921504606846976 := by unfold ofhi; rw [if_neg h3]; split <;> omega
          have := from_22 a b x y (by rw [c1]; simp [h1]) (by rw [c2]; simp [h2]) (by rw [c3]; simp [h3]) (by rw [c4]; simp [h4]) trivial trivial w ha hb
          rw [e1, e3]; simpa [h1, h3] using this
set_option maxRecDepth 100000 in
set_option maxHeartbeats 3200000 in
theorem fit_any (a b : Nat) (x y : Int) (w : World) (ha : BN w a x) (hb : BN w b y) :
    Calls Tryz.prog 43 #[.pointer (some ⟨a, 0, none⟩), .pointer (some ⟨b, 0, none⟩)] w (Ret w (.tuple #[fromv x y, .bool (isI x && isI y)])) := by
  have hfr := fun w p q => from_any a b x y w p q
  unfold fromv at hfr ⊢
  generalize oflo x = A at hfr ⊢
  generalize ofhi y = B at hfr ⊢
  generalize decide (x < -1152921504606846976) = P at hfr ⊢
  generalize decide (1152921504606846976 < y) = Q at hfr ⊢
  have HF := Lib.hid hfr
  have HIA := Lib.hid (fun w p => isintN a x w p)
  have HIB := Lib.hid (fun w p => isintN b y w p)
  generalize isI x = ix at HIA ⊢
  generalize isI y = iy at HIB ⊢
  have hr1 : Row (w.alloc (.cells #[.int .i64 0, .int .i64 0, .bool false, .bool false] 23)) w.heap.size 23 (spc 0 0 false false) := Row.made w (spc 0 0 false false) _
  have hB0 := below_map w (.cells #[.int .i64 0, .int .i64 0, .bool false, .bool false] 23)
  have HS := Lib.hid (And.intro hr1 (And.intro hB0 (And.intro (ha.below hB0) (hb.below hB0))))
  clear hr1 hB0 ha hb hfr
  cases ix
  all_goals
    go_enter Tryz.func43, Tryz.ntmps43
    go_wp2_with (go_at_call 80; refine (HF.out _ HS.out.2.2.1 HS.out.2.2.2).mono ?_; rintro e w1 ⟨rfl, hB⟩; have HA1 := Lib.hid (HS.out.2.2.1.below hB); have HB1 := Lib.hid (HS.out.2.2.2.below hB); have hr1 := HS.out.1.below hB HS.out.1.lt; have hB1 := HS.out.2.1.trans (hB.mono HS.out.2.1.size); obtain ⟨⟨q0, q1, q2, q3⟩, f0, f1, f2, f3⟩ := spc_row hr1; obtain ⟨⟨z0, z1, z2, z3⟩, _⟩ := spc_row (spc_put hr1 A B P Q); have HBZ := Lib.hid (below_set4 hB1 (Nat.le_refl w.heap.size) (.int .i64 A) (.int .i64 B) (.bool P) (.bool Q)); have Z := Lib.hid (And.intro z0 (And.intro z1 (And.intro z2 z3))); clear hB hr1 hB1 z0 z1 z2 z3)
    refine (HIA.out _ HA1.out).mono ?_
    rintro e w2 ⟨rfl, rfl⟩
  · go_wp2
    obtain ⟨z0, z1, z2, z3⟩ := Z.out
    exact bodyPost_ret (v := .tuple #[.agg #[.int .i64 A, .int .i64 B, .bool P, .bool Q], .bool false]) (by simp [results, Tryz.results43, go_sem, z0, z1, z2, z3]) rfl ⟨rfl, HBZ.out⟩
  · go_wp2_with fail
    refine (HIB.out _ HB1.out).mono ?_
    rintro e w2 ⟨rfl, rfl⟩
    go_wp2
    obtain ⟨z0, z1, z2, z3⟩ := Z.out
    exact bodyPost_ret (v := .tuple #[.agg #[.int .i64 A, .int .i64 B, .bool P, .bool Q], .bool iy]) (by simp [results, Tryz.results43, go_sem, z0, z1, z2, z3]) rfl ⟨by simp, HBZ.out⟩
end Go.Proofs.YtaaidjphacofgaaGreatDoor
