/-
  Spans: num, from, fit of numbers of one word.
-/
import Derived.Test.YtaaidjphacofgaaGreatDoorBigC
import Derived.Test.YtaaidjphacofgaaGreatDoorSpanC
namespace Go.Proofs.YtaaidjphacofgaaGreatDoor
open Go.RowKit
set_option linter.unusedVariables false
set_option linter.unusedSimpArgs false

theorem num_pos (x : Int) (h : 0 < x ∧ x ≤ 9223372036854775807) (w : World) : Calls Tryz.prog 45 #[.int .i64 x] w (NewB w false x) := by
  have HN := Lib.hid (fun w => new_pos x h w)
  clear h
  go_enter Tryz.func45, Tryz.ntmps45
  go_wp2_with (go_at_call 94; refine (HN.out _).mono ?_; rintro e w' ⟨b, hb, rfl, hp, hB⟩)
  go_ret
  exact ⟨_, hb, rfl, hp, hB⟩
theorem cmp_lim (x : Int) (h : 0 < x ∧ x < 1152921504606846976) : cmpb false x true 1152921504606846976 = 1 ∧ cmpb false x false 1152921504606846976 = -1 := by
  unfold cmpb cmpm
  simp
  omega
theorem Row.ne {w : World} {a b : Nat} {e e' : TypeId} {cs cs' : List Value} (h : Row w a e cs) (h' : Row w b e' cs') (hne : e ≠ e') : a ≠ b := by
  rintro rfl
  unfold Row at h h'
  rw [h] at h'
  injection h' with h2
  injection h2 with _ h3
  exact hne h3
theorem BP.put {w : World} {b s : Nat} {neg : Bool} {m : Int} (h : BP w b neg m) {cs : List Value} (hs : Row w s 23 cs) (i : Nat) (v : Value) : BP (w.setCell ⟨s, i, none⟩ v) b neg m := by
  obtain ⟨g, cs', h1, h2, h3⟩ := h
  exact ⟨g, cs', h1.other _ _ (h1.ne hs (by decide)), h2.other _ _ (h2.ne hs (by decide)), h3⟩
/-- What from keeps. -/
structure FS (w : World) (a b : Nat) (x y : Int) (s : Nat) (sl sh : Int) (sp sq : Bool) (c : World) : Prop where
  res : Row c w.heap.size 23 (spc 0 0 false false)
  row : Row c s 23 (spc sl sh sp sq)
  ba : BP c a false x
  bb : BP c b false y
  bel : Below w.heap.size w c
  lt : w.heap.size < s
theorem FS.below {w : World} {a b : Nat} {x y : Int} {s : Nat} {sl sh : Int} {sp sq : Bool} {c c' : World} (h : FS w a b x y s sl sh sp sq c) (hB : Below c.heap.size c c') : FS w a b x y s sl sh sp sq c' :=
  ⟨h.res.below hB h.res.lt, h.row.below hB h.row.lt, h.ba.below hB, h.bb.below hB, h.bel.trans (hB.mono h.bel.size), h.lt⟩
theorem FS.put {w : World} {a b : Nat} {x y : Int} {s : Nat} {sl sh : Int} {sp sq : Bool} {c : World} (h : FS w a b x y s sl sh sp sq c) (i : Nat) (v : Value) (sl' sh' : Int) (sp' sq' : Bool) (he : (spc sl sh sp sq).set i v = spc sl' sh' sp' sq') :
    FS w a b x y s sl' sh' sp' sq' (c.setCell ⟨s, i, none⟩ v) :=
  ⟨h.res.other _ _ (Nat.ne_of_lt h.lt), he ▸ h.row.put i v, h.ba.put h.row i v, h.bb.put h.row i v, h.bel.setCell (p := ⟨s, i, none⟩) (Nat.le_of_lt h.lt) v, h.lt⟩
theorem drewN_below (w : World) (k : Nat) : Below w.heap.size w (w.drewN k) := below_drewN (Below.refl _ _) k
/-- One comparison with a limit. -/
theorem FS.cmp {w : World} {a b : Nat} {x y : Int} {s : Nat} {sl sh : Int} {sp sq : Bool} {c c1 c2 : World} {k : Nat} (h : FS w a b x y s sl sh sp sq c) (hB : Below c.heap.size c c1) (hk : c2 = c1.drewN k) : FS w a b x y s sl sh sp sq c2 := by
  subst hk
  exact (h.below hB).below (drewN_below _ _)
set_option maxRecDepth 100000 in
set_option maxHeartbeats 3200000 in
theorem from_small (a b : Nat) (x y : Int) (hx : 0 < x ∧ x < 1152921504606846976) (hy : 0 < y ∧ y < 1152921504606846976) (w : World) (ha : BP w a false x) (hb : BP w b false y) :
    Calls Tryz.prog 80 #[.pointer (some ⟨a, 0, none⟩), .pointer (some ⟨b, 0, none⟩)] w (Ret w (.agg #[.int .i64 x, .int .i64 y, .bool false, .bool false])) := by
  have HCX := Lib.hid (cmp_lim x hx)
  have HCY := Lib.hid (cmp_lim y hy)
  have HA := Lib.hid ha
  have HB := Lib.hid hb
  have HXY := Lib.hid (And.intro hx hy)
  have hF := full_of
  have HF := Lib.hid hF
  have HW := Lib.hid (Below.refl w.heap.size w)
  clear ha hb hx hy hF
  go_enter Tryz.func80, Tryz.ntmps80
  go_upto_region 2 with (go_at_call 5; refine (HF.out _).mono ?_; rintro e w1 ⟨rfl, hB1⟩)
  have hm := Row.made w1 (spc 0 0 true true) 23
  have hB2 : Below w.heap.size w w1 := (below_map w _).trans (hB1.mono (by simp))
  have hfs : FS w a b x y w1.heap.size 0 0 true true (w1.alloc (.cells #[.int .i64 0, .int .i64 0, .bool true, .bool true] 23)) :=
    ⟨((Row.made w (spc 0 0 false false) 23).below hB1 (by simp)).alloc _, hm, (HA.out.below hB2).below (below_map _ _), (HB.out.below hB2).below (below_map _ _), hB2.trans ((below_map w1 _).mono hB2.size), by have := hB1.size; simp at this; omega⟩
  have HFS := Lib.hid hfs
  clear hm hB2 hB1 hfs HA HB HF HW
  obtain ⟨s, hs⟩ : ∃ s, s = w1.heap.size := ⟨_, rfl⟩
  rw [← hs] at HFS
  simp only [← hs]
  clear hs
  generalize World.alloc _ _ = wc at HFS ⊢
  have NP := Lib.hid (fun w => new_pos 1152921504606846976 (by decide) w)
  have NN := Lib.hid (fun w => new_neg (-1152921504606846976) (by decide) w)
  go_upto_region 3 with (first
    | (go_at_call 94; refine (NN.out _).mono ?_; rintro e wn ⟨nb, hnb, rfl, hnp, hnB⟩)
    | (go_at_call 82; refine (bigcmp1 a nb false true x 1152921504606846976 (by have := HFS.out.ba.lt; omega) _ (HFS.out.below hnB).ba hnp).mono ?_; rintro e w2 ⟨rfl, k, rfl⟩; rw [HCX.out.1]))
  have HF1 := Lib.hid ((HFS.out.below hnB).below (drewN_below _ k))
  clear hnB hnp hnb HFS
  generalize World.drewN _ _ = wc at HF1 ⊢
  obtain ⟨⟨q0, q1, q2, q3⟩, f0, f1, f2, f3⟩ := spc_row HF1.out.row
  have HF2 := Lib.hid ((HF1.out.put 2 (.bool false) 0 0 false true rfl).put 0 (.int .i64 1152921504606846976) 1152921504606846976 0 false true rfl)
  clear HF1
  go_upto_region 4 with fail
  clear q0 q1 q2 q3 f0 f1 f2 f3
  generalize World.setCell _ _ _ = wc at HF2 ⊢
  go_upto_region 5 with (first
    | (go_at_call 94; refine (NP.out _).mono ?_; rintro e wn ⟨nb, hnb, rfl, hnp, hnB⟩)
    | (go_at_call 82; refine (bigcmp1 a nb false false x 1152921504606846976 (by have := HF2.out.ba.lt; omega) _ (HF2.out.below hnB).ba hnp).mono ?_; rintro e w2 ⟨rfl, k, rfl⟩; rw [HCX.out.2]))
  have HF3 := Lib.hid ((HF2.out.below hnB).below (drewN_below _ k))
  clear hnB hnp hnb HF2
  generalize World.drewN _ _ = wc at HF3 ⊢
  obtain ⟨⟨q0, q1, q2, q3⟩, f0, f1, f2, f3⟩ := spc_row HF3.out.row
  have HF4 := Lib.hid (HF3.out.put 0 (.int .i64 x) x 0 false true rfl)
  go_upto_region 6 with (go_at_call 100; refine (int64_1 a false x _ HF3.out.ba (by have := HXY.out; omega)).mono ?_; rintro e w2 ⟨rfl, rfl⟩)
  clear q0 q1 q2 q3 f0 f1 f2 f3 HF3
  generalize World.setCell _ _ _ = wc at HF4 ⊢
  go_upto_region 7 with (first
    | (go_at_call 94; refine (NP.out _).mono ?_; rintro e wn ⟨nb, hnb, rfl, hnp, hnB⟩)
    | (go_at_call 82; refine (bigcmp1 b nb false false y 1152921504606846976 (by have := HF4.out.bb.lt; omega) _ (HF4.out.below hnB).bb hnp).mono ?_; rintro e w2 ⟨rfl, k, rfl⟩; rw [HCY.out.2]))
  have HF5 := Lib.hid ((HF4.out.below hnB).below (drewN_below _ k))
  clear hnB hnp hnb HF4
  generalize World.drewN _ _ = wc at HF5 ⊢
  obtain ⟨⟨q0, q1, q2, q3⟩, f0, f1, f2, f3⟩ := spc_row HF5.out.row
  have HF6 := Lib.hid ((HF5.out.put 3 (.bool false) x 0 false false rfl).put 1 (.int .i64 (-1152921504606846976)) x (-1152921504606846976) false false rfl)
  clear HF5
  go_upto_region 8 with fail
  clear q0 q1 q2 q3 f0 f1 f2 f3
  generalize World.setCell _ _ _ = wc at HF6 ⊢
  go_upto_region 9 with (first
    | (go_at_call 94; refine (NN.out _).mono ?_; rintro e wn ⟨nb, hnb, rfl, hnp, hnB⟩)
    | (go_at_call 82; refine (bigcmp1 b nb false true y 1152921504606846976 (by have := HF6.out.bb.lt; omega) _ (HF6.out.below hnB).bb hnp).mono ?_; rintro e w2 ⟨rfl, k, rfl⟩; rw [HCY.out.1]))
  have HF7 := Lib.hid ((HF6.out.below hnB).below (drewN_below _ k))
  clear hnB hnp hnb HF6
  generalize World.drewN _ _ = wc at HF7 ⊢
  obtain ⟨⟨q0, q1, q2, q3⟩, f0, f1, f2, f3⟩ := spc_row HF7.out.row
  have HF8 := Lib.hid (HF7.out.put 1 (.int .i64 y) x y false false rfl)
  go_upto_region 10 with (go_at_call 100; refine (int64_1 b false y _ HF7.out.bb (by have := HXY.out; omega)).mono ?_; rintro e w2 ⟨rfl, rfl⟩)
  clear q0 q1 q2 q3 f0 f1 f2 f3 HF7
  generalize World.setCell _ _ _ = wc at HF8 ⊢
  obtain ⟨⟨q0, q1, q2, q3⟩, f0, f1, f2, f3⟩ := spc_row HF8.out.row
  obtain ⟨⟨p0, p1, p2, p3⟩, g0, g1, g2, g3⟩ := spc_row HF8.out.res
  obtain ⟨⟨z0, z1, z2, z3⟩, _⟩ := spc_row (spc_put HF8.out.res x y false false)
  have HBZ := Lib.hid (below_set4 HF8.out.bel (Nat.le_refl w.heap.size) (.int .i64 x) (.int .i64 y) (.bool false) (.bool false))
  have Z := Lib.hid (And.intro z0 (And.intro z1 (And.intro z2 z3)))
  clear z0 z1 z2 z3 HF8
  go_wp2
  obtain ⟨z0, z1, z2, z3⟩ := Z.out
  exact bodyPost_ret (v := .agg #[.int .i64 x, .int .i64 y, .bool false, .bool false]) (by simp [results, Tryz.results80, go_sem, z0, z1, z2, z3]) rfl ⟨rfl, HBZ.out⟩
end Go.Proofs.YtaaidjphacofgaaGreatDoor
