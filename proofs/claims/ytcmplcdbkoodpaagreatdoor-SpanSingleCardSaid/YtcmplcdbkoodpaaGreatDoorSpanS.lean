/-
  Spans: the reference's single, Swap and Extend.
-/
import Derived.Test.YtcmplcdbkoodpaaGreatDoorSpanR
namespace Go.Proofs.YtcmplcdbkoodpaaGreatDoor
open Go.RowKit
set_option linter.unusedVariables false
set_option linter.unusedSimpArgs false

/-- A span as it is read: from its ends. -/
theorem read_all (lo hi : Int) (p q : Bool) : (Value.agg #[.int .i64 (rlo lo hi p q), .int .i64 (rhi lo hi p q), .bool (rp lo hi p q), .bool (rq lo hi p q)]) = ofs (elo lo hi p q) (ehi lo hi p q) := by
  have hle := ends_le lo hi p q
  unfold ofs oflo ofhi
  rw [if_neg (by omega)]
  unfold rlo rhi rp rq elo ehi
  by_cases h : Snd lo hi p q
  · simp only [if_pos h]
    obtain ⟨ha, hb, a, b, c, d, e⟩ := h
    cases p <;> cases q <;> simp only [Bool.false_eq_true, if_false, if_true] <;> (try have ha := ha rfl) <;> (try have hb := hb rfl) <;> simp <;> omega
  · simp only [if_neg h]; simp
/-- Has a span one number? -/
theorem rsingle_val (lo hi : Int) (p q : Bool) : (!rp lo hi p q && !rq lo hi p q && (rlo lo hi p q == rhi lo hi p q)) = (elo lo hi p q == ehi lo hi p q) := by
  unfold rlo rhi rp rq elo ehi
  by_cases h : Snd lo hi p q
  · simp only [if_pos h]
    obtain ⟨ha, hb, a, b, c, d, e⟩ := h
    cases p <;> cases q <;> simp <;> omega
  · simp only [if_neg h]; decide
set_option maxRecDepth 100000 in
set_option maxHeartbeats 1600000 in
theorem rsingle_of (lo hi : Int) (p q : Bool) (w : World) : Calls Tryz.prog 52 #[.agg #[.int .i64 lo, .int .i64 hi, .bool p, .bool q]] w (Ret w (.bool (elo lo hi p q == ehi lo hi p q))) := by
  have hv := rsingle_val lo hi p q
  rw [← hv]
  have hrd := fun w => rread_of lo hi p q w
  generalize rlo lo hi p q = L at hrd ⊢
  generalize rhi lo hi p q = H at hrd ⊢
  generalize rp lo hi p q = P at hrd ⊢
  generalize rq lo hi p q = Q at hrd ⊢
  obtain ⟨d, hd⟩ : ∃ d, (L == H) = d := ⟨_, rfl⟩
  rw [hd]
  have HRD := Lib.hid hrd
  have HR := Lib.hid (And.intro (Row.made w (spc lo hi p q) 23) (below_map w (.cells #[.int .i64 lo, .int .i64 hi, .bool p, .bool q] 23)))
  clear hrd hv
  cases P
  all_goals cases Q
  all_goals
    go_enter Tryz.func52, Tryz.ntmps52
    go_wp2_with fail
    refine (HRD.out _).mono ?_
    rintro e w1 ⟨rfl, hB⟩
    have hr1 := HR.out.1.below hB HR.out.1.lt
    have hB1 := HR.out.2.trans (hB.mono HR.out.2.size)
    obtain ⟨⟨q0, q1, q2, q3⟩, f0, f1, f2, f3⟩ := spc_row hr1
    have hz := spc_put hr1
    have HZ := Lib.hid hz
    have HBZ := Lib.hid (fun a b c d => below_set4 hB1 (Nat.le_refl w.heap.size) a b c d)
    clear hB hr1 hB1 hz
    first
      | (obtain ⟨⟨z0, z1, z2, z3⟩, _⟩ := spc_row (HZ.out L H false false)
         go_wp2
         go_ret
         exact ⟨by cases d <;> rfl, HBZ.out _ _ _ _⟩)
      | (obtain ⟨⟨z0, z1, z2, z3⟩, _⟩ := spc_row (HZ.out L H false true)
         go_wp2
         go_ret
         exact ⟨rfl, HBZ.out _ _ _ _⟩)
      | (obtain ⟨⟨z0, z1, z2, z3⟩, _⟩ := spc_row (HZ.out L H true false)
         go_wp2
         go_ret
         exact ⟨rfl, HBZ.out _ _ _ _⟩)
      | (obtain ⟨⟨z0, z1, z2, z3⟩, _⟩ := spc_row (HZ.out L H true true)
         go_wp2
         go_ret
         exact ⟨rfl, HBZ.out _ _ _ _⟩)
set_option maxRecDepth 100000 in
set_option maxHeartbeats 600000 in
theorem rswap_leaf_other (size : Int) (t : Bool) (lo hi : Int) (p q : Bool) (E F A B : Int) (P Q : Bool) (hrd : ∀ w, Calls Tryz.prog 39 #[.agg #[.int .i64 lo, .int .i64 hi, .bool p, .bool q]] w (Ret w (.agg #[.int .i64 E, .int .i64 F]))) (n1 : (size != 16) = true) (n2 : (size != 32) = true) (n3 : (size != 64) = true) (hfin : (∀ w, Calls Tryz.prog 51 #[] w (Ret w (.agg #[.int .i64 A, .int .i64 B, .bool P, .bool Q])))) (w : World) :
    Calls Tryz.prog 23 #[.int .i64 size, .bool t, .agg #[.int .i64 lo, .int .i64 hi, .bool p, .bool q]] w (Ret w (.agg #[.int .i64 A, .int .i64 B, .bool P, .bool Q])) := by
  have HRD := Lib.hid hrd
  have Hhfin := Lib.hid hfin
  clear hrd hfin
  have r1 : Row ((w.alloc (.cells #[.int .i64 lo, .int .i64 hi, .bool p, .bool q] 23)).alloc (.cells #[.int .i64 0, .int .i64 0, .bool false, .bool false] 23)) w.heap.size 23 (spc lo hi p q) := (Row.made w (spc lo hi p q) 23).alloc _
  have r2 : Row ((w.alloc (.cells #[.int .i64 lo, .int .i64 hi, .bool p, .bool q] 23)).alloc (.cells #[.int .i64 0, .int .i64 0, .bool false, .bool false] 23)) (w.heap.size + 1) 23 (spc 0 0 false false) := row2 w _ (spc 0 0 false false) _
  have b3 : Below w.heap.size w ((w.alloc (.cells #[.int .i64 lo, .int .i64 hi, .bool p, .bool q] 23)).alloc (.cells #[.int .i64 0, .int .i64 0, .bool false, .bool false] 23)) := (below_map w _).alloc (by simp) _
  have HR := Lib.hid (And.intro r1 (And.intro r2 b3))
  clear r1 r2 b3
  go_enter Tryz.func23, Tryz.ntmps23
  go_wp2_with fail
  refine (Hhfin.out _).mono ?_
  rintro e w1 ⟨rfl, hB⟩
  have hr1 := HR.out.2.1.below hB HR.out.2.1.lt
  have hB1 := HR.out.2.2.trans (hB.mono HR.out.2.2.size)
  obtain ⟨⟨q0, q1, q2, q3⟩, f0, f1, f2, f3⟩ := spc_row hr1
  obtain ⟨⟨z0, z1, z2, z3⟩, _⟩ := spc_row (spc_put hr1 A B P Q)
  have HBZ := Lib.hid (below_set4 hB1 (Nat.le_succ w.heap.size) (.int .i64 A) (.int .i64 B) (.bool P) (.bool Q))
  have Z := Lib.hid (And.intro z0 (And.intro z1 (And.intro z2 z3)))
  clear hB hr1 hB1 z0 z1 z2 z3
  go_wp2
  obtain ⟨z0, z1, z2, z3⟩ := Z.out
  exact bodyPost_ret (v := .agg #[.int .i64 A, .int .i64 B, .bool P, .bool Q]) (by simp [results, Tryz.results23, go_sem, z0, z1, z2, z3]) rfl ⟨rfl, HBZ.out⟩
set_option maxRecDepth 100000 in
set_option maxHeartbeats 600000 in
theorem rswap_one_16_false (s : Int) (lo hi : Int) (p q : Bool) (E F A B : Int) (P Q : Bool) (hrd : ∀ w, Calls Tryz.prog 39 #[.agg #[.int .i64 lo, .int .i64 hi, .bool p, .bool q]] w (Ret w (.agg #[.int .i64 E, .int .i64 F]))) (hsi : (∀ w, Calls Tryz.prog 52 #[.agg #[.int .i64 lo, .int .i64 hi, .bool p, .bool q]] w (Ret w (.bool true)))) (hw : (∀ w, Calls Tryz.prog 27 #[.int .i64 16, .bool false, .int .i64 E] w (Ret w (.int .i64 s)))) (hfin : (∀ w, Calls Tryz.prog 53 #[.int .i64 s, .int .i64 s] w (Ret w (.agg #[.int .i64 A, .int .i64 B, .bool P, .bool Q])))) (w : World) :
    Calls Tryz.prog 23 #[.int .i64 16, .bool false, .agg #[.int .i64 lo, .int .i64 hi, .bool p, .bool q]] w (Ret w (.agg #[.int .i64 A, .int .i64 B, .bool P, .bool Q])) := by
  have HRD := Lib.hid hrd
  have Hhsi := Lib.hid hsi
  have Hhw := Lib.hid hw
  have Hhfin := Lib.hid hfin
  clear hrd hsi hw hfin
  have r1 : Row ((w.alloc (.cells #[.int .i64 lo, .int .i64 hi, .bool p, .bool q] 23)).alloc (.cells #[.int .i64 0, .int .i64 0, .bool false, .bool false] 23)) w.heap.size 23 (spc lo hi p q) := (Row.made w (spc lo hi p q) 23).alloc _
  have r2 : Row ((w.alloc (.cells #[.int .i64 lo, .int .i64 hi, .bool p, .bool q] 23)).alloc (.cells #[.int .i64 0, .int .i64 0, .bool false, .bool false] 23)) (w.heap.size + 1) 23 (spc 0 0 false false) := row2 w _ (spc 0 0 false false) _
  have b3 : Below w.heap.size w ((w.alloc (.cells #[.int .i64 lo, .int .i64 hi, .bool p, .bool q] 23)).alloc (.cells #[.int .i64 0, .int .i64 0, .bool false, .bool false] 23)) := (below_map w _).alloc (by simp) _
  have HR := Lib.hid (And.intro r1 (And.intro r2 b3))
  clear r1 r2 b3
  go_enter Tryz.func23, Tryz.ntmps23
  go_upto_region 4 with (go_at_call 39; refine (HRD.out _).mono ?_; rintro e w1 ⟨rfl, hB⟩)
  have hk : SK w w1.heap.size 66 E F lo hi p q (w1.alloc (.cells #[.int .i64 E, .int .i64 F] 66)) :=
    ⟨(HR.out.1.below hB HR.out.1.lt).alloc _, (HR.out.2.1.below hB HR.out.2.1.lt).alloc _, Row.made w1 (edc E F) 66, (HR.out.2.2.trans (hB.mono HR.out.2.2.size)).trans ((below_map w1 _).mono (Nat.le_trans HR.out.2.2.size hB.size))⟩
  clear hB
  obtain ⟨b, hb⟩ : ∃ b, b = w1.heap.size := ⟨_, rfl⟩
  rw [← hb] at hk
  simp only [← hb]
  clear hb
  generalize World.alloc _ _ = wc at hk ⊢
  have HK := Lib.hid hk
  obtain ⟨⟨x0, x1⟩, ⟨a0, a1, a2, a3⟩, ⟨q0, q1, q2, q3⟩, f0, f1, f2, f3⟩ := hk.all
  clear hk HR
  go_wp2_with (first
    | (go_at_call 52; (refine (Hhsi.out _).mono ?_; rintro e w' ⟨rfl, hB⟩; have hk := HK.out.below hB; have HK := Lib.hid hk; obtain ⟨⟨x0, x1⟩, ⟨a0, a1, a2, a3⟩, ⟨q0, q1, q2, q3⟩, f0, f1, f2, f3⟩ := hk.all; clear hk hB))
    | (go_at_call 27; (refine (Hhw.out _).mono ?_; rintro e w' ⟨rfl, hB⟩; have hk := HK.out.below hB; have HK := Lib.hid hk; obtain ⟨⟨x0, x1⟩, ⟨a0, a1, a2, a3⟩, ⟨q0, q1, q2, q3⟩, f0, f1, f2, f3⟩ := hk.all; clear hk hB))
    | (go_at_call 53; (refine (Hhfin.out _).mono ?_; rintro e w' ⟨rfl, hB⟩; have hk := HK.out.below hB; have HK := Lib.hid hk; obtain ⟨⟨x0, x1⟩, ⟨a0, a1, a2, a3⟩, ⟨q0, q1, q2, q3⟩, f0, f1, f2, f3⟩ := hk.all; obtain ⟨⟨z0, z1, z2, z3⟩, _⟩ := spc_row (spc_put hk.res A B P Q); have HBZ := Lib.hid (below_set4 hk.bel (Nat.le_succ w.heap.size) (.int .i64 A) (.int .i64 B) (.bool P) (.bool Q)); have Z := Lib.hid (And.intro z0 (And.intro z1 (And.intro z2 z3))); clear z0 z1 z2 z3; clear hk hB))
    | fail "none")
  obtain ⟨z0, z1, z2, z3⟩ := Z.out
  exact bodyPost_ret (v := .agg #[.int .i64 A, .int .i64 B, .bool P, .bool Q]) (by simp [results, Tryz.results23, go_sem, z0, z1, z2, z3]) rfl ⟨rfl, HBZ.out⟩
set_option maxRecDepth 100000 in
set_option maxHeartbeats 600000 in
theorem rswap_many_16_in (lo hi : Int) (p q : Bool) (E F A B : Int) (P Q : Bool) (hrd : ∀ w, Calls Tryz.prog 39 #[.agg #[.int .i64 lo, .int .i64 hi, .bool p, .bool q]] w (Ret w (.agg #[.int .i64 E, .int .i64 F]))) (h0 : decide (0 ≤ E) = true) (h1 : decide (F ≤ 65535) = true) (hsi : (∀ w, Calls Tryz.prog 52 #[.agg #[.int .i64 lo, .int .i64 hi, .bool p, .bool q]] w (Ret w (.bool false)))) (hfin : (∀ w, Calls Tryz.prog 54 #[.agg #[.int .i64 lo, .int .i64 hi, .bool p, .bool q]] w (Ret w (.agg #[.int .i64 A, .int .i64 B, .bool P, .bool Q])))) (w : World) :
    Calls Tryz.prog 23 #[.int .i64 16, .bool false, .agg #[.int .i64 lo, .int .i64 hi, .bool p, .bool q]] w (Ret w (.agg #[.int .i64 A, .int .i64 B, .bool P, .bool Q])) := by
  have HRD := Lib.hid hrd
  have Hhsi := Lib.hid hsi
  have Hhfin := Lib.hid hfin
  clear hrd hsi hfin
  have r1 : Row ((w.alloc (.cells #[.int .i64 lo, .int .i64 hi, .bool p, .bool q] 23)).alloc (.cells #[.int .i64 0, .int .i64 0, .bool false, .bool false] 23)) w.heap.size 23 (spc lo hi p q) := (Row.made w (spc lo hi p q) 23).alloc _
  have r2 : Row ((w.alloc (.cells #[.int .i64 lo, .int .i64 hi, .bool p, .bool q] 23)).alloc (.cells #[.int .i64 0, .int .i64 0, .bool false, .bool false] 23)) (w.heap.size + 1) 23 (spc 0 0 false false) := row2 w _ (spc 0 0 false false) _
  have b3 : Below w.heap.size w ((w.alloc (.cells #[.int .i64 lo, .int .i64 hi, .bool p, .bool q] 23)).alloc (.cells #[.int .i64 0, .int .i64 0, .bool false, .bool false] 23)) := (below_map w _).alloc (by simp) _
  have HR := Lib.hid (And.intro r1 (And.intro r2 b3))
  clear r1 r2 b3
  go_enter Tryz.func23, Tryz.ntmps23
  go_upto_region 4 with (go_at_call 39; refine (HRD.out _).mono ?_; rintro e w1 ⟨rfl, hB⟩)
  have hk : SK w w1.heap.size 66 E F lo hi p q (w1.alloc (.cells #[.int .i64 E, .int .i64 F] 66)) :=
    ⟨(HR.out.1.below hB HR.out.1.lt).alloc _, (HR.out.2.1.below hB HR.out.2.1.lt).alloc _, Row.made w1 (edc E F) 66, (HR.out.2.2.trans (hB.mono HR.out.2.2.size)).trans ((below_map w1 _).mono (Nat.le_trans HR.out.2.2.size hB.size))⟩
  clear hB
  obtain ⟨b, hb⟩ : ∃ b, b = w1.heap.size := ⟨_, rfl⟩
  rw [← hb] at hk
  simp only [← hb]
  clear hb
  generalize World.alloc _ _ = wc at hk ⊢
  have HK := Lib.hid hk
  obtain ⟨⟨x0, x1⟩, ⟨a0, a1, a2, a3⟩, ⟨q0, q1, q2, q3⟩, f0, f1, f2, f3⟩ := hk.all
  clear hk HR
  go_wp2_with (first
    | (go_at_call 52; (refine (Hhsi.out _).mono ?_; rintro e w' ⟨rfl, hB⟩; have hk := HK.out.below hB; have HK := Lib.hid hk; obtain ⟨⟨x0, x1⟩, ⟨a0, a1, a2, a3⟩, ⟨q0, q1, q2, q3⟩, f0, f1, f2, f3⟩ := hk.all; clear hk hB))
    | (go_at_call 54; (refine (Hhfin.out _).mono ?_; rintro e w' ⟨rfl, hB⟩; have hk := HK.out.below hB; have HK := Lib.hid hk; obtain ⟨⟨x0, x1⟩, ⟨a0, a1, a2, a3⟩, ⟨q0, q1, q2, q3⟩, f0, f1, f2, f3⟩ := hk.all; obtain ⟨⟨z0, z1, z2, z3⟩, _⟩ := spc_row (spc_put hk.res A B P Q); have HBZ := Lib.hid (below_set4 hk.bel (Nat.le_succ w.heap.size) (.int .i64 A) (.int .i64 B) (.bool P) (.bool Q)); have Z := Lib.hid (And.intro z0 (And.intro z1 (And.intro z2 z3))); clear z0 z1 z2 z3; clear hk hB))
    | fail "none")
  obtain ⟨z0, z1, z2, z3⟩ := Z.out
  exact bodyPost_ret (v := .agg #[.int .i64 A, .int .i64 B, .bool P, .bool Q]) (by simp [results, Tryz.results23, go_sem, z0, z1, z2, z3]) rfl ⟨rfl, HBZ.out⟩
set_option maxRecDepth 100000 in
set_option maxHeartbeats 600000 in
theorem rswap_many_16_out0 (lo hi : Int) (p q : Bool) (E F A B : Int) (P Q : Bool) (hrd : ∀ w, Calls Tryz.prog 39 #[.agg #[.int .i64 lo, .int .i64 hi, .bool p, .bool q]] w (Ret w (.agg #[.int .i64 E, .int .i64 F]))) (h0 : decide (0 ≤ E) = false) (hsi : (∀ w, Calls Tryz.prog 52 #[.agg #[.int .i64 lo, .int .i64 hi, .bool p, .bool q]] w (Ret w (.bool false)))) (hfin : (∀ w, Calls Tryz.prog 53 #[.int .i64 0, .int .i64 65535] w (Ret w (.agg #[.int .i64 A, .int .i64 B, .bool P, .bool Q])))) (w : World) :
    Calls Tryz.prog 23 #[.int .i64 16, .bool false, .agg #[.int .i64 lo, .int .i64 hi, .bool p, .bool q]] w (Ret w (.agg #[.int .i64 A, .int .i64 B, .bool P, .bool Q])) := by
  have HRD := Lib.hid hrd
  have Hhsi := Lib.hid hsi
  have Hhfin := Lib.hid hfin
  clear hrd hsi hfin
  have r1 : Row ((w.alloc (.cells #[.int .i64 lo, .int .i64 hi, .bool p, .bool q] 23)).alloc (.cells #[.int .i64 0, .int .i64 0, .bool false, .bool false] 23)) w.heap.size 23 (spc lo hi p q) := (Row.made w (spc lo hi p q) 23).alloc _
  have r2 : Row ((w.alloc (.cells #[.int .i64 lo, .int .i64 hi, .bool p, .bool q] 23)).alloc (.cells #[.int .i64 0, .int .i64 0, .bool false, .bool false] 23)) (w.heap.size + 1) 23 (spc 0 0 false false) := row2 w _ (spc 0 0 false false) _
  have b3 : Below w.heap.size w ((w.alloc (.cells #[.int .i64 lo, .int .i64 hi, .bool p, .bool q] 23)).alloc (.cells #[.int .i64 0, .int .i64 0, .bool false, .bool false] 23)) := (below_map w _).alloc (by simp) _
  have HR := Lib.hid (And.intro r1 (And.intro r2 b3))
  clear r1 r2 b3
  go_enter Tryz.func23, Tryz.ntmps23
  go_upto_region 4 with (go_at_call 39; refine (HRD.out _).mono ?_; rintro e w1 ⟨rfl, hB⟩)
  have hk : SK w w1.heap.size 66 E F lo hi p q (w1.alloc (.cells #[.int .i64 E, .int .i64 F] 66)) :=
    ⟨(HR.out.1.below hB HR.out.1.lt).alloc _, (HR.out.2.1.below hB HR.out.2.1.lt).alloc _, Row.made w1 (edc E F) 66, (HR.out.2.2.trans (hB.mono HR.out.2.2.size)).trans ((below_map w1 _).mono (Nat.le_trans HR.out.2.2.size hB.size))⟩
  clear hB
  obtain ⟨b, hb⟩ : ∃ b, b = w1.heap.size := ⟨_, rfl⟩
  rw [← hb] at hk
  simp only [← hb]
  clear hb
  generalize World.alloc _ _ = wc at hk ⊢
  have HK := Lib.hid hk
  obtain ⟨⟨x0, x1⟩, ⟨a0, a1, a2, a3⟩, ⟨q0, q1, q2, q3⟩, f0, f1, f2, f3⟩ := hk.all
  clear hk HR
  go_wp2_with (first
    | (go_at_call 52; (refine (Hhsi.out _).mono ?_; rintro e w' ⟨rfl, hB⟩; have hk := HK.out.below hB; have HK := Lib.hid hk; obtain ⟨⟨x0, x1⟩, ⟨a0, a1, a2, a3⟩, ⟨q0, q1, q2, q3⟩, f0, f1, f2, f3⟩ := hk.all; clear hk hB))
    | (go_at_call 53; (refine (Hhfin.out _).mono ?_; rintro e w' ⟨rfl, hB⟩; have hk := HK.out.below hB; have HK := Lib.hid hk; obtain ⟨⟨x0, x1⟩, ⟨a0, a1, a2, a3⟩, ⟨q0, q1, q2, q3⟩, f0, f1, f2, f3⟩ := hk.all; obtain ⟨⟨z0, z1, z2, z3⟩, _⟩ := spc_row (spc_put hk.res A B P Q); have HBZ := Lib.hid (below_set4 hk.bel (Nat.le_succ w.heap.size) (.int .i64 A) (.int .i64 B) (.bool P) (.bool Q)); have Z := Lib.hid (And.intro z0 (And.intro z1 (And.intro z2 z3))); clear z0 z1 z2 z3; clear hk hB))
    | fail "none")
  obtain ⟨z0, z1, z2, z3⟩ := Z.out
  exact bodyPost_ret (v := .agg #[.int .i64 A, .int .i64 B, .bool P, .bool Q]) (by simp [results, Tryz.results23, go_sem, z0, z1, z2, z3]) rfl ⟨rfl, HBZ.out⟩
set_option maxRecDepth 100000 in
set_option maxHeartbeats 600000 in
theorem rswap_many_16_out1 (lo hi : Int) (p q : Bool) (E F A B : Int) (P Q : Bool) (hrd : ∀ w, Calls Tryz.prog 39 #[.agg #[.int .i64 lo, .int .i64 hi, .bool p, .bool q]] w (Ret w (.agg #[.int .i64 E, .int .i64 F]))) (h0 : decide (0 ≤ E) = true) (h1 : decide (F ≤ 65535) = false) (hsi : (∀ w, Calls Tryz.prog 52 #[.agg #[.int .i64 lo, .int .i64 hi, .bool p, .bool q]] w (Ret w (.bool false)))) (hfin : (∀ w, Calls Tryz.prog 53 #[.int .i64 0, .int .i64 65535] w (Ret w (.agg #[.int .i64 A, .int .i64 B, .bool P, .bool Q])))) (w : World) :
    Calls Tryz.prog 23 #[.int .i64 16, .bool false, .agg #[.int .i64 lo, .int .i64 hi, .bool p, .bool q]] w (Ret w (.agg #[.int .i64 A, .int .i64 B, .bool P, .bool Q])) := by
  have HRD := Lib.hid hrd
  have Hhsi := Lib.hid hsi
  have Hhfin := Lib.hid hfin
  clear hrd hsi hfin
  have r1 : Row ((w.alloc (.cells #[.int .i64 lo, .int .i64 hi, .bool p, .bool q] 23)).alloc (.cells #[.int .i64 0, .int .i64 0, .bool false, .bool false] 23)) w.heap.size 23 (spc lo hi p q) := (Row.made w (spc lo hi p q) 23).alloc _
  have r2 : Row ((w.alloc (.cells #[.int .i64 lo, .int .i64 hi, .bool p, .bool q] 23)).alloc (.cells #[.int .i64 0, .int .i64 0, .bool false, .bool false] 23)) (w.heap.size + 1) 23 (spc 0 0 false false) := row2 w _ (spc 0 0 false false) _
  have b3 : Below w.heap.size w ((w.alloc (.cells #[.int .i64 lo, .int .i64 hi, .bool p, .bool q] 23)).alloc (.cells #[.int .i64 0, .int .i64 0, .bool false, .bool false] 23)) := (below_map w _).alloc (by simp) _
  have HR := Lib.hid (And.intro r1 (And.intro r2 b3))
  clear r1 r2 b3
  go_enter Tryz.func23, Tryz.ntmps23
  go_upto_region 4 with (go_at_call 39; refine (HRD.out _).mono ?_; rintro e w1 ⟨rfl, hB⟩)
  have hk : SK w w1.heap.size 66 E F lo hi p q (w1.alloc (.cells #[.int .i64 E, .int .i64 F] 66)) :=
    ⟨(HR.out.1.below hB HR.out.1.lt).alloc _, (HR.out.2.1.below hB HR.out.2.1.lt).alloc _, Row.made w1 (edc E F) 66, (HR.out.2.2.trans (hB.mono HR.out.2.2.size)).trans ((below_map w1 _).mono (Nat.le_trans HR.out.2.2.size hB.size))⟩
  clear hB
  obtain ⟨b, hb⟩ : ∃ b, b = w1.heap.size := ⟨_, rfl⟩
  rw [← hb] at hk
  simp only [← hb]
  clear hb
  generalize World.alloc _ _ = wc at hk ⊢
  have HK := Lib.hid hk
  obtain ⟨⟨x0, x1⟩, ⟨a0, a1, a2, a3⟩, ⟨q0, q1, q2, q3⟩, f0, f1, f2, f3⟩ := hk.all
  clear hk HR
  go_wp2_with (first
    | (go_at_call 52; (refine (Hhsi.out _).mono ?_; rintro e w' ⟨rfl, hB⟩; have hk := HK.out.below hB; have HK := Lib.hid hk; obtain ⟨⟨x0, x1⟩, ⟨a0, a1, a2, a3⟩, ⟨q0, q1, q2, q3⟩, f0, f1, f2, f3⟩ := hk.all; clear hk hB))
    | (go_at_call 53; (refine (Hhfin.out _).mono ?_; rintro e w' ⟨rfl, hB⟩; have hk := HK.out.below hB; have HK := Lib.hid hk; obtain ⟨⟨x0, x1⟩, ⟨a0, a1, a2, a3⟩, ⟨q0, q1, q2, q3⟩, f0, f1, f2, f3⟩ := hk.all; obtain ⟨⟨z0, z1, z2, z3⟩, _⟩ := spc_row (spc_put hk.res A B P Q); have HBZ := Lib.hid (below_set4 hk.bel (Nat.le_succ w.heap.size) (.int .i64 A) (.int .i64 B) (.bool P) (.bool Q)); have Z := Lib.hid (And.intro z0 (And.intro z1 (And.intro z2 z3))); clear z0 z1 z2 z3; clear hk hB))
    | fail "none")
  obtain ⟨z0, z1, z2, z3⟩ := Z.out
  exact bodyPost_ret (v := .agg #[.int .i64 A, .int .i64 B, .bool P, .bool Q]) (by simp [results, Tryz.results23, go_sem, z0, z1, z2, z3]) rfl ⟨rfl, HBZ.out⟩
set_option maxRecDepth 100000 in
set_option maxHeartbeats 600000 in
theorem rswap_one_16_true (s : Int) (lo hi : Int) (p q : Bool) (E F A B : Int) (P Q : Bool) (hrd : ∀ w, Calls Tryz.prog 39 #[.agg #[.int .i64 lo, .int .i64 hi, .bool p, .bool q]] w (Ret w (.agg #[.int .i64 E, .int .i64 F]))) (hsi : (∀ w, Calls Tryz.prog 52 #[.agg #[.int .i64 lo, .int .i64 hi, .bool p, .bool q]] w (Ret w (.bool true)))) (hw : (∀ w, Calls Tryz.prog 27 #[.int .i64 16, .bool true, .int .i64 E] w (Ret w (.int .i64 s)))) (hfin : (∀ w, Calls Tryz.prog 53 #[.int .i64 s, .int .i64 s] w (Ret w (.agg #[.int .i64 A, .int .i64 B, .bool P, .bool Q])))) (w : World) :
    Calls Tryz.prog 23 #[.int .i64 16, .bool true, .agg #[.int .i64 lo, .int .i64 hi, .bool p, .bool q]] w (Ret w (.agg #[.int .i64 A, .int .i64 B, .bool P, .bool Q])) := by
  have HRD := Lib.hid hrd
  have Hhsi := Lib.hid hsi
  have Hhw := Lib.hid hw
  have Hhfin := Lib.hid hfin
  clear hrd hsi hw hfin
  have r1 : Row ((w.alloc (.cells #[.int .i64 lo, .int .i64 hi, .bool p, .bool q] 23)).alloc (.cells #[.int .i64 0, .int .i64 0, .bool false, .bool false] 23)) w.heap.size 23 (spc lo hi p q) := (Row.made w (spc lo hi p q) 23).alloc _
  have r2 : Row ((w.alloc (.cells #[.int .i64 lo, .int .i64 hi, .bool p, .bool q] 23)).alloc (.cells #[.int .i64 0, .int .i64 0, .bool false, .bool false] 23)) (w.heap.size + 1) 23 (spc 0 0 false false) := row2 w _ (spc 0 0 false false) _
  have b3 : Below w.heap.size w ((w.alloc (.cells #[.int .i64 lo, .int .i64 hi, .bool p, .bool q] 23)).alloc (.cells #[.int .i64 0, .int .i64 0, .bool false, .bool false] 23)) := (below_map w _).alloc (by simp) _
  have HR := Lib.hid (And.intro r1 (And.intro r2 b3))
  clear r1 r2 b3
  go_enter Tryz.func23, Tryz.ntmps23
  go_upto_region 4 with (go_at_call 39; refine (HRD.out _).mono ?_; rintro e w1 ⟨rfl, hB⟩)
  have hk : SK w w1.heap.size 66 E F lo hi p q (w1.alloc (.cells #[.int .i64 E, .int .i64 F] 66)) :=
    ⟨(HR.out.1.below hB HR.out.1.lt).alloc _, (HR.out.2.1.below hB HR.out.2.1.lt).alloc _, Row.made w1 (edc E F) 66, (HR.out.2.2.trans (hB.mono HR.out.2.2.size)).trans ((below_map w1 _).mono (Nat.le_trans HR.out.2.2.size hB.size))⟩
  clear hB
  obtain ⟨b, hb⟩ : ∃ b, b = w1.heap.size := ⟨_, rfl⟩
  rw [← hb] at hk
  simp only [← hb]
  clear hb
  generalize World.alloc _ _ = wc at hk ⊢
  have HK := Lib.hid hk
  obtain ⟨⟨x0, x1⟩, ⟨a0, a1, a2, a3⟩, ⟨q0, q1, q2, q3⟩, f0, f1, f2, f3⟩ := hk.all
  clear hk HR
  go_wp2_with (first
    | (go_at_call 52; (refine (Hhsi.out _).mono ?_; rintro e w' ⟨rfl, hB⟩; have hk := HK.out.below hB; have HK := Lib.hid hk; obtain ⟨⟨x0, x1⟩, ⟨a0, a1, a2, a3⟩, ⟨q0, q1, q2, q3⟩, f0, f1, f2, f3⟩ := hk.all; clear hk hB))
    | (go_at_call 27; (refine (Hhw.out _).mono ?_; rintro e w' ⟨rfl, hB⟩; have hk := HK.out.below hB; have HK := Lib.hid hk; obtain ⟨⟨x0, x1⟩, ⟨a0, a1, a2, a3⟩, ⟨q0, q1, q2, q3⟩, f0, f1, f2, f3⟩ := hk.all; clear hk hB))
    | (go_at_call 53; (refine (Hhfin.out _).mono ?_; rintro e w' ⟨rfl, hB⟩; have hk := HK.out.below hB; have HK := Lib.hid hk; obtain ⟨⟨x0, x1⟩, ⟨a0, a1, a2, a3⟩, ⟨q0, q1, q2, q3⟩, f0, f1, f2, f3⟩ := hk.all; obtain ⟨⟨z0, z1, z2, z3⟩, _⟩ := spc_row (spc_put hk.res A B P Q); have HBZ := Lib.hid (below_set4 hk.bel (Nat.le_succ w.heap.size) (.int .i64 A) (.int .i64 B) (.bool P) (.bool Q)); have Z := Lib.hid (And.intro z0 (And.intro z1 (And.intro z2 z3))); clear z0 z1 z2 z3; clear hk hB))
    | fail "none")
  obtain ⟨z0, z1, z2, z3⟩ := Z.out
  exact bodyPost_ret (v := .agg #[.int .i64 A, .int .i64 B, .bool P, .bool Q]) (by simp [results, Tryz.results23, go_sem, z0, z1, z2, z3]) rfl ⟨rfl, HBZ.out⟩
set_option maxRecDepth 100000 in
set_option maxHeartbeats 600000 in
theorem rswap_many_16_true (lo hi : Int) (p q : Bool) (E F A B : Int) (P Q : Bool) (hrd : ∀ w, Calls Tryz.prog 39 #[.agg #[.int .i64 lo, .int .i64 hi, .bool p, .bool q]] w (Ret w (.agg #[.int .i64 E, .int .i64 F]))) (hsi : (∀ w, Calls Tryz.prog 52 #[.agg #[.int .i64 lo, .int .i64 hi, .bool p, .bool q]] w (Ret w (.bool false)))) (hfin : (∀ w, Calls Tryz.prog 53 #[.int .i64 0, .int .i64 65535] w (Ret w (.agg #[.int .i64 A, .int .i64 B, .bool P, .bool Q])))) (w : World) :
    Calls Tryz.prog 23 #[.int .i64 16, .bool true, .agg #[.int .i64 lo, .int .i64 hi, .bool p, .bool q]] w (Ret w (.agg #[.int .i64 A, .int .i64 B, .bool P, .bool Q])) := by
  have HRD := Lib.hid hrd
  have Hhsi := Lib.hid hsi
  have Hhfin := Lib.hid hfin
  clear hrd hsi hfin
  have r1 : Row ((w.alloc (.cells #[.int .i64 lo, .int .i64 hi, .bool p, .bool q] 23)).alloc (.cells #[.int .i64 0, .int .i64 0, .bool false, .bool false] 23)) w.heap.size 23 (spc lo hi p q) := (Row.made w (spc lo hi p q) 23).alloc _
  have r2 : Row ((w.alloc (.cells #[.int .i64 lo, .int .i64 hi, .bool p, .bool q] 23)).alloc (.cells #[.int .i64 0, .int .i64 0, .bool false, .bool false] 23)) (w.heap.size + 1) 23 (spc 0 0 false false) := row2 w _ (spc 0 0 false false) _
  have b3 : Below w.heap.size w ((w.alloc (.cells #[.int .i64 lo, .int .i64 hi, .bool p, .bool q] 23)).alloc (.cells #[.int .i64 0, .int .i64 0, .bool false, .bool false] 23)) := (below_map w _).alloc (by simp) _
  have HR := Lib.hid (And.intro r1 (And.intro r2 b3))
  clear r1 r2 b3
  go_enter Tryz.func23, Tryz.ntmps23
  go_upto_region 4 with (go_at_call 39; refine (HRD.out _).mono ?_; rintro e w1 ⟨rfl, hB⟩)
  have hk : SK w w1.heap.size 66 E F lo hi p q (w1.alloc (.cells #[.int .i64 E, .int .i64 F] 66)) :=
    ⟨(HR.out.1.below hB HR.out.1.lt).alloc _, (HR.out.2.1.below hB HR.out.2.1.lt).alloc _, Row.made w1 (edc E F) 66, (HR.out.2.2.trans (hB.mono HR.out.2.2.size)).trans ((below_map w1 _).mono (Nat.le_trans HR.out.2.2.size hB.size))⟩
  clear hB
  obtain ⟨b, hb⟩ : ∃ b, b = w1.heap.size := ⟨_, rfl⟩
  rw [← hb] at hk
  simp only [← hb]
  clear hb
  generalize World.alloc _ _ = wc at hk ⊢
  have HK := Lib.hid hk
  obtain ⟨⟨x0, x1⟩, ⟨a0, a1, a2, a3⟩, ⟨q0, q1, q2, q3⟩, f0, f1, f2, f3⟩ := hk.all
  clear hk HR
  go_wp2_with (first
    | (go_at_call 52; (refine (Hhsi.out _).mono ?_; rintro e w' ⟨rfl, hB⟩; have hk := HK.out.below hB; have HK := Lib.hid hk; obtain ⟨⟨x0, x1⟩, ⟨a0, a1, a2, a3⟩, ⟨q0, q1, q2, q3⟩, f0, f1, f2, f3⟩ := hk.all; clear hk hB))
    | (go_at_call 53; (refine (Hhfin.out _).mono ?_; rintro e w' ⟨rfl, hB⟩; have hk := HK.out.below hB; have HK := Lib.hid hk; obtain ⟨⟨x0, x1⟩, ⟨a0, a1, a2, a3⟩, ⟨q0, q1, q2, q3⟩, f0, f1, f2, f3⟩ := hk.all; obtain ⟨⟨z0, z1, z2, z3⟩, _⟩ := spc_row (spc_put hk.res A B P Q); have HBZ := Lib.hid (below_set4 hk.bel (Nat.le_succ w.heap.size) (.int .i64 A) (.int .i64 B) (.bool P) (.bool Q)); have Z := Lib.hid (And.intro z0 (And.intro z1 (And.intro z2 z3))); clear z0 z1 z2 z3; clear hk hB))
    | fail "none")
  obtain ⟨z0, z1, z2, z3⟩ := Z.out
  exact bodyPost_ret (v := .agg #[.int .i64 A, .int .i64 B, .bool P, .bool Q]) (by simp [results, Tryz.results23, go_sem, z0, z1, z2, z3]) rfl ⟨rfl, HBZ.out⟩
set_option maxRecDepth 100000 in
set_option maxHeartbeats 600000 in
theorem rswap_one_32_false (s : Int) (lo hi : Int) (p q : Bool) (E F A B : Int) (P Q : Bool) (hrd : ∀ w, Calls Tryz.prog 39 #[.agg #[.int .i64 lo, .int .i64 hi, .bool p, .bool q]] w (Ret w (.agg #[.int .i64 E, .int .i64 F]))) (hsi : (∀ w, Calls Tryz.prog 52 #[.agg #[.int .i64 lo, .int .i64 hi, .bool p, .bool q]] w (Ret w (.bool true)))) (hw : (∀ w, Calls Tryz.prog 27 #[.int .i64 32, .bool false, .int .i64 E] w (Ret w (.int .i64 s)))) (hfin : (∀ w, Calls Tryz.prog 53 #[.int .i64 s, .int .i64 s] w (Ret w (.agg #[.int .i64 A, .int .i64 B, .bool P, .bool Q])))) (w : World) :
    Calls Tryz.prog 23 #[.int .i64 32, .bool false, .agg #[.int .i64 lo, .int .i64 hi, .bool p, .bool q]] w (Ret w (.agg #[.int .i64 A, .int .i64 B, .bool P, .bool Q])) := by
  have HRD := Lib.hid hrd
  have Hhsi := Lib.hid hsi
  have Hhw := Lib.hid hw
  have Hhfin := Lib.hid hfin
  clear hrd hsi hw hfin
  have r1 : Row ((w.alloc (.cells #[.int .i64 lo, .int .i64 hi, .bool p, .bool q] 23)).alloc (.cells #[.int .i64 0, .int .i64 0, .bool false, .bool false] 23)) w.heap.size 23 (spc lo hi p q) := (Row.made w (spc lo hi p q) 23).alloc _
  have r2 : Row ((w.alloc (.cells #[.int .i64 lo, .int .i64 hi, .bool p, .bool q] 23)).alloc (.cells #[.int .i64 0, .int .i64 0, .bool false, .bool false] 23)) (w.heap.size + 1) 23 (spc 0 0 false false) := row2 w _ (spc 0 0 false false) _
  have b3 : Below w.heap.size w ((w.alloc (.cells #[.int .i64 lo, .int .i64 hi, .bool p, .bool q] 23)).alloc (.cells #[.int .i64 0, .int .i64 0, .bool false, .bool false] 23)) := (below_map w _).alloc (by simp) _
  have HR := Lib.hid (And.intro r1 (And.intro r2 b3))
  clear r1 r2 b3
  go_enter Tryz.func23, Tryz.ntmps23
  go_upto_region 4 with (go_at_call 39; refine (HRD.out _).mono ?_; rintro e w1 ⟨rfl, hB⟩)
  have hk : SK w w1.heap.size 66 E F lo hi p q (w1.alloc (.cells #[.int .i64 E, .int .i64 F] 66)) :=
    ⟨(HR.out.1.below hB HR.out.1.lt).alloc _, (HR.out.2.1.below hB HR.out.2.1.lt).alloc _, Row.made w1 (edc E F) 66, (HR.out.2.2.trans (hB.mono HR.out.2.2.size)).trans ((below_map w1 _).mono (Nat.le_trans HR.out.2.2.size hB.size))⟩
  clear hB
  obtain ⟨b, hb⟩ : ∃ b, b = w1.heap.size := ⟨_, rfl⟩
  rw [← hb] at hk
  simp only [← hb]
  clear hb
  generalize World.alloc _ _ = wc at hk ⊢
  have HK := Lib.hid hk
  obtain ⟨⟨x0, x1⟩, ⟨a0, a1, a2, a3⟩, ⟨q0, q1, q2, q3⟩, f0, f1, f2, f3⟩ := hk.all
  clear hk HR
  go_wp2_with (first
    | (go_at_call 52; (refine (Hhsi.out _).mono ?_; rintro e w' ⟨rfl, hB⟩; have hk := HK.out.below hB; have HK := Lib.hid hk; obtain ⟨⟨x0, x1⟩, ⟨a0, a1, a2, a3⟩, ⟨q0, q1, q2, q3⟩, f0, f1, f2, f3⟩ := hk.all; clear hk hB))
    | (go_at_call 27; (refine (Hhw.out _).mono ?_; rintro e w' ⟨rfl, hB⟩; have hk := HK.out.below hB; have HK := Lib.hid hk; obtain ⟨⟨x0, x1⟩, ⟨a0, a1, a2, a3⟩, ⟨q0, q1, q2, q3⟩, f0, f1, f2, f3⟩ := hk.all; clear hk hB))
    | (go_at_call 53; (refine (Hhfin.out _).mono ?_; rintro e w' ⟨rfl, hB⟩; have hk := HK.out.below hB; have HK := Lib.hid hk; obtain ⟨⟨x0, x1⟩, ⟨a0, a1, a2, a3⟩, ⟨q0, q1, q2, q3⟩, f0, f1, f2, f3⟩ := hk.all; obtain ⟨⟨z0, z1, z2, z3⟩, _⟩ := spc_row (spc_put hk.res A B P Q); have HBZ := Lib.hid (below_set4 hk.bel (Nat.le_succ w.heap.size) (.int .i64 A) (.int .i64 B) (.bool P) (.bool Q)); have Z := Lib.hid (And.intro z0 (And.intro z1 (And.intro z2 z3))); clear z0 z1 z2 z3; clear hk hB))
    | fail "none")
  obtain ⟨z0, z1, z2, z3⟩ := Z.out
  exact bodyPost_ret (v := .agg #[.int .i64 A, .int .i64 B, .bool P, .bool Q]) (by simp [results, Tryz.results23, go_sem, z0, z1, z2, z3]) rfl ⟨rfl, HBZ.out⟩
set_option maxRecDepth 100000 in
set_option maxHeartbeats 600000 in
theorem rswap_many_32_false (lo hi : Int) (p q : Bool) (E F A B : Int) (P Q : Bool) (hrd : ∀ w, Calls Tryz.prog 39 #[.agg #[.int .i64 lo, .int .i64 hi, .bool p, .bool q]] w (Ret w (.agg #[.int .i64 E, .int .i64 F]))) (hsi : (∀ w, Calls Tryz.prog 52 #[.agg #[.int .i64 lo, .int .i64 hi, .bool p, .bool q]] w (Ret w (.bool false)))) (hfin : (∀ w, Calls Tryz.prog 55 #[.agg #[.int .i64 lo, .int .i64 hi, .bool p, .bool q]] w (Ret w (.agg #[.int .i64 A, .int .i64 B, .bool P, .bool Q])))) (w : World) :
    Calls Tryz.prog 23 #[.int .i64 32, .bool false, .agg #[.int .i64 lo, .int .i64 hi, .bool p, .bool q]] w (Ret w (.agg #[.int .i64 A, .int .i64 B, .bool P, .bool Q])) := by
  have HRD := Lib.hid hrd
  have Hhsi := Lib.hid hsi
  have Hhfin := Lib.hid hfin
  clear hrd hsi hfin
  have r1 : Row ((w.alloc (.cells #[.int .i64 lo, .int .i64 hi, .bool p, .bool q] 23)).alloc (.cells #[.int .i64 0, .int .i64 0, .bool false, .bool false] 23)) w.heap.size 23 (spc lo hi p q) := (Row.made w (spc lo hi p q) 23).alloc _
  have r2 : Row ((w.alloc (.cells #[.int .i64 lo, .int .i64 hi, .bool p, .bool q] 23)).alloc (.cells #[.int .i64 0, .int .i64 0, .bool false, .bool false] 23)) (w.heap.size + 1) 23 (spc 0 0 false false) := row2 w _ (spc 0 0 false false) _
  have b3 : Below w.heap.size w ((w.alloc (.cells #[.int .i64 lo, .int .i64 hi, .bool p, .bool q] 23)).alloc (.cells #[.int .i64 0, .int .i64 0, .bool false, .bool false] 23)) := (below_map w _).alloc (by simp) _
  have HR := Lib.hid (And.intro r1 (And.intro r2 b3))
  clear r1 r2 b3
  go_enter Tryz.func23, Tryz.ntmps23
  go_upto_region 4 with (go_at_call 39; refine (HRD.out _).mono ?_; rintro e w1 ⟨rfl, hB⟩)
  have hk : SK w w1.heap.size 66 E F lo hi p q (w1.alloc (.cells #[.int .i64 E, .int .i64 F] 66)) :=
    ⟨(HR.out.1.below hB HR.out.1.lt).alloc _, (HR.out.2.1.below hB HR.out.2.1.lt).alloc _, Row.made w1 (edc E F) 66, (HR.out.2.2.trans (hB.mono HR.out.2.2.size)).trans ((below_map w1 _).mono (Nat.le_trans HR.out.2.2.size hB.size))⟩
  clear hB
  obtain ⟨b, hb⟩ : ∃ b, b = w1.heap.size := ⟨_, rfl⟩
  rw [← hb] at hk
  simp only [← hb]
  clear hb
  generalize World.alloc _ _ = wc at hk ⊢
  have HK := Lib.hid hk
  obtain ⟨⟨x0, x1⟩, ⟨a0, a1, a2, a3⟩, ⟨q0, q1, q2, q3⟩, f0, f1, f2, f3⟩ := hk.all
  clear hk HR
  go_wp2_with (first
    | (go_at_call 52; (refine (Hhsi.out _).mono ?_; rintro e w' ⟨rfl, hB⟩; have hk := HK.out.below hB; have HK := Lib.hid hk; obtain ⟨⟨x0, x1⟩, ⟨a0, a1, a2, a3⟩, ⟨q0, q1, q2, q3⟩, f0, f1, f2, f3⟩ := hk.all; clear hk hB))
    | (go_at_call 55; (refine (Hhfin.out _).mono ?_; rintro e w' ⟨rfl, hB⟩; have hk := HK.out.below hB; have HK := Lib.hid hk; obtain ⟨⟨x0, x1⟩, ⟨a0, a1, a2, a3⟩, ⟨q0, q1, q2, q3⟩, f0, f1, f2, f3⟩ := hk.all; obtain ⟨⟨z0, z1, z2, z3⟩, _⟩ := spc_row (spc_put hk.res A B P Q); have HBZ := Lib.hid (below_set4 hk.bel (Nat.le_succ w.heap.size) (.int .i64 A) (.int .i64 B) (.bool P) (.bool Q)); have Z := Lib.hid (And.intro z0 (And.intro z1 (And.intro z2 z3))); clear z0 z1 z2 z3; clear hk hB))
    | fail "none")
  obtain ⟨z0, z1, z2, z3⟩ := Z.out
  exact bodyPost_ret (v := .agg #[.int .i64 A, .int .i64 B, .bool P, .bool Q]) (by simp [results, Tryz.results23, go_sem, z0, z1, z2, z3]) rfl ⟨rfl, HBZ.out⟩
set_option maxRecDepth 100000 in
set_option maxHeartbeats 600000 in
theorem rswap_one_32_true (s : Int) (lo hi : Int) (p q : Bool) (E F A B : Int) (P Q : Bool) (hrd : ∀ w, Calls Tryz.prog 39 #[.agg #[.int .i64 lo, .int .i64 hi, .bool p, .bool q]] w (Ret w (.agg #[.int .i64 E, .int .i64 F]))) (hsi : (∀ w, Calls Tryz.prog 52 #[.agg #[.int .i64 lo, .int .i64 hi, .bool p, .bool q]] w (Ret w (.bool true)))) (hw : (∀ w, Calls Tryz.prog 27 #[.int .i64 32, .bool true, .int .i64 E] w (Ret w (.int .i64 s)))) (hfin : (∀ w, Calls Tryz.prog 53 #[.int .i64 s, .int .i64 s] w (Ret w (.agg #[.int .i64 A, .int .i64 B, .bool P, .bool Q])))) (w : World) :
    Calls Tryz.prog 23 #[.int .i64 32, .bool true, .agg #[.int .i64 lo, .int .i64 hi, .bool p, .bool q]] w (Ret w (.agg #[.int .i64 A, .int .i64 B, .bool P, .bool Q])) := by
  have HRD := Lib.hid hrd
  have Hhsi := Lib.hid hsi
  have Hhw := Lib.hid hw
  have Hhfin := Lib.hid hfin
  clear hrd hsi hw hfin
  have r1 : Row ((w.alloc (.cells #[.int .i64 lo, .int .i64 hi, .bool p, .bool q] 23)).alloc (.cells #[.int .i64 0, .int .i64 0, .bool false, .bool false] 23)) w.heap.size 23 (spc lo hi p q) := (Row.made w (spc lo hi p q) 23).alloc _
  have r2 : Row ((w.alloc (.cells #[.int .i64 lo, .int .i64 hi, .bool p, .bool q] 23)).alloc (.cells #[.int .i64 0, .int .i64 0, .bool false, .bool false] 23)) (w.heap.size + 1) 23 (spc 0 0 false false) := row2 w _ (spc 0 0 false false) _
  have b3 : Below w.heap.size w ((w.alloc (.cells #[.int .i64 lo, .int .i64 hi, .bool p, .bool q] 23)).alloc (.cells #[.int .i64 0, .int .i64 0, .bool false, .bool false] 23)) := (below_map w _).alloc (by simp) _
  have HR := Lib.hid (And.intro r1 (And.intro r2 b3))
  clear r1 r2 b3
  go_enter Tryz.func23, Tryz.ntmps23
  go_upto_region 4 with (go_at_call 39; refine (HRD.out _).mono ?_; rintro e w1 ⟨rfl, hB⟩)
  have hk : SK w w1.heap.size 66 E F lo hi p q (w1.alloc (.cells #[.int .i64 E, .int .i64 F] 66)) :=
    ⟨(HR.out.1.below hB HR.out.1.lt).alloc _, (HR.out.2.1.below hB HR.out.2.1.lt).alloc _, Row.made w1 (edc E F) 66, (HR.out.2.2.trans (hB.mono HR.out.2.2.size)).trans ((below_map w1 _).mono (Nat.le_trans HR.out.2.2.size hB.size))⟩
  clear hB
  obtain ⟨b, hb⟩ : ∃ b, b = w1.heap.size := ⟨_, rfl⟩
  rw [← hb] at hk
  simp only [← hb]
  clear hb
  generalize World.alloc _ _ = wc at hk ⊢
  have HK := Lib.hid hk
  obtain ⟨⟨x0, x1⟩, ⟨a0, a1, a2, a3⟩, ⟨q0, q1, q2, q3⟩, f0, f1, f2, f3⟩ := hk.all
  clear hk HR
  go_wp2_with (first
    | (go_at_call 52; (refine (Hhsi.out _).mono ?_; rintro e w' ⟨rfl, hB⟩; have hk := HK.out.below hB; have HK := Lib.hid hk; obtain ⟨⟨x0, x1⟩, ⟨a0, a1, a2, a3⟩, ⟨q0, q1, q2, q3⟩, f0, f1, f2, f3⟩ := hk.all; clear hk hB))
    | (go_at_call 27; (refine (Hhw.out _).mono ?_; rintro e w' ⟨rfl, hB⟩; have hk := HK.out.below hB; have HK := Lib.hid hk; obtain ⟨⟨x0, x1⟩, ⟨a0, a1, a2, a3⟩, ⟨q0, q1, q2, q3⟩, f0, f1, f2, f3⟩ := hk.all; clear hk hB))
    | (go_at_call 53; (refine (Hhfin.out _).mono ?_; rintro e w' ⟨rfl, hB⟩; have hk := HK.out.below hB; have HK := Lib.hid hk; obtain ⟨⟨x0, x1⟩, ⟨a0, a1, a2, a3⟩, ⟨q0, q1, q2, q3⟩, f0, f1, f2, f3⟩ := hk.all; obtain ⟨⟨z0, z1, z2, z3⟩, _⟩ := spc_row (spc_put hk.res A B P Q); have HBZ := Lib.hid (below_set4 hk.bel (Nat.le_succ w.heap.size) (.int .i64 A) (.int .i64 B) (.bool P) (.bool Q)); have Z := Lib.hid (And.intro z0 (And.intro z1 (And.intro z2 z3))); clear z0 z1 z2 z3; clear hk hB))
    | fail "none")
  obtain ⟨z0, z1, z2, z3⟩ := Z.out
  exact bodyPost_ret (v := .agg #[.int .i64 A, .int .i64 B, .bool P, .bool Q]) (by simp [results, Tryz.results23, go_sem, z0, z1, z2, z3]) rfl ⟨rfl, HBZ.out⟩
set_option maxRecDepth 100000 in
set_option maxHeartbeats 600000 in
theorem rswap_many_32_true (lo hi : Int) (p q : Bool) (E F A B : Int) (P Q : Bool) (hrd : ∀ w, Calls Tryz.prog 39 #[.agg #[.int .i64 lo, .int .i64 hi, .bool p, .bool q]] w (Ret w (.agg #[.int .i64 E, .int .i64 F]))) (hsi : (∀ w, Calls Tryz.prog 52 #[.agg #[.int .i64 lo, .int .i64 hi, .bool p, .bool q]] w (Ret w (.bool false)))) (hfin : (∀ w, Calls Tryz.prog 53 #[.int .i64 0, .int .i64 4294967295] w (Ret w (.agg #[.int .i64 A, .int .i64 B, .bool P, .bool Q])))) (w : World) :
    Calls Tryz.prog 23 #[.int .i64 32, .bool true, .agg #[.int .i64 lo, .int .i64 hi, .bool p, .bool q]] w (Ret w (.agg #[.int .i64 A, .int .i64 B, .bool P, .bool Q])) := by
  have HRD := Lib.hid hrd
  have Hhsi := Lib.hid hsi
  have Hhfin := Lib.hid hfin
  clear hrd hsi hfin
  have r1 : Row ((w.alloc (.cells #[.int .i64 lo, .int .i64 hi, .bool p, .bool q] 23)).alloc (.cells #[.int .i64 0, .int .i64 0, .bool false, .bool false] 23)) w.heap.size 23 (spc lo hi p q) := (Row.made w (spc lo hi p q) 23).alloc _
  have r2 : Row ((w.alloc (.cells #[.int .i64 lo, .int .i64 hi, .bool p, .bool q] 23)).alloc (.cells #[.int .i64 0, .int .i64 0, .bool false, .bool false] 23)) (w.heap.size + 1) 23 (spc 0 0 false false) := row2 w _ (spc 0 0 false false) _
  have b3 : Below w.heap.size w ((w.alloc (.cells #[.int .i64 lo, .int .i64 hi, .bool p, .bool q] 23)).alloc (.cells #[.int .i64 0, .int .i64 0, .bool false, .bool false] 23)) := (below_map w _).alloc (by simp) _
  have HR := Lib.hid (And.intro r1 (And.intro r2 b3))
  clear r1 r2 b3
  go_enter Tryz.func23, Tryz.ntmps23
  go_upto_region 4 with (go_at_call 39; refine (HRD.out _).mono ?_; rintro e w1 ⟨rfl, hB⟩)
  have hk : SK w w1.heap.size 66 E F lo hi p q (w1.alloc (.cells #[.int .i64 E, .int .i64 F] 66)) :=
    ⟨(HR.out.1.below hB HR.out.1.lt).alloc _, (HR.out.2.1.below hB HR.out.2.1.lt).alloc _, Row.made w1 (edc E F) 66, (HR.out.2.2.trans (hB.mono HR.out.2.2.size)).trans ((below_map w1 _).mono (Nat.le_trans HR.out.2.2.size hB.size))⟩
  clear hB
  obtain ⟨b, hb⟩ : ∃ b, b = w1.heap.size := ⟨_, rfl⟩
  rw [← hb] at hk
  simp only [← hb]
  clear hb
  generalize World.alloc _ _ = wc at hk ⊢
  have HK := Lib.hid hk
  obtain ⟨⟨x0, x1⟩, ⟨a0, a1, a2, a3⟩, ⟨q0, q1, q2, q3⟩, f0, f1, f2, f3⟩ := hk.all
  clear hk HR
  go_wp2_with (first
    | (go_at_call 52; (refine (Hhsi.out _).mono ?_; rintro e w' ⟨rfl, hB⟩; have hk := HK.out.below hB; have HK := Lib.hid hk; obtain ⟨⟨x0, x1⟩, ⟨a0, a1, a2, a3⟩, ⟨q0, q1, q2, q3⟩, f0, f1, f2, f3⟩ := hk.all; clear hk hB))
    | (go_at_call 53; (refine (Hhfin.out _).mono ?_; rintro e w' ⟨rfl, hB⟩; have hk := HK.out.below hB; have HK := Lib.hid hk; obtain ⟨⟨x0, x1⟩, ⟨a0, a1, a2, a3⟩, ⟨q0, q1, q2, q3⟩, f0, f1, f2, f3⟩ := hk.all; obtain ⟨⟨z0, z1, z2, z3⟩, _⟩ := spc_row (spc_put hk.res A B P Q); have HBZ := Lib.hid (below_set4 hk.bel (Nat.le_succ w.heap.size) (.int .i64 A) (.int .i64 B) (.bool P) (.bool Q)); have Z := Lib.hid (And.intro z0 (And.intro z1 (And.intro z2 z3))); clear z0 z1 z2 z3; clear hk hB))
    | fail "none")
  obtain ⟨z0, z1, z2, z3⟩ := Z.out
  exact bodyPost_ret (v := .agg #[.int .i64 A, .int .i64 B, .bool P, .bool Q]) (by simp [results, Tryz.results23, go_sem, z0, z1, z2, z3]) rfl ⟨rfl, HBZ.out⟩
set_option maxRecDepth 100000 in
set_option maxHeartbeats 600000 in
theorem rswap_one_64_false (s : Int) (lo hi : Int) (p q : Bool) (E F A B : Int) (P Q : Bool) (hrd : ∀ w, Calls Tryz.prog 39 #[.agg #[.int .i64 lo, .int .i64 hi, .bool p, .bool q]] w (Ret w (.agg #[.int .i64 E, .int .i64 F]))) (hsi : (∀ w, Calls Tryz.prog 52 #[.agg #[.int .i64 lo, .int .i64 hi, .bool p, .bool q]] w (Ret w (.bool true)))) (hw : (∀ w, Calls Tryz.prog 27 #[.int .i64 64, .bool false, .int .i64 E] w (Ret w (.int .i64 s)))) (hfin : (∀ w, Calls Tryz.prog 53 #[.int .i64 s, .int .i64 s] w (Ret w (.agg #[.int .i64 A, .int .i64 B, .bool P, .bool Q])))) (w : World) :
    Calls Tryz.prog 23 #[.int .i64 64, .bool false, .agg #[.int .i64 lo, .int .i64 hi, .bool p, .bool q]] w (Ret w (.agg #[.int .i64 A, .int .i64 B, .bool P, .bool Q])) := by
  have HRD := Lib.hid hrd
  have Hhsi := Lib.hid hsi
  have Hhw := Lib.hid hw
  have Hhfin := Lib.hid hfin
  clear hrd hsi hw hfin
  have r1 : Row ((w.alloc (.cells #[.int .i64 lo, .int .i64 hi, .bool p, .bool q] 23)).alloc (.cells #[.int .i64 0, .int .i64 0, .bool false, .bool false] 23)) w.heap.size 23 (spc lo hi p q) := (Row.made w (spc lo hi p q) 23).alloc _
  have r2 : Row ((w.alloc (.cells #[.int .i64 lo, .int .i64 hi, .bool p, .bool q] 23)).alloc (.cells #[.int .i64 0, .int .i64 0, .bool false, .bool false] 23)) (w.heap.size + 1) 23 (spc 0 0 false false) := row2 w _ (spc 0 0 false false) _
  have b3 : Below w.heap.size w ((w.alloc (.cells #[.int .i64 lo, .int .i64 hi, .bool p, .bool q] 23)).alloc (.cells #[.int .i64 0, .int .i64 0, .bool false, .bool false] 23)) := (below_map w _).alloc (by simp) _
  have HR := Lib.hid (And.intro r1 (And.intro r2 b3))
  clear r1 r2 b3
  go_enter Tryz.func23, Tryz.ntmps23
  go_upto_region 4 with (go_at_call 39; refine (HRD.out _).mono ?_; rintro e w1 ⟨rfl, hB⟩)
  have hk : SK w w1.heap.size 66 E F lo hi p q (w1.alloc (.cells #[.int .i64 E, .int .i64 F] 66)) :=
    ⟨(HR.out.1.below hB HR.out.1.lt).alloc _, (HR.out.2.1.below hB HR.out.2.1.lt).alloc _, Row.made w1 (edc E F) 66, (HR.out.2.2.trans (hB.mono HR.out.2.2.size)).trans ((below_map w1 _).mono (Nat.le_trans HR.out.2.2.size hB.size))⟩
  clear hB
  obtain ⟨b, hb⟩ : ∃ b, b = w1.heap.size := ⟨_, rfl⟩
  rw [← hb] at hk
  simp only [← hb]
  clear hb
  generalize World.alloc _ _ = wc at hk ⊢
  have HK := Lib.hid hk
  obtain ⟨⟨x0, x1⟩, ⟨a0, a1, a2, a3⟩, ⟨q0, q1, q2, q3⟩, f0, f1, f2, f3⟩ := hk.all
  clear hk HR
  go_wp2_with (first
    | (go_at_call 52; (refine (Hhsi.out _).mono ?_; rintro e w' ⟨rfl, hB⟩; have hk := HK.out.below hB; have HK := Lib.hid hk; obtain ⟨⟨x0, x1⟩, ⟨a0, a1, a2, a3⟩, ⟨q0, q1, q2, q3⟩, f0, f1, f2, f3⟩ := hk.all; clear hk hB))
    | (go_at_call 27; (refine (Hhw.out _).mono ?_; rintro e w' ⟨rfl, hB⟩; have hk := HK.out.below hB; have HK := Lib.hid hk; obtain ⟨⟨x0, x1⟩, ⟨a0, a1, a2, a3⟩, ⟨q0, q1, q2, q3⟩, f0, f1, f2, f3⟩ := hk.all; clear hk hB))
    | (go_at_call 53; (refine (Hhfin.out _).mono ?_; rintro e w' ⟨rfl, hB⟩; have hk := HK.out.below hB; have HK := Lib.hid hk; obtain ⟨⟨x0, x1⟩, ⟨a0, a1, a2, a3⟩, ⟨q0, q1, q2, q3⟩, f0, f1, f2, f3⟩ := hk.all; obtain ⟨⟨z0, z1, z2, z3⟩, _⟩ := spc_row (spc_put hk.res A B P Q); have HBZ := Lib.hid (below_set4 hk.bel (Nat.le_succ w.heap.size) (.int .i64 A) (.int .i64 B) (.bool P) (.bool Q)); have Z := Lib.hid (And.intro z0 (And.intro z1 (And.intro z2 z3))); clear z0 z1 z2 z3; clear hk hB))
    | fail "none")
  obtain ⟨z0, z1, z2, z3⟩ := Z.out
  exact bodyPost_ret (v := .agg #[.int .i64 A, .int .i64 B, .bool P, .bool Q]) (by simp [results, Tryz.results23, go_sem, z0, z1, z2, z3]) rfl ⟨rfl, HBZ.out⟩
set_option maxRecDepth 100000 in
set_option maxHeartbeats 600000 in
theorem rswap_many_64_false (lo hi : Int) (p q : Bool) (E F A B : Int) (P Q : Bool) (hrd : ∀ w, Calls Tryz.prog 39 #[.agg #[.int .i64 lo, .int .i64 hi, .bool p, .bool q]] w (Ret w (.agg #[.int .i64 E, .int .i64 F]))) (hsi : (∀ w, Calls Tryz.prog 52 #[.agg #[.int .i64 lo, .int .i64 hi, .bool p, .bool q]] w (Ret w (.bool false)))) (hfin : (∀ w, Calls Tryz.prog 54 #[.agg #[.int .i64 lo, .int .i64 hi, .bool p, .bool q]] w (Ret w (.agg #[.int .i64 A, .int .i64 B, .bool P, .bool Q])))) (w : World) :
    Calls Tryz.prog 23 #[.int .i64 64, .bool false, .agg #[.int .i64 lo, .int .i64 hi, .bool p, .bool q]] w (Ret w (.agg #[.int .i64 A, .int .i64 B, .bool P, .bool Q])) := by
  have HRD := Lib.hid hrd
  have Hhsi := Lib.hid hsi
  have Hhfin := Lib.hid hfin
  clear hrd hsi hfin
  have r1 : Row ((w.alloc (.cells #[.int .i64 lo, .int .i64 hi, .bool p, .bool q] 23)).alloc (.cells #[.int .i64 0, .int .i64 0, .bool false, .bool false] 23)) w.heap.size 23 (spc lo hi p q) := (Row.made w (spc lo hi p q) 23).alloc _
  have r2 : Row ((w.alloc (.cells #[.int .i64 lo, .int .i64 hi, .bool p, .bool q] 23)).alloc (.cells #[.int .i64 0, .int .i64 0, .bool false, .bool false] 23)) (w.heap.size + 1) 23 (spc 0 0 false false) := row2 w _ (spc 0 0 false false) _
  have b3 : Below w.heap.size w ((w.alloc (.cells #[.int .i64 lo, .int .i64 hi, .bool p, .bool q] 23)).alloc (.cells #[.int .i64 0, .int .i64 0, .bool false, .bool false] 23)) := (below_map w _).alloc (by simp) _
  have HR := Lib.hid (And.intro r1 (And.intro r2 b3))
  clear r1 r2 b3
  go_enter Tryz.func23, Tryz.ntmps23
  go_upto_region 4 with (go_at_call 39; refine (HRD.out _).mono ?_; rintro e w1 ⟨rfl, hB⟩)
  have hk : SK w w1.heap.size 66 E F lo hi p q (w1.alloc (.cells #[.int .i64 E, .int .i64 F] 66)) :=
    ⟨(HR.out.1.below hB HR.out.1.lt).alloc _, (HR.out.2.1.below hB HR.out.2.1.lt).alloc _, Row.made w1 (edc E F) 66, (HR.out.2.2.trans (hB.mono HR.out.2.2.size)).trans ((below_map w1 _).mono (Nat.le_trans HR.out.2.2.size hB.size))⟩
  clear hB
  obtain ⟨b, hb⟩ : ∃ b, b = w1.heap.size := ⟨_, rfl⟩
  rw [← hb] at hk
  simp only [← hb]
  clear hb
  generalize World.alloc _ _ = wc at hk ⊢
  have HK := Lib.hid hk
  obtain ⟨⟨x0, x1⟩, ⟨a0, a1, a2, a3⟩, ⟨q0, q1, q2, q3⟩, f0, f1, f2, f3⟩ := hk.all
  clear hk HR
  go_wp2_with (first
    | (go_at_call 52; (refine (Hhsi.out _).mono ?_; rintro e w' ⟨rfl, hB⟩; have hk := HK.out.below hB; have HK := Lib.hid hk; obtain ⟨⟨x0, x1⟩, ⟨a0, a1, a2, a3⟩, ⟨q0, q1, q2, q3⟩, f0, f1, f2, f3⟩ := hk.all; clear hk hB))
    | (go_at_call 54; (refine (Hhfin.out _).mono ?_; rintro e w' ⟨rfl, hB⟩; have hk := HK.out.below hB; have HK := Lib.hid hk; obtain ⟨⟨x0, x1⟩, ⟨a0, a1, a2, a3⟩, ⟨q0, q1, q2, q3⟩, f0, f1, f2, f3⟩ := hk.all; obtain ⟨⟨z0, z1, z2, z3⟩, _⟩ := spc_row (spc_put hk.res A B P Q); have HBZ := Lib.hid (below_set4 hk.bel (Nat.le_succ w.heap.size) (.int .i64 A) (.int .i64 B) (.bool P) (.bool Q)); have Z := Lib.hid (And.intro z0 (And.intro z1 (And.intro z2 z3))); clear z0 z1 z2 z3; clear hk hB))
    | fail "none")
  obtain ⟨z0, z1, z2, z3⟩ := Z.out
  exact bodyPost_ret (v := .agg #[.int .i64 A, .int .i64 B, .bool P, .bool Q]) (by simp [results, Tryz.results23, go_sem, z0, z1, z2, z3]) rfl ⟨rfl, HBZ.out⟩
set_option maxRecDepth 100000 in
set_option maxHeartbeats 600000 in
theorem rswap_one_64_true (s : Int) (lo hi : Int) (p q : Bool) (E F A B : Int) (P Q : Bool) (hrd : ∀ w, Calls Tryz.prog 39 #[.agg #[.int .i64 lo, .int .i64 hi, .bool p, .bool q]] w (Ret w (.agg #[.int .i64 E, .int .i64 F]))) (hsi : (∀ w, Calls Tryz.prog 52 #[.agg #[.int .i64 lo, .int .i64 hi, .bool p, .bool q]] w (Ret w (.bool true)))) (hw : (∀ w, Calls Tryz.prog 27 #[.int .i64 64, .bool true, .int .i64 E] w (Ret w (.int .i64 s)))) (hfin : (∀ w, Calls Tryz.prog 53 #[.int .i64 s, .int .i64 s] w (Ret w (.agg #[.int .i64 A, .int .i64 B, .bool P, .bool Q])))) (w : World) :
    Calls Tryz.prog 23 #[.int .i64 64, .bool true, .agg #[.int .i64 lo, .int .i64 hi, .bool p, .bool q]] w (Ret w (.agg #[.int .i64 A, .int .i64 B, .bool P, .bool Q])) := by
  have HRD := Lib.hid hrd
  have Hhsi := Lib.hid hsi
  have Hhw := Lib.hid hw
  have Hhfin := Lib.hid hfin
  clear hrd hsi hw hfin
  have r1 : Row ((w.alloc (.cells #[.int .i64 lo, .int .i64 hi, .bool p, .bool q] 23)).alloc (.cells #[.int .i64 0, .int .i64 0, .bool false, .bool false] 23)) w.heap.size 23 (spc lo hi p q) := (Row.made w (spc lo hi p q) 23).alloc _
  have r2 : Row ((w.alloc (.cells #[.int .i64 lo, .int .i64 hi, .bool p, .bool q] 23)).alloc (.cells #[.int .i64 0, .int .i64 0, .bool false, .bool false] 23)) (w.heap.size + 1) 23 (spc 0 0 false false) := row2 w _ (spc 0 0 false false) _
  have b3 : Below w.heap.size w ((w.alloc (.cells #[.int .i64 lo, .int .i64 hi, .bool p, .bool q] 23)).alloc (.cells #[.int .i64 0, .int .i64 0, .bool false, .bool false] 23)) := (below_map w _).alloc (by simp) _
  have HR := Lib.hid (And.intro r1 (And.intro r2 b3))
  clear r1 r2 b3
  go_enter Tryz.func23, Tryz.ntmps23
  go_upto_region 4 with (go_at_call 39; refine (HRD.out _).mono ?_; rintro e w1 ⟨rfl, hB⟩)
  have hk : SK w w1.heap.size 66 E F lo hi p q (w1.alloc (.cells #[.int .i64 E, .int .i64 F] 66)) :=
    ⟨(HR.out.1.below hB HR.out.1.lt).alloc _, (HR.out.2.1.below hB HR.out.2.1.lt).alloc _, Row.made w1 (edc E F) 66, (HR.out.2.2.trans (hB.mono HR.out.2.2.size)).trans ((below_map w1 _).mono (Nat.le_trans HR.out.2.2.size hB.size))⟩
  clear hB
  obtain ⟨b, hb⟩ : ∃ b, b = w1.heap.size := ⟨_, rfl⟩
  rw [← hb] at hk
  simp only [← hb]
  clear hb
  generalize World.alloc _ _ = wc at hk ⊢
  have HK := Lib.hid hk
  obtain ⟨⟨x0, x1⟩, ⟨a0, a1, a2, a3⟩, ⟨q0, q1, q2, q3⟩, f0, f1, f2, f3⟩ := hk.all
  clear hk HR
  go_wp2_with (first
    | (go_at_call 52; (refine (Hhsi.out _).mono ?_; rintro e w' ⟨rfl, hB⟩; have hk := HK.out.below hB; have HK := Lib.hid hk; obtain ⟨⟨x0, x1⟩, ⟨a0, a1, a2, a3⟩, ⟨q0, q1, q2, q3⟩, f0, f1, f2, f3⟩ := hk.all; clear hk hB))
    | (go_at_call 27; (refine (Hhw.out _).mono ?_; rintro e w' ⟨rfl, hB⟩; have hk := HK.out.below hB; have HK := Lib.hid hk; obtain ⟨⟨x0, x1⟩, ⟨a0, a1, a2, a3⟩, ⟨q0, q1, q2, q3⟩, f0, f1, f2, f3⟩ := hk.all; clear hk hB))
    | (go_at_call 53; (refine (Hhfin.out _).mono ?_; rintro e w' ⟨rfl, hB⟩; have hk := HK.out.below hB; have HK := Lib.hid hk; obtain ⟨⟨x0, x1⟩, ⟨a0, a1, a2, a3⟩, ⟨q0, q1, q2, q3⟩, f0, f1, f2, f3⟩ := hk.all; obtain ⟨⟨z0, z1, z2, z3⟩, _⟩ := spc_row (spc_put hk.res A B P Q); have HBZ := Lib.hid (below_set4 hk.bel (Nat.le_succ w.heap.size) (.int .i64 A) (.int .i64 B) (.bool P) (.bool Q)); have Z := Lib.hid (And.intro z0 (And.intro z1 (And.intro z2 z3))); clear z0 z1 z2 z3; clear hk hB))
    | fail "none")
  obtain ⟨z0, z1, z2, z3⟩ := Z.out
  exact bodyPost_ret (v := .agg #[.int .i64 A, .int .i64 B, .bool P, .bool Q]) (by simp [results, Tryz.results23, go_sem, z0, z1, z2, z3]) rfl ⟨rfl, HBZ.out⟩
set_option maxRecDepth 100000 in
set_option maxHeartbeats 600000 in
theorem rswap_many_64_true (lo hi : Int) (p q : Bool) (E F A B : Int) (P Q : Bool) (hrd : ∀ w, Calls Tryz.prog 39 #[.agg #[.int .i64 lo, .int .i64 hi, .bool p, .bool q]] w (Ret w (.agg #[.int .i64 E, .int .i64 F]))) (hsi : (∀ w, Calls Tryz.prog 52 #[.agg #[.int .i64 lo, .int .i64 hi, .bool p, .bool q]] w (Ret w (.bool false)))) (hfin : (∀ w, Calls Tryz.prog 51 #[] w (Ret w (.agg #[.int .i64 A, .int .i64 B, .bool P, .bool Q])))) (w : World) :
    Calls Tryz.prog 23 #[.int .i64 64, .bool true, .agg #[.int .i64 lo, .int .i64 hi, .bool p, .bool q]] w (Ret w (.agg #[.int .i64 A, .int .i64 B, .bool P, .bool Q])) := by
  have HRD := Lib.hid hrd
  have Hhsi := Lib.hid hsi
  have Hhfin := Lib.hid hfin
  clear hrd hsi hfin
  have r1 : Row ((w.alloc (.cells #[.int .i64 lo, .int .i64 hi, .bool p, .bool q] 23)).alloc (.cells #[.int .i64 0, .int .i64 0, .bool false, .bool false] 23)) w.heap.size 23 (spc lo hi p q) := (Row.made w (spc lo hi p q) 23).alloc _
  have r2 : Row ((w.alloc (.cells #[.int .i64 lo, .int .i64 hi, .bool p, .bool q] 23)).alloc (.cells #[.int .i64 0, .int .i64 0, .bool false, .bool false] 23)) (w.heap.size + 1) 23 (spc 0 0 false false) := row2 w _ (spc 0 0 false false) _
  have b3 : Below w.heap.size w ((w.alloc (.cells #[.int .i64 lo, .int .i64 hi, .bool p, .bool q] 23)).alloc (.cells #[.int .i64 0, .int .i64 0, .bool false, .bool false] 23)) := (below_map w _).alloc (by simp) _
  have HR := Lib.hid (And.intro r1 (And.intro r2 b3))
  clear r1 r2 b3
  go_enter Tryz.func23, Tryz.ntmps23
  go_upto_region 4 with (go_at_call 39; refine (HRD.out _).mono ?_; rintro e w1 ⟨rfl, hB⟩)
  have hk : SK w w1.heap.size 66 E F lo hi p q (w1.alloc (.cells #[.int .i64 E, .int .i64 F] 66)) :=
    ⟨(HR.out.1.below hB HR.out.1.lt).alloc _, (HR.out.2.1.below hB HR.out.2.1.lt).alloc _, Row.made w1 (edc E F) 66, (HR.out.2.2.trans (hB.mono HR.out.2.2.size)).trans ((below_map w1 _).mono (Nat.le_trans HR.out.2.2.size hB.size))⟩
  clear hB
  obtain ⟨b, hb⟩ : ∃ b, b = w1.heap.size := ⟨_, rfl⟩
  rw [← hb] at hk
  simp only [← hb]
  clear hb
  generalize World.alloc _ _ = wc at hk ⊢
  have HK := Lib.hid hk
  obtain ⟨⟨x0, x1⟩, ⟨a0, a1, a2, a3⟩, ⟨q0, q1, q2, q3⟩, f0, f1, f2, f3⟩ := hk.all
  clear hk HR
  go_wp2_with (first
    | (go_at_call 52; (refine (Hhsi.out _).mono ?_; rintro e w' ⟨rfl, hB⟩; have hk := HK.out.below hB; have HK := Lib.hid hk; obtain ⟨⟨x0, x1⟩, ⟨a0, a1, a2, a3⟩, ⟨q0, q1, q2, q3⟩, f0, f1, f2, f3⟩ := hk.all; clear hk hB))
    | (go_at_call 51; (refine (Hhfin.out _).mono ?_; rintro e w' ⟨rfl, hB⟩; have hk := HK.out.below hB; have HK := Lib.hid hk; obtain ⟨⟨x0, x1⟩, ⟨a0, a1, a2, a3⟩, ⟨q0, q1, q2, q3⟩, f0, f1, f2, f3⟩ := hk.all; obtain ⟨⟨z0, z1, z2, z3⟩, _⟩ := spc_row (spc_put hk.res A B P Q); have HBZ := Lib.hid (below_set4 hk.bel (Nat.le_succ w.heap.size) (.int .i64 A) (.int .i64 B) (.bool P) (.bool Q)); have Z := Lib.hid (And.intro z0 (And.intro z1 (And.intro z2 z3))); clear z0 z1 z2 z3; clear hk hB))
    | fail "none")
  obtain ⟨z0, z1, z2, z3⟩ := Z.out
  exact bodyPost_ret (v := .agg #[.int .i64 A, .int .i64 B, .bool P, .bool Q]) (by simp [results, Tryz.results23, go_sem, z0, z1, z2, z3]) rfl ⟨rfl, HBZ.out⟩
set_option maxRecDepth 100000 in
set_option maxHeartbeats 600000 in
theorem rext_leaf_other (size : Int) (t : Bool) (lo hi : Int) (p q : Bool) (E F A B : Int) (P Q : Bool) (hrd : ∀ w, Calls Tryz.prog 39 #[.agg #[.int .i64 lo, .int .i64 hi, .bool p, .bool q]] w (Ret w (.agg #[.int .i64 E, .int .i64 F]))) (n1 : (size != 8) = true) (n2 : (size != 16) = true) (n3 : (size != 32) = true) (hfin : (∀ w, Calls Tryz.prog 51 #[] w (Ret w (.agg #[.int .i64 A, .int .i64 B, .bool P, .bool Q])))) (w : World) :
    Calls Tryz.prog 25 #[.int .i64 size, .bool t, .agg #[.int .i64 lo, .int .i64 hi, .bool p, .bool q]] w (Ret w (.agg #[.int .i64 A, .int .i64 B, .bool P, .bool Q])) := by
  have HRD := Lib.hid hrd
  have Hhfin := Lib.hid hfin
  clear hrd hfin
  have r1 : Row ((w.alloc (.cells #[.int .i64 lo, .int .i64 hi, .bool p, .bool q] 23)).alloc (.cells #[.int .i64 0, .int .i64 0, .bool false, .bool false] 23)) w.heap.size 23 (spc lo hi p q) := (Row.made w (spc lo hi p q) 23).alloc _
  have r2 : Row ((w.alloc (.cells #[.int .i64 lo, .int .i64 hi, .bool p, .bool q] 23)).alloc (.cells #[.int .i64 0, .int .i64 0, .bool false, .bool false] 23)) (w.heap.size + 1) 23 (spc 0 0 false false) := row2 w _ (spc 0 0 false false) _
  have b3 : Below w.heap.size w ((w.alloc (.cells #[.int .i64 lo, .int .i64 hi, .bool p, .bool q] 23)).alloc (.cells #[.int .i64 0, .int .i64 0, .bool false, .bool false] 23)) := (below_map w _).alloc (by simp) _
  have HR := Lib.hid (And.intro r1 (And.intro r2 b3))
  clear r1 r2 b3
  go_enter Tryz.func25, Tryz.ntmps25
  go_wp2_with fail
  refine (Hhfin.out _).mono ?_
  rintro e w1 ⟨rfl, hB⟩
  have hr1 := HR.out.2.1.below hB HR.out.2.1.lt
  have hB1 := HR.out.2.2.trans (hB.mono HR.out.2.2.size)
  obtain ⟨⟨q0, q1, q2, q3⟩, f0, f1, f2, f3⟩ := spc_row hr1
  obtain ⟨⟨z0, z1, z2, z3⟩, _⟩ := spc_row (spc_put hr1 A B P Q)
  have HBZ := Lib.hid (below_set4 hB1 (Nat.le_succ w.heap.size) (.int .i64 A) (.int .i64 B) (.bool P) (.bool Q))
  have Z := Lib.hid (And.intro z0 (And.intro z1 (And.intro z2 z3)))
  clear hB hr1 hB1 z0 z1 z2 z3
  go_wp2
  obtain ⟨z0, z1, z2, z3⟩ := Z.out
  exact bodyPost_ret (v := .agg #[.int .i64 A, .int .i64 B, .bool P, .bool Q]) (by simp [results, Tryz.results25, go_sem, z0, z1, z2, z3]) rfl ⟨rfl, HBZ.out⟩
set_option maxRecDepth 100000 in
set_option maxHeartbeats 600000 in
theorem rext_leaf_32t (lo hi : Int) (p q : Bool) (E F A B : Int) (P Q : Bool) (hrd : ∀ w, Calls Tryz.prog 39 #[.agg #[.int .i64 lo, .int .i64 hi, .bool p, .bool q]] w (Ret w (.agg #[.int .i64 E, .int .i64 F]))) (hfin : (∀ w, Calls Tryz.prog 51 #[] w (Ret w (.agg #[.int .i64 A, .int .i64 B, .bool P, .bool Q])))) (w : World) :
    Calls Tryz.prog 25 #[.int .i64 32, .bool true, .agg #[.int .i64 lo, .int .i64 hi, .bool p, .bool q]] w (Ret w (.agg #[.int .i64 A, .int .i64 B, .bool P, .bool Q])) := by
  have HRD := Lib.hid hrd
  have Hhfin := Lib.hid hfin
  clear hrd hfin
  have r1 : Row ((w.alloc (.cells #[.int .i64 lo, .int .i64 hi, .bool p, .bool q] 23)).alloc (.cells #[.int .i64 0, .int .i64 0, .bool false, .bool false] 23)) w.heap.size 23 (spc lo hi p q) := (Row.made w (spc lo hi p q) 23).alloc _
  have r2 : Row ((w.alloc (.cells #[.int .i64 lo, .int .i64 hi, .bool p, .bool q] 23)).alloc (.cells #[.int .i64 0, .int .i64 0, .bool false, .bool false] 23)) (w.heap.size + 1) 23 (spc 0 0 false false) := row2 w _ (spc 0 0 false false) _
  have b3 : Below w.heap.size w ((w.alloc (.cells #[.int .i64 lo, .int .i64 hi, .bool p, .bool q] 23)).alloc (.cells #[.int .i64 0, .int .i64 0, .bool false, .bool false] 23)) := (below_map w _).alloc (by simp) _
  have HR := Lib.hid (And.intro r1 (And.intro r2 b3))
  clear r1 r2 b3
  go_enter Tryz.func25, Tryz.ntmps25
  go_wp2_with fail
  refine (Hhfin.out _).mono ?_
  rintro e w1 ⟨rfl, hB⟩
  have hr1 := HR.out.2.1.below hB HR.out.2.1.lt
  have hB1 := HR.out.2.2.trans (hB.mono HR.out.2.2.size)
  obtain ⟨⟨q0, q1, q2, q3⟩, f0, f1, f2, f3⟩ := spc_row hr1
  obtain ⟨⟨z0, z1, z2, z3⟩, _⟩ := spc_row (spc_put hr1 A B P Q)
  have HBZ := Lib.hid (below_set4 hB1 (Nat.le_succ w.heap.size) (.int .i64 A) (.int .i64 B) (.bool P) (.bool Q))
  have Z := Lib.hid (And.intro z0 (And.intro z1 (And.intro z2 z3)))
  clear hB hr1 hB1 z0 z1 z2 z3
  go_wp2
  obtain ⟨z0, z1, z2, z3⟩ := Z.out
  exact bodyPost_ret (v := .agg #[.int .i64 A, .int .i64 B, .bool P, .bool Q]) (by simp [results, Tryz.results25, go_sem, z0, z1, z2, z3]) rfl ⟨rfl, HBZ.out⟩
set_option maxRecDepth 100000 in
set_option maxHeartbeats 600000 in
theorem rext_one_8_false (s : Int) (lo hi : Int) (p q : Bool) (E F A B : Int) (P Q : Bool) (hrd : ∀ w, Calls Tryz.prog 39 #[.agg #[.int .i64 lo, .int .i64 hi, .bool p, .bool q]] w (Ret w (.agg #[.int .i64 E, .int .i64 F]))) (hsi : (∀ w, Calls Tryz.prog 52 #[.agg #[.int .i64 lo, .int .i64 hi, .bool p, .bool q]] w (Ret w (.bool true)))) (hw : (∀ w, Calls Tryz.prog 28 #[.int .i64 8, .bool false, .int .i64 E] w (Ret w (.int .i64 s)))) (hfin : (∀ w, Calls Tryz.prog 53 #[.int .i64 s, .int .i64 s] w (Ret w (.agg #[.int .i64 A, .int .i64 B, .bool P, .bool Q])))) (w : World) :
    Calls Tryz.prog 25 #[.int .i64 8, .bool false, .agg #[.int .i64 lo, .int .i64 hi, .bool p, .bool q]] w (Ret w (.agg #[.int .i64 A, .int .i64 B, .bool P, .bool Q])) := by
  have HRD := Lib.hid hrd
  have Hhsi := Lib.hid hsi
  have Hhw := Lib.hid hw
  have Hhfin := Lib.hid hfin
  clear hrd hsi hw hfin
  have r1 : Row ((w.alloc (.cells #[.int .i64 lo, .int .i64 hi, .bool p, .bool q] 23)).alloc (.cells #[.int .i64 0, .int .i64 0, .bool false, .bool false] 23)) w.heap.size 23 (spc lo hi p q) := (Row.made w (spc lo hi p q) 23).alloc _
  have r2 : Row ((w.alloc (.cells #[.int .i64 lo, .int .i64 hi, .bool p, .bool q] 23)).alloc (.cells #[.int .i64 0, .int .i64 0, .bool false, .bool false] 23)) (w.heap.size + 1) 23 (spc 0 0 false false) := row2 w _ (spc 0 0 false false) _
  have b3 : Below w.heap.size w ((w.alloc (.cells #[.int .i64 lo, .int .i64 hi, .bool p, .bool q] 23)).alloc (.cells #[.int .i64 0, .int .i64 0, .bool false, .bool false] 23)) := (below_map w _).alloc (by simp) _
  have HR := Lib.hid (And.intro r1 (And.intro r2 b3))
  clear r1 r2 b3
  go_enter Tryz.func25, Tryz.ntmps25
  go_upto_region 4 with (go_at_call 39; refine (HRD.out _).mono ?_; rintro e w1 ⟨rfl, hB⟩)
  have hk : SK w w1.heap.size 66 E F lo hi p q (w1.alloc (.cells #[.int .i64 E, .int .i64 F] 66)) :=
    ⟨(HR.out.1.below hB HR.out.1.lt).alloc _, (HR.out.2.1.below hB HR.out.2.1.lt).alloc _, Row.made w1 (edc E F) 66, (HR.out.2.2.trans (hB.mono HR.out.2.2.size)).trans ((below_map w1 _).mono (Nat.le_trans HR.out.2.2.size hB.size))⟩
  clear hB
  obtain ⟨b, hb⟩ : ∃ b, b = w1.heap.size := ⟨_, rfl⟩
  rw [← hb] at hk
  simp only [← hb]
  clear hb
  generalize World.alloc _ _ = wc at hk ⊢
  have HK := Lib.hid hk
  obtain ⟨⟨x0, x1⟩, ⟨a0, a1, a2, a3⟩, ⟨q0, q1, q2, q3⟩, f0, f1, f2, f3⟩ := hk.all
  clear hk HR
  go_wp2_with (first
    | (go_at_call 52; (refine (Hhsi.out _).mono ?_; rintro e w' ⟨rfl, hB⟩; have hk := HK.out.below hB; have HK := Lib.hid hk; obtain ⟨⟨x0, x1⟩, ⟨a0, a1, a2, a3⟩, ⟨q0, q1, q2, q3⟩, f0, f1, f2, f3⟩ := hk.all; clear hk hB))
    | (go_at_call 28; (refine (Hhw.out _).mono ?_; rintro e w' ⟨rfl, hB⟩; have hk := HK.out.below hB; have HK := Lib.hid hk; obtain ⟨⟨x0, x1⟩, ⟨a0, a1, a2, a3⟩, ⟨q0, q1, q2, q3⟩, f0, f1, f2, f3⟩ := hk.all; clear hk hB))
    | (go_at_call 53; (refine (Hhfin.out _).mono ?_; rintro e w' ⟨rfl, hB⟩; have hk := HK.out.below hB; have HK := Lib.hid hk; obtain ⟨⟨x0, x1⟩, ⟨a0, a1, a2, a3⟩, ⟨q0, q1, q2, q3⟩, f0, f1, f2, f3⟩ := hk.all; obtain ⟨⟨z0, z1, z2, z3⟩, _⟩ := spc_row (spc_put hk.res A B P Q); have HBZ := Lib.hid (below_set4 hk.bel (Nat.le_succ w.heap.size) (.int .i64 A) (.int .i64 B) (.bool P) (.bool Q)); have Z := Lib.hid (And.intro z0 (And.intro z1 (And.intro z2 z3))); clear z0 z1 z2 z3; clear hk hB))
    | fail "none")
  obtain ⟨z0, z1, z2, z3⟩ := Z.out
  exact bodyPost_ret (v := .agg #[.int .i64 A, .int .i64 B, .bool P, .bool Q]) (by simp [results, Tryz.results25, go_sem, z0, z1, z2, z3]) rfl ⟨rfl, HBZ.out⟩
set_option maxRecDepth 100000 in
set_option maxHeartbeats 600000 in
theorem rext_in_8_false (lo hi : Int) (p q : Bool) (E F A B : Int) (P Q : Bool) (hrd : ∀ w, Calls Tryz.prog 39 #[.agg #[.int .i64 lo, .int .i64 hi, .bool p, .bool q]] w (Ret w (.agg #[.int .i64 E, .int .i64 F]))) (h1 : decide (-128 ≤ E) = true) (h2 : decide (F ≤ 127) = true) (hsi : (∀ w, Calls Tryz.prog 52 #[.agg #[.int .i64 lo, .int .i64 hi, .bool p, .bool q]] w (Ret w (.bool false)))) (hfin : (∀ w, Calls Tryz.prog 54 #[.agg #[.int .i64 lo, .int .i64 hi, .bool p, .bool q]] w (Ret w (.agg #[.int .i64 A, .int .i64 B, .bool P, .bool Q])))) (w : World) :
    Calls Tryz.prog 25 #[.int .i64 8, .bool false, .agg #[.int .i64 lo, .int .i64 hi, .bool p, .bool q]] w (Ret w (.agg #[.int .i64 A, .int .i64 B, .bool P, .bool Q])) := by
  have HRD := Lib.hid hrd
  have Hhsi := Lib.hid hsi
  have Hhfin := Lib.hid hfin
  clear hrd hsi hfin
  have r1 : Row ((w.alloc (.cells #[.int .i64 lo, .int .i64 hi, .bool p, .bool q] 23)).alloc (.cells #[.int .i64 0, .int .i64 0, .bool false, .bool false] 23)) w.heap.size 23 (spc lo hi p q) := (Row.made w (spc lo hi p q) 23).alloc _
  have r2 : Row ((w.alloc (.cells #[.int .i64 lo, .int .i64 hi, .bool p, .bool q] 23)).alloc (.cells #[.int .i64 0, .int .i64 0, .bool false, .bool false] 23)) (w.heap.size + 1) 23 (spc 0 0 false false) := row2 w _ (spc 0 0 false false) _
  have b3 : Below w.heap.size w ((w.alloc (.cells #[.int .i64 lo, .int .i64 hi, .bool p, .bool q] 23)).alloc (.cells #[.int .i64 0, .int .i64 0, .bool false, .bool false] 23)) := (below_map w _).alloc (by simp) _
  have HR := Lib.hid (And.intro r1 (And.intro r2 b3))
  clear r1 r2 b3
  go_enter Tryz.func25, Tryz.ntmps25
  go_upto_region 4 with (go_at_call 39; refine (HRD.out _).mono ?_; rintro e w1 ⟨rfl, hB⟩)
  have hk : SK w w1.heap.size 66 E F lo hi p q (w1.alloc (.cells #[.int .i64 E, .int .i64 F] 66)) :=
    ⟨(HR.out.1.below hB HR.out.1.lt).alloc _, (HR.out.2.1.below hB HR.out.2.1.lt).alloc _, Row.made w1 (edc E F) 66, (HR.out.2.2.trans (hB.mono HR.out.2.2.size)).trans ((below_map w1 _).mono (Nat.le_trans HR.out.2.2.size hB.size))⟩
  clear hB
  obtain ⟨b, hb⟩ : ∃ b, b = w1.heap.size := ⟨_, rfl⟩
  rw [← hb] at hk
  simp only [← hb]
  clear hb
  generalize World.alloc _ _ = wc at hk ⊢
  have HK := Lib.hid hk
  obtain ⟨⟨x0, x1⟩, ⟨a0, a1, a2, a3⟩, ⟨q0, q1, q2, q3⟩, f0, f1, f2, f3⟩ := hk.all
  clear hk HR
  go_wp2_with (first
    | (go_at_call 52; (refine (Hhsi.out _).mono ?_; rintro e w' ⟨rfl, hB⟩; have hk := HK.out.below hB; have HK := Lib.hid hk; obtain ⟨⟨x0, x1⟩, ⟨a0, a1, a2, a3⟩, ⟨q0, q1, q2, q3⟩, f0, f1, f2, f3⟩ := hk.all; clear hk hB))
    | (go_at_call 54; (refine (Hhfin.out _).mono ?_; rintro e w' ⟨rfl, hB⟩; have hk := HK.out.below hB; have HK := Lib.hid hk; obtain ⟨⟨x0, x1⟩, ⟨a0, a1, a2, a3⟩, ⟨q0, q1, q2, q3⟩, f0, f1, f2, f3⟩ := hk.all; obtain ⟨⟨z0, z1, z2, z3⟩, _⟩ := spc_row (spc_put hk.res A B P Q); have HBZ := Lib.hid (below_set4 hk.bel (Nat.le_succ w.heap.size) (.int .i64 A) (.int .i64 B) (.bool P) (.bool Q)); have Z := Lib.hid (And.intro z0 (And.intro z1 (And.intro z2 z3))); clear z0 z1 z2 z3; clear hk hB))
    | fail "none")
  obtain ⟨z0, z1, z2, z3⟩ := Z.out
  exact bodyPost_ret (v := .agg #[.int .i64 A, .int .i64 B, .bool P, .bool Q]) (by simp [results, Tryz.results25, go_sem, z0, z1, z2, z3]) rfl ⟨rfl, HBZ.out⟩
set_option maxRecDepth 100000 in
set_option maxHeartbeats 600000 in
theorem rext_out0_8_false (lo hi : Int) (p q : Bool) (E F A B : Int) (P Q : Bool) (hrd : ∀ w, Calls Tryz.prog 39 #[.agg #[.int .i64 lo, .int .i64 hi, .bool p, .bool q]] w (Ret w (.agg #[.int .i64 E, .int .i64 F]))) (h1 : decide (-128 ≤ E) = false) (hsi : (∀ w, Calls Tryz.prog 52 #[.agg #[.int .i64 lo, .int .i64 hi, .bool p, .bool q]] w (Ret w (.bool false)))) (hfin : (∀ w, Calls Tryz.prog 53 #[.int .i64 (-128), .int .i64 127] w (Ret w (.agg #[.int .i64 A, .int .i64 B, .bool P, .bool Q])))) (w : World) :
    Calls Tryz.prog 25 #[.int .i64 8, .bool false, .agg #[.int .i64 lo, .int .i64 hi, .bool p, .bool q]] w (Ret w (.agg #[.int .i64 A, .int .i64 B, .bool P, .bool Q])) := by
  have HRD := Lib.hid hrd
  have Hhsi := Lib.hid hsi
  have Hhfin := Lib.hid hfin
  clear hrd hsi hfin
  have r1 : Row ((w.alloc (.cells #[.int .i64 lo, .int .i64 hi, .bool p, .bool q] 23)).alloc (.cells #[.int .i64 0, .int .i64 0, .bool false, .bool false] 23)) w.heap.size 23 (spc lo hi p q) := (Row.made w (spc lo hi p q) 23).alloc _
  have r2 : Row ((w.alloc (.cells #[.int .i64 lo, .int .i64 hi, .bool p, .bool q] 23)).alloc (.cells #[.int .i64 0, .int .i64 0, .bool false, .bool false] 23)) (w.heap.size + 1) 23 (spc 0 0 false false) := row2 w _ (spc 0 0 false false) _
  have b3 : Below w.heap.size w ((w.alloc (.cells #[.int .i64 lo, .int .i64 hi, .bool p, .bool q] 23)).alloc (.cells #[.int .i64 0, .int .i64 0, .bool false, .bool false] 23)) := (below_map w _).alloc (by simp) _
  have HR := Lib.hid (And.intro r1 (And.intro r2 b3))
  clear r1 r2 b3
  go_enter Tryz.func25, Tryz.ntmps25
  go_upto_region 4 with (go_at_call 39; refine (HRD.out _).mono ?_; rintro e w1 ⟨rfl, hB⟩)
  have hk : SK w w1.heap.size 66 E F lo hi p q (w1.alloc (.cells #[.int .i64 E, .int .i64 F] 66)) :=
    ⟨(HR.out.1.below hB HR.out.1.lt).alloc _, (HR.out.2.1.below hB HR.out.2.1.lt).alloc _, Row.made w1 (edc E F) 66, (HR.out.2.2.trans (hB.mono HR.out.2.2.size)).trans ((below_map w1 _).mono (Nat.le_trans HR.out.2.2.size hB.size))⟩
  clear hB
  obtain ⟨b, hb⟩ : ∃ b, b = w1.heap.size := ⟨_, rfl⟩
  rw [← hb] at hk
  simp only [← hb]
  clear hb
  generalize World.alloc _ _ = wc at hk ⊢
  have HK := Lib.hid hk
  obtain ⟨⟨x0, x1⟩, ⟨a0, a1, a2, a3⟩, ⟨q0, q1, q2, q3⟩, f0, f1, f2, f3⟩ := hk.all
  clear hk HR
  go_wp2_with (first
    | (go_at_call 52; (refine (Hhsi.out _).mono ?_; rintro e w' ⟨rfl, hB⟩; have hk := HK.out.below hB; have HK := Lib.hid hk; obtain ⟨⟨x0, x1⟩, ⟨a0, a1, a2, a3⟩, ⟨q0, q1, q2, q3⟩, f0, f1, f2, f3⟩ := hk.all; clear hk hB))
    | (go_at_call 53; (refine (Hhfin.out _).mono ?_; rintro e w' ⟨rfl, hB⟩; have hk := HK.out.below hB; have HK := Lib.hid hk; obtain ⟨⟨x0, x1⟩, ⟨a0, a1, a2, a3⟩, ⟨q0, q1, q2, q3⟩, f0, f1, f2, f3⟩ := hk.all; obtain ⟨⟨z0, z1, z2, z3⟩, _⟩ := spc_row (spc_put hk.res A B P Q); have HBZ := Lib.hid (below_set4 hk.bel (Nat.le_succ w.heap.size) (.int .i64 A) (.int .i64 B) (.bool P) (.bool Q)); have Z := Lib.hid (And.intro z0 (And.intro z1 (And.intro z2 z3))); clear z0 z1 z2 z3; clear hk hB))
    | fail "none")
  obtain ⟨z0, z1, z2, z3⟩ := Z.out
  exact bodyPost_ret (v := .agg #[.int .i64 A, .int .i64 B, .bool P, .bool Q]) (by simp [results, Tryz.results25, go_sem, z0, z1, z2, z3]) rfl ⟨rfl, HBZ.out⟩
set_option maxRecDepth 100000 in
set_option maxHeartbeats 600000 in
theorem rext_out1_8_false (lo hi : Int) (p q : Bool) (E F A B : Int) (P Q : Bool) (hrd : ∀ w, Calls Tryz.prog 39 #[.agg #[.int .i64 lo, .int .i64 hi, .bool p, .bool q]] w (Ret w (.agg #[.int .i64 E, .int .i64 F]))) (h1 : decide (-128 ≤ E) = true) (h2 : decide (F ≤ 127) = false) (hsi : (∀ w, Calls Tryz.prog 52 #[.agg #[.int .i64 lo, .int .i64 hi, .bool p, .bool q]] w (Ret w (.bool false)))) (hfin : (∀ w, Calls Tryz.prog 53 #[.int .i64 (-128), .int .i64 127] w (Ret w (.agg #[.int .i64 A, .int .i64 B, .bool P, .bool Q])))) (w : World) :
    Calls Tryz.prog 25 #[.int .i64 8, .bool false, .agg #[.int .i64 lo, .int .i64 hi, .bool p, .bool q]] w (Ret w (.agg #[.int .i64 A, .int .i64 B, .bool P, .bool Q])) := by
  have HRD := Lib.hid hrd
  have Hhsi := Lib.hid hsi
  have Hhfin := Lib.hid hfin
  clear hrd hsi hfin
  have r1 : Row ((w.alloc (.cells #[.int .i64 lo, .int .i64 hi, .bool p, .bool q] 23)).alloc (.cells #[.int .i64 0, .int .i64 0, .bool false, .bool false] 23)) w.heap.size 23 (spc lo hi p q) := (Row.made w (spc lo hi p q) 23).alloc _
  have r2 : Row ((w.alloc (.cells #[.int .i64 lo, .int .i64 hi, .bool p, .bool q] 23)).alloc (.cells #[.int .i64 0, .int .i64 0, .bool false, .bool false] 23)) (w.heap.size + 1) 23 (spc 0 0 false false) := row2 w _ (spc 0 0 false false) _
  have b3 : Below w.heap.size w ((w.alloc (.cells #[.int .i64 lo, .int .i64 hi, .bool p, .bool q] 23)).alloc (.cells #[.int .i64 0, .int .i64 0, .bool false, .bool false] 23)) := (below_map w _).alloc (by simp) _
  have HR := Lib.hid (And.intro r1 (And.intro r2 b3))
  clear r1 r2 b3
  go_enter Tryz.func25, Tryz.ntmps25
  go_upto_region 4 with (go_at_call 39; refine (HRD.out _).mono ?_; rintro e w1 ⟨rfl, hB⟩)
  have hk : SK w w1.heap.size 66 E F lo hi p q (w1.alloc (.cells #[.int .i64 E, .int .i64 F] 66)) :=
    ⟨(HR.out.1.below hB HR.out.1.lt).alloc _, (HR.out.2.1.below hB HR.out.2.1.lt).alloc _, Row.made w1 (edc E F) 66, (HR.out.2.2.trans (hB.mono HR.out.2.2.size)).trans ((below_map w1 _).mono (Nat.le_trans HR.out.2.2.size hB.size))⟩
  clear hB
  obtain ⟨b, hb⟩ : ∃ b, b = w1.heap.size := ⟨_, rfl⟩
  rw [← hb] at hk
  simp only [← hb]
  clear hb
  generalize World.alloc _ _ = wc at hk ⊢
  have HK := Lib.hid hk
  obtain ⟨⟨x0, x1⟩, ⟨a0, a1, a2, a3⟩, ⟨q0, q1, q2, q3⟩, f0, f1, f2, f3⟩ := hk.all
  clear hk HR
  go_wp2_with (first
    | (go_at_call 52; (refine (Hhsi.out _).mono ?_; rintro e w' ⟨rfl, hB⟩; have hk := HK.out.below hB; have HK := Lib.hid hk; obtain ⟨⟨x0, x1⟩, ⟨a0, a1, a2, a3⟩, ⟨q0, q1, q2, q3⟩, f0, f1, f2, f3⟩ := hk.all; clear hk hB))
    | (go_at_call 53; (refine (Hhfin.out _).mono ?_; rintro e w' ⟨rfl, hB⟩; have hk := HK.out.below hB; have HK := Lib.hid hk; obtain ⟨⟨x0, x1⟩, ⟨a0, a1, a2, a3⟩, ⟨q0, q1, q2, q3⟩, f0, f1, f2, f3⟩ := hk.all; obtain ⟨⟨z0, z1, z2, z3⟩, _⟩ := spc_row (spc_put hk.res A B P Q); have HBZ := Lib.hid (below_set4 hk.bel (Nat.le_succ w.heap.size) (.int .i64 A) (.int .i64 B) (.bool P) (.bool Q)); have Z := Lib.hid (And.intro z0 (And.intro z1 (And.intro z2 z3))); clear z0 z1 z2 z3; clear hk hB))
    | fail "none")
  obtain ⟨z0, z1, z2, z3⟩ := Z.out
  exact bodyPost_ret (v := .agg #[.int .i64 A, .int .i64 B, .bool P, .bool Q]) (by simp [results, Tryz.results25, go_sem, z0, z1, z2, z3]) rfl ⟨rfl, HBZ.out⟩
set_option maxRecDepth 100000 in
set_option maxHeartbeats 600000 in
theorem rext_one_8_true (s : Int) (lo hi : Int) (p q : Bool) (E F A B : Int) (P Q : Bool) (hrd : ∀ w, Calls Tryz.prog 39 #[.agg #[.int .i64 lo, .int .i64 hi, .bool p, .bool q]] w (Ret w (.agg #[.int .i64 E, .int .i64 F]))) (hsi : (∀ w, Calls Tryz.prog 52 #[.agg #[.int .i64 lo, .int .i64 hi, .bool p, .bool q]] w (Ret w (.bool true)))) (hw : (∀ w, Calls Tryz.prog 28 #[.int .i64 8, .bool true, .int .i64 E] w (Ret w (.int .i64 s)))) (hfin : (∀ w, Calls Tryz.prog 53 #[.int .i64 s, .int .i64 s] w (Ret w (.agg #[.int .i64 A, .int .i64 B, .bool P, .bool Q])))) (w : World) :
    Calls Tryz.prog 25 #[.int .i64 8, .bool true, .agg #[.int .i64 lo, .int .i64 hi, .bool p, .bool q]] w (Ret w (.agg #[.int .i64 A, .int .i64 B, .bool P, .bool Q])) := by
  have HRD := Lib.hid hrd
  have Hhsi := Lib.hid hsi
  have Hhw := Lib.hid hw
  have Hhfin := Lib.hid hfin
  clear hrd hsi hw hfin
  have r1 : Row ((w.alloc (.cells #[.int .i64 lo, .int .i64 hi, .bool p, .bool q] 23)).alloc (.cells #[.int .i64 0, .int .i64 0, .bool false, .bool false] 23)) w.heap.size 23 (spc lo hi p q) := (Row.made w (spc lo hi p q) 23).alloc _
  have r2 : Row ((w.alloc (.cells #[.int .i64 lo, .int .i64 hi, .bool p, .bool q] 23)).alloc (.cells #[.int .i64 0, .int .i64 0, .bool false, .bool false] 23)) (w.heap.size + 1) 23 (spc 0 0 false false) := row2 w _ (spc 0 0 false false) _
  have b3 : Below w.heap.size w ((w.alloc (.cells #[.int .i64 lo, .int .i64 hi, .bool p, .bool q] 23)).alloc (.cells #[.int .i64 0, .int .i64 0, .bool false, .bool false] 23)) := (below_map w _).alloc (by simp) _
  have HR := Lib.hid (And.intro r1 (And.intro r2 b3))
  clear r1 r2 b3
  go_enter Tryz.func25, Tryz.ntmps25
  go_upto_region 4 with (go_at_call 39; refine (HRD.out _).mono ?_; rintro e w1 ⟨rfl, hB⟩)
  have hk : SK w w1.heap.size 66 E F lo hi p q (w1.alloc (.cells #[.int .i64 E, .int .i64 F] 66)) :=
    ⟨(HR.out.1.below hB HR.out.1.lt).alloc _, (HR.out.2.1.below hB HR.out.2.1.lt).alloc _, Row.made w1 (edc E F) 66, (HR.out.2.2.trans (hB.mono HR.out.2.2.size)).trans ((below_map w1 _).mono (Nat.le_trans HR.out.2.2.size hB.size))⟩
  clear hB
  obtain ⟨b, hb⟩ : ∃ b, b = w1.heap.size := ⟨_, rfl⟩
  rw [← hb] at hk
  simp only [← hb]
  clear hb
  generalize World.alloc _ _ = wc at hk ⊢
  have HK := Lib.hid hk
  obtain ⟨⟨x0, x1⟩, ⟨a0, a1, a2, a3⟩, ⟨q0, q1, q2, q3⟩, f0, f1, f2, f3⟩ := hk.all
  clear hk HR
  go_wp2_with (first
    | (go_at_call 52; (refine (Hhsi.out _).mono ?_; rintro e w' ⟨rfl, hB⟩; have hk := HK.out.below hB; have HK := Lib.hid hk; obtain ⟨⟨x0, x1⟩, ⟨a0, a1, a2, a3⟩, ⟨q0, q1, q2, q3⟩, f0, f1, f2, f3⟩ := hk.all; clear hk hB))
    | (go_at_call 28; (refine (Hhw.out _).mono ?_; rintro e w' ⟨rfl, hB⟩; have hk := HK.out.below hB; have HK := Lib.hid hk; obtain ⟨⟨x0, x1⟩, ⟨a0, a1, a2, a3⟩, ⟨q0, q1, q2, q3⟩, f0, f1, f2, f3⟩ := hk.all; clear hk hB))
    | (go_at_call 53; (refine (Hhfin.out _).mono ?_; rintro e w' ⟨rfl, hB⟩; have hk := HK.out.below hB; have HK := Lib.hid hk; obtain ⟨⟨x0, x1⟩, ⟨a0, a1, a2, a3⟩, ⟨q0, q1, q2, q3⟩, f0, f1, f2, f3⟩ := hk.all; obtain ⟨⟨z0, z1, z2, z3⟩, _⟩ := spc_row (spc_put hk.res A B P Q); have HBZ := Lib.hid (below_set4 hk.bel (Nat.le_succ w.heap.size) (.int .i64 A) (.int .i64 B) (.bool P) (.bool Q)); have Z := Lib.hid (And.intro z0 (And.intro z1 (And.intro z2 z3))); clear z0 z1 z2 z3; clear hk hB))
    | fail "none")
  obtain ⟨z0, z1, z2, z3⟩ := Z.out
  exact bodyPost_ret (v := .agg #[.int .i64 A, .int .i64 B, .bool P, .bool Q]) (by simp [results, Tryz.results25, go_sem, z0, z1, z2, z3]) rfl ⟨rfl, HBZ.out⟩
set_option maxRecDepth 100000 in
set_option maxHeartbeats 600000 in
theorem rext_in_8_true (lo hi : Int) (p q : Bool) (E F A B : Int) (P Q : Bool) (hrd : ∀ w, Calls Tryz.prog 39 #[.agg #[.int .i64 lo, .int .i64 hi, .bool p, .bool q]] w (Ret w (.agg #[.int .i64 E, .int .i64 F]))) (h1 : decide (-128 ≤ E) = true) (h2 : decide (F ≤ 127) = true) (h0 : decide (0 ≤ E) = true) (hsi : (∀ w, Calls Tryz.prog 52 #[.agg #[.int .i64 lo, .int .i64 hi, .bool p, .bool q]] w (Ret w (.bool false)))) (hfin : (∀ w, Calls Tryz.prog 54 #[.agg #[.int .i64 lo, .int .i64 hi, .bool p, .bool q]] w (Ret w (.agg #[.int .i64 A, .int .i64 B, .bool P, .bool Q])))) (w : World) :
    Calls Tryz.prog 25 #[.int .i64 8, .bool true, .agg #[.int .i64 lo, .int .i64 hi, .bool p, .bool q]] w (Ret w (.agg #[.int .i64 A, .int .i64 B, .bool P, .bool Q])) := by
  have HRD := Lib.hid hrd
  have Hhsi := Lib.hid hsi
  have Hhfin := Lib.hid hfin
  clear hrd hsi hfin
  have r1 : Row ((w.alloc (.cells #[.int .i64 lo, .int .i64 hi, .bool p, .bool q] 23)).alloc (.cells #[.int .i64 0, .int .i64 0, .bool false, .bool false] 23)) w.heap.size 23 (spc lo hi p q) := (Row.made w (spc lo hi p q) 23).alloc _
  have r2 : Row ((w.alloc (.cells #[.int .i64 lo, .int .i64 hi, .bool p, .bool q] 23)).alloc (.cells #[.int .i64 0, .int .i64 0, .bool false, .bool false] 23)) (w.heap.size + 1) 23 (spc 0 0 false false) := row2 w _ (spc 0 0 false false) _
  have b3 : Below w.heap.size w ((w.alloc (.cells #[.int .i64 lo, .int .i64 hi, .bool p, .bool q] 23)).alloc (.cells #[.int .i64 0, .int .i64 0, .bool false, .bool false] 23)) := (below_map w _).alloc (by simp) _
  have HR := Lib.hid (And.intro r1 (And.intro r2 b3))
  clear r1 r2 b3
  go_enter Tryz.func25, Tryz.ntmps25
  go_upto_region 4 with (go_at_call 39; refine (HRD.out _).mono ?_; rintro e w1 ⟨rfl, hB⟩)
  have hk : SK w w1.heap.size 66 E F lo hi p q (w1.alloc (.cells #[.int .i64 E, .int .i64 F] 66)) :=
    ⟨(HR.out.1.below hB HR.out.1.lt).alloc _, (HR.out.2.1.below hB HR.out.2.1.lt).alloc _, Row.made w1 (edc E F) 66, (HR.out.2.2.trans (hB.mono HR.out.2.2.size)).trans ((below_map w1 _).mono (Nat.le_trans HR.out.2.2.size hB.size))⟩
  clear hB
  obtain ⟨b, hb⟩ : ∃ b, b = w1.heap.size := ⟨_, rfl⟩
  rw [← hb] at hk
  simp only [← hb]
  clear hb
  generalize World.alloc _ _ = wc at hk ⊢
  have HK := Lib.hid hk
  obtain ⟨⟨x0, x1⟩, ⟨a0, a1, a2, a3⟩, ⟨q0, q1, q2, q3⟩, f0, f1, f2, f3⟩ := hk.all
  clear hk HR
  go_wp2_with (first
    | (go_at_call 52; (refine (Hhsi.out _).mono ?_; rintro e w' ⟨rfl, hB⟩; have hk := HK.out.below hB; have HK := Lib.hid hk; obtain ⟨⟨x0, x1⟩, ⟨a0, a1, a2, a3⟩, ⟨q0, q1, q2, q3⟩, f0, f1, f2, f3⟩ := hk.all; clear hk hB))
    | (go_at_call 54; (refine (Hhfin.out _).mono ?_; rintro e w' ⟨rfl, hB⟩; have hk := HK.out.below hB; have HK := Lib.hid hk; obtain ⟨⟨x0, x1⟩, ⟨a0, a1, a2, a3⟩, ⟨q0, q1, q2, q3⟩, f0, f1, f2, f3⟩ := hk.all; obtain ⟨⟨z0, z1, z2, z3⟩, _⟩ := spc_row (spc_put hk.res A B P Q); have HBZ := Lib.hid (below_set4 hk.bel (Nat.le_succ w.heap.size) (.int .i64 A) (.int .i64 B) (.bool P) (.bool Q)); have Z := Lib.hid (And.intro z0 (And.intro z1 (And.intro z2 z3))); clear z0 z1 z2 z3; clear hk hB))
    | fail "none")
  obtain ⟨z0, z1, z2, z3⟩ := Z.out
  exact bodyPost_ret (v := .agg #[.int .i64 A, .int .i64 B, .bool P, .bool Q]) (by simp [results, Tryz.results25, go_sem, z0, z1, z2, z3]) rfl ⟨rfl, HBZ.out⟩
set_option maxRecDepth 100000 in
set_option maxHeartbeats 600000 in
theorem rext_below_8_true (e1 e2 f1 f2 : Int) (lo hi : Int) (p q : Bool) (E F A B : Int) (P Q : Bool) (hrd : ∀ w, Calls Tryz.prog 39 #[.agg #[.int .i64 lo, .int .i64 hi, .bool p, .bool q]] w (Ret w (.agg #[.int .i64 E, .int .i64 F]))) (h1 : decide (-128 ≤ E) = true) (h2 : decide (F ≤ 127) = true) (h0 : decide (0 ≤ E) = false) (h3 : decide (F < 0) = true) (g1 : wrap64 (E + 4294967295) = e1) (g2 : wrap64 (e1 + 1) = e2) (g3 : wrap64 (F + 4294967295) = f1) (g4 : wrap64 (f1 + 1) = f2) (hsi : (∀ w, Calls Tryz.prog 52 #[.agg #[.int .i64 lo, .int .i64 hi, .bool p, .bool q]] w (Ret w (.bool false)))) (hfin : (∀ w, Calls Tryz.prog 53 #[.int .i64 e2, .int .i64 f2] w (Ret w (.agg #[.int .i64 A, .int .i64 B, .bool P, .bool Q])))) (w : World) :
    Calls Tryz.prog 25 #[.int .i64 8, .bool true, .agg #[.int .i64 lo, .int .i64 hi, .bool p, .bool q]] w (Ret w (.agg #[.int .i64 A, .int .i64 B, .bool P, .bool Q])) := by
  have HRD := Lib.hid hrd
  have Hhsi := Lib.hid hsi
  have Hhfin := Lib.hid hfin
  clear hrd hsi hfin
  have r1 : Row ((w.alloc (.cells #[.int .i64 lo, .int .i64 hi, .bool p, .bool q] 23)).alloc (.cells #[.int .i64 0, .int .i64 0, .bool false, .bool false] 23)) w.heap.size 23 (spc lo hi p q) := (Row.made w (spc lo hi p q) 23).alloc _
  have r2 : Row ((w.alloc (.cells #[.int .i64 lo, .int .i64 hi, .bool p, .bool q] 23)).alloc (.cells #[.int .i64 0, .int .i64 0, .bool false, .bool false] 23)) (w.heap.size + 1) 23 (spc 0 0 false false) := row2 w _ (spc 0 0 false false) _
  have b3 : Below w.heap.size w ((w.alloc (.cells #[.int .i64 lo, .int .i64 hi, .bool p, .bool q] 23)).alloc (.cells #[.int .i64 0, .int .i64 0, .bool false, .bool false] 23)) := (below_map w _).alloc (by simp) _
  have HR := Lib.hid (And.intro r1 (And.intro r2 b3))
  clear r1 r2 b3
  go_enter Tryz.func25, Tryz.ntmps25
  go_upto_region 4 with (go_at_call 39; refine (HRD.out _).mono ?_; rintro e w1 ⟨rfl, hB⟩)
  have hk : SK w w1.heap.size 66 E F lo hi p q (w1.alloc (.cells #[.int .i64 E, .int .i64 F] 66)) :=
    ⟨(HR.out.1.below hB HR.out.1.lt).alloc _, (HR.out.2.1.below hB HR.out.2.1.lt).alloc _, Row.made w1 (edc E F) 66, (HR.out.2.2.trans (hB.mono HR.out.2.2.size)).trans ((below_map w1 _).mono (Nat.le_trans HR.out.2.2.size hB.size))⟩
  clear hB
  obtain ⟨b, hb⟩ : ∃ b, b = w1.heap.size := ⟨_, rfl⟩
  rw [← hb] at hk
  simp only [← hb]
  clear hb
  generalize World.alloc _ _ = wc at hk ⊢
  have HK := Lib.hid hk
  obtain ⟨⟨x0, x1⟩, ⟨a0, a1, a2, a3⟩, ⟨q0, q1, q2, q3⟩, f0, f1, f2, f3⟩ := hk.all
  clear hk HR
  go_wp2_with (first
    | (go_at_call 52; (refine (Hhsi.out _).mono ?_; rintro e w' ⟨rfl, hB⟩; have hk := HK.out.below hB; have HK := Lib.hid hk; obtain ⟨⟨x0, x1⟩, ⟨a0, a1, a2, a3⟩, ⟨q0, q1, q2, q3⟩, f0, f1, f2, f3⟩ := hk.all; clear hk hB))
    | (go_at_call 53; (refine (Hhfin.out _).mono ?_; rintro e w' ⟨rfl, hB⟩; have hk := HK.out.below hB; have HK := Lib.hid hk; obtain ⟨⟨x0, x1⟩, ⟨a0, a1, a2, a3⟩, ⟨q0, q1, q2, q3⟩, f0, f1, f2, f3⟩ := hk.all; obtain ⟨⟨z0, z1, z2, z3⟩, _⟩ := spc_row (spc_put hk.res A B P Q); have HBZ := Lib.hid (below_set4 hk.bel (Nat.le_succ w.heap.size) (.int .i64 A) (.int .i64 B) (.bool P) (.bool Q)); have Z := Lib.hid (And.intro z0 (And.intro z1 (And.intro z2 z3))); clear z0 z1 z2 z3; clear hk hB))
    | fail "none")
  obtain ⟨z0, z1, z2, z3⟩ := Z.out
  exact bodyPost_ret (v := .agg #[.int .i64 A, .int .i64 B, .bool P, .bool Q]) (by simp [results, Tryz.results25, go_sem, z0, z1, z2, z3]) rfl ⟨rfl, HBZ.out⟩
set_option maxRecDepth 100000 in
set_option maxHeartbeats 600000 in
theorem rext_mix_8_true (lo hi : Int) (p q : Bool) (E F A B : Int) (P Q : Bool) (hrd : ∀ w, Calls Tryz.prog 39 #[.agg #[.int .i64 lo, .int .i64 hi, .bool p, .bool q]] w (Ret w (.agg #[.int .i64 E, .int .i64 F]))) (h1 : decide (-128 ≤ E) = true) (h2 : decide (F ≤ 127) = true) (h0 : decide (0 ≤ E) = false) (h3 : decide (F < 0) = false) (hsi : (∀ w, Calls Tryz.prog 52 #[.agg #[.int .i64 lo, .int .i64 hi, .bool p, .bool q]] w (Ret w (.bool false)))) (hfin : (∀ w, Calls Tryz.prog 53 #[.int .i64 0, .int .i64 4294967295] w (Ret w (.agg #[.int .i64 A, .int .i64 B, .bool P, .bool Q])))) (w : World) :
    Calls Tryz.prog 25 #[.int .i64 8, .bool true, .agg #[.int .i64 lo, .int .i64 hi, .bool p, .bool q]] w (Ret w (.agg #[.int .i64 A, .int .i64 B, .bool P, .bool Q])) := by
  have HRD := Lib.hid hrd
  have Hhsi := Lib.hid hsi
  have Hhfin := Lib.hid hfin
  clear hrd hsi hfin
  have r1 : Row ((w.alloc (.cells #[.int .i64 lo, .int .i64 hi, .bool p, .bool q] 23)).alloc (.cells #[.int .i64 0, .int .i64 0, .bool false, .bool false] 23)) w.heap.size 23 (spc lo hi p q) := (Row.made w (spc lo hi p q) 23).alloc _
  have r2 : Row ((w.alloc (.cells #[.int .i64 lo, .int .i64 hi, .bool p, .bool q] 23)).alloc (.cells #[.int .i64 0, .int .i64 0, .bool false, .bool false] 23)) (w.heap.size + 1) 23 (spc 0 0 false false) := row2 w _ (spc 0 0 false false) _
  have b3 : Below w.heap.size w ((w.alloc (.cells #[.int .i64 lo, .int .i64 hi, .bool p, .bool q] 23)).alloc (.cells #[.int .i64 0, .int .i64 0, .bool false, .bool false] 23)) := (below_map w _).alloc (by simp) _
  have HR := Lib.hid (And.intro r1 (And.intro r2 b3))
  clear r1 r2 b3
  go_enter Tryz.func25, Tryz.ntmps25
  go_upto_region 4 with (go_at_call 39; refine (HRD.out _).mono ?_; rintro e w1 ⟨rfl, hB⟩)
  have hk : SK w w1.heap.size 66 E F lo hi p q (w1.alloc (.cells #[.int .i64 E, .int .i64 F] 66)) :=
    ⟨(HR.out.1.below hB HR.out.1.lt).alloc _, (HR.out.2.1.below hB HR.out.2.1.lt).alloc _, Row.made w1 (edc E F) 66, (HR.out.2.2.trans (hB.mono HR.out.2.2.size)).trans ((below_map w1 _).mono (Nat.le_trans HR.out.2.2.size hB.size))⟩
  clear hB
  obtain ⟨b, hb⟩ : ∃ b, b = w1.heap.size := ⟨_, rfl⟩
  rw [← hb] at hk
  simp only [← hb]
  clear hb
  generalize World.alloc _ _ = wc at hk ⊢
  have HK := Lib.hid hk
  obtain ⟨⟨x0, x1⟩, ⟨a0, a1, a2, a3⟩, ⟨q0, q1, q2, q3⟩, f0, f1, f2, f3⟩ := hk.all
  clear hk HR
  go_wp2_with (first
    | (go_at_call 52; (refine (Hhsi.out _).mono ?_; rintro e w' ⟨rfl, hB⟩; have hk := HK.out.below hB; have HK := Lib.hid hk; obtain ⟨⟨x0, x1⟩, ⟨a0, a1, a2, a3⟩, ⟨q0, q1, q2, q3⟩, f0, f1, f2, f3⟩ := hk.all; clear hk hB))
    | (go_at_call 53; (refine (Hhfin.out _).mono ?_; rintro e w' ⟨rfl, hB⟩; have hk := HK.out.below hB; have HK := Lib.hid hk; obtain ⟨⟨x0, x1⟩, ⟨a0, a1, a2, a3⟩, ⟨q0, q1, q2, q3⟩, f0, f1, f2, f3⟩ := hk.all; obtain ⟨⟨z0, z1, z2, z3⟩, _⟩ := spc_row (spc_put hk.res A B P Q); have HBZ := Lib.hid (below_set4 hk.bel (Nat.le_succ w.heap.size) (.int .i64 A) (.int .i64 B) (.bool P) (.bool Q)); have Z := Lib.hid (And.intro z0 (And.intro z1 (And.intro z2 z3))); clear z0 z1 z2 z3; clear hk hB))
    | fail "none")
  obtain ⟨z0, z1, z2, z3⟩ := Z.out
  exact bodyPost_ret (v := .agg #[.int .i64 A, .int .i64 B, .bool P, .bool Q]) (by simp [results, Tryz.results25, go_sem, z0, z1, z2, z3]) rfl ⟨rfl, HBZ.out⟩
set_option maxRecDepth 100000 in
set_option maxHeartbeats 600000 in
theorem rext_out0_8_true (lo hi : Int) (p q : Bool) (E F A B : Int) (P Q : Bool) (hrd : ∀ w, Calls Tryz.prog 39 #[.agg #[.int .i64 lo, .int .i64 hi, .bool p, .bool q]] w (Ret w (.agg #[.int .i64 E, .int .i64 F]))) (h1 : decide (-128 ≤ E) = false) (hsi : (∀ w, Calls Tryz.prog 52 #[.agg #[.int .i64 lo, .int .i64 hi, .bool p, .bool q]] w (Ret w (.bool false)))) (hfin : (∀ w, Calls Tryz.prog 53 #[.int .i64 0, .int .i64 4294967295] w (Ret w (.agg #[.int .i64 A, .int .i64 B, .bool P, .bool Q])))) (w : World) :
    Calls Tryz.prog 25 #[.int .i64 8, .bool true, .agg #[.int .i64 lo, .int .i64 hi, .bool p, .bool q]] w (Ret w (.agg #[.int .i64 A, .int .i64 B, .bool P, .bool Q])) := by
  have HRD := Lib.hid hrd
  have Hhsi := Lib.hid hsi
  have Hhfin := Lib.hid hfin
  clear hrd hsi hfin
  have r1 : Row ((w.alloc (.cells #[.int .i64 lo, .int .i64 hi, .bool p, .bool q] 23)).alloc (.cells #[.int .i64 0, .int .i64 0, .bool false, .bool false] 23)) w.heap.size 23 (spc lo hi p q) := (Row.made w (spc lo hi p q) 23).alloc _
  have r2 : Row ((w.alloc (.cells #[.int .i64 lo, .int .i64 hi, .bool p, .bool q] 23)).alloc (.cells #[.int .i64 0, .int .i64 0, .bool false, .bool false] 23)) (w.heap.size + 1) 23 (spc 0 0 false false) := row2 w _ (spc 0 0 false false) _
  have b3 : Below w.heap.size w ((w.alloc (.cells #[.int .i64 lo, .int .i64 hi, .bool p, .bool q] 23)).alloc (.cells #[.int .i64 0, .int .i64 0, .bool false, .bool false] 23)) := (below_map w _).alloc (by simp) _
  have HR := Lib.hid (And.intro r1 (And.intro r2 b3))
  clear r1 r2 b3
  go_enter Tryz.func25, Tryz.ntmps25
  go_upto_region 4 with (go_at_call 39; refine (HRD.out _).mono ?_; rintro e w1 ⟨rfl, hB⟩)
  have hk : SK w w1.heap.size 66 E F lo hi p q (w1.alloc (.cells #[.int .i64 E, .int .i64 F] 66)) :=
    ⟨(HR.out.1.below hB HR.out.1.lt).alloc _, (HR.out.2.1.below hB HR.out.2.1.lt).alloc _, Row.made w1 (edc E F) 66, (HR.out.2.2.trans (hB.mono HR.out.2.2.size)).trans ((below_map w1 _).mono (Nat.le_trans HR.out.2.2.size hB.size))⟩
  clear hB
  obtain ⟨b, hb⟩ : ∃ b, b = w1.heap.size := ⟨_, rfl⟩
  rw [← hb] at hk
  simp only [← hb]
  clear hb
  generalize World.alloc _ _ = wc at hk ⊢
  have HK := Lib.hid hk
  obtain ⟨⟨x0, x1⟩, ⟨a0, a1, a2, a3⟩, ⟨q0, q1, q2, q3⟩, f0, f1, f2, f3⟩ := hk.all
  clear hk HR
  go_wp2_with (first
    | (go_at_call 52; (refine (Hhsi.out _).mono ?_; rintro e w' ⟨rfl, hB⟩; have hk := HK.out.below hB; have HK := Lib.hid hk; obtain ⟨⟨x0, x1⟩, ⟨a0, a1, a2, a3⟩, ⟨q0, q1, q2, q3⟩, f0, f1, f2, f3⟩ := hk.all; clear hk hB))
    | (go_at_call 53; (refine (Hhfin.out _).mono ?_; rintro e w' ⟨rfl, hB⟩; have hk := HK.out.below hB; have HK := Lib.hid hk; obtain ⟨⟨x0, x1⟩, ⟨a0, a1, a2, a3⟩, ⟨q0, q1, q2, q3⟩, f0, f1, f2, f3⟩ := hk.all; obtain ⟨⟨z0, z1, z2, z3⟩, _⟩ := spc_row (spc_put hk.res A B P Q); have HBZ := Lib.hid (below_set4 hk.bel (Nat.le_succ w.heap.size) (.int .i64 A) (.int .i64 B) (.bool P) (.bool Q)); have Z := Lib.hid (And.intro z0 (And.intro z1 (And.intro z2 z3))); clear z0 z1 z2 z3; clear hk hB))
    | fail "none")
  obtain ⟨z0, z1, z2, z3⟩ := Z.out
  exact bodyPost_ret (v := .agg #[.int .i64 A, .int .i64 B, .bool P, .bool Q]) (by simp [results, Tryz.results25, go_sem, z0, z1, z2, z3]) rfl ⟨rfl, HBZ.out⟩
set_option maxRecDepth 100000 in
set_option maxHeartbeats 600000 in
theorem rext_out1_8_true (lo hi : Int) (p q : Bool) (E F A B : Int) (P Q : Bool) (hrd : ∀ w, Calls Tryz.prog 39 #[.agg #[.int .i64 lo, .int .i64 hi, .bool p, .bool q]] w (Ret w (.agg #[.int .i64 E, .int .i64 F]))) (h1 : decide (-128 ≤ E) = true) (h2 : decide (F ≤ 127) = false) (hsi : (∀ w, Calls Tryz.prog 52 #[.agg #[.int .i64 lo, .int .i64 hi, .bool p, .bool q]] w (Ret w (.bool false)))) (hfin : (∀ w, Calls Tryz.prog 53 #[.int .i64 0, .int .i64 4294967295] w (Ret w (.agg #[.int .i64 A, .int .i64 B, .bool P, .bool Q])))) (w : World) :
    Calls Tryz.prog 25 #[.int .i64 8, .bool true, .agg #[.int .i64 lo, .int .i64 hi, .bool p, .bool q]] w (Ret w (.agg #[.int .i64 A, .int .i64 B, .bool P, .bool Q])) := by
  have HRD := Lib.hid hrd
  have Hhsi := Lib.hid hsi
  have Hhfin := Lib.hid hfin
  clear hrd hsi hfin
  have r1 : Row ((w.alloc (.cells #[.int .i64 lo, .int .i64 hi, .bool p, .bool q] 23)).alloc (.cells #[.int .i64 0, .int .i64 0, .bool false, .bool false] 23)) w.heap.size 23 (spc lo hi p q) := (Row.made w (spc lo hi p q) 23).alloc _
  have r2 : Row ((w.alloc (.cells #[.int .i64 lo, .int .i64 hi, .bool p, .bool q] 23)).alloc (.cells #[.int .i64 0, .int .i64 0, .bool false, .bool false] 23)) (w.heap.size + 1) 23 (spc 0 0 false false) := row2 w _ (spc 0 0 false false) _
  have b3 : Below w.heap.size w ((w.alloc (.cells #[.int .i64 lo, .int .i64 hi, .bool p, .bool q] 23)).alloc (.cells #[.int .i64 0, .int .i64 0, .bool false, .bool false] 23)) := (below_map w _).alloc (by simp) _
  have HR := Lib.hid (And.intro r1 (And.intro r2 b3))
  clear r1 r2 b3
  go_enter Tryz.func25, Tryz.ntmps25
  go_upto_region 4 with (go_at_call 39; refine (HRD.out _).mono ?_; rintro e w1 ⟨rfl, hB⟩)
  have hk : SK w w1.heap.size 66 E F lo hi p q (w1.alloc (.cells #[.int .i64 E, .int .i64 F] 66)) :=
    ⟨(HR.out.1.below hB HR.out.1.lt).alloc _, (HR.out.2.1.below hB HR.out.2.1.lt).alloc _, Row.made w1 (edc E F) 66, (HR.out.2.2.trans (hB.mono HR.out.2.2.size)).trans ((below_map w1 _).mono (Nat.le_trans HR.out.2.2.size hB.size))⟩
  clear hB
  obtain ⟨b, hb⟩ : ∃ b, b = w1.heap.size := ⟨_, rfl⟩
  rw [← hb] at hk
  simp only [← hb]
  clear hb
  generalize World.alloc _ _ = wc at hk ⊢
  have HK := Lib.hid hk
  obtain ⟨⟨x0, x1⟩, ⟨a0, a1, a2, a3⟩, ⟨q0, q1, q2, q3⟩, f0, f1, f2, f3⟩ := hk.all
  clear hk HR
  go_wp2_with (first
    | (go_at_call 52; (refine (Hhsi.out _).mono ?_; rintro e w' ⟨rfl, hB⟩; have hk := HK.out.below hB; have HK := Lib.hid hk; obtain ⟨⟨x0, x1⟩, ⟨a0, a1, a2, a3⟩, ⟨q0, q1, q2, q3⟩, f0, f1, f2, f3⟩ := hk.all; clear hk hB))
    | (go_at_call 53; (refine (Hhfin.out _).mono ?_; rintro e w' ⟨rfl, hB⟩; have hk := HK.out.below hB; have HK := Lib.hid hk; obtain ⟨⟨x0, x1⟩, ⟨a0, a1, a2, a3⟩, ⟨q0, q1, q2, q3⟩, f0, f1, f2, f3⟩ := hk.all; obtain ⟨⟨z0, z1, z2, z3⟩, _⟩ := spc_row (spc_put hk.res A B P Q); have HBZ := Lib.hid (below_set4 hk.bel (Nat.le_succ w.heap.size) (.int .i64 A) (.int .i64 B) (.bool P) (.bool Q)); have Z := Lib.hid (And.intro z0 (And.intro z1 (And.intro z2 z3))); clear z0 z1 z2 z3; clear hk hB))
    | fail "none")
  obtain ⟨z0, z1, z2, z3⟩ := Z.out
  exact bodyPost_ret (v := .agg #[.int .i64 A, .int .i64 B, .bool P, .bool Q]) (by simp [results, Tryz.results25, go_sem, z0, z1, z2, z3]) rfl ⟨rfl, HBZ.out⟩
set_option maxRecDepth 100000 in
set_option maxHeartbeats 600000 in
theorem rext_one_16_false (s : Int) (lo hi : Int) (p q : Bool) (E F A B : Int) (P Q : Bool) (hrd : ∀ w, Calls Tryz.prog 39 #[.agg #[.int .i64 lo, .int .i64 hi, .bool p, .bool q]] w (Ret w (.agg #[.int .i64 E, .int .i64 F]))) (hsi : (∀ w, Calls Tryz.prog 52 #[.agg #[.int .i64 lo, .int .i64 hi, .bool p, .bool q]] w (Ret w (.bool true)))) (hw : (∀ w, Calls Tryz.prog 28 #[.int .i64 16, .bool false, .int .i64 E] w (Ret w (.int .i64 s)))) (hfin : (∀ w, Calls Tryz.prog 53 #[.int .i64 s, .int .i64 s] w (Ret w (.agg #[.int .i64 A, .int .i64 B, .bool P, .bool Q])))) (w : World) :
    Calls Tryz.prog 25 #[.int .i64 16, .bool false, .agg #[.int .i64 lo, .int .i64 hi, .bool p, .bool q]] w (Ret w (.agg #[.int .i64 A, .int .i64 B, .bool P, .bool Q])) := by
  have HRD := Lib.hid hrd
  have Hhsi := Lib.hid hsi
  have Hhw := Lib.hid hw
  have Hhfin := Lib.hid hfin
  clear hrd hsi hw hfin
  have r1 : Row ((w.alloc (.cells #[.int .i64 lo, .int .i64 hi, .bool p, .bool q] 23)).alloc (.cells #[.int .i64 0, .int .i64 0, .bool false, .bool false] 23)) w.heap.size 23 (spc lo hi p q) := (Row.made w (spc lo hi p q) 23).alloc _
  have r2 : Row ((w.alloc (.cells #[.int .i64 lo, .int .i64 hi, .bool p, .bool q] 23)).alloc (.cells #[.int .i64 0, .int .i64 0, .bool false, .bool false] 23)) (w.heap.size + 1) 23 (spc 0 0 false false) := row2 w _ (spc 0 0 false false) _
  have b3 : Below w.heap.size w ((w.alloc (.cells #[.int .i64 lo, .int .i64 hi, .bool p, .bool q] 23)).alloc (.cells #[.int .i64 0, .int .i64 0, .bool false, .bool false] 23)) := (below_map w _).alloc (by simp) _
  have HR := Lib.hid (And.intro r1 (And.intro r2 b3))
  clear r1 r2 b3
  go_enter Tryz.func25, Tryz.ntmps25
  go_upto_region 4 with (go_at_call 39; refine (HRD.out _).mono ?_; rintro e w1 ⟨rfl, hB⟩)
  have hk : SK w w1.heap.size 66 E F lo hi p q (w1.alloc (.cells #[.int .i64 E, .int .i64 F] 66)) :=
    ⟨(HR.out.1.below hB HR.out.1.lt).alloc _, (HR.out.2.1.below hB HR.out.2.1.lt).alloc _, Row.made w1 (edc E F) 66, (HR.out.2.2.trans (hB.mono HR.out.2.2.size)).trans ((below_map w1 _).mono (Nat.le_trans HR.out.2.2.size hB.size))⟩
  clear hB
  obtain ⟨b, hb⟩ : ∃ b, b = w1.heap.size := ⟨_, rfl⟩
  rw [← hb] at hk
  simp only [← hb]
  clear hb
  generalize World.alloc _ _ = wc at hk ⊢
  have HK := Lib.hid hk
  obtain ⟨⟨x0, x1⟩, ⟨a0, a1, a2, a3⟩, ⟨q0, q1, q2, q3⟩, f0, f1, f2, f3⟩ := hk.all
  clear hk HR
  go_wp2_with (first
    | (go_at_call 52; (refine (Hhsi.out _).mono ?_; rintro e w' ⟨rfl, hB⟩; have hk := HK.out.below hB; have HK := Lib.hid hk; obtain ⟨⟨x0, x1⟩, ⟨a0, a1, a2, a3⟩, ⟨q0, q1, q2, q3⟩, f0, f1, f2, f3⟩ := hk.all; clear hk hB))
    | (go_at_call 28; (refine (Hhw.out _).mono ?_; rintro e w' ⟨rfl, hB⟩; have hk := HK.out.below hB; have HK := Lib.hid hk; obtain ⟨⟨x0, x1⟩, ⟨a0, a1, a2, a3⟩, ⟨q0, q1, q2, q3⟩, f0, f1, f2, f3⟩ := hk.all; clear hk hB))
    | (go_at_call 53; (refine (Hhfin.out _).mono ?_; rintro e w' ⟨rfl, hB⟩; have hk := HK.out.below hB; have HK := Lib.hid hk; obtain ⟨⟨x0, x1⟩, ⟨a0, a1, a2, a3⟩, ⟨q0, q1, q2, q3⟩, f0, f1, f2, f3⟩ := hk.all; obtain ⟨⟨z0, z1, z2, z3⟩, _⟩ := spc_row (spc_put hk.res A B P Q); have HBZ := Lib.hid (below_set4 hk.bel (Nat.le_succ w.heap.size) (.int .i64 A) (.int .i64 B) (.bool P) (.bool Q)); have Z := Lib.hid (And.intro z0 (And.intro z1 (And.intro z2 z3))); clear z0 z1 z2 z3; clear hk hB))
    | fail "none")
  obtain ⟨z0, z1, z2, z3⟩ := Z.out
  exact bodyPost_ret (v := .agg #[.int .i64 A, .int .i64 B, .bool P, .bool Q]) (by simp [results, Tryz.results25, go_sem, z0, z1, z2, z3]) rfl ⟨rfl, HBZ.out⟩
set_option maxRecDepth 100000 in
set_option maxHeartbeats 600000 in
theorem rext_in_16_false (lo hi : Int) (p q : Bool) (E F A B : Int) (P Q : Bool) (hrd : ∀ w, Calls Tryz.prog 39 #[.agg #[.int .i64 lo, .int .i64 hi, .bool p, .bool q]] w (Ret w (.agg #[.int .i64 E, .int .i64 F]))) (h1 : decide (-32768 ≤ E) = true) (h2 : decide (F ≤ 32767) = true) (hsi : (∀ w, Calls Tryz.prog 52 #[.agg #[.int .i64 lo, .int .i64 hi, .bool p, .bool q]] w (Ret w (.bool false)))) (hfin : (∀ w, Calls Tryz.prog 54 #[.agg #[.int .i64 lo, .int .i64 hi, .bool p, .bool q]] w (Ret w (.agg #[.int .i64 A, .int .i64 B, .bool P, .bool Q])))) (w : World) :
    Calls Tryz.prog 25 #[.int .i64 16, .bool false, .agg #[.int .i64 lo, .int .i64 hi, .bool p, .bool q]] w (Ret w (.agg #[.int .i64 A, .int .i64 B, .bool P, .bool Q])) := by
  have HRD := Lib.hid hrd
  have Hhsi := Lib.hid hsi
  have Hhfin := Lib.hid hfin
  clear hrd hsi hfin
  have r1 : Row ((w.alloc (.cells #[.int .i64 lo, .int .i64 hi, .bool p, .bool q] 23)).alloc (.cells #[.int .i64 0, .int .i64 0, .bool false, .bool false] 23)) w.heap.size 23 (spc lo hi p q) := (Row.made w (spc lo hi p q) 23).alloc _
  have r2 : Row ((w.alloc (.cells #[.int .i64 lo, .int .i64 hi, .bool p, .bool q] 23)).alloc (.cells #[.int .i64 0, .int .i64 0, .bool false, .bool false] 23)) (w.heap.size + 1) 23 (spc 0 0 false false) := row2 w _ (spc 0 0 false false) _
  have b3 : Below w.heap.size w ((w.alloc (.cells #[.int .i64 lo, .int .i64 hi, .bool p, .bool q] 23)).alloc (.cells #[.int .i64 0, .int .i64 0, .bool false, .bool false] 23)) := (below_map w _).alloc (by simp) _
  have HR := Lib.hid (And.intro r1 (And.intro r2 b3))
  clear r1 r2 b3
  go_enter Tryz.func25, Tryz.ntmps25
  go_upto_region 4 with (go_at_call 39; refine (HRD.out _).mono ?_; rintro e w1 ⟨rfl, hB⟩)
  have hk : SK w w1.heap.size 66 E F lo hi p q (w1.alloc (.cells #[.int .i64 E, .int .i64 F] 66)) :=
    ⟨(HR.out.1.below hB HR.out.1.lt).alloc _, (HR.out.2.1.below hB HR.out.2.1.lt).alloc _, Row.made w1 (edc E F) 66, (HR.out.2.2.trans (hB.mono HR.out.2.2.size)).trans ((below_map w1 _).mono (Nat.le_trans HR.out.2.2.size hB.size))⟩
  clear hB
  obtain ⟨b, hb⟩ : ∃ b, b = w1.heap.size := ⟨_, rfl⟩
  rw [← hb] at hk
  simp only [← hb]
  clear hb
  generalize World.alloc _ _ = wc at hk ⊢
  have HK := Lib.hid hk
  obtain ⟨⟨x0, x1⟩, ⟨a0, a1, a2, a3⟩, ⟨q0, q1, q2, q3⟩, f0, f1, f2, f3⟩ := hk.all
  clear hk HR
  go_wp2_with (first
    | (go_at_call 52; (refine (Hhsi.out _).mono ?_; rintro e w' ⟨rfl, hB⟩; have hk := HK.out.below hB; have HK := Lib.hid hk; obtain ⟨⟨x0, x1⟩, ⟨a0, a1, a2, a3⟩, ⟨q0, q1, q2, q3⟩, f0, f1, f2, f3⟩ := hk.all; clear hk hB))
    | (go_at_call 54; (refine (Hhfin.out _).mono ?_; rintro e w' ⟨rfl, hB⟩; have hk := HK.out.below hB; have HK := Lib.hid hk; obtain ⟨⟨x0, x1⟩, ⟨a0, a1, a2, a3⟩, ⟨q0, q1, q2, q3⟩, f0, f1, f2, f3⟩ := hk.all; obtain ⟨⟨z0, z1, z2, z3⟩, _⟩ := spc_row (spc_put hk.res A B P Q); have HBZ := Lib.hid (below_set4 hk.bel (Nat.le_succ w.heap.size) (.int .i64 A) (.int .i64 B) (.bool P) (.bool Q)); have Z := Lib.hid (And.intro z0 (And.intro z1 (And.intro z2 z3))); clear z0 z1 z2 z3; clear hk hB))
    | fail "none")
  obtain ⟨z0, z1, z2, z3⟩ := Z.out
  exact bodyPost_ret (v := .agg #[.int .i64 A, .int .i64 B, .bool P, .bool Q]) (by simp [results, Tryz.results25, go_sem, z0, z1, z2, z3]) rfl ⟨rfl, HBZ.out⟩
set_option maxRecDepth 100000 in
set_option maxHeartbeats 600000 in
theorem rext_out0_16_false (lo hi : Int) (p q : Bool) (E F A B : Int) (P Q : Bool) (hrd : ∀ w, Calls Tryz.prog 39 #[.agg #[.int .i64 lo, .int .i64 hi, .bool p, .bool q]] w (Ret w (.agg #[.int .i64 E, .int .i64 F]))) (h1 : decide (-32768 ≤ E) = false) (hsi : (∀ w, Calls Tryz.prog 52 #[.agg #[.int .i64 lo, .int .i64 hi, .bool p, .bool q]] w (Ret w (.bool false)))) (hfin : (∀ w, Calls Tryz.prog 53 #[.int .i64 (-32768), .int .i64 32767] w (Ret w (.agg #[.int .i64 A, .int .i64 B, .bool P, .bool Q])))) (w : World) :
    Calls Tryz.prog 25 #[.int .i64 16, .bool false, .agg #[.int .i64 lo, .int .i64 hi, .bool p, .bool q]] w (Ret w (.agg #[.int .i64 A, .int .i64 B, .bool P, .bool Q])) := by
  have HRD := Lib.hid hrd
  have Hhsi := Lib.hid hsi
  have Hhfin := Lib.hid hfin
  clear hrd hsi hfin
  have r1 : Row ((w.alloc (.cells #[.int .i64 lo, .int .i64 hi, .bool p, .bool q] 23)).alloc (.cells #[.int .i64 0, .int .i64 0, .bool false, .bool false] 23)) w.heap.size 23 (spc lo hi p q) := (Row.made w (spc lo hi p q) 23).alloc _
  have r2 : Row ((w.alloc (.cells #[.int .i64 lo, .int .i64 hi, .bool p, .bool q] 23)).alloc (.cells #[.int .i64 0, .int .i64 0, .bool false, .bool false] 23)) (w.heap.size + 1) 23 (spc 0 0 false false) := row2 w _ (spc 0 0 false false) _
  have b3 : Below w.heap.size w ((w.alloc (.cells #[.int .i64 lo, .int .i64 hi, .bool p, .bool q] 23)).alloc (.cells #[.int .i64 0, .int .i64 0, .bool false, .bool false] 23)) := (below_map w _).alloc (by simp) _
  have HR := Lib.hid (And.intro r1 (And.intro r2 b3))
  clear r1 r2 b3
  go_enter Tryz.func25, Tryz.ntmps25
  go_upto_region 4 with (go_at_call 39; refine (HRD.out _).mono ?_; rintro e w1 ⟨rfl, hB⟩)
  have hk : SK w w1.heap.size 66 E F lo hi p q (w1.alloc (.cells #[.int .i64 E, .int .i64 F] 66)) :=
    ⟨(HR.out.1.below hB HR.out.1.lt).alloc _, (HR.out.2.1.below hB HR.out.2.1.lt).alloc _, Row.made w1 (edc E F) 66, (HR.out.2.2.trans (hB.mono HR.out.2.2.size)).trans ((below_map w1 _).mono (Nat.le_trans HR.out.2.2.size hB.size))⟩
  clear hB
  obtain ⟨b, hb⟩ : ∃ b, b = w1.heap.size := ⟨_, rfl⟩
  rw [← hb] at hk
  simp only [← hb]
  clear hb
  generalize World.alloc _ _ = wc at hk ⊢
  have HK := Lib.hid hk
  obtain ⟨⟨x0, x1⟩, ⟨a0, a1, a2, a3⟩, ⟨q0, q1, q2, q3⟩, f0, f1, f2, f3⟩ := hk.all
  clear hk HR
  go_wp2_with (first
    | (go_at_call 52; (refine (Hhsi.out _).mono ?_; rintro e w' ⟨rfl, hB⟩; have hk := HK.out.below hB; have HK := Lib.hid hk; obtain ⟨⟨x0, x1⟩, ⟨a0, a1, a2, a3⟩, ⟨q0, q1, q2, q3⟩, f0, f1, f2, f3⟩ := hk.all; clear hk hB))
    | (go_at_call 53; (refine (Hhfin.out _).mono ?_; rintro e w' ⟨rfl, hB⟩; have hk := HK.out.below hB; have HK := Lib.hid hk; obtain ⟨⟨x0, x1⟩, ⟨a0, a1, a2, a3⟩, ⟨q0, q1, q2, q3⟩, f0, f1, f2, f3⟩ := hk.all; obtain ⟨⟨z0, z1, z2, z3⟩, _⟩ := spc_row (spc_put hk.res A B P Q); have HBZ := Lib.hid (below_set4 hk.bel (Nat.le_succ w.heap.size) (.int .i64 A) (.int .i64 B) (.bool P) (.bool Q)); have Z := Lib.hid (And.intro z0 (And.intro z1 (And.intro z2 z3))); clear z0 z1 z2 z3; clear hk hB))
    | fail "none")
  obtain ⟨z0, z1, z2, z3⟩ := Z.out
  exact bodyPost_ret (v := .agg #[.int .i64 A, .int .i64 B, .bool P, .bool Q]) (by simp [results, Tryz.results25, go_sem, z0, z1, z2, z3]) rfl ⟨rfl, HBZ.out⟩
set_option maxRecDepth 100000 in
set_option maxHeartbeats 600000 in
theorem rext_out1_16_false (lo hi : Int) (p q : Bool) (E F A B : Int) (P Q : Bool) (hrd : ∀ w, Calls Tryz.prog 39 #[.agg #[.int .i64 lo, .int .i64 hi, .bool p, .bool q]] w (Ret w (.agg #[.int .i64 E, .int .i64 F]))) (h1 : decide (-32768 ≤ E) = true) (h2 : decide (F ≤ 32767) = false) (hsi : (∀ w, Calls Tryz.prog 52 #[.agg #[.int .i64 lo, .int .i64 hi, .bool p, .bool q]] w (Ret w (.bool false)))) (hfin : (∀ w, Calls Tryz.prog 53 #[.int .i64 (-32768), .int .i64 32767] w (Ret w (.agg #[.int .i64 A, .int .i64 B, .bool P, .bool Q])))) (w : World) :
    Calls Tryz.prog 25 #[.int .i64 16, .bool false, .agg #[.int .i64 lo, .int .i64 hi, .bool p, .bool q]] w (Ret w (.agg #[.int .i64 A, .int .i64 B, .bool P, .bool Q])) := by
  have HRD := Lib.hid hrd
  have Hhsi := Lib.hid hsi
  have Hhfin := Lib.hid hfin
  clear hrd hsi hfin
  have r1 : Row ((w.alloc (.cells #[.int .i64 lo, .int .i64 hi, .bool p, .bool q] 23)).alloc (.cells #[.int .i64 0, .int .i64 0, .bool false, .bool false] 23)) w.heap.size 23 (spc lo hi p q) := (Row.made w (spc lo hi p q) 23).alloc _
  have r2 : Row ((w.alloc (.cells #[.int .i64 lo, .int .i64 hi, .bool p, .bool q] 23)).alloc (.cells #[.int .i64 0, .int .i64 0, .bool false, .bool false] 23)) (w.heap.size + 1) 23 (spc 0 0 false false) := row2 w _ (spc 0 0 false false) _
  have b3 : Below w.heap.size w ((w.alloc (.cells #[.int .i64 lo, .int .i64 hi, .bool p, .bool q] 23)).alloc (.cells #[.int .i64 0, .int .i64 0, .bool false, .bool false] 23)) := (below_map w _).alloc (by simp) _
  have HR := Lib.hid (And.intro r1 (And.intro r2 b3))
  clear r1 r2 b3
  go_enter Tryz.func25, Tryz.ntmps25
  go_upto_region 4 with (go_at_call 39; refine (HRD.out _).mono ?_; rintro e w1 ⟨rfl, hB⟩)
  have hk : SK w w1.heap.size 66 E F lo hi p q (w1.alloc (.cells #[.int .i64 E, .int .i64 F] 66)) :=
    ⟨(HR.out.1.below hB HR.out.1.lt).alloc _, (HR.out.2.1.below hB HR.out.2.1.lt).alloc _, Row.made w1 (edc E F) 66, (HR.out.2.2.trans (hB.mono HR.out.2.2.size)).trans ((below_map w1 _).mono (Nat.le_trans HR.out.2.2.size hB.size))⟩
  clear hB
  obtain ⟨b, hb⟩ : ∃ b, b = w1.heap.size := ⟨_, rfl⟩
  rw [← hb] at hk
  simp only [← hb]
  clear hb
  generalize World.alloc _ _ = wc at hk ⊢
  have HK := Lib.hid hk
  obtain ⟨⟨x0, x1⟩, ⟨a0, a1, a2, a3⟩, ⟨q0, q1, q2, q3⟩, f0, f1, f2, f3⟩ := hk.all
  clear hk HR
  go_wp2_with (first
    | (go_at_call 52; (refine (Hhsi.out _).mono ?_; rintro e w' ⟨rfl, hB⟩; have hk := HK.out.below hB; have HK := Lib.hid hk; obtain ⟨⟨x0, x1⟩, ⟨a0, a1, a2, a3⟩, ⟨q0, q1, q2, q3⟩, f0, f1, f2, f3⟩ := hk.all; clear hk hB))
    | (go_at_call 53; (refine (Hhfin.out _).mono ?_; rintro e w' ⟨rfl, hB⟩; have hk := HK.out.below hB; have HK := Lib.hid hk; obtain ⟨⟨x0, x1⟩, ⟨a0, a1, a2, a3⟩, ⟨q0, q1, q2, q3⟩, f0, f1, f2, f3⟩ := hk.all; obtain ⟨⟨z0, z1, z2, z3⟩, _⟩ := spc_row (spc_put hk.res A B P Q); have HBZ := Lib.hid (below_set4 hk.bel (Nat.le_succ w.heap.size) (.int .i64 A) (.int .i64 B) (.bool P) (.bool Q)); have Z := Lib.hid (And.intro z0 (And.intro z1 (And.intro z2 z3))); clear z0 z1 z2 z3; clear hk hB))
    | fail "none")
  obtain ⟨z0, z1, z2, z3⟩ := Z.out
  exact bodyPost_ret (v := .agg #[.int .i64 A, .int .i64 B, .bool P, .bool Q]) (by simp [results, Tryz.results25, go_sem, z0, z1, z2, z3]) rfl ⟨rfl, HBZ.out⟩
set_option maxRecDepth 100000 in
set_option maxHeartbeats 600000 in
theorem rext_one_16_true (s : Int) (lo hi : Int) (p q : Bool) (E F A B : Int) (P Q : Bool) (hrd : ∀ w, Calls Tryz.prog 39 #[.agg #[.int .i64 lo, .int .i64 hi, .bool p, .bool q]] w (Ret w (.agg #[.int .i64 E, .int .i64 F]))) (hsi : (∀ w, Calls Tryz.prog 52 #[.agg #[.int .i64 lo, .int .i64 hi, .bool p, .bool q]] w (Ret w (.bool true)))) (hw : (∀ w, Calls Tryz.prog 28 #[.int .i64 16, .bool true, .int .i64 E] w (Ret w (.int .i64 s)))) (hfin : (∀ w, Calls Tryz.prog 53 #[.int .i64 s, .int .i64 s] w (Ret w (.agg #[.int .i64 A, .int .i64 B, .bool P, .bool Q])))) (w : World) :
    Calls Tryz.prog 25 #[.int .i64 16, .bool true, .agg #[.int .i64 lo, .int .i64 hi, .bool p, .bool q]] w (Ret w (.agg #[.int .i64 A, .int .i64 B, .bool P, .bool Q])) := by
  have HRD := Lib.hid hrd
  have Hhsi := Lib.hid hsi
  have Hhw := Lib.hid hw
  have Hhfin := Lib.hid hfin
  clear hrd hsi hw hfin
  have r1 : Row ((w.alloc (.cells #[.int .i64 lo, .int .i64 hi, .bool p, .bool q] 23)).alloc (.cells #[.int .i64 0, .int .i64 0, .bool false, .bool false] 23)) w.heap.size 23 (spc lo hi p q) := (Row.made w (spc lo hi p q) 23).alloc _
  have r2 : Row ((w.alloc (.cells #[.int .i64 lo, .int .i64 hi, .bool p, .bool q] 23)).alloc (.cells #[.int .i64 0, .int .i64 0, .bool false, .bool false] 23)) (w.heap.size + 1) 23 (spc 0 0 false false) := row2 w _ (spc 0 0 false false) _
  have b3 : Below w.heap.size w ((w.alloc (.cells #[.int .i64 lo, .int .i64 hi, .bool p, .bool q] 23)).alloc (.cells #[.int .i64 0, .int .i64 0, .bool false, .bool false] 23)) := (below_map w _).alloc (by simp) _
  have HR := Lib.hid (And.intro r1 (And.intro r2 b3))
  clear r1 r2 b3
  go_enter Tryz.func25, Tryz.ntmps25
  go_upto_region 4 with (go_at_call 39; refine (HRD.out _).mono ?_; rintro e w1 ⟨rfl, hB⟩)
  have hk : SK w w1.heap.size 66 E F lo hi p q (w1.alloc (.cells #[.int .i64 E, .int .i64 F] 66)) :=
    ⟨(HR.out.1.below hB HR.out.1.lt).alloc _, (HR.out.2.1.below hB HR.out.2.1.lt).alloc _, Row.made w1 (edc E F) 66, (HR.out.2.2.trans (hB.mono HR.out.2.2.size)).trans ((below_map w1 _).mono (Nat.le_trans HR.out.2.2.size hB.size))⟩
  clear hB
  obtain ⟨b, hb⟩ : ∃ b, b = w1.heap.size := ⟨_, rfl⟩
  rw [← hb] at hk
  simp only [← hb]
  clear hb
  generalize World.alloc _ _ = wc at hk ⊢
  have HK := Lib.hid hk
  obtain ⟨⟨x0, x1⟩, ⟨a0, a1, a2, a3⟩, ⟨q0, q1, q2, q3⟩, f0, f1, f2, f3⟩ := hk.all
  clear hk HR
  go_wp2_with (first
    | (go_at_call 52; (refine (Hhsi.out _).mono ?_; rintro e w' ⟨rfl, hB⟩; have hk := HK.out.below hB; have HK := Lib.hid hk; obtain ⟨⟨x0, x1⟩, ⟨a0, a1, a2, a3⟩, ⟨q0, q1, q2, q3⟩, f0, f1, f2, f3⟩ := hk.all; clear hk hB))
    | (go_at_call 28; (refine (Hhw.out _).mono ?_; rintro e w' ⟨rfl, hB⟩; have hk := HK.out.below hB; have HK := Lib.hid hk; obtain ⟨⟨x0, x1⟩, ⟨a0, a1, a2, a3⟩, ⟨q0, q1, q2, q3⟩, f0, f1, f2, f3⟩ := hk.all; clear hk hB))
    | (go_at_call 53; (refine (Hhfin.out _).mono ?_; rintro e w' ⟨rfl, hB⟩; have hk := HK.out.below hB; have HK := Lib.hid hk; obtain ⟨⟨x0, x1⟩, ⟨a0, a1, a2, a3⟩, ⟨q0, q1, q2, q3⟩, f0, f1, f2, f3⟩ := hk.all; obtain ⟨⟨z0, z1, z2, z3⟩, _⟩ := spc_row (spc_put hk.res A B P Q); have HBZ := Lib.hid (below_set4 hk.bel (Nat.le_succ w.heap.size) (.int .i64 A) (.int .i64 B) (.bool P) (.bool Q)); have Z := Lib.hid (And.intro z0 (And.intro z1 (And.intro z2 z3))); clear z0 z1 z2 z3; clear hk hB))
    | fail "none")
  obtain ⟨z0, z1, z2, z3⟩ := Z.out
  exact bodyPost_ret (v := .agg #[.int .i64 A, .int .i64 B, .bool P, .bool Q]) (by simp [results, Tryz.results25, go_sem, z0, z1, z2, z3]) rfl ⟨rfl, HBZ.out⟩
set_option maxRecDepth 100000 in
set_option maxHeartbeats 600000 in
theorem rext_in_16_true (lo hi : Int) (p q : Bool) (E F A B : Int) (P Q : Bool) (hrd : ∀ w, Calls Tryz.prog 39 #[.agg #[.int .i64 lo, .int .i64 hi, .bool p, .bool q]] w (Ret w (.agg #[.int .i64 E, .int .i64 F]))) (h1 : decide (-32768 ≤ E) = true) (h2 : decide (F ≤ 32767) = true) (h0 : decide (0 ≤ E) = true) (hsi : (∀ w, Calls Tryz.prog 52 #[.agg #[.int .i64 lo, .int .i64 hi, .bool p, .bool q]] w (Ret w (.bool false)))) (hfin : (∀ w, Calls Tryz.prog 54 #[.agg #[.int .i64 lo, .int .i64 hi, .bool p, .bool q]] w (Ret w (.agg #[.int .i64 A, .int .i64 B, .bool P, .bool Q])))) (w : World) :
    Calls Tryz.prog 25 #[.int .i64 16, .bool true, .agg #[.int .i64 lo, .int .i64 hi, .bool p, .bool q]] w (Ret w (.agg #[.int .i64 A, .int .i64 B, .bool P, .bool Q])) := by
  have HRD := Lib.hid hrd
  have Hhsi := Lib.hid hsi
  have Hhfin := Lib.hid hfin
  clear hrd hsi hfin
  have r1 : Row ((w.alloc (.cells #[.int .i64 lo, .int .i64 hi, .bool p, .bool q] 23)).alloc (.cells #[.int .i64 0, .int .i64 0, .bool false, .bool false] 23)) w.heap.size 23 (spc lo hi p q) := (Row.made w (spc lo hi p q) 23).alloc _
  have r2 : Row ((w.alloc (.cells #[.int .i64 lo, .int .i64 hi, .bool p, .bool q] 23)).alloc (.cells #[.int .i64 0, .int .i64 0, .bool false, .bool false] 23)) (w.heap.size + 1) 23 (spc 0 0 false false) := row2 w _ (spc 0 0 false false) _
  have b3 : Below w.heap.size w ((w.alloc (.cells #[.int .i64 lo, .int .i64 hi, .bool p, .bool q] 23)).alloc (.cells #[.int .i64 0, .int .i64 0, .bool false, .bool false] 23)) := (below_map w _).alloc (by simp) _
  have HR := Lib.hid (And.intro r1 (And.intro r2 b3))
  clear r1 r2 b3
  go_enter Tryz.func25, Tryz.ntmps25
  go_upto_region 4 with (go_at_call 39; refine (HRD.out _).mono ?_; rintro e w1 ⟨rfl, hB⟩)
  have hk : SK w w1.heap.size 66 E F lo hi p q (w1.alloc (.cells #[.int .i64 E, .int .i64 F] 66)) :=
    ⟨(HR.out.1.below hB HR.out.1.lt).alloc _, (HR.out.2.1.below hB HR.out.2.1.lt).alloc _, Row.made w1 (edc E F) 66, (HR.out.2.2.trans (hB.mono HR.out.2.2.size)).trans ((below_map w1 _).mono (Nat.le_trans HR.out.2.2.size hB.size))⟩
  clear hB
  obtain ⟨b, hb⟩ : ∃ b, b = w1.heap.size := ⟨_, rfl⟩
  rw [← hb] at hk
  simp only [← hb]
  clear hb
  generalize World.alloc _ _ = wc at hk ⊢
  have HK := Lib.hid hk
  obtain ⟨⟨x0, x1⟩, ⟨a0, a1, a2, a3⟩, ⟨q0, q1, q2, q3⟩, f0, f1, f2, f3⟩ := hk.all
  clear hk HR
  go_wp2_with (first
    | (go_at_call 52; (refine (Hhsi.out _).mono ?_; rintro e w' ⟨rfl, hB⟩; have hk := HK.out.below hB; have HK := Lib.hid hk; obtain ⟨⟨x0, x1⟩, ⟨a0, a1, a2, a3⟩, ⟨q0, q1, q2, q3⟩, f0, f1, f2, f3⟩ := hk.all; clear hk hB))
    | (go_at_call 54; (refine (Hhfin.out _).mono ?_; rintro e w' ⟨rfl, hB⟩; have hk := HK.out.below hB; have HK := Lib.hid hk; obtain ⟨⟨x0, x1⟩, ⟨a0, a1, a2, a3⟩, ⟨q0, q1, q2, q3⟩, f0, f1, f2, f3⟩ := hk.all; obtain ⟨⟨z0, z1, z2, z3⟩, _⟩ := spc_row (spc_put hk.res A B P Q); have HBZ := Lib.hid (below_set4 hk.bel (Nat.le_succ w.heap.size) (.int .i64 A) (.int .i64 B) (.bool P) (.bool Q)); have Z := Lib.hid (And.intro z0 (And.intro z1 (And.intro z2 z3))); clear z0 z1 z2 z3; clear hk hB))
    | fail "none")
  obtain ⟨z0, z1, z2, z3⟩ := Z.out
  exact bodyPost_ret (v := .agg #[.int .i64 A, .int .i64 B, .bool P, .bool Q]) (by simp [results, Tryz.results25, go_sem, z0, z1, z2, z3]) rfl ⟨rfl, HBZ.out⟩
set_option maxRecDepth 100000 in
set_option maxHeartbeats 600000 in
theorem rext_below_16_true (e1 e2 f1 f2 : Int) (lo hi : Int) (p q : Bool) (E F A B : Int) (P Q : Bool) (hrd : ∀ w, Calls Tryz.prog 39 #[.agg #[.int .i64 lo, .int .i64 hi, .bool p, .bool q]] w (Ret w (.agg #[.int .i64 E, .int .i64 F]))) (h1 : decide (-32768 ≤ E) = true) (h2 : decide (F ≤ 32767) = true) (h0 : decide (0 ≤ E) = false) (h3 : decide (F < 0) = true) (g1 : wrap64 (E + 4294967295) = e1) (g2 : wrap64 (e1 + 1) = e2) (g3 : wrap64 (F + 4294967295) = f1) (g4 : wrap64 (f1 + 1) = f2) (hsi : (∀ w, Calls Tryz.prog 52 #[.agg #[.int .i64 lo, .int .i64 hi, .bool p, .bool q]] w (Ret w (.bool false)))) (hfin : (∀ w, Calls Tryz.prog 53 #[.int .i64 e2, .int .i64 f2] w (Ret w (.agg #[.int .i64 A, .int .i64 B, .bool P, .bool Q])))) (w : World) :
    Calls Tryz.prog 25 #[.int .i64 16, .bool true, .agg #[.int .i64 lo, .int .i64 hi, .bool p, .bool q]] w (Ret w (.agg #[.int .i64 A, .int .i64 B, .bool P, .bool Q])) := by
  have HRD := Lib.hid hrd
  have Hhsi := Lib.hid hsi
  have Hhfin := Lib.hid hfin
  clear hrd hsi hfin
  have r1 : Row ((w.alloc (.cells #[.int .i64 lo, .int .i64 hi, .bool p, .bool q] 23)).alloc (.cells #[.int .i64 0, .int .i64 0, .bool false, .bool false] 23)) w.heap.size 23 (spc lo hi p q) := (Row.made w (spc lo hi p q) 23).alloc _
  have r2 : Row ((w.alloc (.cells #[.int .i64 lo, .int .i64 hi, .bool p, .bool q] 23)).alloc (.cells #[.int .i64 0, .int .i64 0, .bool false, .bool false] 23)) (w.heap.size + 1) 23 (spc 0 0 false false) := row2 w _ (spc 0 0 false false) _
  have b3 : Below w.heap.size w ((w.alloc (.cells #[.int .i64 lo, .int .i64 hi, .bool p, .bool q] 23)).alloc (.cells #[.int .i64 0, .int .i64 0, .bool false, .bool false] 23)) := (below_map w _).alloc (by simp) _
  have HR := Lib.hid (And.intro r1 (And.intro r2 b3))
  clear r1 r2 b3
  go_enter Tryz.func25, Tryz.ntmps25
  go_upto_region 4 with (go_at_call 39; refine (HRD.out _).mono ?_; rintro e w1 ⟨rfl, hB⟩)
  have hk : SK w w1.heap.size 66 E F lo hi p q (w1.alloc (.cells #[.int .i64 E, .int .i64 F] 66)) :=
    ⟨(HR.out.1.below hB HR.out.1.lt).alloc _, (HR.out.2.1.below hB HR.out.2.1.lt).alloc _, Row.made w1 (edc E F) 66, (HR.out.2.2.trans (hB.mono HR.out.2.2.size)).trans ((below_map w1 _).mono (Nat.le_trans HR.out.2.2.size hB.size))⟩
  clear hB
  obtain ⟨b, hb⟩ : ∃ b, b = w1.heap.size := ⟨_, rfl⟩
  rw [← hb] at hk
  simp only [← hb]
  clear hb
  generalize World.alloc _ _ = wc at hk ⊢
  have HK := Lib.hid hk
  obtain ⟨⟨x0, x1⟩, ⟨a0, a1, a2, a3⟩, ⟨q0, q1, q2, q3⟩, f0, f1, f2, f3⟩ := hk.all
  clear hk HR
  go_wp2_with (first
    | (go_at_call 52; (refine (Hhsi.out _).mono ?_; rintro e w' ⟨rfl, hB⟩; have hk := HK.out.below hB; have HK := Lib.hid hk; obtain ⟨⟨x0, x1⟩, ⟨a0, a1, a2, a3⟩, ⟨q0, q1, q2, q3⟩, f0, f1, f2, f3⟩ := hk.all; clear hk hB))
    | (go_at_call 53; (refine (Hhfin.out _).mono ?_; rintro e w' ⟨rfl, hB⟩; have hk := HK.out.below hB; have HK := Lib.hid hk; obtain ⟨⟨x0, x1⟩, ⟨a0, a1, a2, a3⟩, ⟨q0, q1, q2, q3⟩, f0, f1, f2, f3⟩ := hk.all; obtain ⟨⟨z0, z1, z2, z3⟩, _⟩ := spc_row (spc_put hk.res A B P Q); have HBZ := Lib.hid (below_set4 hk.bel (Nat.le_succ w.heap.size) (.int .i64 A) (.int .i64 B) (.bool P) (.bool Q)); have Z := Lib.hid (And.intro z0 (And.intro z1 (And.intro z2 z3))); clear z0 z1 z2 z3; clear hk hB))
    | fail "none")
  obtain ⟨z0, z1, z2, z3⟩ := Z.out
  exact bodyPost_ret (v := .agg #[.int .i64 A, .int .i64 B, .bool P, .bool Q]) (by simp [results, Tryz.results25, go_sem, z0, z1, z2, z3]) rfl ⟨rfl, HBZ.out⟩
set_option maxRecDepth 100000 in
set_option maxHeartbeats 600000 in
theorem rext_mix_16_true (lo hi : Int) (p q : Bool) (E F A B : Int) (P Q : Bool) (hrd : ∀ w, Calls Tryz.prog 39 #[.agg #[.int .i64 lo, .int .i64 hi, .bool p, .bool q]] w (Ret w (.agg #[.int .i64 E, .int .i64 F]))) (h1 : decide (-32768 ≤ E) = true) (h2 : decide (F ≤ 32767) = true) (h0 : decide (0 ≤ E) = false) (h3 : decide (F < 0) = false) (hsi : (∀ w, Calls Tryz.prog 52 #[.agg #[.int .i64 lo, .int .i64 hi, .bool p, .bool q]] w (Ret w (.bool false)))) (hfin : (∀ w, Calls Tryz.prog 53 #[.int .i64 0, .int .i64 4294967295] w (Ret w (.agg #[.int .i64 A, .int .i64 B, .bool P, .bool Q])))) (w : World) :
    Calls Tryz.prog 25 #[.int .i64 16, .bool true, .agg #[.int .i64 lo, .int .i64 hi, .bool p, .bool q]] w (Ret w (.agg #[.int .i64 A, .int .i64 B, .bool P, .bool Q])) := by
  have HRD := Lib.hid hrd
  have Hhsi := Lib.hid hsi
  have Hhfin := Lib.hid hfin
  clear hrd hsi hfin
  have r1 : Row ((w.alloc (.cells #[.int .i64 lo, .int .i64 hi, .bool p, .bool q] 23)).alloc (.cells #[.int .i64 0, .int .i64 0, .bool false, .bool false] 23)) w.heap.size 23 (spc lo hi p q) := (Row.made w (spc lo hi p q) 23).alloc _
  have r2 : Row ((w.alloc (.cells #[.int .i64 lo, .int .i64 hi, .bool p, .bool q] 23)).alloc (.cells #[.int .i64 0, .int .i64 0, .bool false, .bool false] 23)) (w.heap.size + 1) 23 (spc 0 0 false false) := row2 w _ (spc 0 0 false false) _
  have b3 : Below w.heap.size w ((w.alloc (.cells #[.int .i64 lo, .int .i64 hi, .bool p, .bool q] 23)).alloc (.cells #[.int .i64 0, .int .i64 0, .bool false, .bool false] 23)) := (below_map w _).alloc (by simp) _
  have HR := Lib.hid (And.intro r1 (And.intro r2 b3))
  clear r1 r2 b3
  go_enter Tryz.func25, Tryz.ntmps25
  go_upto_region 4 with (go_at_call 39; refine (HRD.out _).mono ?_; rintro e w1 ⟨rfl, hB⟩)
  have hk : SK w w1.heap.size 66 E F lo hi p q (w1.alloc (.cells #[.int .i64 E, .int .i64 F] 66)) :=
    ⟨(HR.out.1.below hB HR.out.1.lt).alloc _, (HR.out.2.1.below hB HR.out.2.1.lt).alloc _, Row.made w1 (edc E F) 66, (HR.out.2.2.trans (hB.mono HR.out.2.2.size)).trans ((below_map w1 _).mono (Nat.le_trans HR.out.2.2.size hB.size))⟩
  clear hB
  obtain ⟨b, hb⟩ : ∃ b, b = w1.heap.size := ⟨_, rfl⟩
  rw [← hb] at hk
  simp only [← hb]
  clear hb
  generalize World.alloc _ _ = wc at hk ⊢
  have HK := Lib.hid hk
  obtain ⟨⟨x0, x1⟩, ⟨a0, a1, a2, a3⟩, ⟨q0, q1, q2, q3⟩, f0, f1, f2, f3⟩ := hk.all
  clear hk HR
  go_wp2_with (first
    | (go_at_call 52; (refine (Hhsi.out _).mono ?_; rintro e w' ⟨rfl, hB⟩; have hk := HK.out.below hB; have HK := Lib.hid hk; obtain ⟨⟨x0, x1⟩, ⟨a0, a1, a2, a3⟩, ⟨q0, q1, q2, q3⟩, f0, f1, f2, f3⟩ := hk.all; clear hk hB))
    | (go_at_call 53; (refine (Hhfin.out _).mono ?_; rintro e w' ⟨rfl, hB⟩; have hk := HK.out.below hB; have HK := Lib.hid hk; obtain ⟨⟨x0, x1⟩, ⟨a0, a1, a2, a3⟩, ⟨q0, q1, q2, q3⟩, f0, f1, f2, f3⟩ := hk.all; obtain ⟨⟨z0, z1, z2, z3⟩, _⟩ := spc_row (spc_put hk.res A B P Q); have HBZ := Lib.hid (below_set4 hk.bel (Nat.le_succ w.heap.size) (.int .i64 A) (.int .i64 B) (.bool P) (.bool Q)); have Z := Lib.hid (And.intro z0 (And.intro z1 (And.intro z2 z3))); clear z0 z1 z2 z3; clear hk hB))
    | fail "none")
  obtain ⟨z0, z1, z2, z3⟩ := Z.out
  exact bodyPost_ret (v := .agg #[.int .i64 A, .int .i64 B, .bool P, .bool Q]) (by simp [results, Tryz.results25, go_sem, z0, z1, z2, z3]) rfl ⟨rfl, HBZ.out⟩
set_option maxRecDepth 100000 in
set_option maxHeartbeats 600000 in
theorem rext_out0_16_true (lo hi : Int) (p q : Bool) (E F A B : Int) (P Q : Bool) (hrd : ∀ w, Calls Tryz.prog 39 #[.agg #[.int .i64 lo, .int .i64 hi, .bool p, .bool q]] w (Ret w (.agg #[.int .i64 E, .int .i64 F]))) (h1 : decide (-32768 ≤ E) = false) (hsi : (∀ w, Calls Tryz.prog 52 #[.agg #[.int .i64 lo, .int .i64 hi, .bool p, .bool q]] w (Ret w (.bool false)))) (hfin : (∀ w, Calls Tryz.prog 53 #[.int .i64 0, .int .i64 4294967295] w (Ret w (.agg #[.int .i64 A, .int .i64 B, .bool P, .bool Q])))) (w : World) :
    Calls Tryz.prog 25 #[.int .i64 16, .bool true, .agg #[.int .i64 lo, .int .i64 hi, .bool p, .bool q]] w (Ret w (.agg #[.int .i64 A, .int .i64 B, .bool P, .bool Q])) := by
  have HRD := Lib.hid hrd
  have Hhsi := Lib.hid hsi
  have Hhfin := Lib.hid hfin
  clear hrd hsi hfin
  have r1 : Row ((w.alloc (.cells #[.int .i64 lo, .int .i64 hi, .bool p, .bool q] 23)).alloc (.cells #[.int .i64 0, .int .i64 0, .bool false, .bool false] 23)) w.heap.size 23 (spc lo hi p q) := (Row.made w (spc lo hi p q) 23).alloc _
  have r2 : Row ((w.alloc (.cells #[.int .i64 lo, .int .i64 hi, .bool p, .bool q] 23)).alloc (.cells #[.int .i64 0, .int .i64 0, .bool false, .bool false] 23)) (w.heap.size + 1) 23 (spc 0 0 false false) := row2 w _ (spc 0 0 false false) _
  have b3 : Below w.heap.size w ((w.alloc (.cells #[.int .i64 lo, .int .i64 hi, .bool p, .bool q] 23)).alloc (.cells #[.int .i64 0, .int .i64 0, .bool false, .bool false] 23)) := (below_map w _).alloc (by simp) _
  have HR := Lib.hid (And.intro r1 (And.intro r2 b3))
  clear r1 r2 b3
  go_enter Tryz.func25, Tryz.ntmps25
  go_upto_region 4 with (go_at_call 39; refine (HRD.out _).mono ?_; rintro e w1 ⟨rfl, hB⟩)
  have hk : SK w w1.heap.size 66 E F lo hi p q (w1.alloc (.cells #[.int .i64 E, .int .i64 F] 66)) :=
    ⟨(HR.out.1.below hB HR.out.1.lt).alloc _, (HR.out.2.1.below hB HR.out.2.1.lt).alloc _, Row.made w1 (edc E F) 66, (HR.out.2.2.trans (hB.mono HR.out.2.2.size)).trans ((below_map w1 _).mono (Nat.le_trans HR.out.2.2.size hB.size))⟩
  clear hB
  obtain ⟨b, hb⟩ : ∃ b, b = w1.heap.size := ⟨_, rfl⟩
  rw [← hb] at hk
  simp only [← hb]
  clear hb
  generalize World.alloc _ _ = wc at hk ⊢
  have HK := Lib.hid hk
  obtain ⟨⟨x0, x1⟩, ⟨a0, a1, a2, a3⟩, ⟨q0, q1, q2, q3⟩, f0, f1, f2, f3⟩ := hk.all
  clear hk HR
  go_wp2_with (first
    | (go_at_call 52; (refine (Hhsi.out _).mono ?_; rintro e w' ⟨rfl, hB⟩; have hk := HK.out.below hB; have HK := Lib.hid hk; obtain ⟨⟨x0, x1⟩, ⟨a0, a1, a2, a3⟩, ⟨q0, q1, q2, q3⟩, f0, f1, f2, f3⟩ := hk.all; clear hk hB))
    | (go_at_call 53; (refine (Hhfin.out _).mono ?_; rintro e w' ⟨rfl, hB⟩; have hk := HK.out.below hB; have HK := Lib.hid hk; obtain ⟨⟨x0, x1⟩, ⟨a0, a1, a2, a3⟩, ⟨q0, q1, q2, q3⟩, f0, f1, f2, f3⟩ := hk.all; obtain ⟨⟨z0, z1, z2, z3⟩, _⟩ := spc_row (spc_put hk.res A B P Q); have HBZ := Lib.hid (below_set4 hk.bel (Nat.le_succ w.heap.size) (.int .i64 A) (.int .i64 B) (.bool P) (.bool Q)); have Z := Lib.hid (And.intro z0 (And.intro z1 (And.intro z2 z3))); clear z0 z1 z2 z3; clear hk hB))
    | fail "none")
  obtain ⟨z0, z1, z2, z3⟩ := Z.out
  exact bodyPost_ret (v := .agg #[.int .i64 A, .int .i64 B, .bool P, .bool Q]) (by simp [results, Tryz.results25, go_sem, z0, z1, z2, z3]) rfl ⟨rfl, HBZ.out⟩
set_option maxRecDepth 100000 in
set_option maxHeartbeats 600000 in
theorem rext_out1_16_true (lo hi : Int) (p q : Bool) (E F A B : Int) (P Q : Bool) (hrd : ∀ w, Calls Tryz.prog 39 #[.agg #[.int .i64 lo, .int .i64 hi, .bool p, .bool q]] w (Ret w (.agg #[.int .i64 E, .int .i64 F]))) (h1 : decide (-32768 ≤ E) = true) (h2 : decide (F ≤ 32767) = false) (hsi : (∀ w, Calls Tryz.prog 52 #[.agg #[.int .i64 lo, .int .i64 hi, .bool p, .bool q]] w (Ret w (.bool false)))) (hfin : (∀ w, Calls Tryz.prog 53 #[.int .i64 0, .int .i64 4294967295] w (Ret w (.agg #[.int .i64 A, .int .i64 B, .bool P, .bool Q])))) (w : World) :
    Calls Tryz.prog 25 #[.int .i64 16, .bool true, .agg #[.int .i64 lo, .int .i64 hi, .bool p, .bool q]] w (Ret w (.agg #[.int .i64 A, .int .i64 B, .bool P, .bool Q])) := by
  have HRD := Lib.hid hrd
  have Hhsi := Lib.hid hsi
  have Hhfin := Lib.hid hfin
  clear hrd hsi hfin
  have r1 : Row ((w.alloc (.cells #[.int .i64 lo, .int .i64 hi, .bool p, .bool q] 23)).alloc (.cells #[.int .i64 0, .int .i64 0, .bool false, .bool false] 23)) w.heap.size 23 (spc lo hi p q) := (Row.made w (spc lo hi p q) 23).alloc _
  have r2 : Row ((w.alloc (.cells #[.int .i64 lo, .int .i64 hi, .bool p, .bool q] 23)).alloc (.cells #[.int .i64 0, .int .i64 0, .bool false, .bool false] 23)) (w.heap.size + 1) 23 (spc 0 0 false false) := row2 w _ (spc 0 0 false false) _
  have b3 : Below w.heap.size w ((w.alloc (.cells #[.int .i64 lo, .int .i64 hi, .bool p, .bool q] 23)).alloc (.cells #[.int .i64 0, .int .i64 0, .bool false, .bool false] 23)) := (below_map w _).alloc (by simp) _
  have HR := Lib.hid (And.intro r1 (And.intro r2 b3))
  clear r1 r2 b3
  go_enter Tryz.func25, Tryz.ntmps25
  go_upto_region 4 with (go_at_call 39; refine (HRD.out _).mono ?_; rintro e w1 ⟨rfl, hB⟩)
  have hk : SK w w1.heap.size 66 E F lo hi p q (w1.alloc (.cells #[.int .i64 E, .int .i64 F] 66)) :=
    ⟨(HR.out.1.below hB HR.out.1.lt).alloc _, (HR.out.2.1.below hB HR.out.2.1.lt).alloc _, Row.made w1 (edc E F) 66, (HR.out.2.2.trans (hB.mono HR.out.2.2.size)).trans ((below_map w1 _).mono (Nat.le_trans HR.out.2.2.size hB.size))⟩
  clear hB
  obtain ⟨b, hb⟩ : ∃ b, b = w1.heap.size := ⟨_, rfl⟩
  rw [← hb] at hk
  simp only [← hb]
  clear hb
  generalize World.alloc _ _ = wc at hk ⊢
  have HK := Lib.hid hk
  obtain ⟨⟨x0, x1⟩, ⟨a0, a1, a2, a3⟩, ⟨q0, q1, q2, q3⟩, f0, f1, f2, f3⟩ := hk.all
  clear hk HR
  go_wp2_with (first
    | (go_at_call 52; (refine (Hhsi.out _).mono ?_; rintro e w' ⟨rfl, hB⟩; have hk := HK.out.below hB; have HK := Lib.hid hk; obtain ⟨⟨x0, x1⟩, ⟨a0, a1, a2, a3⟩, ⟨q0, q1, q2, q3⟩, f0, f1, f2, f3⟩ := hk.all; clear hk hB))
    | (go_at_call 53; (refine (Hhfin.out _).mono ?_; rintro e w' ⟨rfl, hB⟩; have hk := HK.out.below hB; have HK := Lib.hid hk; obtain ⟨⟨x0, x1⟩, ⟨a0, a1, a2, a3⟩, ⟨q0, q1, q2, q3⟩, f0, f1, f2, f3⟩ := hk.all; obtain ⟨⟨z0, z1, z2, z3⟩, _⟩ := spc_row (spc_put hk.res A B P Q); have HBZ := Lib.hid (below_set4 hk.bel (Nat.le_succ w.heap.size) (.int .i64 A) (.int .i64 B) (.bool P) (.bool Q)); have Z := Lib.hid (And.intro z0 (And.intro z1 (And.intro z2 z3))); clear z0 z1 z2 z3; clear hk hB))
    | fail "none")
  obtain ⟨z0, z1, z2, z3⟩ := Z.out
  exact bodyPost_ret (v := .agg #[.int .i64 A, .int .i64 B, .bool P, .bool Q]) (by simp [results, Tryz.results25, go_sem, z0, z1, z2, z3]) rfl ⟨rfl, HBZ.out⟩
set_option maxRecDepth 100000 in
set_option maxHeartbeats 600000 in
theorem rext_one_32_false (s : Int) (lo hi : Int) (p q : Bool) (E F A B : Int) (P Q : Bool) (hrd : ∀ w, Calls Tryz.prog 39 #[.agg #[.int .i64 lo, .int .i64 hi, .bool p, .bool q]] w (Ret w (.agg #[.int .i64 E, .int .i64 F]))) (hsi : (∀ w, Calls Tryz.prog 52 #[.agg #[.int .i64 lo, .int .i64 hi, .bool p, .bool q]] w (Ret w (.bool true)))) (hw : (∀ w, Calls Tryz.prog 28 #[.int .i64 32, .bool false, .int .i64 E] w (Ret w (.int .i64 s)))) (hfin : (∀ w, Calls Tryz.prog 53 #[.int .i64 s, .int .i64 s] w (Ret w (.agg #[.int .i64 A, .int .i64 B, .bool P, .bool Q])))) (w : World) :
    Calls Tryz.prog 25 #[.int .i64 32, .bool false, .agg #[.int .i64 lo, .int .i64 hi, .bool p, .bool q]] w (Ret w (.agg #[.int .i64 A, .int .i64 B, .bool P, .bool Q])) := by
  have HRD := Lib.hid hrd
  have Hhsi := Lib.hid hsi
  have Hhw := Lib.hid hw
  have Hhfin := Lib.hid hfin
  clear hrd hsi hw hfin
  have r1 : Row ((w.alloc (.cells #[.int .i64 lo, .int .i64 hi, .bool p, .bool q] 23)).alloc (.cells #[.int .i64 0, .int .i64 0, .bool false, .bool false] 23)) w.heap.size 23 (spc lo hi p q) := (Row.made w (spc lo hi p q) 23).alloc _
  have r2 : Row ((w.alloc (.cells #[.int .i64 lo, .int .i64 hi, .bool p, .bool q] 23)).alloc (.cells #[.int .i64 0, .int .i64 0, .bool false, .bool false] 23)) (w.heap.size + 1) 23 (spc 0 0 false false) := row2 w _ (spc 0 0 false false) _
  have b3 : Below w.heap.size w ((w.alloc (.cells #[.int .i64 lo, .int .i64 hi, .bool p, .bool q] 23)).alloc (.cells #[.int .i64 0, .int .i64 0, .bool false, .bool false] 23)) := (below_map w _).alloc (by simp) _
  have HR := Lib.hid (And.intro r1 (And.intro r2 b3))
  clear r1 r2 b3
  go_enter Tryz.func25, Tryz.ntmps25
  go_upto_region 4 with (go_at_call 39; refine (HRD.out _).mono ?_; rintro e w1 ⟨rfl, hB⟩)
  have hk : SK w w1.heap.size 66 E F lo hi p q (w1.alloc (.cells #[.int .i64 E, .int .i64 F] 66)) :=
    ⟨(HR.out.1.below hB HR.out.1.lt).alloc _, (HR.out.2.1.below hB HR.out.2.1.lt).alloc _, Row.made w1 (edc E F) 66, (HR.out.2.2.trans (hB.mono HR.out.2.2.size)).trans ((below_map w1 _).mono (Nat.le_trans HR.out.2.2.size hB.size))⟩
  clear hB
  obtain ⟨b, hb⟩ : ∃ b, b = w1.heap.size := ⟨_, rfl⟩
  rw [← hb] at hk
  simp only [← hb]
  clear hb
  generalize World.alloc _ _ = wc at hk ⊢
  have HK := Lib.hid hk
  obtain ⟨⟨x0, x1⟩, ⟨a0, a1, a2, a3⟩, ⟨q0, q1, q2, q3⟩, f0, f1, f2, f3⟩ := hk.all
  clear hk HR
  go_wp2_with (first
    | (go_at_call 52; (refine (Hhsi.out _).mono ?_; rintro e w' ⟨rfl, hB⟩; have hk := HK.out.below hB; have HK := Lib.hid hk; obtain ⟨⟨x0, x1⟩, ⟨a0, a1, a2, a3⟩, ⟨q0, q1, q2, q3⟩, f0, f1, f2, f3⟩ := hk.all; clear hk hB))
    | (go_at_call 28; (refine (Hhw.out _).mono ?_; rintro e w' ⟨rfl, hB⟩; have hk := HK.out.below hB; have HK := Lib.hid hk; obtain ⟨⟨x0, x1⟩, ⟨a0, a1, a2, a3⟩, ⟨q0, q1, q2, q3⟩, f0, f1, f2, f3⟩ := hk.all; clear hk hB))
    | (go_at_call 53; (refine (Hhfin.out _).mono ?_; rintro e w' ⟨rfl, hB⟩; have hk := HK.out.below hB; have HK := Lib.hid hk; obtain ⟨⟨x0, x1⟩, ⟨a0, a1, a2, a3⟩, ⟨q0, q1, q2, q3⟩, f0, f1, f2, f3⟩ := hk.all; obtain ⟨⟨z0, z1, z2, z3⟩, _⟩ := spc_row (spc_put hk.res A B P Q); have HBZ := Lib.hid (below_set4 hk.bel (Nat.le_succ w.heap.size) (.int .i64 A) (.int .i64 B) (.bool P) (.bool Q)); have Z := Lib.hid (And.intro z0 (And.intro z1 (And.intro z2 z3))); clear z0 z1 z2 z3; clear hk hB))
    | fail "none")
  obtain ⟨z0, z1, z2, z3⟩ := Z.out
  exact bodyPost_ret (v := .agg #[.int .i64 A, .int .i64 B, .bool P, .bool Q]) (by simp [results, Tryz.results25, go_sem, z0, z1, z2, z3]) rfl ⟨rfl, HBZ.out⟩
set_option maxRecDepth 100000 in
set_option maxHeartbeats 600000 in
theorem rext_in_32_false (lo hi : Int) (p q : Bool) (E F A B : Int) (P Q : Bool) (hrd : ∀ w, Calls Tryz.prog 39 #[.agg #[.int .i64 lo, .int .i64 hi, .bool p, .bool q]] w (Ret w (.agg #[.int .i64 E, .int .i64 F]))) (h1 : decide (-2147483648 ≤ E) = true) (h2 : decide (F ≤ 2147483647) = true) (hsi : (∀ w, Calls Tryz.prog 52 #[.agg #[.int .i64 lo, .int .i64 hi, .bool p, .bool q]] w (Ret w (.bool false)))) (hfin : (∀ w, Calls Tryz.prog 54 #[.agg #[.int .i64 lo, .int .i64 hi, .bool p, .bool q]] w (Ret w (.agg #[.int .i64 A, .int .i64 B, .bool P, .bool Q])))) (w : World) :
    Calls Tryz.prog 25 #[.int .i64 32, .bool false, .agg #[.int .i64 lo, .int .i64 hi, .bool p, .bool q]] w (Ret w (.agg #[.int .i64 A, .int .i64 B, .bool P, .bool Q])) := by
  have HRD := Lib.hid hrd
  have Hhsi := Lib.hid hsi
  have Hhfin := Lib.hid hfin
  clear hrd hsi hfin
  have r1 : Row ((w.alloc (.cells #[.int .i64 lo, .int .i64 hi, .bool p, .bool q] 23)).alloc (.cells #[.int .i64 0, .int .i64 0, .bool false, .bool false] 23)) w.heap.size 23 (spc lo hi p q) := (Row.made w (spc lo hi p q) 23).alloc _
  have r2 : Row ((w.alloc (.cells #[.int .i64 lo, .int .i64 hi, .bool p, .bool q] 23)).alloc (.cells #[.int .i64 0, .int .i64 0, .bool false, .bool false] 23)) (w.heap.size + 1) 23 (spc 0 0 false false) := row2 w _ (spc 0 0 false false) _
  have b3 : Below w.heap.size w ((w.alloc (.cells #[.int .i64 lo, .int .i64 hi, .bool p, .bool q] 23)).alloc (.cells #[.int .i64 0, .int .i64 0, .bool false, .bool false] 23)) := (below_map w _).alloc (by simp) _
  have HR := Lib.hid (And.intro r1 (And.intro r2 b3))
  clear r1 r2 b3
  go_enter Tryz.func25, Tryz.ntmps25
  go_upto_region 4 with (go_at_call 39; refine (HRD.out _).mono ?_; rintro e w1 ⟨rfl, hB⟩)
  have hk : SK w w1.heap.size 66 E F lo hi p q (w1.alloc (.cells #[.int .i64 E, .int .i64 F] 66)) :=
    ⟨(HR.out.1.below hB HR.out.1.lt).alloc _, (HR.out.2.1.below hB HR.out.2.1.lt).alloc _, Row.made w1 (edc E F) 66, (HR.out.2.2.trans (hB.mono HR.out.2.2.size)).trans ((below_map w1 _).mono (Nat.le_trans HR.out.2.2.size hB.size))⟩
  clear hB
  obtain ⟨b, hb⟩ : ∃ b, b = w1.heap.size := ⟨_, rfl⟩
  rw [← hb] at hk
  simp only [← hb]
  clear hb
  generalize World.alloc _ _ = wc at hk ⊢
  have HK := Lib.hid hk
  obtain ⟨⟨x0, x1⟩, ⟨a0, a1, a2, a3⟩, ⟨q0, q1, q2, q3⟩, f0, f1, f2, f3⟩ := hk.all
  clear hk HR
  go_wp2_with (first
    | (go_at_call 52; (refine (Hhsi.out _).mono ?_; rintro e w' ⟨rfl, hB⟩; have hk := HK.out.below hB; have HK := Lib.hid hk; obtain ⟨⟨x0, x1⟩, ⟨a0, a1, a2, a3⟩, ⟨q0, q1, q2, q3⟩, f0, f1, f2, f3⟩ := hk.all; clear hk hB))
    | (go_at_call 54; (refine (Hhfin.out _).mono ?_; rintro e w' ⟨rfl, hB⟩; have hk := HK.out.below hB; have HK := Lib.hid hk; obtain ⟨⟨x0, x1⟩, ⟨a0, a1, a2, a3⟩, ⟨q0, q1, q2, q3⟩, f0, f1, f2, f3⟩ := hk.all; obtain ⟨⟨z0, z1, z2, z3⟩, _⟩ := spc_row (spc_put hk.res A B P Q); have HBZ := Lib.hid (below_set4 hk.bel (Nat.le_succ w.heap.size) (.int .i64 A) (.int .i64 B) (.bool P) (.bool Q)); have Z := Lib.hid (And.intro z0 (And.intro z1 (And.intro z2 z3))); clear z0 z1 z2 z3; clear hk hB))
    | fail "none")
  obtain ⟨z0, z1, z2, z3⟩ := Z.out
  exact bodyPost_ret (v := .agg #[.int .i64 A, .int .i64 B, .bool P, .bool Q]) (by simp [results, Tryz.results25, go_sem, z0, z1, z2, z3]) rfl ⟨rfl, HBZ.out⟩
set_option maxRecDepth 100000 in
set_option maxHeartbeats 600000 in
theorem rext_out0_32_false (lo hi : Int) (p q : Bool) (E F A B : Int) (P Q : Bool) (hrd : ∀ w, Calls Tryz.prog 39 #[.agg #[.int .i64 lo, .int .i64 hi, .bool p, .bool q]] w (Ret w (.agg #[.int .i64 E, .int .i64 F]))) (h1 : decide (-2147483648 ≤ E) = false) (hsi : (∀ w, Calls Tryz.prog 52 #[.agg #[.int .i64 lo, .int .i64 hi, .bool p, .bool q]] w (Ret w (.bool false)))) (hfin : (∀ w, Calls Tryz.prog 53 #[.int .i64 (-2147483648), .int .i64 2147483647] w (Ret w (.agg #[.int .i64 A, .int .i64 B, .bool P, .bool Q])))) (w : World) :
    Calls Tryz.prog 25 #[.int .i64 32, .bool false, .agg #[.int .i64 lo, .int .i64 hi, .bool p, .bool q]] w (Ret w (.agg #[.int .i64 A, .int .i64 B, .bool P, .bool Q])) := by
  have HRD := Lib.hid hrd
  have Hhsi := Lib.hid hsi
  have Hhfin := Lib.hid hfin
  clear hrd hsi hfin
  have r1 : Row ((w.alloc (.cells #[.int .i64 lo, .int .i64 hi, .bool p, .bool q] 23)).alloc (.cells #[.int .i64 0, .int .i64 0, .bool false, .bool false] 23)) w.heap.size 23 (spc lo hi p q) := (Row.made w (spc lo hi p q) 23).alloc _
  have r2 : Row ((w.alloc (.cells #[.int .i64 lo, .int .i64 hi, .bool p, .bool q] 23)).alloc (.cells #[.int .i64 0, .int .i64 0, .bool false, .bool false] 23)) (w.heap.size + 1) 23 (spc 0 0 false false) := row2 w _ (spc 0 0 false false) _
  have b3 : Below w.heap.size w ((w.alloc (.cells #[.int .i64 lo, .int .i64 hi, .bool p, .bool q] 23)).alloc (.cells #[.int .i64 0, .int .i64 0, .bool false, .bool false] 23)) := (below_map w _).alloc (by simp) _
  have HR := Lib.hid (And.intro r1 (And.intro r2 b3))
  clear r1 r2 b3
  go_enter Tryz.func25, Tryz.ntmps25
  go_upto_region 4 with (go_at_call 39; refine (HRD.out _).mono ?_; rintro e w1 ⟨rfl, hB⟩)
  have hk : SK w w1.heap.size 66 E F lo hi p q (w1.alloc (.cells #[.int .i64 E, .int .i64 F] 66)) :=
    ⟨(HR.out.1.below hB HR.out.1.lt).alloc _, (HR.out.2.1.below hB HR.out.2.1.lt).alloc _, Row.made w1 (edc E F) 66, (HR.out.2.2.trans (hB.mono HR.out.2.2.size)).trans ((below_map w1 _).mono (Nat.le_trans HR.out.2.2.size hB.size))⟩
  clear hB
  obtain ⟨b, hb⟩ : ∃ b, b = w1.heap.size := ⟨_, rfl⟩
  rw [← hb] at hk
  simp only [← hb]
  clear hb
  generalize World.alloc _ _ = wc at hk ⊢
  have HK := Lib.hid hk
  obtain ⟨⟨x0, x1⟩, ⟨a0, a1, a2, a3⟩, ⟨q0, q1, q2, q3⟩, f0, f1, f2, f3⟩ := hk.all
  clear hk HR
  go_wp2_with (first
    | (go_at_call 52; (refine (Hhsi.out _).mono ?_; rintro e w' ⟨rfl, hB⟩; have hk := HK.out.below hB; have HK := Lib.hid hk; obtain ⟨⟨x0, x1⟩, ⟨a0, a1, a2, a3⟩, ⟨q0, q1, q2, q3⟩, f0, f1, f2, f3⟩ := hk.all; clear hk hB))
    | (go_at_call 53; (refine (Hhfin.out _).mono ?_; rintro e w' ⟨rfl, hB⟩; have hk := HK.out.below hB; have HK := Lib.hid hk; obtain ⟨⟨x0, x1⟩, ⟨a0, a1, a2, a3⟩, ⟨q0, q1, q2, q3⟩, f0, f1, f2, f3⟩ := hk.all; obtain ⟨⟨z0, z1, z2, z3⟩, _⟩ := spc_row (spc_put hk.res A B P Q); have HBZ := Lib.hid (below_set4 hk.bel (Nat.le_succ w.heap.size) (.int .i64 A) (.int .i64 B) (.bool P) (.bool Q)); have Z := Lib.hid (And.intro z0 (And.intro z1 (And.intro z2 z3))); clear z0 z1 z2 z3; clear hk hB))
    | fail "none")
  obtain ⟨z0, z1, z2, z3⟩ := Z.out
  exact bodyPost_ret (v := .agg #[.int .i64 A, .int .i64 B, .bool P, .bool Q]) (by simp [results, Tryz.results25, go_sem, z0, z1, z2, z3]) rfl ⟨rfl, HBZ.out⟩
set_option maxRecDepth 100000 in
set_option maxHeartbeats 600000 in
theorem rext_out1_32_false (lo hi : Int) (p q : Bool) (E F A B : Int) (P Q : Bool) (hrd : ∀ w, Calls Tryz.prog 39 #[.agg #[.int .i64 lo, .int .i64 hi, .bool p, .bool q]] w (Ret w (.agg #[.int .i64 E, .int .i64 F]))) (h1 : decide (-2147483648 ≤ E) = true) (h2 : decide (F ≤ 2147483647) = false) (hsi : (∀ w, Calls Tryz.prog 52 #[.agg #[.int .i64 lo, .int .i64 hi, .bool p, .bool q]] w (Ret w (.bool false)))) (hfin : (∀ w, Calls Tryz.prog 53 #[.int .i64 (-2147483648), .int .i64 2147483647] w (Ret w (.agg #[.int .i64 A, .int .i64 B, .bool P, .bool Q])))) (w : World) :
    Calls Tryz.prog 25 #[.int .i64 32, .bool false, .agg #[.int .i64 lo, .int .i64 hi, .bool p, .bool q]] w (Ret w (.agg #[.int .i64 A, .int .i64 B, .bool P, .bool Q])) := by
  have HRD := Lib.hid hrd
  have Hhsi := Lib.hid hsi
  have Hhfin := Lib.hid hfin
  clear hrd hsi hfin
  have r1 : Row ((w.alloc (.cells #[.int .i64 lo, .int .i64 hi, .bool p, .bool q] 23)).alloc (.cells #[.int .i64 0, .int .i64 0, .bool false, .bool false] 23)) w.heap.size 23 (spc lo hi p q) := (Row.made w (spc lo hi p q) 23).alloc _
  have r2 : Row ((w.alloc (.cells #[.int .i64 lo, .int .i64 hi, .bool p, .bool q] 23)).alloc (.cells #[.int .i64 0, .int .i64 0, .bool false, .bool false] 23)) (w.heap.size + 1) 23 (spc 0 0 false false) := row2 w _ (spc 0 0 false false) _
  have b3 : Below w.heap.size w ((w.alloc (.cells #[.int .i64 lo, .int .i64 hi, .bool p, .bool q] 23)).alloc (.cells #[.int .i64 0, .int .i64 0, .bool false, .bool false] 23)) := (below_map w _).alloc (by simp) _
  have HR := Lib.hid (And.intro r1 (And.intro r2 b3))
  clear r1 r2 b3
  go_enter Tryz.func25, Tryz.ntmps25
  go_upto_region 4 with (go_at_call 39; refine (HRD.out _).mono ?_; rintro e w1 ⟨rfl, hB⟩)
  have hk : SK w w1.heap.size 66 E F lo hi p q (w1.alloc (.cells #[.int .i64 E, .int .i64 F] 66)) :=
    ⟨(HR.out.1.below hB HR.out.1.lt).alloc _, (HR.out.2.1.below hB HR.out.2.1.lt).alloc _, Row.made w1 (edc E F) 66, (HR.out.2.2.trans (hB.mono HR.out.2.2.size)).trans ((below_map w1 _).mono (Nat.le_trans HR.out.2.2.size hB.size))⟩
  clear hB
  obtain ⟨b, hb⟩ : ∃ b, b = w1.heap.size := ⟨_, rfl⟩
  rw [← hb] at hk
  simp only [← hb]
  clear hb
  generalize World.alloc _ _ = wc at hk ⊢
  have HK := Lib.hid hk
  obtain ⟨⟨x0, x1⟩, ⟨a0, a1, a2, a3⟩, ⟨q0, q1, q2, q3⟩, f0, f1, f2, f3⟩ := hk.all
  clear hk HR
  go_wp2_with (first
    | (go_at_call 52; (refine (Hhsi.out _).mono ?_; rintro e w' ⟨rfl, hB⟩; have hk := HK.out.below hB; have HK := Lib.hid hk; obtain ⟨⟨x0, x1⟩, ⟨a0, a1, a2, a3⟩, ⟨q0, q1, q2, q3⟩, f0, f1, f2, f3⟩ := hk.all; clear hk hB))
    | (go_at_call 53; (refine (Hhfin.out _).mono ?_; rintro e w' ⟨rfl, hB⟩; have hk := HK.out.below hB; have HK := Lib.hid hk; obtain ⟨⟨x0, x1⟩, ⟨a0, a1, a2, a3⟩, ⟨q0, q1, q2, q3⟩, f0, f1, f2, f3⟩ := hk.all; obtain ⟨⟨z0, z1, z2, z3⟩, _⟩ := spc_row (spc_put hk.res A B P Q); have HBZ := Lib.hid (below_set4 hk.bel (Nat.le_succ w.heap.size) (.int .i64 A) (.int .i64 B) (.bool P) (.bool Q)); have Z := Lib.hid (And.intro z0 (And.intro z1 (And.intro z2 z3))); clear z0 z1 z2 z3; clear hk hB))
    | fail "none")
  obtain ⟨z0, z1, z2, z3⟩ := Z.out
  exact bodyPost_ret (v := .agg #[.int .i64 A, .int .i64 B, .bool P, .bool Q]) (by simp [results, Tryz.results25, go_sem, z0, z1, z2, z3]) rfl ⟨rfl, HBZ.out⟩
end Go.Proofs.YtcmplcdbkoodpaaGreatDoor
