/-
  math/big: nat's sub and cmp of numbers below 2^64; numbers in general.
-/
import Derived.Test.YtaaidjphacofgaaGreatDoorBigI
import Derived.Test.YtaaidjphacofgaaGreatDoorSpanH
namespace Go.Proofs.YtaaidjphacofgaaGreatDoor
open Go.RowKit
set_option linter.unusedVariables false
set_option linter.unusedSimpArgs false

set_option maxRecDepth 100000 in
set_option maxHeartbeats 1600000 in
theorem natsub11 (gx gy cx cy : Nat) (x y : Int) (hx : 0 < x ∧ x < 18446744073709551616) (hy : 0 < y ∧ y ≤ x) (hcx : 1 ≤ cx ∧ cx ≤ 101) (hcy : 1 ≤ cy ∧ cy ≤ 101) (w : World)
    (hgx : w.cell? ⟨gx, 0, none⟩ = some (.int .u64 x)) (hgy : w.cell? ⟨gy, 0, none⟩ = some (.int .u64 y)) (hlx : gx < w.heap.size) (hly : gy < w.heap.size) :
    Calls Tryz.prog 97 #[.slice none 0 0, .slice (some ⟨gx, 0, none⟩) 1 cx, .slice (some ⟨gy, 0, none⟩) 1 cy] w (NewMag w (x - y)) := by
  have hav := subVV_enters
  have HMK := Lib.hid (fun w => nat_make1 w)
  have HVV := Lib.hid (fun g z w a b c d => subvv1 g gx gy 1 cx cy x y z (by omega) hy.2 hx.2 w a b c d)
  obtain ⟨s, hs⟩ : ∃ s, s = x - y := ⟨_, rfl⟩
  rw [← hs] at HVV ⊢
  have HS := Lib.hid (show 0 ≤ s ∧ s < 18446744073709551616 by omega)
  have HX := Lib.hid (And.intro hgx (And.intro hgy (And.intro hlx hly)))
  clear hgx hgy hlx hly hx hy hs
  go_enter Tryz.func97, Tryz.ntmps97
  go_upto_region 10 with (go_at_call 104; refine (HMK.out _).mono ?_; rintro e w1 ⟨rfl, rfl⟩)
  obtain ⟨hgx, hgy, hlx, hly⟩ := HX.out
  have hb := below_map w (.cells #[.int .u64 0] 96)
  have hr := Row.made w [.int .u64 0] 96
  have hgx1 := (World.cell?_of_block (a := ⟨gx, 0, none⟩) (hb.block gx hlx)).trans hgx
  have hgy1 := (World.cell?_of_block (a := ⟨gy, 0, none⟩) (hb.block gy hly)).trans hgy
  generalize World.alloc _ _ = w1 at hb hr hgx1 hgy1 ⊢
  have h1 : (1 : Int) ≤ (cx : Int) := by omega
  have h2 : (1 : Int) ≤ (cy : Int) := by omega
  have HR := Lib.hid (And.intro hr (And.intro hgx1 (And.intro hgy1 hb)))
  clear hgx hgy hlx hly hgx1 hgy1 hr hb HX
  refine wp_region_held_drew (S := fun _ => True) (by kernel_rfl) ?_ (fun hHeld => ?_)
  · trivial
  refine tkw 0 33 ?_
  refine tkw 1 34 ?_
  refine tkw 2 35 ?_
  refine tkw 3 36 ?_
  refine tkw 4 37 ?_
  refine tkw 5 38 ?_
  refine tkw 6 39 ?_
  refine tkw 7 40 ?_
  refine tkw 8 41 ?_
  refine wpAnyH_ready (rs := [9]) (by kernel_rfl) (by simp) ?_
  refine AllReadyH.cons (o := ⟨some 42, _, _, _, _, _⟩) rfl (fun K hK => ?_) AllReadyH.nil
  go_simp
  refine (HVV.out w.heap.size 0 _ ((HR.out.1.drew.cell 0).trans rfl) (HR.out.1.drew.free 0) HR.out.2.1 HR.out.2.2.1).mono ?_
  rintro e w2 ⟨rfl, n, rfl⟩
  refine hK.out _ _ ?_ (fun hHeld => ?_)
  · trivial
  clear hK K hHeld
  try simp only [Act.put, List.setIfInBounds_toArray, List.set_cons_zero, List.set_cons_succ]
  refine tkw 10 9 ?_
  refine wpAnyH_done (by kernel_rfl) ?_ _
  have hr2 : Row _ w.heap.size 96 [.int .u64 s] := (HR.out.1.drew.drewN n).put 0 (.int .u64 s)
  have hb2 := below_drewN (HR.out.2.2.2.drew) n
  have hb3 := hb2.setCell (p := ⟨w.heap.size, 0, none⟩) (Nat.le_refl w.heap.size) (.int .u64 s)
  generalize World.setCell _ _ _ = w3 at hr2 hb3 ⊢
  have HR4 := Lib.hid (And.intro hr2 hb3)
  clear hr2 hb2 hb3 HVV HMK
  by_cases h0 : s = 0
  · subst h0
    have HN := Lib.hid (norm10 w.heap.size _ ((HR4.out.1.cell 0).trans rfl))
    go_wp2_with (go_at_call 107; refine (HN.out).mono ?_; rintro e w' ⟨rfl, k2, rfl⟩)
    go_ret
    exact ⟨_, 0, 1, rfl, by simp, .inl ⟨rfl, _, _, rfl⟩, below_drewN HR4.out.2 _⟩
  · have HN := Lib.hid (norm11 w.heap.size s h0 _ ((HR4.out.1.cell 0).trans rfl))
    go_wp2_with (go_at_call 107; refine (HN.out).mono ?_; rintro e w' ⟨rfl, k2, rfl⟩)
    go_ret
    exact ⟨_, 1, 1, rfl, by have := HS.out; omega, .inr (.inl ⟨by have := HS.out; omega, HS.out.2, w.heap.size, [], rfl, by simp, HR4.out.1.drewN _⟩), below_drewN HR4.out.2 _⟩
theorem natsub10 (gx cx : Nat) (a : Option Addr) (c : Nat) (x : Int) (hx : 0 < x ∧ x < 18446744073709551616) (hcx : 1 ≤ cx ∧ cx ≤ 101) (w : World) (hgx : w.cell? ⟨gx, 0, none⟩ = some (.int .u64 x)) (hlx : gx < w.heap.size) :
    Calls Tryz.prog 97 #[.slice none 0 0, .slice (some ⟨gx, 0, none⟩) 1 cx, .slice a 0 c] w (NewMag w x) := by
  have HS := Lib.hid (natset1 gx cx x hx hcx w hgx hlx)
  clear hx hcx hgx hlx
  go_enter Tryz.func97, Tryz.ntmps97
  go_wp2_with (go_at_call 101; refine (HS.out).mono ?_; rintro e w1 ⟨a1, n1, c1, rfl, h2, h3, h4⟩)
  go_ret
  exact ⟨a1, n1, c1, rfl, h2, h3, h4⟩
theorem natsubM (vx vy : Value) (x y : Int) (hx : x < 18446744073709551616) (hy : y ≤ x) (w : World) (hvx : Mag w vx x) (hvy : Mag w vy y) :
    Calls Tryz.prog 97 #[.slice none 0 0, vx, vy] w (NewMag w (x - y)) := by
  rcases hvx.one hx with ⟨rfl, a, c, rfl⟩ | ⟨h0, g, c, rfl, hc, hg, hl⟩
  · rcases hvy.one (by omega) with ⟨rfl, a', c', rfl⟩ | ⟨h0', g', c', rfl, hc', hg', hl'⟩
    · clear hvx hvy
      go_enter Tryz.func97, Tryz.ntmps97
      go_wp2
      go_ret
      exact ⟨_, _, _, rfl, by simp, .inl ⟨rfl, _, _, rfl⟩, Below.refl _ _⟩
    · omega
  · rcases hvy.one (by omega) with ⟨rfl, a', c', rfl⟩ | ⟨h0', g', c', rfl, hc', hg', hl'⟩
    · rw [show x - (0 : Int) = x by omega]
      exact natsub10 g c a' c' x ⟨h0, hx⟩ hc w hg hl
    · exact natsub11 g g' c c' x y ⟨h0, hx⟩ ⟨h0', hy⟩ hc hc' w hg hg' hl hl'
theorem natcmp_lt (a1 a2 : Option Addr) (n1 n2 c1 c2 : Nat) (h : n1 < n2) (w : World) :
    Calls Tryz.prog 96 #[.slice a1 n1 c1, .slice a2 n2 c2] w fun e w' => e = .returned (.int .i64 (-1)) ∧ ∃ k, w' = w.drewN k := by
  have d1 : ((n1 : Int) != (n2 : Int)) = true := by simp; omega
  have d2 : decide (n1 < n2) = true := by simp; omega
  have d3 : decide (n2 < n1) = false := by simp; omega
  clear h
  go_enter Tryz.func96, Tryz.ntmps96
  go_wp2
  go_ret
  exact ⟨rfl, 0, rfl⟩
theorem natcmp_gt (a1 a2 : Option Addr) (n1 n2 c1 c2 : Nat) (h : n2 < n1) (w : World) :
    Calls Tryz.prog 96 #[.slice a1 n1 c1, .slice a2 n2 c2] w fun e w' => e = .returned (.int .i64 1) ∧ ∃ k, w' = w.drewN k := by
  have d1 : ((n1 : Int) != (n2 : Int)) = true := by simp; omega
  have d2 : decide (n1 < n2) = false := by simp; omega
  have d3 : decide (n2 < n1) = true := by simp; omega
  clear h
  go_enter Tryz.func96, Tryz.ntmps96
  go_wp2
  go_ret
  exact ⟨rfl, 0, rfl⟩
theorem natcmp_00 (a1 a2 : Option Addr) (c1 c2 : Nat) (w : World) :
    Calls Tryz.prog 96 #[.slice a1 0 c1, .slice a2 0 c2] w fun e w' => e = .returned (.int .i64 0) ∧ ∃ k, w' = w.drewN k := by
  go_enter Tryz.func96, Tryz.ntmps96
  go_wp2
  go_ret
  exact ⟨rfl, 0, rfl⟩
/-- The order of two magnitudes, the second below 2^64. -/
theorem natcmpM (vx vy : Value) (x y : Int) (hy : y < 18446744073709551616) (w : World) (hvx : Mag w vx x) (hvy : Mag w vy y) :
    Calls Tryz.prog 96 #[vx, vy] w fun e w' => e = .returned (.int .i64 (cmpm x y)) ∧ ∃ k, w' = w.drewN k := by
  by_cases hx : x < 18446744073709551616
  · rcases hvx.one hx with ⟨rfl, a, c, rfl⟩ | ⟨h0, g, c, rfl, hc, hg, hl⟩
    · rcases hvy.one hy with ⟨rfl, a', c', rfl⟩ | ⟨h0', g', c', rfl, hc', hg', hl'⟩
      · exact natcmp_00 _ _ _ _ w
      · have e : cmpm 0 y = -1 := by unfold cmpm; rw [if_pos h0']
        rw [e]
        exact natcmp_lt _ _ _ _ _ _ (by omega) w
    · rcases hvy.one hy with ⟨rfl, a', c', rfl⟩ | ⟨h0', g', c', rfl, hc', hg', hl'⟩
      · have e : cmpm x 0 = 1 := by unfold cmpm; rw [if_neg (by omega), if_pos h0]
        rw [e]
        exact natcmp_gt _ _ _ _ _ _ (by omega) w
      · exact natcmp1 g g' c c' x y w hg hg'
  · rcases hvx with ⟨h, _⟩ | ⟨_, h, _⟩ | ⟨h1, h2, g, cs, rfl, _⟩
    · omega
    · omega
    · have e : cmpm x y = 1 := by unfold cmpm; rw [if_neg (by omega), if_pos (by omega)]
      rw [e]
      rcases hvy.one hy with ⟨rfl, a', c', rfl⟩ | ⟨h0', g', c', rfl, hc', hg', hl'⟩
      · exact natcmp_gt _ _ _ _ _ _ (by omega) w
      · exact natcmp_gt _ _ _ _ _ _ (by omega) w

/-- A number: its box, its words. -/
def BN (w : World) (b : Nat) (x : Int) : Prop := ∃ a n c, Row w b 66 [.bool (decide (x < 0)), .slice a n c] ∧ Mag w (.slice a n c) (mag x)
theorem BN.lt {w : World} {b : Nat} {x : Int} (h : BN w b x) : b < w.heap.size := by obtain ⟨a, n, c, h1, _⟩ := h; exact h1.lt
theorem BN.below {w w' : World} {b : Nat} {x : Int} (h : BN w b x) (hB : Below w.heap.size w w') : BN w' b x := by
  obtain ⟨a, n, c, h1, h2⟩ := h
  exact ⟨a, n, c, h1.below hB h1.lt, h2.below hB⟩
/-- A number stays where another's box is written. -/
theorem BN.kept {w w' : World} {b z : Nat} {x : Int} (h : BN w b x) (hne : b ≠ z) {cs : List Value} (hz : Row w z 66 cs) (hK : Kept [z] w w') : BN w' b x := by
  obtain ⟨a, n, c, h1, h2⟩ := h
  refine ⟨a, n, c, hK.row h1 (by simpa using hne), ?_⟩
  have hg : ∀ g ds, Row w g 96 ds → Row w' g 96 ds := fun g ds hr => hK.row hr (by
    have hgz : g ≠ z := by
      rintro rfl
      unfold Row at hr hz
      rw [hr] at hz
      injection hz with h2
      injection h2 with _ h3
      exact absurd h3 (by decide)
    simpa using hgz)
  rcases h2 with h | ⟨k1, k2, g, cs, k3, k4, k5⟩ | ⟨k1, k2, g, cs, k3, k4, k5⟩
  · exact .inl h
  · exact .inr (.inl ⟨k1, k2, g, cs, k3, k4, hg _ _ k5⟩)
  · exact .inr (.inr ⟨k1, k2, g, cs, k3, k4, hg _ _ k5⟩)
theorem BN.of {w : World} {b : Nat} {neg : Bool} {m : Int} (h : BP w b neg m) : BN w b (if neg then -m else m) := by
  obtain ⟨g, cs, h1, h2, h3, h4, h5⟩ := h
  cases neg
  · refine ⟨_, _, _, ?_, .inr (.inl ⟨?_, ?_, g, cs, rfl, h3, ?_⟩)⟩
    · rw [show decide ((if false then -m else m) < 0) = false by simp; omega]; exact h1
    · show 0 < mag m; unfold mag; split <;> omega
    · show mag m < _; unfold mag; split <;> omega
    · show Row w g _ (.int .u64 (mag m) :: cs); rw [show mag m = m by unfold mag; split <;> omega]; exact h2
  · refine ⟨_, _, _, ?_, .inr (.inl ⟨?_, ?_, g, cs, rfl, h3, ?_⟩)⟩
    · rw [show decide ((if true then -m else m) < 0) = true by simp; omega]; exact h1
    · show 0 < mag (-m); unfold mag; split <;> omega
    · show mag (-m) < _; unfold mag; split <;> omega
    · show Row w g _ (.int .u64 (mag (-m)) :: cs); rw [show mag (-m) = m by unfold mag; split <;> omega]; exact h2
/-- NewInt of any number. -/
def NewN (w : World) (x : Int) (e : Ending) (w' : World) : Prop := ∃ b, w.heap.size ≤ b ∧ e = .returned (.pointer (some ⟨b, 0, none⟩)) ∧ BN w' b x ∧ Below w.heap.size w w'
theorem new_zero (w : World) : Calls Tryz.prog 94 #[.int .i64 0] w (NewN w 0) := by
  go_enter Tryz.func94, Tryz.ntmps94
  go_wp2
  go_ret
  exact ⟨_, Nat.le_refl _, rfl, ⟨none, 0, 0, Row.made w [.bool false, .slice none 0 0] _, .inl ⟨rfl, _, _, rfl⟩⟩, below_map _ _⟩
theorem new_any (x : Int) (h : -9223372036854775808 ≤ x ∧ x ≤ 9223372036854775807) (w : World) : Calls Tryz.prog 94 #[.int .i64 x] w (NewN w x) := by
  rcases Int.lt_trichotomy x 0 with h0 | rfl | h0
  · refine (new_neg x ⟨h.1, h0⟩ w).mono ?_
    rintro e w' ⟨b, hb, rfl, hp, hB⟩
    have := BN.of hp
    simp only [if_true, Int.neg_neg] at this
    exact ⟨b, hb, rfl, this, hB⟩
  · exact new_zero w
  · refine (new_pos x ⟨h0, h.2⟩ w).mono ?_
    rintro e w' ⟨b, hb, rfl, hp, hB⟩
    have := BN.of hp
    simp only [Bool.false_eq_true, if_false] at this
    exact ⟨b, hb, rfl, this, hB⟩
theorem num_any (x : Int) (h : -9223372036854775808 ≤ x ∧ x ≤ 9223372036854775807) (w : World) : Calls Tryz.prog 45 #[.int .i64 x] w (NewN w x) := by
  have HN := Lib.hid (fun w => new_any x h w)
  clear h
  go_enter Tryz.func45, Tryz.ntmps45
  go_wp2_with (go_at_call 94; refine (HN.out _).mono ?_; rintro e w' ⟨b, hb, rfl, hp, hB⟩)
  go_ret
  exact ⟨_, hb, rfl, hp, hB⟩
end Go.Proofs.YtaaidjphacofgaaGreatDoor
