/-
  math/big: nat's add, sub, cmp of numbers below 2^64.
-/
import Derived.Test.YtaaidjphacofgaaGreatDoorBigH
import Derived.Shelf.Spec.BitsCarry
namespace Go.Proofs.YtaaidjphacofgaaGreatDoor
open Go.RowKit
set_option linter.unusedVariables false
set_option linter.unusedSimpArgs false

/-- A magnitude below 2^64: its words. -/
theorem Mag.one {w : World} {v : Value} {m : Int} (h : Mag w v m) (hm : m < 18446744073709551616) :
    (m = 0 ∧ ∃ a c, v = .slice a 0 c) ∨ (0 < m ∧ ∃ g c, v = .slice (some ⟨g, 0, none⟩) 1 c ∧ (1 ≤ c ∧ c ≤ 101) ∧ w.cell? ⟨g, 0, none⟩ = some (.int .u64 m) ∧ g < w.heap.size) := by
  rcases h with h | ⟨h1, h2, g, cs, h3, h4, h5⟩ | ⟨h1, _⟩
  · exact .inl h
  · exact .inr ⟨h1, g, _, h3, ⟨by omega, by omega⟩, (h5.cell 0).trans rfl, h5.lt⟩
  · omega
set_option maxRecDepth 100000 in
set_option maxHeartbeats 1600000 in
theorem natadd11 (gx gy cx cy : Nat) (x y : Int) (hx : 0 < x ∧ x < 18446744073709551616) (hy : 0 < y ∧ y < 18446744073709551616) (hcx : 1 ≤ cx ∧ cx ≤ 101) (hcy : 1 ≤ cy ∧ cy ≤ 101) (w : World)
    (hgx : w.cell? ⟨gx, 0, none⟩ = some (.int .u64 x)) (hgy : w.cell? ⟨gy, 0, none⟩ = some (.int .u64 y)) (hlx : gx < w.heap.size) (hly : gy < w.heap.size) :
    Calls Tryz.prog 95 #[.slice none 0 0, .slice (some ⟨gx, 0, none⟩) 1 cx, .slice (some ⟨gy, 0, none⟩) 1 cy] w (NewMag w (x + y)) := by
  have hav := addVV_enters
  have HMK := Lib.hid (fun w => nat_make2 w)
  have HVV := Lib.hid (fun g z w a b c d => addvvc g gx gy 6 cx cy x y z (by omega) (by omega) w a b c d)
  have hX : 0 < x + y ∧ x + y < 340282366920938463463374607431768211456 := by omega
  obtain ⟨s, hs⟩ : ∃ s, s = x + y := ⟨_, rfl⟩
  obtain ⟨lo, hlo⟩ : ∃ z, z = (x + y) % 18446744073709551616 := ⟨_, rfl⟩
  obtain ⟨k, hk⟩ : ∃ z, z = (x + y) / 18446744073709551616 := ⟨_, rfl⟩
  rw [← hlo, ← hk] at HVV
  rw [← hs] at hlo hk hX ⊢
  have hk1 : k = 0 ∨ k = 1 := by omega
  have HS := Lib.hid (And.intro hlo (And.intro hk hX))
  have HX := Lib.hid (And.intro hgx (And.intro hgy (And.intro hlx hly)))
  clear hgx hgy hlx hly hx hy hlo hk hs hX
  go_enter Tryz.func95, Tryz.ntmps95
  go_upto_region 10 with (go_at_call 104; refine (HMK.out _).mono ?_; rintro e w1 ⟨rfl, rfl⟩)
  obtain ⟨hgx, hgy, hlx, hly⟩ := HX.out
  have hb := below_map w (.cells #[.int .u64 0, .int .u64 0, .int .u64 0, .int .u64 0, .int .u64 0, .int .u64 0] 96)
  have hr := Row.made w [.int .u64 0, .int .u64 0, .int .u64 0, .int .u64 0, .int .u64 0, .int .u64 0] 96
  have hgx1 := (World.cell?_of_block (a := ⟨gx, 0, none⟩) (hb.block gx hlx)).trans hgx
  have hgy1 := (World.cell?_of_block (a := ⟨gy, 0, none⟩) (hb.block gy hly)).trans hgy
  generalize World.alloc _ _ = w1 at hb hr hgx1 hgy1 ⊢
  have h1 : (1 : Int) ≤ (cx : Int) := by omega
  have h2 : (1 : Int) ≤ (cy : Int) := by omega
  have HR := Lib.hid (And.intro hr (And.intro hgx1 (And.intro hgy1 hb)))
  clear hgx hgy hlx hly hgx1 hgy1 hr hb HX
  refine wp_region_held_drew (S := fun _ => True) (by kernel_rfl) ?_ (fun hHeld => ?_)
  · trivial
  refine tkw 0 37 ?_
  refine tkw 1 38 ?_
  refine tkw 2 39 ?_
  refine tkw 3 40 ?_
  refine tkw 4 41 ?_
  refine tkw 5 42 ?_
  refine tkw 6 43 ?_
  refine tkw 7 44 ?_
  refine tkw 8 45 ?_
  refine wpAnyH_ready (rs := [9]) (by kernel_rfl) (by simp) ?_
  refine AllReadyH.cons (o := ⟨some 46, _, _, _, _, _⟩) rfl (fun K hK => ?_) AllReadyH.nil
  go_simp
  refine (HVV.out w.heap.size 0 _ ((HR.out.1.drew.cell 0).trans rfl) (HR.out.1.drew.free 0) HR.out.2.1 HR.out.2.2.1).mono ?_
  rintro e w2 ⟨rfl, n, rfl⟩
  refine hK.out _ _ ?_ (fun hHeld => ?_)
  · trivial
  clear hK K hHeld
  try simp only [Act.put, List.setIfInBounds_toArray, List.set_cons_zero, List.set_cons_succ]
  refine tkw 10 9 ?_
  refine wpAnyH_done (by kernel_rfl) ?_ _
  have hr2 := (HR.out.1.drew.drewN n).put 0 (.int .u64 lo)
  have hb2 := below_drewN (HR.out.2.2.2.drew) n
  have hb3 := hb2.setCell (p := ⟨w.heap.size, 0, none⟩) (Nat.le_refl w.heap.size) (.int .u64 lo)
  generalize World.setCell _ _ _ = w3 at hr2 hb3 ⊢
  have c1 := (hr2.cell 1).trans rfl
  have f1 := hr2.free 1
  have hr4 : Row (w3.setCell ⟨w.heap.size, 1, none⟩ (.int .u64 k)) w.heap.size 96 [.int .u64 lo, .int .u64 k, .int .u64 0, .int .u64 0, .int .u64 0, .int .u64 0] := hr2.put 1 (.int .u64 k)
  have hb4 := hb3.setCell (p := ⟨w.heap.size, 1, none⟩) (Nat.le_refl w.heap.size) (.int .u64 k)
  have HR4 := Lib.hid (And.intro hr4 hb4)
  clear hr2 hb2 hb3 hr4 hb4 HVV HMK
  rcases hk1 with rfl | rfl
  · have hlo0 : lo = s := by have := HS.out; omega
    subst hlo0
    have HN := Lib.hid (norm21 w.heap.size 6 lo (by have := HS.out; omega) (by omega) _ ((HR4.out.1.cell 0).trans rfl) ((HR4.out.1.cell 1).trans rfl))
    go_wp2_with (go_at_call 107; refine (HN.out).mono ?_; rintro e w' ⟨rfl, k2, rfl⟩)
    go_ret
    exact ⟨_, 1, 6, rfl, by have := HS.out; omega, .inr (.inl ⟨HS.out.2.2.1, by have := HS.out; omega, w.heap.size, [.int .u64 0, .int .u64 0, .int .u64 0, .int .u64 0, .int .u64 0], rfl, by simp, HR4.out.1.drewN _⟩), below_drewN HR4.out.2 _⟩
  · have HN := Lib.hid (norm22 w.heap.size 6 1 (by decide) (by omega) _ ((HR4.out.1.cell 1).trans rfl))
    go_wp2_with (go_at_call 107; refine (HN.out).mono ?_; rintro e w' ⟨rfl, k2, rfl⟩)
    go_ret
    refine ⟨_, 2, 6, rfl, by have := HS.out; omega, .inr (.inr ⟨by have := HS.out; omega, HS.out.2.2.2, w.heap.size, [.int .u64 0, .int .u64 0, .int .u64 0, .int .u64 0], rfl, by simp, ?_⟩), below_drewN HR4.out.2 _⟩
    rw [← HS.out.1, ← HS.out.2.1]
    exact HR4.out.1.drewN _
/-- add of a number and nothing. -/
theorem natadd10 (gx cx : Nat) (a : Option Addr) (c : Nat) (x : Int) (hx : 0 < x ∧ x < 18446744073709551616) (hcx : 1 ≤ cx ∧ cx ≤ 101) (w : World) (hgx : w.cell? ⟨gx, 0, none⟩ = some (.int .u64 x)) (hlx : gx < w.heap.size) :
    Calls Tryz.prog 95 #[.slice none 0 0, .slice (some ⟨gx, 0, none⟩) 1 cx, .slice a 0 c] w (NewMag w x) := by
  have HS := Lib.hid (natset1 gx cx x hx hcx w hgx hlx)
  clear hx hcx hgx hlx
  go_enter Tryz.func95, Tryz.ntmps95
  go_wp2_with (go_at_call 101; refine (HS.out).mono ?_; rintro e w1 ⟨a1, n1, c1, rfl, h2, h3, h4⟩)
  go_ret
  exact ⟨a1, n1, c1, rfl, h2, h3, h4⟩
theorem nataddM (vx vy : Value) (x y : Int) (hx : x < 18446744073709551616) (hy : y < 18446744073709551616) (w : World) (hvx : Mag w vx x) (hvy : Mag w vy y) :
    Calls Tryz.prog 95 #[.slice none 0 0, vx, vy] w (NewMag w (x + y)) := by
  rcases hvx.one hx with ⟨rfl, a, c, rfl⟩ | ⟨h0, g, c, rfl, hc, hg, hl⟩
  · rcases hvy.one hy with ⟨rfl, a', c', rfl⟩ | ⟨h0', g', c', rfl, hc', hg', hl'⟩
    · clear hvx hvy
      go_enter Tryz.func95, Tryz.ntmps95
      go_wp2
      go_ret
      exact ⟨_, _, _, rfl, by simp, .inl ⟨rfl, _, _, rfl⟩, Below.refl _ _⟩
    · have HS := Lib.hid (natadd10 g' c' a c y ⟨h0', hy⟩ hc' w hg' hl')
      rw [show (0 : Int) + y = y by omega]
      clear hvx hvy hc' hg' hl' hx hy h0'
      go_enter Tryz.func95, Tryz.ntmps95
      go_wp2_with (go_at_call 95; refine (HS.out).mono ?_; rintro e w1 ⟨a1, n1, c1, rfl, h2, h3, h4⟩)
      go_ret
      exact ⟨a1, n1, c1, rfl, h2, h3, h4⟩
  · rcases hvy.one hy with ⟨rfl, a', c', rfl⟩ | ⟨h0', g', c', rfl, hc', hg', hl'⟩
    · rw [show x + (0 : Int) = x by omega]
      exact natadd10 g c a' c' x ⟨h0, hx⟩ hc w hg hl
    · exact natadd11 g g' c c' x y ⟨h0, hx⟩ ⟨h0', hy⟩ hc hc' w hg hg' hl hl'

theorem subVV_enters (args : Array Value) (w : World) : (callFunc 109 args).run Tryz.prog w = .ok (.enter 89 args) w :=
  run_callFunc_twin (twin := "math/big.subVV_g") Tryz.func109 (by kernel_rfl) (by kernel_rfl) (by kernel_rfl) (by kernel_rfl) Tryz.func89 (by kernel_rfl) (by kernel_rfl) (by kernel_rfl) args w
theorem run_u64_sub (x y : Int) (hy : 0 ≤ y) (hxy : y ≤ x) (hx : x < 18446744073709551616) (w : World) :
    (callFunc 125 #[.int .u64 x, .int .u64 y, .int .u64 0]).run Tryz.prog w = .ok (.value (.tuple #[.int .u64 (x - y), .int .u64 0])) w := by
  obtain ⟨Y, rfl⟩ := Int.eq_ofNat_of_zero_le hy
  obtain ⟨X, rfl⟩ := Int.eq_ofNat_of_zero_le (show 0 ≤ x by omega)
  have h := run_sub64 (P := Tryz.prog) X Y 0 (by omega) w
  rw [run_callFunc_extern Tryz.func125 (by kernel_rfl) (by kernel_rfl) (by kernel_rfl) (e := sub64Entry) (by kernel_rfl)]
  rw [show (Value.int .u64 (0 : Int)) = .int .u64 ((0 : Nat) : Int) from rfl, h]
  simp only [Result.andThen]
  have e1 : (((X + 18446744073709551616 - Y - 0) % 18446744073709551616 : Nat) : Int) = (X : Int) - Y := by omega
  have e2 : (if X < Y + 0 then 1 else 0 : Nat) = 0 := by rw [if_neg (by omega)]
  rw [e1, e2]
theorem bits_sub (x y : Int) (hy : 0 ≤ y) (hxy : y ≤ x) (hx : x < 18446744073709551616) (w : World) :
    Calls Tryz.prog 111 #[.int .u64 x, .int .u64 y, .int .u64 0] w fun e w' => e = .returned (.tuple #[.int .u64 (x - y), .int .u64 0]) ∧ w = w' := by
  have hr := fun w => run_u64_sub x y hy hxy hx w
  have u1 : IntKind.u64.wrap x = x := word_u64 (by omega)
  have u2 : IntKind.u64.wrap y = y := word_u64 (by omega)
  have u3 : IntKind.u64.wrap (x - y) = x - y := word_u64 (by omega)
  generalize x - y = z at hr u3 ⊢
  clear hx hy hxy
  go_enter Tryz.func111, Tryz.ntmps111
  go_wp2
  go_ret2
  exact ⟨rfl, rfl⟩
set_option maxRecDepth 100000 in
set_option maxHeartbeats 1600000 in
theorem subvv1 (g gx gy cg cx cy : Nat) (x y z0 : Int) (hy : 0 ≤ y) (hxy : y ≤ x) (hx : x < 18446744073709551616) (w : World)
    (hgz : w.cell? ⟨g, 0, none⟩ = some (.int .u64 z0)) (hfz : w.frozen? ⟨g, 0, none⟩ = false) (hgx : w.cell? ⟨gx, 0, none⟩ = some (.int .u64 x)) (hgy : w.cell? ⟨gy, 0, none⟩ = some (.int .u64 y)) :
    Calls Tryz.prog 89 #[.slice (some ⟨g, 0, none⟩) 1 cg, .slice (some ⟨gx, 0, none⟩) 1 cx, .slice (some ⟨gy, 0, none⟩) 1 cy] w fun e w' => e = .returned (.int .u64 0) ∧ ∃ k, w' = (w.drewN k).setCell ⟨g, 0, none⟩ (.int .u64 (x - y)) := by
  have hba := fun w => bits_sub x y hy hxy hx w
  generalize x - y = z at hba ⊢
  have HBA := Lib.hid hba
  clear hba hx hy hxy
  go_enter Tryz.func89, Tryz.ntmps89
  go_wp2
  refine wp_loop_rounds (0+1+1+1) ?_
  rw [rounds_succ]
  go_wp2
  go_quiet ((go_at_call 111; refine Calls.mono (HBA.out (w.drewN _)) ?_; rintro e w' ⟨rfl, rfl⟩; exact ⟨rfl, _, rfl⟩))
  go_wp2
  rw [rounds_succ]
  go_wp2
  go_ret
  exact ⟨rfl, _, rfl⟩
/-- norm of one word. -/
theorem norm10 (g : Nat) (w : World) (h0 : w.cell? ⟨g, 0, none⟩ = some (.int .u64 0)) :
    Calls Tryz.prog 107 #[.slice (some ⟨g, 0, none⟩) 1 1] w fun e w' => e = .returned (.slice (some ⟨g, 0, none⟩) 0 1) ∧ ∃ k, w' = w.drewN k := by
  go_enter Tryz.func107, Tryz.ntmps107
  go_wp2
  refine wp_loop_rounds (0+1+1+1) ?_
  rw [rounds_succ]
  go_wp2
  rw [rounds_succ]
  go_wp2
  go_ret
  exact ⟨rfl, 0, rfl⟩
theorem norm11 (g : Nat) (x : Int) (hx : x ≠ 0) (w : World) (h0 : w.cell? ⟨g, 0, none⟩ = some (.int .u64 x)) :
    Calls Tryz.prog 107 #[.slice (some ⟨g, 0, none⟩) 1 1] w fun e w' => e = .returned (.slice (some ⟨g, 0, none⟩) 1 1) ∧ ∃ k, w' = w.drewN k := by
  have hb : (x == 0) = false := by simpa using hx
  clear hx
  go_enter Tryz.func107, Tryz.ntmps107
  go_wp2
  refine wp_loop_rounds (0+1+1) ?_
  rw [rounds_succ]
  go_wp2
  go_ret
  exact ⟨rfl, 0, rfl⟩
end Go.Proofs.YtaaidjphacofgaaGreatDoor
