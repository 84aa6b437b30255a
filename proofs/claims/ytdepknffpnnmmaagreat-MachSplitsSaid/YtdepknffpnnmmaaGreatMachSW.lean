import Derived.Test.YtdepknffpnnmmaaGreatMachDT
import Derived.Test.YtdepknffpnnmmaaGreatTake
import Derived.Test.YtdepknffpnnmmaaGreatMachSV
import Derived.Test.YtdepknffpnnmmaaGreatMachDH
import Derived.Test.YtdepknffpnnmmaaGreatMachDG
import Derived.Deep.CutBlock
set_option maxRecDepth 100000
set_option maxHeartbeats 16000000
namespace Go.Proofs.YtdepknffpnnmmaaGreat
open Go.RowKit
set_option linter.unusedVariables false
set_option linter.unusedSimpArgs false
theorem splits_walk (p : Prg) (ctx : List Int) (vals : List Value) (rows : List (List Int)) (d0 t0 c0 x0 r0 : Option Addr) (k0 k1 k2 k3 k4 : Nat) (a b : Int) (ha : -9223372036854775808 <= a /\ a <= 9223372036854775807) (hb : -9223372036854775808 <= b /\ b <= 9223372036854775807) (W : World)
 (hd : Held W (.slice d0 p.data.length k0) p.data) (ht : Tabs W (.slice t0 p.tabs.length k1) p.tabs) (hc : Coded W (.slice c0 p.code.length k2) p.code) (him : ∀ i ∈ p.code, i64r i.imm)
 (hld : p.data.length <= 140737488355328) (hlt : p.tabs.length * 16 <= 140737488355328) (hlc : p.code.length * 56 <= 140737488355328)
 (hx : Held W (.slice x0 ctx.length k3) ctx) (hr : Rowed W (.slice r0 rows.length k4) vals rows) (hxl : ctx.length <= 140737488355328) (hrl : rows.length <= 5864062014805) (hrw : ∀ i (h : i < rows.length), rows[i].length <= 140737488355328) :
 Calls Tryz.prog 5 #[.agg #[.int .i64 p.lo, .int .i64 p.hi, .slice d0 p.data.length k0, .slice t0 p.tabs.length k1, .slice c0 p.code.length k2], .agg #[.slice x0 ctx.length k3, .slice r0 rows.length k4], .int .i64 a, .int .i64 b] W fun e w' => e = .returned (.bool true) /\ Below W.heap.size W w' := by
 have hpd := hd.bytes
 have hxb := hx.bytes
 have hrb : ∀ k (h : k < rows.length), IsBytes rows[k] := fun k h => let ⟨u, _, hh⟩ := hr.held k h; hh.bytes
 obtain ⟨E, hE⟩ : ∃ z, z = newE p ctx rows := ⟨_, rfl⟩
 have HE := Lib.hid hE
 have HNEW := Lib.hid (new_copies p ctx rows hpd hxb hrb hld hlt hlc hxl hrl)
 have HCP := Lib.hid (fun (w' : World) (hS : w'.cell? ⟨W.heap.size, 0, none⟩ = some (.int .i64 p.lo) /\ w'.cell? ⟨W.heap.size, 1, none⟩ = some (.int .i64 p.hi) /\ w'.cell? ⟨W.heap.size, 2, none⟩ = some (.slice d0 p.data.length k0) /\ w'.cell? ⟨W.heap.size, 3, none⟩ = some (.slice t0 p.tabs.length k1) /\ w'.cell? ⟨W.heap.size, 4, none⟩ = some (.slice c0 p.code.length k2) /\ w'.cell? ⟨W.heap.size + 1, 0, none⟩ = some (.slice x0 ctx.length k3) /\ w'.cell? ⟨W.heap.size + 1, 1, none⟩ = some (.slice r0 rows.length k4) /\ KZ W [.int .i64 p.lo, .int .i64 p.hi, .slice d0 p.data.length k0, .slice t0 p.tabs.length k1, .slice c0 p.code.length k2] [.slice x0 ctx.length k3, .slice r0 rows.length k4] w') => copy_program p.lo p.hi p.data p.tabs.length p.code.length (tabc p.tabs) (codec p.code) d0 t0 c0 k0 k1 k2 w' (hd.below hS.2.2.2.2.2.2.2.bel (Nat.le_refl _)) (Reads.below ht hS.2.2.2.2.2.2.2.bel (Nat.le_refl _)) (Reads.below hc hS.2.2.2.2.2.2.2.bel (Nat.le_refl _)) hld hlt hlc)
 have HCI := Lib.hid (fun (w' : World) (hS : w'.cell? ⟨W.heap.size, 0, none⟩ = some (.int .i64 p.lo) /\ w'.cell? ⟨W.heap.size, 1, none⟩ = some (.int .i64 p.hi) /\ w'.cell? ⟨W.heap.size, 2, none⟩ = some (.slice d0 p.data.length k0) /\ w'.cell? ⟨W.heap.size, 3, none⟩ = some (.slice t0 p.tabs.length k1) /\ w'.cell? ⟨W.heap.size, 4, none⟩ = some (.slice c0 p.code.length k2) /\ w'.cell? ⟨W.heap.size + 1, 0, none⟩ = some (.slice x0 ctx.length k3) /\ w'.cell? ⟨W.heap.size + 1, 1, none⟩ = some (.slice r0 rows.length k4) /\ KZ W [.int .i64 p.lo, .int .i64 p.hi, .slice d0 p.data.length k0, .slice t0 p.tabs.length k1, .slice c0 p.code.length k2] [.slice x0 ctx.length k3, .slice r0 rows.length k4] w') => copy_input ctx vals rows x0 r0 k3 k4 w' (hx.below hS.2.2.2.2.2.2.2.bel (Nat.le_refl _)) (hr.below hS.2.2.2.2.2.2.2.bel (Nat.le_refl _)) hxl hrl hrw)
 have HIM := Lib.hid him
 have HBY := Lib.hid (And.intro hpd (And.intro hxb hrb))
 obtain ⟨m1, x, e1, e2, hx3⟩ := modS_of a 300 (by decide)
 obtain ⟨m2, y, e3, e4, hy3⟩ := modS_of b 300 (by decide)
 have e2' : ((m1 : Int)).tmod 300 = (x : Int) := e2
 have e4' : ((m2 : Int)).tmod 300 = (y : Int) := e4
 have HXY := Lib.hid (And.intro hx3 hy3)
 clear e2 e4 hx3 hy3
 clear hd ht hc hx hr him hld hlt hlc hxl hrl hrw hpd hxb hrb hE
 go_enter Tryz.func5, Tryz.ntmps5
 go_upto_region 1 with fail
 have hs1 : (W.alloc (.cells #[.int .i64 p.lo, .int .i64 p.hi, .slice d0 p.data.length k0, .slice t0 p.tabs.length k1, .slice c0 p.code.length k2] 44)).heap.size = W.heap.size + 1 := by simp
 have hKL : KZ W [.int .i64 p.lo, .int .i64 p.hi, .slice d0 p.data.length k0, .slice t0 p.tabs.length k1, .slice c0 p.code.length k2] [.slice x0 ctx.length k3, .slice r0 rows.length k4] ((W.alloc (.cells #[.int .i64 p.lo, .int .i64 p.hi, .slice d0 p.data.length k0, .slice t0 p.tabs.length k1, .slice c0 p.code.length k2] 44)).alloc (.cells #[.slice x0 ctx.length k3, .slice r0 rows.length k4] 46)) := by
  have h2 := Row.made (W.alloc (.cells #[.int .i64 p.lo, .int .i64 p.hi, .slice d0 p.data.length k0, .slice t0 p.tabs.length k1, .slice c0 p.code.length k2] 44)) [.slice x0 ctx.length k3, .slice r0 rows.length k4] 46
  rw [hs1] at h2
  exact ⟨(below_map W _).trans ((below_map _ _).mono (by rw [hs1]; omega)), (Row.made W [.int .i64 p.lo, .int .i64 p.hi, .slice d0 p.data.length k0, .slice t0 p.tabs.length k1, .slice c0 p.code.length k2] _).alloc _, h2⟩
 try simp only [hs1]
 clear hs1
 generalize World.alloc _ _ = wA at hKL ⊢
 have HK0 := Lib.hid hKL
 clear hKL
 go_upto_region 3 with (go_at_call 17; refine (awake_of _).mono ?_; rintro e wB ⟨rfl, hbB⟩)
 have HK := Lib.hid (HK0.out.next hbB)
 clear hbB HK0
 go_upto_region 5 with fail
 clear e1 e2' e3 e4'
 by_cases h0 : E = 0
 ·have ARM := Lib.hid (fun (e : Ending) (w2 w3 : World) (h : (newE p ctx rows = 0 ∧ ∃ bx v, e = .returned (.tuple #[.pointer (some ⟨bx, 0, none⟩), .int .i64 0]) ∧ MS w2.heap.size w2 ⟨p.data, p.tabs, p.code⟩ (stG ctx rows) bx v w3) ∨
   (newE p ctx rows ≠ 0 ∧ e = .returned (.tuple #[.pointer none, .int .i64 (newE p ctx rows)]) ∧ Below w2.heap.size w2 w3)) => (show ∃ bx v, MS w2.heap.size w2 ⟨p.data, p.tabs, p.code⟩ (stG ctx rows) bx v w3 ∧ e = .returned (.tuple #[.pointer (some ⟨bx, 0, none⟩), .int .i64 0]) from by
     rcases h with ⟨_, bx, v, h1, h2⟩ | ⟨h1, _⟩
     ·exact ⟨bx, v, h2, h1⟩
     ·exact absurd (HE.out.symm.trans h0) h1))
  have hmf := newE_zero.1 (HE.out.symm.trans h0)
  have HC := Lib.hid (And.intro (code_G hmf.1 HIM.out) (sane_G hmf.1 hmf.2 HBY.out.1 HBY.out.2.1 HBY.out.2.2))
  clear hmf
  obtain ⟨R1, hR1⟩ : ∃ z, z = runF ⟨p.data, p.tabs, p.code⟩ x (stG ctx rows) := ⟨_, rfl⟩
  have HR1 := Lib.hid hR1
  clear hR1
  go_cut [11, 12] from 34 to 41 (fun s11 s12 wx => ∃ bx P, s11 = .pointer (some ⟨bx, 0, none⟩) /\ s12 = .int .i64 0 /\ KZ W [.int .i64 p.lo, .int .i64 p.hi, .slice d0 p.data.length k0, .slice t0 p.tabs.length k1, .slice c0 p.code.length k2] [.slice x0 ctx.length k3, .slice r0 rows.length k4] wx /\ Ground W P wx /\ Mine P 1 ⟨p.data, p.tabs, p.code⟩ (stG ctx rows) bx wx)
  case first =>
   have hks := (HK.out.next (Below.refl _ _).drew).k
   go_region_held3 (fun w' => w'.cell? ⟨W.heap.size, 0, none⟩ = some (.int .i64 p.lo) /\ w'.cell? ⟨W.heap.size, 1, none⟩ = some (.int .i64 p.hi) /\ w'.cell? ⟨W.heap.size, 2, none⟩ = some (.slice d0 p.data.length k0) /\ w'.cell? ⟨W.heap.size, 3, none⟩ = some (.slice t0 p.tabs.length k1) /\ w'.cell? ⟨W.heap.size, 4, none⟩ = some (.slice c0 p.code.length k2) /\ w'.cell? ⟨W.heap.size + 1, 0, none⟩ = some (.slice x0 ctx.length k3) /\ w'.cell? ⟨W.heap.size + 1, 1, none⟩ = some (.slice r0 rows.length k4) /\ KZ W [.int .i64 p.lo, .int .i64 p.hi, .slice d0 p.data.length k0, .slice t0 p.tabs.length k1, .slice c0 p.code.length k2] [.slice x0 ctx.length k3, .slice r0 rows.length k4] w')
    (first
      | with_reducible assumption
      | exact KZ.n (by with_reducible assumption) hb1
      | exact KZ.n (by with_reducible assumption) hb2
      | exact KZ.n (by with_reducible assumption) hb3
      | fail "none")
    (first
      | (go_at_call 19; refine (HCP.out _ (by with_reducible assumption)).mono ?_; rintro e w1 ⟨da, dc, ta, tc, ca, cc, rfl, hb1, o1, o2, o3⟩)
      | (go_at_call 20; refine (HCI.out _ (by with_reducible assumption)).mono ?_; rintro e w2 ⟨xa, xc, ra, rc, vals', rfl, hb2, o4, ρ5, o5⟩)
      | (go_at_call 18; refine (HNEW.out _ _ _ _ _ _ _ _ _ _ _ _ _ _ _ o1 o2 o3 hb2 o4 o5).mono ?_; rintro e w3 hN; obtain ⟨bx, v, hMS, rfl⟩ := ARM.out e _ _ hN; have hb3 := hMS.bel)
      | fail "none")
   rename_i hheld
   obtain ⟨hgg, hgm, hgo⟩ := grow_new (i := 1) (⟨HK.out.bel, fun _ _ => rfl⟩ : Ground W (fun _ => 0) wB) (((Below.refl _ _).drew.trans (hb1.mono (Nat.le_refl _))).trans (hb2.mono hb1.size)) hMS
   go_wp2_with fail
   go_meet
   case rel => exact ⟨_, _, rfl, rfl, hheld.2.2.2.2.2.2.2, hgg, hgm⟩
  case rest =>
   obtain ⟨b1, P, rfl, rfl, hkz, hgr⟩ := hcut
   have HK := Lib.hid hkz
   have HG := Lib.hid hgr
   clear hkz hgr
   obtain ⟨wc1, rfl⟩ : ∃ z, z = wc := ⟨_, rfl⟩
   go_upto_region 6 with fail
   go_cut [13, 14] from 42 to 49 (fun s13 s14 wx => ∃ bx P, s13 = .pointer (some ⟨bx, 0, none⟩) /\ s14 = .int .i64 0 /\ KZ W [.int .i64 p.lo, .int .i64 p.hi, .slice d0 p.data.length k0, .slice t0 p.tabs.length k1, .slice c0 p.code.length k2] [.slice x0 ctx.length k3, .slice r0 rows.length k4] wx /\ Ground W P wx /\ Mine P 1 ⟨p.data, p.tabs, p.code⟩ (stG ctx rows) b1 wx /\ Mine P 2 ⟨p.data, p.tabs, p.code⟩ (stG ctx rows) bx wx)
   case first =>
    have hks := (HK.out.next (Below.refl _ _).drew).k
    go_region_held3 (fun w' => w'.cell? ⟨W.heap.size, 0, none⟩ = some (.int .i64 p.lo) /\ w'.cell? ⟨W.heap.size, 1, none⟩ = some (.int .i64 p.hi) /\ w'.cell? ⟨W.heap.size, 2, none⟩ = some (.slice d0 p.data.length k0) /\ w'.cell? ⟨W.heap.size, 3, none⟩ = some (.slice t0 p.tabs.length k1) /\ w'.cell? ⟨W.heap.size, 4, none⟩ = some (.slice c0 p.code.length k2) /\ w'.cell? ⟨W.heap.size + 1, 0, none⟩ = some (.slice x0 ctx.length k3) /\ w'.cell? ⟨W.heap.size + 1, 1, none⟩ = some (.slice r0 rows.length k4) /\ KZ W [.int .i64 p.lo, .int .i64 p.hi, .slice d0 p.data.length k0, .slice t0 p.tabs.length k1, .slice c0 p.code.length k2] [.slice x0 ctx.length k3, .slice r0 rows.length k4] w')
     (first
       | with_reducible assumption
       | exact KZ.n (by with_reducible assumption) hb1
       | exact KZ.n (by with_reducible assumption) hb2
       | exact KZ.n (by with_reducible assumption) hb3
       | fail "none")
     (first
       | (go_at_call 19; refine (HCP.out _ (by with_reducible assumption)).mono ?_; rintro e w1 ⟨da, dc, ta, tc, ca, cc, rfl, hb1, o1, o2, o3⟩)
       | (go_at_call 20; refine (HCI.out _ (by with_reducible assumption)).mono ?_; rintro e w2 ⟨xa, xc, ra, rc, vals', rfl, hb2, o4, ρ5, o5⟩)
       | (go_at_call 18; refine (HNEW.out _ _ _ _ _ _ _ _ _ _ _ _ _ _ _ o1 o2 o3 hb2 o4 o5).mono ?_; rintro e w3 hN; obtain ⟨bx, v, hMS, rfl⟩ := ARM.out e _ _ hN; have hb3 := hMS.bel)
       | fail "none")
    rename_i hheld
    obtain ⟨hgg, hgm, hgo⟩ := grow_new (i := 2) HG.out.1 (((Below.refl _ _).drew.trans (hb1.mono (Nat.le_refl _))).trans (hb2.mono hb1.size)) hMS
    go_wp2_with fail
    go_meet
    case rel => exact ⟨_, _, rfl, rfl, hheld.2.2.2.2.2.2.2, hgg, hgo 1 _ _ _ HG.out.2, hgm⟩
   case rest =>
    obtain ⟨b2, P, rfl, rfl, hkz, hgr⟩ := hcut
    have HK := Lib.hid hkz
    have HG := Lib.hid hgr
    clear hkz hgr
    obtain ⟨wc2, rfl⟩ : ∃ z, z = wc := ⟨_, rfl⟩
    go_upto_region 7 with fail
    go_cut [15, 16] from 50 to 57 (fun s15 s16 wx => ∃ bx P, s15 = .pointer (some ⟨bx, 0, none⟩) /\ s16 = .int .i64 0 /\ KZ W [.int .i64 p.lo, .int .i64 p.hi, .slice d0 p.data.length k0, .slice t0 p.tabs.length k1, .slice c0 p.code.length k2] [.slice x0 ctx.length k3, .slice r0 rows.length k4] wx /\ Ground W P wx /\ Mine P 1 ⟨p.data, p.tabs, p.code⟩ (stG ctx rows) b1 wx /\ Mine P 2 ⟨p.data, p.tabs, p.code⟩ (stG ctx rows) b2 wx /\ Mine P 3 ⟨p.data, p.tabs, p.code⟩ (stG ctx rows) bx wx)
    case first =>
     have hks := (HK.out.next (Below.refl _ _).drew).k
     go_region_held3 (fun w' => w'.cell? ⟨W.heap.size, 0, none⟩ = some (.int .i64 p.lo) /\ w'.cell? ⟨W.heap.size, 1, none⟩ = some (.int .i64 p.hi) /\ w'.cell? ⟨W.heap.size, 2, none⟩ = some (.slice d0 p.data.length k0) /\ w'.cell? ⟨W.heap.size, 3, none⟩ = some (.slice t0 p.tabs.length k1) /\ w'.cell? ⟨W.heap.size, 4, none⟩ = some (.slice c0 p.code.length k2) /\ w'.cell? ⟨W.heap.size + 1, 0, none⟩ = some (.slice x0 ctx.length k3) /\ w'.cell? ⟨W.heap.size + 1, 1, none⟩ = some (.slice r0 rows.length k4) /\ KZ W [.int .i64 p.lo, .int .i64 p.hi, .slice d0 p.data.length k0, .slice t0 p.tabs.length k1, .slice c0 p.code.length k2] [.slice x0 ctx.length k3, .slice r0 rows.length k4] w')
      (first
        | with_reducible assumption
        | exact KZ.n (by with_reducible assumption) hb1
        | exact KZ.n (by with_reducible assumption) hb2
        | exact KZ.n (by with_reducible assumption) hb3
        | fail "none")
      (first
        | (go_at_call 19; refine (HCP.out _ (by with_reducible assumption)).mono ?_; rintro e w1 ⟨da, dc, ta, tc, ca, cc, rfl, hb1, o1, o2, o3⟩)
        | (go_at_call 20; refine (HCI.out _ (by with_reducible assumption)).mono ?_; rintro e w2 ⟨xa, xc, ra, rc, vals', rfl, hb2, o4, ρ5, o5⟩)
        | (go_at_call 18; refine (HNEW.out _ _ _ _ _ _ _ _ _ _ _ _ _ _ _ o1 o2 o3 hb2 o4 o5).mono ?_; rintro e w3 hN; obtain ⟨bx, v, hMS, rfl⟩ := ARM.out e _ _ hN; have hb3 := hMS.bel)
        | fail "none")
     rename_i hheld
     obtain ⟨hgg, hgm, hgo⟩ := grow_new (i := 3) HG.out.1 (((Below.refl _ _).drew.trans (hb1.mono (Nat.le_refl _))).trans (hb2.mono hb1.size)) hMS
     go_wp2_with fail
     go_meet
     case rel => exact ⟨_, _, rfl, rfl, hheld.2.2.2.2.2.2.2, hgg, hgo 1 _ _ _ HG.out.2.1, hgo 2 _ _ _ HG.out.2.2, hgm⟩
    case rest =>
     obtain ⟨b3, P, rfl, rfl, hkz, hgr⟩ := hcut
     have HK := Lib.hid hkz
     have HG := Lib.hid hgr
     clear hkz hgr
     obtain ⟨wc3, rfl⟩ : ∃ z, z = wc := ⟨_, rfl⟩
     clear HNEW HCP HCI ARM HIM HBY HK
     have HT := Lib.hid (T3.mk HG.out.1 HG.out.2.1 HG.out.2.2.1 HG.out.2.2.2)
     clear HG
     have hrun := run_mine HC.out.1 HC.out.2 x (by have := HXY.out.1; show (0 : Int) + x < _; omega) HT.out.m1
     rw [<- HR1.out] at hrun
     have HRUN := Lib.hid hrun
     clear hrun
     go_upto_region 13 with (go_at_call 21; go_loud (refine (HRUN.out).mono ?_; rintro e wR ⟨r1, xv1, tv1, sv1, rfl, hO, hm, hw⟩; obtain ⟨a1, n1, c1, rfl⟩ := hO.shx; obtain ⟨a2, n2, c2, rfl⟩ := hO.sht; obtain ⟨a3, n3, c3, rfl⟩ := hO.shs))
     have HT2 := Lib.hid ((HT.out.run1 hm hw).next (below_map wR (.cells #[.int .i64 r1, .slice a1 n1 c1, .slice a2 n2 c2, .slice a3 n3 c3] 30)) 0)
     have HO := Lib.hid ((ToldO.begin (P := P) (i := 1) hO hw.size).next (k := 0) (below_map wR (.cells #[.int .i64 r1, .slice a1 n1 c1, .slice a2 n2 c2, .slice a3 n3 c3] 30)))
     have HB := Lib.hid (Own0.made (P := grown P wc3.heap.size 1) wR [.int .i64 r1, .slice a1 n1 c1, .slice a2 n2 c2, .slice a3 n3 c3] 30)
     have hWR : W.heap.size <= wR.heap.size := (HT.out.run1 hm hw).g.bel.size
     clear hO hm hw HT HRUN
     obtain ⟨B, hB⟩ : ∃ z, z = wR.heap.size := ⟨_, rfl⟩
     rw [<- hB] at HB HT2 HO hWR
     have HWB := Lib.hid hWR
     clear hWR
     simp only [<- hB]
     generalize World.alloc _ _ = wD at HT2 HO HB ⊢
     obtain ⟨Q, hQ⟩ : ∃ z, z = grown (grown P wc3.heap.size 1) B 0 := ⟨_, rfl⟩
     rw [<- hQ] at HT2 HO HB
     clear hQ hB
     obtain ⟨R2, hR2⟩ : ∃ z, z = runF ⟨p.data, p.tabs, p.code⟩ y R1.2 := ⟨_, rfl⟩
     obtain ⟨R, hR⟩ : ∃ z, z = runF ⟨p.data, p.tabs, p.code⟩ (x + y) (stG ctx rows) := ⟨_, rfl⟩
     have hadd : R = if R1.1 = 88 then R2 else R1 := by rw [hR, run_add, <- HR1.out, hR2]
     have HADD := Lib.hid hadd
     have HR := Lib.hid hR
     have HR2 := Lib.hid hR2
     have HS1 := Lib.hid (show Sane ⟨p.data, p.tabs, p.code⟩ R1.2 from HR1.out ▸ Sane.run HC.out.1 x _ HC.out.2)
     clear hadd hR hR2
     obtain ⟨d8, hd8⟩ : ∃ d, (R1.1 == 88) = d := ⟨_, rfl⟩
     go_upto_if 96 with fail
     have HD8 := Lib.hid hd8
     clear hd8
     go_cut [18] from 96 to 104 (fun s18 wx => ∃ P r0 a1 n1 c1 a2 n2 c2 a3 n3 c3, s18 = .int .i64 R.1 /\ T3 W P ⟨p.data, p.tabs, p.code⟩ R.2 (stG ctx rows) (stG ctx rows) b1 b2 b3 wx /\ Own0 P B 30 [.int .i64 r0, .slice a1 n1 c1, .slice a2 n2 c2, .slice a3 n3 c3] wx /\ ToldO P 1 R.1 R.2 r0 (.slice a1 n1 c1) (.slice a2 n2 c2) (.slice a3 n3 c3) wx)
     case first =>
      cases d8 with
      | true =>
        have h88 : R1.1 = 88 := by simpa using HD8.out
        have hcnt : R1.2.steps = x := by
         have := run_count ⟨p.data, p.tabs, p.code⟩ (fun i hi => (HC.out.1.ins i hi).op.2) x (stG ctx rows) HC.out.2.at' (by rw [<- HR1.out]; exact h88)
         rw [<- HR1.out] at this
         rw [this]
         show (0 : Int) + x = x
         omega
        have hst := state_mine HC.out.1 HS1.out HT2.out.m1
        have HST := Lib.hid hst
        have hRw : R = R2 := by rw [HADD.out, if_pos h88]
        have HRW := Lib.hid hRw
        have HCN := Lib.hid hcnt
        clear hst hcnt hRw h88
        have hbr := HB.out.row.lt
        go_upto_region 15 with (go_at_call 22; go_loud (refine (HST.out).mono ?_; rintro e wS ⟨zx, zt, zs, rfl, hA⟩))
        have HT3 := Lib.hid (HT2.out.next hA.bel 0)
        have HB3 := Lib.hid (HB.out.next (k := 0) hA.bel)
        clear hA HST HT2 HO HB
        have hrun := run_mine HC.out.1 HS1.out y (by have := HXY.out; have := HCN.out; omega) HT3.out.m1
        rw [<- HR2.out] at hrun
        have HRUN := Lib.hid hrun
        clear hrun hbr
        go_wp2_with (go_at_call 21; go_loud (refine (HRUN.out).mono ?_; rintro e wE ⟨r2, xv2, tv2, sv2, rfl, hO2, hm2, hw2⟩; obtain ⟨a1, n1, c1, rfl⟩ := hO2.shx; obtain ⟨a2, n2, c2, rfl⟩ := hO2.sht; obtain ⟨a3, n3, c3, rfl⟩ := hO2.shs; have hB5 := HB3.out.work (j := 1) (by decide) hw2 1; obtain ⟨⟨_, _, _, _⟩, _, _, _, _⟩ := hB5.row.four))
        have HP4 := Lib.hid (HT3.out.run1 hm2 hw2)
        have hT5 := ToldO.begin (P := grown Q wD.heap.size 0) (i := 1) hO2 hw2.size
        have hT6 := hT5.work (j := 0) (by decide) (work_put4 hB5.zero wE (.int .i64 r2) (.slice a1 n1 c1) (.slice a2 n2 c2) (.slice a3 n3 c3)) 0
        have hP5 := HP4.out.put4 hB5.zero HWB.out (.int .i64 r2) (.slice a1 n1 c1) (.slice a2 n2 c2) (.slice a3 n3 c3)
        have hB6 : Own0 (grown (grown (grown Q wD.heap.size 0) wS.heap.size 1) wE.heap.size 0) B 30 [.int .i64 r2, .slice a1 n1 c1, .slice a2 n2 c2, .slice a3 n3 c3] _ := ⟨hB5.row.put4 (.int .i64 r2) (.slice a1 n1 c1) (.slice a2 n2 c2) (.slice a3 n3 c3), (grown_old hB5.row.lt).trans hB5.zero⟩
        go_meet
        case rel => exact ⟨_, r2, a1, n1, c1, a2, n2, c2, a3, n3, c3, by rw [HRW.out], by rw [HRW.out]; exact hP5, hB6, by rw [HRW.out]; exact hT6⟩
      | false =>
        have h88 : ¬ R1.1 = 88 := by simpa using HD8.out
        have hRw : R = R1 := by rw [HADD.out, if_neg h88]
        go_wp2_with fail
        go_meet
        case rel => exact ⟨Q, r1, a1, n1, c1, a2, n2, c2, a3, n3, c3, by rw [hRw], by rw [hRw]; exact HT2.out, HB.out, by rw [hRw]; exact HO.out⟩
     case rest =>
      obtain ⟨P4, q0, e1, g1, l1, e2, g2, l2, e3, g3, l3, rfl, hT4, hB4, hO4⟩ := hcut
      have HT4 := Lib.hid hT4
      have HB4 := Lib.hid hB4
      have HO4 := Lib.hid hO4
      clear hT4 hB4 hO4 HO HB HT2 HD8
      obtain ⟨wE, rfl⟩ : ∃ z, z = wc := ⟨_, rfl⟩
      have hrun := run_mine HC.out.1 HC.out.2 (x + y) (by have := HXY.out; show (0 : Int) + (x + y : Nat) < _; omega) HT4.out.m2
      rw [<- HR.out] at hrun
      have HRUN := Lib.hid hrun
      clear hrun
      have hxy : wrap64 ((x : Int) + (y : Int)) = ((x + y : Nat) : Int) := by have := HXY.out; unfold wrap64; omega
      go_upto_region 17 with (go_at_call 21; go_loud (refine (HRUN.out).mono ?_; rintro e wR ⟨r5, xv5, tv5, sv5, rfl, hO, hm, hw⟩; obtain ⟨a1, n1, c1, rfl⟩ := hO.shx; obtain ⟨a2, n2, c2, rfl⟩ := hO.sht; obtain ⟨a3, n3, c3, rfl⟩ := hO.shs))
      have HT5 := Lib.hid ((HT4.out.run2 hm hw).next (below_map wR (.cells #[.int .i64 r5, .slice a1 n1 c1, .slice a2 n2 c2, .slice a3 n3 c3] 30)) 0)
      have HO5 := Lib.hid ((ToldO.begin (P := P4) (i := 2) hO hw.size).next (k := 0) (below_map wR (.cells #[.int .i64 r5, .slice a1 n1 c1, .slice a2 n2 c2, .slice a3 n3 c3] 30)))
      have HO6 := Lib.hid ((HO4.out.work (j := 2) (by decide) hw 2).next (k := 0) (below_map wR (.cells #[.int .i64 r5, .slice a1 n1 c1, .slice a2 n2 c2, .slice a3 n3 c3] 30)))
      have HB5 := Lib.hid (Own0.made (P := grown P4 wE.heap.size 2) wR [.int .i64 r5, .slice a1 n1 c1, .slice a2 n2 c2, .slice a3 n3 c3] 30)
      have HB6 := Lib.hid ((HB4.out.work (j := 2) (by decide) hw 2).next (k := 0) (below_map wR (.cells #[.int .i64 r5, .slice a1 n1 c1, .slice a2 n2 c2, .slice a3 n3 c3] 30)))
      clear hO hm hw HT4 HB4 HO4 HRUN
      obtain ⟨C, hC⟩ : ∃ z, z = wR.heap.size := ⟨_, rfl⟩
      rw [<- hC] at HB5 HB6 HT5 HO5 HO6
      simp only [<- hC]
      generalize World.alloc _ _ = wF at HT5 HO5 HO6 HB5 HB6 ⊢
      obtain ⟨P5, hP5⟩ : ∃ z, z = grown (grown P4 wE.heap.size 2) C 0 := ⟨_, rfl⟩
      rw [<- hP5] at HT5 HO5 HO6 HB5 HB6
      clear hP5 hC
      go_upto_block 0 with fail
      go_cut [21, 22] from 113 to 125 (fun s21 s22 wx => ∃ P, s21 = .int .i64 (stepsF ⟨p.data, p.tabs, p.code⟩ (x + y) (stG ctx rows)).1 /\ T3 W P ⟨p.data, p.tabs, p.code⟩ R.2 R.2 (stepsF ⟨p.data, p.tabs, p.code⟩ (x + y) (stG ctx rows)).2 b1 b2 b3 wx /\ ToldO P 2 R.1 R.2 r5 (.slice a1 n1 c1) (.slice a2 n2 c2) (.slice a3 n3 c3) wx /\ ToldO P 1 R.1 R.2 q0 (.slice e1 g1 l1) (.slice e2 g2 l2) (.slice e3 g3 l3) wx /\ Own0 P C 30 [.int .i64 r5, .slice a1 n1 c1, .slice a2 n2 c2, .slice a3 n3 c3] wx /\ Own0 P B 30 [.int .i64 q0, .slice e1 g1 l1, .slice e2 g2 l2, .slice e3 g3 l3] wx)
      case first =>
       go_wp2_with fail
       go_loopw [21, 22] (fun s21 s22 wr => ∃ (i : Nat) (P : Nat -> Nat), i <= x + y /\ s22 = .int .i64 i /\ s21 = .int .i64 (stepsF ⟨p.data, p.tabs, p.code⟩ i (stG ctx rows)).1 /\ T3 W P ⟨p.data, p.tabs, p.code⟩ R.2 R.2 (stepsF ⟨p.data, p.tabs, p.code⟩ i (stG ctx rows)).2 b1 b2 b3 wr /\ ToldO P 2 R.1 R.2 r5 (.slice a1 n1 c1) (.slice a2 n2 c2) (.slice a3 n3 c3) wr /\ ToldO P 1 R.1 R.2 q0 (.slice e1 g1 l1) (.slice e2 g2 l2) (.slice e3 g3 l3) wr /\ Own0 P C 30 [.int .i64 r5, .slice a1 n1 c1, .slice a2 n2 c2, .slice a3 n3 c3] wr /\ Own0 P B 30 [.int .i64 q0, .slice e1 g1 l1, .slice e2 g2 l2, .slice e3 g3 l3] wr) (fun _ s22 _ => (x + y) - (intOf s22).toNat)
       case atStart => exact ⟨0, P5, Nat.zero_le _, rfl, rfl, HT5.out, HO5.out, HO6.out, HB5.out, HB6.out⟩
       case round =>
        obtain ⟨i, P6, hi, rfl, rfl, hT6, hO7, hO8, hB7, hB8⟩ := hrel
        have HT6 := Lib.hid hT6
        have HO7 := Lib.hid hO7
        have HO8 := Lib.hid hO8
        have HB7 := Lib.hid hB7
        have HB8 := Lib.hid hB8
        clear hT6 hO7 hO8 hB7 hB8 HT5 HO5 HO6 HB5 HB6
        obtain ⟨K, hK⟩ : ∃ z, z = stepsF ⟨p.data, p.tabs, p.code⟩ i (stG ctx rows) := ⟨_, rfl⟩
        have HKK := Lib.hid hK
        rw [<- hK] at HT6
        simp only [<- hK]
        clear hK
        by_cases hlt : i < x + y
        ·have d1 : decide ((i : Int) < ((x + y : Nat) : Int)) = true := by simp; omega
         have d2 : decide ((i : Int) < (x : Int) + (y : Int)) = true := by simp; omega
         by_cases hk0 : K.1 = 0
         ·have d3 : (K.1 == 0) = true := by simpa using hk0
          have hsn := stepsF_sane HC.out.1 i (stG ctx rows) HC.out.2
          rw [<- HKK.out] at hsn
          have hstp := step_mine HC.out.1 hsn.1 (by have := HXY.out; have h0' : (stG ctx rows).steps = 0 := rfl; have := hsn.2; omega) HT6.out.m3
          have hnx := stepsF_next ⟨p.data, p.tabs, p.code⟩ i (stG ctx rows) (by rw [<- HKK.out]; exact hk0)
          rw [<- HKK.out] at hnx
          rw [<- hnx] at hstp
          have HSTP := Lib.hid hstp
          have HNX := Lib.hid hnx
          clear hstp hnx hsn hk0
          have hwi : wrap64 ((i : Int) + 1) = ((i + 1 : Nat) : Int) := by have := HXY.out; unfold wrap64; omega
          go_wp2_with (go_at_call 23; go_loud (refine (HSTP.out).mono ?_; rintro e wS ⟨rfl, hm, hw⟩))
          go_roundw
          case rel => exact ⟨i + 1, _, hlt, by first | rfl | rw [hwi], rfl, HT6.out.run3 hm hw, HO7.out.work (by decide) hw 3, HO8.out.work (by decide) hw 3, HB7.out.work (by decide) hw 3, HB8.out.work (by decide) hw 3⟩
          case measure =>
           first | rw [hwi] | skip
           show (x + y) - ((i + 1 : Nat) : Int).toNat < (x + y) - ((i : Nat) : Int).toNat
           omega
         ·have d3 : (K.1 == 0) = false := by simpa using hk0
          have hfin : stepsF ⟨p.data, p.tabs, p.code⟩ (x + y) (stG ctx rows) = K := by
           have h := stepsF_stop ⟨p.data, p.tabs, p.code⟩ (x + y - i) i (stG ctx rows) (by rw [<- HKK.out]; exact hk0)
           rw [show i + (x + y - i) = x + y by omega] at h
           rw [h, HKK.out]
          go_wp2_with fail
          go_meet
          case rel => exact ⟨P6, by rw [hfin], by rw [hfin]; exact HT6.out, HO7.out, HO8.out, HB7.out, HB8.out⟩
        ·have hie : i = x + y := by omega
         have d1 : decide ((i : Int) < ((x + y : Nat) : Int)) = false := by simp; omega
         have d2 : decide ((i : Int) < (x : Int) + (y : Int)) = false := by simp; omega
         have hfin : stepsF ⟨p.data, p.tabs, p.code⟩ (x + y) (stG ctx rows) = K := by rw [HKK.out, hie]
         go_wp2_with fail
         go_meet
         case rel => exact ⟨P6, by rw [hfin], by rw [hfin]; exact HT6.out, HO7.out, HO8.out, HB7.out, HB8.out⟩
      case rest =>
       obtain ⟨P7, rfl, hT7, hO9, hO10, hB9, hB10⟩ := hcut
       obtain ⟨wH, rfl⟩ : ∃ z, z = wc := ⟨_, rfl⟩
       have hrs := run_steps ⟨p.data, p.tabs, p.code⟩ (x + y) (stG ctx rows)
       have hsane := stepsF_sane HC.out.1 (x + y) (stG ctx rows) HC.out.2
       obtain ⟨K1, hK1⟩ : ∃ z, z = (stepsF ⟨p.data, p.tabs, p.code⟩ (x + y) (stG ctx rows)).1 := ⟨_, rfl⟩
       rw [hrs.1] at hT7 hsane
       rw [<- hK1, <- HR.out] at hrs
       rw [<- HR.out] at hT7 hsane
       simp only [<- hK1]
       have HRS := Lib.hid hrs.2
       have HSR := Lib.hid hsane.1
       have HSB := Lib.hid (show R.2.steps < 4611686018427387000 by have h1 := hsane.2; have h0' : (stG ctx rows).steps = 0 := rfl; have := HXY.out; omega)
       clear hrs hsane hK1 HT5 HO5 HO6 HB5 HB6
       obtain ⟨bb, hOb⟩ := hO9.out
       obtain ⟨ba, hOa⟩ := hO10.out
       have HSO := Lib.hid (outs_same HC.out.1 HSR.out hOa hOb)
       have HST := Lib.hid (show ∀ (q : Nat) (_ : q = b1 \/ q = b2 \/ q = b3) (w' : World) (_ : Below wH.heap.size wH w'), Calls Tryz.prog 22 #[.pointer (some ⟨q, 0, none⟩)] w' fun e w'' => ∃ xv tv sv, e = .returned (.agg (statec R.2 xv tv sv).toArray) /\ StateA w' R.2 xv tv sv w'' from fun q hq w' hb => by
        rcases hq with rfl | rfl | rfl
        ·exact state_mine HC.out.1 HSR.out (hT7.m1.next (k := 0) hb)
        ·exact state_mine HC.out.1 HSR.out (hT7.m2.next (k := 0) hb)
        ·exact state_mine HC.out.1 HSR.out (hT7.m3.next (k := 0) hb))
       have HT7 := Lib.hid hT7
       have HO10 := Lib.hid hO10
       have HB10 := Lib.hid hB10
       obtain ⟨⟨_, _, _, _⟩, _⟩ := hB9.row.four
       obtain ⟨⟨_, _, _, _⟩, _⟩ := hB10.row.four
       clear hOa hOb hT7 hO10 hB10 hO9 hB9
       have hrr : (R.1 != R.1) = false := by simp
       have hbc := Below.refl wH.heap.size wH
       go_upto_region 24 with (first
        | (go_at_call 24; go_loud (refine (HSO.out).mono ?_; rintro e w1 ⟨rfl, hb1⟩; replace hbc := hbc.trans hb1))
        | (go_at_call 22; go_loud (refine (HST.out _ (by first | exact Or.inl rfl | exact Or.inr (Or.inl rfl) | exact Or.inr (Or.inr rfl)) _ hbc).mono ?_; rintro e wq ⟨x1, t1, s1, rfl, hA⟩; replace hbc := hbc.trans (hA.bel.mono hbc.size); (first | (have hpa := Parts.below hpb hA.bel) | skip); have hpb := hA.parts HSR.out))
        | (go_at_call 25; go_loud (refine (parts_same HC.out.1 HSR.out hpa hpb).mono ?_; rintro e wq ⟨rfl, hb2⟩; replace hbc := hbc.trans (hb2.mono hbc.size))))
       have HT9 := Lib.hid (HT7.out.next hbc 0)
       have HO11 := Lib.hid (HO10.out.next (k := 0) hbc)
       have HB11 := Lib.hid (HB10.out.next (k := 0) hbc)
       clear hbc hb1 hb2 hA hpa hpb HSO HST HT7 HO10 HB10 hrr
       obtain ⟨P9, hP9⟩ : ∃ z, z = grown P7 wH.heap.size 0 := ⟨_, rfl⟩
       rw [<- hP9] at HT9 HO11 HB11
       clear hP9
       have h44 : (regc R.2.rg).length = 44 := by rw [regc_len, HSR.out.good.regs.1]
       have h416 : R.2.st.length = 416 := HSR.out.good.slots.len
       have HS1 := Lib.hid (state_mine HC.out.1 HSR.out HT9.out.m1)
       go_upto_region 25 with (go_at_call 22; go_loud (refine (HS1.out).mono ?_; rintro e wS ⟨x1, t1, s1, rfl, hA⟩; obtain ⟨z1, u1, v1, rfl⟩ := hA.shx; obtain ⟨z2, u2, v2, rfl⟩ := hA.sht; obtain ⟨z3, u3, v3, rfl⟩ := hA.shs; have hsc := store_state' h44 h416 z1 z2 z3 u1 v1 u2 v2 u3 v3 wS; have hlen := statec_len h44 h416 (.slice z1 u1 v1) (.slice z2 u2 v2) (.slice z3 u3 v3)))
       have hmk := below_map wS (.cells (statec R.2 (.slice z1 u1 v1) (.slice z2 u2 v2) (.slice z3 u3 v3)).toArray 62)
       have HT10 := Lib.hid ((HT9.out.next hA.bel 0).next hmk 0)
       have HO12 := Lib.hid ((HO11.out.next (k := 0) hA.bel).next (k := 0) hmk)
       have HB12 := Lib.hid ((HB11.out.next (k := 0) hA.bel).next (k := 0) hmk)
       have HTS := Lib.hid ((ToldS.begin (P := P9) hA).next (k := 0) hmk)
       have HD := Lib.hid (Own0.made (P := grown P9 wq.heap.size 0) wS (statec R.2 (.slice z1 u1 v1) (.slice z2 u2 v2) (.slice z3 u3 v3)) 62)
       clear hmk hA hsc hlen HS1 HT9 HO11 HB11
       obtain ⟨D, hD⟩ : ∃ z, z = wS.heap.size := ⟨_, rfl⟩
       rw [<- hD] at HT10 HO12 HB12 HTS HD
       simp only [<- hD]
       generalize World.alloc _ _ = wJ at HT10 HO12 HB12 HTS HD ⊢
       obtain ⟨P10, hP10⟩ : ∃ z, z = grown (grown P9 wq.heap.size 0) D 0 := ⟨_, rfl⟩
       rw [<- hP10] at HT10 HO12 HB12 HTS HD
       clear hP10 hD
       obtain ⟨m7, e7, hm7⟩ : ∃ m7 : Nat, bits .and .i64 b 7 = (m7 : Int) /\ m7 < 8 := ⟨(b % 8).toNat, by rw [andS3]; omega, by omega⟩
       have HM7 := Lib.hid hm7
       have HIN := Lib.hid (info_statec (xv := .slice z1 u1 v1) (tv := .slice z2 u2 v2) (sv := .slice z3 u3 v3) h44 h416)
       clear hm7
       by_cases h0 : R.1 = 0
       ·obtain ⟨hdn, hK⟩ := HRS.out.1 h0
        have HRUN := Lib.hid (still_mine HC.out.1 HSR.out hdn m7 HT10.out.m1)
        go_upto_region 26 with (go_at_call 21; go_loud (refine (HRUN.out).mono ?_; rintro e wR ⟨r7, xv7, tv7, sv7, rfl, hO7, hb7, hLb⟩; clear hLb; obtain ⟨a7, n7, c7, rfl⟩ := hO7.shx; obtain ⟨a8, n8, c8, rfl⟩ := hO7.sht; obtain ⟨a9, n9, c9, rfl⟩ := hO7.shs))
        have hmk := below_map wR (.cells #[.int .i64 r7, .slice a7 n7 c7, .slice a8 n8 c8, .slice a9 n9 c9] 30)
        have HQ0 := Lib.hid (show QQ W (grown (grown P10 wJ.heap.size 0) wR.heap.size 0) ⟨p.data, p.tabs, p.code⟩ R.2 b1 D B wR.heap.size (.slice z1 u1 v1) (.slice z2 u2 v2) (.slice z3 u3 v3) [.int .i64 q0, .slice e1 g1 l1, .slice e2 g2 l2, .slice e3 g3 l3] [.int .i64 r7, .slice a7 n7 c7, .slice a8 n8 c8, .slice a9 n9 c9] (wR.alloc (.cells #[.int .i64 r7, .slice a7 n7 c7, .slice a8 n8 c8, .slice a9 n9 c9] 30)) from ⟨(HT10.out.g.next hb7).next hmk, (HT10.out.m1.next hb7).next hmk, (HD.out.next hb7).next hmk, (HTS.out.next hb7).next hmk, (HB12.out.next hb7).next hmk, Own0.made wR [.int .i64 r7, .slice a7 n7 c7, .slice a8 n8 c8, .slice a9 n9 c9] 30⟩)
        have HOB := Lib.hid ((HO12.out.next (k := 0) hb7).next (k := 0) hmk)
        have HOE := Lib.hid (hO7.keep (w' := wR.alloc (.cells #[.int .i64 r7, .slice a7 n7 c7, .slice a8 n8 c8, .slice a9 n9 c9] 30)) fun q _ hq => hmk.block q hq)
        clear hmk hO7 hb7 HRUN HT10 HO12 HB12 HTS HD
        obtain ⟨E, hE⟩ : ∃ z, z = wR.heap.size := ⟨_, rfl⟩
        rw [<- hE] at HQ0 HOB
        simp only [<- hE]
        clear hE
        generalize World.alloc _ _ = wL at HQ0 HOB HOE ⊢
        have HQ := Lib.hid (show Q5 W ⟨p.data, p.tabs, p.code⟩ R.2 b1 D B E (.slice z1 u1 v1) (.slice z2 u2 v2) (.slice z3 u3 v3) [.int .i64 q0, .slice e1 g1 l1, .slice e2 g2 l2, .slice e3 g3 l3] [.int .i64 r7, .slice a7 n7 c7, .slice a8 n8 c8, .slice a9 n9 c9] wL from ⟨_, HQ0.out⟩)
        have HSO2 := Lib.hid (show ∀ (w' : World), Below wL.heap.size wL w' -> Calls Tryz.prog 24 #[.agg #[.int .i64 r7, .slice a7 n7 c7, .slice a8 n8 c8, .slice a9 n9 c9], .agg #[.int .i64 q0, .slice e1 g1 l1, .slice e2 g2 l2, .slice e3 g3 l3]] w' fun e w'' => e = .returned (.bool true) /\ Below w'.heap.size w' w'' from fun w' hb => by
         obtain ⟨base, hOB⟩ := HOB.out.out
         rw [h0] at hOB
         exact outs_same HC.out.1 HSR.out (OutS.keep HOE.out fun q _ hq => hb.block q hq) (hOB.keep fun q _ hq => hb.block q hq))
        have HKEEP := Lib.hid (show (stepF ⟨p.data, p.tabs, p.code⟩ R.2).1 = 4 /\ (stepF ⟨p.data, p.tabs, p.code⟩ R.2).2 = R.2 by rw [step_done _ _ hdn]; exact ⟨rfl, rfl⟩)
        have HSTEP := Lib.hid (fun (w' : World) (hS : w'.cell? ⟨D, 464, none⟩ = some (.int .i64 R.2.steps) /\ w'.cell? ⟨D, 465, none⟩ = some (.bool true) /\ w'.cell? ⟨B, 0, none⟩ = some (.int .i64 q0) /\ w'.cell? ⟨B, 1, none⟩ = some (.slice e1 g1 l1) /\ w'.cell? ⟨B, 2, none⟩ = some (.slice e2 g2 l2) /\ w'.cell? ⟨B, 3, none⟩ = some (.slice e3 g3 l3) /\ w'.cell? ⟨E, 0, none⟩ = some (.int .i64 r7) /\ w'.cell? ⟨E, 1, none⟩ = some (.slice a7 n7 c7) /\ w'.cell? ⟨E, 2, none⟩ = some (.slice a8 n8 c8) /\ w'.cell? ⟨E, 3, none⟩ = some (.slice a9 n9 c9) /\ Q5 W ⟨p.data, p.tabs, p.code⟩ R.2 b1 D B E (.slice z1 u1 v1) (.slice z2 u2 v2) (.slice z3 u3 v3) [.int .i64 q0, .slice e1 g1 l1, .slice e2 g2 l2, .slice e3 g3 l3] [.int .i64 r7, .slice a7 n7 c7, .slice a8 n8 c8, .slice a9 n9 c9] w') => show Calls Tryz.prog 23 #[.pointer (some ⟨b1, 0, none⟩)] w' fun e w'' => e = .returned (.int .i64 4) /\ Q5 W ⟨p.data, p.tabs, p.code⟩ R.2 b1 D B E (.slice z1 u1 v1) (.slice z2 u2 v2) (.slice z3 u3 v3) [.int .i64 q0, .slice e1 g1 l1, .slice e2 g2 l2, .slice e3 g3 l3] [.int .i64 r7, .slice a7 n7 c7, .slice a8 n8 c8, .slice a9 n9 c9] w'' from by
         have h := Q5.step HC.out.1 HSR.out (by have := HSB.out; omega) HKEEP.out.2 hS.2.2.2.2.2.2.2.2.2.2
         rw [HKEEP.out.1] at h
         exact h)
        have HSTATE := Lib.hid (fun (w' : World) (hS : w'.cell? ⟨D, 464, none⟩ = some (.int .i64 R.2.steps) /\ w'.cell? ⟨D, 465, none⟩ = some (.bool true) /\ w'.cell? ⟨B, 0, none⟩ = some (.int .i64 q0) /\ w'.cell? ⟨B, 1, none⟩ = some (.slice e1 g1 l1) /\ w'.cell? ⟨B, 2, none⟩ = some (.slice e2 g2 l2) /\ w'.cell? ⟨B, 3, none⟩ = some (.slice e3 g3 l3) /\ w'.cell? ⟨E, 0, none⟩ = some (.int .i64 r7) /\ w'.cell? ⟨E, 1, none⟩ = some (.slice a7 n7 c7) /\ w'.cell? ⟨E, 2, none⟩ = some (.slice a8 n8 c8) /\ w'.cell? ⟨E, 3, none⟩ = some (.slice a9 n9 c9) /\ Q5 W ⟨p.data, p.tabs, p.code⟩ R.2 b1 D B E (.slice z1 u1 v1) (.slice z2 u2 v2) (.slice z3 u3 v3) [.int .i64 q0, .slice e1 g1 l1, .slice e2 g2 l2, .slice e3 g3 l3] [.int .i64 r7, .slice a7 n7 c7, .slice a8 n8 c8, .slice a9 n9 c9] w') => Q5.state HC.out.1 HSR.out hS.2.2.2.2.2.2.2.2.2.2)
        have HSAME := Lib.hid (fun (w' : World) (hS : w'.cell? ⟨D, 464, none⟩ = some (.int .i64 R.2.steps) /\ w'.cell? ⟨D, 465, none⟩ = some (.bool true) /\ w'.cell? ⟨B, 0, none⟩ = some (.int .i64 q0) /\ w'.cell? ⟨B, 1, none⟩ = some (.slice e1 g1 l1) /\ w'.cell? ⟨B, 2, none⟩ = some (.slice e2 g2 l2) /\ w'.cell? ⟨B, 3, none⟩ = some (.slice e3 g3 l3) /\ w'.cell? ⟨E, 0, none⟩ = some (.int .i64 r7) /\ w'.cell? ⟨E, 1, none⟩ = some (.slice a7 n7 c7) /\ w'.cell? ⟨E, 2, none⟩ = some (.slice a8 n8 c8) /\ w'.cell? ⟨E, 3, none⟩ = some (.slice a9 n9 c9) /\ Q5 W ⟨p.data, p.tabs, p.code⟩ R.2 b1 D B E (.slice z1 u1 v1) (.slice z2 u2 v2) (.slice z3 u3 v3) [.int .i64 q0, .slice e1 g1 l1, .slice e2 g2 l2, .slice e3 g3 l3] [.int .i64 r7, .slice a7 n7 c7, .slice a8 n8 c8, .slice a9 n9 c9] w') (x4 t4 s4 : Value) (h4 : Parts w' R.2 x4 t4 s4) => Q5.same HC.out.1 HSR.out hS.2.2.2.2.2.2.2.2.2.2 h4)
        have h0b : (R.1 == 0) = true := by simpa using h0
        clear h0
        rcases hK with rfl | rfl
        ·go_upto_region 27 with fail
         refine wp_region_held_drew (S := (fun w' => w'.cell? ⟨D, 464, none⟩ = some (.int .i64 R.2.steps) /\ w'.cell? ⟨D, 465, none⟩ = some (.bool true) /\ w'.cell? ⟨B, 0, none⟩ = some (.int .i64 q0) /\ w'.cell? ⟨B, 1, none⟩ = some (.slice e1 g1 l1) /\ w'.cell? ⟨B, 2, none⟩ = some (.slice e2 g2 l2) /\ w'.cell? ⟨B, 3, none⟩ = some (.slice e3 g3 l3) /\ w'.cell? ⟨E, 0, none⟩ = some (.int .i64 r7) /\ w'.cell? ⟨E, 1, none⟩ = some (.slice a7 n7 c7) /\ w'.cell? ⟨E, 2, none⟩ = some (.slice a8 n8 c8) /\ w'.cell? ⟨E, 3, none⟩ = some (.slice a9 n9 c9) /\ Q5 W ⟨p.data, p.tabs, p.code⟩ R.2 b1 D B E (.slice z1 u1 v1) (.slice z2 u2 v2) (.slice z3 u3 v3) [.int .i64 q0, .slice e1 g1 l1, .slice e2 g2 l2, .slice e3 g3 l3] [.int .i64 r7, .slice a7 n7 c7, .slice a8 n8 c8, .slice a9 n9 c9] w')) (by kernel_rfl) ?_ (fun hHeld => ?_)
         ·(try dsimp only); exact Q5.k h44 h416 rfl hdn (HQ.out.next (Below.refl _ _).drew)
         refine tkw 0 163 ?_
         refine tkw 1 164 ?_
         refine tkw 2 165 ?_
         refine tkw 3 166 ?_
         refine tkw 4 167 ?_
         refine tkw 5 168 ?_
         refine tku 6 169 ?_
         refine tku 7 170 ?_
         refine tkw 8 171 ?_
         refine tkw 9 172 ?_
         refine tkw 10 173 ?_
         refine tkw 11 174 ?_
         refine tkw 12 175 ?_
         refine tkw 13 176 ?_
         refine tkw 14 177 ?_
         refine tkw 15 178 ?_
         refine tkw 16 179 ?_
         refine wpAnyH_ready (rs := [17]) (by kernel_rfl) (by simp) ?_
         refine AllReadyH.cons (o := _) rfl (fun K hK => ?_) AllReadyH.nil
         go_simp
         go_at_call 24; refine (HSO2.out _ (Below.refl _ _).drew).mono ?_; rintro e w' ⟨rfl, hb⟩; have hQ := (HQ.out.next (Below.refl _ _).drew).next hb
         refine hK.out _ _ ?_ (fun hHeld => ?_)
         ·(try dsimp only); exact Q5.k h44 h416 rfl hdn hQ
         clear hK K
         try simp only [Act.put, List.setIfInBounds_toArray, List.set_cons_zero, List.set_cons_succ]
         refine tkw 18 181 ?_
         refine tkw 19 182 ?_
         refine tkw 20 183 ?_
         refine wpAnyH_ready (rs := [21]) (by kernel_rfl) (by simp) ?_
         refine AllReadyH.cons (o := _) rfl (fun K hK => ?_) AllReadyH.nil
         go_simp
         go_at_call 23; refine (HSTEP.out _ (by with_reducible assumption)).mono ?_; rintro e w' ⟨rfl, hQ⟩
         refine hK.out _ _ ?_ (fun hHeld => ?_)
         ·(try dsimp only); exact Q5.k h44 h416 rfl hdn hQ
         clear hK K
         try simp only [Act.put, List.setIfInBounds_toArray, List.set_cons_zero, List.set_cons_succ]
         refine tkw 22 185 ?_
         refine tkw 23 186 ?_
         refine tkw 24 187 ?_
         refine wpAnyH_take (i := 25) (oi := ⟨some 188, _, _, _, _, _⟩) (v := _) rfl (by kernel_rfl) (by kernel_rfl) (by kernel_rfl) (fun _ _ _ h => h) (yieldsIf_load_mid (by kernel_rfl) 62 _ rfl D 0 rfl (statec R.2 (.slice z1 u1 v1) (.slice z2 u2 v2) (.slice z3 u3 v3)) _ (fun w hSw => Q5.range hSw.2.2.2.2.2.2.2.2.2.2) Tryz.underlying62 rfl HIN.out) (by assumption) ?_
         try simp only [Act.put, List.setIfInBounds_toArray, List.set_cons_zero, List.set_cons_succ]
         refine tkw 26 189 ?_
         refine wpAnyH_ready (rs := [27]) (by kernel_rfl) (by simp) ?_
         refine AllReadyH.cons (o := _) rfl (fun K hK => ?_) AllReadyH.nil
         go_simp
         go_at_call 22; refine (HSTATE.out _ (by with_reducible assumption)).mono ?_; rintro e w' ⟨x4, t4, s4, rfl, hP4, hQ⟩
         refine hK.out _ _ ?_ (fun hHeld => ?_)
         ·(try dsimp only); exact Q5.k h44 h416 rfl hdn hQ
         clear hK K
         try simp only [Act.put, List.setIfInBounds_toArray, List.set_cons_zero, List.set_cons_succ]
         refine wpAnyH_ready (rs := [28]) (by kernel_rfl) (by simp) ?_
         refine AllReadyH.cons (o := _) rfl (fun K hK => ?_) AllReadyH.nil
         go_simp
         go_at_call 25; refine (HSAME.out _ (by with_reducible assumption) _ _ _ hP4).mono ?_; rintro e w' ⟨rfl, hQ⟩
         refine hK.out _ _ ?_ (fun hHeld => ?_)
         ·(try dsimp only); exact Q5.k h44 h416 rfl hdn hQ
         clear hK K
         try simp only [Act.put, List.setIfInBounds_toArray, List.set_cons_zero, List.set_cons_succ]
         refine tkw 29 192 ?_
         refine tkw 30 8 ?_
         refine wpAnyH_done (by kernel_rfl) ?_ _
         have hF := hHeld.2.2.2.2.2.2.2.2.2.2.bel
         go_wp2_with fail
         go_ret
         exact ⟨rfl, hF⟩
        ·go_upto_region 27 with fail
         refine wp_region_held_drew (S := (fun w' => w'.cell? ⟨D, 464, none⟩ = some (.int .i64 R.2.steps) /\ w'.cell? ⟨D, 465, none⟩ = some (.bool true) /\ w'.cell? ⟨B, 0, none⟩ = some (.int .i64 q0) /\ w'.cell? ⟨B, 1, none⟩ = some (.slice e1 g1 l1) /\ w'.cell? ⟨B, 2, none⟩ = some (.slice e2 g2 l2) /\ w'.cell? ⟨B, 3, none⟩ = some (.slice e3 g3 l3) /\ w'.cell? ⟨E, 0, none⟩ = some (.int .i64 r7) /\ w'.cell? ⟨E, 1, none⟩ = some (.slice a7 n7 c7) /\ w'.cell? ⟨E, 2, none⟩ = some (.slice a8 n8 c8) /\ w'.cell? ⟨E, 3, none⟩ = some (.slice a9 n9 c9) /\ Q5 W ⟨p.data, p.tabs, p.code⟩ R.2 b1 D B E (.slice z1 u1 v1) (.slice z2 u2 v2) (.slice z3 u3 v3) [.int .i64 q0, .slice e1 g1 l1, .slice e2 g2 l2, .slice e3 g3 l3] [.int .i64 r7, .slice a7 n7 c7, .slice a8 n8 c8, .slice a9 n9 c9] w')) (by kernel_rfl) ?_ (fun hHeld => ?_)
         ·(try dsimp only); exact Q5.k h44 h416 rfl hdn (HQ.out.next (Below.refl _ _).drew)
         refine tkw 0 163 ?_
         refine tkw 1 164 ?_
         refine tkw 2 165 ?_
         refine tkw 3 166 ?_
         refine tkw 4 167 ?_
         refine tkw 5 168 ?_
         refine tkw 6 169 ?_
         refine tkw 7 170 ?_
         refine tkw 8 171 ?_
         refine tkw 9 172 ?_
         refine tkw 10 173 ?_
         refine tkw 11 174 ?_
         refine tkw 12 175 ?_
         refine tkw 13 176 ?_
         refine tkw 14 177 ?_
         refine tkw 15 178 ?_
         refine tkw 16 179 ?_
         refine wpAnyH_ready (rs := [17]) (by kernel_rfl) (by simp) ?_
         refine AllReadyH.cons (o := _) rfl (fun K hK => ?_) AllReadyH.nil
         go_simp
         go_at_call 24; refine (HSO2.out _ (Below.refl _ _).drew).mono ?_; rintro e w' ⟨rfl, hb⟩; have hQ := (HQ.out.next (Below.refl _ _).drew).next hb
         refine hK.out _ _ ?_ (fun hHeld => ?_)
         ·(try dsimp only); exact Q5.k h44 h416 rfl hdn hQ
         clear hK K
         try simp only [Act.put, List.setIfInBounds_toArray, List.set_cons_zero, List.set_cons_succ]
         refine tkw 18 181 ?_
         refine tkw 19 182 ?_
         refine tkw 20 183 ?_
         refine wpAnyH_ready (rs := [21]) (by kernel_rfl) (by simp) ?_
         refine AllReadyH.cons (o := _) rfl (fun K hK => ?_) AllReadyH.nil
         go_simp
         go_at_call 23; refine (HSTEP.out _ (by with_reducible assumption)).mono ?_; rintro e w' ⟨rfl, hQ⟩
         refine hK.out _ _ ?_ (fun hHeld => ?_)
         ·(try dsimp only); exact Q5.k h44 h416 rfl hdn hQ
         clear hK K
         try simp only [Act.put, List.setIfInBounds_toArray, List.set_cons_zero, List.set_cons_succ]
         refine tkw 22 185 ?_
         refine tkw 23 186 ?_
         refine tkw 24 187 ?_
         refine wpAnyH_take (i := 25) (oi := ⟨some 188, _, _, _, _, _⟩) (v := _) rfl (by kernel_rfl) (by kernel_rfl) (by kernel_rfl) (fun _ _ _ h => h) (yieldsIf_load_mid (by kernel_rfl) 62 _ rfl D 0 rfl (statec R.2 (.slice z1 u1 v1) (.slice z2 u2 v2) (.slice z3 u3 v3)) _ (fun w hSw => Q5.range hSw.2.2.2.2.2.2.2.2.2.2) Tryz.underlying62 rfl HIN.out) (by assumption) ?_
         try simp only [Act.put, List.setIfInBounds_toArray, List.set_cons_zero, List.set_cons_succ]
         refine tkw 26 189 ?_
         refine wpAnyH_ready (rs := [27]) (by kernel_rfl) (by simp) ?_
         refine AllReadyH.cons (o := _) rfl (fun K hK => ?_) AllReadyH.nil
         go_simp
         go_at_call 22; refine (HSTATE.out _ (by with_reducible assumption)).mono ?_; rintro e w' ⟨x4, t4, s4, rfl, hP4, hQ⟩
         refine hK.out _ _ ?_ (fun hHeld => ?_)
         ·(try dsimp only); exact Q5.k h44 h416 rfl hdn hQ
         clear hK K
         try simp only [Act.put, List.setIfInBounds_toArray, List.set_cons_zero, List.set_cons_succ]
         refine wpAnyH_ready (rs := [28]) (by kernel_rfl) (by simp) ?_
         refine AllReadyH.cons (o := _) rfl (fun K hK => ?_) AllReadyH.nil
         go_simp
         go_at_call 25; refine (HSAME.out _ (by with_reducible assumption) _ _ _ hP4).mono ?_; rintro e w' ⟨rfl, hQ⟩
         refine hK.out _ _ ?_ (fun hHeld => ?_)
         ·(try dsimp only); exact Q5.k h44 h416 rfl hdn hQ
         clear hK K
         try simp only [Act.put, List.setIfInBounds_toArray, List.set_cons_zero, List.set_cons_succ]
         refine tkw 29 192 ?_
         refine tkw 30 8 ?_
         refine wpAnyH_done (by kernel_rfl) ?_ _
         have hF := hHeld.2.2.2.2.2.2.2.2.2.2.bel
         go_wp2_with fail
         go_ret
         exact ⟨rfl, hF⟩
       ·by_cases h88 : R.1 = 88
        ·obtain ⟨hdn, hK⟩ := HRS.out.2.1 h88
         subst hK
         have hcnt := run_count ⟨p.data, p.tabs, p.code⟩ (fun i hi => (HC.out.1.ins i hi).op.2) (x + y) (stG ctx rows) HC.out.2.at' (by rw [<- HR.out]; exact h88)
         rw [<- HR.out] at hcnt
         have hst : R.2.steps = ((x + y : Nat) : Int) := by rw [hcnt]; show (0 : Int) + ((x + y : Nat) : Int) = ((x + y : Nat) : Int); omega
         clear hcnt
         have hrun := run_mine HC.out.1 HSR.out m7 (by have := HSB.out; have := HM7.out; omega) HT10.out.m1
         have HRUN := Lib.hid hrun
         have HST := Lib.hid hst
         clear hrun hst
         go_upto_region 26 with (go_at_call 21; go_loud (refine (HRUN.out).mono ?_; rintro e wR ⟨r7, xv7, tv7, sv7, rfl, hO7, hm7, hw7⟩; obtain ⟨a7, n7, c7, rfl⟩ := hO7.shx; obtain ⟨a8, n8, c8, rfl⟩ := hO7.sht; obtain ⟨a9, n9, c9, rfl⟩ := hO7.shs))
         have hmk := below_map wR (.cells #[.int .i64 r7, .slice a7 n7 c7, .slice a8 n8 c8, .slice a9 n9 c9] 30)
         have HDF := Lib.hid ((HD.out.work (j := 1) (by decide) hw7 1).next (k := 0) hmk)
         have HGF := Lib.hid ((HT10.out.g.work (i := 1) (k := 1) (by decide) hw7).next (k := 0) hmk)
         clear hmk hO7 hm7 hw7 HRUN HT10 HO12 HB12 HTS HD
         generalize World.alloc _ _ = wL at HDF HGF ⊢
         obtain ⟨tt1, tt2, tt3⟩ := statec_tail h44 h416 (.slice z1 u1 v1) (.slice z2 u2 v2) (.slice z3 u3 v3)
         have hc1 : wL.cell? ⟨D, 464, none⟩ = some (.int .i64 ((x + y : Nat) : Int)) := (HDF.out.row.cell 464).trans (by rw [tt2, HST.out])
         have hc2 : wL.cell? ⟨D, 465, none⟩ = some (.bool false) := (HDF.out.row.cell 465).trans (by rw [tt3, hdn])
         clear tt1 tt2 tt3 h44 h416 hdn
         have h0b : (R.1 == 0) = false := by simpa using h0
         have h88b : (R.1 == 88) = true := by simpa using h88
         clear h0 h88
         have hxx : (((x + y : Nat) : Int) == ((x + y : Nat) : Int)) = true := by simp
         go_upto_region 29 with fail
         go_wp2_with fail
         go_ret
         exact ⟨rfl, HGF.out.bel⟩
        ·obtain ⟨hdn, hK, hstp⟩ := HRS.out.2.2 h0 h88
         subst hK
         have HKEEP := Lib.hid (show (stepF ⟨p.data, p.tabs, p.code⟩ R.2).1 = R.1 /\ (stepF ⟨p.data, p.tabs, p.code⟩ R.2).2 = R.2 by rw [hstp]; exact ⟨rfl, rfl⟩)
         obtain ⟨J, hJ⟩ : ∃ J, (runF ⟨p.data, p.tabs, p.code⟩ m7 R.2).1 = J /\ (runF ⟨p.data, p.tabs, p.code⟩ m7 R.2).2 = R.2 /\ ((m7 = 0 /\ J = 88) \/ (m7 ≠ 0 /\ J = R.1)) := by
          have hrt := run_trapped ⟨p.data, p.tabs, p.code⟩ hdn hstp h0 m7
          by_cases hm : m7 = 0
          ·rw [if_pos hm] at hrt
           exact ⟨88, by rw [hrt], by rw [hrt], Or.inl ⟨hm, rfl⟩⟩
          ·rw [if_neg hm] at hrt
           exact ⟨R.1, by rw [hrt], by rw [hrt], Or.inr ⟨hm, rfl⟩⟩
         have hrun := run_mine HC.out.1 HSR.out m7 (by have := HSB.out; have := HM7.out; omega) HT10.out.m1
         rw [hJ.1, hJ.2.1] at hrun
         have HJ := Lib.hid hJ.2.2
         have HRUN := Lib.hid hrun
         clear hrun hJ hstp
         go_upto_region 26 with (go_at_call 21; go_loud (refine (HRUN.out).mono ?_; rintro e wR ⟨r7, xv7, tv7, sv7, rfl, hO7, hm7, hw7⟩; obtain ⟨a7, n7, c7, rfl⟩ := hO7.shx; obtain ⟨a8, n8, c8, rfl⟩ := hO7.sht; obtain ⟨a9, n9, c9, rfl⟩ := hO7.shs))
         have hmk := below_map wR (.cells #[.int .i64 r7, .slice a7 n7 c7, .slice a8 n8 c8, .slice a9 n9 c9] 30)
         have HQ0 := Lib.hid (show QQ W (grown (grown P10 wJ.heap.size 1) wR.heap.size 0) ⟨p.data, p.tabs, p.code⟩ R.2 b1 D B wR.heap.size (.slice z1 u1 v1) (.slice z2 u2 v2) (.slice z3 u3 v3) [.int .i64 q0, .slice e1 g1 l1, .slice e2 g2 l2, .slice e3 g3 l3] [.int .i64 r7, .slice a7 n7 c7, .slice a8 n8 c8, .slice a9 n9 c9] (wR.alloc (.cells #[.int .i64 r7, .slice a7 n7 c7, .slice a8 n8 c8, .slice a9 n9 c9] 30)) from ⟨(HT10.out.g.work (i := 1) (by decide) hw7).next hmk, hm7.next hmk, (HD.out.work (by decide) hw7 1).next hmk, (HTS.out.work (by decide) hw7 1).next hmk, (HB12.out.work (by decide) hw7 1).next hmk, Own0.made wR [.int .i64 r7, .slice a7 n7 c7, .slice a8 n8 c8, .slice a9 n9 c9] 30⟩)
         clear hmk hO7 hm7 hw7 HRUN HT10 HO12 HB12 HTS HD
         obtain ⟨E, hE⟩ : ∃ z, z = wR.heap.size := ⟨_, rfl⟩
         rw [<- hE] at HQ0
         simp only [<- hE]
         clear hE
         generalize World.alloc _ _ = wL at HQ0 ⊢
         have HQ := Lib.hid (show Q5 W ⟨p.data, p.tabs, p.code⟩ R.2 b1 D B E (.slice z1 u1 v1) (.slice z2 u2 v2) (.slice z3 u3 v3) [.int .i64 q0, .slice e1 g1 l1, .slice e2 g2 l2, .slice e3 g3 l3] [.int .i64 r7, .slice a7 n7 c7, .slice a8 n8 c8, .slice a9 n9 c9] wL from ⟨_, HQ0.out⟩)
         have HSTEP := Lib.hid (fun (w' : World) (hS : w'.cell? ⟨D, 464, none⟩ = some (.int .i64 R.2.steps) /\ w'.cell? ⟨D, 465, none⟩ = some (.bool false) /\ w'.cell? ⟨B, 0, none⟩ = some (.int .i64 q0) /\ w'.cell? ⟨B, 1, none⟩ = some (.slice e1 g1 l1) /\ w'.cell? ⟨B, 2, none⟩ = some (.slice e2 g2 l2) /\ w'.cell? ⟨B, 3, none⟩ = some (.slice e3 g3 l3) /\ w'.cell? ⟨E, 0, none⟩ = some (.int .i64 r7) /\ w'.cell? ⟨E, 1, none⟩ = some (.slice a7 n7 c7) /\ w'.cell? ⟨E, 2, none⟩ = some (.slice a8 n8 c8) /\ w'.cell? ⟨E, 3, none⟩ = some (.slice a9 n9 c9) /\ Q5 W ⟨p.data, p.tabs, p.code⟩ R.2 b1 D B E (.slice z1 u1 v1) (.slice z2 u2 v2) (.slice z3 u3 v3) [.int .i64 q0, .slice e1 g1 l1, .slice e2 g2 l2, .slice e3 g3 l3] [.int .i64 r7, .slice a7 n7 c7, .slice a8 n8 c8, .slice a9 n9 c9] w') => show Calls Tryz.prog 23 #[.pointer (some ⟨b1, 0, none⟩)] w' fun e w'' => e = .returned (.int .i64 R.1) /\ Q5 W ⟨p.data, p.tabs, p.code⟩ R.2 b1 D B E (.slice z1 u1 v1) (.slice z2 u2 v2) (.slice z3 u3 v3) [.int .i64 q0, .slice e1 g1 l1, .slice e2 g2 l2, .slice e3 g3 l3] [.int .i64 r7, .slice a7 n7 c7, .slice a8 n8 c8, .slice a9 n9 c9] w'' from by
          have h := Q5.step HC.out.1 HSR.out (by have := HSB.out; omega) HKEEP.out.2 hS.2.2.2.2.2.2.2.2.2.2
          rw [HKEEP.out.1] at h
          exact h)
         have HSTATE := Lib.hid (fun (w' : World) (hS : w'.cell? ⟨D, 464, none⟩ = some (.int .i64 R.2.steps) /\ w'.cell? ⟨D, 465, none⟩ = some (.bool false) /\ w'.cell? ⟨B, 0, none⟩ = some (.int .i64 q0) /\ w'.cell? ⟨B, 1, none⟩ = some (.slice e1 g1 l1) /\ w'.cell? ⟨B, 2, none⟩ = some (.slice e2 g2 l2) /\ w'.cell? ⟨B, 3, none⟩ = some (.slice e3 g3 l3) /\ w'.cell? ⟨E, 0, none⟩ = some (.int .i64 r7) /\ w'.cell? ⟨E, 1, none⟩ = some (.slice a7 n7 c7) /\ w'.cell? ⟨E, 2, none⟩ = some (.slice a8 n8 c8) /\ w'.cell? ⟨E, 3, none⟩ = some (.slice a9 n9 c9) /\ Q5 W ⟨p.data, p.tabs, p.code⟩ R.2 b1 D B E (.slice z1 u1 v1) (.slice z2 u2 v2) (.slice z3 u3 v3) [.int .i64 q0, .slice e1 g1 l1, .slice e2 g2 l2, .slice e3 g3 l3] [.int .i64 r7, .slice a7 n7 c7, .slice a8 n8 c8, .slice a9 n9 c9] w') => Q5.state HC.out.1 HSR.out hS.2.2.2.2.2.2.2.2.2.2)
         have HSAME := Lib.hid (fun (w' : World) (hS : w'.cell? ⟨D, 464, none⟩ = some (.int .i64 R.2.steps) /\ w'.cell? ⟨D, 465, none⟩ = some (.bool false) /\ w'.cell? ⟨B, 0, none⟩ = some (.int .i64 q0) /\ w'.cell? ⟨B, 1, none⟩ = some (.slice e1 g1 l1) /\ w'.cell? ⟨B, 2, none⟩ = some (.slice e2 g2 l2) /\ w'.cell? ⟨B, 3, none⟩ = some (.slice e3 g3 l3) /\ w'.cell? ⟨E, 0, none⟩ = some (.int .i64 r7) /\ w'.cell? ⟨E, 1, none⟩ = some (.slice a7 n7 c7) /\ w'.cell? ⟨E, 2, none⟩ = some (.slice a8 n8 c8) /\ w'.cell? ⟨E, 3, none⟩ = some (.slice a9 n9 c9) /\ Q5 W ⟨p.data, p.tabs, p.code⟩ R.2 b1 D B E (.slice z1 u1 v1) (.slice z2 u2 v2) (.slice z3 u3 v3) [.int .i64 q0, .slice e1 g1 l1, .slice e2 g2 l2, .slice e3 g3 l3] [.int .i64 r7, .slice a7 n7 c7, .slice a8 n8 c8, .slice a9 n9 c9] w') (x4 t4 s4 : Value) (h4 : Parts w' R.2 x4 t4 s4) => Q5.same HC.out.1 HSR.out hS.2.2.2.2.2.2.2.2.2.2 h4)
         have h0b : (R.1 == 0) = false := by simpa using h0
         have h88b : (R.1 == 88) = false := by simpa using h88
         have hrr : (R.1 == R.1) = true := by simp
         go_upto_region 30 with fail
         rcases HJ.out with ⟨rfl, rfl⟩ | ⟨hm0, rfl⟩
         ·have h88c : ((88 : Int) == R.1) = false := by simp; omega
          clear h0 h88
          refine wp_region_held_drew (S := (fun w' => w'.cell? ⟨D, 464, none⟩ = some (.int .i64 R.2.steps) /\ w'.cell? ⟨D, 465, none⟩ = some (.bool false) /\ w'.cell? ⟨B, 0, none⟩ = some (.int .i64 q0) /\ w'.cell? ⟨B, 1, none⟩ = some (.slice e1 g1 l1) /\ w'.cell? ⟨B, 2, none⟩ = some (.slice e2 g2 l2) /\ w'.cell? ⟨B, 3, none⟩ = some (.slice e3 g3 l3) /\ w'.cell? ⟨E, 0, none⟩ = some (.int .i64 r7) /\ w'.cell? ⟨E, 1, none⟩ = some (.slice a7 n7 c7) /\ w'.cell? ⟨E, 2, none⟩ = some (.slice a8 n8 c8) /\ w'.cell? ⟨E, 3, none⟩ = some (.slice a9 n9 c9) /\ Q5 W ⟨p.data, p.tabs, p.code⟩ R.2 b1 D B E (.slice z1 u1 v1) (.slice z2 u2 v2) (.slice z3 u3 v3) [.int .i64 q0, .slice e1 g1 l1, .slice e2 g2 l2, .slice e3 g3 l3] [.int .i64 r7, .slice a7 n7 c7, .slice a8 n8 c8, .slice a9 n9 c9] w')) (by kernel_rfl) ?_ (fun hHeld => ?_)
          ·(try dsimp only); exact Q5.k h44 h416 rfl hdn (HQ.out.next (Below.refl _ _).drew)
          refine tkw 0 211 ?_
          refine tkw 1 212 ?_
          refine tkw 2 213 ?_
          refine tkw 3 214 ?_
          refine tkw 4 215 ?_
          refine tkw 5 216 ?_
          refine tkw 6 217 ?_
          refine tkw 7 218 ?_
          refine tkw 8 219 ?_
          refine tkw 9 220 ?_
          refine tkw 11 222 ?_
          refine wpAnyH_ready (rs := [10]) (by kernel_rfl) (by simp) ?_
          refine AllReadyH.cons (o := _) rfl (fun K hK => ?_) AllReadyH.nil
          go_simp
          go_at_call 23; refine (HSTEP.out _ (by with_reducible assumption)).mono ?_; rintro e w' ⟨rfl, hQ⟩
          refine hK.out _ _ ?_ (fun hHeld => ?_)
          ·(try dsimp only); exact Q5.k h44 h416 rfl hdn hQ
          clear hK K
          try simp only [Act.put, List.setIfInBounds_toArray, List.set_cons_zero, List.set_cons_succ]
          refine tkw 12 223 ?_
          refine tkw 13 224 ?_
          refine tkw 14 225 ?_
          refine wpAnyH_take (i := 15) (oi := ⟨some 226, _, _, _, _, _⟩) (v := _) rfl (by kernel_rfl) (by kernel_rfl) (by kernel_rfl) (fun _ _ _ h => h) (yieldsIf_load_mid (by kernel_rfl) 62 _ rfl D 0 rfl (statec R.2 (.slice z1 u1 v1) (.slice z2 u2 v2) (.slice z3 u3 v3)) _ (fun w hSw => Q5.range hSw.2.2.2.2.2.2.2.2.2.2) Tryz.underlying62 rfl HIN.out) (by assumption) ?_
          try simp only [Act.put, List.setIfInBounds_toArray, List.set_cons_zero, List.set_cons_succ]
          refine tkw 16 227 ?_
          refine wpAnyH_ready (rs := [17]) (by kernel_rfl) (by simp) ?_
          refine AllReadyH.cons (o := _) rfl (fun K hK => ?_) AllReadyH.nil
          go_simp
          go_at_call 22; refine (HSTATE.out _ (by with_reducible assumption)).mono ?_; rintro e w' ⟨x4, t4, s4, rfl, hP4, hQ⟩
          refine hK.out _ _ ?_ (fun hHeld => ?_)
          ·(try dsimp only); exact Q5.k h44 h416 rfl hdn hQ
          clear hK K
          try simp only [Act.put, List.setIfInBounds_toArray, List.set_cons_zero, List.set_cons_succ]
          refine wpAnyH_ready (rs := [18]) (by kernel_rfl) (by simp) ?_
          refine AllReadyH.cons (o := _) rfl (fun K hK => ?_) AllReadyH.nil
          go_simp
          go_at_call 25; refine (HSAME.out _ (by with_reducible assumption) _ _ _ hP4).mono ?_; rintro e w' ⟨rfl, hQ⟩
          refine hK.out _ _ ?_ (fun hHeld => ?_)
          ·(try dsimp only); exact Q5.k h44 h416 rfl hdn hQ
          clear hK K
          try simp only [Act.put, List.setIfInBounds_toArray, List.set_cons_zero, List.set_cons_succ]
          refine tkw 19 230 ?_
          refine tkw 20 231 ?_
          refine tkw 21 232 ?_
          refine tkw 22 233 ?_
          refine tkw 23 234 ?_
          refine tkw 24 235 ?_
          refine tkw 25 236 ?_
          refine tkw 26 237 ?_
          refine tkw 27 238 ?_
          refine tkw 28 239 ?_
          refine tkw 29 240 ?_
          refine tkw 30 8 ?_
          refine wpAnyH_done (by kernel_rfl) ?_ _
          have hF := hHeld.2.2.2.2.2.2.2.2.2.2.bel
          go_wp2_with fail
          go_ret
          exact ⟨rfl, hF⟩
         ·clear h0 h88 hm0
          refine wp_region_held_drew (S := (fun w' => w'.cell? ⟨D, 464, none⟩ = some (.int .i64 R.2.steps) /\ w'.cell? ⟨D, 465, none⟩ = some (.bool false) /\ w'.cell? ⟨B, 0, none⟩ = some (.int .i64 q0) /\ w'.cell? ⟨B, 1, none⟩ = some (.slice e1 g1 l1) /\ w'.cell? ⟨B, 2, none⟩ = some (.slice e2 g2 l2) /\ w'.cell? ⟨B, 3, none⟩ = some (.slice e3 g3 l3) /\ w'.cell? ⟨E, 0, none⟩ = some (.int .i64 r7) /\ w'.cell? ⟨E, 1, none⟩ = some (.slice a7 n7 c7) /\ w'.cell? ⟨E, 2, none⟩ = some (.slice a8 n8 c8) /\ w'.cell? ⟨E, 3, none⟩ = some (.slice a9 n9 c9) /\ Q5 W ⟨p.data, p.tabs, p.code⟩ R.2 b1 D B E (.slice z1 u1 v1) (.slice z2 u2 v2) (.slice z3 u3 v3) [.int .i64 q0, .slice e1 g1 l1, .slice e2 g2 l2, .slice e3 g3 l3] [.int .i64 r7, .slice a7 n7 c7, .slice a8 n8 c8, .slice a9 n9 c9] w')) (by kernel_rfl) ?_ (fun hHeld => ?_)
          ·(try dsimp only); exact Q5.k h44 h416 rfl hdn (HQ.out.next (Below.refl _ _).drew)
          refine tkw 0 211 ?_
          refine tkw 1 212 ?_
          refine tkw 2 213 ?_
          refine tkw 3 214 ?_
          refine tkw 4 215 ?_
          refine tkw 5 216 ?_
          refine tkw 6 217 ?_
          refine tkw 7 218 ?_
          refine tkw 8 219 ?_
          refine tkw 9 220 ?_
          refine tkw 11 222 ?_
          refine wpAnyH_ready (rs := [10]) (by kernel_rfl) (by simp) ?_
          refine AllReadyH.cons (o := _) rfl (fun K hK => ?_) AllReadyH.nil
          go_simp
          go_at_call 23; refine (HSTEP.out _ (by with_reducible assumption)).mono ?_; rintro e w' ⟨rfl, hQ⟩
          refine hK.out _ _ ?_ (fun hHeld => ?_)
          ·(try dsimp only); exact Q5.k h44 h416 rfl hdn hQ
          clear hK K
          try simp only [Act.put, List.setIfInBounds_toArray, List.set_cons_zero, List.set_cons_succ]
          refine tkw 12 223 ?_
          refine tkw 13 224 ?_
          refine tkw 14 225 ?_
          refine wpAnyH_take (i := 15) (oi := ⟨some 226, _, _, _, _, _⟩) (v := _) rfl (by kernel_rfl) (by kernel_rfl) (by kernel_rfl) (fun _ _ _ h => h) (yieldsIf_load_mid (by kernel_rfl) 62 _ rfl D 0 rfl (statec R.2 (.slice z1 u1 v1) (.slice z2 u2 v2) (.slice z3 u3 v3)) _ (fun w hSw => Q5.range hSw.2.2.2.2.2.2.2.2.2.2) Tryz.underlying62 rfl HIN.out) (by assumption) ?_
          try simp only [Act.put, List.setIfInBounds_toArray, List.set_cons_zero, List.set_cons_succ]
          refine tkw 16 227 ?_
          refine wpAnyH_ready (rs := [17]) (by kernel_rfl) (by simp) ?_
          refine AllReadyH.cons (o := _) rfl (fun K hK => ?_) AllReadyH.nil
          go_simp
          go_at_call 22; refine (HSTATE.out _ (by with_reducible assumption)).mono ?_; rintro e w' ⟨x4, t4, s4, rfl, hP4, hQ⟩
          refine hK.out _ _ ?_ (fun hHeld => ?_)
          ·(try dsimp only); exact Q5.k h44 h416 rfl hdn hQ
          clear hK K
          try simp only [Act.put, List.setIfInBounds_toArray, List.set_cons_zero, List.set_cons_succ]
          refine wpAnyH_ready (rs := [18]) (by kernel_rfl) (by simp) ?_
          refine AllReadyH.cons (o := _) rfl (fun K hK => ?_) AllReadyH.nil
          go_simp
          go_at_call 25; refine (HSAME.out _ (by with_reducible assumption) _ _ _ hP4).mono ?_; rintro e w' ⟨rfl, hQ⟩
          refine hK.out _ _ ?_ (fun hHeld => ?_)
          ·(try dsimp only); exact Q5.k h44 h416 rfl hdn hQ
          clear hK K
          try simp only [Act.put, List.setIfInBounds_toArray, List.set_cons_zero, List.set_cons_succ]
          refine tkw 19 230 ?_
          refine tkw 20 231 ?_
          refine tkw 21 232 ?_
          refine tkw 22 233 ?_
          refine tkw 23 234 ?_
          refine tkw 24 235 ?_
          refine tku 25 236 ?_
          refine tku 26 237 ?_
          refine tku 27 238 ?_
          refine tkw 28 239 ?_
          refine tkw 29 240 ?_
          refine tkw 30 8 ?_
          refine wpAnyH_done (by kernel_rfl) ?_ _
          have hF := hHeld.2.2.2.2.2.2.2.2.2.2.bel
          go_wp2_with fail
          go_ret
          exact ⟨rfl, hF⟩
 ·have ARM := Lib.hid (fun (e : Ending) (w2 w3 : World) (h : (newE p ctx rows = 0 ∧ ∃ bx v, e = .returned (.tuple #[.pointer (some ⟨bx, 0, none⟩), .int .i64 0]) ∧ MS w2.heap.size w2 ⟨p.data, p.tabs, p.code⟩ (stG ctx rows) bx v w3) ∨
   (newE p ctx rows ≠ 0 ∧ e = .returned (.tuple #[.pointer none, .int .i64 (newE p ctx rows)]) ∧ Below w2.heap.size w2 w3)) => (show e = .returned (.tuple #[.pointer none, .int .i64 E]) ∧ Below w2.heap.size w2 w3 from by
     rcases h with ⟨h1, _⟩ | ⟨_, h2, h3⟩
     ·exact absurd (HE.out.trans h1) h0
     ·exact ⟨by rw [h2, HE.out], h3⟩))
  have hE0 : (E == 0) = false := by simpa using h0
  have hEE : (E != E) = false := by simp
  clear h0
  go_upto_region 5 with fail
  go_cut [11, 12] from 34 to 41 (fun s11 s12 wx => s11 = .pointer none /\ s12 = .int .i64 E /\ KZ W [.int .i64 p.lo, .int .i64 p.hi, .slice d0 p.data.length k0, .slice t0 p.tabs.length k1, .slice c0 p.code.length k2] [.slice x0 ctx.length k3, .slice r0 rows.length k4] wx)
  case first =>
   have hks := (HK.out.next (Below.refl _ _).drew).k
   go_region_held3 (fun w' => w'.cell? ⟨W.heap.size, 0, none⟩ = some (.int .i64 p.lo) /\ w'.cell? ⟨W.heap.size, 1, none⟩ = some (.int .i64 p.hi) /\ w'.cell? ⟨W.heap.size, 2, none⟩ = some (.slice d0 p.data.length k0) /\ w'.cell? ⟨W.heap.size, 3, none⟩ = some (.slice t0 p.tabs.length k1) /\ w'.cell? ⟨W.heap.size, 4, none⟩ = some (.slice c0 p.code.length k2) /\ w'.cell? ⟨W.heap.size + 1, 0, none⟩ = some (.slice x0 ctx.length k3) /\ w'.cell? ⟨W.heap.size + 1, 1, none⟩ = some (.slice r0 rows.length k4) /\ KZ W [.int .i64 p.lo, .int .i64 p.hi, .slice d0 p.data.length k0, .slice t0 p.tabs.length k1, .slice c0 p.code.length k2] [.slice x0 ctx.length k3, .slice r0 rows.length k4] w')
   (first
     | with_reducible assumption
     | exact KZ.n (by with_reducible assumption) hb1
     | exact KZ.n (by with_reducible assumption) hb2
     | exact KZ.n (by with_reducible assumption) hb3
     | fail "none")
   (first
     | (go_at_call 19; refine (HCP.out _ (by with_reducible assumption)).mono ?_; rintro e w1 ⟨da, dc, ta, tc, ca, cc, rfl, hb1, o1, o2, o3⟩)
     | (go_at_call 20; refine (HCI.out _ (by with_reducible assumption)).mono ?_; rintro e w2 ⟨xa, xc, ra, rc, vals', rfl, hb2, o4, ρ5, o5⟩)
     | (go_at_call 18; refine (HNEW.out _ _ _ _ _ _ _ _ _ _ _ _ _ _ _ o1 o2 o3 hb2 o4 o5).mono ?_; rintro e w3 hN; obtain ⟨rfl, hb3⟩ := ARM.out e _ _ hN)
     | fail "none")
   rename_i hheld
   go_wp2_with fail
   go_meet
   case rel => exact ⟨rfl, rfl, hheld.2.2.2.2.2.2.2⟩
  case rest =>
   obtain ⟨rfl, rfl, hkz⟩ := hcut
   have HK := Lib.hid hkz
   clear hkz
   go_upto_region 6 with fail
   go_cut [13, 14] from 42 to 49 (fun s13 s14 wx => s13 = .pointer none /\ s14 = .int .i64 E /\ KZ W [.int .i64 p.lo, .int .i64 p.hi, .slice d0 p.data.length k0, .slice t0 p.tabs.length k1, .slice c0 p.code.length k2] [.slice x0 ctx.length k3, .slice r0 rows.length k4] wx)
   case first =>
    have hks := (HK.out.next (Below.refl _ _).drew).k
    go_region_held3 (fun w' => w'.cell? ⟨W.heap.size, 0, none⟩ = some (.int .i64 p.lo) /\ w'.cell? ⟨W.heap.size, 1, none⟩ = some (.int .i64 p.hi) /\ w'.cell? ⟨W.heap.size, 2, none⟩ = some (.slice d0 p.data.length k0) /\ w'.cell? ⟨W.heap.size, 3, none⟩ = some (.slice t0 p.tabs.length k1) /\ w'.cell? ⟨W.heap.size, 4, none⟩ = some (.slice c0 p.code.length k2) /\ w'.cell? ⟨W.heap.size + 1, 0, none⟩ = some (.slice x0 ctx.length k3) /\ w'.cell? ⟨W.heap.size + 1, 1, none⟩ = some (.slice r0 rows.length k4) /\ KZ W [.int .i64 p.lo, .int .i64 p.hi, .slice d0 p.data.length k0, .slice t0 p.tabs.length k1, .slice c0 p.code.length k2] [.slice x0 ctx.length k3, .slice r0 rows.length k4] w')
    (first
      | with_reducible assumption
      | exact KZ.n (by with_reducible assumption) hb1
      | exact KZ.n (by with_reducible assumption) hb2
      | exact KZ.n (by with_reducible assumption) hb3
      | fail "none")
    (first
      | (go_at_call 19; refine (HCP.out _ (by with_reducible assumption)).mono ?_; rintro e w1 ⟨da, dc, ta, tc, ca, cc, rfl, hb1, o1, o2, o3⟩)
      | (go_at_call 20; refine (HCI.out _ (by with_reducible assumption)).mono ?_; rintro e w2 ⟨xa, xc, ra, rc, vals', rfl, hb2, o4, ρ5, o5⟩)
      | (go_at_call 18; refine (HNEW.out _ _ _ _ _ _ _ _ _ _ _ _ _ _ _ o1 o2 o3 hb2 o4 o5).mono ?_; rintro e w3 hN; obtain ⟨rfl, hb3⟩ := ARM.out e _ _ hN)
      | fail "none")
    rename_i hheld
    go_wp2_with fail
    go_meet
    case rel => exact ⟨rfl, rfl, hheld.2.2.2.2.2.2.2⟩
   case rest =>
    obtain ⟨rfl, rfl, hkz⟩ := hcut
    have HK := Lib.hid hkz
    clear hkz
    go_upto_region 7 with fail
    go_cut [15, 16] from 50 to 57 (fun s15 s16 wx => s15 = .pointer none /\ s16 = .int .i64 E /\ KZ W [.int .i64 p.lo, .int .i64 p.hi, .slice d0 p.data.length k0, .slice t0 p.tabs.length k1, .slice c0 p.code.length k2] [.slice x0 ctx.length k3, .slice r0 rows.length k4] wx)
    case first =>
     have hks := (HK.out.next (Below.refl _ _).drew).k
     go_region_held3 (fun w' => w'.cell? ⟨W.heap.size, 0, none⟩ = some (.int .i64 p.lo) /\ w'.cell? ⟨W.heap.size, 1, none⟩ = some (.int .i64 p.hi) /\ w'.cell? ⟨W.heap.size, 2, none⟩ = some (.slice d0 p.data.length k0) /\ w'.cell? ⟨W.heap.size, 3, none⟩ = some (.slice t0 p.tabs.length k1) /\ w'.cell? ⟨W.heap.size, 4, none⟩ = some (.slice c0 p.code.length k2) /\ w'.cell? ⟨W.heap.size + 1, 0, none⟩ = some (.slice x0 ctx.length k3) /\ w'.cell? ⟨W.heap.size + 1, 1, none⟩ = some (.slice r0 rows.length k4) /\ KZ W [.int .i64 p.lo, .int .i64 p.hi, .slice d0 p.data.length k0, .slice t0 p.tabs.length k1, .slice c0 p.code.length k2] [.slice x0 ctx.length k3, .slice r0 rows.length k4] w')
     (first
       | with_reducible assumption
       | exact KZ.n (by with_reducible assumption) hb1
       | exact KZ.n (by with_reducible assumption) hb2
       | exact KZ.n (by with_reducible assumption) hb3
       | fail "none")
     (first
       | (go_at_call 19; refine (HCP.out _ (by with_reducible assumption)).mono ?_; rintro e w1 ⟨da, dc, ta, tc, ca, cc, rfl, hb1, o1, o2, o3⟩)
       | (go_at_call 20; refine (HCI.out _ (by with_reducible assumption)).mono ?_; rintro e w2 ⟨xa, xc, ra, rc, vals', rfl, hb2, o4, ρ5, o5⟩)
       | (go_at_call 18; refine (HNEW.out _ _ _ _ _ _ _ _ _ _ _ _ _ _ _ o1 o2 o3 hb2 o4 o5).mono ?_; rintro e w3 hN; obtain ⟨rfl, hb3⟩ := ARM.out e _ _ hN)
       | fail "none")
     rename_i hheld
     go_wp2_with fail
     go_meet
     case rel => exact ⟨rfl, rfl, hheld.2.2.2.2.2.2.2⟩
    case rest =>
     obtain ⟨rfl, rfl, hkz⟩ := hcut
     have HK := Lib.hid hkz
     clear hkz
     go_wp2_with fail
     go_ret
     exact ⟨rfl, HK.out.bel⟩
end Go.Proofs.YtdepknffpnnmmaaGreat
