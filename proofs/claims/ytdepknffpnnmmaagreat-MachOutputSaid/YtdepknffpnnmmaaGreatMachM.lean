import Derived.Test.YtdepknffpnnmmaaGreatJ3a
import Derived.StillTailTactics
set_option maxRecDepth 100000
set_option maxHeartbeats 16000000
namespace Go.Proofs.YtdepknffpnnmmaaGreat
open Go.RowKit
set_option linter.unusedVariables false
set_option linter.unusedSimpArgs false
def regs0 (nx:Nat):List Value:=regset (regset (regset zregs 1 (.int .i64 3) (.int .i64 0) (.int .i64 0) (.int .i64 0)) 2 (.int .i64 1) (.int .i64 0) (.int .i64 0) (.int .i64 nx)) 10 (.int .i64 2) (.int .i64 0) (.int .i64 0) (.int .i64 256)
theorem new_ok (lo hi:Int) (data:List Int) (tabs:List (Int × Int)) (code:List Ins) (da ta ca xa ra:Option Addr) (dc tc cc xc rc:Nat) (ctx:List Int) (vals:List Value) (rows:List (List Int))
 (hmd:(Prg.mk lo hi data tabs code).made) (hft:fitsP lo hi tabs ctx.length rows) (w:World)
 (hd:Held w (.slice da data.length dc) data) (ht:Tabs w (.slice ta tabs.length tc) tabs) (hc:Coded w (.slice ca code.length cc) code)
 (hx:Held w (.slice xa ctx.length xc) ctx) (hr:Rowed w (.slice ra rows.length rc) vals rows) (ρ:Nat->Nat) :
 Calls Tryz.prog 18 #[.agg #[.int .i64 lo,.int .i64 hi,.slice da data.length dc,.slice ta tabs.length tc,.slice ca code.length cc],.agg #[.slice xa ctx.length xc,.slice ra rows.length rc]] w fun e w'=>∃ bx mb cv' uv' xv' tv' dv' zv' vals' ρ',e = .returned (.tuple #[.pointer (some ⟨bx,0,none⟩),.int .i64 0]) /\
  MB w.heap.size w ρ lo hi (.slice da data.length dc) (.slice ta tabs.length tc) (.slice ca code.length cc) (.slice xa ctx.length xc) (.slice ra rows.length rc) code.length code ρ' bx mb (bents code code.length) code.length
   (mrow zstack xv' tv' dv' zv' cv' uv' (.map (some mb)) (regs0 ctx.length) nils 0 0 false) cv' uv' w' /\
  OwnS w' w.heap.size ρ' 1 5 1 xv' ctx.length (u8s ctx)/\TabS w' w.heap.size ρ' tv' vals' rows/\OwnS w' w.heap.size ρ' 3 5 1 dv' data.length (u8s data)/\OwnS w' w.heap.size ρ' 4 101 2 zv' tabs.length (tabc tabs):=by
 have hmd':=hmd
 obtain ⟨⟨m1,m2,m3,m4,m5,m6⟩,m7,m8,m9⟩:=hmd'
 simp only at m1 m2 m3 m4 m5 m6 m7 m8 m9
 have hft':=hft
 obtain ⟨⟨q1,q2,q3⟩,q4⟩:=hft'
 have hmade:=fun w' (h1:Tabs w' (.slice ta tabs.length tc) tabs) (h2:Coded w' (.slice ca code.length cc) code)=>made_of (Prg.mk lo hi data tabs code) da ta ca dc tc cc (by simp only;omega) (by simp only;omega) (by simp only;have:=m8.1;omega) w' h1 h2
 simp only at hmade
 have hfits:=fun w' (h1:Tabs w' (.slice ta tabs.length tc) tabs) (h2:Rowed w' (.slice ra rows.length rc) vals rows)=>fits_of lo hi tabs (.slice da data.length dc) (.slice ca code.length cc) ta xa ra tc xc rc ctx.length vals rows (by omega) (by omega) (by omega) m7 w' h1 h2
 obtain ⟨nd,hnd⟩:∃ n,n = data.length:=⟨_,rfl⟩
 obtain ⟨nt,hnt⟩:∃ n,n = tabs.length:=⟨_,rfl⟩
 obtain ⟨nc,hnc⟩:∃ n,n = code.length:=⟨_,rfl⟩
 obtain ⟨nx,hnx⟩:∃ n,n = ctx.length:=⟨_,rfl⟩
 obtain ⟨nr,hnr⟩:∃ n,n = rows.length:=⟨_,rfl⟩
 have hci:=fun w' (h:Reads w' 8 (.slice ca nc cc) nc (codec code))=>clone_ins (.slice ca nc cc) nc (codec code) w' h (by have:=m8.1;omega)
 have hun:=fun w' (h:Coded w' (.slice ca nc cc) code)=>units_of (.slice ca nc cc) code m8.1 w' h
 have hmd2:=hmd
 have hft2:=hft
 simp only [<- hnd,<- hnt,<- hnc,<- hnx,<- hnr] at hmade hfits hd ht hc hx hr hun hft2 ⊢
 have hr0:Row ((w.alloc (.cells #[.int .i64 lo,.int .i64 hi,.slice da nd dc,.slice ta nt tc,.slice ca nc cc] 44)).alloc (.cells #[.slice xa nx xc,.slice ra nr rc] 46)) w.heap.size 44 (prgc lo hi (.slice da nd dc) (.slice ta nt tc) (.slice ca nc cc)):=(Row.made w (prgc lo hi (.slice da nd dc) (.slice ta nt tc) (.slice ca nc cc)) _).alloc _
 have hr2:Row ((w.alloc (.cells #[.int .i64 lo,.int .i64 hi,.slice da nd dc,.slice ta nt tc,.slice ca nc cc] 44)).alloc (.cells #[.slice xa nx xc,.slice ra nr rc] 46)) (w.heap.size + 1) 46 (inpc (.slice xa nx xc) (.slice ra nr rc)):=row_two w _ (inpc (.slice xa nx xc) (.slice ra nr rc)) _
 have hB0:=((Below.refl w.heap.size w).alloc (Nat.le_refl _) (.cells #[.int .i64 lo,.int .i64 hi,.slice da nd dc,.slice ta nt tc,.slice ca nc cc] 44)).alloc (by simp) (.cells #[.slice xa nx xc,.slice ra nr rc] 46)
 have HN0:=Lib.hid (NB.mk hr0 hr2 hB0)
 have HMADE:=Lib.hid hmade
 have HFITS:=Lib.hid hfits
 have HMD:=Lib.hid hmd
 have HFT:=Lib.hid hft2
 have HD:=Lib.hid hd
 have HT:=Lib.hid ht
 have HC:=Lib.hid hc
 have HX:=Lib.hid hx
 have HR:=Lib.hid hr
 have HCI:=Lib.hid hci
 have HUN:=Lib.hid hun
 have HND:=Lib.hid hnd
 have HNT:=Lib.hid hnt
 have HNC:=Lib.hid hnc
 have HNX:=Lib.hid hnx
 have HNR:=Lib.hid hnr
 clear hmade hfits hmd hft hft2 hmd2 hd ht hc hx hr hci hun hr0 hr2 hB0 m1 m2 m3 m4 m5 m6 m7 m8 m9 q1 q2 q3 q4 hnd hnt hnc hnx hnr
 have hmm:=@run_makeMap Tryz.prog
 go_enter Tryz.func18,Tryz.ntmps18
 go_wp2_with fail
 refine (HMADE.out _ (HT.out.below HN0.out.bel (Nat.le_refl _)) (HC.out.below HN0.out.bel (Nat.le_refl _))).mono ?_
 rintro e w1 ⟨d,rfl,hiff,hB⟩
 obtain rfl:d = true:=hiff.2 HMD.out
 have HN1:=Lib.hid (HN0.out.below hB)
 clear hB hiff
 obtain ⟨c0,c1,c2,c3,c4⟩:=prg_row HN1.out.rp
 obtain ⟨d0,d1⟩:=inp_row HN1.out.ri
 go_wp2_with fail
 refine (HFITS.out _ (HT.out.below HN1.out.bel (Nat.le_refl _)) (HR.out.below HN1.out.bel (Nat.le_refl _))).mono ?_
 rintro e w2 ⟨d,rfl,hiff,hB⟩
 obtain rfl:d = true:=hiff.2 HFT.out
 have HN2:=Lib.hid (HN1.out.below hB)
 clear hB hiff c0 c1 c2 c3 c4 d0 d1
 go_upto_region 5 with fail
 go_cut [6] from 15 (fun s6 wx=>∃ bx mb cv' uv' ρ',s6 = .pointer (some ⟨bx,0,none⟩)/\MB w.heap.size w ρ lo hi (.slice da nd dc) (.slice ta nt tc) (.slice ca nc cc) (.slice xa nx xc) (.slice ra nr rc) nc code ρ' bx mb #[] 0 (mrow zstack nils nils nils nils cv' uv' (.map (some mb)) zregs nils 0 0 false) cv' uv' wx)
 case first=>
  have hks:=(HN2.out.below (Below.refl _ _).drew).k4
  have hbl:=run_new
  have HCR:Hid (Reads w 8 (.slice ca nc cc) nc (codec code)):=Lib.hid (by have:=HC.out;unfold Coded at this;rw [<- HNC.out] at this;exact this)
  have HCI2:=Lib.hid (fun w' (h:(w'.cell? ⟨w.heap.size,4,none⟩ = some (.slice ca nc cc)/\NB w.heap.size w lo hi (.slice da nd dc) (.slice ta nt tc) (.slice ca nc cc) (.slice xa nx xc) (.slice ra nr rc) w'))=>HCI.out w' (Reads.below HCR.out h.2.bel (Nat.le_refl _)))
  have HUN2:=Lib.hid (fun w' (h:(w'.cell? ⟨w.heap.size,4,none⟩ = some (.slice ca nc cc)/\NB w.heap.size w lo hi (.slice da nd dc) (.slice ta nt tc) (.slice ca nc cc) (.slice xa nx xc) (.slice ra nr rc) w'))=>HUN.out w' (HC.out.below h.2.bel (Nat.le_refl _)))
  go_region_held3 (fun w'=>w'.cell? ⟨w.heap.size,4,none⟩ = some (.slice ca nc cc)/\NB w.heap.size w lo hi (.slice da nd dc) (.slice ta nt tc) (.slice ca nc cc) (.slice xa nx xc) (.slice ra nr rc) w')
   (first | assumption | exact NB.n4 (by assumption) hbC | exact NB.n4 (by assumption) hbU | exact NB.n4 (by assumption) (below_map _ _))
   (first
     | (go_at_call 45;refine (HCI2.out _ (by assumption)).mono ?_;rintro e wC ⟨vC,rfl,hownC,hbC⟩;obtain ⟨aC,kC,rfl⟩:=own_slice hownC)
     | (go_at_call 46;refine (HUN2.out _ (by assumption)).mono ?_;rintro e wU ⟨vU,rfl,hownU,hbU⟩;obtain ⟨aU,kU,rfl⟩:=own_slice hownU))
  all_goals
   go_wp2_with fail
   go_meet
   case rel=>
    rw [cells_new]
    first
     | (obtain ⟨ρ',h5⟩:=m5_c (ρ:=ρ) (HN2.out.below (Below.refl _ _).drew) hbC hownC hbU hownU;rw [show (wU.alloc (.map #[] 0)).heap.size = wU.heap.size + 1 by simp] at h5;exact ⟨_,_,_,_,ρ',rfl,h5⟩)
     | (obtain ⟨ρ',h5⟩:=m5_b (ρ:=ρ) (HN2.out.below (Below.refl _ _).drew) hbC hownC hbU hownU;exact ⟨_,_,_,_,ρ',rfl,h5⟩)
     | (obtain ⟨ρ',h5⟩:=m5_a (v0:=w2.drew) (ρ:=ρ) (HN2.out.below (Below.refl _ _).drew) hbC hownC hbU hownU;exact ⟨_,_,_,_,ρ',rfl,h5⟩)
 case rest=>
  obtain ⟨bx,mb,cv',uv',ρ5,rfl,h5⟩:=hcut
  have H5:=Lib.hid h5
  clear h5
  go_upto_region 6 with fail
  go_cut [] from 24 (fun wx=>∃ xv' tv' vals' ρ6,MB w.heap.size w ρ lo hi (.slice da nd dc) (.slice ta nt tc) (.slice ca nc cc) (.slice xa nx xc) (.slice ra nr rc) nc code ρ6 bx mb #[] 0 (mrow zstack xv' tv' nils nils cv' uv' (.map (some mb)) zregs nils 0 0 false) cv' uv' wx/\OwnS wx w.heap.size ρ6 1 5 1 xv' nx (u8s ctx)/\TabS wx w.heap.size ρ6 tv' vals' rows)
  case first=>
   have hks:wc.drew.cell? ⟨w.heap.size + 1,0,none⟩ = some (.slice xa nx xc)/\wc.drew.cell? ⟨w.heap.size + 1,1,none⟩ = some (.slice ra nr rc)/\NB w.heap.size w lo hi (.slice da nd dc) (.slice ta nt tc) (.slice ca nc cc) (.slice xa nx xc) (.slice ra nr rc) wc.drew:=NB.n01 (w1:=wc) ⟨(inp_row H5.out.nb.ri).1,(inp_row H5.out.nb.ri).2,H5.out.nb⟩ (Below.refl _ _).drew
   have HXR:Hid (Reads w 1 (.slice xa nx xc) nx (u8s ctx)):=Lib.hid (by have:=reads_held HX.out;rw [<- HNX.out] at this;exact this)
   have HXC:=Lib.hid (fun w' (h:w'.cell? ⟨w.heap.size + 1,0,none⟩ = some (.slice xa nx xc)/\w'.cell? ⟨w.heap.size + 1,1,none⟩ = some (.slice ra nr rc)/\NB w.heap.size w lo hi (.slice da nd dc) (.slice ta nt tc) (.slice ca nc cc) (.slice xa nx xc) (.slice ra nr rc) w')=>clone_byte (.slice xa nx xc) nx (u8s ctx) w' (HXR.out.below h.2.2.bel (Nat.le_refl _)) (by have:=HFT.out.1;have:=HMD.out.1.2.2.1;simp only at this;omega))
   have HTC:=Lib.hid (fun w' (h:w'.cell? ⟨w.heap.size + 1,0,none⟩ = some (.slice xa nx xc)/\w'.cell? ⟨w.heap.size + 1,1,none⟩ = some (.slice ra nr rc)/\NB w.heap.size w lo hi (.slice da nd dc) (.slice ta nt tc) (.slice ca nc cc) (.slice xa nx xc) (.slice ra nr rc) w')=>copies_of (.slice ra nr rc) vals rows (by have:=HFT.out.1.2.2;have:=HMD.out.1.2.2.2.2.1;simp only at this;omega) (fun i hi=>by
    have h1:=HFT.out.1.2.2
    have h2:=HFT.out.2 i (by have:=HNR.out;have:=HNT.out;omega) hi
    have h3:=HMD.out.2.1 i (by have:=HNR.out;have:=HNT.out;simp only;omega)
    unfold TabOK at h3
    simp only at h3
    have h4:=Int.mul_le_mul_of_nonneg_right h3.2.1 (show (0:Int) <= tabs[i].2 by omega)
    omega) w' (HR.out.below h.2.2.bel (Nat.le_refl _)) (newRole ρ5 wc.heap.size 1) 10)
   have hle:=H5.out.le
   have hsz:w.heap.size <= wc.heap.size:=H5.out.nb.bel.size
   go_region_held3 (fun w'=>w'.cell? ⟨w.heap.size + 1,0,none⟩ = some (.slice xa nx xc)/\w'.cell? ⟨w.heap.size + 1,1,none⟩ = some (.slice ra nr rc)/\NB w.heap.size w lo hi (.slice da nd dc) (.slice ta nt tc) (.slice ca nc cc) (.slice xa nx xc) (.slice ra nr rc) w')
    (first | assumption | exact NB.n01 (by assumption) hbX | exact NB.n01 (by assumption) hcT.bel | exact NB.s01 (by assumption) hle _ _)
    (first
      | (go_at_call 47;refine (HXC.out _ (by assumption)).mono ?_;rintro e wX ⟨vX,rfl,hownX,hbX⟩;obtain ⟨aX,kX,rfl⟩:=own_slice hownX)
      | (go_at_call 48;refine (HTC.out _ (by assumption)).mono ?_;rintro e wT ⟨vT,vals',ρT,rfl,hcT⟩;obtain ⟨aT,kT,rfl⟩:=own_slice hcT.list.1;have hMB:=((H5.out.next (Below.refl wc.heap.size wc).drew (fun _ _=>rfl)).next hbX newRole_same).next hcT.bel hcT.role;have hX6:=(own_new hownX hsz ρ5 1).next hcT.bel hcT.role;have hT6:=tabs_of hcT (Nat.le_trans hsz hbX.size);obtain ⟨k0,k1,k2,k3,k4,k5,k6⟩:=mrow_heads zstack_len hMB.box;have f0:=hMB.box.free 416;have f1:=hMB.box.free 417))
   all_goals
    have hr:ρT bx = 0:=hMB.rb
    have h6:=(hMB.set 416 (.slice aX nx kX)).set 417 (.slice aT rows.length kT)
    rw [mrow_set0 zstack_len,mrow_set1 zstack_len] at h6
    have hX7:=(hX6.set ⟨bx,416,none⟩ (.slice aX nx kX) (by rw [hr];decide)).set ⟨bx,417,none⟩ (.slice aT rows.length kT) (by rw [hr];decide)
    have hT7:=(hT6.set ⟨bx,416,none⟩ (.slice aX nx kX) (by rw [hr];decide)).set ⟨bx,417,none⟩ (.slice aT rows.length kT) (by rw [hr];decide)
    go_wp2_with fail
    go_meet
    case rel=>exact ⟨_,_,vals',ρT,h6,hX7,hT7⟩
  case rest=>
   obtain ⟨xv',tv',vals',ρ6,h6,hX,hT⟩:=hcut
   have H6:=Lib.hid h6
   have HX6:=Lib.hid hX
   have HT6:=Lib.hid hT
   clear h6 hX hT H5
   go_upto_region 7 with fail
   go_cut [] from 38 (fun wx=>∃ dv' zv' ρ7,MB w.heap.size w ρ lo hi (.slice da nd dc) (.slice ta nt tc) (.slice ca nc cc) (.slice xa nx xc) (.slice ra nr rc) nc code ρ7 bx mb #[] 0 (mrow zstack xv' tv' dv' zv' cv' uv' (.map (some mb)) zregs nils 0 0 false) cv' uv' wx/\OwnS wx w.heap.size ρ7 1 5 1 xv' nx (u8s ctx)/\TabS wx w.heap.size ρ7 tv' vals' rows /\
    OwnS wx w.heap.size ρ7 3 5 1 dv' nd (u8s data)/\OwnS wx w.heap.size ρ7 4 101 2 zv' nt (tabc tabs))
   case first=>
    have hks:wc.drew.cell? ⟨w.heap.size,2,none⟩ = some (.slice da nd dc)/\wc.drew.cell? ⟨w.heap.size,3,none⟩ = some (.slice ta nt tc)/\NB w.heap.size w lo hi (.slice da nd dc) (.slice ta nt tc) (.slice ca nc cc) (.slice xa nx xc) (.slice ra nr rc) wc.drew:=NB.n23 (w1:=wc) ⟨(prg_row H6.out.nb.rp).2.2.1,(prg_row H6.out.nb.rp).2.2.2.1,H6.out.nb⟩ (Below.refl _ _).drew
    have HDR:Hid (Reads w 1 (.slice da nd dc) nd (u8s data)):=Lib.hid (by have:=reads_held HD.out;rw [<- HND.out] at this;exact this)
    have HTR:Hid (Reads w 2 (.slice ta nt tc) nt (tabc tabs)):=Lib.hid (by have:=HT.out;unfold Tabs at this;rw [<- HNT.out] at this;exact this)
    have HDC:=Lib.hid (fun w' (h:w'.cell? ⟨w.heap.size,2,none⟩ = some (.slice da nd dc)/\w'.cell? ⟨w.heap.size,3,none⟩ = some (.slice ta nt tc)/\NB w.heap.size w lo hi (.slice da nd dc) (.slice ta nt tc) (.slice ca nc cc) (.slice xa nx xc) (.slice ra nr rc) w')=>clone_byte (.slice da nd dc) nd (u8s data) w' (HDR.out.below h.2.2.bel (Nat.le_refl _)) (by have:=HMD.out.1.2.2.2.1;have:=HND.out;simp only at *;omega))
    have HTC:=Lib.hid (fun w' (h:w'.cell? ⟨w.heap.size,2,none⟩ = some (.slice da nd dc)/\w'.cell? ⟨w.heap.size,3,none⟩ = some (.slice ta nt tc)/\NB w.heap.size w lo hi (.slice da nd dc) (.slice ta nt tc) (.slice ca nc cc) (.slice xa nx xc) (.slice ra nr rc) w')=>clone_tab (.slice ta nt tc) nt (tabc tabs) w' (HTR.out.below h.2.2.bel (Nat.le_refl _)) (by have:=HMD.out.1.2.2.2.2.1;have:=HNT.out;simp only at *;omega))
    have hle:=H6.out.le
    have hsz:w.heap.size <= wc.heap.size:=H6.out.nb.bel.size
    go_region_held3 (fun w'=>w'.cell? ⟨w.heap.size,2,none⟩ = some (.slice da nd dc)/\w'.cell? ⟨w.heap.size,3,none⟩ = some (.slice ta nt tc)/\NB w.heap.size w lo hi (.slice da nd dc) (.slice ta nt tc) (.slice ca nc cc) (.slice xa nx xc) (.slice ra nr rc) w')
     (first | assumption | exact NB.n23 (by assumption) hbX | exact NB.n23 (by assumption) hbT | exact NB.s23 (by assumption) hle _ _)
     (first
       | (go_at_call 47;refine (HDC.out _ (by assumption)).mono ?_;rintro e wX ⟨vX,rfl,hownX,hbX⟩;obtain ⟨aX,kX,rfl⟩:=own_slice hownX)
       | (go_at_call 49;refine (HTC.out _ (by assumption)).mono ?_;rintro e wT ⟨vT,rfl,hownT,hbT⟩;obtain ⟨aT,kT,rfl⟩:=own_slice hownT;have hMB:=((H6.out.next (Below.refl wc.heap.size wc).drew (fun _ _=>rfl)).next hbX (newRole_same (r:=3))).next hbT (newRole_same (r:=4));have hX6:=((HX6.out.next (Below.refl wc.heap.size wc).drew (fun _ _=>rfl)).next hbX (newRole_same (r:=3))).next hbT (newRole_same (r:=4));have hT6:=((HT6.out.next (Below.refl wc.heap.size wc).drew (fun _ _=>rfl)).next hbX (newRole_same (r:=3))).next hbT (newRole_same (r:=4));have hD6:=(own_new hownX hsz ρ6 3).next hbT (newRole_same (r:=4));have hZ6:=own_new hownT (Nat.le_trans hsz hbX.size) (newRole ρ6 wc.heap.size 3) 4;obtain ⟨k0,k1,k2,k3,k4,k5,k6⟩:=mrow_heads zstack_len hMB.box;have f2:=hMB.box.free 418;have f3:=hMB.box.free 419))
    all_goals
     have hr:newRole (newRole ρ6 wc.heap.size 3) wX.heap.size 4 bx = 0:=hMB.rb
     have h6:=(hMB.set 418 (.slice aX nd kX)).set 419 (.slice aT nt kT)
     rw [mrow_set2 zstack_len,mrow_set3 zstack_len] at h6
     have hX7:=(hX6.set ⟨bx,418,none⟩ (.slice aX nd kX) (by show newRole (newRole ρ6 wc.heap.size 3) wX.heap.size 4 bx ≠ _;rw [hr];decide)).set ⟨bx,419,none⟩ (.slice aT nt kT) (by show newRole (newRole ρ6 wc.heap.size 3) wX.heap.size 4 bx ≠ _;rw [hr];decide)
     have hT7:=(hT6.set ⟨bx,418,none⟩ (.slice aX nd kX) (by show newRole (newRole ρ6 wc.heap.size 3) wX.heap.size 4 bx < 10;rw [hr];decide)).set ⟨bx,419,none⟩ (.slice aT nt kT) (by show newRole (newRole ρ6 wc.heap.size 3) wX.heap.size 4 bx < 10;rw [hr];decide)
     have hD7:=(hD6.set ⟨bx,418,none⟩ (.slice aX nd kX) (by show newRole (newRole ρ6 wc.heap.size 3) wX.heap.size 4 bx ≠ _;rw [hr];decide)).set ⟨bx,419,none⟩ (.slice aT nt kT) (by show newRole (newRole ρ6 wc.heap.size 3) wX.heap.size 4 bx ≠ _;rw [hr];decide)
     have hZ7:=(hZ6.set ⟨bx,418,none⟩ (.slice aX nd kX) (by show newRole (newRole ρ6 wc.heap.size 3) wX.heap.size 4 bx ≠ _;rw [hr];decide)).set ⟨bx,419,none⟩ (.slice aT nt kT) (by show newRole (newRole ρ6 wc.heap.size 3) wX.heap.size 4 bx ≠ _;rw [hr];decide)
     go_wp2_with fail
     go_meet
     case rel=>exact ⟨_,_,_,h6,hX7,hT7,hD7,hZ7⟩
   case rest=>
    obtain ⟨dv',zv',ρ7,h7,hX,hT,hD',hZ⟩:=hcut
    have H7:=Lib.hid h7
    have HX7:=Lib.hid hX
    have HT7:=Lib.hid hT
    have HD7:=Lib.hid hD'
    have HZ7:=Lib.hid hZ
    clear h7 hX hT hD' hZ H6 HX6 HT6
    obtain ⟨k0,k1,k2,k3,k4,k5,k6⟩:=mrow_heads zstack_len H7.out.box
    obtain ⟨ac,kc,rfl⟩:=own_slice H7.out.codeS.1
    obtain ⟨gu,ku,rfl⟩:=own_some H7.out.unitsS.1 (Nat.succ_pos _)
    have hncb:nc <= 4096:=by have:=HMD.out.2.2.1.1;have:=HNC.out;simp only at *;omega
    go_wp2_with fail
    clear k0 k1 k2 k3 k4 k5 k6
    go_loopw [57] (fun s wr=>∃ i:Nat,i <= nc/\s = .int .i64 i/\MB w.heap.size w ρ lo hi (.slice da nd dc) (.slice ta nt tc) (.slice ca nc cc) (.slice xa nx xc) (.slice ra nr rc) nc code ρ7 bx mb (bents code i) i (mrow zstack xv' tv' dv' zv' (.slice ac nc kc) (.slice (some ⟨gu,0,none⟩) (nc + 1) ku) (.map (some mb)) zregs nils 0 0 false) (.slice ac nc kc) (.slice (some ⟨gu,0,none⟩) (nc + 1) ku) wr/\OwnS wr w.heap.size ρ7 1 5 1 xv' nx (u8s ctx)/\TabS wr w.heap.size ρ7 tv' vals' rows /\
     OwnS wr w.heap.size ρ7 3 5 1 dv' nd (u8s data)/\OwnS wr w.heap.size ρ7 4 101 2 zv' nt (tabc tabs)) (fun s _=>nc - (intOf s).toNat)
    case atStart=>exact ⟨0,Nat.zero_le _,rfl,H7.out,HX7.out,HT7.out,HD7.out,HZ7.out⟩
    case round=>
     obtain ⟨i,hi',rfl,hM,hX,hT,hD',hZ⟩:=hrel
     have HM:=Lib.hid hM
     have HXl:=Lib.hid hX
     have HTl:=Lib.hid hT
     have HDl:=Lib.hid hD'
     have HZl:=Lib.hid hZ
     clear hM hX hT hD' hZ
     by_cases hlt:i < nc
     ·obtain ⟨k0,k1,k2,k3,k4,k5,k6⟩:=mrow_heads zstack_len HM.out.box
      have q1:wr.cell? ⟨gu,i,none⟩ = some (.int .i64 (unitAt code i:Nat)):=by rw [HM.out.unitsS.1.cellAt i (by omega),ztab_get _ (by omega)]
      obtain ⟨U,hU⟩:∃ U:Int,U = (unitAt code i:Nat):=⟨_,rfl⟩
      rw [<- hU] at q1
      have HU:=Lib.hid hU
      clear hU
      have hj1:(0:Int) <= (i:Int):=by omega
      have hj3:(i:Int) < nc + 1:=by omega
      have hj4:(i:Int) < nc:=by omega
      go_upto_region 11 with fail
      go_still_tail 12,(by kernel_rfl)
      change wpList _ _ _ _ _ wr.drew
      have HMd:=Lib.hid (HM.out.next (Below.refl wr.heap.size wr).drew (fun _ _=>rfl))
      have HXd:=Lib.hid (HXl.out.next (Below.refl wr.heap.size wr).drew (fun _ _=>rfl))
      have HTd:=Lib.hid (HTl.out.next (Below.refl wr.heap.size wr).drew (fun _ _=>rfl))
      have HDd:=Lib.hid (HDl.out.next (Below.refl wr.heap.size wr).drew (fun _ _=>rfl))
      have HZd:=Lib.hid (HZl.out.next (Below.refl wr.heap.size wr).drew (fun _ _=>rfl))
      have hput:=run_put_at (P:=Tryz.prog) Tryz.underlying95 Tryz.underlying3 wr.drew mb (bents code i) i HMd.out.begin'.at' U (.int .i64 i) (by rw [HU.out];exact find_new code i)
      clear k0 k1 k2 k3 k4 k5 k6 q1
      generalize wr.drew = wd at hput HMd HXd HTd HDd HZd ⊢
      go_wp2
      go_roundw
      case rel=>
       have e:=bents_push code i
       rw [<- HU.out] at e
       rw [e]
       have hr:=HMd.out.begin'.role
       exact ⟨i + 1,hlt,by go_num,HMd.out.putm _ _,HXd.out.putm (by rw [hr];decide) _,HTd.out.putm (by rw [hr];decide) _,HDd.out.putm (by rw [hr];decide) _,HZd.out.putm (by rw [hr];decide) _⟩
      case measure=>simp [intOf];omega
     ·obtain rfl:nc = i:=by omega
      have hg:=mrow_reg zstack_len zregs_len HM.out.box
      have c0:wr.cell? ⟨bx,427,none⟩ = some (.int .i64 0):=hg 4 (by decide)
      have c1:wr.cell? ⟨bx,428,none⟩ = some (.int .i64 0):=hg 5 (by decide)
      have c2:wr.cell? ⟨bx,429,none⟩ = some (.int .i64 0):=hg 6 (by decide)
      have c3:wr.cell? ⟨bx,430,none⟩ = some (.int .i64 0):=hg 7 (by decide)
      have f0:=HM.out.box.free 427
      have f1:=HM.out.box.free 428
      have f2:=HM.out.box.free 429
      have f3:=HM.out.box.free 430
      have hr:=HM.out.rb
      have hM2:=HM.out.reg zstack_len zregs_len 1 (by decide) (.int .i64 3) (.int .i64 0) (.int .i64 0) (.int .i64 0)
      have hX2:=HXl.out.set4 (bx:=bx) (by rw [hr];decide) 427 428 429 430 (.int .i64 3) (.int .i64 0) (.int .i64 0) (.int .i64 0)
      have hT2:=HTl.out.set4 (bx:=bx) (by rw [hr];decide) 427 428 429 430 (.int .i64 3) (.int .i64 0) (.int .i64 0) (.int .i64 0)
      have hD2:=HDl.out.set4 (bx:=bx) (by rw [hr];decide) 427 428 429 430 (.int .i64 3) (.int .i64 0) (.int .i64 0) (.int .i64 0)
      have hZ2:=HZl.out.set4 (bx:=bx) (by rw [hr];decide) 427 428 429 430 (.int .i64 3) (.int .i64 0) (.int .i64 0) (.int .i64 0)
      have HM2:=Lib.hid hM2
      have HX2:=Lib.hid hX2
      have HT2:=Lib.hid hT2
      have HD2:=Lib.hid hD2
      have HZ2:=Lib.hid hZ2
      clear hg hM2 hX2 hT2 hD2 hZ2 hr
      go_upto_region 14 with fail
      clear c0 c1 c2 c3 f0 f1 f2 f3
      generalize World.setCell _ _ _ = wA at HM2 HX2 HT2 HD2 HZ2 ⊢
      have hks:wA.drew.cell? ⟨w.heap.size + 1,0,none⟩ = some (.slice xa nx xc)/\wA.drew.cell? ⟨w.heap.size + 1,1,none⟩ = some (.slice ra nr rc)/\NB w.heap.size w lo hi (.slice da nd dc) (.slice ta nt tc) (.slice ca nc cc) (.slice xa nx xc) (.slice ra nr rc) wA.drew:=NB.n01 (w1:=wA) ⟨(inp_row HM2.out.nb.ri).1,(inp_row HM2.out.nb.ri).2,HM2.out.nb⟩ (Below.refl _ _).drew
      have HNU:=Lib.hid (fun w'=>mnumber_of (nx:Int) w')
      have hle:=HM2.out.le
      go_region_held3 (fun w'=>w'.cell? ⟨w.heap.size + 1,0,none⟩ = some (.slice xa nx xc)/\w'.cell? ⟨w.heap.size + 1,1,none⟩ = some (.slice ra nr rc)/\NB w.heap.size w lo hi (.slice da nd dc) (.slice ta nt tc) (.slice ca nc cc) (.slice xa nx xc) (.slice ra nr rc) w')
       (first | assumption | exact NB.n01 (by assumption) hbN | exact NB.s01 (NB.s01 (NB.s01 (NB.s01 (by assumption) hle _ _) hle _ _) hle _ _) hle _ _)
       (first
         | (go_at_call 50;refine (HNU.out _).mono ?_;rintro e wN ⟨rfl,hbN⟩;have hMN:=(HM2.out.next (Below.refl wA.heap.size wA).drew (fun _ _=>rfl)).next hbN (fun _ _=>rfl);have hXN:=(HX2.out.next (Below.refl wA.heap.size wA).drew (fun _ _=>rfl)).next hbN (fun _ _=>rfl);have hTN:=(HT2.out.next (Below.refl wA.heap.size wA).drew (fun _ _=>rfl)).next hbN (fun _ _=>rfl);have hDN:=(HD2.out.next (Below.refl wA.heap.size wA).drew (fun _ _=>rfl)).next hbN (fun _ _=>rfl);have hZN:=(HZ2.out.next (Below.refl wA.heap.size wA).drew (fun _ _=>rfl)).next hbN (fun _ _=>rfl);have hg:=mrow_reg zstack_len ((regset_len _ _ _ _ _ _).trans zregs_len) hMN.box;have c0:wN.cell? ⟨bx,431,none⟩ = some (.int .i64 0):=hg 8 (by decide);have c1:wN.cell? ⟨bx,432,none⟩ = some (.int .i64 0):=hg 9 (by decide);have c2:wN.cell? ⟨bx,433,none⟩ = some (.int .i64 0):=hg 10 (by decide);have c3:wN.cell? ⟨bx,434,none⟩ = some (.int .i64 0):=hg 11 (by decide);have f0:=hMN.box.free 431;have f1:=hMN.box.free 432;have f2:=hMN.box.free 433;have f3:=hMN.box.free 434;clear hg))
      all_goals
       have hr:=hMN.rb
       have HM3:=Lib.hid (hMN.reg zstack_len ((regset_len _ _ _ _ _ _).trans zregs_len) 2 (by decide) (.int .i64 1) (.int .i64 0) (.int .i64 0) (.int .i64 nx))
       have HX3:=Lib.hid (hXN.set4 (bx:=bx) (by rw [hr];decide) 431 432 433 434 (.int .i64 1) (.int .i64 0) (.int .i64 0) (.int .i64 nx))
       have HT3:=Lib.hid (hTN.set4 (bx:=bx) (by rw [hr];decide) 431 432 433 434 (.int .i64 1) (.int .i64 0) (.int .i64 0) (.int .i64 nx))
       have HD3:=Lib.hid (hDN.set4 (bx:=bx) (by rw [hr];decide) 431 432 433 434 (.int .i64 1) (.int .i64 0) (.int .i64 0) (.int .i64 nx))
       have HZ3:=Lib.hid (hZN.set4 (bx:=bx) (by rw [hr];decide) 431 432 433 434 (.int .i64 1) (.int .i64 0) (.int .i64 0) (.int .i64 nx))
       rename_i hheld
       clear hheld hks hMN hXN hTN hDN hZN c0 c1 c2 c3 f0 f1 f2 f3 hr HM2 HX2 HT2 HD2 HZ2
       generalize World.setCell _ _ _ = wB at HM3 HX3 HT3 HD3 HZ3 ⊢
       have hg:=mrow_reg zstack_len ((regset_len _ _ _ _ _ _).trans ((regset_len _ _ _ _ _ _).trans zregs_len)) HM3.out.box
       have c0:wB.cell? ⟨bx,463,none⟩ = some (.int .i64 0):=hg 40 (by decide)
       have c1:wB.cell? ⟨bx,464,none⟩ = some (.int .i64 0):=hg 41 (by decide)
       have c2:wB.cell? ⟨bx,465,none⟩ = some (.int .i64 0):=hg 42 (by decide)
       have c3:wB.cell? ⟨bx,466,none⟩ = some (.int .i64 0):=hg 43 (by decide)
       have f0:=HM3.out.box.free 463
       have f1:=HM3.out.box.free 464
       have f2:=HM3.out.box.free 465
       have f3:=HM3.out.box.free 466
       have hr:=HM3.out.rb
       have HM4:=Lib.hid (HM3.out.reg zstack_len ((regset_len _ _ _ _ _ _).trans ((regset_len _ _ _ _ _ _).trans zregs_len)) 10 (by decide) (.int .i64 2) (.int .i64 0) (.int .i64 0) (.int .i64 256))
       have HX4:=Lib.hid (HX3.out.set4 (bx:=bx) (by rw [hr];decide) 463 464 465 466 (.int .i64 2) (.int .i64 0) (.int .i64 0) (.int .i64 256))
       have HT4:=Lib.hid (HT3.out.set4 (bx:=bx) (by rw [hr];decide) 463 464 465 466 (.int .i64 2) (.int .i64 0) (.int .i64 0) (.int .i64 256))
       have HD4:=Lib.hid (HD3.out.set4 (bx:=bx) (by rw [hr];decide) 463 464 465 466 (.int .i64 2) (.int .i64 0) (.int .i64 0) (.int .i64 256))
       have HZ4:=Lib.hid (HZ3.out.set4 (bx:=bx) (by rw [hr];decide) 463 464 465 466 (.int .i64 2) (.int .i64 0) (.int .i64 0) (.int .i64 256))
       clear hg hr HM3 HX3 HT3 HD3 HZ3
       go_wp2
       exact bodyPost_ret (v:=.tuple #[.pointer (some ⟨bx,0,none⟩),.int .i64 0]) (by simp [results,Tryz.results18,go_sem]) rfl ⟨bx,mb,_,_,xv',tv',dv',zv',vals',ρ7,rfl,HM4.out,HX4.out,HT4.out,HD4.out,HZ4.out⟩
end Go.Proofs.YtdepknffpnnmmaaGreat
