import Derived.Test.YtdepknffpnnmmaaGreatGc
import Derived.Test.YtdepknffpnnmmaaGreatGd
import Derived.Test.YtdepknffpnnmmaaGreatTake
set_option maxRecDepth 100000
set_option maxHeartbeats 16000000
namespace Go.Proofs.YtdepknffpnnmmaaGreat
open Go.RowKit
set_option linter.unusedVariables false
set_option linter.unusedSimpArgs false
theorem tab_ofC {w w':World} {ρ ρ':Nat->Nat} {v:Value} {vals:List Value} {rows:List (List Int)} (h:CopS w w' ρ ρ' 10 rows.length v vals rows):TabS w' w.heap.size ρ' v vals rows:=⟨h.list,fun k hk=>h.item k hk hk⟩
theorem rows_next {base k:Nat} {vals:List Value} {rows:List (List Int)} {P:Nat->Nat} {w w':World} (h:RowsAt base vals rows k P w) (hb:Below w.heap.size w w') (m:Nat):RowsAt base vals rows k (grown P w.heap.size m) w':=
 fun j hj hl=>let ⟨u,hu,ho⟩:=h j hj hl;⟨u,hu,ho.nextW hb m⟩
theorem own_at {w:World} {base n c:Nat} {e:TypeId} {a:Option Addr} {xs:List Value} (h:w.ownsRow base e 1 (.slice a n c) n xs) (hn:0 < n):∃ g,a = some ⟨g,0,none⟩/\∀ j,j < n->w.cell? ⟨g,j,none⟩ = xs[j]?:=by
 have h0:=h
 obtain ⟨hl,⟨hv,h1⟩ | ⟨g,cap,cur,hv,hb,hg,rest⟩⟩:=h
 ·omega
 ·cases hv
  exact ⟨g,rfl,fun j hj=>h0.cellAt j (by omega)⟩
theorem row_len {fx:Mfix} {s:Mst} (hc:CodeG fx) (hs:Sane fx s) (k:Nat) (hk:k < s.rows.length):s.rows[k].length <= 1000000:=by
 obtain ⟨_,h⟩:=hs.good.mem.rows k hk
 obtain ⟨a1,a2,a3,a4⟩:=hs.good.mem.tabs k (by rw [<- hs.good.mem.rowsl];exact hk)
 have:(fx.tabs.getD k (0,0)).1 * (fx.tabs.getD k (0,0)).2 <= 64 * 64:=Int.mul_le_mul a2 a4 (by omega) (by omega)
 omega
theorem output_walk (p:Prg) (ctx:List Int) (vals:List Value) (rows:List (List Int)) (d0 t0 c0 x0 r0:Option Addr) (k0 k1 k2 k3 k4:Nat) (W:World)
 (hd:Held W (.slice d0 p.data.length k0) p.data) (ht:Tabs W (.slice t0 p.tabs.length k1) p.tabs) (hc:Coded W (.slice c0 p.code.length k2) p.code) (him:∀ i ∈ p.code,i64r i.imm)
 (hld:p.data.length <= 140737488355328) (hlt:p.tabs.length * 16 <= 140737488355328) (hlc:p.code.length * 56 <= 140737488355328)
 (hx:Held W (.slice x0 ctx.length k3) ctx) (hr:Rowed W (.slice r0 rows.length k4) vals rows) (hxl:ctx.length <= 140737488355328) (hrl:rows.length <= 5864062014805) (hrw:∀ i (h:i < rows.length),rows[i].length <= 140737488355328) :
 Calls Tryz.prog 7 #[.agg #[.int .i64 p.lo,.int .i64 p.hi,.slice d0 p.data.length k0,.slice t0 p.tabs.length k1,.slice c0 p.code.length k2],.agg #[.slice x0 ctx.length k3,.slice r0 rows.length k4]] W fun e w'=>e = .returned (.bool true)/\Below W.heap.size W w':=by
 have hpd:=hd.bytes
 have hxb:=hx.bytes
 have hrb:∀ k (h:k < rows.length),IsBytes rows[k]:=fun k h=>let ⟨u,_,hh⟩:=hr.held k h;hh.bytes
 obtain ⟨E,hE⟩:∃ z,z = newE p ctx rows:=⟨_,rfl⟩
 have HE:=Lib.hid hE
 have HNEW:=Lib.hid (new_copies p ctx rows hpd hxb hrb hld hlt hlc hxl hrl)
 have HCP:=Lib.hid (fun (w':World) (hS:w'.cell? ⟨W.heap.size,0,none⟩ = some (.int .i64 p.lo)/\w'.cell? ⟨W.heap.size,1,none⟩ = some (.int .i64 p.hi)/\w'.cell? ⟨W.heap.size,2,none⟩ = some (.slice d0 p.data.length k0)/\w'.cell? ⟨W.heap.size,3,none⟩ = some (.slice t0 p.tabs.length k1)/\w'.cell? ⟨W.heap.size,4,none⟩ = some (.slice c0 p.code.length k2)/\w'.cell? ⟨W.heap.size + 1,0,none⟩ = some (.slice x0 ctx.length k3)/\w'.cell? ⟨W.heap.size + 1,1,none⟩ = some (.slice r0 rows.length k4)/\KZ W [.int .i64 p.lo,.int .i64 p.hi,.slice d0 p.data.length k0,.slice t0 p.tabs.length k1,.slice c0 p.code.length k2] [.slice x0 ctx.length k3,.slice r0 rows.length k4] w')=>copy_program p.lo p.hi p.data p.tabs.length p.code.length (tabc p.tabs) (codec p.code) d0 t0 c0 k0 k1 k2 w' (hd.below hS.2.2.2.2.2.2.2.bel (Nat.le_refl _)) (Reads.below ht hS.2.2.2.2.2.2.2.bel (Nat.le_refl _)) (Reads.below hc hS.2.2.2.2.2.2.2.bel (Nat.le_refl _)) hld hlt hlc)
 have HCI:=Lib.hid (fun (w':World) (hS:w'.cell? ⟨W.heap.size,0,none⟩ = some (.int .i64 p.lo)/\w'.cell? ⟨W.heap.size,1,none⟩ = some (.int .i64 p.hi)/\w'.cell? ⟨W.heap.size,2,none⟩ = some (.slice d0 p.data.length k0)/\w'.cell? ⟨W.heap.size,3,none⟩ = some (.slice t0 p.tabs.length k1)/\w'.cell? ⟨W.heap.size,4,none⟩ = some (.slice c0 p.code.length k2)/\w'.cell? ⟨W.heap.size + 1,0,none⟩ = some (.slice x0 ctx.length k3)/\w'.cell? ⟨W.heap.size + 1,1,none⟩ = some (.slice r0 rows.length k4)/\KZ W [.int .i64 p.lo,.int .i64 p.hi,.slice d0 p.data.length k0,.slice t0 p.tabs.length k1,.slice c0 p.code.length k2] [.slice x0 ctx.length k3,.slice r0 rows.length k4] w')=>copy_input ctx vals rows x0 r0 k3 k4 w' (hx.below hS.2.2.2.2.2.2.2.bel (Nat.le_refl _)) (hr.below hS.2.2.2.2.2.2.2.bel (Nat.le_refl _)) hxl hrl hrw)
 have HIM:=Lib.hid him
 have HBY:=Lib.hid (And.intro hpd (And.intro hxb hrb))
 clear hd ht hc hx hr him hld hlt hlc hxl hrl hrw hpd hxb hrb hE
 go_enter Tryz.func7,Tryz.ntmps7
 go_upto_region 1 with fail
 have hs1:(W.alloc (.cells #[.int .i64 p.lo,.int .i64 p.hi,.slice d0 p.data.length k0,.slice t0 p.tabs.length k1,.slice c0 p.code.length k2] 44)).heap.size = W.heap.size + 1:=by simp
 have hKL:KZ W [.int .i64 p.lo,.int .i64 p.hi,.slice d0 p.data.length k0,.slice t0 p.tabs.length k1,.slice c0 p.code.length k2] [.slice x0 ctx.length k3,.slice r0 rows.length k4] ((W.alloc (.cells #[.int .i64 p.lo,.int .i64 p.hi,.slice d0 p.data.length k0,.slice t0 p.tabs.length k1,.slice c0 p.code.length k2] 44)).alloc (.cells #[.slice x0 ctx.length k3,.slice r0 rows.length k4] 46)):=by
  have h2:=Row.made (W.alloc (.cells #[.int .i64 p.lo,.int .i64 p.hi,.slice d0 p.data.length k0,.slice t0 p.tabs.length k1,.slice c0 p.code.length k2] 44)) [.slice x0 ctx.length k3,.slice r0 rows.length k4] 46
  rw [hs1] at h2
  exact ⟨(below_map W _).trans ((below_map _ _).mono (by rw [hs1];omega)),(Row.made W [.int .i64 p.lo,.int .i64 p.hi,.slice d0 p.data.length k0,.slice t0 p.tabs.length k1,.slice c0 p.code.length k2] _).alloc _,h2⟩
 try simp only [hs1]
 clear hs1
 generalize World.alloc _ _ = wA at hKL ⊢
 have HK0:=Lib.hid hKL
 clear hKL
 go_upto_region 3 with (go_at_call 17;refine (awake_of _).mono ?_;rintro e wB ⟨rfl,hbB⟩)
 have HK:=Lib.hid (HK0.out.next hbB)
 clear hbB HK0
 by_cases h0:E = 0
 ·have ARM := Lib.hid (fun (e : Ending) (w2 w3 : World) (h : (newE p ctx rows = 0 ∧ ∃ bx v, e = .returned (.tuple #[.pointer (some ⟨bx, 0, none⟩), .int .i64 0]) ∧ MS w2.heap.size w2 ⟨p.data, p.tabs, p.code⟩ (stG ctx rows) bx v w3) ∨
   (newE p ctx rows ≠ 0 ∧ e = .returned (.tuple #[.pointer none, .int .i64 (newE p ctx rows)]) ∧ Below w2.heap.size w2 w3)) => (show ∃ bx v, MS w2.heap.size w2 ⟨p.data, p.tabs, p.code⟩ (stG ctx rows) bx v w3 ∧ e = .returned (.tuple #[.pointer (some ⟨bx, 0, none⟩), .int .i64 0]) from by
     rcases h with ⟨_,bx,v,h1,h2⟩ | ⟨h1,_⟩
     ·exact ⟨bx,v,h2,h1⟩
     ·exact absurd (HE.out.symm.trans h0) h1))
  have hmf:=newE_zero.1 (HE.out.symm.trans h0)
  have HC:=Lib.hid (And.intro (code_G hmf.1 HIM.out) (sane_G hmf.1 hmf.2 HBY.out.1 HBY.out.2.1 HBY.out.2.2))
  clear hmf
  go_cut [5,6] from 19 to 26 (fun s5 s6 wx=>∃ bx P,s5 = .pointer (some ⟨bx,0,none⟩)/\s6 = .int .i64 0/\Ground W P wx/\Mine P 1 ⟨p.data,p.tabs,p.code⟩ (stG ctx rows) bx wx)
  case first=>
   have hks:=(HK.out.next (Below.refl _ _).drew).k
   go_region_held3 (fun w'=>w'.cell? ⟨W.heap.size,0,none⟩ = some (.int .i64 p.lo)/\w'.cell? ⟨W.heap.size,1,none⟩ = some (.int .i64 p.hi)/\w'.cell? ⟨W.heap.size,2,none⟩ = some (.slice d0 p.data.length k0)/\w'.cell? ⟨W.heap.size,3,none⟩ = some (.slice t0 p.tabs.length k1)/\w'.cell? ⟨W.heap.size,4,none⟩ = some (.slice c0 p.code.length k2)/\w'.cell? ⟨W.heap.size + 1,0,none⟩ = some (.slice x0 ctx.length k3)/\w'.cell? ⟨W.heap.size + 1,1,none⟩ = some (.slice r0 rows.length k4)/\KZ W [.int .i64 p.lo,.int .i64 p.hi,.slice d0 p.data.length k0,.slice t0 p.tabs.length k1,.slice c0 p.code.length k2] [.slice x0 ctx.length k3,.slice r0 rows.length k4] w')
   (first
     | with_reducible assumption
     | exact KZ.n (by with_reducible assumption) hb1
     | exact KZ.n (by with_reducible assumption) hb2
     | exact KZ.n (by with_reducible assumption) hb3
     | fail "none")
   (first
     | (go_at_call 19;refine (HCP.out _ (by with_reducible assumption)).mono ?_;rintro e w1 ⟨da,dc,ta,tc,ca,cc,rfl,hb1,o1,o2,o3⟩)
     | (go_at_call 20;refine (HCI.out _ (by with_reducible assumption)).mono ?_;rintro e w2 ⟨xa,xc,ra,rc,vals',rfl,hb2,o4,ρ5,o5⟩)
     | (go_at_call 18;refine (HNEW.out _ _ _ _ _ _ _ _ _ _ _ _ _ _ _ o1 o2 o3 hb2 o4 o5).mono ?_;rintro e w3 hN;obtain ⟨bx,v,hMS,rfl⟩:=ARM.out e _ _ hN;have hb3:=hMS.bel)
     | fail "none")
   rename_i hheld
   obtain ⟨hgg,hgm,hgo⟩:=grow_new (i:=1) (⟨HK.out.bel,fun _ _=>rfl⟩:Ground W (fun _=>0) wB) (((Below.refl _ _).drew.trans (hb1.mono (Nat.le_refl _))).trans (hb2.mono hb1.size)) hMS
   go_wp2_with fail
   go_meet
   case rel=>exact ⟨_,_,rfl,rfl,hgg,hgm⟩
  case rest=>
   clear HNEW HCP HCI ARM HIM HBY HK
   obtain ⟨b1,P,rfl,rfl,hgr,hm1⟩:=hcut
   have HG:=Lib.hid hgr
   have HM1:=Lib.hid hm1
   clear hgr hm1
   obtain ⟨wc1,rfl⟩:∃ z,z = wc:=⟨_,rfl⟩
   obtain ⟨n2,hn2⟩:∃ n:Nat,n = 2000:=⟨_,rfl⟩
   have hc2:((n2:Nat):Int) = 2000:=by omega
   obtain ⟨R,hR⟩:∃ z,z = runF ⟨p.data,p.tabs,p.code⟩ n2 (stG ctx rows):=⟨_,rfl⟩
   have hrun:=run_mine HC.out.1 HC.out.2 n2 (by show (0:Int) + (n2:Int) < _;omega) HM1.out
   rw [<- hR,hc2] at hrun
   have HRUN:=Lib.hid hrun
   have hsn:=Sane.run HC.out.1 n2 (stG ctx rows) HC.out.2
   have hrs:=fun h=>((run_steps ⟨p.data,p.tabs,p.code⟩ n2 (stG ctx rows)).2.1 h).1
   rw [<- hR] at hsn hrs
   have HSN:=Lib.hid hsn
   have HRS:=Lib.hid hrs
   clear hrun hsn hrs hR hn2 hc2 n2
   go_upto_region 7 with (go_at_call 21;go_loud (refine (HRUN.out).mono ?_;rintro e wR ⟨r1,xv1,tv1,sv1,rfl,hO,hm,hw⟩;obtain ⟨a1,n1,c1,rfl⟩:=hO.shx;obtain ⟨a2,n2,c2,rfl⟩:=hO.sht;obtain ⟨a3,n3,c3,rfl⟩:=hO.shs))
   have hmk:=below_map wR (.cells #[.int .i64 r1,.slice a1 n1 c1,.slice a2 n2 c2,.slice a3 n3 c3] 30)
   have HG2:=Lib.hid ((HG.out.work (i:=1) (k:=1) (by decide) hw).next (k:=0) hmk)
   have HM2:=Lib.hid (hm.next (k:=0) hmk)
   have HO:=Lib.hid (hO.keep (w':=wR.alloc (.cells #[.int .i64 r1,.slice a1 n1 c1,.slice a2 n2 c2,.slice a3 n3 c3] 30)) fun q _ hq=>hmk.block q hq)
   have HB:=Lib.hid (Row.made wR [.int .i64 r1,.slice a1 n1 c1,.slice a2 n2 c2,.slice a3 n3 c3] 30)
   clear hmk hO hm hw HRUN HG HM1
   obtain ⟨B,hB⟩:∃ z,z = wR.heap.size:=⟨_,rfl⟩
   rw [<- hB] at HB HG2 HM2
   simp only [<- hB]
   generalize World.alloc _ _ = wD at HG2 HM2 HO HB ⊢
   obtain ⟨Q,hQ⟩:∃ z,z = grown (grown P wc1.heap.size 1) B 0:=⟨_,rfl⟩
   rw [<- hQ] at HG2 HM2
   clear hQ hB
   by_cases hf:R.1 = 0
   ·have hdn:=HRS.out hf
    have HDN:=Lib.hid hdn
    have hO0:=HO.out
    rw [hf] at hO0
    obtain ⟨hk1,hk2,hk3,hk4⟩:=HSN.out.small HC.out.1
    obtain ⟨a4,m4,a5,m5,a6,m6,vals1,g1,g2,g3,hX1,hT1,hN1⟩:=hO0.reads HSN.out.good.mem.ctx (fun k hk=>(HSN.out.good.mem.rows k hk).1)
    simp only [Value.slice.injEq] at g1 g2 g3
    obtain ⟨rfl,rfl,rfl⟩:=g1
    obtain ⟨rfl,rfl,rfl⟩:=g2
    obtain ⟨rfl,rfl,rfl⟩:=g3
    have HBD:=Lib.hid HB.out.lt
    have HR0:=Lib.hid (fun u hu=>hO0.r0 rfl u hu)
    have HCB:=Lib.hid (fun (w':World) (hS:w'.cell? ⟨B,0,none⟩ = some (.int .i64 r1)/\w'.cell? ⟨B,1,none⟩ = some (.slice a1 R.2.ctx.length c1)/\w'.cell? ⟨B,2,none⟩ = some (.slice a2 R.2.rows.length c2)/\w'.cell? ⟨B,3,none⟩ = some (.slice a3 R.2.sent.length c3)/\KD wD B [.int .i64 r1,.slice a1 R.2.ctx.length c1,.slice a2 R.2.rows.length c2,.slice a3 R.2.sent.length c3] w')=>copy_of (.slice a1 R.2.ctx.length c1) R.2.ctx w' (hX1.below hS.2.2.2.2.bel (Nat.le_refl _)) (by omega))
    have HCR:=Lib.hid (fun (w':World) (hS:w'.cell? ⟨B,0,none⟩ = some (.int .i64 r1)/\w'.cell? ⟨B,1,none⟩ = some (.slice a1 R.2.ctx.length c1)/\w'.cell? ⟨B,2,none⟩ = some (.slice a2 R.2.rows.length c2)/\w'.cell? ⟨B,3,none⟩ = some (.slice a3 R.2.sent.length c3)/\KD wD B [.int .i64 r1,.slice a1 R.2.ctx.length c1,.slice a2 R.2.rows.length c2,.slice a3 R.2.sent.length c3] w')=>copy_rows (.slice a2 R.2.rows.length c2) vals1 R.2.rows (by omega) (fun k hk=>(hk2 k hk).2) w' (hT1.below hS.2.2.2.2.bel (Nat.le_refl _)) (fun _=>0) 10)
    have HCI:=Lib.hid (fun (w':World) (hS:w'.cell? ⟨B,0,none⟩ = some (.int .i64 r1)/\w'.cell? ⟨B,1,none⟩ = some (.slice a1 R.2.ctx.length c1)/\w'.cell? ⟨B,2,none⟩ = some (.slice a2 R.2.rows.length c2)/\w'.cell? ⟨B,3,none⟩ = some (.slice a3 R.2.sent.length c3)/\KD wD B [.int .i64 r1,.slice a1 R.2.ctx.length c1,.slice a2 R.2.rows.length c2,.slice a3 R.2.sent.length c3] w')=>Led.copyints_of (.slice a3 R.2.sent.length c3) R.2.sent w' _ (own_stays (hO0.sent rfl) hS.2.2.2.2.bel (Nat.le_refl _)) (by omega))
    have hbo:=run_out
    clear hO0 hX1 hT1 hN1 hdn
    have HKK:=Lib.hid (And.intro hk1 (And.intro hk2 (And.intro hk3 hk4)))
    clear hk1 hk2 hk3 hk4
    have hfb:(R.1 != 0) = false:=by simpa using hf
    clear hf
    go_upto_region 9 with fail
    go_cut [9] from 41 to 52 (fun s9 wx=>∃ C z1 u1 v1 z2 u2 v2 z3 u3 v3,s9 = .pointer (some ⟨C,0,none⟩)/\WasO wD R.2 r1 C (.slice z1 u1 v1) (.slice z2 u2 v2) (.slice z3 u3 v3) wx)
    case first=>
     refine wp_region_held_drew (S:=(fun w'=>w'.cell? ⟨B,0,none⟩ = some (.int .i64 r1)/\w'.cell? ⟨B,1,none⟩ = some (.slice a1 R.2.ctx.length c1)/\w'.cell? ⟨B,2,none⟩ = some (.slice a2 R.2.rows.length c2)/\w'.cell? ⟨B,3,none⟩ = some (.slice a3 R.2.sent.length c3)/\KD wD B [.int .i64 r1,.slice a1 R.2.ctx.length c1,.slice a2 R.2.rows.length c2,.slice a3 R.2.sent.length c3] w')) (by kernel_rfl) ?_ (fun hHeld=>?_)
     ·(try dsimp only);exact KD.k ⟨(Below.refl _ _).drew,HB.out.drew⟩
     refine tkw 0 41 ?_
     refine tkw 1 42 ?_
     refine tkw 2 43 ?_
     refine tkw 3 44 ?_
     refine tkw 5 46 ?_
     refine tkw 6 47 ?_
     refine tkw 8 49 ?_
     refine tkw 9 50 ?_
     refine wpAnyH_ready (rs:=[4,12]) (by kernel_rfl) (by simp) ?_
     refine AllReadyH.cons (o:=⟨some 45,_,_,_,_,_⟩) rfl (fun K hK=>?_) ?_
     ·go_simp
      go_at_call 11;refine (HCB.out _ (by with_reducible assumption)).mono ?_;rintro e w1 ⟨x1,rfl,e1,hb1⟩;obtain ⟨y1,n1,rfl⟩:=own_slice e1
      refine hK.out _ _ ?_ (fun hHeld=>?_)
      ·(try dsimp only);exact KD.n (by with_reducible assumption) hb1
      clear hK K
      try simp only [Act.put,List.setIfInBounds_toArray,List.set_cons_zero,List.set_cons_succ]
      refine wpAnyH_ready (rs:=[7,12]) (by kernel_rfl) (by simp) ?_
      refine AllReadyH.cons (o:=⟨some 48,_,_,_,_,_⟩) rfl (fun K hK=>?_) ?_
      ·go_simp
       go_at_call 29;refine (HCR.out _ (by with_reducible assumption)).mono ?_;rintro e w2 ⟨x2,vals2,ρ2,rfl,h2⟩;have hb2:=h2.bel;have e2:=tab_ofC h2;obtain ⟨y2,n2,rfl⟩:=own_slice e2.list.1
       refine hK.out _ _ ?_ (fun hHeld=>?_)
       ·(try dsimp only);exact KD.n (by with_reducible assumption) hb2
       clear hK K
       try simp only [Act.put,List.setIfInBounds_toArray,List.set_cons_zero,List.set_cons_succ]
       refine wpAnyH_ready (rs:=[10,12]) (by kernel_rfl) (by simp) ?_
       refine AllReadyH.cons (o:=⟨some 51,_,_,_,_,_⟩) rfl (fun K hK=>?_) ?_
       ·go_simp
        go_at_call 38;refine (HCI.out _ (by with_reducible assumption)).mono ?_;rintro e w3 ⟨x3,rfl,e3,hb3⟩;obtain ⟨y3,n3,rfl⟩:=own_slice e3
        refine hK.out _ _ ?_ (fun hHeld=>?_)
        ·(try dsimp only);exact KD.n (by with_reducible assumption) hb3
        clear hK K
        try simp only [Act.put,List.setIfInBounds_toArray,List.set_cons_zero,List.set_cons_succ]
        refine tkw 11 52 ?_
        refine wpAnyH_ready (rs:=[12]) (by kernel_rfl) (by simp) ?_
        refine AllReadyH.cons (o:=⟨some 9,_,_,_,_,_⟩) rfl (fun K hK=>?_) AllReadyH.nil
        go_simp
        refine hK.out _ _ ?_ (fun hHeld=>?_)
        ·(try dsimp only);exact KD.n (by with_reducible assumption) ((Below.refl _ _).alloc (Nat.le_refl _) _)
        clear hK K
        try simp only [Act.put,List.setIfInBounds_toArray,List.set_cons_zero,List.set_cons_succ]
        refine wpAnyH_ready (rs:=[13]) (by kernel_rfl) (by simp) ?_
        refine AllReadyH.cons (o:=⟨none,_,_,_,_,_⟩) rfl (fun K hK=>?_) AllReadyH.nil
        go_simp
        refine hK.out _ _ ?_ (fun hHeld=>?_)
        ·(try dsimp only);exact KD.n (by with_reducible assumption) ((Below.refl _ _).alloc (Nat.le_refl _) _)
        clear hK K
        try simp only [Act.put,List.setIfInBounds_toArray,List.set_cons_zero,List.set_cons_succ]
        refine wpAnyH_done (by kernel_rfl) ?_ _
        have q1:=hb1.size
        have q2:=hb2.size
        have q3:=hb3.size
        simp at q1 q2 q3
        have hW:=was_new (r0:=r1) HR0.out e1 (((Below.refl w1.heap.size w1).trans (hb2.mono (Nat.le_refl _))).trans (hb3.mono hb2.size)) (by first | omega | (simp <;> omega)) e2 ((Below.refl w2.heap.size w2).trans (hb3.mono (Nat.le_refl _))) (by first | omega | (simp <;> omega)) e3 (Below.refl w3.heap.size w3) (by first | omega | (simp <;> omega)) (((((((Below.refl wD.heap.size wD).drew).trans (hb1.mono ((Below.refl wD.heap.size wD).drew).size))).trans (hb2.mono ((((Below.refl wD.heap.size wD).drew).trans (hb1.mono ((Below.refl wD.heap.size wD).drew).size))).size))).trans (hb3.mono ((((((Below.refl wD.heap.size wD).drew).trans (hb1.mono ((Below.refl wD.heap.size wD).drew).size))).trans (hb2.mono ((((Below.refl wD.heap.size wD).drew).trans (hb1.mono ((Below.refl wD.heap.size wD).drew).size))).size))).size))
        go_wp2_with fail
        go_meet
        case rel=>exact ⟨_,_,_,_,_,_,_,_,_,_,rfl,hW⟩
       refine AllReadyH.cons (o:=⟨some 9,_,_,_,_,_⟩) rfl (fun K hK=>?_) AllReadyH.nil
       go_simp
       refine hK.out _ _ ?_ (fun hHeld=>?_)
       ·(try dsimp only);exact KD.n (by with_reducible assumption) ((Below.refl _ _).alloc (Nat.le_refl _) _)
       clear hK K
       try simp only [Act.put,List.setIfInBounds_toArray,List.set_cons_zero,List.set_cons_succ]
       refine wpAnyH_ready (rs:=[10]) (by kernel_rfl) (by simp) ?_
       refine AllReadyH.cons (o:=⟨some 51,_,_,_,_,_⟩) rfl (fun K hK=>?_) AllReadyH.nil
       go_simp
       go_at_call 38;refine (HCI.out _ (by with_reducible assumption)).mono ?_;rintro e w3 ⟨x3,rfl,e3,hb3⟩;obtain ⟨y3,n3,rfl⟩:=own_slice e3
       refine hK.out _ _ ?_ (fun hHeld=>?_)
       ·(try dsimp only);exact KD.n (by with_reducible assumption) hb3
       clear hK K
       try simp only [Act.put,List.setIfInBounds_toArray,List.set_cons_zero,List.set_cons_succ]
       refine tkw 11 52 ?_
       refine wpAnyH_ready (rs:=[13]) (by kernel_rfl) (by simp) ?_
       refine AllReadyH.cons (o:=⟨none,_,_,_,_,_⟩) rfl (fun K hK=>?_) AllReadyH.nil
       have hx1:=bx_new (cs:=[.int .i64 0,.slice none 0 0,.slice none 0 0,.slice none 0 0]) (e:=30) rfl hb3
       obtain ⟨⟨_,_,_,_⟩,_,_,_,_⟩:=hx1.four
       clear hx1
       go_simp
       refine hK.out _ _ ?_ (fun hHeld=>?_)
       ·(try dsimp only);exact KD.p (by with_reducible assumption) HBD.out (by have q1:=hb1.size;have q2:=hb2.size;have q3:=hb3.size;simp at q1 q2 q3 ⊢ <;> omega) _ _ _ _
       clear hK K
       try simp only [Act.put,List.setIfInBounds_toArray,List.set_cons_zero,List.set_cons_succ]
       refine wpAnyH_done (by kernel_rfl) ?_ _
       have q1:=hb1.size
       have q2:=hb2.size
       have q3:=hb3.size
       simp at q1 q2 q3
       have hx0:=bx_new (cs:=[.int .i64 0,.slice none 0 0,.slice none 0 0,.slice none 0 0]) (e:=30) rfl hb3
       have hW:=was_old (r0:=r1) HR0.out e1 (((((Below.refl w1.heap.size w1).trans (hb2.mono (Below.refl w1.heap.size w1).size)).alloc ((Below.refl w1.heap.size w1).trans (hb2.mono (Below.refl w1.heap.size w1).size)).size (.cells #[.int .i64 0,.slice none 0 0,.slice none 0 0,.slice none 0 0] 30))).trans (hb3.mono ((((Below.refl w1.heap.size w1).trans (hb2.mono (Below.refl w1.heap.size w1).size)).alloc ((Below.refl w1.heap.size w1).trans (hb2.mono (Below.refl w1.heap.size w1).size)).size (.cells #[.int .i64 0,.slice none 0 0,.slice none 0 0,.slice none 0 0] 30))).size)) (Or.inr (by first | omega | (simp <;> omega))) (by first | omega | (simp <;> omega)) e2 ((((Below.refl w2.heap.size w2).alloc (Below.refl w2.heap.size w2).size (.cells #[.int .i64 0,.slice none 0 0,.slice none 0 0,.slice none 0 0] 30))).trans (hb3.mono (((Below.refl w2.heap.size w2).alloc (Below.refl w2.heap.size w2).size (.cells #[.int .i64 0,.slice none 0 0,.slice none 0 0,.slice none 0 0] 30))).size)) (Or.inr (by first | omega | (simp <;> omega))) (by first | omega | (simp <;> omega)) e3 (Below.refl w3.heap.size w3) (Or.inl (by first | omega | (simp <;> omega))) (by first | omega | (simp <;> omega)) hx0 (((((((((Below.refl wD.heap.size wD).drew).trans (hb1.mono ((Below.refl wD.heap.size wD).drew).size))).trans (hb2.mono ((((Below.refl wD.heap.size wD).drew).trans (hb1.mono ((Below.refl wD.heap.size wD).drew).size))).size))).alloc ((((((Below.refl wD.heap.size wD).drew).trans (hb1.mono ((Below.refl wD.heap.size wD).drew).size))).trans (hb2.mono ((((Below.refl wD.heap.size wD).drew).trans (hb1.mono ((Below.refl wD.heap.size wD).drew).size))).size))).size (.cells #[.int .i64 0,.slice none 0 0,.slice none 0 0,.slice none 0 0] 30))).trans (hb3.mono ((((((((Below.refl wD.heap.size wD).drew).trans (hb1.mono ((Below.refl wD.heap.size wD).drew).size))).trans (hb2.mono ((((Below.refl wD.heap.size wD).drew).trans (hb1.mono ((Below.refl wD.heap.size wD).drew).size))).size))).alloc ((((((Below.refl wD.heap.size wD).drew).trans (hb1.mono ((Below.refl wD.heap.size wD).drew).size))).trans (hb2.mono ((((Below.refl wD.heap.size wD).drew).trans (hb1.mono ((Below.refl wD.heap.size wD).drew).size))).size))).size (.cells #[.int .i64 0,.slice none 0 0,.slice none 0 0,.slice none 0 0] 30))).size)) (by first | omega | (simp <;> omega))
       go_wp2_with fail
       go_meet
       case rel=>exact ⟨_,_,_,_,_,_,_,_,_,_,rfl,hW⟩
      refine AllReadyH.cons (o:=⟨some 9,_,_,_,_,_⟩) rfl (fun K hK=>?_) AllReadyH.nil
      go_simp
      refine hK.out _ _ ?_ (fun hHeld=>?_)
      ·(try dsimp only);exact KD.n (by with_reducible assumption) ((Below.refl _ _).alloc (Nat.le_refl _) _)
      clear hK K
      try simp only [Act.put,List.setIfInBounds_toArray,List.set_cons_zero,List.set_cons_succ]
      refine wpAnyH_ready (rs:=[7]) (by kernel_rfl) (by simp) ?_
      refine AllReadyH.cons (o:=⟨some 48,_,_,_,_,_⟩) rfl (fun K hK=>?_) AllReadyH.nil
      go_simp
      go_at_call 29;refine (HCR.out _ (by with_reducible assumption)).mono ?_;rintro e w2 ⟨x2,vals2,ρ2,rfl,h2⟩;have hb2:=h2.bel;have e2:=tab_ofC h2;obtain ⟨y2,n2,rfl⟩:=own_slice e2.list.1
      refine hK.out _ _ ?_ (fun hHeld=>?_)
      ·(try dsimp only);exact KD.n (by with_reducible assumption) hb2
      clear hK K
      try simp only [Act.put,List.setIfInBounds_toArray,List.set_cons_zero,List.set_cons_succ]
      refine wpAnyH_ready (rs:=[10]) (by kernel_rfl) (by simp) ?_
      refine AllReadyH.cons (o:=⟨some 51,_,_,_,_,_⟩) rfl (fun K hK=>?_) AllReadyH.nil
      go_simp
      go_at_call 38;refine (HCI.out _ (by with_reducible assumption)).mono ?_;rintro e w3 ⟨x3,rfl,e3,hb3⟩;obtain ⟨y3,n3,rfl⟩:=own_slice e3
      refine hK.out _ _ ?_ (fun hHeld=>?_)
      ·(try dsimp only);exact KD.n (by with_reducible assumption) hb3
      clear hK K
      try simp only [Act.put,List.setIfInBounds_toArray,List.set_cons_zero,List.set_cons_succ]
      refine tkw 11 52 ?_
      refine wpAnyH_ready (rs:=[13]) (by kernel_rfl) (by simp) ?_
      refine AllReadyH.cons (o:=⟨none,_,_,_,_,_⟩) rfl (fun K hK=>?_) AllReadyH.nil
      have hx1:=bx_new (cs:=[.int .i64 0,.slice none 0 0,.slice none 0 0,.slice none 0 0]) (e:=30) rfl hb2
      have hx1:=hx1.below hb3 hx1.lt
      obtain ⟨⟨_,_,_,_⟩,_,_,_,_⟩:=hx1.four
      clear hx1
      go_simp
      refine hK.out _ _ ?_ (fun hHeld=>?_)
      ·(try dsimp only);exact KD.p (by with_reducible assumption) HBD.out (by have q1:=hb1.size;have q2:=hb2.size;have q3:=hb3.size;simp at q1 q2 q3 ⊢ <;> omega) _ _ _ _
      clear hK K
      try simp only [Act.put,List.setIfInBounds_toArray,List.set_cons_zero,List.set_cons_succ]
      refine wpAnyH_done (by kernel_rfl) ?_ _
      have q1:=hb1.size
      have q2:=hb2.size
      have q3:=hb3.size
      simp at q1 q2 q3
      have hx0:=bx_new (cs:=[.int .i64 0,.slice none 0 0,.slice none 0 0,.slice none 0 0]) (e:=30) rfl hb2
      have hx0:=hx0.below hb3 hx0.lt
      have hW:=was_old (r0:=r1) HR0.out e1 (((((Below.refl w1.heap.size w1).alloc (Below.refl w1.heap.size w1).size (.cells #[.int .i64 0,.slice none 0 0,.slice none 0 0,.slice none 0 0] 30))).trans (hb2.mono (((Below.refl w1.heap.size w1).alloc (Below.refl w1.heap.size w1).size (.cells #[.int .i64 0,.slice none 0 0,.slice none 0 0,.slice none 0 0] 30))).size)).trans (hb3.mono ((((Below.refl w1.heap.size w1).alloc (Below.refl w1.heap.size w1).size (.cells #[.int .i64 0,.slice none 0 0,.slice none 0 0,.slice none 0 0] 30))).trans (hb2.mono (((Below.refl w1.heap.size w1).alloc (Below.refl w1.heap.size w1).size (.cells #[.int .i64 0,.slice none 0 0,.slice none 0 0,.slice none 0 0] 30))).size)).size)) (Or.inr (by first | omega | (simp <;> omega))) (by first | omega | (simp <;> omega)) e2 ((Below.refl w2.heap.size w2).trans (hb3.mono (Below.refl w2.heap.size w2).size)) (Or.inl (by first | omega | (simp <;> omega))) (by first | omega | (simp <;> omega)) e3 (Below.refl w3.heap.size w3) (Or.inl (by first | omega | (simp <;> omega))) (by first | omega | (simp <;> omega)) hx0 (((((((((Below.refl wD.heap.size wD).drew).trans (hb1.mono ((Below.refl wD.heap.size wD).drew).size))).alloc ((((Below.refl wD.heap.size wD).drew).trans (hb1.mono ((Below.refl wD.heap.size wD).drew).size))).size (.cells #[.int .i64 0,.slice none 0 0,.slice none 0 0,.slice none 0 0] 30))).trans (hb2.mono ((((((Below.refl wD.heap.size wD).drew).trans (hb1.mono ((Below.refl wD.heap.size wD).drew).size))).alloc ((((Below.refl wD.heap.size wD).drew).trans (hb1.mono ((Below.refl wD.heap.size wD).drew).size))).size (.cells #[.int .i64 0,.slice none 0 0,.slice none 0 0,.slice none 0 0] 30))).size))).trans (hb3.mono ((((((((Below.refl wD.heap.size wD).drew).trans (hb1.mono ((Below.refl wD.heap.size wD).drew).size))).alloc ((((Below.refl wD.heap.size wD).drew).trans (hb1.mono ((Below.refl wD.heap.size wD).drew).size))).size (.cells #[.int .i64 0,.slice none 0 0,.slice none 0 0,.slice none 0 0] 30))).trans (hb2.mono ((((((Below.refl wD.heap.size wD).drew).trans (hb1.mono ((Below.refl wD.heap.size wD).drew).size))).alloc ((((Below.refl wD.heap.size wD).drew).trans (hb1.mono ((Below.refl wD.heap.size wD).drew).size))).size (.cells #[.int .i64 0,.slice none 0 0,.slice none 0 0,.slice none 0 0] 30))).size))).size)) (by first | omega | (simp <;> omega))
      go_wp2_with fail
      go_meet
      case rel=>exact ⟨_,_,_,_,_,_,_,_,_,_,rfl,hW⟩
     refine AllReadyH.cons (o:=⟨some 9,_,_,_,_,_⟩) rfl (fun K hK=>?_) AllReadyH.nil
     go_simp
     refine hK.out _ _ ?_ (fun hHeld=>?_)
     ·(try dsimp only);exact KD.n (by with_reducible assumption) ((Below.refl _ _).alloc (Nat.le_refl _) _)
     clear hK K
     try simp only [Act.put,List.setIfInBounds_toArray,List.set_cons_zero,List.set_cons_succ]
     refine wpAnyH_ready (rs:=[4]) (by kernel_rfl) (by simp) ?_
     refine AllReadyH.cons (o:=⟨some 45,_,_,_,_,_⟩) rfl (fun K hK=>?_) AllReadyH.nil
     go_simp
     go_at_call 11;refine (HCB.out _ (by with_reducible assumption)).mono ?_;rintro e w1 ⟨x1,rfl,e1,hb1⟩;obtain ⟨y1,n1,rfl⟩:=own_slice e1
     refine hK.out _ _ ?_ (fun hHeld=>?_)
     ·(try dsimp only);exact KD.n (by with_reducible assumption) hb1
     clear hK K
     try simp only [Act.put,List.setIfInBounds_toArray,List.set_cons_zero,List.set_cons_succ]
     refine wpAnyH_ready (rs:=[7]) (by kernel_rfl) (by simp) ?_
     refine AllReadyH.cons (o:=⟨some 48,_,_,_,_,_⟩) rfl (fun K hK=>?_) AllReadyH.nil
     go_simp
     go_at_call 29;refine (HCR.out _ (by with_reducible assumption)).mono ?_;rintro e w2 ⟨x2,vals2,ρ2,rfl,h2⟩;have hb2:=h2.bel;have e2:=tab_ofC h2;obtain ⟨y2,n2,rfl⟩:=own_slice e2.list.1
     refine hK.out _ _ ?_ (fun hHeld=>?_)
     ·(try dsimp only);exact KD.n (by with_reducible assumption) hb2
     clear hK K
     try simp only [Act.put,List.setIfInBounds_toArray,List.set_cons_zero,List.set_cons_succ]
     refine wpAnyH_ready (rs:=[10]) (by kernel_rfl) (by simp) ?_
     refine AllReadyH.cons (o:=⟨some 51,_,_,_,_,_⟩) rfl (fun K hK=>?_) AllReadyH.nil
     go_simp
     go_at_call 38;refine (HCI.out _ (by with_reducible assumption)).mono ?_;rintro e w3 ⟨x3,rfl,e3,hb3⟩;obtain ⟨y3,n3,rfl⟩:=own_slice e3
     refine hK.out _ _ ?_ (fun hHeld=>?_)
     ·(try dsimp only);exact KD.n (by with_reducible assumption) hb3
     clear hK K
     try simp only [Act.put,List.setIfInBounds_toArray,List.set_cons_zero,List.set_cons_succ]
     refine tkw 11 52 ?_
     refine wpAnyH_ready (rs:=[13]) (by kernel_rfl) (by simp) ?_
     refine AllReadyH.cons (o:=⟨none,_,_,_,_,_⟩) rfl (fun K hK=>?_) AllReadyH.nil
     have hx1:=bx_newd (cs:=[.int .i64 0,.slice none 0 0,.slice none 0 0,.slice none 0 0]) (e:=30) rfl hb1
     have hx1:=hx1.below hb2 hx1.lt
     have hx1:=hx1.below hb3 hx1.lt
     obtain ⟨⟨_,_,_,_⟩,_,_,_,_⟩:=hx1.four
     clear hx1
     go_simp
     refine hK.out _ _ ?_ (fun hHeld=>?_)
     ·(try dsimp only);exact KD.p (by with_reducible assumption) HBD.out (by have q1:=hb1.size;have q2:=hb2.size;have q3:=hb3.size;simp at q1 q2 q3 ⊢ <;> omega) _ _ _ _
     clear hK K
     try simp only [Act.put,List.setIfInBounds_toArray,List.set_cons_zero,List.set_cons_succ]
     refine wpAnyH_done (by kernel_rfl) ?_ _
     have q1:=hb1.size
     have q2:=hb2.size
     have q3:=hb3.size
     simp at q1 q2 q3
     have hx0:=bx_newd (cs:=[.int .i64 0,.slice none 0 0,.slice none 0 0,.slice none 0 0]) (e:=30) rfl hb1
     have hx0:=hx0.below hb2 hx0.lt
     have hx0:=hx0.below hb3 hx0.lt
     have hW:=was_old (r0:=r1) HR0.out e1 (((Below.refl w1.heap.size w1).trans (hb2.mono (Below.refl w1.heap.size w1).size)).trans (hb3.mono ((Below.refl w1.heap.size w1).trans (hb2.mono (Below.refl w1.heap.size w1).size)).size)) (Or.inl (by first | omega | (simp <;> omega))) (by first | omega | (simp <;> omega)) e2 ((Below.refl w2.heap.size w2).trans (hb3.mono (Below.refl w2.heap.size w2).size)) (Or.inl (by first | omega | (simp <;> omega))) (by first | omega | (simp <;> omega)) e3 (Below.refl w3.heap.size w3) (Or.inl (by first | omega | (simp <;> omega))) (by first | omega | (simp <;> omega)) hx0 ((((((((Below.refl wD.heap.size wD).alloc (Nat.le_refl _) (.cells #[.int .i64 0,.slice none 0 0,.slice none 0 0,.slice none 0 0] 30)).drew).trans (hb1.mono (((Below.refl wD.heap.size wD).alloc (Nat.le_refl _) (.cells #[.int .i64 0,.slice none 0 0,.slice none 0 0,.slice none 0 0] 30)).drew).size))).trans (hb2.mono (((((Below.refl wD.heap.size wD).alloc (Nat.le_refl _) (.cells #[.int .i64 0,.slice none 0 0,.slice none 0 0,.slice none 0 0] 30)).drew).trans (hb1.mono (((Below.refl wD.heap.size wD).alloc (Nat.le_refl _) (.cells #[.int .i64 0,.slice none 0 0,.slice none 0 0,.slice none 0 0] 30)).drew).size))).size))).trans (hb3.mono (((((((Below.refl wD.heap.size wD).alloc (Nat.le_refl _) (.cells #[.int .i64 0,.slice none 0 0,.slice none 0 0,.slice none 0 0] 30)).drew).trans (hb1.mono (((Below.refl wD.heap.size wD).alloc (Nat.le_refl _) (.cells #[.int .i64 0,.slice none 0 0,.slice none 0 0,.slice none 0 0] 30)).drew).size))).trans (hb2.mono (((((Below.refl wD.heap.size wD).alloc (Nat.le_refl _) (.cells #[.int .i64 0,.slice none 0 0,.slice none 0 0,.slice none 0 0] 30)).drew).trans (hb1.mono (((Below.refl wD.heap.size wD).alloc (Nat.le_refl _) (.cells #[.int .i64 0,.slice none 0 0,.slice none 0 0,.slice none 0 0] 30)).drew).size))).size))).size)) (by first | omega | (simp <;> omega))
     go_wp2_with fail
     go_meet
     case rel=>exact ⟨_,_,_,_,_,_,_,_,_,_,rfl,hW⟩
    case rest=>
     obtain ⟨C,z1,u1,v1,z2,u2,v2,z3,u3,v3,rfl,hW⟩:=hcut
     obtain ⟨wE,rfl⟩:∃ z,z = wc:=⟨_,rfl⟩
     have HG3:=Lib.hid (HG2.out.next (k:=0) hW.bel)
     have HM3:=Lib.hid (HM2.out.next (k:=0) hW.bel)
     have HT3:=Lib.hid (ToldO.begin (P:=Q) (i:=0) hW.out hW.bel.size)
     have HC3:=Lib.hid (show Own0 (grown Q wD.heap.size 0) C 30 [.int .i64 r1,.slice z1 u1 v1,.slice z2 u2 v2,.slice z3 u3 v3] wE from ⟨hW.row,grown_new hW.le⟩)
     clear hW HG2 HM2 HO HB HBD HCB HCR HCI hbo HR0
     obtain ⟨Q3,hQ3⟩:∃ z,z = grown Q wD.heap.size 0:=⟨_,rfl⟩
     rw [<- hQ3] at HG3 HM3 HT3 HC3
     clear hQ3
     go_upto_region 12 with fail
     have hl1:=below_map wE (.cells #[.int .i64 0,.slice none 0 0,.slice none 0 0,.slice none 0 0,.slice none 0 0,.bool false] 81)
     have hl2:=below_map (wE.alloc (.cells #[.int .i64 0,.slice none 0 0,.slice none 0 0,.slice none 0 0,.slice none 0 0,.bool false] 81)) (.cells #[.int .i64 0,.int .i64 0,.slice none 0 0,.slice none 0 0,.slice none 0 0,.slice none 0 0,.bool false] 83)
     have hs1:(wE.alloc (.cells #[.int .i64 0,.slice none 0 0,.slice none 0 0,.slice none 0 0,.slice none 0 0,.bool false] 81)).heap.size = wE.heap.size + 1:=by simp
     have HLG:=Lib.hid (show LokN (grown Q3 wE.heap.size 3) 3 W.heap.size wE.heap.size 0 (wE.alloc (.cells #[.int .i64 0,.slice none 0 0,.slice none 0 0,.slice none 0 0,.slice none 0 0,.bool false] 81)) from ⟨0,0,0,Led.BMine.begin _ W.heap.size wE.heap.size HG3.out.bel.size (Row.made wE [.int .i64 0,.slice none 0 0,.slice none 0 0,.slice none 0 0,.slice none 0 0,.bool false] _) (grown_new (Nat.le_refl _)),by decide,by decide,by decide,by decide,by decide⟩)
     have HRN:=Lib.hid (show Rnd W (fun P w=>Mine P 1 ⟨p.data,p.tabs,p.code⟩ R.2 b1 w/\Own0 P C 30 [.int .i64 r1,.slice z1 u1 v1,.slice z2 u2 v2,.slice z3 u3 v3] w/\ToldO P 0 0 R.2 r1 (.slice z1 u1 v1) (.slice z2 u2 v2) (.slice z3 u3 v3) w) (wE.heap.size + 1) wE.heap.size (9 * 0) 0 (grown (grown Q3 wE.heap.size 3) (wE.alloc (.cells #[.int .i64 0,.slice none 0 0,.slice none 0 0,.slice none 0 0,.slice none 0 0,.bool false] 81)).heap.size 2) ((wE.alloc (.cells #[.int .i64 0,.slice none 0 0,.slice none 0 0,.slice none 0 0,.slice none 0 0,.bool false] 81)).alloc (.cells #[.int .i64 0,.int .i64 0,.slice none 0 0,.slice none 0 0,.slice none 0 0,.slice none 0 0,.bool false] 83)) from
      ⟨(HG3.out.next hl1).next hl2, ⟨(HM3.out.next hl1).next hl2, (HC3.out.next hl1).next hl2, (HT3.out.next hl1).next hl2⟩,
        ⟨0,0,0,BMine.begin _ W.heap.size (wE.heap.size + 1) (Nat.le_trans HG3.out.bel.size (Nat.le_succ _)) (by have:=Row.made (wE.alloc (.cells #[.int .i64 0,.slice none 0 0,.slice none 0 0,.slice none 0 0,.slice none 0 0,.bool false] 81)) [.int .i64 0,.int .i64 0,.slice none 0 0,.slice none 0 0,.slice none 0 0,.slice none 0 0,.bool false] 83;rw [hs1] at this;exact this) (by rw [hs1];exact grown_new (Nat.le_refl _)),by decide,by decide,by decide,by decide,by decide⟩,
        HLG.out.work (j:=9) (by decide) (Work.of_below hl2) 2⟩)
     clear hl1 hl2 HLG HG3 HM3 HT3 HC3
     try simp only [hs1]
     clear hs1
     obtain ⟨hl,hhl⟩:∃ z,z = wE.heap.size:=⟨_,rfl⟩
     rw [<- hhl] at HRN
     simp only [<- hhl]
     obtain ⟨hbk,hhb⟩:∃ z,z = hl + 1:=⟨_,rfl⟩
     rw [<- hhb] at HRN
     simp only [<- hhb]
     clear hhb
     generalize grown _ _ _ = P4 at HRN
     generalize World.alloc _ _ = wG at HRN ⊢
     clear hhl
     have hL8:R.2.rows.length <= 8:=by have h1:=HSN.out.good.mem.rowsl;have h2:=HC.out.1.tabs;show R.2.rows.length <= 8;omega
     have HL8:=Lib.hid hL8
     clear hL8
     go_wp2_with fail
     go_loopw [12] (fun s12 wr=>∃ (i:Nat) (P:Nat->Nat),i <= 5/\s12 = .int .i64 i/\Rnd W (fun P w=>Mine P 1 ⟨p.data,p.tabs,p.code⟩ R.2 b1 w/\Own0 P C 30 [.int .i64 r1,.slice z1 u1 v1,.slice z2 u2 v2,.slice z3 u3 v3] w/\ToldO P 0 0 R.2 r1 (.slice z1 u1 v1) (.slice z2 u2 v2) (.slice z3 u3 v3) w) hbk hl (9 * i) i P wr) (fun s12 _=>5 - (intOf s12).toNat)
     case atStart=>exact ⟨0,P4,by decide,rfl,HRN.out⟩
     case round=>
      obtain ⟨i,P5,hi,rfl,hR5⟩:=hrel
      have HR5:=Lib.hid hR5
      clear hR5 HRN
      by_cases hlt:i < 5
      ·have d1:decide ((i:Int) < 5) = true:=by simp;omega
       have HRUN:=Lib.hid (still_mine HC.out.1 HSN.out HDN.out i HR5.out.x.1)
       have HLT:=Lib.hid hlt
       clear hlt
       go_upto_region 16 with (go_at_call 21;go_loud (refine (HRUN.out).mono ?_;rintro e wR ⟨r5,xv5,tv5,sv5,rfl,hO5,hb5,hLb⟩;obtain ⟨a5,n5,c5,rfl⟩:=hO5.shx;obtain ⟨a6,n6,c6,rfl⟩:=hO5.sht;obtain ⟨a7,n7,c7,rfl⟩:=hO5.shs))
       obtain ⟨f5,vals5,hN5⟩:=hLb.named (low:=W.heap.size) HR5.out.g.bel.size
       obtain ⟨q1,q2,q3,q4⟩:=hN5 P5
       obtain ⟨_,_,hv6⟩:=own_slice q3.1
       obtain rfl:n6 = R.2.rows.length:=by simp only [Value.slice.injEq] at hv6;exact hv6.2.1
       clear hv6
       have hmk:=below_map wR (.cells #[.int .i64 r5,.slice a5 n5 c5,.slice a6 R.2.rows.length c6,.slice a7 n7 c7] 30)
       have hR6:=(HR5.out.next (fun P k w w' hb h=>⟨h.1.next hb,h.2.1.next hb,h.2.2.next hb⟩) hb5 200).re (P':=named P5 wr.heap.size f5) (fun q hq=>named_low hq) (fun h=>⟨h.1.re fun q hq=>(named_low (by omega)).trans hq,h.2.1.re fun q hq=>(named_low (by omega)).trans hq,h.2.2.re fun q hq=>(named_low (by omega)).trans hq⟩)
       have hrow:=Own0.made (P:=named P5 wr.heap.size f5) wR [.int .i64 r5,.slice a5 n5 c5,.slice a6 R.2.rows.length c6,.slice a7 n7 c7] 30
       have hq1:=q1.nextW hmk 0
       have hq2:=q2.nextW hmk 0
       have hq3:=q3.nextW hmk 0
       have hq4:=rows_next q4 hmk 0
       have hx0:=And.intro (hR6.x.1.next (k:=0) hmk) (And.intro (hR6.x.2.1.next (k:=0) hmk) (hR6.x.2.2.next (k:=0) hmk))
       have hg0:=hR6.g.next (k:=0) hmk
       have hb0:=hR6.bk.work (j:=9) (by decide) (Work.of_below hmk) 0
       have hl0:=hR6.lg.work (j:=9) (by decide) (Work.of_below hmk) 0
       have hO6:=hO5.keep (w':=wR.alloc (.cells #[.int .i64 r5,.slice a5 n5 c5,.slice a6 R.2.rows.length c6,.slice a7 n7 c7] 30)) fun q _ hq=>hmk.block q hq
       clear hmk hN5 q1 q2 q3 q4 hR6 hO5 hb5 hLb HRUN
       obtain ⟨D,hD⟩:∃ z,z = wR.heap.size:=⟨_,rfl⟩
       rw [<- hD] at hrow hq1 hq2 hq3 hq4 hx0 hg0 hb0 hl0
       simp only [<- hD]
       clear hD
       generalize World.alloc _ _ = wL at hrow hq1 hq2 hq3 hq4 hx0 hg0 hb0 hl0 hO6 ⊢
       generalize grown _ _ _ = P6 at hrow hq1 hq2 hq3 hq4 hx0 hg0 hb0 hl0
       have HR7:=Lib.hid (show Rnd W (fun P w=>OwnS w W.heap.size P 106 3 1 (.slice a7 n7 c7) R.2.sent.length (i64s R.2.sent)/\((Mine P 1 ⟨p.data,p.tabs,p.code⟩ R.2 b1 w/\Own0 P C 30 [.int .i64 r1,.slice z1 u1 v1,.slice z2 u2 v2,.slice z3 u3 v3] w/\ToldO P 0 0 R.2 r1 (.slice z1 u1 v1) (.slice z2 u2 v2) (.slice z3 u3 v3) w)/\Own0 P D 30 [.int .i64 r5,.slice a5 n5 c5,.slice a6 R.2.rows.length c6,.slice a7 n7 c7] w/\OwnS w W.heap.size P 110 27 1 (.slice a6 R.2.rows.length c6) R.2.rows.length vals5/\RowsAt W.heap.size vals5 R.2.rows (0) P w)) hbk hl (9 * i) i P6 wL from ⟨hg0,⟨hq2,hx0,hrow,hq3,hq4⟩,hb0,hl0⟩)
       have HQ1:=Lib.hid hq1
       obtain ⟨base5,hT5⟩:=hx0.2.2.out
       have HSO:=Lib.hid (outs_same HC.out.1 HSN.out hO6 hT5)
       obtain ⟨⟨_,_,_,_⟩,_⟩:=hrow.row.four
       obtain ⟨⟨_,_,_,_⟩,_⟩:=hx0.2.1.row.four
       clear hg0 hq1 hq2 hx0 hrow hq3 hq4 hb0 hl0 hO6 hT5
       go_upto_region 18 with (first
        | (go_at_call 24;go_loud (refine (HSO.out).mono ?_;rintro e w1 ⟨rfl,hb1⟩;have HR8:=Lib.hid (HR7.out.next (fun P k w w' hb h=>⟨h.1.nextW hb k,⟨h.2.1.1.next hb,h.2.1.2.1.next hb,h.2.1.2.2.next hb⟩,h.2.2.1.next hb,h.2.2.2.1.nextW hb k,rows_next h.2.2.2.2 hb k⟩) hb1 0);have HQ8:=Lib.hid (HQ1.out.nextW hb1 0);obtain ⟨⟨_,_,_,_⟩,_⟩:=HR8.out.x.2.2.1.row.four;clear hb1))
        | (go_at_call 34;go_loud (refine (Rnd.book (r:=105) (by decide) ((firm_list (by decide) (by decide) _ _ _).and (((firm_mine (by omega) (by decide) (by decide) _ _ _).and ((firm_own0 (by omega) _ _ _).and (firm_toldO (by omega) (by decide) (by decide) _ _ _ _ _ _))).and ((firm_own0 (by omega) _ _ _).and ((firm_list (by omega) (by decide) _ _ _).and (firm_rows (by intro j hj;omega) _ _))))) HR8.out (by have:=HLT.out;omega) HSN.out.good.mem.ctx (by have:=HKK.out.2.2.1;omega) HQ8.out).mono ?_;rintro e w2 ⟨rfl,P8,hR8⟩;have HR9:=Lib.hid hR8;clear hR8;obtain ⟨⟨_,_,_,_⟩,_⟩:=HR9.out.x.2.2.1.row.four))
        | (go_at_call 35;go_loud (refine (Rnd.ledger (r:=106) (by decide) (((firm_mine (by omega) (by decide) (by decide) _ _ _).and ((firm_own0 (by omega) _ _ _).and (firm_toldO (by omega) (by decide) (by decide) _ _ _ _ _ _))).and ((firm_own0 (by omega) _ _ _).and ((firm_list (by omega) (by decide) _ _ _).and (firm_rows (by intro j hj;omega) _ _)))) (HR9.out.weak fun P w h=>h.2) (by have:=HLT.out;omega) (by have:=HKK.out.2.2.2;omega) HR9.out.x.1).mono ?_;rintro e w3 ⟨rfl,P9,hR9⟩;have HR10:=Lib.hid hR9;clear hR9)))
       clear HR7 HR8 HR9 HQ1 HQ8 HSO
       obtain ⟨L,hL⟩:∃ L,L = R.2.rows.length:=⟨_,rfl⟩
       have HLL:=Lib.hid hL
       have hL8:L <= 8:=by rw [hL];exact HL8.out
       have hlt:=HLT.out
       clear hL
       go_wp2_with fail
       go_loopw [15] (fun s15 wr=>∃ (k:Nat) (P:Nat->Nat),k <= L/\s15 = .int .i64 k/\Rnd W (fun P w=>(Mine P 1 ⟨p.data,p.tabs,p.code⟩ R.2 b1 w/\Own0 P C 30 [.int .i64 r1,.slice z1 u1 v1,.slice z2 u2 v2,.slice z3 u3 v3] w/\ToldO P 0 0 R.2 r1 (.slice z1 u1 v1) (.slice z2 u2 v2) (.slice z3 u3 v3) w)/\Own0 P D 30 [.int .i64 r5,.slice a5 n5 c5,.slice a6 R.2.rows.length c6,.slice a7 n7 c7] w/\OwnS w W.heap.size P 110 27 1 (.slice a6 R.2.rows.length c6) R.2.rows.length vals5/\RowsAt W.heap.size vals5 R.2.rows (k) P w) hbk hl (9 * i + 1 + k) (i + 1) P wr) (fun s15 _=>L - (intOf s15).toNat)
       case atStart=>exact ⟨0,P9,Nat.zero_le _,rfl,HR10.out⟩
       case round=>
        obtain ⟨k,P7,hk,rfl,hR⟩:=hrel
        have HR:=Lib.hid hR
        clear hR HR10
        obtain ⟨⟨_,_,_,_⟩,_⟩:=HR.out.x.2.1.row.four
        by_cases hkl:k < L
        ·have d2:decide ((k:Int) < (R.2.rows.length:Int)) = true:=by rw [<- HLL.out];simp;omega
         have hkr:k < R.2.rows.length:=by rw [<- HLL.out];exact hkl
         obtain ⟨g,hg,hgc⟩:=own_at HR.out.x.2.2.1.1 (by omega)
         subst hg
         obtain ⟨u,hu,hou⟩:=HR.out.x.2.2.2 k (Nat.le_refl _) hkr
         have hcell:=hgc k hkr
         rw [hu] at hcell
         have HOU:=Lib.hid hou
         have hwk:wrap64 ((k:Int) + 1) = ((k + 1:Nat):Int):=by unfold wrap64;omega
         have i1:(k:Int) < (R.2.rows.length:Int):=by omega
         clear hu hou hgc
         go_wp2_with (go_at_call 34;go_loud (refine (Rnd.book (X:=fun P w=>(Mine P 1 ⟨p.data,p.tabs,p.code⟩ R.2 b1 w/\Own0 P C 30 [.int .i64 r1,.slice z1 u1 v1,.slice z2 u2 v2,.slice z3 u3 v3] w/\ToldO P 0 0 R.2 r1 (.slice z1 u1 v1) (.slice z2 u2 v2) (.slice z3 u3 v3) w)/\Own0 P D 30 [.int .i64 r5,.slice a5 n5 c5,.slice (some ⟨g,0,none⟩) R.2.rows.length c6,.slice a7 n7 c7] w/\OwnS w W.heap.size P 110 27 1 (.slice (some ⟨g,0,none⟩) R.2.rows.length c6) R.2.rows.length vals5/\RowsAt W.heap.size vals5 R.2.rows (k + 1) P w) (r:=111 + k) (by omega) (((firm_mine (by omega) (by decide) (by decide) _ _ _).and ((firm_own0 (by omega) _ _ _).and (firm_toldO (by omega) (by decide) (by decide) _ _ _ _ _ _))).and ((firm_own0 (by omega) _ _ _).and ((firm_list (by omega) (by decide) _ _ _).and (firm_rows (by intro j hj;omega) _ _)))) (HR.out.weak fun P w h=>⟨h.1,h.2.1,h.2.2.1,fun j hj=>h.2.2.2 j (by omega)⟩) (by omega) (HSN.out.good.mem.rows k hkr).1 (row_len HC.out.1 HSN.out k hkr) HOU.out).mono ?_;rintro e w4 ⟨rfl,P10,hR4⟩;have HR4:=Lib.hid hR4;clear hR4))
         go_roundw
         case rel=>exact ⟨k + 1,P10,hkl,by first | rfl | rw [hwk],HR4.out⟩
         case measure=>
          first | rw [hwk] | skip
          show L - ((k + 1:Nat):Int).toNat < L - ((k:Nat):Int).toNat
          omega
        ·have d2:decide ((k:Int) < (R.2.rows.length:Int)) = false:=by rw [<- HLL.out];simp;omega
         have d3:decide (k < R.2.rows.length) = false:=by rw [<- HLL.out];simp;omega
         have i2:¬ k < R.2.rows.length:=by rw [<- HLL.out];omega
         have i3:R.2.rows.length <= k:=by rw [<- HLL.out];omega
         have hwi:wrap64 ((i:Int) + 1) = ((i + 1:Nat):Int):=by unfold wrap64;omega
         go_wp2_with fail
         go_roundw
         case rel=>exact ⟨i + 1,P7,hlt,by first | rfl | rw [hwi],(HR.out.weak fun P w h=>h.1).mono (by omega) (Nat.le_refl _)⟩
         case measure=>
          first | rw [hwi] | skip
          show 5 - ((i + 1:Nat):Int).toNat < 5 - ((i:Nat):Int).toNat
          omega
      ·have hie:i = 5:=by omega
       have d1:decide ((i:Int) < 5) = false:=by simp;omega
       have h44:(regc R.2.rg).length = 44:=by rw [regc_len,HSN.out.good.regs.1]
       have h416:R.2.st.length = 416:=HSN.out.good.slots.len
       have HST:=Lib.hid (state_mine HC.out.1 HSN.out HR5.out.x.1)
       have HLT:=Lib.hid hie
       clear hie hlt
       go_upto_region 24 with (go_at_call 22;go_loud (refine (HST.out).mono ?_;rintro e wS ⟨x1,t1,s1,rfl,hA⟩;obtain ⟨z4,u4,v4,rfl⟩:=hA.shx;obtain ⟨z5,u5,v5,rfl⟩:=hA.sht;obtain ⟨z6,u6,v6,rfl⟩:=hA.shs;have hsc:=store_state' h44 h416 z4 z5 z6 u4 v4 u5 v5 u6 v6 wS;have hlen:=statec_len h44 h416 (.slice z4 u4 v4) (.slice z5 u5 v5) (.slice z6 u6 v6)))
       have hmk:=below_map wS (.cells (statec R.2 (.slice z4 u4 v4) (.slice z5 u5 v5) (.slice z6 u6 v6)).toArray 62)
       have hR6:=(HR5.out.next (fun P k w w' hb h=>⟨h.1.next hb,h.2.1.next hb,h.2.2.next hb⟩) hA.bel 0).next (fun P k w w' hb h=>⟨h.1.next hb,h.2.1.next hb,h.2.2.next hb⟩) hmk 0
       have hts:=(ToldS.begin (P:=P5) hA).next (k:=0) hmk
       have hbx:=Own0.made (P:=grown P5 wr.heap.size 0) wS (statec R.2 (.slice z4 u4 v4) (.slice z5 u5 v5) (.slice z6 u6 v6)) 62
       clear hmk hA hsc hlen HST
       obtain ⟨D,hD⟩:∃ z,z = wS.heap.size:=⟨_,rfl⟩
       rw [<- hD] at hR6 hts hbx
       simp only [<- hD]
       clear hD
       generalize World.alloc _ _ = wJ at hR6 hts hbx ⊢
       generalize grown _ _ _ = P6 at hR6 hts hbx
       have HR6:=Lib.hid (show Rnd W (fun P w=>Own0 P D 62 (statec R.2 (.slice z4 u4 v4) (.slice z5 u5 v5) (.slice z6 u6 v6)) w/\ToldS P R.2 (.slice z4 u4 v4) (.slice z5 u5 v5) (.slice z6 u6 v6) w/\(Mine P 1 ⟨p.data,p.tabs,p.code⟩ R.2 b1 w/\Own0 P C 30 [.int .i64 r1,.slice z1 u1 v1,.slice z2 u2 v2,.slice z3 u3 v3] w/\ToldO P 0 0 R.2 r1 (.slice z1 u1 v1) (.slice z2 u2 v2) (.slice z3 u3 v3) w)) hbk hl (9 * i) i P6 wJ from ⟨hR6.g,⟨hbx,hts,hR6.x⟩,hR6.bk,hR6.lg⟩)
       clear hR6 hts hbx
       obtain ⟨g0,g1,g2⟩:=statec_mid h44 h416 (.slice z4 u4 v4) (.slice z5 u5 v5) (.slice z6 u6 v6)
       have HGC:=Lib.hid (And.intro g0 (And.intro g1 g2))
       clear g0 g1 g2
       go_wp2_with (first
        | (go_at_call 36;go_loud (refine (Rnd.bdone ((firm_own0 (by decide) _ _ _).and ((firm_toldS (by decide) _ _ _ _).and ((firm_mine (by decide) (by decide) (by decide) _ _ _).and ((firm_own0 (by decide) _ _ _).and (firm_toldO (by decide) (by decide) (by decide) _ _ _ _ _ _))))) HR6.out (by have:=HLT.out;omega)).mono ?_;rintro e w1 ⟨rfl,P7,hg,hx,hL⟩;have HD1:=Lib.hid (And.intro hg (And.intro hx hL));clear hg hx hL))
        | (go_at_call 37;go_loud (refine (ldone_of (X:=fun P w=>Own0 P D 62 (statec R.2 (.slice z4 u4 v4) (.slice z5 u5 v5) (.slice z6 u6 v6)) w/\ToldS P R.2 (.slice z4 u4 v4) (.slice z5 u5 v5) (.slice z6 u6 v6) w/\(Mine P 1 ⟨p.data,p.tabs,p.code⟩ R.2 b1 w/\Own0 P C 30 [.int .i64 r1,.slice z1 u1 v1,.slice z2 u2 v2,.slice z3 u3 v3] w/\ToldO P 0 0 R.2 r1 (.slice z1 u1 v1) (.slice z2 u2 v2) (.slice z3 u3 v3) w)) ((firm_own0 (by decide) _ _ _).and ((firm_toldS (by decide) _ _ _ _).and ((firm_mine (by decide) (by decide) (by decide) _ _ _).and ((firm_own0 (by decide) _ _ _).and (firm_toldO (by decide) (by decide) (by decide) _ _ _ _ _ _))))) HD1.out.1 HD1.out.2.1 HD1.out.2.2 (by have:=HLT.out;omega)).mono ?_;rintro e w2 ⟨rfl,P8,hg,hx⟩;have HG8:=Lib.hid hg;obtain ⟨⟨_,_,_,_⟩,_⟩:=hx.2.2.2.1.row.four;have j0:=(hx.1.row.cell 460).trans HGC.out.1;have j1:=(hx.1.row.cell 461).trans HGC.out.2.1;have j2:=(hx.1.row.cell 462).trans HGC.out.2.2;obtain ⟨_,_,_,_,_,_,vals7,_,_,_,k0',k1',k2'⟩:=hx.2.1.parts HSN.out;obtain ⟨base7,hO7⟩:=hx.2.2.2.2.out;obtain ⟨_,_,_,_,_,_,vals8,_,_,_,k3',k4',k5'⟩:=hO7.reads HSN.out.good.mem.ctx (fun k hk=>(HSN.out.good.mem.rows k hk).1);have HK0:=Lib.hid (And.intro k0' k3');have HK1:=Lib.hid (And.intro k1' k4');have HK2:=Lib.hid (And.intro k2' k5');clear hg hx hO7 k0' k1' k2' k3' k4' k5'))
        | (go_at_call 15;go_loud (refine (same_at _ _ R.2.ctx _ HK0.out.1 HK0.out.2).mono ?_;rintro e w' ⟨rfl,rfl⟩))
        | (go_at_call 39;go_loud (refine (same_rows _ _ vals7 vals8 R.2.rows (by have:=HL8.out;omega) _ HK1.out.1 HK1.out.2).mono ?_;rintro e w' ⟨rfl,m1,rfl⟩))
        | (go_at_call 10;go_loud (refine (ints_same _ _ R.2.sent (by have:=HKK.out.2.2.2;omega) _ (HK2.out.1.below (below_drewN (Below.refl _ _) _) (Nat.le_refl _)) (HK2.out.2.below (below_drewN (Below.refl _ _) _) (Nat.le_refl _))).mono ?_;rintro e w' ⟨rfl,m2,rfl⟩)))
       go_ret
       exact ⟨rfl,below_drewN HG8.out.bel _⟩
   ·have hfb:(R.1 != 0) = true:=by simpa using hf
    obtain ⟨⟨_,_,_,_⟩,_⟩:=HB.out.four
    have hb0:=run_out0
    have hZ:OutS 0 R.1 R.2 0 (.slice none 0 0) (.slice none 0 0) (.slice none 0 0) wD:=⟨⟨_,_,_,rfl⟩,⟨_,_,_,rfl⟩,⟨_,_,_,rfl⟩,fun _=>⟨rfl,rfl,rfl,rfl⟩,fun h=>absurd h hf,fun h=>absurd h hf,fun h=>absurd h hf,fun h=>absurd h hf⟩
    have HSO:=Lib.hid (outs_same HC.out.1 HSN.out HO.out hZ)
    clear hZ hf
    go_wp2_with (go_at_call 24;go_loud (refine (HSO.out).mono ?_;rintro e w' ⟨rfl,hb⟩))
    go_ret
    exact ⟨rfl,HG2.out.bel.trans (hb.mono HG2.out.bel.size)⟩
 ·have ARM := Lib.hid (fun (e : Ending) (w2 w3 : World) (h : (newE p ctx rows = 0 ∧ ∃ bx v, e = .returned (.tuple #[.pointer (some ⟨bx, 0, none⟩), .int .i64 0]) ∧ MS w2.heap.size w2 ⟨p.data, p.tabs, p.code⟩ (stG ctx rows) bx v w3) ∨
   (newE p ctx rows ≠ 0 ∧ e = .returned (.tuple #[.pointer none, .int .i64 (newE p ctx rows)]) ∧ Below w2.heap.size w2 w3)) => (show e = .returned (.tuple #[.pointer none, .int .i64 E]) ∧ Below w2.heap.size w2 w3 from by
     rcases h with ⟨h1,_⟩ | ⟨_,h2,h3⟩
     ·exact absurd (HE.out.trans h1) h0
     ·exact ⟨by rw [h2,HE.out],h3⟩))
  have hE0:(E != 0) = true:=by simpa using h0
  clear h0
  go_cut [5,6] from 19 to 26 (fun s5 s6 wx=>s5 = .pointer none/\s6 = .int .i64 E/\Below W.heap.size W wx)
  case first=>
   have hks:=(HK.out.next (Below.refl _ _).drew).k
   go_region_held3 (fun w'=>w'.cell? ⟨W.heap.size,0,none⟩ = some (.int .i64 p.lo)/\w'.cell? ⟨W.heap.size,1,none⟩ = some (.int .i64 p.hi)/\w'.cell? ⟨W.heap.size,2,none⟩ = some (.slice d0 p.data.length k0)/\w'.cell? ⟨W.heap.size,3,none⟩ = some (.slice t0 p.tabs.length k1)/\w'.cell? ⟨W.heap.size,4,none⟩ = some (.slice c0 p.code.length k2)/\w'.cell? ⟨W.heap.size + 1,0,none⟩ = some (.slice x0 ctx.length k3)/\w'.cell? ⟨W.heap.size + 1,1,none⟩ = some (.slice r0 rows.length k4)/\KZ W [.int .i64 p.lo,.int .i64 p.hi,.slice d0 p.data.length k0,.slice t0 p.tabs.length k1,.slice c0 p.code.length k2] [.slice x0 ctx.length k3,.slice r0 rows.length k4] w')
   (first
     | with_reducible assumption
     | exact KZ.n (by with_reducible assumption) hb1
     | exact KZ.n (by with_reducible assumption) hb2
     | exact KZ.n (by with_reducible assumption) hb3
     | fail "none")
   (first
     | (go_at_call 19;refine (HCP.out _ (by with_reducible assumption)).mono ?_;rintro e w1 ⟨da,dc,ta,tc,ca,cc,rfl,hb1,o1,o2,o3⟩)
     | (go_at_call 20;refine (HCI.out _ (by with_reducible assumption)).mono ?_;rintro e w2 ⟨xa,xc,ra,rc,vals',rfl,hb2,o4,ρ5,o5⟩)
     | (go_at_call 18;refine (HNEW.out _ _ _ _ _ _ _ _ _ _ _ _ _ _ _ o1 o2 o3 hb2 o4 o5).mono ?_;rintro e w3 hN;obtain ⟨rfl,hb3⟩:=ARM.out e _ _ hN)
     | fail "none")
   rename_i hheld
   go_wp2_with fail
   go_meet
   case rel=>exact ⟨rfl,rfl,hheld.2.2.2.2.2.2.2.bel⟩
  case rest=>
   obtain ⟨rfl,rfl,hbel⟩:=hcut
   go_wp2_with fail
   go_ret
   exact ⟨rfl,hbel⟩
end Go.Proofs.YtdepknffpnnmmaaGreat
