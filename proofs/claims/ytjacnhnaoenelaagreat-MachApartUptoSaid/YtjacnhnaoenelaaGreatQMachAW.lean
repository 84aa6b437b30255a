import Derived.Test.YtjacnhnaoenelaaGreatQMachAX
import Derived.Test.YtjacnhnaoenelaaGreatQJ6a
set_option maxRecDepth 100000
set_option maxHeartbeats 16000000
namespace Go.Proofs.YtjacnhnaoenelaaGreat
open Lib (hid)
open Go.Proofs.Tryz
open Go.RowKit
set_option linter.unusedVariables false
set_option linter.unusedSimpArgs false
section
variable {base:Nat} {w0:World} {fx:Ak} {s:Mst} {bx:Nat} {v:Bc}
theorem Aoa (op:Int) (Ad reg:Bool) (size dst src off Aa:Int) (hjd:1 <= Aa/\Aa <= 8) (hG:Good fx s) (w:World) (hM:MS base w0 fx s bx v w) :
 Calls prog 60 #[.pointer (some ⟨bx,0,none⟩),.agg #[.int .i64 op,.bool Ad,.bool reg,.int .i64 size,.int .i64 dst,.int .i64 src,.int .i64 off,.int .i64 Aa]] w fun e w'=>
  e = .returned (.tuple #[.int .i64 0,.int .i64 (J3 fx s ⟨op,Ad,reg,size,dst,src,off,Aa⟩).er])/\∃ v',MS base w0 fx (J3 fx s ⟨op,Ad,reg,size,dst,src,off,Aa⟩).s bx v' w'/\Jd v.ρ w w'/\∀ q,q < w.heap.size->v'.ρ q = v.ρ q:=by
 have hl:=hM.len;have HF:=hid (FM.begin hM.box op Ad reg size dst src off Aa);obtain ⟨D,hD⟩:∃ D,D = J3 fx s ⟨op,Ad,reg,size,dst,src,off,Aa⟩:=⟨_,rfl⟩;rw [<- hD];have HD:=hid hD;have HM:=hid hM;have Xz:=hid hG;have HID:=hid hjd;obtain ⟨lo,hi,p1,p2,hsig⟩:=Aw9 Aa hjd;have Ayr:=hid hsig;clear hM hD hG hjd hsig;obtain ⟨cs,hcs⟩:∃ cs,cs = Aw s v:=⟨_,rfl⟩;rw [<- hcs] at HF hl;have Ph:=hid hcs;clear hcs;go_enter func60,ntmps60;go_upto_region 1 with fail;generalize World.alloc _ _ = w1 at HF ⊢;obtain ⟨c0,c1,c2,c3,c4,c5,c6,c7⟩:=HF.out.cells
 go_cut [6,7] from 16 to 21 (fun s6 s7 wx=>∃ q6 g,s6 = .pointer (some ⟨q6,0,none⟩)/\s7 = .bool true/\Row wx q6 124 [.slice (some ⟨g,0,none⟩) 5 5,.int .i64 lo,.int .i64 hi,.bool p1,.bool p2]/\Row wx g 3 (O9 (Vb Aa))/\FM w bx w.heap.size cs op Ad reg size dst src off Aa wx)
 case first=>
  go_wp2_with (go_at_call 81;go_loud (refine (Ayr.out _).mono ?_;rintro e wS ⟨g,rfl,hg,hrow,hbS⟩));go_meet
  case rel=>exact ⟨_,g,rfl,rfl,Row.made wS [.slice (some ⟨g,0,none⟩) 5 5,.int .i64 lo,.int .i64 hi,.bool p1,.bool p2] _,hrow.alloc _,(HF.out.next hbS).next (Ae wS _)⟩
 case rest=>
  obtain ⟨q6,g,rfl,rfl,hq6,hgr,hF1⟩:=hcut;have HS1:=hid (And.intro hgr hF1);have hcell:wc.cell? ⟨q6,0,none⟩ = some (.slice (some ⟨g,0,none⟩) 5 5):=by rw [hq6.cell];rfl
  clear c0 c1 c2 c3 c4 c5 c6 c7 hq6 hgr hF1 HF Ayr;obtain ⟨w2,rfl⟩:∃ w2,w2 = wc:=⟨_,rfl⟩;go_upto_region 4 with fail;have HMS:=hid (HM.out.same HS1.out.2.mod (by have h:=HS1.out.2.Ar;rw [Ph.out] at h;exact h));obtain ⟨hP5,hal,hPp⟩:=Aun Aa HID.out;have Vu:=hid (Arh (Vb Aa) hal (Yt Aa) hP5 hPp (fun d _=>(F8 Xz.out.regs d).ptr) (fun d _=>(F8 Xz.out.regs d).x) (fun y hy=>(Xz.out.mem.slots y hy).2) g w2 HMS.out HS1.out.1);clear hP5 hal hPp
  go_cut [7,8] from 24 to 30 (fun s7 s8 wx=>∃ tb sz,s7 = .bool (Hq fx s Aa)/\s8 = .pointer (some ⟨tb,0,none⟩)/\KC w bx cs op Ad reg size dst src off Aa tb sz wx/\(Hq fx s Aa = true->sz = yw (Vb Aa) (s.reg (Yt Aa + 1:Nat)).x 5))
  case first=>
   go_wp2_with (go_at_call 82;go_loud (refine Vu.out.mono ?_;rintro e wA ⟨hbA,sz,ok,hsl,rfl,hok,hsz⟩));go_meet
   case rel=>
    have Ays:ok = Hq fx s Aa:=by
     have h:=hok.trans (Ark fx s Aa HID.out);rw [Bool.eq_iff_iff];exact h
    obtain ⟨z0,z1,z2,z3,z4,z5,rfl⟩:=Afh hsl;refine ⟨_,[z0,z1,z2,z3,z4,z5],by rw [Ays],rfl,⟨(HS1.out.2.next hbA).next (Ae wA _),Row.made wA (O9 [z0,z1,z2,z3,z4,z5]) _,Nat.le_trans HS1.out.2.mod.size hbA.size,rfl⟩,fun h=>hsz (Ays.trans h)⟩
  case rest=>
   obtain ⟨tb,sz,rfl,rfl,hKC,hsz⟩:=hcut;have Na:=hid hKC;have Xy:=hid hsz;clear hKC hsz Vu hcell;obtain ⟨ASK,Axc⟩:∃ A:Bool,Hq fx s Aa = A:=⟨_,rfl⟩;rw [Axc];have Vu:=hid Axc;clear Axc
   cases ASK with
   | false =>
     have e:=HD.out;unfold J3 at e;rw [if_neg (by have:=HID.out;show ¬ (Aa < 1\/8 < Aa);omega),if_pos Vu.out] at e;have HE:=hid e;clear e;go_wp2_with fail;exact bodyPost_ret (v:=.tuple #[.int .i64 0,.int .i64 87]) (by simp [results,results60,go_sem]) rfl ⟨by rw [HE.out];rfl,v,by rw [HE.out];exact HM.out.same Na.out.fm.mod (by have h:=Na.out.fm.Ar;rw [Ph.out] at h;exact h),Jd.Eu Na.out.fm.mod HM.out.rb,fun _ _=>rfl⟩
   | true =>
     have e:=HD.out;unfold J3 at e;rw [if_neg (by have:=HID.out;show ¬ (Aa < 1\/8 < Aa);omega),if_neg (by show ¬ (Hq fx s Aa = false);rw [Vu.out];decide)] at e;have HE:=hid e;clear e;obtain ⟨w3,rfl⟩:∃ w3,w3 = wc:=⟨_,rfl⟩;go_upto_region 7 with fail
     go_cut [9] from 33 to 33 (fun s9 wx=>∃ q9,s9 = .pointer (some ⟨q9,0,none⟩)/\Row wx q9 57 [.int .i64 1,.int .i64 0,.int .i64 0,.int .i64 0]/\w3.heap.size <= q9/\KC w bx cs op Ad reg size dst src off Aa tb sz wx)
     case first=>
      go_wp2_with (go_at_call 35;refine (Gh _ _).mono ?_;rintro e wN ⟨rfl,hbN⟩);go_meet
      case rel=>exact ⟨_,rfl,Row.made wN [.int .i64 1,.int .i64 0,.int .i64 0,.int .i64 0] _,hbN.size,(Na.out.next hbN).next (Ae wN _)⟩
     case rest=>
      obtain ⟨q9,rfl,hq9,Ayt,hKC⟩:=hcut;have HQ9:=hid (And.intro hq9 (Nat.le_trans Na.out.fm.mod.size Ayt));have HK9:=hid hKC;have Yj:=hid (show tb ≠ q9 by have:=Na.out.box.lt;omega);clear hq9 Ayt hKC Na;obtain ⟨w4,rfl⟩:∃ w4,w4 = wc:=⟨_,rfl⟩;have HM9:=hid (HM.out.same HK9.out.fm.mod (by have h:=HK9.out.fm.Ar;rw [Ph.out] at h;exact h))
      have hrg:∀ d,d < 11->w4.cell? ⟨bx,423 + d * 4 + 3,none⟩ = some (.int .i64 (s.reg (d:Nat)).x):=fun d hd=>by
       have h:=((HM9.out.lu d hd).row HM9.out.box).2.2.2;rw [show s.reg (d:Nat) = s.rg[d]'(by rw [HM9.out.Oj];exact hd) from s.Ir d (by rw [HM9.out.Oj];exact hd)];exact h
      obtain ⟨x1,hx1⟩:∃ x,(s.reg 1).x = x:=⟨_,rfl⟩;obtain ⟨x2,hx2⟩:∃ x,(s.reg 2).x = x:=⟨_,rfl⟩;obtain ⟨x3,hx3⟩:∃ x,(s.reg 3).x = x:=⟨_,rfl⟩;have e1:w4.cell? ⟨bx,430,none⟩ = some (.int .i64 x1):=by rw [<- hx1];exact hrg 1 (by decide)
      have e2:w4.cell? ⟨bx,434,none⟩ = some (.int .i64 x2):=by rw [<- hx2];exact hrg 2 (by decide)
      have e3:w4.cell? ⟨bx,438,none⟩ = some (.int .i64 x3):=by rw [<- hx3];exact hrg 3 (by decide)
      have HX:=hid (And.intro hx1 (And.intro hx2 hx3));clear hx1 hx2 hx3 hrg;go_upto_region 8 with fail
      go_cut [10,11,12] from 34 to 51 (fun s10 s11 s12 wx=>s10 = .int .i64 x1/\s11 = .int .i64 x2/\s12 = .int .i64 x3/\Row wx q9 57 [.int .i64 1,.int .i64 0,.int .i64 0,.int .i64 0]/\KC w bx cs op Ad reg size dst src off Aa tb sz wx)
      case first=>
       have hlt:=HK9.out.fm.Ar.lt
       go_region
       go_wp2_with fail;go_meet
       case rel=>exact ⟨rfl,rfl,rfl,HQ9.out.1.below (Below.refl _ _).drew HQ9.out.1.lt,HK9.out.next (Below.refl _ _).drew⟩
      case rest=>
       obtain ⟨rfl,rfl,rfl,hq9,hKC⟩:=hcut;have HQ:=hid (And.intro hq9 HQ9.out.2);have Na:=hid hKC;clear hq9 hKC e1 e2 e3 HK9 HQ9 HM9;obtain ⟨w5,rfl⟩:∃ w5,w5 = wc:=⟨_,rfl⟩;obtain ⟨c0,c1,c2,c3,c4,c5,c6,c7⟩:=Na.out.fm.cells
       go_upto_block 0 with fail
       go_cut [] from 54 to 183 (fun wx=>∃ (S1:Mst) (k t o x:Int) (v1:Bc),D = ⟨0,0,O8 S1 ⟨k,t,o,x⟩⟩/\MS base w0 fx S1 bx v1 wx/\Row wx q9 57 [.int .i64 k,.int .i64 t,.int .i64 o,.int .i64 x]/\Jd v.ρ w wx/\(∀ q,q < w.heap.size->v1.ρ q = v.ρ q)/\w.heap.size <= wx.heap.size)
       case first=>
        have Xi:=hid (HM.out.same Na.out.fm.mod (by have h:=Na.out.fm.Ar;rw [Ph.out] at h;exact h));have HBQ:=hid (show bx ≠ q9 by have:=HM.out.box.lt;have:=HQ.out.2;omega);have HMR:=hid (show Row w5 bx 87 (Aw s v) by have h:=Na.out.fm.Ar;rw [Ph.out] at h;exact h);obtain ⟨⟨g0,g1,g2,g3⟩,h0,h1,h2,h3⟩:=HQ.out.1.four
        rcases ids HID.out with rfl | rfl | rfl | rfl | rfl | rfl | rfl | rfl
        ·have e:=HE.out;rw [if_pos (by show (1:Int) = 1;rfl)] at e;obtain ⟨n,hn,hn2,hk1,hin1⟩:=Ak7 (id:=1) (by decide) Vu.out
         have hz:O9 sz = [.int .i64 0,.int .i64 n,.int .i64 0,.int .i64 0,.int .i64 0,.int .i64 0]:=by
          rw [Xy.out Vu.out,szA (Vb 1) _ true false rfl rfl rfl rfl rfl,show (s.reg (Yt 1 + 1:Nat)).x = n from hn];rfl
         have hKW:=(KW.mk Na.out.fm.mod HMR.out Na.out.box ⟨_,HQ.out.1⟩ HBQ.out Yj.out HQ.out.2 Na.out.lt:KW w bx tb q9 (Aw s v) (O9 sz) w5);rw [hz] at hKW;have HKW:=hid hKW;have htl:=hKW.box.lt;have t1:=hKW.k.1;have t2:=hKW.k.2.1;clear hKW;have hxb:=Fz Xz.out.mem (s.reg 1) (s.reg 1).x n;have hxl:(D7 fx s (s.reg 1) (s.reg 1).x n).length = n:=HM.out.Xh (s.reg 1) ((F8 Xz.out.regs 1).ptr hk1) Xz.out.mem n hin1;obtain ⟨X,hX⟩:∃ X,Ao4 (D7 fx s (s.reg 1) (s.reg 1).x n) x3 = X:=⟨_,rfl⟩;have qp:=hid (fun (w':World) (hb:Below w5.heap.size w5 w')=>(Py Xz.out 1 (by decide) n hk1 hin1 w' (Xi.out.next hb):Calls prog 84 #[.pointer (some ⟨bx,0,none⟩),.int .i64 1,.int .i64 n] w' (oh w' (D7 fx s (s.reg 1) (s.reg 1).x n))))
         have e:D = ⟨0,0,O8 s ⟨1,0,0,X⟩⟩:=by
          rw [e,<- hX,<- HX.out.2.2,<- hn];rfl
         have U0:=hid e;clear e hk1 hin1 hz;generalize D7 fx s (s.reg 1) (s.reg 1).x n = xs at hxb hxl hX qp;have HXS:=hid (And.intro hxb (And.intro hxl (And.intro hX hn2)));have Ayu:xs.length <= 281474976710656:=by omega
         clear hxb hxl hX hn hn2
         go_wp2_with (first
          | (go_at_call 84;go_loud (refine (qp.out _ (Below.refl _ _)).mono ?_;rintro e wB ⟨vC,rfl,hown,hbB⟩;obtain ⟨aC,kC,rfl⟩:=Ai hown;have hH:=Dq hown HXS.out.1 rfl;obtain ⟨⟨g,hg⟩,hfz⟩:=(HKW.out.next hbB).cells;have hqB:=(HQ.out.1.below hbB HQ.out.1.lt).lt))
          | (go_at_call 83;go_loud (refine (Avw _ xs Ayu _ _ hH).mono ?_;rintro e wS ⟨rfl,rfl⟩;rw [HXS.out.2.2.1])))
         go_meet
         case rel=>
          obtain ⟨f1,f2,f3,f4⟩:=KW.fin HM.out (HKW.out.next hbB) X;exact ⟨s,1,0,0,X,v,U0.out,f1,f2,f3,fun _ _=>rfl,f4⟩
        ·have e:=HE.out;rw [if_neg (by show ¬ (2:Int) = 1;decide),if_pos (by show (2:Int) = 2;rfl)] at e;obtain ⟨n,hn,hn2,hk1,hin1,hk2,hin2,h4⟩:=Ak8 (id:=2) (by decide) Vu.out
         have hz:O9 sz = [.int .i64 0,.int .i64 n,.int .i64 n,.int .i64 0,.int .i64 0,.int .i64 0]:=by
          rw [Xy.out Vu.out,szA (Vb 2) _ true true rfl rfl rfl rfl rfl,show (s.reg (Yt 2 + 1:Nat)).x = n from hn];rfl
         have hKW:=(KW.mk Na.out.fm.mod HMR.out Na.out.box ⟨_,HQ.out.1⟩ HBQ.out Yj.out HQ.out.2 Na.out.lt:KW w bx tb q9 (Aw s v) (O9 sz) w5);rw [hz] at hKW;have HKW:=hid hKW;have htl:=hKW.box.lt;have t1:=hKW.k.1;have t2:=hKW.k.2.1;clear hKW;obtain ⟨a,ha⟩:∃ a:Nat,(s.reg 1).x = a:=⟨(s.reg 1).x.toNat,by have:=(Fe hin1).1;omega⟩;obtain rfl:x1 = a:=HX.out.1.symm.trans ha;have hH9:=HM.out.nine;have Aob:MS base w0 fx s bx (v9 v w) w5:=hH9.same Na.out.fm.mod (by have h:=HMR.out;exact h);have hxb:=Fz Xz.out.mem (s.reg 2) (s.reg 2).x n;have hxl:(D7 fx s (s.reg 2) (s.reg 2).x n).length = n:=HM.out.Xh (s.reg 2) ((F8 Xz.out.regs 2).ptr hk2) Xz.out.mem n hin2;have qp:=hid (fun (w':World) (hb:Below w5.heap.size w5 w')=>(Py Xz.out 2 (by decide) n hk2 hin2 w' (Aob.next hb):Calls prog 84 #[.pointer (some ⟨bx,0,none⟩),.int .i64 2,.int .i64 n] w' (oh w' (D7 fx s (s.reg 2) (s.reg 2).x n))))
         have e:D = ⟨0,0,O8 (Gn fx s (s.reg 1) a (D7 fx s (s.reg 2) (s.reg 2).x n)) ⟨1,0,0,0⟩⟩:=by
          rw [e,<- ha,<- hn];rfl
         rw [ha] at hin1;have hp1:=(F8 Xz.out.regs 1).ptr hk1;have h14:=h4 rfl;have hcl:=Xi.out.Aul (show s.reg 1 = ⟨(s.reg 1).k,(s.reg 1).t,(s.reg 1).o,(s.reg 1).x⟩ from rfl);rw [ha] at hcl;generalize D7 fx s (s.reg 2) (s.reg 2).x n = xs at hxb hxl qp e;have hwr:=fun (w':World) (sa:Option Addr) (sc:Nat) (hM':MS base w0 fx s bx (v9 v w) w') (hsrc:Reads w' 1 (.slice sa n sc) n (Gp xs)) (hne:∀ q off,sa = some ⟨q,off,none⟩->q ≠ bx)=>qo (s.reg 1) hp1 h14 Xz.out.mem a n xs hxl hin1 sa sc w' hM' hsrc hne;obtain ⟨p1,hpe⟩:∃ p,s.reg 1 = p:=⟨_,rfl⟩;rw [hpe] at hwr hcl e ha;obtain ⟨k1,t1',o1,y1⟩:=p1;simp only at hcl ha;subst ha;unfold Val.agg at hwr;simp only at hwr;have HWR:=hid hwr;have U0:=hid e;have HXS:=hid (And.intro hxb hxl);have H59:=hid Aob;have Aoc:bx < w5.heap.size:=HMR.out.lt;have hks:S5 bx tb k1 t1' o1 a n w5 w5.drew:=S5.next (wB:=w5.drew) ⟨hcl,t2,Nat.le_refl _⟩ (Below.refl _ _).drew Aoc htl;have hrg:∀ S1 wW,S1 = Gn fx s ⟨k1,t1',o1,a⟩ a xs->MS base w0 fx S1 bx (v9 v w) wW->(wW.cell? ⟨bx,427,none⟩ = some (.int .i64 k1)/\wW.cell? ⟨bx,428,none⟩ = some (.int .i64 t1')/\wW.cell? ⟨bx,429,none⟩ = some (.int .i64 o1)/\wW.cell? ⟨bx,430,none⟩ = some (.int .i64 a)):=fun S1 wW hS1 hMW=>hMW.Aul (by subst hS1;unfold Mst.reg;rw [Aa8];exact hpe);have HRG:=hid hrg;clear e hk1 hin1 hk2 hin2 hz hn hn2 h4 hp1 h14 hpe hwr hxb hxl Aob hH9 hcl hrg t1 t2;have HKS:=hid hks;unfold S5 at hks;go_upto_region 13 with fail
         go_region_held3 (fun w'=>(w'.cell? ⟨bx,427,none⟩ = some (.int .i64 k1)/\w'.cell? ⟨bx,428,none⟩ = some (.int .i64 t1')/\w'.cell? ⟨bx,429,none⟩ = some (.int .i64 o1)/\w'.cell? ⟨bx,430,none⟩ = some (.int .i64 a))/\w'.cell? ⟨tb,2,none⟩ = some (.int .i64 n)/\KT w5 w')
          (first
            | with_reducible assumption
            | with_reducible exact hSB
            | with_reducible exact hSW
            | fail "none")
          (first
            | (go_at_call 84;go_loud (refine (qp.out _ (Below.refl _ _).drew).mono ?_;rintro e wB ⟨vC,rfl,hown,hbN⟩;have hSB:=S5.next HKS.out hbN Aoc htl;unfold S5 at hSB;have hH:=Dq hown HXS.out.1 rfl;rw [HXS.out.2] at hown;obtain ⟨aC,kC,rfl⟩:=Ai hown;have hsrc:=reads_held hH;rw [HXS.out.2] at hsrc;have Axd:=An4 hown (show bx < w5.drew.heap.size from Aoc);have hbB:=(Below.refl w5.heap.size w5).drew.trans (hbN.mono nl)))
            | (go_at_call 76;go_loud (refine (HWR.out _ _ _ (H59.out.next hbB) hsrc Axd).mono ?_);rintro e wW ⟨rfl,Aro,Arp,hszW⟩;obtain ⟨hqW,hfW,hsW⟩:=Aa9 HM.out HQ.out.2 (HQ.out.1.below hbB HQ.out.1.lt) (Na.out.fm.mod.below hbB) Arp hszW;have hSW:=(And.intro (HRG.out _ _ rfl Aro) (And.intro (Afk Arp HKW.out.tn (Nat.lt_of_lt_of_le htl hbB.size) hSB.2.1) (show KT w5 wW from Nat.le_trans hSB.2.2 hszW)))))
         go_wp2_with fail;go_meet
         case rel=>exact ⟨_,1,0,0,0,v9 v w,U0.out,Aro,hqW,hfW,Js,hsW⟩
        ·have e:=HE.out;rw [if_neg (by show ¬ (3:Int) = 1;decide),if_neg (by show ¬ (3:Int) = 2;decide),if_pos (by show (3:Int) = 3;rfl)] at e;obtain ⟨n,hn,hn2,hk1,hin1,h14⟩:=Aw8 Vu.out
         have hz:O9 sz = [.int .i64 0,.int .i64 n,.int .i64 0,.int .i64 0,.int .i64 0,.int .i64 0]:=by
          rw [Xy.out Vu.out,szA (Vb 3) _ true false rfl rfl rfl rfl rfl,show (s.reg (Yt 3 + 1:Nat)).x = n from hn];rfl
         have hKW:=(KW.mk Na.out.fm.mod HMR.out Na.out.box ⟨_,HQ.out.1⟩ HBQ.out Yj.out HQ.out.2 Na.out.lt:KW w bx tb q9 (Aw s v) (O9 sz) w5);rw [hz] at hKW;have HKW:=hid hKW;have htl:=hKW.box.lt;have t1:=hKW.k.1;have t2:=hKW.k.2.1;clear hKW;obtain ⟨a,ha⟩:∃ a:Nat,(s.reg 1).x = a:=⟨(s.reg 1).x.toNat,by have:=(Fe hin1).1;omega⟩;obtain rfl:x1 = a:=HX.out.1.symm.trans ha;have hH9:=HM.out.nine;have Aob:MS base w0 fx s bx (v9 v w) w5:=hH9.same Na.out.fm.mod (by have h:=HMR.out;exact h);obtain ⟨c,hc⟩:∃ c,x2 % 256 = c:=⟨_,rfl⟩
         have e:D = ⟨0,0,O8 (Gn fx s (s.reg 1) a (List.replicate n c)) ⟨1,0,0,0⟩⟩:=by
          rw [e,<- ha,<- hc,<- HX.out.2.1,hn,Int.toNat_natCast];rfl
         rw [ha] at hin1;have hp1:=(F8 Xz.out.regs 1).ptr hk1;have hcl:=Xi.out.Aul (show s.reg 1 = ⟨(s.reg 1).k,(s.reg 1).t,(s.reg 1).o,(s.reg 1).x⟩ from rfl);rw [ha] at hcl;have hwr:=fun (w':World) (sa:Option Addr) (sc:Nat) (hM':MS base w0 fx s bx (v9 v w) w') (hsrc:Reads w' 1 (.slice sa n sc) n (Gp (List.replicate n c))) (hne:∀ q off,sa = some ⟨q,off,none⟩->q ≠ bx)=>qo (s.reg 1) hp1 h14 Xz.out.mem a n (List.replicate n c) List.length_replicate hin1 sa sc w' hM' hsrc hne;obtain ⟨p1,hpe⟩:∃ p,s.reg 1 = p:=⟨_,rfl⟩;rw [hpe] at hwr hcl e ha;obtain ⟨k1,t1',o1,y1⟩:=p1;simp only at hcl ha;subst ha;unfold Val.agg at hwr;simp only at hwr;have HWR:=hid hwr;have U0:=hid e;have H59:=hid Aob;have Aoc:bx < w5.heap.size:=HMR.out.lt;have hrg:∀ S1 wW,S1 = Gn fx s ⟨k1,t1',o1,a⟩ a (List.replicate n c)->MS base w0 fx S1 bx (v9 v w) wW->(wW.cell? ⟨bx,427,none⟩ = some (.int .i64 k1)/\wW.cell? ⟨bx,428,none⟩ = some (.int .i64 t1')/\wW.cell? ⟨bx,429,none⟩ = some (.int .i64 o1)/\wW.cell? ⟨bx,430,none⟩ = some (.int .i64 a)):=fun S1 wW hS1 hMW=>hMW.Aul (by subst hS1;unfold Mst.reg;rw [Aa8];exact hpe);have HRG:=hid hrg;have hmk:=Qe n (by omega);have hu8:=Ao7 x2;rw [hc] at hu8;have HN:=hid (And.intro hn2 (And.intro hcl t2));clear e hk1 hin1 hz hn h14 hp1 hpe hwr Aob hH9 hcl hrg hc hn2 t2;go_wp2_with fail
         go_loopg [14,86] n (fun gh s14 s86 wr=>∃ i:Nat,i <= n/\gh = n - i/\s86 = .int .i64 i/\Row wr w5.heap.size 5 (Dv n fun j=>if j < i then c else 0)/\Below w5.heap.size w5 wr)
         case atStart=>
          exact ⟨0,Nat.zero_le _,rfl,rfl,Rz w5 n 5 fun _=>c,(Below.refl _ _).alloc nl _⟩
         case round=>
          obtain ⟨i,hi,rfl,rfl,hR,hBr⟩:=hrel
          by_cases hlt2:i < n
          ·have hj0:decide (i < n) = true:=by simpa using hlt2
           have hj1:decide ((i:Int) < (n:Int)) = true:=by simpa using hlt2
           have hw1:=add1 i (by have:=HN.out.1;omega);have hfr:=hR.free i;have hci:=(hR.cell i).trans (Hr _ hlt2);have HR:=hid hR;have HBR:=hid hBr;have HI:=hid hlt2;clear hR hBr hi hlt2;go_wp2_with fail
           go_roundg (n - (i + 1))
           case measure=>have:=HI.out;omega
           case rel=>exact ⟨i + 1,HI.out,rfl,by rw [hw1],Ape HR.out rfl,HBR.out.setCell nl _⟩
          ·obtain rfl:i = n:=by omega
           have hj0:decide (i < i) = false:=by simp
           have hj1:decide ((i:Int) < (i:Int)) = false:=by simp
           have hrr:=An5 (X9 hR) (by have:=HN.out.1;unfold maxLen;omega);have HR:=hid hrr;have HBR:=hid hBr;have hks:S5 bx tb k1 t1' o1 a 0 w5 wr.drew:=S5.next (S5.next ⟨HN.out.2.1,HN.out.2.2,Nat.le_refl _⟩ hBr Aoc htl) (Below.refl _ _).drew Aoc htl;unfold S5 at hks
           have Axd:∀ q off,(some ⟨w5.heap.size,0,none⟩:Option Addr) = some ⟨q,off,none⟩->q ≠ bx:=fun q off hq=>by
            injection hq with h1;injection h1 with h2;omega
           clear hR hBr hrr hi hlt2 hmk;go_upto_region 21 with fail
           go_region_held3 (fun w'=>(w'.cell? ⟨bx,427,none⟩ = some (.int .i64 k1)/\w'.cell? ⟨bx,428,none⟩ = some (.int .i64 t1')/\w'.cell? ⟨bx,429,none⟩ = some (.int .i64 o1)/\w'.cell? ⟨bx,430,none⟩ = some (.int .i64 a))/\w'.cell? ⟨tb,2,none⟩ = some (.int .i64 0)/\KT w5 w')
            (first
              | with_reducible assumption
              | with_reducible exact hSW
              | fail "none")
            ((go_at_call 76;go_loud (refine (HWR.out _ _ _ (H59.out.next (HBR.out.trans ((Below.refl _ _).drew.mono HBR.out.size))) (HR.out.below (Below.refl _ _).drew nl) Axd).mono ?_);rintro e wW ⟨rfl,Aro,Arp,hszW⟩;have hbB:=HBR.out.trans ((Below.refl wr.heap.size wr).drew.mono HBR.out.size);obtain ⟨hqW,hfW,hsW⟩:=Aa9 HM.out HQ.out.2 (HQ.out.1.below hbB HQ.out.1.lt) (Na.out.fm.mod.below hbB) Arp hszW;have hSW:=(And.intro (HRG.out _ _ rfl Aro) (And.intro (Afk Arp HKW.out.tn (Nat.lt_of_lt_of_le htl hbB.size) hks.2.1) (show KT w5 wW from Nat.le_trans hks.2.2 hszW)))))
           go_wp2_with fail;go_meet
           case rel=>exact ⟨_,1,0,0,0,v9 v w,U0.out,Aro,hqW,hfW,Js,hsW⟩
        ·have e:=HE.out;rw [if_neg (by show ¬ (4:Int) = 1;decide)] at e;rw [if_neg (by show ¬ (4:Int) = 2;decide)] at e;rw [if_neg (by show ¬ (4:Int) = 3;decide)] at e;rw [if_pos (by show (4:Int) = 4;rfl)] at e;obtain ⟨n,hn,hn2,hk1,hin1,hk2,hin2,_⟩:=Ak8 (id:=4) (by decide) Vu.out
         have hz:O9 sz = [.int .i64 0,.int .i64 n,.int .i64 n,.int .i64 0,.int .i64 0,.int .i64 0]:=by
          rw [Xy.out Vu.out,szA (Vb 4) _ true true rfl rfl rfl rfl rfl,show (s.reg (Yt 4 + 1:Nat)).x = n from hn];rfl
         have hKW:=(KW.mk Na.out.fm.mod HMR.out Na.out.box ⟨_,HQ.out.1⟩ HBQ.out Yj.out HQ.out.2 Na.out.lt:KW w bx tb q9 (Aw s v) (O9 sz) w5);rw [hz] at hKW;have HKW:=hid hKW;have htl:=hKW.box.lt;have t1:=hKW.k.1;have t2:=hKW.k.2.1;clear hKW;have hxb:=Fz Xz.out.mem (s.reg 1) (s.reg 1).x n;have hyb:=Fz Xz.out.mem (s.reg 2) (s.reg 2).x n;have hxl:(D7 fx s (s.reg 1) (s.reg 1).x n).length = n:=HM.out.Xh (s.reg 1) ((F8 Xz.out.regs 1).ptr hk1) Xz.out.mem n hin1;have hyl:(D7 fx s (s.reg 2) (s.reg 2).x n).length = n:=HM.out.Xh (s.reg 2) ((F8 Xz.out.regs 2).ptr hk2) Xz.out.mem n hin2;obtain ⟨X,hX⟩:∃ X,X6 (D7 fx s (s.reg 1) (s.reg 1).x n) (D7 fx s (s.reg 2) (s.reg 2).x n) = X:=⟨_,rfl⟩;have HB1:=hid (fun (w':World) (hM':MS base w0 fx s bx v w')=>(Py Xz.out 1 (by decide) n hk1 hin1 w' hM':Calls prog 84 #[.pointer (some ⟨bx,0,none⟩),.int .i64 1,.int .i64 n] w' (oh w' (D7 fx s (s.reg 1) (s.reg 1).x n))));have HB2:=hid (fun (w':World) (hM':MS base w0 fx s bx v w')=>(Py Xz.out 2 (by decide) n hk2 hin2 w' hM':Calls prog 84 #[.pointer (some ⟨bx,0,none⟩),.int .i64 2,.int .i64 n] w' (oh w' (D7 fx s (s.reg 2) (s.reg 2).x n))))
         have e:D = ⟨0,0,O8 s ⟨1,0,0,X⟩⟩:=by
          rw [e,<- hX,<- hn];rfl
         have U0:=hid e;clear e hk1 hin1 hk2 hin2 hz;generalize D7 fx s (s.reg 1) (s.reg 1).x n = xs at hxb hxl hX HB1;generalize D7 fx s (s.reg 2) (s.reg 2).x n = ys at hyb hyl hX HB2
         have qp:=hid (fun (r:Int) (w':World) (hr:r = 1\/r = 2) (hS:w'.cell? ⟨tb,1,none⟩ = some (.int .i64 n)/\w'.cell? ⟨tb,2,none⟩ = some (.int .i64 n)/\KW w bx tb q9 (Aw s v) [.int .i64 0,.int .i64 n,.int .i64 n,.int .i64 0,.int .i64 0,.int .i64 0] w')=>(by
          have hM':=HM.out.same hS.2.2.mod hS.2.2.Ar
          rcases hr with rfl | rfl
          ·refine (HB1.out w' hM').mono ?_;rintro e wB ⟨vC,rfl,hown,hb⟩;have hH:=Dq hown hxb rfl;rw [hxl] at hown;obtain ⟨aC,kC,rfl⟩:=Ai hown;exact ⟨aC,kC,rfl,hH,hb⟩
          ·refine (HB2.out w' hM').mono ?_;rintro e wB ⟨vC,rfl,hown,hb⟩;have hH:=Dq hown hyb rfl;rw [hyl] at hown;obtain ⟨aC,kC,rfl⟩:=Ai hown;exact ⟨aC,kC,rfl,hH,hb⟩:Calls prog 84 #[.pointer (some ⟨bx,0,none⟩),.int .i64 r,.int .i64 n] w' fun e w''=>∃ aC kC,e = .returned (.slice aC n kC)/\Held w'' (.slice aC n kC) (if r = 1 then xs else ys)/\Below w'.heap.size w' w''))
         have HXX:=hid hX;clear hxb hxl hyb hyl hX hn hn2 HB1 HB2;have hks:=(HKW.out.next (Below.refl _ _).drew).k;go_upto_region 23 with fail
         go_region_held3 (fun w'=>w'.cell? ⟨tb,1,none⟩ = some (.int .i64 n)/\w'.cell? ⟨tb,2,none⟩ = some (.int .i64 n)/\KW w bx tb q9 (Aw s v) [.int .i64 0,.int .i64 n,.int .i64 n,.int .i64 0,.int .i64 0,.int .i64 0] w')
          (first
            | with_reducible assumption
            | with_reducible exact KW.n (by with_reducible assumption) hbN
            | with_reducible exact KW.s (by with_reducible assumption) _
            | fail "none")
          (first
            | (go_at_call 84;go_loud (refine (qp.out _ _ (by decide) (by with_reducible assumption)).mono ?_);rintro e wB ⟨aC,kC,rfl,hH,hbN⟩;(first | (have hHo:=Held.below (by with_reducible assumption) hbN nl) | skip);have hSN:=KW.n (by with_reducible assumption) hbN)
            | (go_at_call 85;go_loud (refine (Atb _ _ _ _ _ (by with_reducible assumption) (by with_reducible assumption)).mono ?_);rintro e wD ⟨rfl,rfl⟩;rw [if_pos trivial,if_neg (by decide),HXX.out];obtain ⟨⟨g,hg⟩,hfz⟩:=hSN.2.2.cells;have hqB:=hSN.2.2.q.elim (fun X hX=>hX.lt);have hSD:=hSN))
         rename_i C9;go_wp2_with fail;go_meet
         case rel=>
          obtain ⟨f1,f2,f3,f4⟩:=KW.fin HM.out hSD.2.2 X;exact ⟨s,1,0,0,X,v,U0.out,f1,f2,f3,fun _ _=>rfl,f4⟩
        ·have e:=HE.out;rw [if_neg (by show ¬ (5:Int) = 1;decide)] at e;rw [if_neg (by show ¬ (5:Int) = 2;decide)] at e;rw [if_neg (by show ¬ (5:Int) = 3;decide)] at e;rw [if_neg (by show ¬ (5:Int) = 4;decide)] at e;rw [if_pos (by show (5:Int) = 5;rfl)] at e;obtain ⟨n,hn,hn2,hk1,hin1⟩:=Ak7 (id:=5) (by decide) Vu.out
         have hz:O9 sz = [.int .i64 0,.int .i64 n,.int .i64 0,.int .i64 0,.int .i64 0,.int .i64 0]:=by
          rw [Xy.out Vu.out,szA (Vb 5) _ true false rfl rfl rfl rfl rfl,show (s.reg (Yt 5 + 1:Nat)).x = n from hn];rfl
         have hKW:=(KW.mk Na.out.fm.mod HMR.out Na.out.box ⟨_,HQ.out.1⟩ HBQ.out Yj.out HQ.out.2 Na.out.lt:KW w bx tb q9 (Aw s v) (O9 sz) w5);rw [hz] at hKW;have HKW:=hid hKW;have htl:=hKW.box.lt;have t1:=hKW.k.1;have t2:=hKW.k.2.1;clear hKW;have hxb:=Fz Xz.out.mem (s.reg 1) (s.reg 1).x n;have hxl:(D7 fx s (s.reg 1) (s.reg 1).x n).length = n:=HM.out.Xh (s.reg 1) ((F8 Xz.out.regs 1).ptr hk1) Xz.out.mem n hin1;obtain ⟨X,hX⟩:∃ X,Lr (D7 fx s (s.reg 1) (s.reg 1).x n) (x3 % 256) = X:=⟨_,rfl⟩;have qp:=hid (fun (w':World) (hb:Below w5.heap.size w5 w')=>(Py Xz.out 1 (by decide) n hk1 hin1 w' (Xi.out.next hb):Calls prog 84 #[.pointer (some ⟨bx,0,none⟩),.int .i64 1,.int .i64 n] w' (oh w' (D7 fx s (s.reg 1) (s.reg 1).x n))))
         have e:D = ⟨0,0,O8 s ⟨1,0,0,X⟩⟩:=by
          rw [e,<- hX,<- HX.out.2.2,<- hn];rfl
         have U0:=hid e;clear e hk1 hin1 hz;generalize D7 fx s (s.reg 1) (s.reg 1).x n = xs at hxb hxl hX qp;have HXS:=hid (And.intro hxb (And.intro hxl (And.intro hX hn2)));have Ayu:xs.length <= 281474976710656:=by omega
         clear hxb hxl hX hn hn2
         go_wp2_with (first
          | (go_at_call 84;go_loud (refine (qp.out _ (Below.refl _ _)).mono ?_;rintro e wB ⟨vC,rfl,hown,hbB⟩;obtain ⟨aC,kC,rfl⟩:=Ai hown;have hH:=Dq hown HXS.out.1 rfl;obtain ⟨⟨g,hg⟩,hfz⟩:=(HKW.out.next hbB).cells;have hqB:=(HQ.out.1.below hbB HQ.out.1.lt).lt))
          | (go_at_call 86;go_loud (refine (Atc _ xs _ _ hH).mono ?_;rintro e wS ⟨rfl,rfl⟩;rw [HXS.out.2.2.1])))
         go_meet
         case rel=>
          obtain ⟨f1,f2,f3,f4⟩:=KW.fin HM.out (HKW.out.next hbB) X;exact ⟨s,1,0,0,X,v,U0.out,f1,f2,f3,fun _ _=>rfl,f4⟩
        ·have e:=HE.out;rw [if_neg (by show ¬ (6:Int) = 1;decide),if_neg (by show ¬ (6:Int) = 2;decide),if_neg (by show ¬ (6:Int) = 3;decide),if_neg (by show ¬ (6:Int) = 4;decide),if_neg (by show ¬ (6:Int) = 5;decide),if_pos (by show (6:Int) = 6;rfl)] at e;obtain ⟨n,hn⟩:∃ n,n = s.sent.length:=⟨_,rfl⟩;have hown:=Xi.out.Jo.1;rw [<- hn] at hown e;obtain ⟨sa,sc,hsv⟩:=Ai hown;have htl:=Xi.out.tail.1;rw [hsv] at htl hown;have Ayv:=Xi.out.box.lt;have hfz:=HMR.out.free 467;have U0:=hid e;have HOW:=hid hown;have HN:=hid (And.intro hn (And.intro hsv Xz.out.sent.1));obtain ⟨i0,hi0,hz0,hz1,hz2⟩:=info_parts (show (prog.info? 3).map (fun i=>(i.zero,i.size,i.bytes)) = some (some (.int .i64 0),1,8) by kernel_rfl)
         by_cases h64:64 <= n
         ·have q64:decide (64 <= (n:Int)) = true:=by simp;omega
          have H64:=hid h64;clear e hn hsv hown h64;go_wp2_with fail;go_meet
          case rel=>
           have hmd:=Na.out.fm.mod.new HQ.out.2 3 (.int .i64 (-1));exact ⟨s,1,0,0,-1,v,by rw [U0.out,if_pos H64.out];rfl,HM.out.same hmd (HMR.out.other _ _ HBQ.out),HQ.out.1.put 3 (.int .i64 (-1)),Jd.Eu hmd HM.out.rb,fun _ _=>rfl,hmd.size⟩
         ·have q64:decide (64 <= (n:Int)) = false:=by simp;omega
          have H64:=hid h64;have Lp:n + 1 <= maxLen:=by unfold maxLen;omega
          have hm4:(n + 1) * 8 <= 140737488355328:=by omega
          have hbs:base <= (w5.alloc (.cells #[.int .i64 x1] 3)).heap.size:=by have:=Xi.out.le;simp;omega
          clear e hn hsv hown h64;go_wp2_with (at_builtin;go_loud (refine wpList_append_lies _ rfl (.tmp 140) (.tmp 142) 50 rfl base 3 i0 (.int .i64 0) 1 8 underlying50 hi0 hz0 hz1 hz2 rfl (by decide) (.slice sa n sc) n _ rfl (HOW.out.alloc _) ⟨w5.heap.size,0,none⟩ 1 1 [.int .i64 x1] rfl rfl (cell_one_new w5 (.int .i64 x1) 3) (by simp [Value.oneCell']) (by decide) Lp hm4 hbs _ rfl ?_;intro g cap w6 hown6 hgrow hat An3;have hsb:∀ g',(Value.slice sa n sc).ownBlock = some g'->g' < w.heap.size/\v.ρ g' = 7:=(fun g' hg'=>⟨(HM.out.Jo.1.lt g' (by rw [HN.out.2.1];exact hg')).2,HM.out.Jo.2 g' (by rw [HN.out.2.1];exact hg')⟩);have hne:some bx ≠ (Value.slice sa n sc).ownBlock:=(fun hc=>by have h7:=(hsb bx hc.symm).2;rw [HM.out.rb] at h7;cases h7);have A2d:w6.cell? ⟨bx,467,none⟩ = some (.slice sa n sc):=(hgrow.cell_far ⟨bx,467,none⟩ (by simp;omega) hne).trans (((Ae w5 _).cell (p:=⟨bx,467,none⟩) Ayv).trans htl);have A2e:w6.frozen? ⟨bx,467,none⟩ = false:=(hgrow.frozen_far ⟨bx,467,none⟩ (by simp;omega) hne).trans ((HMR.out.alloc _).free 467)));go_meet
          case rel=>
           have hS:=(Xi.out.next (Ae w5 (.cells #[.int .i64 x1] 3))).seven
           have ho:w6.ownsRow base 3 1 (.slice (some ⟨g,0,none⟩) (n + 1) cap) (s.sent ++ [x1]).length (Jb (s.sent ++ [x1])):=by
            have e1:(s.sent ++ [x1]).length = n + 1:=by rw [List.length_append,<- HN.out.1];rfl
            have e2:Jb (s.sent ++ [x1]) = Jb s.sent ++ [.int .i64 x1]:=by unfold Jb;rw [List.map_append];rfl
            rw [e1,e2];exact hown6
           have A0f:(w5.alloc (.cells #[.int .i64 x1] 3)).grownBy w6 (v7 v (w5.alloc (.cells #[.int .i64 x1] 3))).sv.ownBlock:=by
            show World.grownBy _ _ v.sv.ownBlock;rw [HN.out.2.1];exact hgrow
           have hrr:∀ g',(Value.slice (some ⟨g,0,none⟩) (n + 1) cap).ownBlock = some g'->(v7 v (w5.alloc (.cells #[.int .i64 x1] 3))).ρ g' = 7:=fun g' hg'=>by
            obtain rfl:g = g':=by simpa [Value.ownBlock] using hg'
            rcases hat with hat | hat
            ·have h7:=hsb g hat;rw [Aa2 g (by have:=Na.out.fm.mod.size;simp;omega)];exact h7.2
            ·exact Anv (by rw [hat];exact Nat.le_refl _)
           have hA:=hS.At9 (sent':=s.sent ++ [x1]) (nv:=.slice (some ⟨g,0,none⟩) (n + 1) cap) ho A0f hrr;have hmz:=Na.out.fm.mod.size;refine ⟨{ s with sent:=s.sent ++ [x1] },1,0,0,0,_,by rw [U0.out,if_neg H64.out,HX.out.1];rfl,hA,?_,fun q hq h9=>?_,fun q hq=>Aa2 q (by simp;omega),?_⟩
           ·have hqr:=(HQ.out.1.alloc (.cells #[.int .i64 x1] 3))
            have hq6:Row w6 q9 57 [.int .i64 1,.int .i64 0,.int .i64 0,.int .i64 0]:=by
             have hl:=hqr.lt;unfold Row at hqr ⊢;rw [hgrow.block q9 hl (fun hc=>by have:=(hsb q9 hc.symm).1;have:=HQ.out.2;omega)];exact hqr
            exact hq6.other _ _ (Ne.symm HBQ.out)
           ·rw [Below.heap_setCell _ _ _ _ (by show q ≠ bx;intro hc;rw [hc,HM.out.rb] at h9;unfold Qs at h9;omega),hgrow.block q (by simp;omega) (fun hc=>by have h7:=(hsb q hc.symm).2;rw [h7] at h9;unfold Qs at h9;omega),(Ae w5 _).block q (by omega)];exact Jd.Eu Na.out.fm.mod HM.out.rb q hq h9
           ·rw [World.size_setCell];have:=hgrow.size;simp at this;omega
        ·have e:=HE.out;rw [if_neg (by show ¬ (7:Int) = 1;decide)] at e;rw [if_neg (by show ¬ (7:Int) = 2;decide)] at e;rw [if_neg (by show ¬ (7:Int) = 3;decide)] at e;rw [if_neg (by show ¬ (7:Int) = 4;decide)] at e;rw [if_neg (by show ¬ (7:Int) = 5;decide)] at e;rw [if_neg (by show ¬ (7:Int) = 6;decide)] at e;rw [if_pos (by show (7:Int) = 7;rfl),HX.out.1,HX.out.2.1] at e;obtain ⟨za,zc,hzv⟩:=Ai Xi.out.L9.1;have h3':=Xi.out.heads.2.2.2.1;have hsa:=fun k hk=>Xi.out.Aik k hk;rw [hzv] at h3' hsa;obtain ⟨T,hT⟩:∃ T,fx.tabs.length = T:=⟨_,rfl⟩;rw [hT] at h3' e hsa;have Ayv:=Xi.out.box.lt;have HTL:=hid hT;clear hT hzv
         cases q0:decide (x1 < 0) with
         | true =>
           rw [if_pos (Or.inl (by simpa using q0))] at e;have U0:=hid e;clear e hsa;go_wp2_with fail;exact bodyPost_ret (v:=.tuple #[.int .i64 0,.int .i64 87]) (by simp [results,results60,go_sem]) rfl ⟨by rw [U0.out];rfl,v,by rw [U0.out];exact Xi.out,Jd.Eu Na.out.fm.mod HM.out.rb,fun _ _=>rfl⟩
         | false =>
           cases q1:decide ((T:Int) <= x1) with
           | true =>
             rw [if_pos (Or.inr (by simpa using q1))] at e;have U0:=hid e;clear e hsa;go_wp2_with fail;exact bodyPost_ret (v:=.tuple #[.int .i64 0,.int .i64 87]) (by simp [results,results60,go_sem]) rfl ⟨by rw [U0.out];rfl,v,by rw [U0.out];exact Xi.out,Jd.Eu Na.out.fm.mod HM.out.rb,fun _ _=>rfl⟩
           | false =>
             have g0:¬ x1 < 0:=by simpa using q0
             have g1:x1 < (T:Int):=by simpa using q1
             rw [if_neg (by omega)] at e;obtain ⟨a,rfl⟩:∃ a:Nat,x1 = a:=⟨x1.toNat,by omega⟩;obtain ⟨g,c,hzz,hgl,hc1,_⟩:=hsa a (by omega);injection hzz with z1 z2 z3;subst z1 z3;rw [Int.toNat_natCast] at e;obtain ⟨R,hR⟩:∃ R,(fx.tabs.getD a (0,0)).1 = R:=⟨_,rfl⟩;rw [hR] at hc1 e;have hi1:(0:Int) <= (a:Int):=Int.natCast_nonneg _;have HG1:=hid g1;clear hsa z2 hR g0
             cases q2:decide (0 <= x2) with
             | false =>
               rw [if_neg (by have : ¬ 0 ≤ x2 := by simpa using q2
                              omega)] at e
               have U0:=hid e;clear e;go_wp2_with fail;go_meet
               case rel=>exact ⟨s,1,0,0,0,v,U0.out,Xi.out,HQ.out.1,Jd.Eu Na.out.fm.mod HM.out.rb,fun _ _=>rfl,Na.out.fm.mod.size⟩
             | true =>
               cases q3:decide (x2 < R) with
               | false =>
                 rw [if_neg (by have : ¬ x2 < R := by simpa using q3
                                omega)] at e
                 have U0:=hid e;clear e;go_wp2_with fail;go_meet
                 case rel=>exact ⟨s,1,0,0,0,v,U0.out,Xi.out,HQ.out.1,Jd.Eu Na.out.fm.mod HM.out.rb,fun _ _=>rfl,Na.out.fm.mod.size⟩
               | true =>
                 rw [if_pos ⟨by simpa using q2,by simpa using q3⟩] at e;have U0:=hid e;clear e;have hqB:=HQ.out.1.lt;go_wp2_with fail;go_meet
                 case rel=>
                  have hmd:=(((Na.out.fm.mod.new HQ.out.2 0 (.int .i64 5)).new HQ.out.2 1 (.int .i64 a)).new HQ.out.2 2 (.int .i64 x2)).new HQ.out.2 3 (.int .i64 0);have hmr:=(((HMR.out.other ⟨q9,0,none⟩ (.int .i64 5) HBQ.out).other ⟨q9,1,none⟩ (.int .i64 a) HBQ.out).other ⟨q9,2,none⟩ (.int .i64 x2) HBQ.out).other ⟨q9,3,none⟩ (.int .i64 0) HBQ.out;exact ⟨s,5,a,x2,0,v,U0.out,HM.out.same hmd hmr,HQ.out.1.Wi _ _ _ _,Jd.Eu hmd HM.out.rb,fun _ _=>rfl,hmd.size⟩
        ·have e:=HE.out;rw [if_neg (by show ¬ (8:Int) = 1;decide)] at e;rw [if_neg (by show ¬ (8:Int) = 2;decide)] at e;rw [if_neg (by show ¬ (8:Int) = 3;decide)] at e;rw [if_neg (by show ¬ (8:Int) = 4;decide)] at e;rw [if_neg (by show ¬ (8:Int) = 5;decide)] at e;rw [if_neg (by show ¬ (8:Int) = 6;decide)] at e;rw [if_neg (by show ¬ (8:Int) = 7;decide)] at e;obtain ⟨X,hX⟩:∃ X,wrap64 ((Avx (un x1) (un x2):Nat):Int) = X:=⟨_,rfl⟩
         have e:D = ⟨0,0,O8 s ⟨1,0,0,X⟩⟩:=by
          rw [e,<- hX,<- HX.out.1,<- HX.out.2.1];rfl
         have U0:=hid e;have HMX:=hid (fun (w':World)=>(by have h:=Avy x1 x2 w';rw [hX] at h;exact h:Calls prog 87 #[.int .i64 x1,.int .i64 x2] w' fun e w''=>e = .returned (.int .i64 X)/\w' = w''));have HKW:=hid (KW.mk Na.out.fm.mod HMR.out Na.out.box ⟨_,HQ.out.1⟩ HBQ.out Yj.out HQ.out.2 Na.out.lt:KW w bx tb q9 (Aw s v) (O9 sz) w5);have hqB:=HQ.out.1.lt;clear e hX;go_wp2_with (go_at_call 87;go_loud (refine (HMX.out _).mono ?_;rintro e wS ⟨rfl,rfl⟩));go_meet
         case rel=>
          obtain ⟨f1,f2,f3,f4⟩:=KW.fin HM.out HKW.out X;exact ⟨s,1,0,0,X,v,U0.out,f1,f2,f3,fun _ _=>rfl,f4⟩
       case rest=>
        obtain ⟨S1,k,t,o,x,v1,hDD,hMS,hq9,hfr,hro,hsz⟩:=hcut;have HDE:=hid hDD;have HM1:=hid hMS;have HFR:=hid (And.intro hfr (And.intro hro hsz));obtain ⟨w6,rfl⟩:∃ w6,w6 = wc:=⟨_,rfl⟩;obtain ⟨⟨v0,v1',v2,v3⟩,_⟩:=hq9.four;obtain ⟨_,_,_,_,⟨_,_,_,_⟩,_,_,_,_⟩:=hMS.Ayp;have hlt:=hMS.box.lt;have A0g:=hq9.lt;clear hDD hMS hq9 hfr hro hsz c0 c1 c2 c3 c4 c5 c6 c7 Na HQ;go_upto_region 37 with fail
        go_cut [] from 184 to 188 (fun wx=>MS base w0 fx (S1.Hw 0 ⟨k,t,o,x⟩) bx v1 wx/\Mod w6 wx bx)
        case first=>
         go_region
         go_wp2_with fail;go_meet
         case rel=>
          first
           | exact ⟨(HM1.out.Avn k t o x).next (Below.refl _ _).drew,(((((Mod.refl w6 bx).set _ _).set _ _).set _ _).set _ _).below (Below.refl _ _).drew⟩
           | exact ⟨(HM1.out.next (Below.refl _ _).drew).Avn k t o x,(((((Mod.refl w6 bx).below (Below.refl _ _).drew).set _ _).set _ _).set _ _).set _ _⟩
        case rest=>
         obtain ⟨hMS,hmod⟩:=hcut;have HM2:=hid hMS;have A0h:=hid hmod;clear hMS hmod v0 v1' v2 v3 hlt A0g;go_wp2_with fail
         go_loopg [15] 5 (fun gh s15 wr=>∃ j:Nat,1 <= j/\j <= 6/\gh = 6 - j/\s15 = .int .i64 j/\MS base w0 fx (clr (S1.Hw 0 ⟨k,t,o,x⟩) (j - 1)) bx v1 wr/\Mod w6 wr bx)
         case atStart=>exact ⟨1,by decide,by decide,rfl,rfl,HM2.out,A0h.out⟩
         case round=>
          obtain ⟨j,hj1,hj6,rfl,rfl,hMS,hmod⟩:=hrel;have Ru:=hid hMS;have HMD:=hid hmod
          by_cases hj5:j <= 5
          ·have hjj:decide ((j:Int) <= 5) = true:=by simp;omega
           obtain ⟨_,_,_,_,⟨_,_,_,_⟩,_,_,_,_⟩:=hMS.Avo j (by omega);have hlt:=hMS.box.lt;obtain ⟨dj,hdj⟩:∃ dj,j + 1 = dj:=⟨_,rfl⟩;have hjd:(j:Int) + 1 = (dj:Int):=by omega
           have hwj:wrap64 (dj:Int) = (dj:Int):=by unfold wrap64;omega
           have hja:(0:Int) <= (j:Int):=Int.natCast_nonneg _;have hjb:(j:Int) < 11:=by omega
           have HJ:=hid (And.intro hdj (And.intro hj1 hj5));clear hMS hmod hdj hj1 hj6 hj5;go_wp2_with fail
           go_roundg (6 - dj)
           case measure=>have:=HJ.out;omega
           case rel=>
            have h:=Ru.out.Avm j (by have:=HJ.out;omega) I4
            have hc:(clr (S1.Hw 0 ⟨k,t,o,x⟩) (j - 1)).Hw (j:Int) I4 = clr (S1.Hw 0 ⟨k,t,o,x⟩) (dj - 1):=by
             obtain ⟨h1,h2,_⟩:=HJ.out;rw [show dj - 1 = (j - 1) + 1 by omega];show _ = (clr (S1.Hw 0 ⟨k,t,o,x⟩) (j - 1)).Hw (((j - 1) + 1:Nat):Int) I4;rw [show (j - 1) + 1 = j by omega]
            rw [hc] at h;exact ⟨dj,by have:=HJ.out;omega,by have:=HJ.out;omega,rfl,by first | rfl | exact congrArg (Value.int .i64) hwj,h,(((HMD.out.set _ _).set _ _).set _ _).set _ _⟩
          ·have hjj:decide ((j:Int) <= 5) = false:=by simp;omega
           have HJ:=hid (show j = 6 by omega);clear hMS hmod hj1 hj6 hj5;go_wp2_with fail;have hend:O8 S1 ⟨k,t,o,x⟩ = clr (S1.Hw 0 ⟨k,t,o,x⟩) (j - 1):=by rw [HJ.out];exact Arl S1 _ HM1.out.Oj
           exact bodyPost_ret (v:=.tuple #[.int .i64 0,.int .i64 0]) (by simp [results,results60,go_sem]) rfl ⟨by rw [HDE.out],v1,by rw [HDE.out,hend];exact Ru.out,fun q hq h9=>(HMD.out.block q (Nat.lt_of_lt_of_le hq HFR.out.2.2) (fun hc=>by rw [hc] at h9;have h0:=HM.out.rb;unfold Qs at h9;omega)).trans (HFR.out.1 q hq h9),HFR.out.2.1⟩
end
end Go.Proofs.YtjacnhnaoenelaaGreat
