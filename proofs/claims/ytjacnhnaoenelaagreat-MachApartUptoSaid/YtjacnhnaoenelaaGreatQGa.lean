import Derived.Test.YtjacnhnaoenelaaGreatQGa1
import Derived.Test.YtjacnhnaoenelaaGreatQMachAW
import Derived.Test.YtjacnhnaoenelaaGreatQMachAR
set_option maxRecDepth 100000
set_option maxHeartbeats 16000000
namespace Go.Proofs.YtjacnhnaoenelaaGreat
open Lib (hid)
open Go.Proofs.Tryz
open Go.RowKit
set_option linter.unusedVariables false
set_option linter.unusedSimpArgs false
theorem Aoe {Aa:Int} (h:Hu Aa = true):Kinds Aa:=by
 unfold Hu Du at h;unfold Kinds;simp at h;omega
theorem Aof {fx:Ak} {s:Mst} (h:Good fx s) (i:Ins) (hi:Me fx i) (hop:i.op = 25):DoR (D8 i.op) fx s i (Mc fx s i).by' (Mc fx s i).er (Mc fx s i).s:=by
 have hF:D8 i.op = 57:=by
  unfold D8;rw [if_neg (by omega),if_neg (by omega),if_neg (by omega),if_neg (by omega),if_neg (by omega),if_pos hop]
 rw [hF]
 have hby:(Mc fx s i).by' = 0:=by
  unfold Mc;dsimp only;repeat' split
  all_goals rfl
 rw [hby];intro base w0 bx v w hM;obtain ⟨d,hd⟩:∃ d:Nat,i.dst = d:=⟨i.dst.toNat,by have:=hi.dst;omega⟩;obtain ⟨r,hr⟩:∃ r:Nat,i.src = r:=⟨i.src.toNat,by have:=hi.src;omega⟩;have hd1:=hi.dst;have hr1:=hi.src;obtain ⟨hsz,hat⟩:=hi.atom hop;have hk:=Aoe hat;have hoff:=hi.off;obtain ⟨op,Ad,reg,size,dst,src,off,Aa⟩:=i;simp only at hd hr hd1 hr1 hsz hoff hop hk;subst hd hr;have hg:∀ n:Nat,n < 11->s.rg[n]? = some (s.reg n):=fun n hn=>by rw [s.Ir n (by have:=h.regs.1;omega)];exact List.getElem?_eq_getElem _
 exact Aod op Ad reg size off Aa d r (by omega) (by omega) (s.reg d).k (s.reg d).t (s.reg d).o (s.reg d).x (s.reg r).k (s.reg r).t (s.reg r).o (s.reg r).x (s.reg 0).k (s.reg 0).t (s.reg 0).o (s.reg 0).x
  (hg d (by omega)) (hg r (by omega)) (hg 0 (by decide)) (F8 h.regs 0).x hk (F8 h.regs d).ptr h.mem (by omega) hoff w hM
theorem Aog {fx:Ak} {s:Mst} {i:Ins} (h:i.op = 38):Ij fx s i = J3 fx s i:=by
 unfold Ij;rw [if_neg (by omega),if_neg (by omega),if_neg (by omega),if_neg (by omega),if_neg (by omega),if_neg (by omega),if_neg (by omega),if_neg (by omega),if_pos h]
theorem Arq (op:Int) (Ad reg:Bool) (size dst src off Aa:Int) (hbad:Aa < 1\/8 < Aa) (bx:Nat) (cs:List Value) (w:World) (h:Row w bx 87 cs) :
 Calls prog 60 #[.pointer (some ⟨bx,0,none⟩),.agg #[.int .i64 op,.bool Ad,.bool reg,.int .i64 size,.int .i64 dst,.int .i64 src,.int .i64 off,.int .i64 Aa]] w (Wrote w bx cs 0 87):=by
 have HF:=hid (FM.begin h op Ad reg size dst src off Aa);have HL:=hid (Agu Aa hbad);clear h hbad;go_enter func60,ntmps60;go_upto_region 1 with fail;generalize World.alloc _ _ = w1 at HF ⊢;obtain ⟨c0,c1,c2,c3,c4,c5,c6,c7⟩:=HF.out.cells;go_wp2_with (go_at_call 81;go_loud (refine (Apz Aa HL.out _).mono ?_;rintro e wS ⟨rfl,hbS⟩));have hF:=(HF.out.next hbS).next (Ae wS (.cells #[.slice none 0 0,.int .i64 0,.int .i64 0,.bool false,.bool false] 124));exact bodyPost_ret (v:=.tuple #[.int .i64 0,.int .i64 87]) (by simp [results,results60,go_sem]) rfl ⟨rfl,hF.mod,hF.Ar⟩
theorem Arr {fx:Ak} {s:Mst} (h:Good fx s) (i:Ins) (hop:i.op = 38):DoR (D8 i.op) fx s i (J3 fx s i).by' (J3 fx s i).er (J3 fx s i).s:=by
 have hF:D8 i.op = 60:=by
  unfold D8;rw [if_neg (by omega),if_neg (by omega),if_neg (by omega),if_neg (by omega),if_neg (by omega),if_neg (by omega),if_neg (by omega),if_neg (by omega),if_pos hop]
 rw [hF,Ak0];obtain ⟨op,Ad,reg,size,dst,src,off,Aa⟩:=i
 by_cases hb:Aa < 1\/8 < Aa
 ·have e : J3 fx s ⟨op, Ad, reg, size, dst, src, off, Aa⟩ = Jq s 87 := by
   unfold J3;rw [if_pos (show (Ins.mk op Ad reg size dst src off Aa).Aa < 1\/8 < (Ins.mk op Ad reg size dst src off Aa).Aa from hb)]
  rw [e];exact Qu fun bx cs w hl hr hl2 hw=>Arq op Ad reg size dst src off Aa hb bx cs w hw
 ·intro base w0 bx v w hM;exact Aoa op Ad reg size dst src off Aa (by omega) h w hM
theorem Aad (Ad reg:Bool) (size src off Aa:Int) (d:Nat) (hd:d < 11) (bx:Nat) (cs:List Value) (w:World) (hl:cs.length = 471) (h:Row w bx 87 cs) :
 Calls prog 54 #[.pointer (some ⟨bx,0,none⟩),.agg #[.int .i64 21,.bool Ad,.bool reg,.int .i64 size,.int .i64 d,.int .i64 src,.int .i64 off,.int .i64 Aa]] w (Wrote w bx (D9 cs (423 + d * 4) (.int .i64 4) (.int .i64 0) (.int .i64 0) (.int .i64 Aa)) 0 0):=by
 have hj1:(0:Int) <= (d:Int):=by omega
 have hj2:(d:Int) < 11:=by omega
 have HF:=hid (FM.begin h 21 Ad reg size d src off Aa);clear h;go_enter func54,ntmps54;go_upto_region 1 with fail;generalize World.alloc _ _ = w1 at HF ⊢;have hks:=(show FX w bx w.heap.size 21 Ad reg size d src off Aa w1 from ⟨_,HF.out,hl⟩).next (Below.refl _ _).drew;replace hks:=hks.k47
 go_region_held3 (fun w'=>w'.cell? ⟨w.heap.size,4,none⟩ = some (.int .i64 d)/\w'.cell? ⟨w.heap.size,7,none⟩ = some (.int .i64 Aa)/\FX w bx w.heap.size 21 Ad reg size d src off Aa w')
  (first | assumption | exact FX.n47 (by assumption) hb | exact (FX.D9 (FX.n47 (by assumption) hb).2.2 _ _ _ _ _).k47 | exact (FX.D9 (by assumption) _ _ _ _ _).k47)
  (first
    | (go_at_call 35;refine (Gh _ _).mono ?_;rintro e w' ⟨rfl,hb⟩;have hFc:=HF.out.drew.next hb;obtain ⟨_,_,_,_,⟨_,_,_,_⟩,_,_,_,_⟩:=hFc.row4 hl d hd))
 rename_i C9;have HF2:=hid (hFc.D9 (423 + d * 4) (.int .i64 1) (.int .i64 0) (.int .i64 0) (.int .i64 Aa));clear C9 hks hFc;generalize World.setCell _ _ _ = w2 at HF2 ⊢;obtain ⟨c0,c1,c2,c3,c4,c5,c6,c7⟩:=HF2.out.cells;have hl2:(D9 cs (423 + d * 4) (.int .i64 1) (.int .i64 0) (.int .i64 0) (.int .i64 Aa)).length = 471:=by unfold D9;simp [hl]
 go_upto_region 3 with fail;obtain ⟨_,_,_,_,⟨_,_,_,_⟩,_,_,_,_⟩:=HF2.out.row4 hl2 d hd;have hlt:=HF2.out.Ar.lt
 go_region
 go_wp2;have hF3:=(HF2.out.drew).set (423 + d * 4) (.int .i64 4)
 have e:((((cs.set (423 + d * 4) (.int .i64 1)).set (423 + d * 4 + 1) (.int .i64 0)).set (423 + d * 4 + 2) (.int .i64 0)).set (423 + d * 4 + 3) (.int .i64 Aa)).set (423 + d * 4) (.int .i64 4) = D9 cs (423 + d * 4) (.int .i64 4) (.int .i64 0) (.int .i64 0) (.int .i64 Aa):=by
  unfold D9;rw [List.set_comm _ _ (show 423 + d * 4 + 3 ≠ 423 + d * 4 by omega),List.set_comm _ _ (show 423 + d * 4 + 2 ≠ 423 + d * 4 by omega),List.set_comm _ _ (show 423 + d * 4 + 1 ≠ 423 + d * 4 by omega),List.set_set]
 first | rw [e] at hF3 | (unfold D9 at hF3;rw [e] at hF3)
 exact bodyPost_ret (v:=.tuple #[.int .i64 0,.int .i64 0]) (by simp [results,results54,go_sem]) rfl ⟨rfl,hF3.mod,hF3.Ar⟩
theorem Ars (fx:Ak) (s:Mst) (i:Ins) (hop:i.op = 21) (hd:0 <= i.dst/\i.dst < 11):DoR (D8 i.op) fx s i (Ti s i).by' (Ti s i).er (Ti s i).s:=by
 obtain ⟨op,Ad,reg,size,dst,src,off,Aa⟩:=i;simp only at hop hd;subst hop;obtain ⟨d,rfl⟩:∃ d:Nat,dst = d:=⟨dst.toNat,by omega⟩;have hd':d < 11:=by omega
 exact l7 d hd' ⟨4,0,0,Aa⟩ fun bx cs w hl hr hl2 h=>Aad Ad reg size src off Aa d hd' bx cs w hl h
theorem Art {fx:Ak} {s:Mst} (h:Good fx s) (i:Ins) (hi:Me fx i) (hop:16 <= i.op/\i.op <= 19):DoR (D8 i.op) fx s i (Px s i).by' (Px s i).er (Px s i).s:=by
 obtain ⟨d,hd⟩:∃ d:Nat,i.dst = d:=⟨i.dst.toNat,by have:=hi.dst;omega⟩;obtain ⟨r,hr⟩:∃ r:Nat,i.src = r:=⟨i.src.toNat,by have:=hi.src;omega⟩;have hd1:=hi.dst;have hr1:=hi.src;obtain ⟨op,Ad,reg,size,dst,src,off,Aa⟩:=i;simp only at hd hr hd1 hr1 hop;subst hd hr;have hd':d < 11:=by omega
 have hr':r < 11:=by omega
 have hg:∀ n:Nat,∀ (hn:n < 11) (hl:s.rg.length = 11),s.rg[n]'(by omega) = s.reg n:=fun n hn hl=>(s.Ir n (by omega)).symm
 by_cases h16:op = 16
 ·subst h16;rw [show D8 16 = 53 from rfl]
  by_cases hk:(s.reg r).k = 1
  ·have e : Px s ⟨16, Ad, reg, size, d, r, off, Aa⟩ = ⟨0, 0, { s with rg := s.rg.set d (nval (Aca size Ad (s.reg r).x)) }⟩ := by
    unfold Px Zg;rw [if_pos (show (Ins.mk 16 Ad reg size d r off Aa).op = 16 from rfl),if_neg (by simpa using hk),if_pos (show (Ins.mk 16 Ad reg size d r off Aa).op = 16 from rfl)];rfl
   rw [e];refine l7 d hd' (nval _) fun bx cs w hl hr hl2 hw=>?_;have hu:=hr r hr' hl2;rw [hg r hr' hl2] at hu;refine (Ak2 Ad reg size off Aa d r hd' hr' bx cs hl _ (s.reg r) (hr d hd' hl2) hu w hw).mono ?_;rintro e w' (⟨_,h⟩ | ⟨h,_⟩)
   ·exact h
   ·exact absurd hk h
  ·have e : Px s ⟨16, Ad, reg, size, d, r, off, Aa⟩ = ⟨0, 80, s⟩ := by
    unfold Px Zg;rw [if_pos (show (Ins.mk 16 Ad reg size d r off Aa).op = 16 from rfl),if_pos (by simpa using hk)];rfl
   rw [e];refine Qu fun bx cs w hl hr hl2 hw=>?_;have hu:=hr r hr' hl2;rw [hg r hr' hl2] at hu;refine (Ak2 Ad reg size off Aa d r hd' hr' bx cs hl _ (s.reg r) (hr d hd' hl2) hu w hw).mono ?_;rintro e w' (⟨h,_⟩ | ⟨_,h⟩)
   ·exact absurd h hk
   ·exact h
 ·rw [show D8 op = 53 by unfold D8;rw [if_neg (by omega),if_pos (by omega)]];have hx:=(F8 h.regs d).x
  by_cases hk:(s.reg d).k = 1
  ·have e : Px s ⟨op, Ad, reg, size, d, r, off, Aa⟩ = ⟨0, 0, { s with rg := s.rg.set d (nval (Il size (op != 17) (s.reg d).x)) }⟩ := by
    unfold Px Zg;rw [if_neg (show ¬ (Ins.mk op Ad reg size d r off Aa).op = 16 from h16),if_neg (by simpa using hk),if_neg (show ¬ (Ins.mk op Ad reg size d r off Aa).op = 16 from h16)];rfl
   rw [e];refine l7 d hd' (nval _) fun bx cs w hl hr hl2 hw=>?_;have hu:=hr d hd' hl2;rw [hg d hd' hl2] at hu;refine (Ak3 op (by omega) Ad reg size r off Aa d hd' bx cs hl (s.reg d) hu hx w hw).mono ?_;rintro e w' (⟨_,h⟩ | ⟨h,_⟩)
   ·exact h
   ·exact absurd hk h
  ·have e : Px s ⟨op, Ad, reg, size, d, r, off, Aa⟩ = ⟨0, 80, s⟩ := by
    unfold Px Zg;rw [if_neg (show ¬ (Ins.mk op Ad reg size d r off Aa).op = 16 from h16),if_pos (by simpa using hk)];rfl
   rw [e];refine Qu fun bx cs w hl hr hl2 hw=>?_;have hu:=hr d hd' hl2;rw [hg d hd' hl2] at hu;refine (Ak3 op (by omega) Ad reg size r off Aa d hd' bx cs hl (s.reg d) hu hx w hw).mono ?_;rintro e w' (⟨h,_⟩ | ⟨_,h⟩)
   ·exact absurd h hk
   ·exact h
theorem Aru {fx:Ak} {s:Mst} (h:Good fx s) (i:Ins) (hi:Me fx i):DoR (D8 i.op) fx s i (Ij fx s i).by' (Ij fx s i).er (Ij fx s i).s:=by
 have ho:=hi.op
 by_cases hk:Known i.op
 ·exact A0e h i hi hk
 by_cases hp:16 <= i.op/\i.op <= 19
 ·have e : Ij fx s i = Px s i := by
   unfold Ij;rw [if_neg (by omega),if_pos (by omega)]
  rw [e];exact Art h i hi hp
 by_cases h21:i.op = 21
 ·have e : Ij fx s i = Ti s i := by
   unfold Ij;rw [if_neg (by omega),if_neg (by omega),if_pos (by omega)]
  rw [e];exact Ars fx s i h21 hi.dst
 by_cases h25:i.op = 25
 ·have e : Ij fx s i = Mc fx s i := by
   unfold Ij;rw [if_neg (by omega),if_neg (by omega),if_neg (by omega),if_neg (by omega),if_neg (by omega),if_pos h25]
  rw [e];exact Aof h i hi h25
 have h38:i.op = 38:=by unfold Known at hk;omega
 rw [Aog h38];exact Arr h i h38
theorem Aup {fx:Ak} {s:Mst} (hG:Good fx s) (ht8:fx.tabs.length <= 8) (i:Ins) (hi:Me fx i) (base:Nat) (w0:World) (bx:Nat) (v:Bc) (w:World) (hM:MS base w0 fx s bx v w) :
 Calls prog 41 #[.pointer (some ⟨bx,0,none⟩),i.agg] w fun e w'=>e = .returned (.int .i64 (if (Ij fx s i).er = 0 then 89 else (Ij fx s i).er))/\Below w.heap.size w w':=by
 exact Aupx hG ht8 i hi (Aru hG i hi) base w0 bx v w hM
theorem Aoi {fx:Ak} {s:Mst} (hG:Good fx s) (ht8:fx.tabs.length <= 8) (k:Nat) (hk:k < fx.code.length) (hat:s.at' = k) (hd:s.done = false) (op:Int) (Ad reg:Bool) (size dst src off Aa:Int) (hi:fx.code[k] = ⟨op,Ad,reg,size,dst,src,off,Aa⟩) (Ay0:Me fx ⟨op,Ad,reg,size,dst,src,off,Aa⟩)
 (hlen:fx.code.length <= 4096) (hno:¬ (26 <= op/\op <= 37)) (h39:op ≠ 39) (hlast:k + 1 = fx.code.length):Wx fx s (if (Ij fx s ⟨op,Ad,reg,size,dst,src,off,Aa⟩).er = 0 then 89 else (Ij fx s ⟨op,Ad,reg,size,dst,src,off,Aa⟩).er) s:=by
 intro base w0 bx v w hM;obtain ⟨h0,h1,h2,h3,h4,h5,h6⟩:=hM.heads;obtain ⟨t0,t1,t2,t3⟩:=hM.tail;obtain ⟨g,c,hcv,hcode⟩:=hM.Ap7 k hk;have Ar0:=fun base w0 bx v w h=>Aup hG ht8 _ Ay0 base w0 bx v w h;rw [hat] at t1;rw [hd] at t3;rw [hcv] at h4;have e0:=hcode 0 (by decide);have e1:=hcode 1 (by decide);have e2:=hcode 2 (by decide);have e3:=hcode 3 (by decide);have e4:=hcode 4 (by decide);have e5:=hcode 5 (by decide);have e6:=hcode 6 (by decide);have e7:=hcode 7 (by decide);simp only [hi,Ins.cs,Ed,List.getElem?_cons_zero,List.getElem?_cons_succ,Nat.add_zero] at e0 e1 e2 e3 e4 e5 e6 e7;obtain ⟨n,hn⟩:∃ n,n = fx.code.length:=⟨_,rfl⟩;rw [<- hn] at h4 hlen hlast;have hj1:(0:Int) <= (k:Int):=by omega
 have hj2:(k:Int) < (n:Int):=by omega
 have hlt:=hM.box.lt;have hlg:=World.block_lt_of_cell? w _ e0;simp only at hlg;obtain ⟨ER,hER⟩:∃ z,(if (Ij fx s ⟨op,Ad,reg,size,dst,src,off,Aa⟩).er = 0 then 89 else (Ij fx s ⟨op,Ad,reg,size,dst,src,off,Aa⟩).er) = z:=⟨_,rfl⟩;rw [hER] at Ar0 ⊢;unfold Ins.agg at Ar0;simp only at Ar0;have HM:=hid hM;have HLS:=hid Ar0;have HN:=hid (And.intro hn (And.intro hlen hlast));have Zr:=hid hno;clear hM hcode hi hn Ar0 hER Ay0 hlen hlast hno hG ht8;go_enter func16,ntmps16;go_upto_region 3 with fail
 go_region
 go_upto_region 4 with fail;have HU:=hid (show SU base w0 fx s bx { v with ρ:=Aj v.ρ w.heap.size 9 } w.heap.size ⟨op,Ad,reg,size,dst,src,off,Aa⟩ w ((w.alloc (.cells #[.int .i64 op,.bool Ad,.bool reg,.int .i64 size,.int .i64 dst,.int .i64 src,.int .i64 off,.int .i64 Aa] 70)).drew) from SU.next ⟨HM.out.Awn _,Row.made w (Ins.cs ⟨op,Ad,reg,size,dst,src,off,Aa⟩) _,by unfold Aj;simp,by simp,fun k hk=>((Below.refl w.heap.size w).alloc nl _).block k hk⟩ (Below.refl _ _).drew);clear h0 h1 h2 h3 h4 h5 h6 t0 t1 t2 t3 e0 e1 e2 e3 e4 e5 e6 e7 hlg hlt;generalize World.drew _ = wA at HU ⊢
 go_cut [4] from 9 (fun s4 wx=>s4 = .bool false/\SU base w0 fx s bx { v with ρ:=Aj v.ρ w.heap.size 9 } w.heap.size ⟨op,Ad,reg,size,dst,src,off,Aa⟩ w wx)
 case first=>
  obtain ⟨c0,_⟩:=HU.out.cells;simp only at c0
  by_cases ha:26 <= op
  ·have ha':=decide_eq_true ha;have hb':decide (op <= 37) = false:=decide_eq_false (fun hb=>Zr.out ⟨ha,hb⟩);go_wp2_with fail;go_meet
   case rel=>exact ⟨rfl,HU.out⟩
  ·have ha':=decide_eq_false ha;go_wp2_with fail;go_meet
   case rel=>exact ⟨rfl,HU.out⟩
 case rest=>
  obtain ⟨rfl,hU⟩:=hcut;have Ze:=hid hU;clear hU HU;go_upto_region 5 with fail
  go_cut [50] from 9 (fun s50 wx=>s50 = .bool true/\SU base w0 fx s bx { v with ρ:=Aj v.ρ w.heap.size 9 } w.heap.size ⟨op,Ad,reg,size,dst,src,off,Aa⟩ w wx)
  case first=>
   obtain ⟨c0,_⟩:=Ze.out.cells;obtain ⟨_,_,_,_,h4,_,_⟩:=Ze.out.ms.heads;obtain ⟨_,t1,_,_⟩:=Ze.out.ms.tail;simp only [hcv,<- HN.out.1] at h4;rw [hat] at t1;simp only at c0;have Ax6:(op != 39) = true:=by simp [h39]
   have hw:wrap64 ((k:Int) + 1) = (n:Int):=by have:=HN.out;unfold wrap64;omega
   go_quiet (fail)
   go_wp2_with fail;go_meet
   case rel=>exact ⟨by first | rfl | simp,Ze.out.next (below_drewN (Below.refl _ _) _)⟩
  case rest=>
   obtain ⟨rfl,hU⟩:=hcut;have HU3:=hid hU;clear hU Ze;obtain ⟨c0,c1,c2,c3,c4,c5,c6,c7⟩:=HU3.out.cells;simp only at c0 c1 c2 c3 c4 c5 c6 c7;go_wp2_with (go_at_call 41;go_loud (refine (HLS.out _ _ _ _ _ HU3.out.ms).mono ?_;rintro e wL ⟨rfl,hbL⟩));exact bodyPost_ret (v:=.int .i64 ER) (by simp [results,results16,go_sem]) rfl ⟨rfl,{ v with ρ:=Aj v.ρ w.heap.size 9 },HU3.out.ms.next hbL,fun q hq _=>(hbL.block q (Nat.lt_of_lt_of_le hq HU3.out.size)).trans (HU3.out.old q hq),Bo⟩
structure J5 (fx:Ak):Prop where
 len:fx.code.length <= 4096
 ins:∀ i ∈ fx.code,Me fx i
 tabs:fx.tabs.length <= 8
theorem Ar1 {fx:Ak} {s:Mst} (hc:J5 fx) (h:Good fx s) (hat:s.at' < fx.code.length) (hd:s.done = false) (hst:0 <= s.steps/\s.steps < 4611686018427387904):Wx fx s (Fq fx s).1 (Fq fx s).2:=by
 have hg:fx.code[s.at']? = some fx.code[s.at']:=List.getElem?_eq_getElem hat;have hi:=hc.ins _ (List.getElem_mem hat)
 by_cases hl:s.at' + 1 = fx.code.length/\¬ (26 <= fx.code[s.at'].op/\fx.code[s.at'].op <= 37)/\fx.code[s.at'].op ≠ 39
 ·obtain ⟨h1,h2,h3⟩:=hl;have hS:=Aoi h hc.tabs s.at' hat rfl hd fx.code[s.at'].op fx.code[s.at'].Ad fx.code[s.at'].reg fx.code[s.at'].size fx.code[s.at'].dst fx.code[s.at'].src fx.code[s.at'].off fx.code[s.at'].Aa rfl hi hc.len h2 h3 h1;have e:fx.code.getD s.at' ⟨0,false,false,0,0,0,0,0⟩ = fx.code[s.at']:=by rw [List.getD_eq_getElem?_getD,hg];rfl
  have hby:(Ij fx s fx.code[s.at']).by' = 0:=Aiv fx s _ (by have:=hi.op;omega)
  have hF:Fq fx s = ((if (Ij fx s fx.code[s.at']).er = 0 then 89 else (Ij fx s fx.code[s.at']).er),s):=by
   unfold Fq;rw [hd,if_neg (by decide)];simp only [e]
   by_cases he:(Ij fx s fx.code[s.at']).er = 0
   ·rw [if_neg (by simpa using he),if_neg h3,if_pos he,hby]
    have hw:Tj fx.code ((Bl fx.code (s.at' + 1):Int) + 0) = none:=by
     cases hq:Tj fx.code ((Bl fx.code (s.at' + 1):Int) + 0) with
     | none=>rfl
     | some j =>
       obtain ⟨j1,j2⟩:=Vs hq;have:=Arn (i:=j) (j:=s.at' + 1) (by rw [j2];omega);omega
    rw [hw]
   ·rw [if_pos (by simpa using he),if_neg he]
  rw [hF];exact hS
 ·refine Aww fx s _ hg hd hc.len ?_ hi.op.2 hst (Auo hi) (Aru h _ hi)
  by_cases h1:s.at' + 1 = fx.code.length
  ·by_cases h2:26 <= fx.code[s.at'].op/\fx.code[s.at'].op <= 37
   ·exact Or.inl h2
   ·by_cases h3:fx.code[s.at'].op = 39
    ·exact Or.inr (Or.inl h3)
    ·exact absurd ⟨h1,h2,h3⟩ hl
  ·exact Or.inr (Or.inr h1)
theorem Acu {fx:Ak} {s:Mst} (hc:J5 fx) (hat:s.at' < fx.code.length):(Fq fx s).2.at' < fx.code.length/\s.steps <= (Fq fx s).2.steps/\(Fq fx s).2.steps <= s.steps + 1:=by
 have hg:fx.code[s.at']? = some fx.code[s.at']:=List.getElem?_eq_getElem hat;have hi:=hc.ins _ (List.getElem_mem hat);have hg':fx.code.getD s.at' ⟨0,false,false,0,0,0,0,0⟩ = fx.code[s.at']:=by rw [List.getD_eq_getElem?_getD,hg];rfl
 obtain ⟨q1,q2⟩:=Axb (fx:=fx) (s:=s) hi.op.2;unfold Fq
 split
 ·exact ⟨hat,Int.le_refl _,by show s.steps <= s.steps + 1;omega⟩
 ·simp only [hg']
  split
  ·exact ⟨hat,Int.le_refl _,by show s.steps <= s.steps + 1;omega⟩
  ·split
   ·refine ⟨by show (Ij fx s fx.code[s.at']).s.at' < _;rw [q2];exact hat,?_,?_⟩
    ·show s.steps <= (Ij fx s fx.code[s.at']).s.steps + 1;omega
    ·show (Ij fx s fx.code[s.at']).s.steps + 1 <= _;omega
   ·split
    ·rename_i j hj;refine ⟨(Vs hj).1,?_,?_⟩
     ·show s.steps <= (Ij fx s fx.code[s.at']).s.steps + 1;omega
     ·show (Ij fx s fx.code[s.at']).s.steps + 1 <= _;omega
    ·exact ⟨hat,Int.le_refl _,by show s.steps <= s.steps + 1;omega⟩
structure Kr (fx:Ak) (s:Mst):Prop where
 good:Good fx s
 at':s.at' < fx.code.length
 steps:0 <= s.steps
theorem Kr.step {fx:Ak} {s:Mst} (hc:J5 fx) (h:Kr fx s):Kr fx (Fq fx s).2:=by
 obtain ⟨c1,c2,c3⟩:=Acu (s:=s) hc h.at';exact ⟨Aq9 h.good _ (hc.ins _ (List.getElem_mem h.at')) (List.getElem?_eq_getElem h.at'),c1,by have:=h.steps;omega⟩
theorem Kr.run {fx:Ak} (hc:J5 fx):∀ (n:Nat) (s:Mst),Kr fx s->Kr fx (Aac fx n s).2
 | 0, s, h => by
   unfold Aac
   cases s.done <;> exact h
 | n + 1, s, h => by
   unfold Aac
   cases s.done with
   | true=>exact h
   | false =>
     rw [if_neg (by decide)]
     split
     ·exact Kr.run hc n _ (h.step hc)
     ·exact h.step hc
theorem Avr {fx:Ak} (hc:J5 fx):∀ (n:Nat) (s:Mst),Kr fx s->s.steps + n < 4611686018427387904->Runs fx s n (Aac fx n s).1 (Aac fx n s).2
 | 0, s, h, hn => by
   unfold Aac
   cases hd:s.done with
   | true=>exact Runs.done s 0 hd
   | false=>exact Runs.fuel s hd
 | n + 1, s, h, hn => by
   unfold Aac
   cases hd:s.done with
   | true=>exact Runs.done s _ hd
   | false =>
     rw [if_neg (by decide)];have hR:=Ar1 hc h.good h.at' hd ⟨h.steps,by omega⟩;obtain ⟨c1,c2,c3⟩:=Acu (s:=s) hc h.at'
     by_cases he:(Fq fx s).1 = 0
     ·rw [if_pos he];have r1:=Avr hc n (Fq fx s).2 (h.step hc) (by push_cast at hn;omega);rw [he] at hR;exact Runs.step _ _ _ _ _ hd hR r1
     ·rw [if_neg he];exact Runs.trap _ _ _ _ hd hR he
def stG (ctx:List Int) (rows:List (List Int)):Mst:=⟨List.replicate 32 Cc,rg0 ctx.length,ctx,rows,[],0,0,false⟩
theorem Avs (lo hi:Int) (data:List Int) (tabs:List (Int × Int)) (code:List Ins) (da ta ca xa ra:Option Addr) (dc tc cc xc rc:Nat) (ctx:List Int) (vals:List Value) (rows:List (List Int))
 (hmd:(Vo.mk lo hi data tabs code).made) (hft:Tc lo hi tabs ctx.length rows) (w:World)
 (hd:Held w (.slice da data.length dc) data) (ht:Tabs w (.slice ta tabs.length tc) tabs) (hc:Fa w (.slice ca code.length cc) code)
 (hx:Held w (.slice xa ctx.length xc) ctx) (hr:Es w (.slice ra rows.length rc) vals rows) :
 Calls prog 9 #[.agg #[.int .i64 lo,.int .i64 hi,.slice da data.length dc,.slice ta tabs.length tc,.slice ca code.length cc],.agg #[.slice xa ctx.length xc,.slice ra rows.length rc]] w fun e w'=>
  ∃ bx v,e = .returned (.tuple #[.pointer (some ⟨bx,0,none⟩),.int .i64 0])/\MS w.heap.size w ⟨data,tabs,code⟩ (stG ctx rows) bx v w':=by
 refine (Awq lo hi data tabs code da ta ca xa ra dc tc cc xc rc ctx vals rows hmd hft w hd ht hc hx hr (fun _=>0)).mono ?_;rintro e w' ⟨bx,mb,cv',uv',xv',tv',dv',zv',vals',ρ',rfl,hM,hX,hT,hD,hZ⟩;refine ⟨bx,⟨ρ',mb,xv',tv',dv',zv',cv',uv',Bd,vals'⟩,rfl,⟨hM.nb.bel,by have hb:=hM.box;rw [<- (show Rw (List.replicate 32 Cc) = Ez from rfl)] at hb;exact hb,by have:=hM.le;omega,hM.rb,hM.Io,hM.Gq,⟨hM.begin'.at',by show w.heap.size <= mb;have:=hM.begin'.le;omega,hM.begin'.role⟩,hX,hT,hD,hZ,⟨World.ownsRow_nil _ _ _ _,fun b hb=>by cases hb⟩,Vp,rfl⟩⟩
theorem Nh {s:Mst} (h1:(Ei s.rg).length = 44) (h2:s.st.length = 416) (a b c:Option Addr) (n1 c1 n2 c2 n3 c3:Nat) (w:World) :
 (storeCells ⟨w.heap.size,0,none⟩ (Au s (.slice a n1 c1) (.slice b n2 c2) (.slice c n3 c3))).run prog (w.alloc (.cells Tryz.zeroCells64 64)) = .ok () (w.alloc (.cells (Au s (.slice a n1 c1) (.slice b n2 c2) (.slice c n3 c3)).toArray 64)):=by
 have hX:=Kq h1 h2 (.slice a n1 c1) (.slice b n2 c2) (.slice c n3 c3);have:=run_storeCells_new (P:=prog) w 64 Tryz.zeroCells64 (Au s (.slice a n1 c1) (.slice b n2 c2) (.slice c n3 c3)).toArray (by rw [List.size_toArray,hX];exact Q7) (Zm.trans (by rw [List.size_toArray];exact hX.symm)) (all_oneCell_toArray (qm a b c n1 c1 n2 c2 n3 c3));rw [List.toList_toArray] at this;exact this
theorem Ai2 {s:Mst} (h1:(Ei s.rg).length = 44) (h2:s.st.length = 416) (xv tv sv:Value) (w:World) (A S:Int) (D:Bool) (hA:(s.at':Int) = A) (hS:s.steps = S) (hD:s.done = D) :
 (w.alloc (.cells (Au s xv tv sv).toArray 64)).cell? ⟨w.heap.size,463,none⟩ = some (.int .i64 A)/\(w.alloc (.cells (Au s xv tv sv).toArray 64)).cell? ⟨w.heap.size,464,none⟩ = some (.int .i64 S) /\
 (w.alloc (.cells (Au s xv tv sv).toArray 64)).cell? ⟨w.heap.size,465,none⟩ = some (.bool D):=by
 have hr:=Row.made w (Au s xv tv sv) 64;obtain ⟨t1,t2,t3⟩:=Zn h1 h2 xv tv sv;rw [hA] at t1;rw [hS] at t2;rw [hD] at t3;exact ⟨(hr.cell 463).trans t1,(hr.cell 464).trans t2,(hr.cell 465).trans t3⟩
theorem Ai3 (h:Int) (a:Option Addr) (n c:Nat):prog.built 26 [(1,.int .i64 h),(4,.slice a n c)] = some #[.int .i64 0,.int .i64 h,.slice none 0 0,.slice none 0 0,.slice a n c]:=by kernel_rfl
theorem Ar2 (h:Int) (a:Option Addr) (n c:Nat) (w:World):(Instr.build 26 #[(1,.int .i64 h),(4,.slice a n c)]).run prog w = .ok (.agg #[.int .i64 0,.int .i64 h,.slice none 0 0,.slice none 0 0,.slice a n c]) w:=run_build w _ _ _ (Ai3 h a n c)
theorem Ai4 (a:Option Addr) (n c:Nat):prog.built 29 [(0,.slice a n c)] = some #[.slice a n c,.slice none 0 0]:=by kernel_rfl
theorem Ar3 (a:Option Addr) (n c:Nat) (w:World):(Instr.build 29 #[(0,.slice a n c)]).run prog w = .ok (.agg #[.slice a n c,.slice none 0 0]) w:=run_build w _ _ _ (Ai4 a n c)
theorem Ai5 (x0 x3 x4 x5 x6:Int):prog.built 70 [(0,.int .i64 x0),(3,.int .i64 x3),(4,.int .i64 x4),(5,.int .i64 x5),(6,.int .i64 x6)] = some #[.int .i64 x0,.bool false,.bool false,.int .i64 x3,.int .i64 x4,.int .i64 x5,.int .i64 x6,.int .i64 0]:=by kernel_rfl
theorem Ar4 (x0 x3 x4 x5 x6:Int) (w:World):(Instr.build 70 #[(0,.int .i64 x0),(3,.int .i64 x3),(4,.int .i64 x4),(5,.int .i64 x5),(6,.int .i64 x6)]).run prog w = .ok (.agg #[.int .i64 x0,.bool false,.bool false,.int .i64 x3,.int .i64 x4,.int .i64 x5,.int .i64 x6,.int .i64 0]) w:=run_build w _ _ _ (Ai5 x0 x3 x4 x5 x6)
theorem Ai6 (x0:Int) (x2:Bool) (x4 x5:Int):prog.built 70 [(0,.int .i64 x0),(2,.bool x2),(4,.int .i64 x4),(5,.int .i64 x5)] = some #[.int .i64 x0,.bool false,.bool x2,.int .i64 0,.int .i64 x4,.int .i64 x5,.int .i64 0,.int .i64 0]:=by kernel_rfl
theorem Ar5 (x0:Int) (x2:Bool) (x4 x5:Int) (w:World):(Instr.build 70 #[(0,.int .i64 x0),(2,.bool x2),(4,.int .i64 x4),(5,.int .i64 x5)]).run prog w = .ok (.agg #[.int .i64 x0,.bool false,.bool x2,.int .i64 0,.int .i64 x4,.int .i64 x5,.int .i64 0,.int .i64 0]) w:=run_build w _ _ _ (Ai6 x0 x2 x4 x5)
theorem Ai7 (x0:Int):prog.built 70 [(0,.int .i64 x0)] = some #[.int .i64 x0,.bool false,.bool false,.int .i64 0,.int .i64 0,.int .i64 0,.int .i64 0,.int .i64 0]:=by kernel_rfl
theorem Ar6 (x0:Int) (w:World):(Instr.build 70 #[(0,.int .i64 x0)]).run prog w = .ok (.agg #[.int .i64 x0,.bool false,.bool false,.int .i64 0,.int .i64 0,.int .i64 0,.int .i64 0,.int .i64 0]) w:=run_build w _ _ _ (Ai7 x0)
def Aaf:List Ins:=[⟨22,false,false,1,0,1,1,0⟩,⟨1,false,true,0,0,2,0,0⟩,⟨39,false,false,0,0,0,0,0⟩]
def Afp:Ak:=⟨[],[],Aaf⟩
def Pz:Mst:=(Aac Afp 9 (stG [3,250,7] [])).2
theorem Ar7:(Vo.mk 0 9 [] [] Aaf).made:=by
 refine ⟨⟨by show (0:Int) <= 0;decide,by show (0:Int) <= 9;decide,by show (9:Int) <= 65535;decide,by show (0:Nat) <= 4096;decide,by show (0:Nat) <= 8;decide,by show 0 < 3;decide⟩,fun i hi=>absurd hi (by simp),⟨by show 3 <= 4096;decide,fun i hi=>?_⟩,fun i hi ho=>?_⟩
 ·have hc:i = 0\/i = 1\/i = 2:=by have:i < 3:=hi;omega
  rcases hc with rfl | rfl | rfl <;> first | rfl | kernel_rfl
 ·have hc:i = 0\/i = 1\/i = 2:=by have:i < 3:=hi;omega
  rcases hc with rfl | rfl | rfl
  ·exact absurd (show (22:Int) = 21 from ho) (by decide)
  ·exact absurd (show (1:Int) = 21 from ho) (by decide)
  ·exact absurd (show (39:Int) = 21 from ho) (by decide)
theorem Ar8:J5 Afp:=by
 refine ⟨by show 3 <= 4096;decide,fun i hi=>?_,by show 0 <= 8;decide⟩;have hi':i ∈ Aaf:=hi;simp only [Aaf,List.mem_cons,List.not_mem_nil,or_false] at hi'
 rcases hi' with rfl | rfl | rfl
 all_goals exact Oa _ _ (by decide) (by unfold Ey;decide) (fun h=>absurd h (by decide))
theorem Ar9:Kr Afp (stG [3,250,7] []):=⟨Ayq Aaf [3,250,7] (fun x hx=>by simp at hx;omega) (by decide),by show 0 < 3;decide,by show (0:Int) <= 0;decide⟩
theorem Aur:(Aac Afp 9 (stG [3,250,7] [])).1 = 0:=by kernel_rfl
theorem Axf:(Pz.rg[0]?).map Val.x = some 253:=by kernel_rfl
theorem Ox:Pz.at' = 2/\Pz.steps = 3/\Pz.done = true/\Pz.ctx.length = 3/\Pz.sent.length = 0/\Pz.rows = []:=⟨by kernel_rfl,by kernel_rfl,by kernel_rfl,by kernel_rfl,by kernel_rfl,by kernel_rfl⟩
theorem Ai8 (lo hi:Int) (data:List Int) (tabs:List (Int × Int)) (code:List Ins) (da ta ca xa ra:Option Addr) (dc tc cc xc rc:Nat) (ctx:List Int) (vals:List Value) (rows:List (List Int))
 (hmd:(Vo.mk lo hi data tabs code).made) (hft:¬ Tc lo hi tabs ctx.length rows) (hxl:ctx.length <= 4611686018427387903) (hrl:rows.length <= 4611686018427387903) (w:World)
 (ht:Tabs w (.slice ta tabs.length tc) tabs) (hc:Fa w (.slice ca code.length cc) code) (hr:Es w (.slice ra rows.length rc) vals rows) :
 Calls prog 9 #[.agg #[.int .i64 lo,.int .i64 hi,.slice da data.length dc,.slice ta tabs.length tc,.slice ca code.length cc],.agg #[.slice xa ctx.length xc,.slice ra rows.length rc]] w (Ak4 w 3):=by
 have Awr:=hmd;obtain ⟨⟨m1,m2,m3,m4,m5,m6⟩,m7,m8,m9⟩:=Awr;simp only at m1 m2 m3 m4 m5 m6 m7 m8 m9;have Nz:=fun w' (h1:Tabs w' (.slice ta tabs.length tc) tabs) (h2:Fa w' (.slice ca code.length cc) code)=>Acb (Vo.mk lo hi data tabs code) da ta ca dc tc cc (by simp only;omega) (by simp only;omega) (by simp only;have:=m8.1;omega) w' h1 h2;simp only at Nz;have hfits:=fun w' (h1:Tabs w' (.slice ta tabs.length tc) tabs) (h2:Es w' (.slice ra rows.length rc) vals rows)=>Akp lo hi tabs (.slice da data.length dc) (.slice ca code.length cc) ta xa ra tc xc rc ctx.length vals rows (by omega) hrl hxl m7 w' h1 h2;obtain ⟨nd,hnd⟩:∃ n,n = data.length:=⟨_,rfl⟩;obtain ⟨nt,hnt⟩:∃ n,n = tabs.length:=⟨_,rfl⟩;obtain ⟨nc,hnc⟩:∃ n,n = code.length:=⟨_,rfl⟩;obtain ⟨nx,hnx⟩:∃ n,n = ctx.length:=⟨_,rfl⟩;obtain ⟨nr,hnr⟩:∃ n,n = rows.length:=⟨_,rfl⟩;have Aih:=hft;simp only [<- hnd,<- hnt,<- hnc,<- hnx,<- hnr] at Nz hfits ht hc hr Aih ⊢;have hr0:Row ((w.alloc (.cells #[.int .i64 lo,.int .i64 hi,.slice da nd dc,.slice ta nt tc,.slice ca nc cc] 26)).alloc (.cells #[.slice xa nx xc,.slice ra nr rc] 29)) w.heap.size 26 (Yi lo hi (.slice da nd dc) (.slice ta nt tc) (.slice ca nc cc)):=(Row.made w (Yi lo hi (.slice da nd dc) (.slice ta nt tc) (.slice ca nc cc)) _).alloc _;have hr2:Row ((w.alloc (.cells #[.int .i64 lo,.int .i64 hi,.slice da nd dc,.slice ta nt tc,.slice ca nc cc] 26)).alloc (.cells #[.slice xa nx xc,.slice ra nr rc] 29)) (w.heap.size + 1) 29 (Acd (.slice xa nx xc) (.slice ra nr rc)):=Ace w _ (Acd (.slice xa nx xc) (.slice ra nr rc)) _;have hB0:=((Below.refl w.heap.size w).alloc nl (.cells #[.int .i64 lo,.int .i64 hi,.slice da nd dc,.slice ta nt tc,.slice ca nc cc] 26)).alloc (by simp) (.cells #[.slice xa nx xc,.slice ra nr rc] 29);have HN0:=hid (NB.mk hr0 hr2 hB0);have Aeu:=hid Nz;have Aqd:=hid hfits;have HMD:=hid hmd;have HFT:=hid Aih;have HT:=hid ht;have HC:=hid hc;have HR:=hid hr;clear Nz hfits hmd hft Aih ht hc hr hr0 hr2 hB0 m1 m2 m3 m4 m5 m6 m7 m8 m9 hnd hnt hnc hnx hnr hxl hrl;go_enter func9,ntmps9;go_wp2_with fail;refine (Aeu.out _ (HT.out.below HN0.out.bel nl) (HC.out.below HN0.out.bel nl)).mono ?_;rintro e w1 ⟨d,rfl,hiff,hB⟩;obtain rfl:d = true:=hiff.2 HMD.out;have HN1:=hid (HN0.out.below hB);clear hB hiff;obtain ⟨c0,c1,c2,c3,c4⟩:=Iq HN1.out.rp;obtain ⟨d0,d1⟩:=Jk HN1.out.ri;go_wp2_with fail;refine (Aqd.out _ (HT.out.below HN1.out.bel nl) (HR.out.below HN1.out.bel nl)).mono ?_;rintro e w2 ⟨d,rfl,hiff,hB⟩
 obtain rfl:d = false:=by
  cases d with
  | false=>rfl
  | true=>exact absurd (hiff.1 rfl) HFT.out
 have HN2:=hid (HN1.out.below hB);clear hB hiff c0 c1 c2 c3 c4 d0 d1;go_wp2;exact bodyPost_ret (v:=.tuple #[.pointer none,.int .i64 3]) (by simp [results,results9,go_sem]) rfl ⟨rfl,HN2.out.bel⟩
noncomputable def newE (p:Vo) (ctx:List Int) (rows:List (List Int)):Int:=
 open Classical in if p.made then if Tc p.lo p.hi p.tabs ctx.length rows then 0 else 3 else 1
theorem Yv {p:Vo} {ctx:List Int} {rows:List (List Int)}:newE p ctx rows = 0 ↔ p.made/\Tc p.lo p.hi p.tabs ctx.length rows:=by
 unfold newE
 split
 ·split
  ·exact ⟨fun _=>⟨by assumption,by assumption⟩,fun _=>rfl⟩
  ·exact ⟨fun h=>absurd h (by decide),fun h=>absurd h.2 (by assumption)⟩
 ·exact ⟨fun h=>absurd h (by decide),fun h=>absurd h.1 (by assumption)⟩
theorem new_any (p:Vo) (da ta ca xa ra:Option Addr) (dc tc cc xc rc:Nat) (ctx:List Int) (vals:List Value) (rows:List (List Int))
 (hld:p.data.length <= 4611686018427387903) (hlt:p.tabs.length <= 4611686018427387903) (hlc:p.code.length <= 4611686018427387903) (hxl:ctx.length <= 4611686018427387903) (hrl:rows.length <= 4611686018427387903) (w:World)
 (hd:Held w (.slice da p.data.length dc) p.data) (ht:Tabs w (.slice ta p.tabs.length tc) p.tabs) (hc:Fa w (.slice ca p.code.length cc) p.code)
 (hx:Held w (.slice xa ctx.length xc) ctx) (hr:Es w (.slice ra rows.length rc) vals rows) :
 Calls prog 9 #[.agg #[.int .i64 p.lo,.int .i64 p.hi,.slice da p.data.length dc,.slice ta p.tabs.length tc,.slice ca p.code.length cc],.agg #[.slice xa ctx.length xc,.slice ra rows.length rc]] w fun e w'=>
  (newE p ctx rows = 0/\∃ bx v,e = .returned (.tuple #[.pointer (some ⟨bx,0,none⟩),.int .i64 0])/\MS w.heap.size w ⟨p.data,p.tabs,p.code⟩ (stG ctx rows) bx v w') \/
  (newE p ctx rows ≠ 0/\e = .returned (.tuple #[.pointer none,.int .i64 (newE p ctx rows)])/\Below w.heap.size w w'):=by
 obtain ⟨lo,hi,data,tabs,code⟩:=p;simp only at hld hlt hlc hd ht hc ⊢
 by_cases hm:(Vo.mk lo hi data tabs code).made
 ·by_cases hf:Tc lo hi tabs ctx.length rows
  ·have h0:newE ⟨lo,hi,data,tabs,code⟩ ctx rows = 0:=Yv.2 ⟨hm,hf⟩;refine (Avs lo hi data tabs code da ta ca xa ra dc tc cc xc rc ctx vals rows hm hf w hd ht hc hx hr).mono ?_;intro e w' h;exact Or.inl ⟨h0,h⟩
  ·have h3:newE ⟨lo,hi,data,tabs,code⟩ ctx rows = 3:=by unfold newE;rw [if_pos hm,if_neg hf]
   refine (Ai8 lo hi data tabs code da ta ca xa ra dc tc cc xc rc ctx vals rows hm hf hxl hrl w ht hc hr).mono ?_;rintro e w' ⟨he,hB⟩;exact Or.inr ⟨by rw [h3];decide,by rw [h3];exact he,hB⟩
 ·have h1:newE ⟨lo,hi,data,tabs,code⟩ ctx rows = 1:=by unfold newE;rw [if_neg hm]
  refine (Auh lo hi data tabs code da ta ca xa ra dc tc cc ctx.length xc rows.length rc hm hld hlt hlc w ht hc).mono ?_;rintro e w' ⟨he,hB⟩;exact Or.inr ⟨by rw [h1];decide,by rw [h1];exact he,hB⟩
def Ak9 (e:Int):Prop:=e = 0\/(80 <= e/\e <= 87)
theorem Ak9.zero:Ak9 0:=Or.inl rfl
theorem Ak9.of {e:Int} (h:80 <= e/\e <= 87):Ak9 e:=Or.inr h
theorem step_done (fx:Ak) (s:Mst) (hd:s.done = true):Fq fx s = (4,s):=by
 unfold Fq;rw [if_pos hd]
section
variable {base:Nat} {w0:World} {fx:Ak} {s:Mst} {bx:Nat} {v:Bc} {w w':World}
theorem MS.Asa (h:MS base w0 fx s bx v w):MS base w fx s bx v w:=
 ⟨Below.refl _ _,h.box,h.le,h.rb,h.Io,h.Gq,h.begin',h.Qr,h.Oo,h.L8,h.L9,h.Jo,h.Xx,h.Oj⟩
theorem MS.apart (h:MS base w0 fx s bx v w) (hk:∀ q,q < w.heap.size->v.ρ q ≠ 9->w'.heap[q]? = w.heap[q]?):MS base w' fx s bx { v with ρ:=Aj v.ρ w.heap.size 9 } w':=by
 have hs:∀ q,q < w.heap.size->Aj v.ρ w.heap.size 9 q = v.ρ q:=Bo
 have hm:∀ {r:Nat} {e:TypeId} {size n:Nat} {x:Value} {xs:List Value},r ≠ 9->Bf w base v.ρ r e size x n xs->Bf w' base (Aj v.ρ w.heap.size 9) r e size x n xs:=fun hr ho=>
  ho.move fun q hq hqr=>⟨hk q hq (by rw [hqr];exact hr),(hs q hq).trans hqr⟩
 refine ⟨Below.refl _ _,(hk bx h.box.lt (by rw [h.rb];decide)).trans h.box,h.le,(hs bx h.box.lt).trans h.rb,hm (by decide) h.Io,hm (by decide) h.Gq,
  ⟨(hk v.mb h.begin'.lt (by rw [h.begin'.role];decide)).trans h.begin'.at',h.begin'.le,(hs v.mb h.begin'.lt).trans h.begin'.role⟩,hm (by decide) h.Qr,
  ⟨hm (by decide) h.Oo.list,fun k hk'=>?_⟩,hm (by decide) h.L8,hm (by decide) h.L9,hm (by decide) h.Jo,h.Xx,h.Oj⟩
 obtain ⟨u,hu,ho⟩:=h.Oo.item k hk';exact ⟨u,hu,hm (by omega) ho⟩
theorem MS.mask (h:MS base w0 fx s bx v w):MS base w0 fx s bx { v with ρ:=fun q=>if q < base then 9 else v.ρ q } w:=by
 have hm:∀ {r:Nat} {e:TypeId} {size n:Nat} {x:Value} {xs:List Value},Bf w base v.ρ r e size x n xs->Bf w base (fun q=>if q < base then 9 else v.ρ q) r e size x n xs:=fun ho=>
  ⟨ho.1,fun b hb=>by
   have hlt:=(ho.1.lt b hb).1;have h1:=ho.2 b hb;show (if b < base then 9 else v.ρ b) = _;rw [if_neg (by omega)];exact h1⟩
 refine ⟨h.bel,h.box,h.le,?_,hm h.Io,hm h.Gq,⟨h.begin'.at',h.begin'.le,?_⟩,hm h.Qr,⟨hm h.Oo.list,fun k hk'=>?_⟩,hm h.L8,hm h.L9,hm h.Jo,h.Xx,h.Oj⟩
 ·show (if bx < base then 9 else v.ρ bx) = 0;rw [if_neg (by have:=h.le;omega)];exact h.rb
 ·show (if v.mb < base then 9 else v.ρ v.mb) = 8;rw [if_neg (by have:=h.begin'.le;omega)];exact h.begin'.role
 ·obtain ⟨u,hu,ho⟩:=h.Oo.item k hk';exact ⟨u,hu,hm ho⟩
end
structure Mine (P:Nat->Nat) (i:Nat) (fx:Ak) (s:Mst) (bx:Nat) (w:World):Prop where
 ms:∃ base v,MS base w fx s bx v w/\∀ q,q < w.heap.size->P q ≠ i->v.ρ q = 9
def grown (P:Nat->Nat) (n i:Nat):Nat->Nat:=fun q=>if q < n then P q else i
theorem Mine.next {P:Nat->Nat} {i k:Nat} {fx:Ak} {s:Mst} {bx:Nat} {w w':World} (h:Mine P i fx s bx w) (hb:Below w.heap.size w w'):Mine (grown P w.heap.size k) i fx s bx w':=by
 obtain ⟨base,v,hm,hq⟩:=h.ms;refine ⟨base,_,hm.apart (fun q hq _=>hb.block q hq),fun q hq' hP=>?_⟩;show Aj v.ρ w.heap.size 9 q = 9
 by_cases hlt:q < w.heap.size
 ·rw [Bo q hlt];unfold grown at hP;rw [if_pos hlt] at hP;exact hq q hlt hP
 ·unfold Aj;rw [if_pos (by omega)]
theorem Mine.other {P:Nat->Nat} {i j:Nat} (hij:i ≠ j) {fx:Ak} {s:Mst} {bx:Nat} {w w':World} (h:Mine P i fx s bx w) {ρ:Nat->Nat} (hj:∀ q,q < w.heap.size->P q ≠ j->ρ q = 9) (hf:Jd ρ w w'):Mine (grown P w.heap.size j) i fx s bx w':=by
 obtain ⟨base,v,hm,hq⟩:=h.ms;refine ⟨base,_,hm.apart (fun q hlt hne=>?_),fun q hq' hP=>?_⟩
 ·have hPi : P q = i := by
   by_cases hP:P q = i
   ·exact hP
   ·exact absurd (hq q hlt hP) hne
  exact hf q hlt (by rw [hj q hlt (by omega)];exact Or.inl rfl)
 ·show Aj v.ρ w.heap.size 9 q = 9
  by_cases hlt:q < w.heap.size
  ·rw [Bo q hlt];unfold grown at hP;rw [if_pos hlt] at hP;exact hq q hlt hP
  ·unfold Aj;rw [if_pos (by omega)]
theorem Mine.done {P:Nat->Nat} {i:Nat} {fx:Ak} {s':Mst} {bx:Nat} {w w':World} {base:Nat} {w0:World} {v v':Bc} (hj:∀ q,q < w.heap.size->P q ≠ i->v.ρ q = 9) (hm:MS base w0 fx s' bx v' w') (hro:∀ k,k < w.heap.size->v'.ρ k = v.ρ k):Mine (grown P w.heap.size i) i fx s' bx w':=by
 refine ⟨base,v',hm.Asa,fun q hq' hP=>?_⟩;unfold grown at hP
 by_cases hlt:q < w.heap.size
 ·rw [if_pos hlt] at hP;rw [hro q hlt];exact hj q hlt hP
 ·rw [if_neg hlt] at hP;exact absurd rfl hP
theorem Mine.born {P:Nat->Nat} {i:Nat} {fx:Ak} {s:Mst} {bx:Nat} {w0 w':World} {v:Bc} (hm:MS w0.heap.size w0 fx s bx v w'):Mine (grown P w0.heap.size i) i fx s bx w':=by
 refine ⟨_,_,hm.mask.Asa,fun q hq' hP=>?_⟩;unfold grown at hP;show (if q < w0.heap.size then 9 else v.ρ q) = 9
 by_cases hlt:q < w0.heap.size
 ·rw [if_pos hlt]
 ·rw [if_neg hlt] at hP;exact absurd rfl hP
theorem Asb {p:Vo} (hm:p.made) (him:∀ i ∈ p.code,Ey i.Aa):J5 ⟨p.data,p.tabs,p.code⟩:=by
 obtain ⟨⟨m1,m2,m3,m4,m5,m6⟩,m7,m8,m9⟩:=hm;refine ⟨m8.1,fun i hi=>?_,m5⟩;obtain ⟨k,hk,rfl⟩:=List.getElem_of_mem hi;exact Oa _ _ (m8.2 k hk) (him _ hi) (m9 k hk)
theorem Asd {p:Vo} {ctx:List Int} {rows:List (List Int)} (hm:p.made) (hf:Tc p.lo p.hi p.tabs ctx.length rows) (hd:Ah p.data) (hc:Ah ctx) (hr:∀ k (h:k < rows.length),Ah rows[k]):Kr ⟨p.data,p.tabs,p.code⟩ (stG ctx rows):=by
 obtain ⟨⟨m1,m2,m3,m4,m5,m6⟩,m7,m8,m9⟩:=hm;obtain ⟨⟨f1,f2,f3⟩,f4⟩:=hf;have hcl:ctx.length <= 65535:=by omega
 have hz:∀ x ∈ (stG ctx rows).sl,x = Cc:=fun x hx=>List.eq_of_mem_replicate hx;have hget:∀ k (h:k < p.tabs.length),p.tabs.getD k (0,0) = p.tabs[k]:=fun k h=>by rw [List.getD_eq_getElem?_getD,List.getElem?_eq_getElem h];rfl
 refine ⟨⟨⟨fun x hx=>?_,hc,hcl,hd,m4,f3,fun k hk=>?_,fun k hk=>?_⟩,⟨rfl,fun u hu=>?_⟩,Vp,fun x hx hk=>?_,⟨by show (0:Nat) <= 64;decide,fun x hx=>absurd hx (by simp [stG])⟩⟩,m6,by show (0:Int) <= 0;decide⟩
 ·rw [hz x hx];exact ⟨by unfold Ah;decide,by decide,by decide⟩
 ·show 1 <= (p.tabs.getD k (0,0)).1/\(p.tabs.getD k (0,0)).1 <= 64/\1 <= (p.tabs.getD k (0,0)).2/\(p.tabs.getD k (0,0)).2 <= 64;rw [hget k hk];exact m7 k hk
 ·have hk':k < rows.length:=hk;refine ⟨hr k hk',?_⟩;show (rows[k].length:Int) = (p.tabs.getD k (0,0)).1 * (p.tabs.getD k (0,0)).2;rw [hget k (by omega)];exact f4 k (by omega) hk'
 ·have : u = I4 ∨ u = ⟨3, 0, 0, 0⟩ ∨ u = nval ctx.length ∨ u = ⟨2, 0, 0, 256⟩ := by
   simp only [stG,rg0,List.mem_cons,List.not_mem_nil,or_false] at hu
   rcases hu with h | h | h | h | h | h | h | h | h | h | h
   all_goals first
    | exact Or.inl h
    | exact Or.inr (Or.inl h)
    | exact Or.inr (Or.inr (Or.inl h))
    | exact Or.inr (Or.inr (Or.inr h))
  rcases this with rfl | rfl | rfl | rfl
  ·exact Dp.none _
  ·exact Gf.reg ⟨by show (2:Int) <= 3/\(3:Int) <= 5;decide,by show -1048576 <= (0:Int)/\(0:Int) <= 1048576;decide,fun h=>absurd (show (3:Int) = 5 from h) (by decide)⟩
  ·exact Dp.num _ (by unfold Ey;omega)
  ·exact Gf.reg ⟨by show (2:Int) <= 2/\(2:Int) <= 5;decide,by show -1048576 <= (256:Int)/\(256:Int) <= 1048576;decide,fun h=>absurd (show (2:Int) = 5 from h) (by decide)⟩
 ·rw [hz x hx] at hk;exact absurd rfl hk
theorem Ai9 {fx:Ak} {s:Mst} (hd:s.done = true):Wx fx s 4 s:=by
 intro base w0 bx v w hM;obtain ⟨t0,t1,t2,t3⟩:=hM.tail;rw [hd] at t3;have HM:=hid hM;have hlt:=hM.box.lt;clear hM t0 t1 t2;go_enter func16,ntmps16;go_wp2_with fail;exact bodyPost_ret (v:=.int .i64 4) (by simp [results,results16,go_sem]) rfl ⟨rfl,v,HM.out,fun q _ _=>rfl,fun _ _=>rfl⟩
theorem Ase {fx:Ak} {s:Mst} (hc:J5 fx) (h:Kr fx s) (hs:s.steps < 4611686018427387904):Wx fx s (Fq fx s).1 (Fq fx s).2:=by
 cases hd:s.done with
 | true =>
   rw [step_done fx s hd];exact Ai9 hd
 | false=>exact Ar1 hc h.good h.at' hd ⟨h.steps,hs⟩
end Go.Proofs.YtjacnhnaoenelaaGreat
