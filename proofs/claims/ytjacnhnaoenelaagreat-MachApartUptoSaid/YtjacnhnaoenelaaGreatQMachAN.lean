import Derived.Test.YtjacnhnaoenelaaGreatQJ5a
set_option maxRecDepth 100000
set_option maxHeartbeats 16000000
namespace Go.Proofs.YtjacnhnaoenelaaGreat
open Lib (hid)
open Go.Proofs.Tryz
open Go.RowKit
set_option linter.unusedVariables false
set_option linter.unusedSimpArgs false
section
variable {w0 w1 w2:World} {bx ib ab:Nat} {cs:List Value} {op:Int} {Ad reg:Bool} {size dst src off Aa:Int} {x0 x1 x2 x3:Value}
theorem Ob.kk (h:Ob w0 bx ib ab op Ad reg size dst src off Aa [x0,x1,x2,x3] w1):(w1.cell? ⟨ib,0,none⟩ = some (.int .i64 op)/\w1.cell? ⟨ib,3,none⟩ = some (.int .i64 size)/\w1.cell? ⟨ib,4,none⟩ = some (.int .i64 dst))/\(w1.cell? ⟨ab,0,none⟩ = some x0/\w1.cell? ⟨ab,1,none⟩ = some x1/\w1.cell? ⟨ab,2,none⟩ = some x2/\w1.cell? ⟨ab,3,none⟩ = some x3)/\Ob w0 bx ib ab op Ad reg size dst src off Aa [x0,x1,x2,x3] w1:=
 let ⟨cs,h1,h2⟩:=h;⟨⟨h1.fm.cells.1,h1.fm.cells.2.2.2.1,h1.fm.cells.2.2.2.2.1⟩,h1.ra.four.1,h⟩
theorem Ob.nn (h:(w1.cell? ⟨ib,0,none⟩ = some (.int .i64 op)/\w1.cell? ⟨ib,3,none⟩ = some (.int .i64 size)/\w1.cell? ⟨ib,4,none⟩ = some (.int .i64 dst))/\(w1.cell? ⟨ab,0,none⟩ = some x0/\w1.cell? ⟨ab,1,none⟩ = some x1/\w1.cell? ⟨ab,2,none⟩ = some x2/\w1.cell? ⟨ab,3,none⟩ = some x3)/\Ob w0 bx ib ab op Ad reg size dst src off Aa [x0,x1,x2,x3] w1) (hb:Below w1.heap.size w1 w2) :
 (w2.cell? ⟨ib,0,none⟩ = some (.int .i64 op)/\w2.cell? ⟨ib,3,none⟩ = some (.int .i64 size)/\w2.cell? ⟨ib,4,none⟩ = some (.int .i64 dst))/\(w2.cell? ⟨ab,0,none⟩ = some x0/\w2.cell? ⟨ab,1,none⟩ = some x1/\w2.cell? ⟨ab,2,none⟩ = some x2/\w2.cell? ⟨ab,3,none⟩ = some x3)/\Ob w0 bx ib ab op Ad reg size dst src off Aa [x0,x1,x2,x3] w2:=(h.2.2.next hb).kk
theorem Ob.ss (h:(w1.cell? ⟨ib,0,none⟩ = some (.int .i64 op)/\w1.cell? ⟨ib,3,none⟩ = some (.int .i64 size)/\w1.cell? ⟨ib,4,none⟩ = some (.int .i64 dst))/\(w1.cell? ⟨ab,0,none⟩ = some x0/\w1.cell? ⟨ab,1,none⟩ = some x1/\w1.cell? ⟨ab,2,none⟩ = some x2/\w1.cell? ⟨ab,3,none⟩ = some x3)/\Ob w0 bx ib ab op Ad reg size dst src off Aa [x0,x1,x2,x3] w1) (k:Nat) (y0 y1 y2 y3:Value) :
 (((((w1.setCell ⟨bx,k,none⟩ y0).setCell ⟨bx,k + 1,none⟩ y1).setCell ⟨bx,k + 2,none⟩ y2).setCell ⟨bx,k + 3,none⟩ y3).cell? ⟨ib,0,none⟩ = some (.int .i64 op)/\((((w1.setCell ⟨bx,k,none⟩ y0).setCell ⟨bx,k + 1,none⟩ y1).setCell ⟨bx,k + 2,none⟩ y2).setCell ⟨bx,k + 3,none⟩ y3).cell? ⟨ib,3,none⟩ = some (.int .i64 size)/\((((w1.setCell ⟨bx,k,none⟩ y0).setCell ⟨bx,k + 1,none⟩ y1).setCell ⟨bx,k + 2,none⟩ y2).setCell ⟨bx,k + 3,none⟩ y3).cell? ⟨ib,4,none⟩ = some (.int .i64 dst))/\(((((w1.setCell ⟨bx,k,none⟩ y0).setCell ⟨bx,k + 1,none⟩ y1).setCell ⟨bx,k + 2,none⟩ y2).setCell ⟨bx,k + 3,none⟩ y3).cell? ⟨ab,0,none⟩ = some x0/\((((w1.setCell ⟨bx,k,none⟩ y0).setCell ⟨bx,k + 1,none⟩ y1).setCell ⟨bx,k + 2,none⟩ y2).setCell ⟨bx,k + 3,none⟩ y3).cell? ⟨ab,1,none⟩ = some x1/\((((w1.setCell ⟨bx,k,none⟩ y0).setCell ⟨bx,k + 1,none⟩ y1).setCell ⟨bx,k + 2,none⟩ y2).setCell ⟨bx,k + 3,none⟩ y3).cell? ⟨ab,2,none⟩ = some x2/\((((w1.setCell ⟨bx,k,none⟩ y0).setCell ⟨bx,k + 1,none⟩ y1).setCell ⟨bx,k + 2,none⟩ y2).setCell ⟨bx,k + 3,none⟩ y3).cell? ⟨ab,3,none⟩ = some x3)/\Ob w0 bx ib ab op Ad reg size dst src off Aa [x0,x1,x2,x3] ((((w1.setCell ⟨bx,k,none⟩ y0).setCell ⟨bx,k + 1,none⟩ y1).setCell ⟨bx,k + 2,none⟩ y2).setCell ⟨bx,k + 3,none⟩ y3):=(h.2.2.D9 k y0 y1 y2 y3).kk
end
section
variable {base:Nat} {w0:World} {fx:Ak} {s:Mst} {bx:Nat} {v:Bc}
theorem An8 (op:Int) (Ad reg:Bool) (size off Aa:Int) (d r:Nat) (hd:d < 11) (hr:r < 11) (p:Val) (hp:s.rg[r]? = some p) (hok:2 <= p.k->Gf fx p) (hm:J4 fx s) (hsz:size = 1\/size = 2\/size = 4\/size = 8) (hoff : -32768 <= off/\off <= 32767) (hop:op = 22\/op = 23)
 (w:World) (hM:MS base w0 fx s bx v w) :
 Calls prog 55 #[.pointer (some ⟨bx,0,none⟩),(Ins.mk op Ad reg size d r off Aa).agg] w fun e w'=>e = .returned (.tuple #[.int .i64 0,.int .i64 (Jz fx s ⟨op,Ad,reg,size,d,r,off,Aa⟩).er])/\Mod w w' bx/\Row w' bx 87 (Aw (Jz fx s ⟨op,Ad,reg,size,d,r,off,Aa⟩).s v):=by
 have hpr:s.reg r = p:=by unfold Mst.reg;rw [Int.toNat_natCast,hp];rfl
 have hl:=hM.len
 have hu:Ie (Aw s v) r p:=by
  have:=hM.lu r hr;rw [List.getElem?_eq_getElem (by rw [hM.Oj];exact hr)] at hp;rw [Option.some.inj hp] at this;exact this
 have hset:=fun (u:Val)=>hM.D9 d hd u;obtain ⟨D,hD⟩:∃ D,D = Jz fx s ⟨op,Ad,reg,size,d,r,off,Aa⟩:=⟨_,rfl⟩;rw [<- hD];unfold Jz at hD;simp only [hpr] at hD;have hj1:(0:Int) <= (d:Int):=Int.natCast_nonneg _;have hj2:(d:Int) < 11:=by omega
 have hi1:(0:Int) <= (r:Int):=Int.natCast_nonneg _;have hi2:(r:Int) < 11:=by omega
 have HF:=hid (FM.begin hM.box op Ad reg size d r off Aa);have HM:=hid hM;have Ayn:=hid hset;have HD:=hid hD;have HOK:=hid hok;have Afn:=hid hm;have Xy:=hid (And.intro hsz (And.intro hoff hop));clear hM hset hD hpr hok hm hp hsz hoff hop;obtain ⟨k,t,o,x⟩:=p;obtain ⟨cs,hcs⟩:∃ cs,cs = Aw s v:=⟨_,rfl⟩;rw [<- hcs] at HF hl hu;have Ph:=hid hcs;clear hcs;unfold Ins.agg;simp only;go_enter func55,ntmps55;go_upto_region 1 with fail;generalize World.alloc _ _ = w1 at HF ⊢;obtain ⟨c0,c1,c2,c3,c4,c5,c6,c7⟩:=HF.out.cells;obtain ⟨v0,v1,v2,v3⟩:=hu.row HF.out.Ar;simp only at v0 v1 v2 v3;have hlt:=HF.out.Ar.lt;have hlt2:=HF.out.ins.lt
 go_region
 go_upto_region 2 with fail;clear c0 c1 c2 c3 c4 c5 c6 c7 v0 v1 v2 v3;have HP:=hid ((HF.out.made [.int .i64 k,.int .i64 t,.int .i64 o,.int .i64 x]).next (Below.refl _ _).drew);generalize hq:w1.heap.size = q at HP ⊢;generalize World.drew _ = w2 at HP ⊢;clear hlt hlt2 HF hq;obtain ⟨c0,c1,c2,c3,c4,c5,c6,c7⟩:=HP.out.fm.cells;obtain ⟨⟨b0,b1,b2,b3⟩,_⟩:=HP.out.ra.four;have CELLS:=Ph
 by_cases hk:2 <= k
 rotate_left
 ·have q0:decide (2 <= k) = false:=decide_eq_false hk;have e:=HD.out;rw [if_pos (show (⟨k,t,o,x⟩:Val).k < 2 from by show k < 2;omega)] at e;have HE:=hid e;clear e;go_wp2_with (go_at_call 72;refine (Ce _ _ _ _ _).mono ?_;rintro e w' ⟨rfl,hb⟩;have hFP:=HP.out.next hb);exact bodyPost_ret (v:=.tuple #[.int .i64 0,.int .i64 80]) (by simp [results,results55,go_sem]) rfl ⟨by rw [HE.out];rfl,hFP.fm.mod,by rw [HE.out];show Row _ bx _ (Aw s v);rw [<- Ph.out];exact hFP.fm.Ar⟩
 ·have q0:decide (2 <= k) = true:=decide_eq_true hk;have Aum:=HOK.out hk;have Yr:=hid Aum;obtain ⟨hk1,hk2⟩:=Aum.kind;have hx:=Aum.off;simp only at hk1 hk2 hx;have e:=HD.out;rw [if_neg (show ¬ (⟨k,t,o,x⟩:Val).k < 2 from by show ¬ k < 2;omega)] at e;have HE:=hid e;obtain ⟨A,hA⟩:∃ A,x + off = A:=⟨_,rfl⟩;have hwx:wrap64 (x + off) = A:=by have:=Xy.out.2.1;unfold wrap64;omega
  have hAr : -2000000 <= A/\A <= 2000000:=by have:=Xy.out.2.1;omega
  have HA:=hid (And.intro hA hAr);clear e hA hAr hk hk1 hk2 hx Aum HD;go_upto_region 5 with (go_at_call 72;refine (Ce _ _ _ _ _).mono ?_;rintro e w' ⟨rfl,hb⟩;have hFP:=HP.out.next hb;obtain ⟨_,_,_,_,_,_,_,_⟩:=hFP.fm.cells;obtain ⟨⟨_,_,_,_⟩,_⟩:=hFP.ra.four);have HX:=hid hFP;generalize w' = w3 at HX ⊢;clear hFP hb c0 c1 c2 c3 c4 c5 c6 c7 b0 b1 b2 b3;have HW:=hid (Uy ⟨k,t,o,x⟩ Yr.out A size (by have:=HA.out.2;omega) (by rcases Xy.out.1 with h | h | h | h <;> omega) w3.drew ((HM.out.same (HX.out).fm.mod (by have h:=(HX.out).fm.Ar;rw [Ph.out] at h;exact h)).next (Below.refl _ _).drew));obtain ⟨W,hW⟩:∃ W:Bool,Dh fx s ⟨k,t,o,x⟩ A size = W:=⟨_,rfl⟩;rw [hW] at HW;unfold Val.agg at HW;simp only at HW;have HWW:=hid hW;clear hW;simp only [hwx]
  go_cut [32] (fun s32 wx=>s32 = .bool (!W)/\FP w bx w.heap.size q cs op Ad reg size d r off Aa [.int .i64 k,.int .i64 t,.int .i64 o,.int .i64 x] wx)
  case first=>
   have hks:=((show Ob w bx w.heap.size q op Ad reg size d r off Aa [.int .i64 k,.int .i64 t,.int .i64 o,.int .i64 x] w3 from ⟨_,HX.out,hl⟩).next (Below.refl _ _).drew).kk
   go_region_held3 (fun w'=>(w'.cell? ⟨w.heap.size,0,none⟩ = some (.int .i64 op)/\w'.cell? ⟨w.heap.size,3,none⟩ = some (.int .i64 size)/\w'.cell? ⟨w.heap.size,4,none⟩ = some (.int .i64 d))/\(w'.cell? ⟨q,0,none⟩ = some (.int .i64 k)/\w'.cell? ⟨q,1,none⟩ = some (.int .i64 t)/\w'.cell? ⟨q,2,none⟩ = some (.int .i64 o)/\w'.cell? ⟨q,3,none⟩ = some (.int .i64 x))/\Ob w bx w.heap.size q op Ad reg size d r off Aa [.int .i64 k,.int .i64 t,.int .i64 o,.int .i64 x] w')
    (first
      | with_reducible assumption
      | with_reducible exact Ob.nn (by with_reducible assumption) hb
      | with_reducible exact Ob.nn (by with_reducible assumption) hbN
      | with_reducible exact Ob.ss (by with_reducible assumption) _ _ _ _ _
      | fail "none")
    (first
      | (go_at_call 73;refine (HW.out).mono ?_;rintro e w' ⟨rfl,hb⟩;have Zu:=(HX.out.next (Below.refl _ _).drew).next hb))
   rename_i C9;clear C9 hks;go_wp2_with fail;go_meet
   case rel=>exact ⟨rfl,Zu⟩
  case rest=>
   obtain ⟨rfl,Zu⟩:=hcut;have H5:=hid Zu;clear Zu HX HW HP
   cases W with
   | false =>
     have e:=HE.out;rw [HA.out.1,if_pos HWW.out] at e;have HE2:=hid e;clear e;go_wp2_with fail;exact bodyPost_ret (v:=.tuple #[.int .i64 0,.int .i64 81]) (by simp [results,results55,go_sem]) rfl ⟨by rw [HE2.out];rfl,H5.out.fm.mod,by rw [HE2.out];show Row _ bx _ (Aw s v);rw [<- Ph.out];exact H5.out.fm.Ar⟩
   | true =>
     have e:=HE.out;rw [HA.out.1,if_neg (by rw [HWW.out];decide)] at e;have HE2:=hid e;obtain ⟨hA0,hA1⟩:=Fe HWW.out;obtain ⟨An,rfl⟩:∃ n:Nat,A = n:=⟨A.toNat,by omega⟩;obtain ⟨sz,rfl⟩:∃ n:Nat,size = n:=⟨size.toNat,by rcases Xy.out.1 with h | h | h | h <;> omega⟩
     have hst:k = 2->An + sz <= 256:=fun h2=>by
      subst h2;unfold Xc at hA1;rw [if_pos rfl] at hA1;omega
     have HST:=hid hst;clear e hA0 hA1 hst HE;obtain ⟨c0,c1,c2,c3,c4,c5,c6,c7⟩:=H5.out.fm.cells;obtain ⟨⟨b0,b1,b2,b3⟩,_⟩:=H5.out.ra.four;obtain ⟨B,hB⟩:∃ B:Bool,B = ((k == 2) && (op == 22) && ((sz:Int) == 8) && ((An:Int) % 8 == 0) && decide (2 <= (F6 s.sl An).p.k)):=⟨_,rfl⟩;have HBB:=hid hB;clear hB;go_upto_region 7 with fail
     go_cut [62] (fun s62 wx=>s62 = .bool B/\FP w bx w.heap.size q cs op Ad reg sz d r off Aa [.int .i64 k,.int .i64 t,.int .i64 o,.int .i64 x] wx)
     case first=>
      cases q1:(k == 2) with
      | false =>
        go_wp2_with fail;go_meet
        case rel=>exact ⟨by rw [HBB.out,q1];simp,H5.out⟩
      | true =>
        cases q2:(op == 22) with
        | false =>
          go_wp2_with fail;go_meet
          case rel=>exact ⟨by rw [HBB.out,q1,q2];simp,H5.out⟩
        | true =>
          cases q3:((sz:Int) == 8) with
          | false =>
            go_wp2_with fail;go_meet
            case rel=>exact ⟨by rw [HBB.out,q1,q2,q3];simp,H5.out⟩
          | true =>
            cases q4:((An:Int) % 8 == 0) with
            | false =>
              go_wp2_with fail;go_meet
              case rel=>exact ⟨by rw [HBB.out,q1,q2,q3,q4];simp,H5.out⟩
            | true =>
              have hk2:k = 2:=by simpa using q1
              have hs8:(sz:Int) = 8:=by simpa using q3
              have Afo:An + 8 <= 256:=by have:=HST.out hk2;omega
              have hM5:=(HM.out.same (H5.out).fm.mod (by have h:=(H5.out).fm.Ar;rw [Ph.out] at h;exact h));obtain ⟨p0,p1,p2,p3⟩:=hM5.Zz (An / 8) (by omega);have hw8:=Ano An (by omega);have hq2:((An / 8:Nat):Int) < 32:=by clear hw8;omega
              obtain ⟨X,hX⟩:∃ X,X = (s.sl.getD (An / 8) Cc).p:=⟨_,rfl⟩;rw [<- hX] at p0 p1 p2 p3;have hXs:(F6 s.sl An).p = X:=hX.symm;obtain ⟨Q,hQ⟩:∃ Q,Q = An / 8:=⟨_,rfl⟩;rw [<- hQ] at p0 p1 p2 p3 hw8 hq2;have hq1:(0:Int) <= (Q:Int):=Int.natCast_nonneg _;obtain ⟨xk,xt,xo,xx⟩:=X;simp only at p0 p1 p2 p3;have HXS:=hid hXs;have Acp:=H5.out.fm.Ar.lt;clear hX hXs hQ Afo hs8 hM5 hk2;go_wp2_with (go_at_call 72;refine (Ce _ _ _ _ _).mono ?_;rintro e w' ⟨rfl,hb⟩;have hF7:=H5.out.next hb);go_meet
              case rel=>exact ⟨by rw [HBB.out,q1,q2,q3,q4,HXS.out];simp,hF7⟩
     case rest=>
      obtain ⟨rfl,hF7⟩:=hcut;have H7:=hid hF7;clear hF7 c0 c1 c2 c3 c4 c5 c6 c7 b0 b1 b2 b3 H5
      cases B with
      | true =>
        have hb6:=HBB.out.symm;simp only [Bool.and_eq_true,decide_eq_true_eq,beq_iff_eq] at hb6;obtain ⟨⟨⟨⟨e1,e2⟩,e3⟩,e4⟩,e5⟩:=hb6;have hs8:sz = 8:=by omega
        have e:=HE2.out;rw [if_pos (by refine ⟨e1,e2,by omega,by omega,?_⟩;rw [Int.toNat_natCast];exact e5),Int.toNat_natCast] at e;have Afo:An + 8 <= 256:=by have:=HST.out e1;omega
        have hM5:=(HM.out.same (H7.out).fm.mod (by have h:=(H7.out).fm.Ar;rw [Ph.out] at h;exact h));obtain ⟨p0,p1,p2,p3⟩:=hM5.Zz (An / 8) (by omega);have hw8:=Ano An (by omega);have hq2:((An / 8:Nat):Int) < 32:=by clear hw8;omega
        obtain ⟨X,hX⟩:∃ X,X = (s.sl.getD (An / 8) Cc).p:=⟨_,rfl⟩;rw [<- hX] at p0 p1 p2 p3;rw [show (F6 s.sl An).p = X from hX.symm] at e;obtain ⟨Q,hQ⟩:∃ Q,Q = An / 8:=⟨_,rfl⟩;rw [<- hQ] at p0 p1 p2 p3 hw8 hq2;have hq1:(0:Int) <= (Q:Int):=Int.natCast_nonneg _;obtain ⟨xk,xt,xo,xx⟩:=X;simp only at p0 p1 p2 p3;have HE3:=hid e;have Acp:=H7.out.fm.Ar.lt;have An3:=H7.out.fm.ins.lt;obtain ⟨c0,c1,c2,c3,c4,c5,c6,c7⟩:=H7.out.fm.cells;obtain ⟨_,_,_,_,⟨_,_,_,_⟩,_,_,_,_⟩:=H7.out.fm.row4 hl d hd;have hF:=(H7.out.fm.next (Below.refl _ _).drew).D9 (423 + d * 4) (.int .i64 xk) (.int .i64 xt) (.int .i64 xo) (.int .i64 xx);have HFF:=hid hF;clear hX hQ Afo hM5 e e1 e2 e3 e4 e5 hs8 hF;go_upto_region 8 with fail
        go_region
        go_wp2
        exact bodyPost_ret (v:=.tuple #[.int .i64 0,.int .i64 0]) (by simp [results,results55,go_sem]) rfl ⟨by rw [HE3.out],HFF.out.mod,by
         rw [HE3.out];have h:=HFF.out.Ar;rw [Ph.out] at h;have hs4:=Ayn.out ⟨xk,xt,xo,xx⟩;unfold Proofs.YtjacnhnaoenelaaGreat.D9 at hs4;rw [hs4] at h;exact h⟩
      | false =>
        have e:=HE2.out
        rw [if_neg (by
         rintro ⟨e1,e2,e3,e4,e5⟩;rw [Int.toNat_natCast] at e5;have hb:=HBB.out;have e4':((An:Int) % 8 == 0) = true:=by simpa using e4
         have e3':((sz:Int) == 8) = true:=by simpa using e3
         rw [e3',e4',decide_eq_true e5,show (k == 2) = true by simpa using e1,show (op == 22) = true by simpa using e2] at hb
         cases hb)] at e
        obtain ⟨er,her⟩:∃ er,er = Gs s ⟨k,t,o,x⟩ An sz:=⟨_,rfl⟩;rw [<- her] at e;have HE3:=hid e;have HR:=hid (Tn ⟨k,t,o,x⟩ An sz HST.out (by have:=HA.out.2;omega) (by rcases Xy.out.1 with h | h | h | h <;> omega) (fun y hy=>(Afn.out.slots y hy).2) wc.drew ((HM.out.same (H7.out).fm.mod (by have h:=(H7.out).fm.Ar;rw [Ph.out] at h;exact h)).next (Below.refl _ _).drew));rw [<- her] at HR;unfold Val.agg at HR;simp only at HR;clear e her;go_upto_region 10 with fail
        go_cut [8] (fun s8 wx=>s8 = .int .i64 er/\FP w bx w.heap.size q cs op Ad reg sz d r off Aa [.int .i64 k,.int .i64 t,.int .i64 o,.int .i64 x] wx)
        case first=>
         have hks:=((show Ob w bx w.heap.size q op Ad reg sz d r off Aa [.int .i64 k,.int .i64 t,.int .i64 o,.int .i64 x] wc from ⟨_,H7.out,hl⟩).next (Below.refl _ _).drew).kk
         go_region_held3 (fun w'=>(w'.cell? ⟨w.heap.size,0,none⟩ = some (.int .i64 op)/\w'.cell? ⟨w.heap.size,3,none⟩ = some (.int .i64 sz)/\w'.cell? ⟨w.heap.size,4,none⟩ = some (.int .i64 d))/\(w'.cell? ⟨q,0,none⟩ = some (.int .i64 k)/\w'.cell? ⟨q,1,none⟩ = some (.int .i64 t)/\w'.cell? ⟨q,2,none⟩ = some (.int .i64 o)/\w'.cell? ⟨q,3,none⟩ = some (.int .i64 x))/\Ob w bx w.heap.size q op Ad reg sz d r off Aa [.int .i64 k,.int .i64 t,.int .i64 o,.int .i64 x] w')
          (first
      | with_reducible assumption
      | with_reducible exact Ob.nn (by with_reducible assumption) hb
      | with_reducible exact Ob.nn (by with_reducible assumption) hbN
      | with_reducible exact Ob.ss (by with_reducible assumption) _ _ _ _ _
      | fail "none")
          (first
            | (go_at_call 74;refine (HR.out).mono ?_;rintro e w' ⟨rfl,hb⟩;have hF8:=(H7.out.next (Below.refl _ _).drew).next hb))
         rename_i C9;clear C9 hks;go_wp2_with fail;go_meet
         case rel=>exact ⟨rfl,hF8⟩
        case rest=>
         obtain ⟨rfl,hF8⟩:=hcut;have H8:=hid hF8;clear hF8 H7 HR
         by_cases Aab:er = 0
         ·subst Aab;have hgt:=Akz ⟨k,t,o,x⟩ Yr.out Afn.out An sz (op == 23) HWW.out wc.drew ((HM.out.same (H8.out).fm.mod (by have h:=(H8.out).fm.Ar;rw [Ph.out] at h;exact h)).next (Below.refl _ _).drew);obtain ⟨G,hG⟩:∃ G,G = Vl (op == 23) (D7 fx s ⟨k,t,o,x⟩ An sz):=⟨_,rfl⟩;rw [<- hG] at hgt;have e:=HE3.out;rw [<- hG] at e;have HE4:=hid e;have HGT:=hid hgt;unfold Val.agg at HGT;simp only at HGT;obtain ⟨T,hT⟩:∃ T:Bool,(op == 23) = T:=⟨_,rfl⟩;rw [hT] at HGT;clear e hG hgt;go_upto_region 12 with fail;have hks:=((show Ob w bx w.heap.size q op Ad reg sz d r off Aa [.int .i64 k,.int .i64 t,.int .i64 o,.int .i64 x] wc from ⟨_,H8.out,hl⟩).next (Below.refl _ _).drew).kk
          go_region_held3 (fun w'=>(w'.cell? ⟨w.heap.size,0,none⟩ = some (.int .i64 op)/\w'.cell? ⟨w.heap.size,3,none⟩ = some (.int .i64 sz)/\w'.cell? ⟨w.heap.size,4,none⟩ = some (.int .i64 d))/\(w'.cell? ⟨q,0,none⟩ = some (.int .i64 k)/\w'.cell? ⟨q,1,none⟩ = some (.int .i64 t)/\w'.cell? ⟨q,2,none⟩ = some (.int .i64 o)/\w'.cell? ⟨q,3,none⟩ = some (.int .i64 x))/\Ob w bx w.heap.size q op Ad reg sz d r off Aa [.int .i64 k,.int .i64 t,.int .i64 o,.int .i64 x] w')
           (first
      | with_reducible assumption
      | with_reducible exact Ob.nn (by with_reducible assumption) hb
      | with_reducible exact Ob.nn (by with_reducible assumption) hbN
      | with_reducible exact Ob.ss (by with_reducible assumption) _ _ _ _ _
      | fail "none")
           (first
             | (go_at_call 75;refine (HGT.out).mono ?_;rintro e w' ⟨rfl,hb⟩;have hF9:=(H8.out.next (Below.refl _ _).drew).next hb)
             | (go_at_call 35;refine (Gh _ _).mono ?_;rintro e wN ⟨rfl,hbN⟩;have hFN:=hF9.next hbN;obtain ⟨_,_,_,_,⟨_,_,_,_⟩,_,_,_,_⟩:=hFN.fm.row4 hl d hd))
          rename_i C9;have HF2:=hid (hFN.fm.D9 (423 + d * 4) (.int .i64 1) (.int .i64 0) (.int .i64 0) (.int .i64 G));clear C9 hks hFN hF9;generalize World.setCell _ _ _ = w4 at HF2 ⊢;go_wp2
          exact bodyPost_ret (v:=.tuple #[.int .i64 0,.int .i64 0]) (by simp [results,results55,go_sem]) rfl ⟨by rw [HE4.out];rfl,HF2.out.mod,by
           rw [HE4.out];have h:=HF2.out.Ar;rw [Ph.out] at h;have hs4:=Ayn.out (nval G);unfold Proofs.YtjacnhnaoenelaaGreat.D9 at hs4;exact hs4 ▸ h⟩
         ·have q0:(er == 0) = false:=by simpa using Aab
          have HER:=hid Aab;clear Aab;go_wp2_with fail
          exact bodyPost_ret (v:=.tuple #[.int .i64 0,.int .i64 er]) (by simp [results,results55,go_sem]) rfl ⟨by rw [HE3.out];rfl,H8.out.fm.mod,by
           rw [HE3.out];show Row _ bx _ (Aw (if er = 0 then _ else s) v);rw [if_neg HER.out,<- Ph.out];exact H8.out.fm.Ar⟩
end
end Go.Proofs.YtjacnhnaoenelaaGreat
