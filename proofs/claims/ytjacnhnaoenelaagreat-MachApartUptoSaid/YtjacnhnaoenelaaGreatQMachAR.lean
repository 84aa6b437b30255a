import Derived.Test.YtjacnhnaoenelaaGreatQTake
import Derived.Test.YtjacnhnaoenelaaGreatQMachAP
import Derived.Test.YtjacnhnaoenelaaGreatQMachAN
set_option maxRecDepth 100000
set_option maxHeartbeats 16000000
namespace Go.Proofs.YtjacnhnaoenelaaGreat
open Lib (hid)
open Go.Proofs.Tryz
open Go.RowKit
set_option linter.unusedVariables false
set_option linter.unusedSimpArgs false
section
variable {w w1 w2:World} {bx q:Nat} {cs:List Value} {op:Int} {Ad reg:Bool} {size off Aa:Int} {d r:Nat} {k t o x k1 t1 o1 x1 k0 t0 o0 x0:Int}
theorem FP.ka (hu1:Ie cs r ⟨k1,t1,o1,x1⟩) (hu0:Ie cs 0 ⟨k0,t0,o0,x0⟩) (h:FP w bx w.heap.size q cs op Ad reg size d r off Aa [.int .i64 k,.int .i64 t,.int .i64 o,.int .i64 x] w1):((w1.cell? ⟨w.heap.size,0,none⟩ = some (.int .i64 op)/\w1.cell? ⟨w.heap.size,1,none⟩ = some (.bool Ad)/\w1.cell? ⟨w.heap.size,2,none⟩ = some (.bool reg)/\w1.cell? ⟨w.heap.size,3,none⟩ = some (.int .i64 size)/\w1.cell? ⟨w.heap.size,4,none⟩ = some (.int .i64 d)/\w1.cell? ⟨w.heap.size,5,none⟩ = some (.int .i64 r)/\w1.cell? ⟨w.heap.size,6,none⟩ = some (.int .i64 off)/\w1.cell? ⟨w.heap.size,7,none⟩ = some (.int .i64 Aa))/\(w1.cell? ⟨q,0,none⟩ = some (.int .i64 k)/\w1.cell? ⟨q,1,none⟩ = some (.int .i64 t)/\w1.cell? ⟨q,2,none⟩ = some (.int .i64 o)/\w1.cell? ⟨q,3,none⟩ = some (.int .i64 x))/\(w1.cell? ⟨bx,423 + r * 4,none⟩ = some (.int .i64 k1)/\w1.cell? ⟨bx,423 + r * 4 + 1,none⟩ = some (.int .i64 t1)/\w1.cell? ⟨bx,423 + r * 4 + 2,none⟩ = some (.int .i64 o1)/\w1.cell? ⟨bx,423 + r * 4 + 3,none⟩ = some (.int .i64 x1))/\(w1.cell? ⟨bx,423,none⟩ = some (.int .i64 k0)/\w1.cell? ⟨bx,424,none⟩ = some (.int .i64 t0)/\w1.cell? ⟨bx,425,none⟩ = some (.int .i64 o0)/\w1.cell? ⟨bx,426,none⟩ = some (.int .i64 x0))/\FP w bx w.heap.size q cs op Ad reg size d r off Aa [.int .i64 k,.int .i64 t,.int .i64 o,.int .i64 x] w1):=
 ⟨h.fm.cells,h.ra.four.1,hu1.row h.fm.Ar,hu0.row h.fm.Ar,h⟩
theorem FP.na (hu1:Ie cs r ⟨k1,t1,o1,x1⟩) (hu0:Ie cs 0 ⟨k0,t0,o0,x0⟩) (h:((w1.cell? ⟨w.heap.size,0,none⟩ = some (.int .i64 op)/\w1.cell? ⟨w.heap.size,1,none⟩ = some (.bool Ad)/\w1.cell? ⟨w.heap.size,2,none⟩ = some (.bool reg)/\w1.cell? ⟨w.heap.size,3,none⟩ = some (.int .i64 size)/\w1.cell? ⟨w.heap.size,4,none⟩ = some (.int .i64 d)/\w1.cell? ⟨w.heap.size,5,none⟩ = some (.int .i64 r)/\w1.cell? ⟨w.heap.size,6,none⟩ = some (.int .i64 off)/\w1.cell? ⟨w.heap.size,7,none⟩ = some (.int .i64 Aa))/\(w1.cell? ⟨q,0,none⟩ = some (.int .i64 k)/\w1.cell? ⟨q,1,none⟩ = some (.int .i64 t)/\w1.cell? ⟨q,2,none⟩ = some (.int .i64 o)/\w1.cell? ⟨q,3,none⟩ = some (.int .i64 x))/\(w1.cell? ⟨bx,423 + r * 4,none⟩ = some (.int .i64 k1)/\w1.cell? ⟨bx,423 + r * 4 + 1,none⟩ = some (.int .i64 t1)/\w1.cell? ⟨bx,423 + r * 4 + 2,none⟩ = some (.int .i64 o1)/\w1.cell? ⟨bx,423 + r * 4 + 3,none⟩ = some (.int .i64 x1))/\(w1.cell? ⟨bx,423,none⟩ = some (.int .i64 k0)/\w1.cell? ⟨bx,424,none⟩ = some (.int .i64 t0)/\w1.cell? ⟨bx,425,none⟩ = some (.int .i64 o0)/\w1.cell? ⟨bx,426,none⟩ = some (.int .i64 x0))/\FP w bx w.heap.size q cs op Ad reg size d r off Aa [.int .i64 k,.int .i64 t,.int .i64 o,.int .i64 x] w1)) (hb:Below w1.heap.size w1 w2):((w2.cell? ⟨w.heap.size,0,none⟩ = some (.int .i64 op)/\w2.cell? ⟨w.heap.size,1,none⟩ = some (.bool Ad)/\w2.cell? ⟨w.heap.size,2,none⟩ = some (.bool reg)/\w2.cell? ⟨w.heap.size,3,none⟩ = some (.int .i64 size)/\w2.cell? ⟨w.heap.size,4,none⟩ = some (.int .i64 d)/\w2.cell? ⟨w.heap.size,5,none⟩ = some (.int .i64 r)/\w2.cell? ⟨w.heap.size,6,none⟩ = some (.int .i64 off)/\w2.cell? ⟨w.heap.size,7,none⟩ = some (.int .i64 Aa))/\(w2.cell? ⟨q,0,none⟩ = some (.int .i64 k)/\w2.cell? ⟨q,1,none⟩ = some (.int .i64 t)/\w2.cell? ⟨q,2,none⟩ = some (.int .i64 o)/\w2.cell? ⟨q,3,none⟩ = some (.int .i64 x))/\(w2.cell? ⟨bx,423 + r * 4,none⟩ = some (.int .i64 k1)/\w2.cell? ⟨bx,423 + r * 4 + 1,none⟩ = some (.int .i64 t1)/\w2.cell? ⟨bx,423 + r * 4 + 2,none⟩ = some (.int .i64 o1)/\w2.cell? ⟨bx,423 + r * 4 + 3,none⟩ = some (.int .i64 x1))/\(w2.cell? ⟨bx,423,none⟩ = some (.int .i64 k0)/\w2.cell? ⟨bx,424,none⟩ = some (.int .i64 t0)/\w2.cell? ⟨bx,425,none⟩ = some (.int .i64 o0)/\w2.cell? ⟨bx,426,none⟩ = some (.int .i64 x0))/\FP w bx w.heap.size q cs op Ad reg size d r off Aa [.int .i64 k,.int .i64 t,.int .i64 o,.int .i64 x] w2):=
 (h.2.2.2.2.next hb).ka hu1 hu0
end
section
variable {w w1 w2:World} {ib ab bb bx:Nat} {op:Int} {Ad reg:Bool} {size dst src off Aa:Int} {a0 a1 a2 a3:Value} {b:List Value}
theorem RW.ka (h:RW w ib ab bb (Ed op Ad reg size dst src off Aa) [a0,a1,a2,a3] b w1):(w1.cell? ⟨ib,0,none⟩ = some (.int .i64 op)/\w1.cell? ⟨ib,1,none⟩ = some (.bool Ad)/\w1.cell? ⟨ib,2,none⟩ = some (.bool reg)/\w1.cell? ⟨ib,3,none⟩ = some (.int .i64 size)/\w1.cell? ⟨ib,4,none⟩ = some (.int .i64 dst)/\w1.cell? ⟨ib,5,none⟩ = some (.int .i64 src)/\w1.cell? ⟨ib,6,none⟩ = some (.int .i64 off)/\w1.cell? ⟨ib,7,none⟩ = some (.int .i64 Aa))/\(w1.cell? ⟨ab,0,none⟩ = some a0/\w1.cell? ⟨ab,1,none⟩ = some a1/\w1.cell? ⟨ab,2,none⟩ = some a2/\w1.cell? ⟨ab,3,none⟩ = some a3)/\RW w ib ab bb (Ed op Ad reg size dst src off Aa) [a0,a1,a2,a3] b w1:=
 ⟨⟨by rw [h.ri.cell];rfl,by rw [h.ri.cell];rfl,by rw [h.ri.cell];rfl,by rw [h.ri.cell];rfl,by rw [h.ri.cell];rfl,by rw [h.ri.cell];rfl,by rw [h.ri.cell];rfl,by rw [h.ri.cell];rfl⟩,h.ra.four.1,h⟩
theorem RW.na (h:(w1.cell? ⟨ib,0,none⟩ = some (.int .i64 op)/\w1.cell? ⟨ib,1,none⟩ = some (.bool Ad)/\w1.cell? ⟨ib,2,none⟩ = some (.bool reg)/\w1.cell? ⟨ib,3,none⟩ = some (.int .i64 size)/\w1.cell? ⟨ib,4,none⟩ = some (.int .i64 dst)/\w1.cell? ⟨ib,5,none⟩ = some (.int .i64 src)/\w1.cell? ⟨ib,6,none⟩ = some (.int .i64 off)/\w1.cell? ⟨ib,7,none⟩ = some (.int .i64 Aa))/\(w1.cell? ⟨ab,0,none⟩ = some a0/\w1.cell? ⟨ab,1,none⟩ = some a1/\w1.cell? ⟨ab,2,none⟩ = some a2/\w1.cell? ⟨ab,3,none⟩ = some a3)/\RW w ib ab bb (Ed op Ad reg size dst src off Aa) [a0,a1,a2,a3] b w1) (hb:Below w1.heap.size w1 w2):(w2.cell? ⟨ib,0,none⟩ = some (.int .i64 op)/\w2.cell? ⟨ib,1,none⟩ = some (.bool Ad)/\w2.cell? ⟨ib,2,none⟩ = some (.bool reg)/\w2.cell? ⟨ib,3,none⟩ = some (.int .i64 size)/\w2.cell? ⟨ib,4,none⟩ = some (.int .i64 dst)/\w2.cell? ⟨ib,5,none⟩ = some (.int .i64 src)/\w2.cell? ⟨ib,6,none⟩ = some (.int .i64 off)/\w2.cell? ⟨ib,7,none⟩ = some (.int .i64 Aa))/\(w2.cell? ⟨ab,0,none⟩ = some a0/\w2.cell? ⟨ab,1,none⟩ = some a1/\w2.cell? ⟨ab,2,none⟩ = some a2/\w2.cell? ⟨ab,3,none⟩ = some a3)/\RW w ib ab bb (Ed op Ad reg size dst src off Aa) [a0,a1,a2,a3] b w2:=(h.2.2.next hb).ka
structure RI (ib bx:Nat) (i:List Value) (w':World):Prop where
 ri:Row w' ib 70 i
 ne:ib ≠ bx
theorem RI.k (h:RI ib bx (Ed op Ad reg size dst src off Aa) w1):w1.cell? ⟨ib,5,none⟩ = some (.int .i64 src)/\RI ib bx (Ed op Ad reg size dst src off Aa) w1:=⟨by rw [h.ri.cell];rfl,h⟩
theorem RI.next (h:RI ib bx (Ed op Ad reg size dst src off Aa) w1) (hb:Below w1.heap.size w1 w2):RI ib bx (Ed op Ad reg size dst src off Aa) w2:=⟨h.ri.below hb h.ri.lt,h.ne⟩
theorem RI.n (h:w1.cell? ⟨ib,5,none⟩ = some (.int .i64 src)/\RI ib bx (Ed op Ad reg size dst src off Aa) w1) (hb:Below w1.heap.size w1 w2):w2.cell? ⟨ib,5,none⟩ = some (.int .i64 src)/\RI ib bx (Ed op Ad reg size dst src off Aa) w2:=(h.2.next hb).k
theorem RI.s (h:w1.cell? ⟨ib,5,none⟩ = some (.int .i64 src)/\RI ib bx (Ed op Ad reg size dst src off Aa) w1) (k1 k2 k3 k4:Nat) (y0 y1 y2 y3:Value) :
 ((((w1.setCell ⟨bx,k1,none⟩ y0).setCell ⟨bx,k2,none⟩ y1).setCell ⟨bx,k3,none⟩ y2).setCell ⟨bx,k4,none⟩ y3).cell? ⟨ib,5,none⟩ = some (.int .i64 src)/\RI ib bx (Ed op Ad reg size dst src off Aa) ((((w1.setCell ⟨bx,k1,none⟩ y0).setCell ⟨bx,k2,none⟩ y1).setCell ⟨bx,k3,none⟩ y2).setCell ⟨bx,k4,none⟩ y3):=
 RI.k ⟨(((h.2.ri.other _ _ h.2.ne).other _ _ h.2.ne).other _ _ h.2.ne).other _ _ h.2.ne,h.2.ne⟩
end
section
variable {base:Nat} {w0:World} {fx:Ak} {s:Mst} {bx:Nat} {v:Bc}
theorem MS.Avp {w:World} (h:MS base w0 fx s bx v w) (d:Nat) (hd:d < 11) (u:Val) :
 MS base w0 fx (s.Hw d u) bx v ((((w.setCell ⟨bx,423 + d * 4,none⟩ (.int .i64 u.k)).setCell ⟨bx,423 + d * 4 + 1,none⟩ (.int .i64 u.t)).setCell ⟨bx,423 + d * 4 + 2,none⟩ (.int .i64 u.o)).setCell ⟨bx,423 + d * 4 + 3,none⟩ (.int .i64 u.x)):=by
 have hm:=((((Mod.refl w bx).set (423 + d * 4) (.int .i64 u.k)).set (423 + d * 4 + 1) (.int .i64 u.t)).set (423 + d * 4 + 2) (.int .i64 u.o)).set (423 + d * 4 + 3) (.int .i64 u.x);have hr:=(((h.box.put (423 + d * 4) (.int .i64 u.k)).put (423 + d * 4 + 1) (.int .i64 u.t)).put (423 + d * 4 + 2) (.int .i64 u.o)).put (423 + d * 4 + 3) (.int .i64 u.x);have hs:=h.D9 d hd u;unfold Proofs.YtjacnhnaoenelaaGreat.D9 at hs;rw [hs] at hr;exact h.mod hm s.sl (s.rg.set d u) s.at' s.steps s.done h.Xx (by rw [List.length_set];exact h.Oj) hr
theorem MS.Ayw {w:World} (h:MS base w0 fx s bx v w) (k t o x:Int) :
 MS base w0 fx (s.Hw 0 ⟨k,t,o,x⟩) bx v ((((w.setCell ⟨bx,423,none⟩ (.int .i64 k)).setCell ⟨bx,424,none⟩ (.int .i64 t)).setCell ⟨bx,425,none⟩ (.int .i64 o)).setCell ⟨bx,426,none⟩ (.int .i64 x)):=h.Avp 0 (by decide) ⟨k,t,o,x⟩
theorem MS.Avq {w:World} (h:MS base w0 fx s bx v w) (d:Nat) (hd:d < 11):∃ a b c x,(w.cell? ⟨bx,423 + d * 4,none⟩ = some a/\w.cell? ⟨bx,423 + d * 4 + 1,none⟩ = some b/\w.cell? ⟨bx,423 + d * 4 + 2,none⟩ = some c/\w.cell? ⟨bx,423 + d * 4 + 3,none⟩ = some x) /\
 w.frozen? ⟨bx,423 + d * 4,none⟩ = false/\w.frozen? ⟨bx,423 + d * 4 + 1,none⟩ = false/\w.frozen? ⟨bx,423 + d * 4 + 2,none⟩ = false/\w.frozen? ⟨bx,423 + d * 4 + 3,none⟩ = false:=
 have hl:=h.len
 ⟨(Aw s v)[423 + d * 4],(Aw s v)[423 + d * 4 + 1],(Aw s v)[423 + d * 4 + 2],(Aw s v)[423 + d * 4 + 3],⟨by rw [h.box.cell];simp [hl],by rw [h.box.cell];simp [hl],by rw [h.box.cell];simp [hl],by rw [h.box.cell];simp [hl]⟩,h.box.free _,h.box.free _,h.box.free _,h.box.free _⟩
theorem MS.cell0 {w:World} (h:MS base w0 fx s bx v w):∃ a b c x,(w.cell? ⟨bx,423,none⟩ = some a/\w.cell? ⟨bx,424,none⟩ = some b/\w.cell? ⟨bx,425,none⟩ = some c/\w.cell? ⟨bx,426,none⟩ = some x) /\
 w.frozen? ⟨bx,423,none⟩ = false/\w.frozen? ⟨bx,424,none⟩ = false/\w.frozen? ⟨bx,425,none⟩ = false/\w.frozen? ⟨bx,426,none⟩ = false:=h.Avq 0 (by decide)
theorem Aod (op:Int) (Ad reg:Bool) (size off Aa:Int) (d r:Nat) (hd:d < 11) (hr:r < 11) (k t o x k1 t1 o1 x1 k0 t0 o0 x0:Int) (hp:s.rg[d]? = some ⟨k,t,o,x⟩) (hp1:s.rg[r]? = some ⟨k1,t1,o1,x1⟩) (hp0:s.rg[0]? = some ⟨k0,t0,o0,x0⟩) (hx0:Ey x0) (hk:Kinds Aa)
 (hok:2 <= k->Gf fx ⟨k,t,o,x⟩) (hm:J4 fx s) (hsz:size = 1\/size = 2\/size = 4\/size = 8) (hoff : -32768 <= off/\off <= 32767)
 (w:World) (hM:MS base w0 fx s bx v w) :
 Calls prog 57 #[.pointer (some ⟨bx,0,none⟩),.agg #[.int .i64 op,.bool Ad,.bool reg,.int .i64 size,.int .i64 d,.int .i64 r,.int .i64 off,.int .i64 Aa]] w fun e w'=>
  e = .returned (.tuple #[.int .i64 0,.int .i64 (Mc fx s ⟨op,Ad,reg,size,d,r,off,Aa⟩).er])/\∃ v',MS base w0 fx (Mc fx s ⟨op,Ad,reg,size,d,r,off,Aa⟩).s bx v' w'/\Jd v.ρ w w'/\∀ q,q < w.heap.size->v'.ρ q = v.ρ q:=by
 have hpr:s.reg d = ⟨k,t,o,x⟩:=by unfold Mst.reg;rw [Int.toNat_natCast,hp];rfl
 have Ayx:s.reg r = ⟨k1,t1,o1,x1⟩:=by unfold Mst.reg;rw [Int.toNat_natCast,hp1];rfl
 have Aqy:s.reg 0 = ⟨k0,t0,o0,x0⟩:=by unfold Mst.reg;rw [show (0:Int).toNat = 0 from rfl,hp0];rfl
 have hl:=hM.len;have HPP:=hid (And.intro hp1 hp0)
 have hrc:∀ (n:Nat) (u:Val),n < 11->s.rg[n]? = some u->Ie (Aw s v) n u:=fun n u hn hp=>by
  have:=hM.lu n hn;rw [List.getElem?_eq_getElem (by rw [hM.Oj];exact hn)] at hp;rw [Option.some.inj hp] at this;exact this
 have hu:=hrc d _ hd hp;have hu1:=hrc r _ hr hp1;have hu0:=hrc 0 _ (by decide) hp0;obtain ⟨D,hD⟩:∃ D,D = Mc fx s ⟨op,Ad,reg,size,d,r,off,Aa⟩:=⟨_,rfl⟩;rw [<- hD];unfold Mc at hD;simp only [hpr,Ayx,Aqy] at hD;have hj1:(0:Int) <= (d:Int):=Int.natCast_nonneg _;have hj2:(d:Int) < 11:=by omega
 have hi1:(0:Int) <= (r:Int):=Int.natCast_nonneg _;have hi2:(r:Int) < 11:=by omega
 have HF:=hid (FM.begin hM.box op Ad reg size d r off Aa);have HM:=hid hM;have HD:=hid hD;have HOK:=hid hok;have Afn:=hid hm;have Xy:=hid (And.intro hsz (And.intro hoff (And.intro hx0 hk)));clear hM hD hpr Ayx Aqy hok hm hp hp1 hp0 hsz hoff hx0 hk hrc;obtain ⟨cs,hcs⟩:∃ cs,cs = Aw s v:=⟨_,rfl⟩;rw [<- hcs] at HF hl hu hu1 hu0;have HRB:=hid HM.out.rb;have HNE:Hid (w.heap.size ≠ bx):=hid (fun h=>absurd HM.out.box.lt (by omega));have Ph:=hid hcs;have y5:=hid hu1;have HU0:=hid hu0;clear hcs hu1 hu0;go_enter func57,ntmps57;go_upto_region 1 with fail;generalize World.alloc _ _ = w1 at HF ⊢;obtain ⟨c0,c1,c2,c3,c4,c5,c6,c7⟩:=HF.out.cells;obtain ⟨v0,v1,v2,v3⟩:=hu.row HF.out.Ar;simp only at v0 v1 v2 v3;have hlt:=HF.out.Ar.lt;have hlt2:=HF.out.ins.lt
 go_region
 go_upto_region 2 with fail;clear c0 c1 c2 c3 c4 c5 c6 c7 v0 v1 v2 v3;have HP:=hid ((HF.out.made [.int .i64 k,.int .i64 t,.int .i64 o,.int .i64 x]).next (Below.refl _ _).drew);generalize hq:w1.heap.size = q at HP ⊢;generalize World.drew _ = w2 at HP ⊢;clear hlt hlt2 HF hq hu;obtain ⟨⟨c0,c1,c2,c3,c4,c5,c6,c7⟩,⟨b0,b1,b2,b3⟩,⟨e0,e1,e2,e3⟩,⟨z0,z1,z2,z3⟩,_⟩:=HP.out.ka y5.out HU0.out;obtain ⟨A0,hA0⟩:∃ A0,A0 = wrap64 (x + off):=⟨_,rfl⟩;have HA0:=hid hA0;have hA1:=hA0.symm;clear hA0;go_upto_region 3 with fail;obtain ⟨G,hG⟩:∃ G:Bool,G = (decide (k < 2) || !(k1 == 1) || ((Aa == 241) && !(k0 == 1))):=⟨_,rfl⟩;have HG:=hid hG;clear hG;have hlt:=HP.out.fm.Ar.lt;clear c0 c1 c2 c3 c4 c5 c6 c7 b0 b1 b2 b3 e0 e1 e2 e3 z0 z1 z2 z3
 try simp only [hA1]
 go_cut [22] (fun s22 wx=>s22 = .bool G/\FP w bx w.heap.size q cs op Ad reg size d r off Aa [.int .i64 k,.int .i64 t,.int .i64 o,.int .i64 x] wx)
 case first=>
  have hks:=(HP.out.next (Below.refl _ _).drew).ka y5.out HU0.out
  cases q0:decide (2 <= k) with
  | false =>
    have hG:G = true:=by rw [HG.out,show decide (k < 2) = true by simp at q0 ⊢;omega];rfl
    refine wp_region_held_drew (S:=(fun w'=>((w'.cell? ⟨w.heap.size,0,none⟩ = some (.int .i64 op)/\w'.cell? ⟨w.heap.size,1,none⟩ = some (.bool Ad)/\w'.cell? ⟨w.heap.size,2,none⟩ = some (.bool reg)/\w'.cell? ⟨w.heap.size,3,none⟩ = some (.int .i64 size)/\w'.cell? ⟨w.heap.size,4,none⟩ = some (.int .i64 d)/\w'.cell? ⟨w.heap.size,5,none⟩ = some (.int .i64 r)/\w'.cell? ⟨w.heap.size,6,none⟩ = some (.int .i64 off)/\w'.cell? ⟨w.heap.size,7,none⟩ = some (.int .i64 Aa))/\(w'.cell? ⟨q,0,none⟩ = some (.int .i64 k)/\w'.cell? ⟨q,1,none⟩ = some (.int .i64 t)/\w'.cell? ⟨q,2,none⟩ = some (.int .i64 o)/\w'.cell? ⟨q,3,none⟩ = some (.int .i64 x))/\(w'.cell? ⟨bx,423 + r * 4,none⟩ = some (.int .i64 k1)/\w'.cell? ⟨bx,423 + r * 4 + 1,none⟩ = some (.int .i64 t1)/\w'.cell? ⟨bx,423 + r * 4 + 2,none⟩ = some (.int .i64 o1)/\w'.cell? ⟨bx,423 + r * 4 + 3,none⟩ = some (.int .i64 x1))/\(w'.cell? ⟨bx,423,none⟩ = some (.int .i64 k0)/\w'.cell? ⟨bx,424,none⟩ = some (.int .i64 t0)/\w'.cell? ⟨bx,425,none⟩ = some (.int .i64 o0)/\w'.cell? ⟨bx,426,none⟩ = some (.int .i64 x0))/\FP w bx w.heap.size q cs op Ad reg size d r off Aa [.int .i64 k,.int .i64 t,.int .i64 o,.int .i64 x] w'))) (by kernel_rfl) ?_ (fun hHeld=>?_)
    ·(try dsimp only);exact hks
    refine D6 0 23 ?_;refine wpAnyH_ready (rs:=[1]) (by kernel_rfl) (by simp) ?_;refine AllReadyH.cons (o:=_) rfl (fun K hK=>?_) AllReadyH.nil;go_simp;go_at_call 72;refine (Ce _ _ _ _ _).mono ?_;rintro e w' ⟨he,hb⟩;rw [q0] at he;subst he;refine hK.out _ _ ?_ (fun hHeld=>?_)
    ·(try dsimp only);exact FP.na y5.out HU0.out (by with_reducible assumption) hb
    clear hK K
    try simp only [Act.put,List.setIfInBounds_toArray,List.set_cons_zero,List.set_cons_succ]
    refine D6 2 25 ?_;refine D6 3 26 ?_;refine Qc 4 27 ?_;refine Qc 5 28 ?_;refine Qc 6 29 ?_;refine Qc 7 30 ?_;refine Qc 8 31 ?_;refine Qc 9 32 ?_;refine Qc 10 33 ?_;refine Qc 11 34 ?_;refine Qc 12 35 ?_;refine D6 13 36 ?_;refine D6 14 37 ?_;refine Qc 15 38 ?_;refine Qc 16 39 ?_;refine Qc 17 40 ?_;refine Qc 18 41 ?_;refine Qc 19 42 ?_;refine Qc 20 43 ?_;refine Qc 21 44 ?_;refine Qc 22 45 ?_;refine Qc 23 46 ?_;refine Qc 24 47 ?_;refine Qc 25 48 ?_;refine Qc 26 49 ?_;refine D6 27 50 ?_;refine D6 28 22 ?_;refine wpAnyH_done (by kernel_rfl) ?_ _;have hF:=hHeld.2.2.2.2;clear hks;go_wp2_with fail;go_meet
    case rel=>exact ⟨by first | (simp only [hG];done) | (simp only [hG];rfl),hF⟩
  | true =>
    have g0:decide (k < 2) = false:=by simp at q0 ⊢;omega
    cases q1:(k1 == 1) with
    | false =>
      have hG:G = true:=by rw [HG.out,q1,g0];rfl
      refine wp_region_held_drew (S:=(fun w'=>((w'.cell? ⟨w.heap.size,0,none⟩ = some (.int .i64 op)/\w'.cell? ⟨w.heap.size,1,none⟩ = some (.bool Ad)/\w'.cell? ⟨w.heap.size,2,none⟩ = some (.bool reg)/\w'.cell? ⟨w.heap.size,3,none⟩ = some (.int .i64 size)/\w'.cell? ⟨w.heap.size,4,none⟩ = some (.int .i64 d)/\w'.cell? ⟨w.heap.size,5,none⟩ = some (.int .i64 r)/\w'.cell? ⟨w.heap.size,6,none⟩ = some (.int .i64 off)/\w'.cell? ⟨w.heap.size,7,none⟩ = some (.int .i64 Aa))/\(w'.cell? ⟨q,0,none⟩ = some (.int .i64 k)/\w'.cell? ⟨q,1,none⟩ = some (.int .i64 t)/\w'.cell? ⟨q,2,none⟩ = some (.int .i64 o)/\w'.cell? ⟨q,3,none⟩ = some (.int .i64 x))/\(w'.cell? ⟨bx,423 + r * 4,none⟩ = some (.int .i64 k1)/\w'.cell? ⟨bx,423 + r * 4 + 1,none⟩ = some (.int .i64 t1)/\w'.cell? ⟨bx,423 + r * 4 + 2,none⟩ = some (.int .i64 o1)/\w'.cell? ⟨bx,423 + r * 4 + 3,none⟩ = some (.int .i64 x1))/\(w'.cell? ⟨bx,423,none⟩ = some (.int .i64 k0)/\w'.cell? ⟨bx,424,none⟩ = some (.int .i64 t0)/\w'.cell? ⟨bx,425,none⟩ = some (.int .i64 o0)/\w'.cell? ⟨bx,426,none⟩ = some (.int .i64 x0))/\FP w bx w.heap.size q cs op Ad reg size d r off Aa [.int .i64 k,.int .i64 t,.int .i64 o,.int .i64 x] w'))) (by kernel_rfl) ?_ (fun hHeld=>?_)
      ·(try dsimp only);exact hks
      refine D6 0 23 ?_;refine wpAnyH_ready (rs:=[1]) (by kernel_rfl) (by simp) ?_;refine AllReadyH.cons (o:=_) rfl (fun K hK=>?_) AllReadyH.nil;go_simp;go_at_call 72;refine (Ce _ _ _ _ _).mono ?_;rintro e w' ⟨he,hb⟩;rw [q0] at he;subst he;refine hK.out _ _ ?_ (fun hHeld=>?_)
      ·(try dsimp only);exact FP.na y5.out HU0.out (by with_reducible assumption) hb
      clear hK K
      try simp only [Act.put,List.setIfInBounds_toArray,List.set_cons_zero,List.set_cons_succ]
      refine D6 2 25 ?_;refine D6 3 26 ?_;refine D6 4 27 ?_;refine D6 5 28 ?_;refine D6 6 29 ?_;refine D6 7 30 ?_;refine D6 8 31 ?_;refine D6 9 32 ?_;refine D6 10 33 ?_;refine wpAnyH_ready (rs:=[11]) (by kernel_rfl) (by simp) ?_;refine AllReadyH.cons (o:=_) rfl (fun K hK=>?_) AllReadyH.nil;go_simp;go_at_call 67;refine (Af _ _ _ _ _).mono ?_;rintro e w' ⟨he,hb⟩;rw [q1] at he;subst he;refine hK.out _ _ ?_ (fun hHeld=>?_)
      ·(try dsimp only);exact FP.na y5.out HU0.out (by with_reducible assumption) hb
      clear hK K
      try simp only [Act.put,List.setIfInBounds_toArray,List.set_cons_zero,List.set_cons_succ]
      refine D6 12 35 ?_;refine D6 13 36 ?_;refine D6 14 37 ?_;refine Qc 15 38 ?_;refine Qc 16 39 ?_;refine Qc 17 40 ?_;refine Qc 18 41 ?_;refine Qc 19 42 ?_;refine Qc 20 43 ?_;refine Qc 21 44 ?_;refine Qc 22 45 ?_;refine Qc 23 46 ?_;refine Qc 24 47 ?_;refine Qc 25 48 ?_;refine Qc 26 49 ?_;refine D6 27 50 ?_;refine D6 28 22 ?_;refine wpAnyH_done (by kernel_rfl) ?_ _;have hF:=hHeld.2.2.2.2;clear hks;go_wp2_with fail;go_meet
      case rel=>exact ⟨by first | (simp only [hG];done) | (simp only [hG];rfl),hF⟩
    | true =>
      cases q2:(Aa == 241) with
      | false =>
        have hG:G = false:=by rw [HG.out,q1,q2,g0];rfl
        refine wp_region_held_drew (S:=(fun w'=>((w'.cell? ⟨w.heap.size,0,none⟩ = some (.int .i64 op)/\w'.cell? ⟨w.heap.size,1,none⟩ = some (.bool Ad)/\w'.cell? ⟨w.heap.size,2,none⟩ = some (.bool reg)/\w'.cell? ⟨w.heap.size,3,none⟩ = some (.int .i64 size)/\w'.cell? ⟨w.heap.size,4,none⟩ = some (.int .i64 d)/\w'.cell? ⟨w.heap.size,5,none⟩ = some (.int .i64 r)/\w'.cell? ⟨w.heap.size,6,none⟩ = some (.int .i64 off)/\w'.cell? ⟨w.heap.size,7,none⟩ = some (.int .i64 Aa))/\(w'.cell? ⟨q,0,none⟩ = some (.int .i64 k)/\w'.cell? ⟨q,1,none⟩ = some (.int .i64 t)/\w'.cell? ⟨q,2,none⟩ = some (.int .i64 o)/\w'.cell? ⟨q,3,none⟩ = some (.int .i64 x))/\(w'.cell? ⟨bx,423 + r * 4,none⟩ = some (.int .i64 k1)/\w'.cell? ⟨bx,423 + r * 4 + 1,none⟩ = some (.int .i64 t1)/\w'.cell? ⟨bx,423 + r * 4 + 2,none⟩ = some (.int .i64 o1)/\w'.cell? ⟨bx,423 + r * 4 + 3,none⟩ = some (.int .i64 x1))/\(w'.cell? ⟨bx,423,none⟩ = some (.int .i64 k0)/\w'.cell? ⟨bx,424,none⟩ = some (.int .i64 t0)/\w'.cell? ⟨bx,425,none⟩ = some (.int .i64 o0)/\w'.cell? ⟨bx,426,none⟩ = some (.int .i64 x0))/\FP w bx w.heap.size q cs op Ad reg size d r off Aa [.int .i64 k,.int .i64 t,.int .i64 o,.int .i64 x] w'))) (by kernel_rfl) ?_ (fun hHeld=>?_)
        ·(try dsimp only);exact hks
        refine D6 0 23 ?_;refine wpAnyH_ready (rs:=[1]) (by kernel_rfl) (by simp) ?_;refine AllReadyH.cons (o:=_) rfl (fun K hK=>?_) AllReadyH.nil;go_simp;go_at_call 72;refine (Ce _ _ _ _ _).mono ?_;rintro e w' ⟨he,hb⟩;rw [q0] at he;subst he;refine hK.out _ _ ?_ (fun hHeld=>?_)
        ·(try dsimp only);exact FP.na y5.out HU0.out (by with_reducible assumption) hb
        clear hK K
        try simp only [Act.put,List.setIfInBounds_toArray,List.set_cons_zero,List.set_cons_succ]
        refine D6 2 25 ?_;refine D6 3 26 ?_;refine D6 4 27 ?_;refine D6 5 28 ?_;refine D6 6 29 ?_;refine D6 7 30 ?_;refine D6 8 31 ?_;refine D6 9 32 ?_;refine D6 10 33 ?_;refine wpAnyH_ready (rs:=[11]) (by kernel_rfl) (by simp) ?_;refine AllReadyH.cons (o:=_) rfl (fun K hK=>?_) AllReadyH.nil;go_simp;go_at_call 67;refine (Af _ _ _ _ _).mono ?_;rintro e w' ⟨he,hb⟩;rw [q1] at he;subst he;refine hK.out _ _ ?_ (fun hHeld=>?_)
        ·(try dsimp only);exact FP.na y5.out HU0.out (by with_reducible assumption) hb
        clear hK K
        try simp only [Act.put,List.setIfInBounds_toArray,List.set_cons_zero,List.set_cons_succ]
        refine D6 12 35 ?_;refine D6 13 36 ?_;refine D6 14 37 ?_;refine D6 15 38 ?_;refine D6 16 39 ?_;refine D6 17 40 ?_;refine D6 18 41 ?_;refine Qc 19 42 ?_;refine Qc 20 43 ?_;refine Qc 21 44 ?_;refine Qc 22 45 ?_;refine Qc 23 46 ?_;refine Qc 24 47 ?_;refine Qc 25 48 ?_;refine D6 26 49 ?_;refine D6 27 50 ?_;refine D6 28 22 ?_;refine wpAnyH_done (by kernel_rfl) ?_ _;have hF:=hHeld.2.2.2.2;clear hks;go_wp2_with fail;go_meet
        case rel=>exact ⟨by first | (simp only [hG];done) | (simp only [hG];rfl),hF⟩
      | true =>
        have hG:G = !(k0 == 1):=by rw [HG.out,q1,q2,g0];rfl
        refine wp_region_held_drew (S:=(fun w'=>((w'.cell? ⟨w.heap.size,0,none⟩ = some (.int .i64 op)/\w'.cell? ⟨w.heap.size,1,none⟩ = some (.bool Ad)/\w'.cell? ⟨w.heap.size,2,none⟩ = some (.bool reg)/\w'.cell? ⟨w.heap.size,3,none⟩ = some (.int .i64 size)/\w'.cell? ⟨w.heap.size,4,none⟩ = some (.int .i64 d)/\w'.cell? ⟨w.heap.size,5,none⟩ = some (.int .i64 r)/\w'.cell? ⟨w.heap.size,6,none⟩ = some (.int .i64 off)/\w'.cell? ⟨w.heap.size,7,none⟩ = some (.int .i64 Aa))/\(w'.cell? ⟨q,0,none⟩ = some (.int .i64 k)/\w'.cell? ⟨q,1,none⟩ = some (.int .i64 t)/\w'.cell? ⟨q,2,none⟩ = some (.int .i64 o)/\w'.cell? ⟨q,3,none⟩ = some (.int .i64 x))/\(w'.cell? ⟨bx,423 + r * 4,none⟩ = some (.int .i64 k1)/\w'.cell? ⟨bx,423 + r * 4 + 1,none⟩ = some (.int .i64 t1)/\w'.cell? ⟨bx,423 + r * 4 + 2,none⟩ = some (.int .i64 o1)/\w'.cell? ⟨bx,423 + r * 4 + 3,none⟩ = some (.int .i64 x1))/\(w'.cell? ⟨bx,423,none⟩ = some (.int .i64 k0)/\w'.cell? ⟨bx,424,none⟩ = some (.int .i64 t0)/\w'.cell? ⟨bx,425,none⟩ = some (.int .i64 o0)/\w'.cell? ⟨bx,426,none⟩ = some (.int .i64 x0))/\FP w bx w.heap.size q cs op Ad reg size d r off Aa [.int .i64 k,.int .i64 t,.int .i64 o,.int .i64 x] w'))) (by kernel_rfl) ?_ (fun hHeld=>?_)
        ·(try dsimp only);exact hks
        refine D6 0 23 ?_;refine wpAnyH_ready (rs:=[1]) (by kernel_rfl) (by simp) ?_;refine AllReadyH.cons (o:=_) rfl (fun K hK=>?_) AllReadyH.nil;go_simp;go_at_call 72;refine (Ce _ _ _ _ _).mono ?_;rintro e w' ⟨he,hb⟩;rw [q0] at he;subst he;refine hK.out _ _ ?_ (fun hHeld=>?_)
        ·(try dsimp only);exact FP.na y5.out HU0.out (by with_reducible assumption) hb
        clear hK K
        try simp only [Act.put,List.setIfInBounds_toArray,List.set_cons_zero,List.set_cons_succ]
        refine D6 2 25 ?_;refine D6 3 26 ?_;refine D6 4 27 ?_;refine D6 5 28 ?_;refine D6 6 29 ?_;refine D6 7 30 ?_;refine D6 8 31 ?_;refine D6 9 32 ?_;refine D6 10 33 ?_;refine wpAnyH_ready (rs:=[11]) (by kernel_rfl) (by simp) ?_;refine AllReadyH.cons (o:=_) rfl (fun K hK=>?_) AllReadyH.nil;go_simp;go_at_call 67;refine (Af _ _ _ _ _).mono ?_;rintro e w' ⟨he,hb⟩;rw [q1] at he;subst he;refine hK.out _ _ ?_ (fun hHeld=>?_)
        ·(try dsimp only);exact FP.na y5.out HU0.out (by with_reducible assumption) hb
        clear hK K
        try simp only [Act.put,List.setIfInBounds_toArray,List.set_cons_zero,List.set_cons_succ]
        refine D6 12 35 ?_;refine D6 13 36 ?_;refine D6 14 37 ?_;refine D6 15 38 ?_;refine D6 16 39 ?_;refine D6 17 40 ?_;refine D6 18 41 ?_;refine D6 19 42 ?_;refine D6 20 43 ?_;refine D6 21 44 ?_;refine D6 22 45 ?_;refine D6 23 46 ?_;refine wpAnyH_ready (rs:=[24]) (by kernel_rfl) (by simp) ?_;refine AllReadyH.cons (o:=_) rfl (fun K hK=>?_) AllReadyH.nil;go_simp;go_at_call 67;refine (Af _ _ _ _ _).mono ?_;rintro e w' ⟨he,hb⟩;subst he;refine hK.out _ _ ?_ (fun hHeld=>?_)
        ·(try dsimp only);exact FP.na y5.out HU0.out (by with_reducible assumption) hb
        clear hK K
        try simp only [Act.put,List.setIfInBounds_toArray,List.set_cons_zero,List.set_cons_succ]
        refine D6 25 48 ?_;refine D6 26 49 ?_;refine D6 27 50 ?_;refine D6 28 22 ?_;refine wpAnyH_done (by kernel_rfl) ?_ _;have hF:=hHeld.2.2.2.2;clear hks;go_wp2_with fail;go_meet
        case rel=>exact ⟨by first | (simp only [hG];done) | (simp only [hG];rfl),hF⟩
 case rest=>
  obtain ⟨rfl,hF⟩:=hcut;have HX:=hid hF;clear hF HP
  cases G with
  | true =>
    have e:=HD.out;rw [if_pos (by have h:=HG.out.symm;simp only [Bool.or_eq_true,Bool.and_eq_true,decide_eq_true_eq,Bool.not_eq_true',beq_eq_false_iff_ne,beq_iff_eq] at h;omega)] at e;have HE:=hid e;clear e;go_wp2_with fail;exact bodyPost_ret (v:=.tuple #[.int .i64 0,.int .i64 80]) (by simp [results,results57,go_sem]) rfl ⟨by rw [HE.out];rfl,v,by rw [HE.out];exact (HM.out.same (HX.out).fm.mod (by have h:=(HX.out).fm.Ar;rw [Ph.out] at h;exact h)),Jd.Eu (HX.out).fm.mod HM.out.rb,fun _ _=>rfl⟩
  | false =>
    have hg:2 <= k/\k1 = 1/\¬ (Aa = 241/\k0 ≠ 1):=by have h:=HG.out.symm;simp only [Bool.or_eq_false_iff,Bool.and_eq_false_iff,decide_eq_false_iff_not,Bool.not_eq_false',beq_iff_eq,beq_eq_false_iff_ne] at h;omega
    have e:=HD.out;rw [if_neg (by omega)] at e;have Yr:=hid (HOK.out hg.1);obtain ⟨hk3,hk4⟩:=Yr.out.kind;have hxo:=Yr.out.off;simp only at hk3 hk4 hxo;have hAA:A0 = x + off:=by rw [HA0.out];have:=Xy.out.2.1;unfold wrap64;omega
    have hAr : -2000000 <= A0/\A0 <= 2000000:=by have:=Xy.out.2.1;omega
    rw [<- hAA] at e;have HAR:=hid (And.intro hAA hAr);clear hg hk3 hk4 hxo hAA hAr;obtain ⟨⟨c0,c1,c2,c3,c4,c5,c6,c7⟩,⟨b0,b1,b2,b3⟩,⟨e0,e1,e2,e3⟩,⟨z0,z1,z2,z3⟩,_⟩:=HX.out.ka y5.out HU0.out
    cases q4:(k == 4) with
    | true =>
      rw [if_pos (show k = 4 by simpa using q4)] at e;have HE:=hid e;clear e;go_wp2_with fail;exact bodyPost_ret (v:=.tuple #[.int .i64 0,.int .i64 83]) (by simp [results,results57,go_sem]) rfl ⟨by rw [HE.out];rfl,v,by rw [HE.out];exact (HM.out.same (HX.out).fm.mod (by have h:=(HX.out).fm.Ar;rw [Ph.out] at h;exact h)),Jd.Eu (HX.out).fm.mod HM.out.rb,fun _ _=>rfl⟩
    | false =>
      rw [if_neg (show ¬ k = 4 by simpa using q4)] at e;have HE:=hid e;clear e;go_upto_region 7 with fail;clear c0 c1 c2 c3 c4 c5 c6 c7 b0 b1 b2 b3 e0 e1 e2 e3 z0 z1 z2 z3;have HW:=hid (Uy ⟨k,t,o,x⟩ Yr.out A0 size (by have:=HAR.out.2;omega) (by rcases Xy.out.1 with h | h | h | h <;> omega) wc.drew ((HM.out.same (HX.out).fm.mod (by have h:=(HX.out).fm.Ar;rw [Ph.out] at h;exact h)).next (Below.refl _ _).drew));obtain ⟨W,hW⟩:∃ W:Bool,Dh fx s ⟨k,t,o,x⟩ A0 size = W:=⟨_,rfl⟩;rw [hW] at HW;unfold Val.agg at HW;simp only at HW;have HWW:=hid hW;have e:=HE.out;rw [hW] at e;have HE:=hid e;clear hW e
      go_cut [55] (fun s55 wx=>s55 = .bool (!W)/\FP w bx w.heap.size q cs op Ad reg size d r off Aa [.int .i64 k,.int .i64 t,.int .i64 o,.int .i64 x] wx)
      case first=>
       have hks:=(HX.out.next (Below.refl _ _).drew).ka y5.out HU0.out
       go_region_held3 (fun w'=>((w'.cell? ⟨w.heap.size,0,none⟩ = some (.int .i64 op)/\w'.cell? ⟨w.heap.size,1,none⟩ = some (.bool Ad)/\w'.cell? ⟨w.heap.size,2,none⟩ = some (.bool reg)/\w'.cell? ⟨w.heap.size,3,none⟩ = some (.int .i64 size)/\w'.cell? ⟨w.heap.size,4,none⟩ = some (.int .i64 d)/\w'.cell? ⟨w.heap.size,5,none⟩ = some (.int .i64 r)/\w'.cell? ⟨w.heap.size,6,none⟩ = some (.int .i64 off)/\w'.cell? ⟨w.heap.size,7,none⟩ = some (.int .i64 Aa))/\(w'.cell? ⟨q,0,none⟩ = some (.int .i64 k)/\w'.cell? ⟨q,1,none⟩ = some (.int .i64 t)/\w'.cell? ⟨q,2,none⟩ = some (.int .i64 o)/\w'.cell? ⟨q,3,none⟩ = some (.int .i64 x))/\(w'.cell? ⟨bx,423 + r * 4,none⟩ = some (.int .i64 k1)/\w'.cell? ⟨bx,423 + r * 4 + 1,none⟩ = some (.int .i64 t1)/\w'.cell? ⟨bx,423 + r * 4 + 2,none⟩ = some (.int .i64 o1)/\w'.cell? ⟨bx,423 + r * 4 + 3,none⟩ = some (.int .i64 x1))/\(w'.cell? ⟨bx,423,none⟩ = some (.int .i64 k0)/\w'.cell? ⟨bx,424,none⟩ = some (.int .i64 t0)/\w'.cell? ⟨bx,425,none⟩ = some (.int .i64 o0)/\w'.cell? ⟨bx,426,none⟩ = some (.int .i64 x0))/\FP w bx w.heap.size q cs op Ad reg size d r off Aa [.int .i64 k,.int .i64 t,.int .i64 o,.int .i64 x] w'))
        (first
          | with_reducible assumption
          | with_reducible exact FP.na y5.out HU0.out (by with_reducible assumption) hb
          | fail "none")
        ((go_at_call 73;refine (HW.out).mono ?_;rintro e w' ⟨rfl,hb⟩;have Zu:=(HX.out.next (Below.refl _ _).drew).next hb))
       rename_i C9;clear C9 hks;go_wp2_with fail;go_meet
       case rel=>exact ⟨rfl,Zu⟩
      case rest=>
       obtain ⟨rfl,Zu⟩:=hcut;have H5:=hid Zu;clear Zu HX HW
       cases W with
       | false =>
         have e:=HE.out;rw [if_pos rfl] at e;have HE:=hid e;clear e;go_wp2_with fail;exact bodyPost_ret (v:=.tuple #[.int .i64 0,.int .i64 81]) (by simp [results,results57,go_sem]) rfl ⟨by rw [HE.out];rfl,v,by rw [HE.out];exact (HM.out.same (H5.out).fm.mod (by have h:=(H5.out).fm.Ar;rw [Ph.out] at h;exact h)),Jd.Eu (H5.out).fm.mod HM.out.rb,fun _ _=>rfl⟩
       | true =>
         have e:=HE.out;rw [if_neg (by decide)] at e;have HE:=hid e;clear e;obtain ⟨hA0,An7⟩:=Fe HWW.out;obtain ⟨An,rfl⟩:∃ n:Nat,A0 = n:=⟨A0.toNat,by omega⟩;obtain ⟨sz,rfl⟩:∃ n:Nat,size = n:=⟨size.toNat,by rcases Xy.out.1 with h | h | h | h <;> omega⟩
         have hst:k = 2->An + sz <= 256:=fun h2=>by
          subst h2;unfold Xc at An7;rw [if_pos rfl] at An7;omega
         have HST:=hid hst;obtain ⟨er,her⟩:∃ er,er = Gs s ⟨k,t,o,x⟩ An sz:=⟨_,rfl⟩;have e:=HE.out;rw [<- her] at e;have HE:=hid e;have HR:=hid (Tn ⟨k,t,o,x⟩ An sz HST.out (by have:=HAR.out.2;omega) (by rcases Xy.out.1 with h | h | h | h <;> omega) (fun y hy=>(Afn.out.slots y hy).2) wc.drew ((HM.out.same (H5.out).fm.mod (by have h:=(H5.out).fm.Ar;rw [Ph.out] at h;exact h)).next (Below.refl _ _).drew));rw [<- her] at HR;unfold Val.agg at HR;simp only at HR;clear e her hA0 An7 hst hA1;go_upto_region 9 with fail
         go_cut [8] (fun s8 wx=>s8 = .int .i64 er/\FP w bx w.heap.size q cs op Ad reg sz d r off Aa [.int .i64 k,.int .i64 t,.int .i64 o,.int .i64 x] wx)
         case first=>
          have hks:=(H5.out.next (Below.refl _ _).drew).ka y5.out HU0.out
          go_region_held3 (fun w'=>((w'.cell? ⟨w.heap.size,0,none⟩ = some (.int .i64 op)/\w'.cell? ⟨w.heap.size,1,none⟩ = some (.bool Ad)/\w'.cell? ⟨w.heap.size,2,none⟩ = some (.bool reg)/\w'.cell? ⟨w.heap.size,3,none⟩ = some (.int .i64 sz)/\w'.cell? ⟨w.heap.size,4,none⟩ = some (.int .i64 d)/\w'.cell? ⟨w.heap.size,5,none⟩ = some (.int .i64 r)/\w'.cell? ⟨w.heap.size,6,none⟩ = some (.int .i64 off)/\w'.cell? ⟨w.heap.size,7,none⟩ = some (.int .i64 Aa))/\(w'.cell? ⟨q,0,none⟩ = some (.int .i64 k)/\w'.cell? ⟨q,1,none⟩ = some (.int .i64 t)/\w'.cell? ⟨q,2,none⟩ = some (.int .i64 o)/\w'.cell? ⟨q,3,none⟩ = some (.int .i64 x))/\(w'.cell? ⟨bx,423 + r * 4,none⟩ = some (.int .i64 k1)/\w'.cell? ⟨bx,423 + r * 4 + 1,none⟩ = some (.int .i64 t1)/\w'.cell? ⟨bx,423 + r * 4 + 2,none⟩ = some (.int .i64 o1)/\w'.cell? ⟨bx,423 + r * 4 + 3,none⟩ = some (.int .i64 x1))/\(w'.cell? ⟨bx,423,none⟩ = some (.int .i64 k0)/\w'.cell? ⟨bx,424,none⟩ = some (.int .i64 t0)/\w'.cell? ⟨bx,425,none⟩ = some (.int .i64 o0)/\w'.cell? ⟨bx,426,none⟩ = some (.int .i64 x0))/\FP w bx w.heap.size q cs op Ad reg sz d r off Aa [.int .i64 k,.int .i64 t,.int .i64 o,.int .i64 x] w'))
           (first
             | with_reducible assumption
             | with_reducible exact FP.na y5.out HU0.out (by with_reducible assumption) hb
             | fail "none")
           ((go_at_call 74;refine (HR.out).mono ?_;rintro e w' ⟨rfl,hb⟩;have hF8:=(H5.out.next (Below.refl _ _).drew).next hb))
          rename_i C9;clear C9 hks;go_wp2_with fail;go_meet
          case rel=>exact ⟨rfl,hF8⟩
         case rest=>
          obtain ⟨rfl,hF8⟩:=hcut;have H8:=hid hF8;clear hF8 H5 HR
          by_cases Aab:er = 0
          ·subst Aab;have e:=HE.out;rw [if_neg (fun h=>h rfl),Int.toNat_natCast] at e;obtain ⟨G,hG⟩:∃ G,G = Vl false (D7 fx s ⟨k,t,o,x⟩ An sz):=⟨_,rfl⟩;rw [<- hG] at e;have HGT:=hid (Akz ⟨k,t,o,x⟩ Yr.out Afn.out An sz false HWW.out wc.drew ((HM.out.same (H8.out).fm.mod (by have h:=(H8.out).fm.Ar;rw [Ph.out] at h;exact h)).next (Below.refl _ _).drew));rw [<- hG] at HGT;unfold Val.agg at HGT;simp only at HGT;have HE:=hid e;clear e hG;go_upto_region 12 with fail
           go_cut [9] (fun s9 wx=>s9 = .int .i64 G/\FP w bx w.heap.size q cs op Ad reg sz d r off Aa [.int .i64 k,.int .i64 t,.int .i64 o,.int .i64 x] wx)
           case first=>
            have hks:=(H8.out.next (Below.refl _ _).drew).ka y5.out HU0.out
            go_region_held3 (fun w'=>((w'.cell? ⟨w.heap.size,0,none⟩ = some (.int .i64 op)/\w'.cell? ⟨w.heap.size,1,none⟩ = some (.bool Ad)/\w'.cell? ⟨w.heap.size,2,none⟩ = some (.bool reg)/\w'.cell? ⟨w.heap.size,3,none⟩ = some (.int .i64 sz)/\w'.cell? ⟨w.heap.size,4,none⟩ = some (.int .i64 d)/\w'.cell? ⟨w.heap.size,5,none⟩ = some (.int .i64 r)/\w'.cell? ⟨w.heap.size,6,none⟩ = some (.int .i64 off)/\w'.cell? ⟨w.heap.size,7,none⟩ = some (.int .i64 Aa))/\(w'.cell? ⟨q,0,none⟩ = some (.int .i64 k)/\w'.cell? ⟨q,1,none⟩ = some (.int .i64 t)/\w'.cell? ⟨q,2,none⟩ = some (.int .i64 o)/\w'.cell? ⟨q,3,none⟩ = some (.int .i64 x))/\(w'.cell? ⟨bx,423 + r * 4,none⟩ = some (.int .i64 k1)/\w'.cell? ⟨bx,423 + r * 4 + 1,none⟩ = some (.int .i64 t1)/\w'.cell? ⟨bx,423 + r * 4 + 2,none⟩ = some (.int .i64 o1)/\w'.cell? ⟨bx,423 + r * 4 + 3,none⟩ = some (.int .i64 x1))/\(w'.cell? ⟨bx,423,none⟩ = some (.int .i64 k0)/\w'.cell? ⟨bx,424,none⟩ = some (.int .i64 t0)/\w'.cell? ⟨bx,425,none⟩ = some (.int .i64 o0)/\w'.cell? ⟨bx,426,none⟩ = some (.int .i64 x0))/\FP w bx w.heap.size q cs op Ad reg sz d r off Aa [.int .i64 k,.int .i64 t,.int .i64 o,.int .i64 x] w'))
             (first
               | with_reducible assumption
               | with_reducible exact FP.na y5.out HU0.out (by with_reducible assumption) hb
               | fail "none")
             ((go_at_call 75;refine (HGT.out).mono ?_;rintro e w' ⟨rfl,hb⟩;have hF9:=(H8.out.next (Below.refl _ _).drew).next hb))
            rename_i C9;clear C9 hks;go_wp2_with fail;go_meet
            case rel=>exact ⟨rfl,hF9⟩
           case rest=>
            obtain ⟨rfl,hF9⟩:=hcut;have H9:=hid hF9;clear hF9 H8 HGT;obtain ⟨M,hM⟩:∃ M,M = Yl s ⟨op,Ad,reg,sz,d,r,off,Aa⟩ G:=⟨_,rfl⟩;have e:=HE.out;rw [<- hM] at e;have HMX:=hid (fun (w':World) (h':Row w' bx 87 cs)=>Aqx op Ad reg sz d off Aa r hr k1 t1 o1 x1 k0 t0 o0 x0 G HPP.out.1 HPP.out.2 Xy.out.2.2.2 Xy.out.2.2.1 cs y5.out HU0.out w' h');rw [<- hM] at HMX;obtain ⟨S1,hS1⟩:∃ S1,S1 = Gn fx s ⟨k,t,o,x⟩ An (Wq sz M):=⟨_,rfl⟩;rw [<- hS1] at e;have HE:=hid e;have HS1:=hid hS1;have hz1:1 <= sz:=by have:=Xy.out.1;omega
            have hz8:sz <= 8:=by have:=Xy.out.1;omega
            have HZ:=hid (And.intro hz1 hz8);have HK4:=hid (show k ≠ 4 by simpa using q4);have hq:w.heap.size <= q:=H9.out.la;have HQ:=hid hq;clear e hM hS1 hz1 hz8 hq;go_upto_region 13 with fail
            go_cut [] (fun wx=>MS base w0 fx S1 bx (v9 v w) wx/\RW w w.heap.size q q (Ed op Ad reg sz d r off Aa) [.int .i64 k,.int .i64 t,.int .i64 o,.int .i64 x] [.int .i64 k,.int .i64 t,.int .i64 o,.int .i64 x] wx/\Jd v.ρ w wx/\w.heap.size <= wx.heap.size)
            case first=>
             have HM4:=hid (HM.out.nine.same (H9.out).fm.mod (by have h:=(H9.out).fm.Ar;rw [Ph.out] at h;exact h));have hks:=(RW.next (⟨H9.out.fm.ins,H9.out.ra,H9.out.ra,Nat.le_refl _,HQ.out,HQ.out⟩:RW w w.heap.size q q (Ed op Ad reg sz d r off Aa) [.int .i64 k,.int .i64 t,.int .i64 o,.int .i64 x] [.int .i64 k,.int .i64 t,.int .i64 o,.int .i64 x] wc) (Below.refl _ _).drew).ka
             go_region_held3 (fun w'=>(w'.cell? ⟨w.heap.size,0,none⟩ = some (.int .i64 op)/\w'.cell? ⟨w.heap.size,1,none⟩ = some (.bool Ad)/\w'.cell? ⟨w.heap.size,2,none⟩ = some (.bool reg)/\w'.cell? ⟨w.heap.size,3,none⟩ = some (.int .i64 sz)/\w'.cell? ⟨w.heap.size,4,none⟩ = some (.int .i64 d)/\w'.cell? ⟨w.heap.size,5,none⟩ = some (.int .i64 r)/\w'.cell? ⟨w.heap.size,6,none⟩ = some (.int .i64 off)/\w'.cell? ⟨w.heap.size,7,none⟩ = some (.int .i64 Aa))/\(w'.cell? ⟨q,0,none⟩ = some (.int .i64 k)/\w'.cell? ⟨q,1,none⟩ = some (.int .i64 t)/\w'.cell? ⟨q,2,none⟩ = some (.int .i64 o)/\w'.cell? ⟨q,3,none⟩ = some (.int .i64 x))/\RW w w.heap.size q q (Ed op Ad reg sz d r off Aa) [.int .i64 k,.int .i64 t,.int .i64 o,.int .i64 x] [.int .i64 k,.int .i64 t,.int .i64 o,.int .i64 x] w')
              (first
                | with_reducible assumption
                | with_reducible exact RW.na (by with_reducible assumption) hb
                | with_reducible exact RW.na (by with_reducible assumption) hb2
                | fail "none")
              (first
                | (go_at_call 78;refine (HMX.out _ (H9.out.next (Below.refl _ _).drew).fm.Ar).mono ?_;rintro e w' ⟨rfl,hb⟩;have hF4:=(H9.out.next (Below.refl _ _).drew).next hb;have hM4:=(HM4.out.next (Below.refl _ _).drew).next hb)
                | (go_at_call 77;refine (Apm sz _ M rfl HZ.out.1 HZ.out.2 _).mono ?_;rintro e w5 ⟨bp,rfl,hbp,hRp,hb2⟩;have hM5:=hM4.next hb2;have Zu:=hF4.next hb2)
                | (go_at_call 76;refine (Yp ⟨k,t,o,x⟩ Yr.out HK4.out Afn.out An sz (Wq sz M) (G9 _ _) HZ.out.1 HWW.out _ _ _ hM5 (pq hRp HZ.out.2) (by intro q off he;injection he with he;injection he with h1;rw [<- h1];have:=hF4.fm.Ar.lt;have h3:w'.heap.size <= bp:=hbp;omega)).mono ?_;rintro e w6 ⟨rfl,hM6,hfr,Aym⟩;have hK7:RW w w.heap.size q q (Ed op Ad reg sz d r off Aa) [.int .i64 k,.int .i64 t,.int .i64 o,.int .i64 x] [.int .i64 k,.int .i64 t,.int .i64 o,.int .i64 x] w6:=RW.fr (⟨Zu.fm.ins,Zu.ra,Zu.ra,Nat.le_refl _,HQ.out,HQ.out⟩) hfr;have hK6:=hK7.ka))
             rename_i C9;clear C9 hks hK6;go_wp2_with fail;go_meet
             case rel=>exact ⟨by rw [HS1.out];exact hM6,hK7,fun q hq h9=>(hfr q (Nat.lt_of_lt_of_le hq Zu.fm.mod.size) (by rw [Js q hq];exact h9)).trans (Jd.Eu Zu.fm.mod HM.out.rb q hq h9),Nat.le_trans Zu.fm.mod.size Aym⟩
            case rest=>
             obtain ⟨hMS,hRW,hfr,hsz⟩:=hcut;have HMS:=hid hMS;have HRW:=hid hRW;have HFR:=hid (And.intro hfr hsz);obtain ⟨⟨c0,c1,c2,c3,c4,c5,c6,c7⟩,_⟩:=hRW.ka;have hlt:=hMS.box.lt;clear hMS hRW hfr hsz HMX HM HS1 H9;have hbx:=HPP
             cases q2:(Aa == 241) with
             | true =>
               have e:=HE.out;rw [if_pos (show Aa = 241 by simpa using q2)] at e;have HE:=hid e;clear e;go_upto_region 15 with fail;have hks:=(RI.next (⟨HRW.out.ri,by have h0:=HFR.out.2;exact HNE.out⟩:RI w.heap.size bx (Ed op Ad reg sz d r off Aa) wc) (Below.refl _ _).drew).k
               go_region_held3 (fun w'=>w'.cell? ⟨w.heap.size,5,none⟩ = some (.int .i64 r)/\RI w.heap.size bx (Ed op Ad reg sz d r off Aa) w')
                (first
                  | with_reducible assumption
                  | with_reducible exact RI.n (by with_reducible assumption) hbN
                  | with_reducible exact RI.s (by with_reducible assumption) _ _ _ _ _ _ _ _
                  | fail "none")
                (first
                  | (go_at_call 35;refine (Gh _ _).mono ?_;rintro e wN ⟨rfl,hbN⟩;have hMN:=(HMS.out.next (Below.refl _ _).drew).next hbN;obtain ⟨_,_,_,_,⟨_,_,_,_⟩,_,_,_,_⟩:=hMN.cell0))
               rename_i C9;have HF2:=hid (hMN.Ayw 1 0 0 G);have HB2:=hid (show Below wc.heap.size wc wN from (Below.refl _ _).drew.trans (hbN.mono nl));clear C9 hks hMN hbN;go_wp2
               exact bodyPost_ret (v:=.tuple #[.int .i64 0,.int .i64 0]) (by simp [results,results57,go_sem]) rfl ⟨by rw [HE.out],v9 v w,by rw [HE.out];exact HF2.out,(fun q' hq' h9=>by
                have hne:q' ≠ bx:=fun hc=>by rw [hc] at h9;have:=HRB.out;unfold Qs at h9;omega
                rw [Below.heap_setCell _ _ _ _ hne,Below.heap_setCell _ _ _ _ hne,Below.heap_setCell _ _ _ _ hne,Below.heap_setCell _ _ _ _ hne,HB2.out.block q' (Nat.lt_of_lt_of_le hq' HFR.out.2)];exact HFR.out.1 q' hq' h9),Js⟩
             | false =>
               have e:=HE.out;rw [if_neg (show ¬ Aa = 241 by simpa using q2)] at e;have HE:=hid e;clear e
               have hmb:bits .and .i64 Aa 1 = Aa % 2:=by
                have h:=Qd Aa 1 (by decide);exact h
               obtain ⟨P,hP⟩:∃ P,Aa % 2 = P:=⟨_,rfl⟩;rw [hP] at hmb
               cases q3:(P != 0) with
               | true =>
                 have e:=HE.out
                 rw [if_pos (by have : P ≠ 0 := by simpa using q3
                                omega)] at e
                 have HE:=hid e;clear e hP;go_upto_region 17 with fail;have hks:=(RI.next (⟨HRW.out.ri,by have h0:=HFR.out.2;exact HNE.out⟩:RI w.heap.size bx (Ed op Ad reg sz d r off Aa) wc) (Below.refl _ _).drew).k
                 go_region_held3 (fun w'=>w'.cell? ⟨w.heap.size,5,none⟩ = some (.int .i64 r)/\RI w.heap.size bx (Ed op Ad reg sz d r off Aa) w')
                  (first
                    | with_reducible assumption
                    | with_reducible exact RI.n (by with_reducible assumption) hbN
                    | with_reducible exact RI.s (by with_reducible assumption) _ _ _ _ _ _ _ _
                    | fail "none")
                  (first
                    | (go_at_call 35;refine (Gh _ _).mono ?_;rintro e wN ⟨rfl,hbN⟩;have hMN:=(HMS.out.next (Below.refl _ _).drew).next hbN;obtain ⟨_,_,_,_,⟨_,_,_,_⟩,_,_,_,_⟩:=hMN.Avq r hr))
                 rename_i C9;have HF2:=hid (hMN.Avp r hr ⟨1,0,0,G⟩);have HB2:=hid (show Below wc.heap.size wc wN from (Below.refl _ _).drew.trans (hbN.mono nl));clear C9 hks hMN hbN;go_wp2
                 exact bodyPost_ret (v:=.tuple #[.int .i64 0,.int .i64 0]) (by simp [results,results57,go_sem]) rfl ⟨by rw [HE.out],v9 v w,by rw [HE.out];exact HF2.out,(fun q' hq' h9=>by
                  have hne:q' ≠ bx:=fun hc=>by rw [hc] at h9;have:=HRB.out;unfold Qs at h9;omega
                  rw [Below.heap_setCell _ _ _ _ hne,Below.heap_setCell _ _ _ _ hne,Below.heap_setCell _ _ _ _ hne,Below.heap_setCell _ _ _ _ hne,HB2.out.block q' (Nat.lt_of_lt_of_le hq' HFR.out.2)];exact HFR.out.1 q' hq' h9),Js⟩
               | false =>
                 have e:=HE.out
                 rw [if_neg (by have : P = 0 := by simpa using q3
                                omega)] at e
                 have HE:=hid e;clear e hP;go_wp2;exact bodyPost_ret (v:=.tuple #[.int .i64 0,.int .i64 0]) (by simp [results,results57,go_sem]) rfl ⟨by rw [HE.out],v9 v w,by rw [HE.out];exact HMS.out,HFR.out.1,Js⟩
          ·have q0:(er == 0) = false:=by simpa using Aab
           have q1:(er != 0) = true:=by simpa using Aab
           have e:=HE.out;rw [if_pos Aab] at e;have HE:=hid e;clear e Aab;go_wp2_with fail;exact bodyPost_ret (v:=.tuple #[.int .i64 0,.int .i64 er]) (by simp [results,results57,go_sem]) rfl ⟨by rw [HE.out];rfl,v,by rw [HE.out];exact (HM.out.same (H8.out).fm.mod (by have h:=(H8.out).fm.Ar;rw [Ph.out] at h;exact h)),Jd.Eu (H8.out).fm.mod HM.out.rb,fun _ _=>rfl⟩
end
end Go.Proofs.YtjacnhnaoenelaaGreat
