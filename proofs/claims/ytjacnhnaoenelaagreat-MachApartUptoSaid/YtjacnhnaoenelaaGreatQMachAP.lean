import Derived.Test.YtjacnhnaoenelaaGreatQJ5a
set_option maxRecDepth 100000
set_option maxHeartbeats 32000000
namespace Go.Proofs.YtjacnhnaoenelaaGreat
open Lib (hid)
open Go.Proofs.Tryz
open Go.RowKit
set_option linter.unusedVariables false
set_option linter.unusedSimpArgs false
theorem MS.Ayk {base:Nat} {w0:World} {fx:Ak} {s:Mst} {bx:Nat} {v:Bc} {w:World} {sl:List Slot} {Q:Nat} {k t o x b0 b1 b2 b3 b4 b5 b6 b7 m:Int} (k2 t2 o2 x2:Int) (h:MS base w0 fx { s with sl:=sl.set Q ⟨⟨k,t,o,x⟩,[b0,b1,b2,b3,b4,b5,b6,b7],m⟩ } bx v w) (hQ:Q < sl.length):MS base w0 fx { s with sl:=sl.set Q ⟨⟨k2,t2,o2,x2⟩,[0,0,0,0,0,0,0,0],0⟩ } bx v (((((((((((((w.setCell ⟨bx,Q * 13,none⟩ (.int .i64 k2)).setCell ⟨bx,Q * 13 + 1,none⟩ (.int .i64 t2)).setCell ⟨bx,Q * 13 + 2,none⟩ (.int .i64 o2)).setCell ⟨bx,Q * 13 + 3,none⟩ (.int .i64 x2)).setCell ⟨bx,Q * 13 + 4,none⟩ (.int .u8 0)).setCell ⟨bx,Q * 13 + 5,none⟩ (.int .u8 0)).setCell ⟨bx,Q * 13 + 6,none⟩ (.int .u8 0)).setCell ⟨bx,Q * 13 + 7,none⟩ (.int .u8 0)).setCell ⟨bx,Q * 13 + 8,none⟩ (.int .u8 0)).setCell ⟨bx,Q * 13 + 9,none⟩ (.int .u8 0)).setCell ⟨bx,Q * 13 + 10,none⟩ (.int .u8 0)).setCell ⟨bx,Q * 13 + 11,none⟩ (.int .u8 0)).setCell ⟨bx,Q * 13 + 12,none⟩ (.int .i64 0)):=
 (((((((((((((h.Jv hQ 0 (by decide) _ ⟨⟨k2,t,o,x⟩,[b0,b1,b2,b3,b4,b5,b6,b7],m⟩ rfl rfl).Jv hQ 1 (by decide) _ ⟨⟨k2,t2,o,x⟩,[b0,b1,b2,b3,b4,b5,b6,b7],m⟩ rfl rfl).Jv hQ 2 (by decide) _ ⟨⟨k2,t2,o2,x⟩,[b0,b1,b2,b3,b4,b5,b6,b7],m⟩ rfl rfl).Jv hQ 3 (by decide) _ ⟨⟨k2,t2,o2,x2⟩,[b0,b1,b2,b3,b4,b5,b6,b7],m⟩ rfl rfl).Jv hQ 4 (by decide) _ ⟨⟨k2,t2,o2,x2⟩,[0,b1,b2,b3,b4,b5,b6,b7],m⟩ rfl rfl).Jv hQ 5 (by decide) _ ⟨⟨k2,t2,o2,x2⟩,[0,0,b2,b3,b4,b5,b6,b7],m⟩ rfl rfl).Jv hQ 6 (by decide) _ ⟨⟨k2,t2,o2,x2⟩,[0,0,0,b3,b4,b5,b6,b7],m⟩ rfl rfl).Jv hQ 7 (by decide) _ ⟨⟨k2,t2,o2,x2⟩,[0,0,0,0,b4,b5,b6,b7],m⟩ rfl rfl).Jv hQ 8 (by decide) _ ⟨⟨k2,t2,o2,x2⟩,[0,0,0,0,0,b5,b6,b7],m⟩ rfl rfl).Jv hQ 9 (by decide) _ ⟨⟨k2,t2,o2,x2⟩,[0,0,0,0,0,0,b6,b7],m⟩ rfl rfl).Jv hQ 10 (by decide) _ ⟨⟨k2,t2,o2,x2⟩,[0,0,0,0,0,0,0,b7],m⟩ rfl rfl).Jv hQ 11 (by decide) _ ⟨⟨k2,t2,o2,x2⟩,[0,0,0,0,0,0,0,0],m⟩ rfl rfl).Jv hQ 12 (by decide) _ ⟨⟨k2,t2,o2,x2⟩,[0,0,0,0,0,0,0,0],0⟩ rfl rfl)
theorem Afm (k t o x:Int):prog.built 61 [(0,.agg #[.int .i64 k,.int .i64 t,.int .i64 o,.int .i64 x])] = some #[.int .i64 k,.int .i64 t,.int .i64 o,.int .i64 x,.int .u8 0,.int .u8 0,.int .u8 0,.int .u8 0,.int .u8 0,.int .u8 0,.int .u8 0,.int .u8 0,.int .i64 0]:=by kernel_rfl
theorem An6 (k t o x:Int) (w:World):(Instr.build 61 #[(0,.agg #[.int .i64 k,.int .i64 t,.int .i64 o,.int .i64 x])]).run prog w = .ok (.agg #[.int .i64 k,.int .i64 t,.int .i64 o,.int .i64 x,.int .u8 0,.int .u8 0,.int .u8 0,.int .u8 0,.int .u8 0,.int .u8 0,.int .u8 0,.int .u8 0,.int .i64 0]) w:=run_build w _ _ _ (Afm k t o x)
structure RW (w:World) (ib ab bb:Nat) (i a b:List Value) (w':World):Prop where
 ri:Row w' ib 70 i
 ra:Row w' ab 57 a
 rb:Row w' bb 57 b
 li:w.heap.size <= ib
 la:w.heap.size <= ab
 lb:w.heap.size <= bb
section
variable {w w1 w2:World} {ib ab bb:Nat} {op:Int} {Ad reg:Bool} {size dst src off Aa:Int} {a0 a1 a2 a3 b0 b1 b2 b3:Value}
theorem RW.next {i a b:List Value} (h:RW w ib ab bb i a b w1) (hb:Below w1.heap.size w1 w2):RW w ib ab bb i a b w2:=⟨h.ri.below hb h.ri.lt,h.ra.below hb h.ra.lt,h.rb.below hb h.rb.lt,h.li,h.la,h.lb⟩
theorem RW.fr {i a b:List Value} {v:Bc} (h:RW w ib ab bb i a b w1) (hf:Jd (v9 v w).ρ w1 w2):RW w ib ab bb i a b w2:=
 ⟨(hf ib h.ri.lt (Ny (Tt h.li))).trans h.ri,(hf ab h.ra.lt (Ny (Tt h.la))).trans h.ra,(hf bb h.rb.lt (Ny (Tt h.lb))).trans h.rb,h.li,h.la,h.lb⟩
theorem RW.k (h:RW w ib ab bb (Ed op Ad reg size dst src off Aa) [a0,a1,a2,a3] [b0,b1,b2,b3] w1):w1.cell? ⟨ib,3,none⟩ = some (.int .i64 size)/\w1.cell? ⟨ab,0,none⟩ = some a0/\w1.cell? ⟨ab,1,none⟩ = some a1/\w1.cell? ⟨ab,2,none⟩ = some a2/\w1.cell? ⟨ab,3,none⟩ = some a3/\w1.cell? ⟨bb,0,none⟩ = some b0/\w1.cell? ⟨bb,1,none⟩ = some b1/\w1.cell? ⟨bb,2,none⟩ = some b2/\w1.cell? ⟨bb,3,none⟩ = some b3/\RW w ib ab bb (Ed op Ad reg size dst src off Aa) [a0,a1,a2,a3] [b0,b1,b2,b3] w1:=
 ⟨by rw [h.ri.cell];rfl,h.ra.four.1.1,h.ra.four.1.2.1,h.ra.four.1.2.2.1,h.ra.four.1.2.2.2,h.rb.four.1.1,h.rb.four.1.2.1,h.rb.four.1.2.2.1,h.rb.four.1.2.2.2,h⟩
theorem RW.n (h:w1.cell? ⟨ib,3,none⟩ = some (.int .i64 size)/\w1.cell? ⟨ab,0,none⟩ = some a0/\w1.cell? ⟨ab,1,none⟩ = some a1/\w1.cell? ⟨ab,2,none⟩ = some a2/\w1.cell? ⟨ab,3,none⟩ = some a3/\w1.cell? ⟨bb,0,none⟩ = some b0/\w1.cell? ⟨bb,1,none⟩ = some b1/\w1.cell? ⟨bb,2,none⟩ = some b2/\w1.cell? ⟨bb,3,none⟩ = some b3/\RW w ib ab bb (Ed op Ad reg size dst src off Aa) [a0,a1,a2,a3] [b0,b1,b2,b3] w1) (hb:Below w1.heap.size w1 w2):w2.cell? ⟨ib,3,none⟩ = some (.int .i64 size)/\w2.cell? ⟨ab,0,none⟩ = some a0/\w2.cell? ⟨ab,1,none⟩ = some a1/\w2.cell? ⟨ab,2,none⟩ = some a2/\w2.cell? ⟨ab,3,none⟩ = some a3/\w2.cell? ⟨bb,0,none⟩ = some b0/\w2.cell? ⟨bb,1,none⟩ = some b1/\w2.cell? ⟨bb,2,none⟩ = some b2/\w2.cell? ⟨bb,3,none⟩ = some b3/\RW w ib ab bb (Ed op Ad reg size dst src off Aa) [a0,a1,a2,a3] [b0,b1,b2,b3] w2:=(h.2.2.2.2.2.2.2.2.2.next hb).k
end
theorem FA.rw {w w1:World} {bx ib ab bb:Nat} {cs:List Value} {op:Int} {Ad reg:Bool} {size dst src off Aa:Int} {a b:List Value} (h:FA w bx ib ab bb cs op Ad reg size dst src off Aa a b w1) (hi:w.heap.size <= ib):RW w ib ab bb (Ed op Ad reg size dst src off Aa) a b w1:=⟨h.fm.ins,h.ra,h.rb,hi,h.la,h.lb⟩
section
variable {base:Nat} {w0:World} {fx:Ak} {s:Mst} {bx:Nat} {v:Bc}
theorem Ai1 (op:Int) (Ad reg:Bool) (size src off Aa:Int) (d:Nat) (hd:d < 11) (k t o x k2 t2 o2 x2:Int) (hp:s.rg[d]? = some ⟨k,t,o,x⟩) (hsc:s.sec ⟨op,Ad,reg,size,d,src,off,Aa⟩ = ⟨k2,t2,o2,x2⟩) (Ayl:Ey x)
 (hok:2 <= k->Gf fx ⟨k,t,o,x⟩) (hm:J4 fx s) (hsz:size = 1\/size = 2\/size = 4\/size = 8) (hoff : -32768 <= off/\off <= 32767)
 (hs:∀ w',Row w' bx 87 (Aw s v)->Calls prog 66 #[.pointer (some ⟨bx,0,none⟩),.agg #[.int .i64 op,.bool Ad,.bool reg,.int .i64 size,.int .i64 d,.int .i64 src,.int .i64 off,.int .i64 Aa]] w' (Ol w' (.agg #[.int .i64 k2,.int .i64 t2,.int .i64 o2,.int .i64 x2])))
 (w:World) (hM:MS base w0 fx s bx v w) :
 Calls prog 56 #[.pointer (some ⟨bx,0,none⟩),.agg #[.int .i64 op,.bool Ad,.bool reg,.int .i64 size,.int .i64 d,.int .i64 src,.int .i64 off,.int .i64 Aa]] w fun e w'=>
  e = .returned (.tuple #[.int .i64 0,.int .i64 (Iy fx s ⟨op,Ad,reg,size,d,src,off,Aa⟩).er])/\∃ v',MS base w0 fx (Iy fx s ⟨op,Ad,reg,size,d,src,off,Aa⟩).s bx v' w'/\Jd v.ρ w w'/\∀ q,q < w.heap.size->v'.ρ q = v.ρ q:=by
 have hpr:s.reg d = ⟨k,t,o,x⟩:=by unfold Mst.reg;rw [Int.toNat_natCast,hp];rfl
 have hl:=hM.len
 have hu:Ie (Aw s v) d ⟨k,t,o,x⟩:=by
  have:=hM.lu d hd;rw [List.getElem?_eq_getElem (by rw [hM.Oj];exact hd)] at hp;rw [Option.some.inj hp] at this;exact this
 obtain ⟨D,hD⟩:∃ D,D = Iy fx s ⟨op,Ad,reg,size,d,src,off,Aa⟩:=⟨_,rfl⟩;rw [<- hD];unfold Iy at hD;simp only [hpr,hsc] at hD;have hj1:(0:Int) <= (d:Int):=Int.natCast_nonneg _;have hj2:(d:Int) < 11:=by omega
 have HF:=hid (FM.begin hM.box op Ad reg size d src off Aa);have HM:=hid hM;have HD:=hid hD;have HOK:=hid hok;have Afn:=hid hm;have Xy:=hid (And.intro hsz (And.intro hoff Ayl));clear hM hD hpr hok hm hp hsz hoff hsc Ayl;obtain ⟨cs,hcs⟩:∃ cs,cs = Aw s v:=⟨_,rfl⟩;rw [<- hcs] at HF hl hu hs;have Ph:=hid hcs;have HS:=hid hs;clear hcs hs;go_enter func56,ntmps56;go_upto_region 1 with fail;generalize World.alloc _ _ = w1 at HF ⊢
 go_cut [6,7] from 9 (fun s6 s7 wx=>∃ ab bb,s6 = .pointer (some ⟨ab,0,none⟩)/\s7 = .pointer (some ⟨bb,0,none⟩)/\FA w bx w.heap.size ab bb cs op Ad reg size d src off Aa [.int .i64 k,.int .i64 t,.int .i64 o,.int .i64 x] [.int .i64 k2,.int .i64 t2,.int .i64 o2,.int .i64 x2] wx)
 case first=>
  have hks:=HF.out.drew.k12 hu;have hsz:=HF.out.ins.lt;have hbs:=HF.out.Ar.lt;have hms:=HF.out.mod.size;have Zi:w1.heap.size ≠ bx:=by omega
  have N9:w1.heap.size ≠ w.heap.size:=by omega
  have hw6:w.heap.size <= w1.heap.size:=by omega
  have hn7:w1.heap.size + 1 ≠ bx:=by omega
  have hm7:w1.heap.size + 1 ≠ w.heap.size:=by omega
  have Aey:w1.heap.size ≠ w1.heap.size + 1:=by omega
  have hw7:w.heap.size <= w1.heap.size + 1:=by omega
  have HSS:=hid (fun w' (hw:((w'.cell? ⟨w.heap.size,0,none⟩ = some (.int .i64 op)/\w'.cell? ⟨w.heap.size,1,none⟩ = some (.bool Ad)/\w'.cell? ⟨w.heap.size,2,none⟩ = some (.bool reg)/\w'.cell? ⟨w.heap.size,3,none⟩ = some (.int .i64 size)/\w'.cell? ⟨w.heap.size,4,none⟩ = some (.int .i64 d)/\w'.cell? ⟨w.heap.size,5,none⟩ = some (.int .i64 src)/\w'.cell? ⟨w.heap.size,6,none⟩ = some (.int .i64 off)/\w'.cell? ⟨w.heap.size,7,none⟩ = some (.int .i64 Aa)) /\
   (w'.cell? ⟨bx,423 + d * 4,none⟩ = some (.int .i64 k)/\w'.cell? ⟨bx,423 + d * 4 + 1,none⟩ = some (.int .i64 t)/\w'.cell? ⟨bx,423 + d * 4 + 2,none⟩ = some (.int .i64 o)/\w'.cell? ⟨bx,423 + d * 4 + 3,none⟩ = some (.int .i64 x))/\FM w bx w.heap.size cs op Ad reg size d src off Aa w'))=>HS.out w' hw.2.2.Ar)
  go_region_held3 (fun w'=>((w'.cell? ⟨w.heap.size,0,none⟩ = some (.int .i64 op)/\w'.cell? ⟨w.heap.size,1,none⟩ = some (.bool Ad)/\w'.cell? ⟨w.heap.size,2,none⟩ = some (.bool reg)/\w'.cell? ⟨w.heap.size,3,none⟩ = some (.int .i64 size)/\w'.cell? ⟨w.heap.size,4,none⟩ = some (.int .i64 d)/\w'.cell? ⟨w.heap.size,5,none⟩ = some (.int .i64 src)/\w'.cell? ⟨w.heap.size,6,none⟩ = some (.int .i64 off)/\w'.cell? ⟨w.heap.size,7,none⟩ = some (.int .i64 Aa)) /\
   (w'.cell? ⟨bx,423 + d * 4,none⟩ = some (.int .i64 k)/\w'.cell? ⟨bx,423 + d * 4 + 1,none⟩ = some (.int .i64 t)/\w'.cell? ⟨bx,423 + d * 4 + 2,none⟩ = some (.int .i64 o)/\w'.cell? ⟨bx,423 + d * 4 + 3,none⟩ = some (.int .i64 x))/\FM w bx w.heap.size cs op Ad reg size d src off Aa w'))
   (first
     | with_reducible assumption
     | with_reducible exact FM.q12 hu (FM.q12 hu hS Zi N9 hw6 _ _ _ _) hn7 hm7 hw7 _ _ _ _
     | with_reducible exact FM.q12 hu (FM.q12 hu hS hn7 hm7 hw7 _ _ _ _) Zi N9 hw6 _ _ _ _
     | with_reducible exact FM.n12 hu (by with_reducible assumption) hb
     | with_reducible exact FM.n12 hu (by with_reducible assumption) ((Below.refl _ _).alloc nl _)
     | with_reducible exact FM.n12 hu hS ((Below.refl _ _).alloc nl _)
     | with_reducible exact FM.n12 hu (FM.n12 hu hS ((Below.refl _ _).alloc nl _)) ((Below.refl _ _).alloc nl _)
     | with_reducible exact FM.q12 hu hS Zi N9 hw6 _ _ _ _
     | with_reducible exact FM.q12 hu hS hn7 hm7 hw7 _ _ _ _
     | with_reducible exact FM.n12 hu (FM.q12 hu hS Zi N9 hw6 _ _ _ _) ((Below.refl _ _).alloc nl _)
     | with_reducible exact FM.n12 hu (FM.q12 hu hS hn7 hm7 hw7 _ _ _ _) ((Below.refl _ _).alloc nl _)
     | fail "none")
   (first
     | (go_at_call 66;refine (HSS.out _ (by with_reducible assumption)).mono ?_;rintro e w' ⟨rfl,hb⟩;have hS:=FM.n12 hu (by with_reducible assumption) hb;first | (with_reducible have hx:=Af7 (w1:=w1) hb;obtain ⟨_,⟨_,_,_,_⟩,_,_,_,_⟩:=hx) | (with_reducible have hx:=Af8 (w1:=w1) hb;obtain ⟨_,_,⟨⟨_,_,_,_⟩,_,_,_,_⟩,⟨_,_,_,_⟩,_,_,_,_⟩:=hx) | skip))
  all_goals
   rename_i C9;clear C9;go_wp2_with fail;go_meet
   case rel=>
    first
     | with_reducible exact ⟨_,_,rfl,rfl,X3 hS.2.2 _ _⟩
     | with_reducible exact ⟨_,_,rfl,rfl,(X3 hS.2.2 _ _).swap⟩
     | with_reducible exact ⟨_,_,rfl,rfl,X4 hS.2.2 ((made1 w1).below hb (made1 w1).lt) Zi N9 hw6 _ _ _ _ _⟩
     | with_reducible exact ⟨_,_,rfl,rfl,(X4 hS.2.2 ((made1 w1).below hb (made1 w1).lt) Zi N9 hw6 _ _ _ _ _).swap⟩
     | with_reducible exact ⟨_,_,rfl,rfl,X5 hS.2.2 ((Ig w1).below hb (Ig w1).lt) ((made2 w1).below hb (made2 w1).lt) Zi N9 hw6 hn7 hm7 hw7 Aey _ _ _ _ _ _ _ _⟩
     | with_reducible exact ⟨_,_,rfl,rfl,X5 hS.2.2 ((made2 w1).below hb (made2 w1).lt) ((Ig w1).below hb (Ig w1).lt) hn7 hm7 hw7 Zi N9 hw6 (Ne.symm Aey) _ _ _ _ _ _ _ _⟩
     | trace_state
 case rest=>
  obtain ⟨ab,bb,rfl,rfl,ny⟩:=hcut;have HFA:=hid ny;clear ny HF hu HS;obtain ⟨c0,c1,c2,c3,c4,c5,c6,c7⟩:=HFA.out.fm.cells;obtain ⟨⟨a0,a1,a2,a3⟩,_⟩:=HFA.out.ra.four;obtain ⟨⟨b0,b1,b2,b3⟩,_⟩:=HFA.out.rb.four;obtain ⟨A0,hA0⟩:∃ A0,A0 = wrap64 (x + off):=⟨_,rfl⟩;have HA0:=hid hA0;have hA1:=hA0.symm;clear hA0
  cases q0:decide (2 <= k) with
  | false =>
    have e:=HD.out;rw [if_pos (Or.inl (show k < 2 by simpa using q0))] at e;have HE:=hid e;clear e;go_wp2_with (go_at_call 72;refine (Ce _ _ _ _ _).mono ?_;rintro e w' ⟨rfl,hb⟩;have Ju:=HFA.out.next hb;obtain ⟨_,_,_,_,_,_,_,_⟩:=Ju.fm.cells;obtain ⟨⟨_,_,_,_⟩,_⟩:=Ju.ra.four;obtain ⟨⟨_,_,_,_⟩,_⟩:=Ju.rb.four);exact bodyPost_ret (v:=.tuple #[.int .i64 0,.int .i64 80]) (by simp [results,results56,go_sem]) rfl ⟨by rw [HE.out];rfl,v,by rw [HE.out];exact (HM.out.same (Ju).fm.mod (by have h:=(Ju).fm.Ar;rw [Ph.out] at h;exact h)),Jd.Eu (Ju).fm.mod HM.out.rb,fun _ _=>rfl⟩
  | true =>
    cases q1:(k2 == 0) with
    | true =>
      have e:=HD.out;rw [if_pos (Or.inr (show k2 = 0 by simpa using q1))] at e;have HE:=hid e;clear e;go_wp2_with (go_at_call 72;refine (Ce _ _ _ _ _).mono ?_;rintro e w' ⟨rfl,hb⟩;have Ju:=HFA.out.next hb;obtain ⟨_,_,_,_,_,_,_,_⟩:=Ju.fm.cells;obtain ⟨⟨_,_,_,_⟩,_⟩:=Ju.ra.four;obtain ⟨⟨_,_,_,_⟩,_⟩:=Ju.rb.four);exact bodyPost_ret (v:=.tuple #[.int .i64 0,.int .i64 80]) (by simp [results,results56,go_sem]) rfl ⟨by rw [HE.out];rfl,v,by rw [HE.out];exact (HM.out.same (Ju).fm.mod (by have h:=(Ju).fm.Ar;rw [Ph.out] at h;exact h)),Jd.Eu (Ju).fm.mod HM.out.rb,fun _ _=>rfl⟩
    | false =>
      have e:=HD.out;have hk2:2 <= k:=by simpa using q0
      have Ae0:k2 ≠ 0:=by simpa using q1
      rw [if_neg (show ¬ (k < 2\/k2 = 0) by omega)] at e;have Yr:=hid (HOK.out hk2);obtain ⟨hk3,hk4⟩:=Yr.out.kind;have hxo:=Yr.out.off;simp only at hk3 hk4 hxo;have hAA:A0 = x + off:=by rw [HA0.out];have:=Xy.out.2.1;unfold wrap64;omega
      have hAr : -2000000 <= A0/\A0 <= 2000000:=by have:=Xy.out.2.1;omega
      rw [<- hAA] at e;have HAR:=hid (And.intro hAA hAr);clear hk2 Ae0 hk3 hk4 hxo hAA hAr
      cases q4:(k == 4) with
      | true =>
        rw [if_pos (show k = 4 by simpa using q4)] at e;have HE:=hid e;clear e;go_wp2_with (go_at_call 72;refine (Ce _ _ _ _ _).mono ?_;rintro e w' ⟨rfl,hb⟩;have Ju:=HFA.out.next hb;obtain ⟨_,_,_,_,_,_,_,_⟩:=Ju.fm.cells;obtain ⟨⟨_,_,_,_⟩,_⟩:=Ju.ra.four;obtain ⟨⟨_,_,_,_⟩,_⟩:=Ju.rb.four);exact bodyPost_ret (v:=.tuple #[.int .i64 0,.int .i64 83]) (by simp [results,results56,go_sem]) rfl ⟨by rw [HE.out];rfl,v,by rw [HE.out];exact (HM.out.same (Ju).fm.mod (by have h:=(Ju).fm.Ar;rw [Ph.out] at h;exact h)),Jd.Eu (Ju).fm.mod HM.out.rb,fun _ _=>rfl⟩
      | false =>
        rw [if_neg (show ¬ k = 4 by simpa using q4)] at e;have HE:=hid e;clear e;go_upto_region 7 with (go_at_call 72;refine (Ce _ _ _ _ _).mono ?_;rintro e w' ⟨rfl,hb⟩;have Ju:=HFA.out.next hb;obtain ⟨_,_,_,_,_,_,_,_⟩:=Ju.fm.cells;obtain ⟨⟨_,_,_,_⟩,_⟩:=Ju.ra.four;obtain ⟨⟨_,_,_,_⟩,_⟩:=Ju.rb.four);have HX:=hid Ju;generalize w' = w3 at HX ⊢;clear Ju hb;have HW:=hid (Uy ⟨k,t,o,x⟩ Yr.out A0 size (by have:=HAR.out.2;omega) (by rcases Xy.out.1 with h | h | h | h <;> omega) w3.drew ((HM.out.same (HX.out).fm.mod (by have h:=(HX.out).fm.Ar;rw [Ph.out] at h;exact h)).next (Below.refl _ _).drew));obtain ⟨W,hW⟩:∃ W:Bool,Dh fx s ⟨k,t,o,x⟩ A0 size = W:=⟨_,rfl⟩;rw [hW] at HW;unfold Val.agg at HW;simp only at HW;have HWW:=hid hW;have e:=HE.out;rw [hW] at e;have HE:=hid e;clear hW e
        try simp only [hA1]
        go_cut [37] (fun s37 wx=>s37 = .bool (!W)/\FA w bx w.heap.size ab bb cs op Ad reg size d src off Aa [.int .i64 k,.int .i64 t,.int .i64 o,.int .i64 x] [.int .i64 k2,.int .i64 t2,.int .i64 o2,.int .i64 x2] wx)
        case first=>
         have hks:=((HX.out.rw nl).next (Below.refl _ _).drew).k
         go_region_held3 (fun w'=>w'.cell? ⟨w.heap.size,3,none⟩ = some (.int .i64 size)/\w'.cell? ⟨ab,0,none⟩ = some (.int .i64 k)/\w'.cell? ⟨ab,1,none⟩ = some (.int .i64 t)/\w'.cell? ⟨ab,2,none⟩ = some (.int .i64 o)/\w'.cell? ⟨ab,3,none⟩ = some (.int .i64 x)/\w'.cell? ⟨bb,0,none⟩ = some (.int .i64 k2)/\w'.cell? ⟨bb,1,none⟩ = some (.int .i64 t2)/\w'.cell? ⟨bb,2,none⟩ = some (.int .i64 o2)/\w'.cell? ⟨bb,3,none⟩ = some (.int .i64 x2)/\RW w w.heap.size ab bb (Ed op Ad reg size d src off Aa) [.int .i64 k,.int .i64 t,.int .i64 o,.int .i64 x] [.int .i64 k2,.int .i64 t2,.int .i64 o2,.int .i64 x2] w')
          (first
            | with_reducible assumption
            | with_reducible exact RW.n (by with_reducible assumption) hb
            | fail "none")
          (first
            | (go_at_call 73;refine (HW.out).mono ?_;rintro e w' ⟨rfl,hb⟩;have Zu:=(HX.out.next (Below.refl _ _).drew).next hb))
         rename_i C9;clear C9 hks;go_wp2_with fail;go_meet
         case rel=>exact ⟨rfl,Zu⟩
        case rest=>
         obtain ⟨rfl,Zu⟩:=hcut;have H5:=hid Zu;clear Zu HX HW
         cases W with
         | false =>
           have e:=HE.out;rw [if_pos rfl] at e;have HE:=hid e;clear e;go_wp2_with fail;exact bodyPost_ret (v:=.tuple #[.int .i64 0,.int .i64 81]) (by simp [results,results56,go_sem]) rfl ⟨by rw [HE.out];rfl,v,by rw [HE.out];exact (HM.out.same (H5.out).fm.mod (by have h:=(H5.out).fm.Ar;rw [Ph.out] at h;exact h)),Jd.Eu (H5.out).fm.mod HM.out.rb,fun _ _=>rfl⟩
         | true =>
           have e:=HE.out;rw [if_neg (by decide)] at e;have HE:=hid e;clear e;obtain ⟨hA0,An7⟩:=Fe HWW.out;obtain ⟨An,rfl⟩:∃ n:Nat,A0 = n:=⟨A0.toNat,by omega⟩;obtain ⟨sz,rfl⟩:∃ n:Nat,size = n:=⟨size.toNat,by rcases Xy.out.1 with h | h | h | h <;> omega⟩;have HST:=hid An7;clear hA0 An7 hA1;obtain ⟨c0,c1,c2,c3,c4,c5,c6,c7⟩:=H5.out.fm.cells;obtain ⟨⟨a0,a1,a2,a3⟩,_⟩:=H5.out.ra.four;obtain ⟨⟨b0,b1,b2,b3⟩,_⟩:=H5.out.rb.four
           cases q2:(k2 == 1) with
           | false =>
             have e:=HE.out;rw [if_neg (show ¬ k2 = 1 by simpa using q2)] at e;have HE:=hid e;clear e
             cases q5:(k != 2) with
             | true =>
               have e:=HE.out;rw [if_pos (Or.inl (show k ≠ 2 by simpa using q5))] at e;have HE:=hid e;clear e;go_wp2_with (go_at_call 67;refine (Af _ _ _ _ _).mono ?_;rintro e w' ⟨rfl,hb⟩;have Ju:=H5.out.next hb;obtain ⟨_,_,_,_,_,_,_,_⟩:=Ju.fm.cells;obtain ⟨⟨_,_,_,_⟩,_⟩:=Ju.ra.four;obtain ⟨⟨_,_,_,_⟩,_⟩:=Ju.rb.four);exact bodyPost_ret (v:=.tuple #[.int .i64 0,.int .i64 86]) (by simp [results,results56,go_sem]) rfl ⟨by rw [HE.out];rfl,v,by rw [HE.out];exact (HM.out.same (Ju).fm.mod (by have h:=(Ju).fm.Ar;rw [Ph.out] at h;exact h)),Jd.Eu (Ju).fm.mod HM.out.rb,fun _ _=>rfl⟩
             | false =>
               cases q6:((sz:Int) != 8) with
               | true =>
                 have e:=HE.out;rw [if_pos (Or.inr (Or.inl (show (sz:Int) ≠ 8 by simpa using q6)))] at e;have HE:=hid e;clear e;go_wp2_with (go_at_call 67;refine (Af _ _ _ _ _).mono ?_;rintro e w' ⟨rfl,hb⟩;have Ju:=H5.out.next hb;obtain ⟨_,_,_,_,_,_,_,_⟩:=Ju.fm.cells;obtain ⟨⟨_,_,_,_⟩,_⟩:=Ju.ra.four;obtain ⟨⟨_,_,_,_⟩,_⟩:=Ju.rb.four);exact bodyPost_ret (v:=.tuple #[.int .i64 0,.int .i64 86]) (by simp [results,results56,go_sem]) rfl ⟨by rw [HE.out];rfl,v,by rw [HE.out];exact (HM.out.same (Ju).fm.mod (by have h:=(Ju).fm.Ar;rw [Ph.out] at h;exact h)),Jd.Eu (Ju).fm.mod HM.out.rb,fun _ _=>rfl⟩
               | false =>
                 cases q7:((An:Int) % 8 != 0) with
                 | true =>
                   have e:=HE.out;rw [if_pos (Or.inr (Or.inr (show (An:Int) % 8 ≠ 0 by simpa using q7)))] at e;have HE:=hid e;clear e;go_wp2_with (go_at_call 67;refine (Af _ _ _ _ _).mono ?_;rintro e w' ⟨rfl,hb⟩;have Ju:=H5.out.next hb;obtain ⟨_,_,_,_,_,_,_,_⟩:=Ju.fm.cells;obtain ⟨⟨_,_,_,_⟩,_⟩:=Ju.ra.four;obtain ⟨⟨_,_,_,_⟩,_⟩:=Ju.rb.four);exact bodyPost_ret (v:=.tuple #[.int .i64 0,.int .i64 86]) (by simp [results,results56,go_sem]) rfl ⟨by rw [HE.out];rfl,v,by rw [HE.out];exact (HM.out.same (Ju).fm.mod (by have h:=(Ju).fm.Ar;rw [Ph.out] at h;exact h)),Jd.Eu (Ju).fm.mod HM.out.rb,fun _ _=>rfl⟩
                 | false =>
                   have hk2:k = 2:=by simpa using q5
                   have e:=HE.out
                   rw [if_neg (by
                    rintro (h | h | h)
                    ·exact h hk2
                    ·exact h (by simpa using q6)
                    ·exact h (by simpa using q7)),Int.toNat_natCast] at e
                   have Afo:An < 256:=by
                    have h8:(sz:Int) = 8:=by simpa using q6
                    have:=HST.out;unfold Xc at this;rw [if_pos (show (⟨k,t,o,x⟩:Val).k = 2 from hk2)] at this;omega
                   have hw8:=Ano An (by omega);obtain ⟨Q,hQ⟩:∃ Q,Q = An / 8:=⟨_,rfl⟩;rw [<- hQ] at hw8 e;have HE:=hid e;have Ack:Q < 32:=by omega
                   have hQq:=hid Ack;have hq1:(0:Int) <= (Q:Int):=Int.natCast_nonneg _;have hq2:(Q:Int) < 32:=Int.ofNat_lt.2 Ack;clear hk2 e Afo hQ;have hsl:=An6 k2 t2 o2 x2;go_upto_region 14 with (go_at_call 67;refine (Af _ _ _ _ _).mono ?_;rintro e w' ⟨rfl,hb⟩;have Ju:=H5.out.next hb;obtain ⟨_,_,_,_,_,_,_,_⟩:=Ju.fm.cells;obtain ⟨⟨_,_,_,_⟩,_⟩:=Ju.ra.four;obtain ⟨⟨_,_,_,_⟩,_⟩:=Ju.rb.four);have HX:=hid Ju;clear Ju hb;generalize w' = w4 at HX ⊢;have HM4:=hid (HM.out.same (HX.out).fm.mod (by have h:=(HX.out).fm.Ar;rw [Ph.out] at h;exact h));obtain ⟨ck,ct,co,cx,e0,e1,e2,e3,e4,e5,e6,e7,cm,hXX,⟨_,_,_,_,_,_,_,_,_,_,_,_,_⟩,_,_,_,_,_,_,_,_,_,_,_,_,_⟩:=HM4.out.Aqv hQq.out;have HXX:=hid hXX;have hlt4:=HX.out.fm.Ar.lt;obtain ⟨_,_,_,_⟩:=HX.out.rb.four.1;clear Ack hXX
                   go_region
                   go_wp2;have hQl:Q < s.sl.length:=by rw [show s.sl.length = 32 from HM.out.Xx.1];exact hQq.out
                   have h0:=HM4.out.o8 hQl;rw [HXX.out] at h0;have h1:=(h0.Ayk k2 t2 o2 x2 hQl).next (Below.refl _ _).drew;exact bodyPost_ret (v:=.tuple #[.int .i64 0,.int .i64 0]) (by simp [results,results56,go_sem]) rfl ⟨by rw [HE.out],v,by rw [HE.out];exact h1,Jd.Eu ((((((((((((((HX.out.fm.mod.set _ _).set _ _).set _ _).set _ _).set _ _).set _ _).set _ _).set _ _).set _ _).set _ _).set _ _).set _ _).set _ _).below (Below.refl _ _).drew) HM.out.rb,fun _ _=>rfl⟩
           | true =>
             have e:=HE.out;rw [if_pos (show k2 = 1 by simpa using q2),Int.toNat_natCast] at e;have HE:=hid e;have hz1:1 <= sz:=by have:=Xy.out.1;omega
             have hz8:sz <= 8:=by have:=Xy.out.1;omega
             have HZ:=hid (And.intro hz1 hz8);clear e hz1 hz8;have hk4:k ≠ 4:=by simpa using q4
             have HK4:=hid hk4;clear hk4;go_upto_region 10 with (go_at_call 67;refine (Af _ _ _ _ _).mono ?_;rintro e w' ⟨rfl,hb⟩;have Ju:=H5.out.next hb;obtain ⟨_,_,_,_,_,_,_,_⟩:=Ju.fm.cells;obtain ⟨⟨_,_,_,_⟩,_⟩:=Ju.ra.four;obtain ⟨⟨_,_,_,_⟩,_⟩:=Ju.rb.four);have HX:=hid Ju;clear Ju hb;generalize w' = w4 at HX ⊢;have HM4:=hid (HM.out.nine.same (HX.out).fm.mod (by have h:=(HX.out).fm.Ar;rw [Ph.out] at h;exact h));have hks:=((HX.out.rw nl).next (Below.refl _ _).drew).k
             go_region_held3 (fun w'=>w'.cell? ⟨w.heap.size,3,none⟩ = some (.int .i64 sz)/\w'.cell? ⟨ab,0,none⟩ = some (.int .i64 k)/\w'.cell? ⟨ab,1,none⟩ = some (.int .i64 t)/\w'.cell? ⟨ab,2,none⟩ = some (.int .i64 o)/\w'.cell? ⟨ab,3,none⟩ = some (.int .i64 x)/\w'.cell? ⟨bb,0,none⟩ = some (.int .i64 k2)/\w'.cell? ⟨bb,1,none⟩ = some (.int .i64 t2)/\w'.cell? ⟨bb,2,none⟩ = some (.int .i64 o2)/\w'.cell? ⟨bb,3,none⟩ = some (.int .i64 x2)/\RW w w.heap.size ab bb (Ed op Ad reg sz d src off Aa) [.int .i64 k,.int .i64 t,.int .i64 o,.int .i64 x] [.int .i64 k2,.int .i64 t2,.int .i64 o2,.int .i64 x2] w')
              (first
                | with_reducible assumption
                | with_reducible exact RW.n (by with_reducible assumption) hb
                | fail "none")
              (first
                | (go_at_call 77;refine (Apm sz _ x2 rfl HZ.out.1 HZ.out.2 _).mono ?_;rintro e w5 ⟨bp,rfl,hbp,hRp,hb⟩;have hM5:=(HM4.out.next (Below.refl _ _).drew).next hb;have Zu:=(HX.out.next (Below.refl _ _).drew).next hb)
                | (go_at_call 76;refine (Yp ⟨k,t,o,x⟩ Yr.out HK4.out Afn.out An sz (Wq sz x2) (G9 _ _) HZ.out.1 HWW.out _ _ _ hM5 (pq hRp HZ.out.2) (by intro q off he;injection he with he;injection he with h1;rw [<- h1];have:=HX.out.fm.Ar.lt;have h3:w4.heap.size <= bp:=hbp;omega)).mono ?_;rintro e w6 ⟨rfl,hM6,hfr,Aym⟩;have hK6:=(RW.fr (Zu.rw nl) hfr).k))
             rename_i C9;clear C9 hks hK6;go_wp2;exact bodyPost_ret (v:=.tuple #[.int .i64 0,.int .i64 0]) (by simp [results,results56,go_sem]) rfl ⟨by rw [HE.out],v9 v w,by rw [HE.out];exact hM6,fun q hq h9=>(hfr q (Nat.lt_of_lt_of_le hq Zu.fm.mod.size) (by rw [Js q hq];exact h9)).trans (Jd.Eu Zu.fm.mod HM.out.rb q hq h9),Js⟩
end
end Go.Proofs.YtjacnhnaoenelaaGreat
