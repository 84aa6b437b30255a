import Derived.Test.YtjacnhnaoenelaaGreatQMachBI2
import Derived.Test.YtjacnhnaoenelaaGreatQMachAN
set_option maxRecDepth 100000
set_option maxHeartbeats 16000000
namespace Go.Proofs.YtjacnhnaoenelaaGreat
open Lib (hid)
open Go.Proofs.Tryz
open Go.RowKit
set_option linter.unusedVariables false
set_option linter.unusedSimpArgs false
theorem Dz {w:World} {base size n:Nat} {e:TypeId} {v:Value} {xs:List Value} (h:w.ownsRow base e size v n xs) {q:Nat} (hq:q < base) (i:Nat) (x:Value):(w.setCell ⟨q,i,none⟩ x).ownsRow base e size v n xs:=
 Em h fun b hb=>Below.heap_setCell _ _ _ _ (fun hc=>by have:=(h.lt b hb).1;have hc':b = q:=hc;omega)
theorem Arv {st rg:List Value} (hs:st.length = 416) (xv tv dv zv cv uv bg sv:Value) (at' steps:Int) (done:Bool) (x:Value):(mrow st xv tv dv zv cv uv bg rg sv at' steps done).set 416 x = mrow st x tv dv zv cv uv bg rg sv at' steps done:=by
 unfold mrow;rw [List.set_append_right _ _ (by omega),hs];rfl
theorem Arw {st rg:List Value} (hs:st.length = 416) (xv tv dv zv cv uv bg sv:Value) (at' steps:Int) (done:Bool) (x:Value):(mrow st xv tv dv zv cv uv bg rg sv at' steps done).set 417 x = mrow st xv x dv zv cv uv bg rg sv at' steps done:=by
 unfold mrow;rw [List.set_append_right _ _ (by omega),hs];rfl
theorem Arx {st rg:List Value} (hs:st.length = 416) (hr:rg.length = 44) (xv tv dv zv cv uv bg sv:Value) (at' steps:Int) (done:Bool) (x:Value):(mrow st xv tv dv zv cv uv bg rg sv at' steps done).set 467 x = mrow st xv tv dv zv cv uv bg rg x at' steps done:=by
 unfold mrow;rw [List.set_append_right _ _ (by omega),hs,List.set_append_right _ _ (by simp),List.set_append_right _ _ (by simp [hr])];simp [hr]
def rhoC (ρ Xa:Nat->Nat) (n cb n2 nX nT:Nat) (q:Nat):Nat:=
 if q < n then (if ρ q = 9\/(3 <= ρ q/\ρ q <= 6)\/ρ q = 8 then ρ q else 9) else if q = cb then 0 else if q < n2 then 9 else if q < nX then 1 else if q < nT then Xa q else 7
section
variable {base:Nat} {w0:World} {fx:Ak} {s:Mst} {bx:Nat} {v:Bc} {w w2 wX wT wN:World}
theorem MS.copied (hM:MS base w0 fx s bx v w) (cb:Nat) (h2:Below w.heap.size w w2) (hcb:w.heap.size <= cb) (hc2:cb < w2.heap.size) (hrow:Row w2 cb 87 (Aw s v))
 {xv tv sv:Value} {vals:List Value} {yu Xa:Nat->Nat} (bX:Below w2.heap.size w2 wX) (oX:wX.ownsRow w2.heap.size 5 1 xv s.ctx.length (Gp s.ctx)) (T:O4 wX wT yu Xa 10 s.rows.length tv vals s.rows)
 (bN:Below wT.heap.size wT wN) (oN:wN.ownsRow wT.heap.size 3 1 sv s.sent.length (Jb s.sent)) :
 MS base w0 fx s cb { v with ρ:=rhoC v.ρ Xa w.heap.size cb w2.heap.size wX.heap.size wT.heap.size,xv:=xv,tv:=tv,sv:=sv,vals:=vals } (((wN.setCell ⟨cb,416,none⟩ xv).setCell ⟨cb,417,none⟩ tv).setCell ⟨cb,467,none⟩ sv) /\
 Below w.heap.size w (((wN.setCell ⟨cb,416,none⟩ xv).setCell ⟨cb,417,none⟩ tv).setCell ⟨cb,467,none⟩ sv):=by
 have z2:=h2.size;have zX:=bX.size;have zT:=T.bel.size;have zN:=bN.size;have hlt:=hM.box.lt;have hle:=hM.le;have hBN:Below w.heap.size w wN:=((h2.trans (bX.mono z2)).trans (T.bel.mono (by omega))).trans (bN.mono (by omega));have hB:Below w.heap.size w (((wN.setCell ⟨cb,416,none⟩ xv).setCell ⟨cb,417,none⟩ tv).setCell ⟨cb,467,none⟩ sv):=((hBN.setCell hcb _).setCell hcb _).setCell hcb _;have hrN:Row wN cb 87 (Aw s v):=((hrow.below bX hc2).below T.bel (by omega)).below bN (by omega);have hr:=((hrN.put 416 xv).put 417 tv).put 467 sv;have hst:=hM.lq;have hrl:=hM.rl
 have hcs:(((Aw s v).set 416 xv).set 417 tv).set 467 sv = Aw s { v with ρ:=rhoC v.ρ Xa w.heap.size cb w2.heap.size wX.heap.size wT.heap.size,xv:=xv,tv:=tv,sv:=sv,vals:=vals }:=by
  unfold Aw;rw [Arv hst,Arw hst,Arx hst hrl]
 rw [hcs] at hr
 have hfix:∀ b,b < w.heap.size->(v.ρ b = 9\/(3 <= v.ρ b/\v.ρ b <= 6)\/v.ρ b = 8)->rhoC v.ρ Xa w.heap.size cb w2.heap.size wX.heap.size wT.heap.size b = v.ρ b:=fun b hb hf=>by
  unfold rhoC;rw [if_pos hb,if_pos hf]
 have hkeep:∀ {r:Nat} {e:TypeId} {size n:Nat} {x:Value} {xs:List Value},(3 <= r/\r <= 6)->Bf w base v.ρ r e size x n xs->Bf (((wN.setCell ⟨cb,416,none⟩ xv).setCell ⟨cb,417,none⟩ tv).setCell ⟨cb,467,none⟩ sv) base (rhoC v.ρ Xa w.heap.size cb w2.heap.size wX.heap.size wT.heap.size) r e size x n xs:=fun hr6 ho=>
  ⟨Dn ho.1 hB nl,fun b hb=>by
   have h1:=ho.2 b hb;rw [hfix b (ho.1.lt b hb).2 (by omega)];exact h1⟩
 have hput:∀ {B:Nat} {e:TypeId} {size n:Nat} {x:Value} {xs:List Value},cb < B->base <= B->wN.ownsRow B e size x n xs->World.ownsRow (((wN.setCell ⟨cb,416,none⟩ xv).setCell ⟨cb,417,none⟩ tv).setCell ⟨cb,467,none⟩ sv) base e size x n xs:=fun hB1 hB2 ho=>
  Tq (Dz (Dz (Dz ho hB1 _ _) hB1 _ _) hB1 _ _) hB2
 refine ⟨⟨hM.bel.trans (hB.mono (by omega)),hr,by omega,?_,hkeep (by omega) hM.Io,hkeep (by omega) hM.Gq,?_,?_,?_,hkeep (by omega) hM.L8,hkeep (by omega) hM.L9,?_,hM.Xx,hM.Oj⟩,hB⟩
 ·show rhoC _ _ _ _ _ _ _ cb = 0;unfold rhoC;rw [if_neg (by omega),if_pos rfl]
 ·exact ⟨(hB.block _ hM.begin'.lt).trans hM.begin'.at', hM.begin'.le, by
   have h1:=hM.begin'.role;show rhoC _ _ _ _ _ _ _ v.mb = 8;rw [hfix _ hM.begin'.lt (by omega)];exact h1⟩
 ·refine ⟨hput (B:=w2.heap.size) hc2 (by omega) (Dn (Dn oX T.bel nl) bN nl),fun b hb=>?_⟩;obtain ⟨h1,h2'⟩:=oX.lt b hb;show rhoC _ _ _ _ _ _ _ b = 1;unfold rhoC;rw [if_neg (by omega),if_neg (by omega),if_neg (by omega),if_pos h2']
 ·refine ⟨⟨hput (B:=wX.heap.size) (by omega) (by omega) (Dn T.list.1 bN nl),fun b hb=>?_⟩,fun k hk=>?_⟩
  ·obtain ⟨h1,h2'⟩:=T.list.1.lt b hb;show rhoC _ _ _ _ _ _ _ b = 10;unfold rhoC;rw [if_neg (by omega),if_neg (by omega),if_neg (by omega),if_neg (by omega),if_pos h2'];exact T.list.2 b hb
  ·obtain ⟨u,hu,ho⟩:=T.item k hk hk;refine ⟨u,hu,hput (B:=wX.heap.size) (by omega) (by omega) (Dn ho.1 bN nl),fun b hb=>?_⟩;obtain ⟨h1,h2'⟩:=ho.1.lt b hb;show rhoC _ _ _ _ _ _ _ b = 11 + k;unfold rhoC;rw [if_neg (by omega),if_neg (by omega),if_neg (by omega),if_neg (by omega),if_pos h2'];have:=ho.2 b hb;omega
 ·refine ⟨hput (B:=wT.heap.size) (by omega) (by omega) oN,fun b hb=>?_⟩;obtain ⟨h1,_⟩:=oN.lt b hb;show rhoC _ _ _ _ _ _ _ b = 7;unfold rhoC;rw [if_neg (by omega),if_neg (by omega),if_neg (by omega),if_neg (by omega),if_neg (by omega)]
theorem Ary {ρ Xa:Nat->Nat} {n cb n2 nX nT q:Nat} (h:q < n):Qs (rhoC ρ Xa n cb n2 nX nT q):=by
 unfold rhoC Qs;rw [if_pos h]
 split
 ·assumption
 ·exact Or.inl rfl
theorem Arz {ρ Xa:Nat->Nat} {n cb n2 nX nT q:Nat} (h:n <= q) (hc:q ≠ cb) (h2:q < n2):Qs (rhoC ρ Xa n cb n2 nX nT q):=by
 unfold rhoC;rw [if_neg (by omega),if_neg hc,if_pos h2];exact Or.inl rfl
theorem Aoh {s1:Mst} {cb:Nat} {vc v':Bc} {wE w':World} (hM:MS base w0 fx s bx v w) (hB:Below w.heap.size w wE) (hC:MS base w0 fx s cb vc wE) (hcb:w.heap.size <= cb) (hold:∀ q,q < w.heap.size->Qs (vc.ρ q)) (h':MS base w0 fx s1 cb v' w') (hf:Jd vc.ρ wE w'):Below w.heap.size w w':=
 ⟨(h'.bel.os).trans hM.bel.os.symm,(h'.bel.tape).trans hM.bel.tape.symm,(h'.bel.output).trans hM.bel.output.symm,by have:=h'.box.lt;omega,fun q hq=>(hf q (Nat.lt_of_lt_of_le hq hB.size) (hold q hq)).trans (hB.block q hq)⟩
end
theorem Acs:(prog.info? 87).map (·.size) = some 471:=by kernel_rfl
theorem Aae:Tryz.zeroCells87.size = 471:=by kernel_rfl
theorem cells_one {base:Nat} {w0:World} {fx:Ak} {s:Mst} {bx:Nat} {v:Bc} {w:World} (h:MS base w0 fx s bx v w):∀ u ∈ Aw s v,u.oneCell' = true:=by
 intro u hu;obtain ⟨a1,c1,e1⟩:=Ai h.Qr.1;obtain ⟨a2,c2,e2⟩:=Ai h.Oo.list.1;obtain ⟨a3,c3,e3⟩:=Ai h.L8.1;obtain ⟨a4,c4,e4⟩:=Ai h.L9.1;obtain ⟨a5,c5,e5⟩:=Ai h.Io.1;obtain ⟨a6,c6,e6⟩:=Ai h.Gq.1;obtain ⟨a7,c7,e7⟩:=Ai h.Jo.1;unfold Aw mrow at hu;simp only [List.mem_append,List.mem_cons,List.not_mem_nil,or_false] at hu
 rcases hu with hu | (rfl | rfl | rfl | rfl | rfl | rfl | rfl) | hu | rfl | rfl | rfl | rfl
 ·unfold Mst.st Rw at hu;obtain ⟨x,_,hx⟩:=List.mem_flatMap.1 hu;unfold Slot.cs Val.cs at hx;simp only [List.mem_append,List.mem_cons,List.not_mem_nil,or_false,List.mem_map] at hx
  rcases hx with (rfl | rfl | rfl | rfl) | ⟨y,_,rfl⟩ | rfl <;> rfl
 ·rw [e1];rfl
 ·rw [e2];rfl
 ·rw [e3];rfl
 ·rw [e4];rfl
 ·rw [e5];rfl
 ·rw [e6];rfl
 ·rfl
 ·unfold Ei at hu;obtain ⟨x,_,hx⟩:=List.mem_flatMap.1 hu;unfold Val.cs at hx;simp only [List.mem_cons,List.not_mem_nil,or_false] at hx
  rcases hx with rfl | rfl | rfl | rfl <;> rfl
 ·rw [e7];rfl
 all_goals rfl
structure LK (base:Nat) (w0:World) (fx:Ak) (s:Mst) (bx:Nat) (v:Bc) (w:World) (cb:Nat) (i cs:List Value) (w1:World):Prop where
 ms0:MS base w0 fx s bx v w
 ins:Row w1 w.heap.size 70 i
 row:∃ cs,Row w1 cb 87 cs/\cs.length = 471
 cb:w.heap.size < cb
 bel:Below w.heap.size w w1
section
variable {base:Nat} {w0:World} {fx:Ak} {s:Mst} {bx cb:Nat} {v:Bc} {w w1 w2:World} {i cs:List Value}
theorem LK.ms (h:LK base w0 fx s bx v w cb i cs w1):MS base w0 fx s bx v w1:=h.ms0.next h.bel
theorem LK.next (h:LK base w0 fx s bx v w cb i cs w1) (hb:Below w1.heap.size w1 w2):LK base w0 fx s bx v w cb i cs w2:=⟨h.ms0,h.ins.below hb h.ins.lt,let ⟨cs,hr,hl⟩:=h.row;⟨cs,hr.below hb hr.lt,hl⟩,h.cb,h.bel.trans (hb.mono h.bel.size)⟩
theorem LK.put (h:LK base w0 fx s bx v w cb i cs w1) (k:Nat) (x:Value):LK base w0 fx s bx v w cb i cs (w1.setCell ⟨cb,k,none⟩ x):=⟨h.ms0,h.ins.other _ _ (by have:=h.cb;show w.heap.size ≠ cb;omega),let ⟨cs,hr,hl⟩:=h.row;⟨cs.set k x,hr.put k x,by rw [List.length_set];exact hl⟩,h.cb,h.bel.setCell (Nat.le_of_lt h.cb) _⟩
theorem LK.k (h:LK base w0 fx s bx v w cb i cs w1):w1.cell? ⟨bx,416,none⟩ = some v.xv/\w1.cell? ⟨bx,417,none⟩ = some v.tv/\w1.cell? ⟨bx,467,none⟩ = some v.sv/\LK base w0 fx s bx v w cb i cs w1:=⟨h.ms.heads.1,h.ms.heads.2.1,h.ms.tail.1,h⟩
theorem LK.n (h:w1.cell? ⟨bx,416,none⟩ = some v.xv/\w1.cell? ⟨bx,417,none⟩ = some v.tv/\w1.cell? ⟨bx,467,none⟩ = some v.sv/\LK base w0 fx s bx v w cb i cs w1) (hb:Below w1.heap.size w1 w2):w2.cell? ⟨bx,416,none⟩ = some v.xv/\w2.cell? ⟨bx,417,none⟩ = some v.tv/\w2.cell? ⟨bx,467,none⟩ = some v.sv/\LK base w0 fx s bx v w cb i cs w2:=(h.2.2.2.next hb).k
theorem LK.st (h:w1.cell? ⟨bx,416,none⟩ = some v.xv/\w1.cell? ⟨bx,417,none⟩ = some v.tv/\w1.cell? ⟨bx,467,none⟩ = some v.sv/\LK base w0 fx s bx v w cb i cs w1) (k:Nat) (x:Value):(w1.setCell ⟨cb,k,none⟩ x).cell? ⟨bx,416,none⟩ = some v.xv/\(w1.setCell ⟨cb,k,none⟩ x).cell? ⟨bx,417,none⟩ = some v.tv/\(w1.setCell ⟨cb,k,none⟩ x).cell? ⟨bx,467,none⟩ = some v.sv/\LK base w0 fx s bx v w cb i cs (w1.setCell ⟨cb,k,none⟩ x):=(h.2.2.2.put k x).k
theorem LK.cells (h:LK base w0 fx s bx v w cb i cs w1) (k:Nat) (hk:k < 471):(∃ x,w1.cell? ⟨cb,k,none⟩ = some x)/\w1.frozen? ⟨cb,k,none⟩ = false/\cb < w1.heap.size:=by
 obtain ⟨cs,hr,hl⟩:=h.row;exact ⟨⟨_,(hr.cell k).trans (List.getElem?_eq_getElem (by omega))⟩,hr.free k,hr.lt⟩
end
theorem Aba {fx:Ak} {s:Mst} (hm:J4 fx s) (k:Nat) (hk:k < s.rows.length):s.rows[k].length <= 140737488355328:=by
 obtain ⟨_,h⟩:=hm.rows k hk;obtain ⟨a1,a2,a3,a4⟩:=hm.tabs k (by rw [<- hm.Md];exact hk);have:(fx.tabs.getD k (0,0)).1 * (fx.tabs.getD k (0,0)).2 <= 64 * 64:=Int.mul_le_mul a2 a4 (by omega) (by omega);omega
theorem Yu {P:Program} {ops:Array Oper} {rest:List Oper} {op:Oper} {a:Act} {w:World} {Q:Exit->Act->World->Prop} (hgd:op.guard = none) (ty:TypeId) (x y:Operand) (ho:op.op = .store ty x y)
 (z:Array Value) (cs:List Value) (b:Nat) (hb:w.heap.size = b) (hx:a.eval x = .pointer (some ⟨b,0,none⟩)) (hy:a.eval y = .agg cs.toArray)
 (hi:(P.info? ty).map (·.size) = some cs.length) (hz:z.size = cs.length) (h1:∀ v ∈ cs,v.oneCell' = true)
 (hd:op.dst = none) (h:wpList P ops Q rest a (w.alloc (.cells cs.toArray ty))):wpList P ops Q (op :: rest) a (w.alloc (.cells z ty)):=by
 subst hb;refine wpList_plain hgd fun _ hK=>?_;unfold Oper.wp execOp;simp only [ho,hx,hy,Instr.storeAt,Instr.sureAddr,Sem.run_bind,Sem.run_pure,Result.andThen_ok,run_storeVar_new w ty z cs.toArray (by simpa using hi) (by simpa using hz) (all_oneCell_toArray h1)];exact hK _ _ (by rw [hd];exact h)
theorem Aupx {fx:Ak} {s:Mst} (hG:Good fx s) (ht8:fx.tabs.length <= 8) (i:Ins) (hi:Me fx i) (hdo:DoR (D8 i.op) fx s i (Ij fx s i).by' (Ij fx s i).er (Ij fx s i).s) (base:Nat) (w0:World) (bx:Nat) (v:Bc) (w:World) (hM:MS base w0 fx s bx v w) :
 Calls prog 41 #[.pointer (some ⟨bx,0,none⟩),i.agg] w fun e w'=>e = .returned (.int .i64 (if (Ij fx s i).er = 0 then 89 else (Ij fx s i).er))/\Below w.heap.size w w':=by
 obtain ⟨by',hby⟩:∃ z,(Ij fx s i).by' = z:=⟨_,rfl⟩
 obtain ⟨er,her⟩:∃ z,(Ij fx s i).er = z:=⟨_,rfl⟩;obtain ⟨s1,hs1⟩:∃ z,(Ij fx s i).s = z:=⟨_,rfl⟩;rw [hby,her,hs1] at hdo;rw [her];have HDO:=hid hdo;have HM:=hid hM;have HG:=hid (And.intro hG ht8);have hone:=cells_one hM;have hlen:=hM.len;obtain ⟨op,Ad,reg,size,dst,src,off,Aa⟩:=i;have HF:=hid (FM.begin hM.box op Ad reg size dst src off Aa);obtain ⟨cs,hcs⟩:∃ cs,cs = Aw s v:=⟨_,rfl⟩;rw [<- hcs] at HF hone hlen;have Ph:=hid hcs;have HLEN:=hid (And.intro hlen hone);have Auk:=hM.box.lt;clear hcs hdo hby her hs1 hM hG hi hone hlen ht8;unfold Ins.agg;simp only;go_enter func41,ntmps41;go_upto_region 1 with fail;have Axe:(w.alloc (.cells #[.int .i64 op,.bool Ad,.bool reg,.int .i64 size,.int .i64 dst,.int .i64 src,.int .i64 off,.int .i64 Aa] 70)).heap.size = w.heap.size + 1:=by simp
 generalize hw1:World.alloc _ _ = w1 at HF Axe ⊢;have HB1:=hid (show Below w.heap.size w w1 by rw [<- hw1];exact Ae w _);clear hw1;have HLO:=hid (show w1.rangeAt bx 0 cs from fun j u hj=>by rw [Nat.zero_add,HF.out.Ar.cell];exact hj);have HIM:=hid (show (prog.info? 87).map (·.size) = some cs.length by rw [HLEN.out.1];exact Acs);have Auq:=Axe;clear Axe
 go_upto_region 2 with (first
  | refine wpList_load_mid rfl 87 (.tmp 9) rfl bx 0 rfl cs _ HLO.out underlying87 rfl HIM.out ?_
  | refine Yu rfl 87 (.tmp 5) (.tmp 10) rfl Tryz.zeroCells87 cs _ Auq rfl rfl HIM.out (Aae.trans HLEN.out.1.symm) HLEN.out.2 rfl ?_)
 have hLK:LK base w0 fx s bx v w (w.heap.size + 1) (Ed op Ad reg size dst src off Aa) cs (w1.alloc (.cells cs.toArray 87)):=⟨HM.out,HF.out.ins.alloc _,⟨cs,by rw [<- Auq];exact Row.made w1 cs _,HLEN.out.1⟩,by omega,HB1.out.alloc HB1.out.size _⟩;have hR2:Row (w1.alloc (.cells cs.toArray 87)) (w.heap.size + 1) 87 cs:=by rw [<- Auq];exact Row.made w1 cs _
 obtain ⟨cb,hcb⟩:∃ z,w.heap.size + 1 = z:=⟨_,rfl⟩;rw [hcb] at hLK hR2
 try simp only [hcb]
 clear Auq hcb;generalize World.alloc _ _ = w2 at hLK hR2 ⊢;have HL:=hid hLK;have HR2:=hid hR2;clear hLK hR2 HB1 HF;have HCB:=hid (fun (w':World) (hS:w'.cell? ⟨bx,416,none⟩ = some v.xv/\w'.cell? ⟨bx,417,none⟩ = some v.tv/\w'.cell? ⟨bx,467,none⟩ = some v.sv/\LK base w0 fx s bx v w cb (Ed op Ad reg size dst src off Aa) cs w')=>Iw v.xv s.ctx.length (Gp s.ctx) w' (Gl hS.2.2.2.ms.Qr.1 (Ot _) (by decide)) (by have:=HG.out.1.mem.Zt;omega));have HCN:=hid (fun (w':World) (hS:w'.cell? ⟨bx,416,none⟩ = some v.xv/\w'.cell? ⟨bx,417,none⟩ = some v.tv/\w'.cell? ⟨bx,467,none⟩ = some v.sv/\LK base w0 fx s bx v w cb (Ed op Ad reg size dst src off Aa) cs w')=>Yh v.sv s.sent.length (Jb s.sent) w' (Gl hS.2.2.2.ms.Jo.1 (Wy _) (by decide)) (by have:=HG.out.1.sent.1;omega));have HCT:=hid (fun (w':World) (hS:w'.cell? ⟨bx,416,none⟩ = some v.xv/\w'.cell? ⟨bx,417,none⟩ = some v.tv/\w'.cell? ⟨bx,467,none⟩ = some v.sv/\LK base w0 fx s bx v w cb (Ed op Ad reg size dst src off Aa) cs w')=>Uu v.tv v.vals s.rows (by have:=HG.out.1.mem.Md;have:=HG.out.2;omega) (fun k hk=>Aba HG.out.1.mem k hk) w' (Ho hS.2.2.2.ms.Oo (fun k hk=>(HG.out.1.mem.rows k hk).1)) (fun _=>0) 10)
 go_cut [] from 11 to 32 (fun wx=>∃ vc,MS base w0 fx s cb vc wx/\Below w.heap.size w wx/\(∀ q,q < w.heap.size->Qs (vc.ρ q))/\Qs (vc.ρ w.heap.size)/\Row wx w.heap.size 70 (Ed op Ad reg size dst src off Aa))
 case first=>
  have hks:=(HL.out.next (Below.refl _ _).drew).k
  go_region_held3 (fun w'=>w'.cell? ⟨bx,416,none⟩ = some v.xv/\w'.cell? ⟨bx,417,none⟩ = some v.tv/\w'.cell? ⟨bx,467,none⟩ = some v.sv/\LK base w0 fx s bx v w cb (Ed op Ad reg size dst src off Aa) cs w')
   (first
     | with_reducible assumption
     | exact LK.n (by with_reducible assumption) hbC
     | exact LK.n (by with_reducible assumption) hT.bel
     | exact LK.n (by with_reducible assumption) hbN
     | exact LK.st (by with_reducible assumption) _ _)
   (first
     | (go_at_call 32;refine (HCB.out _ (by with_reducible assumption)).mono ?_;rintro e wC ⟨vC,rfl,Ou,hbC⟩;obtain ⟨aC,kC,rfl⟩:=Ai Ou)
     | (go_at_call 33;refine (HCT.out _ (by with_reducible assumption)).mono ?_;rintro e wT ⟨vT,Zf,Xa,rfl,hT⟩;obtain ⟨aT,kT,rfl⟩:=Ai hT.list.1)
     | (go_at_call 43;refine (HCN.out _ (by with_reducible assumption)).mono ?_;rintro e wN ⟨vN,rfl,Xb,hbN⟩;obtain ⟨aN,kN,rfl⟩:=Ai Xb;have hLN:=(((HL.out.next (Below.refl _ _).drew).next hbC).next hT.bel).next hbN;obtain ⟨⟨z0,hz0⟩,Ayy,hltz⟩:=hLN.cells 416 (by decide);obtain ⟨⟨z1,hz1⟩,hfz1,_⟩:=hLN.cells 417 (by decide);obtain ⟨⟨z2,hz2⟩,A0i,_⟩:=hLN.cells 467 (by decide)))
  rename_i C9;have hd:Below w.heap.size w w2.drew:=HL.out.bel.drew;have hC:=MS.copied (w2:=w2.drew) HM.out cb hd (Nat.le_of_lt HL.out.cb) (by have:=HR2.out.lt;simpa using this) (by rw [<- Ph.out];exact HR2.out.drew) hbC Ou hT hbN Xb;have hlb:w.heap.size ≠ cb:=Nat.ne_of_lt HL.out.cb;have hl2:w.heap.size < w2.drew.heap.size:=by have:=HL.out.ins.lt;simpa using this
  go_wp2_with fail;go_meet
  case rel=>exact ⟨_,hC.1,hC.2,fun q hq=>Ary hq,Arz nl hlb hl2,C9.2.2.2.ins⟩
 case rest=>
  obtain ⟨vc,hC,hB,hold,Ayz,hins⟩:=hcut;have HC:=hid (And.intro hC (And.intro hB (And.intro hold (And.intro Ayz hins))));clear hC hB hold Ayz hins HCB HCN HCT HR2;obtain ⟨wE,rfl⟩:∃ z,z = wc:=⟨_,rfl⟩;go_upto_region 3 with fail
  go_cut [6,7] from 33 to 40 (fun s6 s7 wx=>s6 = .int .i64 by'/\s7 = .int .i64 er/\Below w.heap.size w wx)
  case first=>
   have HI4:=hid (HC.out.2.2.2.2.drew);have HM4:=hid (HC.out.1.next (Below.refl _ _).drew);have hks:=s9 HI4.out;obtain ⟨F,hF⟩:∃ F,D8 op = F:=⟨_,rfl⟩;have Aqa:=Aer op;rw [hF] at Aqa;have hdr:=fun w'=>Aku op cb w';have hdo:=HDO.out;rw [hF] at hdr hdo;have HDR:=hid hdr;have Aqb:=hid hdo;clear hdr hdo;unfold l9 at HDR;unfold DoR Ins.agg at Aqb;simp only at Aqb
   rcases Aqa with rfl | rfl | rfl | rfl | rfl | rfl | rfl | rfl | rfl | rfl
   all_goals
    go_region_held3 (fun w'=>w'.cell? ⟨w.heap.size,0,none⟩ = some (.int .i64 op)/\w'.cell? ⟨w.heap.size,1,none⟩ = some (.bool Ad)/\w'.cell? ⟨w.heap.size,2,none⟩ = some (.bool reg)/\w'.cell? ⟨w.heap.size,3,none⟩ = some (.int .i64 size)/\w'.cell? ⟨w.heap.size,4,none⟩ = some (.int .i64 dst)/\w'.cell? ⟨w.heap.size,5,none⟩ = some (.int .i64 src)/\w'.cell? ⟨w.heap.size,6,none⟩ = some (.int .i64 off)/\w'.cell? ⟨w.heap.size,7,none⟩ = some (.int .i64 Aa)/\Row w' w.heap.size 70 (Ed op Ad reg size dst src off Aa))
     (first
       | with_reducible assumption
       | with_reducible exact s9 hr)
     (first
       | (go_at_call 42;refine (HDR.out _).mono ?_;rintro e w' ⟨rfl,rfl⟩)
       | ((first | go_at_call 52 | go_at_call 53 | go_at_call 54 | go_at_call 55 | go_at_call 56 | go_at_call 57 | go_at_call 58 | go_at_call 59 | go_at_call 60 | go_at_call 61);refine (Aqb.out _ _ _ _ _ HM4.out).mono ?_;rintro e wX ⟨rfl,v',hM',hf,hro⟩;have hr:Row wX w.heap.size 70 (Ed op Ad reg size dst src off Aa):=(hf _ HI4.out.lt HC.out.2.2.2.1).trans HI4.out))
   all_goals
    rename_i C9;go_wp2_with fail;go_meet
    case rel=>exact ⟨rfl,rfl,Aoh HM.out HC.out.2.1.drew HM4.out (Nat.le_of_lt HL.out.cb) HC.out.2.2.1 hM' hf⟩
  case rest=>
   obtain ⟨rfl,rfl,hB⟩:=hcut;have HB:=hid hB;clear hB HC HDO
   by_cases he:er = 0
   ·subst he;go_wp2_with fail;exact bodyPost_ret (v:=.int .i64 89) (by simp [results,results41,go_sem]) rfl ⟨rfl,HB.out⟩
   ·have het:(er != 0) = true:=by simpa using he
    go_wp2_with fail;exact bodyPost_ret (v:=.int .i64 er) (by simp [results,results41,go_sem]) rfl ⟨by first | rfl | rw [if_neg he],HB.out⟩
end Go.Proofs.YtjacnhnaoenelaaGreat
