import Derived.Test.YtdepknffpnnmmaaGreatMachAW
import Derived.Test.YtdepknffpnnmmaaGreatMachAR
import Derived.Test.YtdepknffpnnmmaaGreatJ6a
import Derived.Test.YtdepknffpnnmmaaGreatJ5a
import Derived.Deep.WholeRow
import Derived.Deep.MidRow
import Derived.BigQuiet
import Derived.Deep.Cut
set_option maxRecDepth 100000
set_option maxHeartbeats 16000000
namespace Go.Proofs.YtdepknffpnnmmaaGreat
open Go.RowKit
set_option linter.unusedVariables false
set_option linter.unusedSimpArgs false
theorem kinds_of' {imm:Int} (h:atomicv imm = true):Kinds imm:=by
 unfold atomicv writesSrcv at h
 unfold Kinds
 simp at h
 omega
theorem do_atomD' {fx:Mfix} {s:Mst} (h:Good fx s) (i:Ins) (hi:InsOK fx i) (hop:i.op = 25):DoR (doerF i.op) fx s i (atomD fx s i).by' (atomD fx s i).er (atomD fx s i).s:=by
 have hF:doerF i.op = 72:=by
  unfold doerF
  rw [if_neg (by omega),if_neg (by omega),if_neg (by omega),if_neg (by omega),if_neg (by omega),if_pos hop]
 rw [hF]
 have hby:(atomD fx s i).by' = 0:=by
  unfold atomD;dsimp only;repeat' split
  all_goals rfl
 rw [hby]
 intro base w0 bx v w hM
 obtain ⟨d,hd⟩:∃ d:Nat,i.dst = d:=⟨i.dst.toNat,by have:=hi.dst;omega⟩
 obtain ⟨r,hr⟩:∃ r:Nat,i.src = r:=⟨i.src.toNat,by have:=hi.src;omega⟩
 have hd1:=hi.dst
 have hr1:=hi.src
 obtain ⟨hsz,hat⟩:=hi.atom hop
 have hk:=kinds_of' hat
 have hoff:=hi.off
 obtain ⟨op,nar,reg,size,dst,src,off,imm⟩:=i
 simp only at hd hr hd1 hr1 hsz hoff hop hk
 subst hd hr
 have hg:∀ n:Nat,n < 11->s.rg[n]? = some (s.reg n):=fun n hn=>by rw [s.reg_get n (by have:=h.regs.1;omega)];exact List.getElem?_eq_getElem _
 exact atom_walk op nar reg size off imm d r (by omega) (by omega) (s.reg d).k (s.reg d).t (s.reg d).o (s.reg d).x (s.reg r).k (s.reg r).t (s.reg r).o (s.reg r).x (s.reg 0).k (s.reg 0).t (s.reg 0).o (s.reg 0).x
  (hg d (by omega)) (hg r (by omega)) (hg 0 (by decide)) (reg_ok h.regs 0).x hk (reg_ok h.regs d).ptr h.mem (by omega) hoff w hM
theorem doF_call0 {fx:Mfix} {s:Mst} {i:Ins} (h:i.op = 38):doF fx s i = callD fx s i:=by
 unfold doF
 rw [if_neg (by omega),if_neg (by omega),if_neg (by omega),if_neg (by omega),if_neg (by omega),if_neg (by omega),if_neg (by omega),if_neg (by omega),if_pos h]
theorem call_bad (op:Int) (nar reg:Bool) (size dst src off imm:Int) (hbad:imm < 1\/8 < imm) (bx:Nat) (cs:List Value) (w:World) (h:Row w bx 99 cs) :
 Calls Tryz.prog 75 #[.pointer (some ⟨bx,0,none⟩),.agg #[.int .i64 op,.bool nar,.bool reg,.int .i64 size,.int .i64 dst,.int .i64 src,.int .i64 off,.int .i64 imm]] w (Wrote w bx cs 0 87):=by
 have HF:=Lib.hid (FM.begin h op nar reg size dst src off imm)
 have HL:=Lib.hid (looks_none imm hbad)
 clear h hbad
 go_enter Tryz.func75,Tryz.ntmps75
 go_upto_region 1 with fail
 generalize World.alloc _ _ = w1 at HF ⊢
 obtain ⟨c0,c1,c2,c3,c4,c5,c6,c7⟩:=HF.out.cells
 go_wp2_with (go_at_call 96;go_loud (refine (sig_none imm HL.out _).mono ?_;rintro e wS ⟨rfl,hbS⟩))
 have hF:=(HF.out.next hbS).next (below_map wS (.cells #[.slice none 0 0,.int .i64 0,.int .i64 0,.bool false,.bool false] 136))
 exact bodyPost_ret (v:=.tuple #[.int .i64 0,.int .i64 87]) (by simp [results,Tryz.results75,go_sem]) rfl ⟨rfl,hF.mod,hF.mach⟩
theorem do_callA {fx:Mfix} {s:Mst} (h:Good fx s) (i:Ins) (hop:i.op = 38):DoR (doerF i.op) fx s i (callD fx s i).by' (callD fx s i).er (callD fx s i).s:=by
 have hF:doerF i.op = 75:=by
  unfold doerF
  rw [if_neg (by omega),if_neg (by omega),if_neg (by omega),if_neg (by omega),if_neg (by omega),if_neg (by omega),if_neg (by omega),if_neg (by omega),if_pos hop]
 rw [hF,call_by]
 obtain ⟨op,nar,reg,size,dst,src,off,imm⟩:=i
 by_cases hb:imm < 1\/8 < imm
 ·have e : callD fx s ⟨op, nar, reg, size, dst, src, off, imm⟩ = trapD s 87 := by
   unfold callD
   rw [if_pos (show (Ins.mk op nar reg size dst src off imm).imm < 1\/8 < (Ins.mk op nar reg size dst src off imm).imm from hb)]
  rw [e]
  exact do_same fun bx cs w hl hr hl2 hw=>call_bad op nar reg size dst src off imm hb bx cs w hw
 ·intro base w0 bx v w hM
  exact call_walk op nar reg size dst src off imm (by omega) h w hM
theorem constant_data (nar reg:Bool) (size src off imm:Int) (d:Nat) (hd:d < 11) (bx:Nat) (cs:List Value) (w:World) (hl:cs.length = 471) (h:Row w bx 99 cs) :
 Calls Tryz.prog 69 #[.pointer (some ⟨bx,0,none⟩),.agg #[.int .i64 21,.bool nar,.bool reg,.int .i64 size,.int .i64 d,.int .i64 src,.int .i64 off,.int .i64 imm]] w (Wrote w bx (set4 cs (423 + d * 4) (.int .i64 4) (.int .i64 0) (.int .i64 0) (.int .i64 imm)) 0 0):=by
 have hj1:(0:Int) <= (d:Int):=by omega
 have hj2:(d:Int) < 11:=by omega
 have HF:=Lib.hid (FM.begin h 21 nar reg size d src off imm)
 clear h
 go_enter Tryz.func69,Tryz.ntmps69
 go_upto_region 1 with fail
 generalize World.alloc _ _ = w1 at HF ⊢
 have hks:=(show FX w bx w.heap.size 21 nar reg size d src off imm w1 from ⟨_,HF.out,hl⟩).next (Below.refl _ _).drew
 replace hks:=hks.k47
 go_region_held3 (fun w'=>w'.cell? ⟨w.heap.size,4,none⟩ = some (.int .i64 d)/\w'.cell? ⟨w.heap.size,7,none⟩ = some (.int .i64 imm)/\FX w bx w.heap.size 21 nar reg size d src off imm w')
  (first | assumption | exact FX.n47 (by assumption) hb | exact (FX.set4 (FX.n47 (by assumption) hb).2.2 _ _ _ _ _).k47 | exact (FX.set4 (by assumption) _ _ _ _ _).k47)
  (first
    | (go_at_call 50;refine (num_of _ _).mono ?_;rintro e w' ⟨rfl,hb⟩;have hFc:=HF.out.drew.next hb;obtain ⟨_,_,_,_,⟨_,_,_,_⟩,_,_,_,_⟩:=hFc.row4 hl d hd))
 rename_i hheld
 have HF2:=Lib.hid (hFc.set4 (423 + d * 4) (.int .i64 1) (.int .i64 0) (.int .i64 0) (.int .i64 imm))
 clear hheld hks hFc
 generalize World.setCell _ _ _ = w2 at HF2 ⊢
 obtain ⟨c0,c1,c2,c3,c4,c5,c6,c7⟩:=HF2.out.cells
 have hl2:(set4 cs (423 + d * 4) (.int .i64 1) (.int .i64 0) (.int .i64 0) (.int .i64 imm)).length = 471:=by unfold set4;simp [hl]
 go_upto_region 3 with fail
 obtain ⟨_,_,_,_,⟨_,_,_,_⟩,_,_,_,_⟩:=HF2.out.row4 hl2 d hd
 have hlt:=HF2.out.mach.lt
 go_region
 go_wp2
 have hF3:=(HF2.out.drew).set (423 + d * 4) (.int .i64 4)
 have e:((((cs.set (423 + d * 4) (.int .i64 1)).set (423 + d * 4 + 1) (.int .i64 0)).set (423 + d * 4 + 2) (.int .i64 0)).set (423 + d * 4 + 3) (.int .i64 imm)).set (423 + d * 4) (.int .i64 4) = set4 cs (423 + d * 4) (.int .i64 4) (.int .i64 0) (.int .i64 0) (.int .i64 imm):=by
  unfold set4
  rw [List.set_comm _ _ (show 423 + d * 4 + 3 ≠ 423 + d * 4 by omega),List.set_comm _ _ (show 423 + d * 4 + 2 ≠ 423 + d * 4 by omega),List.set_comm _ _ (show 423 + d * 4 + 1 ≠ 423 + d * 4 by omega),List.set_set]
 first | rw [e] at hF3 | (unfold set4 at hF3;rw [e] at hF3)
 exact bodyPost_ret (v:=.tuple #[.int .i64 0,.int .i64 0]) (by simp [results,Tryz.results69,go_sem]) rfl ⟨rfl,hF3.mod,hF3.mach⟩
theorem do_dataD (fx:Mfix) (s:Mst) (i:Ins) (hop:i.op = 21) (hd:0 <= i.dst/\i.dst < 11):DoR (doerF i.op) fx s i (constD s i).by' (constD s i).er (constD s i).s:=by
 obtain ⟨op,nar,reg,size,dst,src,off,imm⟩:=i
 simp only at hop hd
 subst hop
 obtain ⟨d,rfl⟩:∃ d:Nat,dst = d:=⟨dst.toNat,by omega⟩
 have hd':d < 11:=by omega
 exact do_set d hd' ⟨4,0,0,imm⟩ fun bx cs w hl hr hl2 h=>constant_data nar reg size src off imm d hd' bx cs w hl h
theorem do_partD {fx:Mfix} {s:Mst} (h:Good fx s) (i:Ins) (hi:InsOK fx i) (hop:16 <= i.op/\i.op <= 19):DoR (doerF i.op) fx s i (partD s i).by' (partD s i).er (partD s i).s:=by
 obtain ⟨d,hd⟩:∃ d:Nat,i.dst = d:=⟨i.dst.toNat,by have:=hi.dst;omega⟩
 obtain ⟨r,hr⟩:∃ r:Nat,i.src = r:=⟨i.src.toNat,by have:=hi.src;omega⟩
 have hd1:=hi.dst
 have hr1:=hi.src
 obtain ⟨op,nar,reg,size,dst,src,off,imm⟩:=i
 simp only at hd hr hd1 hr1 hop
 subst hd hr
 have hd':d < 11:=by omega
 have hr':r < 11:=by omega
 have hg:∀ n:Nat,∀ (hn:n < 11) (hl:s.rg.length = 11),s.rg[n]'(by omega) = s.reg n:=fun n hn hl=>(s.reg_get n (by omega)).symm
 by_cases h16:op = 16
 ·subst h16
  rw [show doerF 16 = 68 from rfl]
  by_cases hk:(s.reg r).k = 1
  ·have e : partD s ⟨16, nar, reg, size, d, r, off, imm⟩ = ⟨0, 0, { s with rg := s.rg.set d (nval (extF size nar (s.reg r).x)) }⟩ := by
    unfold partD partV
    rw [if_pos (show (Ins.mk 16 nar reg size d r off imm).op = 16 from rfl),if_neg (by simpa using hk),if_pos (show (Ins.mk 16 nar reg size d r off imm).op = 16 from rfl)]
    rfl
   rw [e]
   refine do_set d hd' (nval _) fun bx cs w hl hr hl2 hw=>?_
   have hu:=hr r hr' hl2
   rw [hg r hr' hl2] at hu
   refine (movs_of nar reg size off imm d r hd' hr' bx cs hl _ (s.reg r) (hr d hd' hl2) hu w hw).mono ?_
   rintro e w' (⟨_,h⟩ | ⟨h,_⟩)
   ·exact h
   ·exact absurd hk h
  ·have e : partD s ⟨16, nar, reg, size, d, r, off, imm⟩ = ⟨0, 80, s⟩ := by
    unfold partD partV
    rw [if_pos (show (Ins.mk 16 nar reg size d r off imm).op = 16 from rfl),if_pos (by simpa using hk)]
    rfl
   rw [e]
   refine do_same fun bx cs w hl hr hl2 hw=>?_
   have hu:=hr r hr' hl2
   rw [hg r hr' hl2] at hu
   refine (movs_of nar reg size off imm d r hd' hr' bx cs hl _ (s.reg r) (hr d hd' hl2) hu w hw).mono ?_
   rintro e w' (⟨h,_⟩ | ⟨_,h⟩)
   ·exact absurd h hk
   ·exact h
 ·rw [show doerF op = 68 by unfold doerF;rw [if_neg (by omega),if_pos (by omega)]]
  have hx:=(reg_ok h.regs d).x
  by_cases hk:(s.reg d).k = 1
  ·have e : partD s ⟨op, nar, reg, size, d, r, off, imm⟩ = ⟨0, 0, { s with rg := s.rg.set d (nval (swapF size (op != 17) (s.reg d).x)) }⟩ := by
    unfold partD partV
    rw [if_neg (show ¬ (Ins.mk op nar reg size d r off imm).op = 16 from h16),if_neg (by simpa using hk),if_neg (show ¬ (Ins.mk op nar reg size d r off imm).op = 16 from h16)]
    rfl
   rw [e]
   refine do_set d hd' (nval _) fun bx cs w hl hr hl2 hw=>?_
   have hu:=hr d hd' hl2
   rw [hg d hd' hl2] at hu
   refine (turn_of op (by omega) nar reg size r off imm d hd' bx cs hl (s.reg d) hu hx w hw).mono ?_
   rintro e w' (⟨_,h⟩ | ⟨h,_⟩)
   ·exact h
   ·exact absurd hk h
  ·have e : partD s ⟨op, nar, reg, size, d, r, off, imm⟩ = ⟨0, 80, s⟩ := by
    unfold partD partV
    rw [if_neg (show ¬ (Ins.mk op nar reg size d r off imm).op = 16 from h16),if_pos (by simpa using hk)]
    rfl
   rw [e]
   refine do_same fun bx cs w hl hr hl2 hw=>?_
   have hu:=hr d hd' hl2
   rw [hg d hd' hl2] at hu
   refine (turn_of op (by omega) nar reg size r off imm d hd' bx cs hl (s.reg d) hu hx w hw).mono ?_
   rintro e w' (⟨h,_⟩ | ⟨_,h⟩)
   ·exact absurd h hk
   ·exact h
theorem do_all {fx:Mfix} {s:Mst} (h:Good fx s) (i:Ins) (hi:InsOK fx i):DoR (doerF i.op) fx s i (doF fx s i).by' (doF fx s i).er (doF fx s i).s:=by
 have ho:=hi.op
 by_cases hk:Known i.op
 ·exact do_F h i hi hk
 by_cases hp:16 <= i.op/\i.op <= 19
 ·have e : doF fx s i = partD s i := by
   unfold doF
   rw [if_neg (by omega),if_pos (by omega)]
  rw [e]
  exact do_partD h i hi hp
 by_cases h21:i.op = 21
 ·have e : doF fx s i = constD s i := by
   unfold doF
   rw [if_neg (by omega),if_neg (by omega),if_pos (by omega)]
  rw [e]
  exact do_dataD fx s i h21 hi.dst
 by_cases h25:i.op = 25
 ·have e : doF fx s i = atomD fx s i := by
   unfold doF
   rw [if_neg (by omega),if_neg (by omega),if_neg (by omega),if_neg (by omega),if_neg (by omega),if_pos h25]
  rw [e]
  exact do_atomD' h i hi h25
 have h38:i.op = 38:=by unfold Known at hk;omega
 rw [doF_call0 h38]
 exact do_callA h i h38
theorem own_put' {w:World} {base size n:Nat} {e:TypeId} {v:Value} {xs:List Value} (h:w.ownsRow base e size v n xs) {q:Nat} (hq:q < base) (i:Nat) (x:Value):(w.setCell ⟨q,i,none⟩ x).ownsRow base e size v n xs:=
 ownsRow_stayS h fun b hb=>Below.heap_setCell _ _ _ _ (fun hc=>by have:=(h.lt b hb).1;have hc':b = q:=hc;omega)
theorem mrow_416 {st rg:List Value} (hs:st.length = 416) (xv tv dv zv cv uv bg sv:Value) (at' steps:Int) (done:Bool) (x:Value):(mrow st xv tv dv zv cv uv bg rg sv at' steps done).set 416 x = mrow st x tv dv zv cv uv bg rg sv at' steps done:=by
 unfold mrow
 rw [List.set_append_right _ _ (by omega),hs]
 rfl
theorem mrow_417 {st rg:List Value} (hs:st.length = 416) (xv tv dv zv cv uv bg sv:Value) (at' steps:Int) (done:Bool) (x:Value):(mrow st xv tv dv zv cv uv bg rg sv at' steps done).set 417 x = mrow st xv x dv zv cv uv bg rg sv at' steps done:=by
 unfold mrow
 rw [List.set_append_right _ _ (by omega),hs]
 rfl
theorem mrow_467 {st rg:List Value} (hs:st.length = 416) (hr:rg.length = 44) (xv tv dv zv cv uv bg sv:Value) (at' steps:Int) (done:Bool) (x:Value):(mrow st xv tv dv zv cv uv bg rg sv at' steps done).set 467 x = mrow st xv tv dv zv cv uv bg rg x at' steps done:=by
 unfold mrow
 rw [List.set_append_right _ _ (by omega),hs,List.set_append_right _ _ (by simp),List.set_append_right _ _ (by simp [hr])]
 simp [hr]
def rhoC (ρ ρT:Nat->Nat) (n cb n2 nX nT:Nat) (q:Nat):Nat:=
 if q < n then (if ρ q = 9\/(3 <= ρ q/\ρ q <= 6)\/ρ q = 8 then ρ q else 9) else if q = cb then 0 else if q < n2 then 9 else if q < nX then 1 else if q < nT then ρT q else 7
section
variable {base:Nat} {w0:World} {fx:Mfix} {s:Mst} {bx:Nat} {v:Mvals} {w w2 wX wT wN:World}
theorem MS.copied (hM:MS base w0 fx s bx v w) (cb:Nat) (h2:Below w.heap.size w w2) (hcb:w.heap.size <= cb) (hc2:cb < w2.heap.size) (hrow:Row w2 cb 99 (cellsM s v))
 {xv tv sv:Value} {vals:List Value} {ρ0 ρT:Nat->Nat} (bX:Below w2.heap.size w2 wX) (oX:wX.ownsRow w2.heap.size 5 1 xv s.ctx.length (u8s s.ctx)) (T:CopS wX wT ρ0 ρT 10 s.rows.length tv vals s.rows)
 (bN:Below wT.heap.size wT wN) (oN:wN.ownsRow wT.heap.size 3 1 sv s.sent.length (i64s s.sent)) :
 MS base w0 fx s cb { v with ρ:=rhoC v.ρ ρT w.heap.size cb w2.heap.size wX.heap.size wT.heap.size,xv:=xv,tv:=tv,sv:=sv,vals:=vals } (((wN.setCell ⟨cb,416,none⟩ xv).setCell ⟨cb,417,none⟩ tv).setCell ⟨cb,467,none⟩ sv) /\
 Below w.heap.size w (((wN.setCell ⟨cb,416,none⟩ xv).setCell ⟨cb,417,none⟩ tv).setCell ⟨cb,467,none⟩ sv):=by
 have z2:=h2.size
 have zX:=bX.size
 have zT:=T.bel.size
 have zN:=bN.size
 have hlt:=hM.box.lt
 have hle:=hM.le
 have hBN:Below w.heap.size w wN:=((h2.trans (bX.mono z2)).trans (T.bel.mono (by omega))).trans (bN.mono (by omega))
 have hB:Below w.heap.size w (((wN.setCell ⟨cb,416,none⟩ xv).setCell ⟨cb,417,none⟩ tv).setCell ⟨cb,467,none⟩ sv):=((hBN.setCell hcb _).setCell hcb _).setCell hcb _
 have hrN:Row wN cb 99 (cellsM s v):=((hrow.below bX hc2).below T.bel (by omega)).below bN (by omega)
 have hr:=((hrN.put 416 xv).put 417 tv).put 467 sv
 have hst:=hM.stl
 have hrl:=hM.rl
 have hcs:(((cellsM s v).set 416 xv).set 417 tv).set 467 sv = cellsM s { v with ρ:=rhoC v.ρ ρT w.heap.size cb w2.heap.size wX.heap.size wT.heap.size,xv:=xv,tv:=tv,sv:=sv,vals:=vals }:=by
  unfold cellsM
  rw [mrow_416 hst,mrow_417 hst,mrow_467 hst hrl]
 rw [hcs] at hr
 have hfix:∀ b,b < w.heap.size->(v.ρ b = 9\/(3 <= v.ρ b/\v.ρ b <= 6)\/v.ρ b = 8)->rhoC v.ρ ρT w.heap.size cb w2.heap.size wX.heap.size wT.heap.size b = v.ρ b:=fun b hb hf=>by
  unfold rhoC
  rw [if_pos hb,if_pos hf]
 have hkeep:∀ {r:Nat} {e:TypeId} {size n:Nat} {x:Value} {xs:List Value},(3 <= r/\r <= 6)->OwnS w base v.ρ r e size x n xs->OwnS (((wN.setCell ⟨cb,416,none⟩ xv).setCell ⟨cb,417,none⟩ tv).setCell ⟨cb,467,none⟩ sv) base (rhoC v.ρ ρT w.heap.size cb w2.heap.size wX.heap.size wT.heap.size) r e size x n xs:=fun hr6 ho=>
  ⟨own_stays ho.1 hB (Nat.le_refl _),fun b hb=>by
   have h1:=ho.2 b hb
   rw [hfix b (ho.1.lt b hb).2 (by omega)]
   exact h1⟩
 have hput:∀ {B:Nat} {e:TypeId} {size n:Nat} {x:Value} {xs:List Value},cb < B->base <= B->wN.ownsRow B e size x n xs->World.ownsRow (((wN.setCell ⟨cb,416,none⟩ xv).setCell ⟨cb,417,none⟩ tv).setCell ⟨cb,467,none⟩ sv) base e size x n xs:=fun hB1 hB2 ho=>
  ownsRow_low (own_put' (own_put' (own_put' ho hB1 _ _) hB1 _ _) hB1 _ _) hB2
 refine ⟨⟨hM.bel.trans (hB.mono (by omega)),hr,by omega,?_,hkeep (by omega) hM.codeS,hkeep (by omega) hM.unitsS,?_,?_,?_,hkeep (by omega) hM.dataS,hkeep (by omega) hM.sizeS,?_,hM.slw,hM.rgl⟩,hB⟩
 ·show rhoC _ _ _ _ _ _ _ cb = 0
  unfold rhoC
  rw [if_neg (by omega),if_pos rfl]
 ·exact ⟨(hB.block _ hM.begin'.lt).trans hM.begin'.at', hM.begin'.le, by
   have h1:=hM.begin'.role
   show rhoC _ _ _ _ _ _ _ v.mb = 8
   rw [hfix _ hM.begin'.lt (by omega)]
   exact h1⟩
 ·refine ⟨hput (B:=w2.heap.size) hc2 (by omega) (own_stays (own_stays oX T.bel (Nat.le_refl _)) bN (Nat.le_refl _)),fun b hb=>?_⟩
  obtain ⟨h1,h2'⟩:=oX.lt b hb
  show rhoC _ _ _ _ _ _ _ b = 1
  unfold rhoC
  rw [if_neg (by omega),if_neg (by omega),if_neg (by omega),if_pos h2']
 ·refine ⟨⟨hput (B:=wX.heap.size) (by omega) (by omega) (own_stays T.list.1 bN (Nat.le_refl _)),fun b hb=>?_⟩,fun k hk=>?_⟩
  ·obtain ⟨h1,h2'⟩:=T.list.1.lt b hb
   show rhoC _ _ _ _ _ _ _ b = 10
   unfold rhoC
   rw [if_neg (by omega),if_neg (by omega),if_neg (by omega),if_neg (by omega),if_pos h2']
   exact T.list.2 b hb
  ·obtain ⟨u,hu,ho⟩:=T.item k hk hk
   refine ⟨u,hu,hput (B:=wX.heap.size) (by omega) (by omega) (own_stays ho.1 bN (Nat.le_refl _)),fun b hb=>?_⟩
   obtain ⟨h1,h2'⟩:=ho.1.lt b hb
   show rhoC _ _ _ _ _ _ _ b = 11 + k
   unfold rhoC
   rw [if_neg (by omega),if_neg (by omega),if_neg (by omega),if_neg (by omega),if_pos h2']
   have:=ho.2 b hb
   omega
 ·refine ⟨hput (B:=wT.heap.size) (by omega) (by omega) oN,fun b hb=>?_⟩
  obtain ⟨h1,_⟩:=oN.lt b hb
  show rhoC _ _ _ _ _ _ _ b = 7
  unfold rhoC
  rw [if_neg (by omega),if_neg (by omega),if_neg (by omega),if_neg (by omega),if_neg (by omega)]
theorem rhoC_old {ρ ρT:Nat->Nat} {n cb n2 nX nT q:Nat} (h:q < n):Fix9 (rhoC ρ ρT n cb n2 nX nT q):=by
 unfold rhoC Fix9
 rw [if_pos h]
 split
 ·assumption
 ·exact Or.inl rfl
theorem rhoC_box {ρ ρT:Nat->Nat} {n cb n2 nX nT q:Nat} (h:n <= q) (hc:q ≠ cb) (h2:q < n2):Fix9 (rhoC ρ ρT n cb n2 nX nT q):=by
 unfold rhoC
 rw [if_neg (by omega),if_neg hc,if_pos h2]
 exact Or.inl rfl
theorem copy_done {s1:Mst} {cb:Nat} {vc v':Mvals} {wE w':World} (hM:MS base w0 fx s bx v w) (hB:Below w.heap.size w wE) (hC:MS base w0 fx s cb vc wE) (hcb:w.heap.size <= cb) (hold:∀ q,q < w.heap.size->Fix9 (vc.ρ q)) (h':MS base w0 fx s1 cb v' w') (hf:Fr9 vc.ρ wE w'):Below w.heap.size w w':=
 ⟨(h'.bel.os).trans hM.bel.os.symm,(h'.bel.tape).trans hM.bel.tape.symm,(h'.bel.output).trans hM.bel.output.symm,by have:=h'.box.lt;omega,fun q hq=>(hf q (Nat.lt_of_lt_of_le hq hB.size) (hold q hq)).trans (hB.block q hq)⟩
end
theorem info_machine:(Tryz.prog.info? 99).map (·.size) = some 471:=by kernel_rfl
theorem zmachine_size:Tryz.zeroCells99.size = 471:=by kernel_rfl
theorem cells_one {base:Nat} {w0:World} {fx:Mfix} {s:Mst} {bx:Nat} {v:Mvals} {w:World} (h:MS base w0 fx s bx v w):∀ u ∈ cellsM s v,u.oneCell' = true:=by
 intro u hu
 obtain ⟨a1,c1,e1⟩:=own_slice h.ctxS.1
 obtain ⟨a2,c2,e2⟩:=own_slice h.tabS.list.1
 obtain ⟨a3,c3,e3⟩:=own_slice h.dataS.1
 obtain ⟨a4,c4,e4⟩:=own_slice h.sizeS.1
 obtain ⟨a5,c5,e5⟩:=own_slice h.codeS.1
 obtain ⟨a6,c6,e6⟩:=own_slice h.unitsS.1
 obtain ⟨a7,c7,e7⟩:=own_slice h.sentS.1
 unfold cellsM mrow at hu
 simp only [List.mem_append,List.mem_cons,List.not_mem_nil,or_false] at hu
 rcases hu with hu | (rfl | rfl | rfl | rfl | rfl | rfl | rfl) | hu | rfl | rfl | rfl | rfl
 ·unfold Mst.st stc at hu
  obtain ⟨x,_,hx⟩:=List.mem_flatMap.1 hu
  unfold Slot.cs Val.cs at hx
  simp only [List.mem_append,List.mem_cons,List.not_mem_nil,or_false,List.mem_map] at hx
  rcases hx with (rfl | rfl | rfl | rfl) | ⟨y,_,rfl⟩ | rfl <;> rfl
 ·rw [e1];rfl
 ·rw [e2];rfl
 ·rw [e3];rfl
 ·rw [e4];rfl
 ·rw [e5];rfl
 ·rw [e6];rfl
 ·rfl
 ·unfold regc at hu
  obtain ⟨x,_,hx⟩:=List.mem_flatMap.1 hu
  unfold Val.cs at hx
  simp only [List.mem_cons,List.not_mem_nil,or_false] at hx
  rcases hx with rfl | rfl | rfl | rfl <;> rfl
 ·rw [e7];rfl
 all_goals rfl
structure LK (base:Nat) (w0:World) (fx:Mfix) (s:Mst) (bx:Nat) (v:Mvals) (w:World) (cb:Nat) (i cs:List Value) (w1:World):Prop where
 ms0:MS base w0 fx s bx v w
 ins:Row w1 w.heap.size 25 i
 row:∃ cs,Row w1 cb 99 cs/\cs.length = 471
 cb:w.heap.size < cb
 bel:Below w.heap.size w w1
section
variable {base:Nat} {w0:World} {fx:Mfix} {s:Mst} {bx cb:Nat} {v:Mvals} {w w1 w2:World} {i cs:List Value}
theorem LK.ms (h:LK base w0 fx s bx v w cb i cs w1):MS base w0 fx s bx v w1:=h.ms0.next h.bel
theorem LK.next (h:LK base w0 fx s bx v w cb i cs w1) (hb:Below w1.heap.size w1 w2):LK base w0 fx s bx v w cb i cs w2:=⟨h.ms0,h.ins.below hb h.ins.lt,let ⟨cs,hr,hl⟩:=h.row;⟨cs,hr.below hb hr.lt,hl⟩,h.cb,h.bel.trans (hb.mono h.bel.size)⟩
theorem LK.put (h:LK base w0 fx s bx v w cb i cs w1) (k:Nat) (x:Value):LK base w0 fx s bx v w cb i cs (w1.setCell ⟨cb,k,none⟩ x):=⟨h.ms0,h.ins.other _ _ (by have:=h.cb;show w.heap.size ≠ cb;omega),let ⟨cs,hr,hl⟩:=h.row;⟨cs.set k x,hr.put k x,by rw [List.length_set];exact hl⟩,h.cb,h.bel.setCell (Nat.le_of_lt h.cb) _⟩
theorem LK.k (h:LK base w0 fx s bx v w cb i cs w1):w1.cell? ⟨bx,416,none⟩ = some v.xv/\w1.cell? ⟨bx,417,none⟩ = some v.tv/\w1.cell? ⟨bx,467,none⟩ = some v.sv/\LK base w0 fx s bx v w cb i cs w1:=⟨h.ms.heads.1,h.ms.heads.2.1,h.ms.tail.1,h⟩
theorem LK.n (h:w1.cell? ⟨bx,416,none⟩ = some v.xv/\w1.cell? ⟨bx,417,none⟩ = some v.tv/\w1.cell? ⟨bx,467,none⟩ = some v.sv/\LK base w0 fx s bx v w cb i cs w1) (hb:Below w1.heap.size w1 w2):w2.cell? ⟨bx,416,none⟩ = some v.xv/\w2.cell? ⟨bx,417,none⟩ = some v.tv/\w2.cell? ⟨bx,467,none⟩ = some v.sv/\LK base w0 fx s bx v w cb i cs w2:=(h.2.2.2.next hb).k
theorem LK.st (h:w1.cell? ⟨bx,416,none⟩ = some v.xv/\w1.cell? ⟨bx,417,none⟩ = some v.tv/\w1.cell? ⟨bx,467,none⟩ = some v.sv/\LK base w0 fx s bx v w cb i cs w1) (k:Nat) (x:Value):(w1.setCell ⟨cb,k,none⟩ x).cell? ⟨bx,416,none⟩ = some v.xv/\(w1.setCell ⟨cb,k,none⟩ x).cell? ⟨bx,417,none⟩ = some v.tv/\(w1.setCell ⟨cb,k,none⟩ x).cell? ⟨bx,467,none⟩ = some v.sv/\LK base w0 fx s bx v w cb i cs (w1.setCell ⟨cb,k,none⟩ x):=(h.2.2.2.put k x).k
theorem LK.cells (h:LK base w0 fx s bx v w cb i cs w1) (k:Nat) (hk:k < 471):(∃ x,w1.cell? ⟨cb,k,none⟩ = some x)/\w1.frozen? ⟨cb,k,none⟩ = false/\cb < w1.heap.size:=by
 obtain ⟨cs,hr,hl⟩:=h.row
 exact ⟨⟨_,(hr.cell k).trans (List.getElem?_eq_getElem (by omega))⟩,hr.free k,hr.lt⟩
end
theorem row_small {fx:Mfix} {s:Mst} (hm:MemOK fx s) (k:Nat) (hk:k < s.rows.length):s.rows[k].length <= 140737488355328:=by
 obtain ⟨_,h⟩:=hm.rows k hk
 obtain ⟨a1,a2,a3,a4⟩:=hm.tabs k (by rw [<- hm.rowsl];exact hk)
 have:(fx.tabs.getD k (0,0)).1 * (fx.tabs.getD k (0,0)).2 <= 64 * 64:=Int.mul_le_mul a2 a4 (by omega) (by omega)
 omega
theorem wpList_store_new {P:Program} {ops:Array Oper} {rest:List Oper} {op:Oper} {a:Act} {w:World} {Q:Exit->Act->World->Prop} (hgd:op.guard = none) (ty:TypeId) (x y:Operand) (ho:op.op = .store ty x y)
 (z:Array Value) (cs:List Value) (b:Nat) (hb:w.heap.size = b) (hx:a.eval x = .pointer (some ⟨b,0,none⟩)) (hy:a.eval y = .agg cs.toArray)
 (hi:(P.info? ty).map (·.size) = some cs.length) (hz:z.size = cs.length) (h1:∀ v ∈ cs,v.oneCell' = true)
 (hd:op.dst = none) (h:wpList P ops Q rest a (w.alloc (.cells cs.toArray ty))):wpList P ops Q (op :: rest) a (w.alloc (.cells z ty)):=by
 subst hb
 refine wpList_plain hgd fun _ hK=>?_
 unfold Oper.wp execOp
 simp only [ho,hx,hy,Instr.storeAt,Instr.sureAddr,Sem.run_bind,Sem.run_pure,Result.andThen_ok,run_storeVar_new w ty z cs.toArray (by simpa using hi) (by simpa using hz) (all_oneCell_toArray h1)]
 exact hK _ _ (by rw [hd];exact h)
theorem last_of {fx:Mfix} {s:Mst} (hG:Good fx s) (ht8:fx.tabs.length <= 8) (i:Ins) (hi:InsOK fx i) (base:Nat) (w0:World) (bx:Nat) (v:Mvals) (w:World) (hM:MS base w0 fx s bx v w) :
 Calls Tryz.prog 53 #[.pointer (some ⟨bx,0,none⟩),i.agg] w fun e w'=>e = .returned (.int .i64 (if (doF fx s i).er = 0 then 89 else (doF fx s i).er))/\Below w.heap.size w w':=by
 have hdo:=do_all hG i hi
 obtain ⟨by',hby⟩:∃ z,(doF fx s i).by' = z:=⟨_,rfl⟩
 obtain ⟨er,her⟩:∃ z,(doF fx s i).er = z:=⟨_,rfl⟩
 obtain ⟨s1,hs1⟩:∃ z,(doF fx s i).s = z:=⟨_,rfl⟩
 rw [hby,her,hs1] at hdo
 rw [her]
 have HDO:=Lib.hid hdo
 have HM:=Lib.hid hM
 have HG:=Lib.hid (And.intro hG ht8)
 have hone:=cells_one hM
 have hlen:=hM.len
 obtain ⟨op,nar,reg,size,dst,src,off,imm⟩:=i
 have HF:=Lib.hid (FM.begin hM.box op nar reg size dst src off imm)
 obtain ⟨cs,hcs⟩:∃ cs,cs = cellsM s v:=⟨_,rfl⟩
 rw [<- hcs] at HF hone hlen
 have HCS:=Lib.hid hcs
 have HLEN:=Lib.hid (And.intro hlen hone)
 have hltb:=hM.box.lt
 clear hcs hdo hby her hs1 hM hG hi hone hlen ht8
 unfold Ins.agg
 simp only
 go_enter Tryz.func53,Tryz.ntmps53
 go_upto_region 1 with fail
 have hw1s:(w.alloc (.cells #[.int .i64 op,.bool nar,.bool reg,.int .i64 size,.int .i64 dst,.int .i64 src,.int .i64 off,.int .i64 imm] 25)).heap.size = w.heap.size + 1:=by simp
 generalize hw1:World.alloc _ _ = w1 at HF hw1s ⊢
 have HB1:=Lib.hid (show Below w.heap.size w w1 by rw [<- hw1];exact below_map w _)
 clear hw1
 have HLO:=Lib.hid (show w1.rangeAt bx 0 cs from fun j u hj=>by rw [Nat.zero_add,HF.out.mach.cell];exact hj)
 have HIM:=Lib.hid (show (Tryz.prog.info? 99).map (·.size) = some cs.length by rw [HLEN.out.1];exact info_machine)
 have hw1t:=hw1s
 clear hw1s
 go_upto_region 2 with (first
  | refine wpList_load_mid rfl 99 (.tmp 9) rfl bx 0 rfl cs _ HLO.out Tryz.underlying99 rfl HIM.out ?_
  | refine wpList_store_new rfl 99 (.tmp 5) (.tmp 10) rfl Tryz.zeroCells99 cs _ hw1t rfl rfl HIM.out (zmachine_size.trans HLEN.out.1.symm) HLEN.out.2 rfl ?_)
 have hLK:LK base w0 fx s bx v w (w.heap.size + 1) (insc op nar reg size dst src off imm) cs (w1.alloc (.cells cs.toArray 99)):=⟨HM.out,HF.out.ins.alloc _,⟨cs,by rw [<- hw1t];exact Row.made w1 cs _,HLEN.out.1⟩,by omega,HB1.out.alloc HB1.out.size _⟩
 have hR2:Row (w1.alloc (.cells cs.toArray 99)) (w.heap.size + 1) 99 cs:=by rw [<- hw1t];exact Row.made w1 cs _
 obtain ⟨cb,hcb⟩:∃ z,w.heap.size + 1 = z:=⟨_,rfl⟩
 rw [hcb] at hLK hR2
 try simp only [hcb]
 clear hw1t hcb
 generalize World.alloc _ _ = w2 at hLK hR2 ⊢
 have HL:=Lib.hid hLK
 have HR2:=Lib.hid hR2
 clear hLK hR2 HB1 HF
 have HCB:=Lib.hid (fun (w':World) (hS:w'.cell? ⟨bx,416,none⟩ = some v.xv/\w'.cell? ⟨bx,417,none⟩ = some v.tv/\w'.cell? ⟨bx,467,none⟩ = some v.sv/\LK base w0 fx s bx v w cb (insc op nar reg size dst src off imm) cs w')=>clone_byte v.xv s.ctx.length (u8s s.ctx) w' (reads_own hS.2.2.2.ms.ctxS.1 (u8s_one _) (by decide)) (by have:=HG.out.1.mem.ctxl;omega))
 have HCN:=Lib.hid (fun (w':World) (hS:w'.cell? ⟨bx,416,none⟩ = some v.xv/\w'.cell? ⟨bx,417,none⟩ = some v.tv/\w'.cell? ⟨bx,467,none⟩ = some v.sv/\LK base w0 fx s bx v w cb (insc op nar reg size dst src off imm) cs w')=>clone_int v.sv s.sent.length (i64s s.sent) w' (reads_own hS.2.2.2.ms.sentS.1 (i64s_one _) (by decide)) (by have:=HG.out.1.sent.1;omega))
 have HCT:=Lib.hid (fun (w':World) (hS:w'.cell? ⟨bx,416,none⟩ = some v.xv/\w'.cell? ⟨bx,417,none⟩ = some v.tv/\w'.cell? ⟨bx,467,none⟩ = some v.sv/\LK base w0 fx s bx v w cb (insc op nar reg size dst src off imm) cs w')=>copies_of v.tv v.vals s.rows (by have:=HG.out.1.mem.rowsl;have:=HG.out.2;omega) (fun k hk=>row_small HG.out.1.mem k hk) w' (rowed_tabU hS.2.2.2.ms.tabS (fun k hk=>(HG.out.1.mem.rows k hk).1)) (fun _=>0) 10)
 go_cut [] from 11 to 32 (fun wx=>∃ vc,MS base w0 fx s cb vc wx/\Below w.heap.size w wx/\(∀ q,q < w.heap.size->Fix9 (vc.ρ q))/\Fix9 (vc.ρ w.heap.size)/\Row wx w.heap.size 25 (insc op nar reg size dst src off imm))
 case first=>
  have hks:=(HL.out.next (Below.refl _ _).drew).k
  go_region_held3 (fun w'=>w'.cell? ⟨bx,416,none⟩ = some v.xv/\w'.cell? ⟨bx,417,none⟩ = some v.tv/\w'.cell? ⟨bx,467,none⟩ = some v.sv/\LK base w0 fx s bx v w cb (insc op nar reg size dst src off imm) cs w')
   (first
     | with_reducible assumption
     | exact LK.n (by with_reducible assumption) hbC
     | exact LK.n (by with_reducible assumption) hT.bel
     | exact LK.n (by with_reducible assumption) hbN
     | exact LK.st (by with_reducible assumption) _ _)
   (first
     | (go_at_call 47;refine (HCB.out _ (by with_reducible assumption)).mono ?_;rintro e wC ⟨vC,rfl,hownC,hbC⟩;obtain ⟨aC,kC,rfl⟩:=own_slice hownC)
     | (go_at_call 48;refine (HCT.out _ (by with_reducible assumption)).mono ?_;rintro e wT ⟨vT,valsT,ρT,rfl,hT⟩;obtain ⟨aT,kT,rfl⟩:=own_slice hT.list.1)
     | (go_at_call 52;refine (HCN.out _ (by with_reducible assumption)).mono ?_;rintro e wN ⟨vN,rfl,hownN,hbN⟩;obtain ⟨aN,kN,rfl⟩:=own_slice hownN;have hLN:=(((HL.out.next (Below.refl _ _).drew).next hbC).next hT.bel).next hbN;obtain ⟨⟨z0,hz0⟩,hfz0,hltz⟩:=hLN.cells 416 (by decide);obtain ⟨⟨z1,hz1⟩,hfz1,_⟩:=hLN.cells 417 (by decide);obtain ⟨⟨z2,hz2⟩,hfz2,_⟩:=hLN.cells 467 (by decide)))
  rename_i hheld
  have hd:Below w.heap.size w w2.drew:=HL.out.bel.drew
  have hC:=MS.copied (w2:=w2.drew) HM.out cb hd (Nat.le_of_lt HL.out.cb) (by have:=HR2.out.lt;simpa using this) (by rw [<- HCS.out];exact HR2.out.drew) hbC hownC hT hbN hownN
  have hlb:w.heap.size ≠ cb:=Nat.ne_of_lt HL.out.cb
  have hl2:w.heap.size < w2.drew.heap.size:=by have:=HL.out.ins.lt;simpa using this
  go_wp2_with fail
  go_meet
  case rel=>exact ⟨_,hC.1,hC.2,fun q hq=>rhoC_old hq,rhoC_box (Nat.le_refl _) hlb hl2,hheld.2.2.2.ins⟩
 case rest=>
  obtain ⟨vc,hC,hB,hold,hbx9,hins⟩:=hcut
  have HC:=Lib.hid (And.intro hC (And.intro hB (And.intro hold (And.intro hbx9 hins))))
  clear hC hB hold hbx9 hins HCB HCN HCT HR2
  obtain ⟨wE,rfl⟩:∃ z,z = wc:=⟨_,rfl⟩
  go_upto_region 3 with fail
  go_cut [6,7] from 33 to 40 (fun s6 s7 wx=>s6 = .int .i64 by'/\s7 = .int .i64 er/\Below w.heap.size w wx)
  case first=>
   have HI4:=Lib.hid (HC.out.2.2.2.2.drew)
   have HM4:=Lib.hid (HC.out.1.next (Below.refl _ _).drew)
   have hks:=s9 HI4.out
   obtain ⟨F,hF⟩:∃ F,doerF op = F:=⟨_,rfl⟩
   have hten:=doer_ten op
   rw [hF] at hten
   have hdr:=fun w'=>doer_of op cb w'
   have hdo:=HDO.out
   rw [hF] at hdr hdo
   have HDR:=Lib.hid hdr
   have HDO2:=Lib.hid hdo
   clear hdr hdo
   unfold DoerSays at HDR
   unfold DoR Ins.agg at HDO2
   simp only at HDO2
   rcases hten with rfl | rfl | rfl | rfl | rfl | rfl | rfl | rfl | rfl | rfl
   all_goals
    go_region_held3 (fun w'=>w'.cell? ⟨w.heap.size,0,none⟩ = some (.int .i64 op)/\w'.cell? ⟨w.heap.size,1,none⟩ = some (.bool nar)/\w'.cell? ⟨w.heap.size,2,none⟩ = some (.bool reg)/\w'.cell? ⟨w.heap.size,3,none⟩ = some (.int .i64 size)/\w'.cell? ⟨w.heap.size,4,none⟩ = some (.int .i64 dst)/\w'.cell? ⟨w.heap.size,5,none⟩ = some (.int .i64 src)/\w'.cell? ⟨w.heap.size,6,none⟩ = some (.int .i64 off)/\w'.cell? ⟨w.heap.size,7,none⟩ = some (.int .i64 imm)/\Row w' w.heap.size 25 (insc op nar reg size dst src off imm))
     (first
       | with_reducible assumption
       | with_reducible exact s9 hr)
     (first
       | (go_at_call 54;refine (HDR.out _).mono ?_;rintro e w' ⟨rfl,rfl⟩)
       | ((first | go_at_call 67 | go_at_call 68 | go_at_call 69 | go_at_call 70 | go_at_call 71 | go_at_call 72 | go_at_call 73 | go_at_call 74 | go_at_call 75 | go_at_call 76);refine (HDO2.out _ _ _ _ _ HM4.out).mono ?_;rintro e wX ⟨rfl,v',hM',hf,hro⟩;have hr:Row wX w.heap.size 25 (insc op nar reg size dst src off imm):=(hf _ HI4.out.lt HC.out.2.2.2.1).trans HI4.out))
   all_goals
    rename_i hheld
    go_wp2_with fail
    go_meet
    case rel=>exact ⟨rfl,rfl,copy_done HM.out HC.out.2.1.drew HM4.out (Nat.le_of_lt HL.out.cb) HC.out.2.2.1 hM' hf⟩
  case rest=>
   obtain ⟨rfl,rfl,hB⟩:=hcut
   have HB:=Lib.hid hB
   clear hB HC HDO
   by_cases he:er = 0
   ·subst he
    go_wp2_with fail
    exact bodyPost_ret (v:=.int .i64 89) (by simp [results,Tryz.results53,go_sem]) rfl ⟨rfl,HB.out⟩
   ·have het:(er != 0) = true:=by simpa using he
    go_wp2_with fail
    exact bodyPost_ret (v:=.int .i64 er) (by simp [results,Tryz.results53,go_sem]) rfl ⟨by first | rfl | rw [if_neg he],HB.out⟩
theorem step_last {fx:Mfix} {s:Mst} (hG:Good fx s) (ht8:fx.tabs.length <= 8) (k:Nat) (hk:k < fx.code.length) (hat:s.at' = k) (hd:s.done = false) (op:Int) (nar reg:Bool) (size dst src off imm:Int) (hi:fx.code[k] = ⟨op,nar,reg,size,dst,src,off,imm⟩) (hiOK:InsOK fx ⟨op,nar,reg,size,dst,src,off,imm⟩)
 (hlen:fx.code.length <= 4096) (hno:¬ (26 <= op/\op <= 37)) (h39:op ≠ 39) (hlast:k + 1 = fx.code.length):StepR fx s (if (doF fx s ⟨op,nar,reg,size,dst,src,off,imm⟩).er = 0 then 89 else (doF fx s ⟨op,nar,reg,size,dst,src,off,imm⟩).er) s:=by
 intro base w0 bx v w hM
 obtain ⟨h0,h1,h2,h3,h4,h5,h6⟩:=hM.heads
 obtain ⟨t0,t1,t2,t3⟩:=hM.tail
 obtain ⟨g,c,hcv,hcode⟩:=hM.codeAt k hk
 have hlst:=fun base w0 bx v w h=>last_of hG ht8 _ hiOK base w0 bx v w h
 rw [hat] at t1
 rw [hd] at t3
 rw [hcv] at h4
 have e0:=hcode 0 (by decide)
 have e1:=hcode 1 (by decide)
 have e2:=hcode 2 (by decide)
 have e3:=hcode 3 (by decide)
 have e4:=hcode 4 (by decide)
 have e5:=hcode 5 (by decide)
 have e6:=hcode 6 (by decide)
 have e7:=hcode 7 (by decide)
 simp only [hi,Ins.cs,insc,List.getElem?_cons_zero,List.getElem?_cons_succ,Nat.add_zero] at e0 e1 e2 e3 e4 e5 e6 e7
 obtain ⟨n,hn⟩:∃ n,n = fx.code.length:=⟨_,rfl⟩
 rw [<- hn] at h4 hlen hlast
 have hj1:(0:Int) <= (k:Int):=by omega
 have hj2:(k:Int) < (n:Int):=by omega
 have hlt:=hM.box.lt
 have hlg:=World.block_lt_of_cell? w _ e0
 simp only at hlg
 obtain ⟨ER,hER⟩:∃ z,(if (doF fx s ⟨op,nar,reg,size,dst,src,off,imm⟩).er = 0 then 89 else (doF fx s ⟨op,nar,reg,size,dst,src,off,imm⟩).er) = z:=⟨_,rfl⟩
 rw [hER] at hlst ⊢
 unfold Ins.agg at hlst
 simp only at hlst
 have HM:=Lib.hid hM
 have HLS:=Lib.hid hlst
 have HN:=Lib.hid (And.intro hn (And.intro hlen hlast))
 have HNO:=Lib.hid hno
 clear hM hcode hi hn hlst hER hiOK hlen hlast hno hG ht8
 go_enter Tryz.func23,Tryz.ntmps23
 go_upto_region 3 with fail
 go_region
 go_upto_region 4 with fail
 have HU:=Lib.hid (show SU base w0 fx s bx { v with ρ:=newRole v.ρ w.heap.size 9 } w.heap.size ⟨op,nar,reg,size,dst,src,off,imm⟩ w ((w.alloc (.cells #[.int .i64 op,.bool nar,.bool reg,.int .i64 size,.int .i64 dst,.int .i64 src,.int .i64 off,.int .i64 imm] 25)).drew) from SU.next ⟨HM.out.box9 _,Row.made w (Ins.cs ⟨op,nar,reg,size,dst,src,off,imm⟩) _,by unfold newRole;simp,by simp,fun k hk=>((Below.refl w.heap.size w).alloc (Nat.le_refl _) _).block k hk⟩ (Below.refl _ _).drew)
 clear h0 h1 h2 h3 h4 h5 h6 t0 t1 t2 t3 e0 e1 e2 e3 e4 e5 e6 e7 hlg hlt
 generalize World.drew _ = wA at HU ⊢
 go_cut [4] from 9 (fun s4 wx=>s4 = .bool false/\SU base w0 fx s bx { v with ρ:=newRole v.ρ w.heap.size 9 } w.heap.size ⟨op,nar,reg,size,dst,src,off,imm⟩ w wx)
 case first=>
  obtain ⟨c0,_⟩:=HU.out.cells
  simp only at c0
  by_cases ha:26 <= op
  ·have ha':=decide_eq_true ha
   have hb':decide (op <= 37) = false:=decide_eq_false (fun hb=>HNO.out ⟨ha,hb⟩)
   go_wp2_with fail
   go_meet
   case rel=>exact ⟨rfl,HU.out⟩
  ·have ha':=decide_eq_false ha
   go_wp2_with fail
   go_meet
   case rel=>exact ⟨rfl,HU.out⟩
 case rest=>
  obtain ⟨rfl,hU⟩:=hcut
  have HU2:=Lib.hid hU
  clear hU HU
  go_upto_region 5 with fail
  go_cut [50] from 9 (fun s50 wx=>s50 = .bool true/\SU base w0 fx s bx { v with ρ:=newRole v.ρ w.heap.size 9 } w.heap.size ⟨op,nar,reg,size,dst,src,off,imm⟩ w wx)
  case first=>
   obtain ⟨c0,_⟩:=HU2.out.cells
   obtain ⟨_,_,_,_,h4,_,_⟩:=HU2.out.ms.heads
   obtain ⟨_,t1,_,_⟩:=HU2.out.ms.tail
   simp only [hcv,<- HN.out.1] at h4
   rw [hat] at t1
   simp only at c0
   have h39':(op != 39) = true:=by simp [h39]
   have hw:wrap64 ((k:Int) + 1) = (n:Int):=by have:=HN.out;unfold wrap64;omega
   go_quiet (fail)
   go_wp2_with fail
   go_meet
   case rel=>exact ⟨by first | rfl | simp,HU2.out.next (below_drewN (Below.refl _ _) _)⟩
  case rest=>
   obtain ⟨rfl,hU⟩:=hcut
   have HU3:=Lib.hid hU
   clear hU HU2
   obtain ⟨c0,c1,c2,c3,c4,c5,c6,c7⟩:=HU3.out.cells
   simp only at c0 c1 c2 c3 c4 c5 c6 c7
   go_wp2_with (go_at_call 53;go_loud (refine (HLS.out _ _ _ _ _ HU3.out.ms).mono ?_;rintro e wL ⟨rfl,hbL⟩))
   exact bodyPost_ret (v:=.int .i64 ER) (by simp [results,Tryz.results23,go_sem]) rfl ⟨rfl,{ v with ρ:=newRole v.ρ w.heap.size 9 },HU3.out.ms.next hbL,fun q hq _=>(hbL.block q (Nat.lt_of_lt_of_le hq HU3.out.size)).trans (HU3.out.old q hq),newRole_same⟩
structure CodeG (fx:Mfix):Prop where
 len:fx.code.length <= 4096
 ins:∀ i ∈ fx.code,InsOK fx i
 tabs:fx.tabs.length <= 8
theorem step_G {fx:Mfix} {s:Mst} (hc:CodeG fx) (h:Good fx s) (hat:s.at' < fx.code.length) (hd:s.done = false) (hst:0 <= s.steps/\s.steps < 4611686018427387904):StepR fx s (stepF fx s).1 (stepF fx s).2:=by
 have hg:fx.code[s.at']? = some fx.code[s.at']:=List.getElem?_eq_getElem hat
 have hi:=hc.ins _ (List.getElem_mem hat)
 by_cases hl:s.at' + 1 = fx.code.length/\¬ (26 <= fx.code[s.at'].op/\fx.code[s.at'].op <= 37)/\fx.code[s.at'].op ≠ 39
 ·obtain ⟨h1,h2,h3⟩:=hl
  have hS:=step_last h hc.tabs s.at' hat rfl hd fx.code[s.at'].op fx.code[s.at'].nar fx.code[s.at'].reg fx.code[s.at'].size fx.code[s.at'].dst fx.code[s.at'].src fx.code[s.at'].off fx.code[s.at'].imm rfl hi hc.len h2 h3 h1
  have e:fx.code.getD s.at' ⟨0,false,false,0,0,0,0,0⟩ = fx.code[s.at']:=by rw [List.getD_eq_getElem?_getD,hg];rfl
  have hby:(doF fx s fx.code[s.at']).by' = 0:=doF_by fx s _ (by have:=hi.op;omega)
  have hF:stepF fx s = ((if (doF fx s fx.code[s.at']).er = 0 then 89 else (doF fx s fx.code[s.at']).er),s):=by
   unfold stepF
   rw [hd,if_neg (by decide)]
   simp only [e]
   by_cases he:(doF fx s fx.code[s.at']).er = 0
   ·rw [if_neg (by simpa using he),if_neg h3,if_pos he,hby]
    have hw:whereF fx.code ((unitAt fx.code (s.at' + 1):Int) + 0) = none:=by
     cases hq:whereF fx.code ((unitAt fx.code (s.at' + 1):Int) + 0) with
     | none=>rfl
     | some j =>
       obtain ⟨j1,j2⟩:=where_some hq
       have:=unit_inj (i:=j) (j:=s.at' + 1) (by rw [j2];omega)
       omega
    rw [hw]
   ·rw [if_pos (by simpa using he),if_neg he]
  rw [hF]
  exact hS
 ·refine step_F fx s _ hg hd hc.len ?_ hi.op.2 hst (doF_byr hi) (do_all h _ hi)
  by_cases h1:s.at' + 1 = fx.code.length
  ·by_cases h2:26 <= fx.code[s.at'].op/\fx.code[s.at'].op <= 37
   ·exact Or.inl h2
   ·by_cases h3:fx.code[s.at'].op = 39
    ·exact Or.inr (Or.inl h3)
    ·exact absurd ⟨h1,h2,h3⟩ hl
  ·exact Or.inr (Or.inr h1)
theorem count_G {fx:Mfix} {s:Mst} (hc:CodeG fx) (hat:s.at' < fx.code.length):(stepF fx s).2.at' < fx.code.length/\s.steps <= (stepF fx s).2.steps/\(stepF fx s).2.steps <= s.steps + 1:=by
 have hg:fx.code[s.at']? = some fx.code[s.at']:=List.getElem?_eq_getElem hat
 have hi:=hc.ins _ (List.getElem_mem hat)
 have hg':fx.code.getD s.at' ⟨0,false,false,0,0,0,0,0⟩ = fx.code[s.at']:=by rw [List.getD_eq_getElem?_getD,hg];rfl
 obtain ⟨q1,q2⟩:=doF_at (fx:=fx) (s:=s) hi.op.2
 unfold stepF
 split
 ·exact ⟨hat,Int.le_refl _,by show s.steps <= s.steps + 1;omega⟩
 ·simp only [hg']
  split
  ·exact ⟨hat,Int.le_refl _,by show s.steps <= s.steps + 1;omega⟩
  ·split
   ·refine ⟨by show (doF fx s fx.code[s.at']).s.at' < _;rw [q2];exact hat,?_,?_⟩
    ·show s.steps <= (doF fx s fx.code[s.at']).s.steps + 1;omega
    ·show (doF fx s fx.code[s.at']).s.steps + 1 <= _;omega
   ·split
    ·rename_i j hj
     refine ⟨(where_some hj).1,?_,?_⟩
     ·show s.steps <= (doF fx s fx.code[s.at']).s.steps + 1;omega
     ·show (doF fx s fx.code[s.at']).s.steps + 1 <= _;omega
    ·exact ⟨hat,Int.le_refl _,by show s.steps <= s.steps + 1;omega⟩
structure Sane (fx:Mfix) (s:Mst):Prop where
 good:Good fx s
 at':s.at' < fx.code.length
 steps:0 <= s.steps
theorem Sane.step {fx:Mfix} {s:Mst} (hc:CodeG fx) (h:Sane fx s):Sane fx (stepF fx s).2:=by
 obtain ⟨c1,c2,c3⟩:=count_G (s:=s) hc h.at'
 exact ⟨stepF_ok h.good _ (hc.ins _ (List.getElem_mem h.at')) (List.getElem?_eq_getElem h.at'),c1,by have:=h.steps;omega⟩
theorem Sane.run {fx:Mfix} (hc:CodeG fx):∀ (n:Nat) (s:Mst),Sane fx s->Sane fx (runF fx n s).2
 | 0, s, h => by
   unfold runF
   cases s.done <;> exact h
 | n + 1, s, h => by
   unfold runF
   cases s.done with
   | true=>exact h
   | false =>
     rw [if_neg (by decide)]
     split
     ·exact Sane.run hc n _ (h.step hc)
     ·exact h.step hc
theorem run_G {fx:Mfix} (hc:CodeG fx):∀ (n:Nat) (s:Mst),Sane fx s->s.steps + n < 4611686018427387904->Runs fx s n (runF fx n s).1 (runF fx n s).2
 | 0, s, h, hn => by
   unfold runF
   cases hd:s.done with
   | true=>exact Runs.done s 0 hd
   | false=>exact Runs.fuel s hd
 | n + 1, s, h, hn => by
   unfold runF
   cases hd:s.done with
   | true=>exact Runs.done s _ hd
   | false =>
     rw [if_neg (by decide)]
     have hR:=step_G hc h.good h.at' hd ⟨h.steps,by omega⟩
     obtain ⟨c1,c2,c3⟩:=count_G (s:=s) hc h.at'
     by_cases he:(stepF fx s).1 = 0
     ·rw [if_pos he]
      have r1:=run_G hc n (stepF fx s).2 (h.step hc) (by push_cast at hn;omega)
      rw [he] at hR
      exact Runs.step _ _ _ _ _ hd hR r1
     ·rw [if_neg he]
      exact Runs.trap _ _ _ _ hd hR he
def stG (ctx:List Int) (rows:List (List Int)):Mst:=⟨List.replicate 32 noslot,rg0 ctx.length,ctx,rows,[],0,0,false⟩
theorem new_G (lo hi:Int) (data:List Int) (tabs:List (Int × Int)) (code:List Ins) (da ta ca xa ra:Option Addr) (dc tc cc xc rc:Nat) (ctx:List Int) (vals:List Value) (rows:List (List Int))
 (hmd:(Prg.mk lo hi data tabs code).made) (hft:fitsP lo hi tabs ctx.length rows) (w:World)
 (hd:Held w (.slice da data.length dc) data) (ht:Tabs w (.slice ta tabs.length tc) tabs) (hc:Coded w (.slice ca code.length cc) code)
 (hx:Held w (.slice xa ctx.length xc) ctx) (hr:Rowed w (.slice ra rows.length rc) vals rows) :
 Calls Tryz.prog 18 #[.agg #[.int .i64 lo,.int .i64 hi,.slice da data.length dc,.slice ta tabs.length tc,.slice ca code.length cc],.agg #[.slice xa ctx.length xc,.slice ra rows.length rc]] w fun e w'=>
  ∃ bx v,e = .returned (.tuple #[.pointer (some ⟨bx,0,none⟩),.int .i64 0])/\MS w.heap.size w ⟨data,tabs,code⟩ (stG ctx rows) bx v w':=by
 refine (new_ok lo hi data tabs code da ta ca xa ra dc tc cc xc rc ctx vals rows hmd hft w hd ht hc hx hr (fun _=>0)).mono ?_
 rintro e w' ⟨bx,mb,cv',uv',xv',tv',dv',zv',vals',ρ',rfl,hM,hX,hT,hD,hZ⟩
 refine ⟨bx,⟨ρ',mb,xv',tv',dv',zv',cv',uv',nils,vals'⟩,rfl,⟨hM.nb.bel,by have hb:=hM.box;rw [<- (show stc (List.replicate 32 noslot) = zstack from rfl)] at hb;exact hb,by have:=hM.le;omega,hM.rb,hM.codeS,hM.unitsS,⟨hM.begin'.at',by show w.heap.size <= mb;have:=hM.begin'.le;omega,hM.begin'.role⟩,hX,hT,hD,hZ,⟨World.ownsRow_nil _ _ _ _,fun b hb=>by cases hb⟩,slots_zero,rfl⟩⟩
theorem store_state' {s:Mst} (h1:(regc s.rg).length = 44) (h2:s.st.length = 416) (a b c:Option Addr) (n1 c1 n2 c2 n3 c3:Nat) (w:World) :
 (storeCells ⟨w.heap.size,0,none⟩ (statec s (.slice a n1 c1) (.slice b n2 c2) (.slice c n3 c3))).run Tryz.prog (w.alloc (.cells Tryz.zeroCells62 62)) = .ok () (w.alloc (.cells (statec s (.slice a n1 c1) (.slice b n2 c2) (.slice c n3 c3)).toArray 62)):=by
 have hX:=statec_len h1 h2 (.slice a n1 c1) (.slice b n2 c2) (.slice c n3 c3)
 have:=run_storeCells_new (P:=Tryz.prog) w 62 Tryz.zeroCells62 (statec s (.slice a n1 c1) (.slice b n2 c2) (.slice c n3 c3)).toArray (by rw [List.size_toArray,hX];exact info_state) (zstate_size.trans (by rw [List.size_toArray];exact hX.symm)) (all_oneCell_toArray (statec_one a b c n1 c1 n2 c2 n3 c3))
 rw [List.toList_toArray] at this
 exact this
theorem state_box' {s:Mst} (h1:(regc s.rg).length = 44) (h2:s.st.length = 416) (xv tv sv:Value) (w:World) (A S:Int) (D:Bool) (hA:(s.at':Int) = A) (hS:s.steps = S) (hD:s.done = D) :
 (w.alloc (.cells (statec s xv tv sv).toArray 62)).cell? ⟨w.heap.size,463,none⟩ = some (.int .i64 A)/\(w.alloc (.cells (statec s xv tv sv).toArray 62)).cell? ⟨w.heap.size,464,none⟩ = some (.int .i64 S) /\
 (w.alloc (.cells (statec s xv tv sv).toArray 62)).cell? ⟨w.heap.size,465,none⟩ = some (.bool D):=by
 have hr:=Row.made w (statec s xv tv sv) 62
 obtain ⟨t1,t2,t3⟩:=statec_tail h1 h2 xv tv sv
 rw [hA] at t1
 rw [hS] at t2
 rw [hD] at t3
 exact ⟨(hr.cell 463).trans t1,(hr.cell 464).trans t2,(hr.cell 465).trans t3⟩
theorem built_prgA (h:Int) (a:Option Addr) (n c:Nat):Tryz.prog.built 44 [(1,.int .i64 h),(4,.slice a n c)] = some #[.int .i64 0,.int .i64 h,.slice none 0 0,.slice none 0 0,.slice a n c]:=by kernel_rfl
theorem run_prgA (h:Int) (a:Option Addr) (n c:Nat) (w:World):(Instr.build 44 #[(1,.int .i64 h),(4,.slice a n c)]).run Tryz.prog w = .ok (.agg #[.int .i64 0,.int .i64 h,.slice none 0 0,.slice none 0 0,.slice a n c]) w:=run_build w _ _ _ (built_prgA h a n c)
theorem built_inpA (a:Option Addr) (n c:Nat):Tryz.prog.built 46 [(0,.slice a n c)] = some #[.slice a n c,.slice none 0 0]:=by kernel_rfl
theorem run_inpA (a:Option Addr) (n c:Nat) (w:World):(Instr.build 46 #[(0,.slice a n c)]).run Tryz.prog w = .ok (.agg #[.slice a n c,.slice none 0 0]) w:=run_build w _ _ _ (built_inpA a n c)
theorem built_insL (x0 x3 x4 x5 x6:Int):Tryz.prog.built 25 [(0,.int .i64 x0),(3,.int .i64 x3),(4,.int .i64 x4),(5,.int .i64 x5),(6,.int .i64 x6)] = some #[.int .i64 x0,.bool false,.bool false,.int .i64 x3,.int .i64 x4,.int .i64 x5,.int .i64 x6,.int .i64 0]:=by kernel_rfl
theorem run_insL (x0 x3 x4 x5 x6:Int) (w:World):(Instr.build 25 #[(0,.int .i64 x0),(3,.int .i64 x3),(4,.int .i64 x4),(5,.int .i64 x5),(6,.int .i64 x6)]).run Tryz.prog w = .ok (.agg #[.int .i64 x0,.bool false,.bool false,.int .i64 x3,.int .i64 x4,.int .i64 x5,.int .i64 x6,.int .i64 0]) w:=run_build w _ _ _ (built_insL x0 x3 x4 x5 x6)
theorem built_insA (x0:Int) (x2:Bool) (x4 x5:Int):Tryz.prog.built 25 [(0,.int .i64 x0),(2,.bool x2),(4,.int .i64 x4),(5,.int .i64 x5)] = some #[.int .i64 x0,.bool false,.bool x2,.int .i64 0,.int .i64 x4,.int .i64 x5,.int .i64 0,.int .i64 0]:=by kernel_rfl
theorem run_insA (x0:Int) (x2:Bool) (x4 x5:Int) (w:World):(Instr.build 25 #[(0,.int .i64 x0),(2,.bool x2),(4,.int .i64 x4),(5,.int .i64 x5)]).run Tryz.prog w = .ok (.agg #[.int .i64 x0,.bool false,.bool x2,.int .i64 0,.int .i64 x4,.int .i64 x5,.int .i64 0,.int .i64 0]) w:=run_build w _ _ _ (built_insA x0 x2 x4 x5)
theorem built_insE (x0:Int):Tryz.prog.built 25 [(0,.int .i64 x0)] = some #[.int .i64 x0,.bool false,.bool false,.int .i64 0,.int .i64 0,.int .i64 0,.int .i64 0,.int .i64 0]:=by kernel_rfl
theorem run_insE (x0:Int) (w:World):(Instr.build 25 #[(0,.int .i64 x0)]).run Tryz.prog w = .ok (.agg #[.int .i64 x0,.bool false,.bool false,.int .i64 0,.int .i64 0,.int .i64 0,.int .i64 0,.int .i64 0]) w:=run_build w _ _ _ (built_insE x0)
def awkC:List Ins:=[⟨22,false,false,1,0,1,1,0⟩,⟨1,false,true,0,0,2,0,0⟩,⟨39,false,false,0,0,0,0,0⟩]
def awkX:Mfix:=⟨[],[],awkC⟩
def awkS:Mst:=(runF awkX 9 (stG [3,250,7] [])).2
theorem awk_made:(Prg.mk 0 9 [] [] awkC).made:=by
 refine ⟨⟨by show (0:Int) <= 0;decide,by show (0:Int) <= 9;decide,by show (9:Int) <= 65535;decide,by show (0:Nat) <= 4096;decide,by show (0:Nat) <= 8;decide,by show 0 < 3;decide⟩,fun i hi=>absurd hi (by simp),⟨by show 3 <= 4096;decide,fun i hi=>?_⟩,fun i hi ho=>?_⟩
 ·have hc:i = 0\/i = 1\/i = 2:=by have:i < 3:=hi;omega
  rcases hc with rfl | rfl | rfl <;> first | rfl | kernel_rfl
 ·have hc:i = 0\/i = 1\/i = 2:=by have:i < 3:=hi;omega
  rcases hc with rfl | rfl | rfl
  ·exact absurd (show (22:Int) = 21 from ho) (by decide)
  ·exact absurd (show (1:Int) = 21 from ho) (by decide)
  ·exact absurd (show (39:Int) = 21 from ho) (by decide)
theorem awk_code:CodeG awkX:=by
 refine ⟨by show 3 <= 4096;decide,fun i hi=>?_,by show 0 <= 8;decide⟩
 have hi':i ∈ awkC:=hi
 simp only [awkC,List.mem_cons,List.not_mem_nil,or_false] at hi'
 rcases hi' with rfl | rfl | rfl
 all_goals exact insOK_of_right _ _ (by decide) (by unfold i64r;decide) (fun h=>absurd h (by decide))
theorem awk_sane:Sane awkX (stG [3,250,7] []):=⟨good0 awkC [3,250,7] (fun x hx=>by simp at hx;omega) (by decide),by show 0 < 3;decide,by show (0:Int) <= 0;decide⟩
theorem awk_run:(runF awkX 9 (stG [3,250,7] [])).1 = 0:=by kernel_rfl
theorem awk_r0:(awkS.rg[0]?).map Val.x = some 253:=by kernel_rfl
theorem awk_end:awkS.at' = 2/\awkS.steps = 3/\awkS.done = true/\awkS.ctx.length = 3/\awkS.sent.length = 0/\awkS.rows = []:=⟨by kernel_rfl,by kernel_rfl,by kernel_rfl,by kernel_rfl,by kernel_rfl,by kernel_rfl⟩
theorem new_misfit (lo hi:Int) (data:List Int) (tabs:List (Int × Int)) (code:List Ins) (da ta ca xa ra:Option Addr) (dc tc cc xc rc:Nat) (ctx:List Int) (vals:List Value) (rows:List (List Int))
 (hmd:(Prg.mk lo hi data tabs code).made) (hft:¬ fitsP lo hi tabs ctx.length rows) (hxl:ctx.length <= 4611686018427387903) (hrl:rows.length <= 4611686018427387903) (w:World)
 (ht:Tabs w (.slice ta tabs.length tc) tabs) (hc:Coded w (.slice ca code.length cc) code) (hr:Rowed w (.slice ra rows.length rc) vals rows) :
 Calls Tryz.prog 18 #[.agg #[.int .i64 lo,.int .i64 hi,.slice da data.length dc,.slice ta tabs.length tc,.slice ca code.length cc],.agg #[.slice xa ctx.length xc,.slice ra rows.length rc]] w (Refused w 3):=by
 have hmd':=hmd
 obtain ⟨⟨m1,m2,m3,m4,m5,m6⟩,m7,m8,m9⟩:=hmd'
 simp only at m1 m2 m3 m4 m5 m6 m7 m8 m9
 have hmade:=fun w' (h1:Tabs w' (.slice ta tabs.length tc) tabs) (h2:Coded w' (.slice ca code.length cc) code)=>made_of (Prg.mk lo hi data tabs code) da ta ca dc tc cc (by simp only;omega) (by simp only;omega) (by simp only;have:=m8.1;omega) w' h1 h2
 simp only at hmade
 have hfits:=fun w' (h1:Tabs w' (.slice ta tabs.length tc) tabs) (h2:Rowed w' (.slice ra rows.length rc) vals rows)=>fits_of lo hi tabs (.slice da data.length dc) (.slice ca code.length cc) ta xa ra tc xc rc ctx.length vals rows (by omega) hrl hxl m7 w' h1 h2
 obtain ⟨nd,hnd⟩:∃ n,n = data.length:=⟨_,rfl⟩
 obtain ⟨nt,hnt⟩:∃ n,n = tabs.length:=⟨_,rfl⟩
 obtain ⟨nc,hnc⟩:∃ n,n = code.length:=⟨_,rfl⟩
 obtain ⟨nx,hnx⟩:∃ n,n = ctx.length:=⟨_,rfl⟩
 obtain ⟨nr,hnr⟩:∃ n,n = rows.length:=⟨_,rfl⟩
 have hft2:=hft
 simp only [<- hnd,<- hnt,<- hnc,<- hnx,<- hnr] at hmade hfits ht hc hr hft2 ⊢
 have hr0:Row ((w.alloc (.cells #[.int .i64 lo,.int .i64 hi,.slice da nd dc,.slice ta nt tc,.slice ca nc cc] 44)).alloc (.cells #[.slice xa nx xc,.slice ra nr rc] 46)) w.heap.size 44 (prgc lo hi (.slice da nd dc) (.slice ta nt tc) (.slice ca nc cc)):=(Row.made w (prgc lo hi (.slice da nd dc) (.slice ta nt tc) (.slice ca nc cc)) _).alloc _
 have hr2:Row ((w.alloc (.cells #[.int .i64 lo,.int .i64 hi,.slice da nd dc,.slice ta nt tc,.slice ca nc cc] 44)).alloc (.cells #[.slice xa nx xc,.slice ra nr rc] 46)) (w.heap.size + 1) 46 (inpc (.slice xa nx xc) (.slice ra nr rc)):=row_two w _ (inpc (.slice xa nx xc) (.slice ra nr rc)) _
 have hB0:=((Below.refl w.heap.size w).alloc (Nat.le_refl _) (.cells #[.int .i64 lo,.int .i64 hi,.slice da nd dc,.slice ta nt tc,.slice ca nc cc] 44)).alloc (by simp) (.cells #[.slice xa nx xc,.slice ra nr rc] 46)
 have HN0:=Lib.hid (NB.mk hr0 hr2 hB0)
 have HMADE:=Lib.hid hmade
 have HFITS:=Lib.hid hfits
 have HMD:=Lib.hid hmd
 have HFT:=Lib.hid hft2
 have HT:=Lib.hid ht
 have HC:=Lib.hid hc
 have HR:=Lib.hid hr
 clear hmade hfits hmd hft hft2 ht hc hr hr0 hr2 hB0 m1 m2 m3 m4 m5 m6 m7 m8 m9 hnd hnt hnc hnx hnr hxl hrl
 go_enter Tryz.func18,Tryz.ntmps18
 go_wp2_with fail
 refine (HMADE.out _ (HT.out.below HN0.out.bel (Nat.le_refl _)) (HC.out.below HN0.out.bel (Nat.le_refl _))).mono ?_
 rintro e w1 ⟨d,rfl,hiff,hB⟩
 obtain rfl:d = true:=hiff.2 HMD.out
 have HN1:=Lib.hid (HN0.out.below hB)
 clear hB hiff
 obtain ⟨c0,c1,c2,c3,c4⟩:=prg_row HN1.out.rp
 obtain ⟨d0,d1⟩:=inp_row HN1.out.ri
 go_wp2_with fail
 refine (HFITS.out _ (HT.out.below HN1.out.bel (Nat.le_refl _)) (HR.out.below HN1.out.bel (Nat.le_refl _))).mono ?_
 rintro e w2 ⟨d,rfl,hiff,hB⟩
 obtain rfl:d = false:=by
  cases d with
  | false=>rfl
  | true=>exact absurd (hiff.1 rfl) HFT.out
 have HN2:=Lib.hid (HN1.out.below hB)
 clear hB hiff c0 c1 c2 c3 c4 d0 d1
 go_wp2
 exact bodyPost_ret (v:=.tuple #[.pointer none,.int .i64 3]) (by simp [results,Tryz.results18,go_sem]) rfl ⟨rfl,HN2.out.bel⟩
noncomputable def newE (p:Prg) (ctx:List Int) (rows:List (List Int)):Int:=
 open Classical in if p.made then if fitsP p.lo p.hi p.tabs ctx.length rows then 0 else 3 else 1
theorem newE_zero {p:Prg} {ctx:List Int} {rows:List (List Int)}:newE p ctx rows = 0 ↔ p.made/\fitsP p.lo p.hi p.tabs ctx.length rows:=by
 unfold newE
 split
 ·split
  ·exact ⟨fun _=>⟨by assumption,by assumption⟩,fun _=>rfl⟩
  ·exact ⟨fun h=>absurd h (by decide),fun h=>absurd h.2 (by assumption)⟩
 ·exact ⟨fun h=>absurd h (by decide),fun h=>absurd h.1 (by assumption)⟩
theorem new_any (p:Prg) (da ta ca xa ra:Option Addr) (dc tc cc xc rc:Nat) (ctx:List Int) (vals:List Value) (rows:List (List Int))
 (hld:p.data.length <= 4611686018427387903) (hlt:p.tabs.length <= 4611686018427387903) (hlc:p.code.length <= 4611686018427387903) (hxl:ctx.length <= 4611686018427387903) (hrl:rows.length <= 4611686018427387903) (w:World)
 (hd:Held w (.slice da p.data.length dc) p.data) (ht:Tabs w (.slice ta p.tabs.length tc) p.tabs) (hc:Coded w (.slice ca p.code.length cc) p.code)
 (hx:Held w (.slice xa ctx.length xc) ctx) (hr:Rowed w (.slice ra rows.length rc) vals rows) :
 Calls Tryz.prog 18 #[.agg #[.int .i64 p.lo,.int .i64 p.hi,.slice da p.data.length dc,.slice ta p.tabs.length tc,.slice ca p.code.length cc],.agg #[.slice xa ctx.length xc,.slice ra rows.length rc]] w fun e w'=>
  (newE p ctx rows = 0/\∃ bx v,e = .returned (.tuple #[.pointer (some ⟨bx,0,none⟩),.int .i64 0])/\MS w.heap.size w ⟨p.data,p.tabs,p.code⟩ (stG ctx rows) bx v w') \/
  (newE p ctx rows ≠ 0/\e = .returned (.tuple #[.pointer none,.int .i64 (newE p ctx rows)])/\Below w.heap.size w w'):=by
 obtain ⟨lo,hi,data,tabs,code⟩:=p
 simp only at hld hlt hlc hd ht hc ⊢
 by_cases hm:(Prg.mk lo hi data tabs code).made
 ·by_cases hf:fitsP lo hi tabs ctx.length rows
  ·have h0:newE ⟨lo,hi,data,tabs,code⟩ ctx rows = 0:=newE_zero.2 ⟨hm,hf⟩
   refine (new_G lo hi data tabs code da ta ca xa ra dc tc cc xc rc ctx vals rows hm hf w hd ht hc hx hr).mono ?_
   intro e w' h
   exact Or.inl ⟨h0,h⟩
  ·have h3:newE ⟨lo,hi,data,tabs,code⟩ ctx rows = 3:=by unfold newE;rw [if_pos hm,if_neg hf]
   refine (new_misfit lo hi data tabs code da ta ca xa ra dc tc cc xc rc ctx vals rows hm hf hxl hrl w ht hc hr).mono ?_
   rintro e w' ⟨he,hB⟩
   exact Or.inr ⟨by rw [h3];decide,by rw [h3];exact he,hB⟩
 ·have h1:newE ⟨lo,hi,data,tabs,code⟩ ctx rows = 1:=by unfold newE;rw [if_neg hm]
  refine (new_bad lo hi data tabs code da ta ca xa ra dc tc cc ctx.length xc rows.length rc hm hld hlt hlc w ht hc).mono ?_
  rintro e w' ⟨he,hB⟩
  exact Or.inr ⟨by rw [h1];decide,by rw [h1];exact he,hB⟩
def TrapN (e:Int):Prop:=e = 0\/(80 <= e/\e <= 87)
theorem TrapN.zero:TrapN 0:=Or.inl rfl
theorem TrapN.of {e:Int} (h:80 <= e/\e <= 87):TrapN e:=Or.inr h
theorem t80:TrapN 80:=Or.inr ⟨by decide,by decide⟩
theorem t81:TrapN 81:=Or.inr ⟨by decide,by decide⟩
theorem t82:TrapN 82:=Or.inr ⟨by decide,by decide⟩
theorem t83:TrapN 83:=Or.inr ⟨by decide,by decide⟩
theorem t84:TrapN 84:=Or.inr ⟨by decide,by decide⟩
theorem t85:TrapN 85:=Or.inr ⟨by decide,by decide⟩
theorem t86:TrapN 86:=Or.inr ⟨by decide,by decide⟩
theorem t87:TrapN 87:=Or.inr ⟨by decide,by decide⟩
theorem trap_ite {c:Prop} [Decidable c] {α:Type} {a b:α} {f:α->Int} (ha:TrapN (f a)) (hb:TrapN (f b)):TrapN (f (if c then a else b)):=by
 split
 ·exact ha
 ·exact hb
theorem alu_trap (op:Int) (nar:Bool) (a b:Int):TrapN (aluF op nar a b).2:=by
 unfold aluF
 split
 ·unfold alu32F
  repeat' first
   | exact TrapN.zero
   | exact t84
   | refine trap_ite (f:=Prod.snd) ?_ ?_
 ·unfold alu64F
  repeat' first
   | exact TrapN.zero
   | exact t84
   | refine trap_ite (f:=Prod.snd) ?_ ?_
theorem moved_trap (v:Val) (n:Int):TrapN (movedF v n).2:=by
 unfold movedF
 split
 ·(first | exact t80 | exact t81 | exact t82 | exact t83 | exact t84 | exact t85 | exact t86 | exact t87)
 ·exact TrapN.zero
theorem sum_trap (op:Int) (a b:Val):TrapN (sumF op a b).2:=by
 unfold sumF
 repeat' split
 all_goals first
  | exact moved_trap _ _
  | exact TrapN.zero
  | (first | exact t80 | exact t81 | exact t82 | exact t83 | exact t84 | exact t85 | exact t86 | exact t87)
theorem arith_trap (op:Int) (nar:Bool) (a b:Val):TrapN (arithV op nar a b).2:=by
 unfold arithV
 by_cases h1:op = 15/\nar = false/\b.k ≠ 0
 ·rw [if_pos h1];exact TrapN.zero
 ·rw [if_neg h1]
  by_cases h2:(if op = 15 then 1 else a.k) = 1/\(if op = 14 then 1 else b.k) = 1
  ·rw [if_pos h2];exact alu_trap _ _ _ _
  ·rw [if_neg h2]
   by_cases h3:nar = true\/(if op = 15 then 1 else a.k) = 0\/(if op = 14 then 1 else b.k) = 0
   ·rw [if_pos h3];(first | exact t80 | exact t81 | exact t82 | exact t83 | exact t84 | exact t85 | exact t86 | exact t87)
   ·rw [if_neg h3];exact sum_trap _ _ _
theorem part_trap (i:Ins) (v:Val):TrapN (partV i v).2:=by
 unfold partV
 repeat' split
 all_goals first
  | exact TrapN.zero
  | (first | exact t80 | exact t81 | exact t82 | exact t83 | exact t84 | exact t85 | exact t86 | exact t87)
theorem readable_trap (s:Mst) (v:Val) (a n:Int):TrapN (readableF s v a n):=by
 unfold readableF readyF
 repeat' split
 all_goals first
  | exact TrapN.zero
  | (first | exact t80 | exact t81 | exact t82 | exact t83 | exact t84 | exact t85 | exact t86 | exact t87)
theorem load_trap (fx:Mfix) (s:Mst) (i:Ins):TrapN (loadD fx s i).er:=by
 unfold loadD
 simp only
 split
 ·exact t80
 ·split
  ·exact t81
  ·split
   ·exact TrapN.zero
   ·exact readable_trap _ _ _ _
theorem store_trap (fx:Mfix) (s:Mst) (i:Ins):TrapN (storeD fx s i).er:=by
 unfold storeD trapD
 simp only
 repeat' split
 all_goals first
  | exact TrapN.zero
  | (first | exact t80 | exact t81 | exact t82 | exact t83 | exact t84 | exact t85 | exact t86 | exact t87)
theorem atom_trap (fx:Mfix) (s:Mst) (i:Ins):TrapN (atomD fx s i).er:=by
 unfold atomD trapD
 simp only
 split
 ·(first | exact t80 | exact t81 | exact t82 | exact t83 | exact t84 | exact t85 | exact t86 | exact t87)
 ·split
  ·(first | exact t80 | exact t81 | exact t82 | exact t83 | exact t84 | exact t85 | exact t86 | exact t87)
  ·split
   ·(first | exact t80 | exact t81 | exact t82 | exact t83 | exact t84 | exact t85 | exact t86 | exact t87)
   ·split
    ·exact readable_trap _ _ _ _
    ·exact TrapN.zero
theorem branch_trap (i:Ins) (a b:Val):TrapN (branchV i a b).2:=by
 unfold branchV
 repeat' split
 all_goals first
  | exact TrapN.zero
  | (first | exact t80 | exact t81 | exact t82 | exact t83 | exact t84 | exact t85 | exact t86 | exact t87)
theorem call_trap (fx:Mfix) (s:Mst) (i:Ins):TrapN (callD fx s i).er:=by
 unfold callD trapD
 repeat' first
  | exact TrapN.zero
  | exact t87
  | refine trap_ite (f:=Did.er) ?_ ?_
theorem doF_trap (fx:Mfix) (s:Mst) (i:Ins):TrapN (doF fx s i).er:=by
 unfold doF
 split
 ·exact arith_trap _ _ _ _
 split
 ·exact part_trap _ _
 split
 ·exact TrapN.zero
 split
 ·exact load_trap _ _ _
 split
 ·exact store_trap _ _ _
 split
 ·exact atom_trap _ _ _
 split
 ·exact TrapN.zero
 split
 ·exact branch_trap _ _ _
 split
 ·exact call_trap _ _ _
 ·unfold leaveD trapD
  split
  ·exact TrapN.zero
  ·(first | exact t80 | exact t81 | exact t82 | exact t83 | exact t84 | exact t85 | exact t86 | exact t87)
theorem step_er (fx:Mfix) (s:Mst) (hd:s.done = false):(stepF fx s).1 = 0\/(80 <= (stepF fx s).1/\(stepF fx s).1 <= 89/\(stepF fx s).1 ≠ 88):=by
 unfold stepF
 rw [hd,if_neg (by decide)]
 simp only
 have h:=doF_trap fx s (fx.code.getD s.at' ⟨0,false,false,0,0,0,0,0⟩)
 generalize doF fx s (fx.code.getD s.at' ⟨0,false,false,0,0,0,0,0⟩) = r at h ⊢
 unfold TrapN at h
 split
 ·right
  show 80 <= r.er/\r.er <= 89/\r.er ≠ 88
  omega
 ·split
  ·exact Or.inl rfl
  ·split
   ·exact Or.inl rfl
   ·exact Or.inr ⟨by show (80:Int) <= 89;decide,by show (89:Int) <= 89;decide,by show (89:Int) ≠ 88;decide⟩
theorem step_keeps (fx:Mfix) (s:Mst) (h:(stepF fx s).1 ≠ 0):(stepF fx s).2 = s:=by
 revert h
 unfold stepF
 split
 ·intro _;rfl
 ·simp only
  split
  ·intro _;rfl
  ·split
   ·intro h;exact absurd rfl h
   ·split
    ·intro h;exact absurd rfl h
    ·intro _;rfl
theorem step_done (fx:Mfix) (s:Mst) (hd:s.done = true):stepF fx s = (4,s):=by
 unfold stepF
 rw [if_pos hd]
def stepsF (fx:Mfix):Nat->Mst->Int × Mst
 | 0,s=>(0,s)
 | n + 1,s=>if (stepF fx s).1 = 0 then stepsF fx n (stepF fx s).2 else stepF fx s
theorem stepsF_done (fx:Mfix) (n:Nat) (s:Mst) (hd:s.done = true):(stepsF fx n s).2 = s/\((stepsF fx n s).1 = 0\/(stepsF fx n s).1 = 4):=by
 cases n with
 | zero=>exact ⟨rfl,Or.inl rfl⟩
 | succ n =>
   have e:stepsF fx (n + 1) s = (4,s):=by
    rw [stepsF,step_done fx s hd]
    rfl
   rw [e]
   exact ⟨rfl,Or.inr rfl⟩
theorem run_steps (fx:Mfix):∀ (n:Nat) (s:Mst),(stepsF fx n s).2 = (runF fx n s).2 /\
 ((runF fx n s).1 = 0->(runF fx n s).2.done = true/\((stepsF fx n s).1 = 0\/(stepsF fx n s).1 = 4)) /\
 ((runF fx n s).1 = 88->(runF fx n s).2.done = false/\(stepsF fx n s).1 = 0) /\
 ((runF fx n s).1 ≠ 0->(runF fx n s).1 ≠ 88->(runF fx n s).2.done = false/\(stepsF fx n s).1 = (runF fx n s).1/\stepF fx (runF fx n s).2 = runF fx n s)
 | 0, s => by
   cases hd:s.done with
   | true =>
     rw [runF_done hd]
     exact ⟨rfl,fun _=>⟨hd,Or.inl rfl⟩,fun h=>absurd (show (0:Int) = 88 from h) (by decide),fun h=>absurd rfl h⟩
   | false =>
     have e:runF fx 0 s = (88,s):=by unfold runF;rw [hd];rfl
     rw [e]
     exact ⟨rfl,fun h=>absurd (show (88:Int) = 0 from h) (by decide),fun _=>⟨hd,rfl⟩,fun _ h=>absurd rfl h⟩
 | n + 1, s => by
   cases hd:s.done with
   | true =>
     rw [runF_done hd]
     obtain ⟨h1,h2⟩:=stepsF_done fx (n + 1) s hd
     exact ⟨h1,fun _=>⟨hd,h2⟩,fun h=>absurd (show (0:Int) = 88 from h) (by decide),fun h=>absurd rfl h⟩
   | false =>
     have e2:runF fx (n + 1) s = if (stepF fx s).1 = 0 then runF fx n (stepF fx s).2 else stepF fx s:=by
      rw [runF,hd]
      rfl
     have e3:stepsF fx (n + 1) s = if (stepF fx s).1 = 0 then stepsF fx n (stepF fx s).2 else stepF fx s:=by
      rw [stepsF]
     rw [e2,e3]
     by_cases h0:(stepF fx s).1 = 0
     ·rw [if_pos h0,if_pos h0]
      exact run_steps fx n _
     ·rw [if_neg h0,if_neg h0]
      have hk:=step_keeps fx s h0
      have her:=step_er fx s hd
      refine ⟨rfl,fun h=>absurd h h0,fun h=>absurd h (by omega),fun _ _=>⟨by rw [hk];exact hd,rfl,by rw [hk]⟩⟩
section
variable {base:Nat} {w0:World} {fx:Mfix} {s:Mst} {bx:Nat} {v:Mvals} {w w':World}
theorem MS.rebase (h:MS base w0 fx s bx v w):MS base w fx s bx v w:=
 ⟨Below.refl _ _,h.box,h.le,h.rb,h.codeS,h.unitsS,h.begin',h.ctxS,h.tabS,h.dataS,h.sizeS,h.sentS,h.slw,h.rgl⟩
theorem MS.apart (h:MS base w0 fx s bx v w) (hk:∀ q,q < w.heap.size->v.ρ q ≠ 9->w'.heap[q]? = w.heap[q]?):MS base w' fx s bx { v with ρ:=newRole v.ρ w.heap.size 9 } w':=by
 have hs:∀ q,q < w.heap.size->newRole v.ρ w.heap.size 9 q = v.ρ q:=newRole_same
 have hm:∀ {r:Nat} {e:TypeId} {size n:Nat} {x:Value} {xs:List Value},r ≠ 9->OwnS w base v.ρ r e size x n xs->OwnS w' base (newRole v.ρ w.heap.size 9) r e size x n xs:=fun hr ho=>
  ho.move fun q hq hqr=>⟨hk q hq (by rw [hqr];exact hr),(hs q hq).trans hqr⟩
 refine ⟨Below.refl _ _,(hk bx h.box.lt (by rw [h.rb];decide)).trans h.box,h.le,(hs bx h.box.lt).trans h.rb,hm (by decide) h.codeS,hm (by decide) h.unitsS,
  ⟨(hk v.mb h.begin'.lt (by rw [h.begin'.role];decide)).trans h.begin'.at',h.begin'.le,(hs v.mb h.begin'.lt).trans h.begin'.role⟩,hm (by decide) h.ctxS,
  ⟨hm (by decide) h.tabS.list,fun k hk'=>?_⟩,hm (by decide) h.dataS,hm (by decide) h.sizeS,hm (by decide) h.sentS,h.slw,h.rgl⟩
 obtain ⟨u,hu,ho⟩:=h.tabS.item k hk'
 exact ⟨u,hu,hm (by omega) ho⟩
theorem MS.mask (h:MS base w0 fx s bx v w):MS base w0 fx s bx { v with ρ:=fun q=>if q < base then 9 else v.ρ q } w:=by
 have hm:∀ {r:Nat} {e:TypeId} {size n:Nat} {x:Value} {xs:List Value},OwnS w base v.ρ r e size x n xs->OwnS w base (fun q=>if q < base then 9 else v.ρ q) r e size x n xs:=fun ho=>
  ⟨ho.1,fun b hb=>by
   have hlt:=(ho.1.lt b hb).1
   have h1:=ho.2 b hb
   show (if b < base then 9 else v.ρ b) = _
   rw [if_neg (by omega)]
   exact h1⟩
 refine ⟨h.bel,h.box,h.le,?_,hm h.codeS,hm h.unitsS,⟨h.begin'.at',h.begin'.le,?_⟩,hm h.ctxS,⟨hm h.tabS.list,fun k hk'=>?_⟩,hm h.dataS,hm h.sizeS,hm h.sentS,h.slw,h.rgl⟩
 ·show (if bx < base then 9 else v.ρ bx) = 0
  rw [if_neg (by have:=h.le;omega)]
  exact h.rb
 ·show (if v.mb < base then 9 else v.ρ v.mb) = 8
  rw [if_neg (by have:=h.begin'.le;omega)]
  exact h.begin'.role
 ·obtain ⟨u,hu,ho⟩:=h.tabS.item k hk'
  exact ⟨u,hu,hm ho⟩
end
structure Mine (P:Nat->Nat) (i:Nat) (fx:Mfix) (s:Mst) (bx:Nat) (w:World):Prop where
 ms:∃ base v,MS base w fx s bx v w/\∀ q,q < w.heap.size->P q ≠ i->v.ρ q = 9
def grown (P:Nat->Nat) (n i:Nat):Nat->Nat:=fun q=>if q < n then P q else i
theorem Mine.next {P:Nat->Nat} {i k:Nat} {fx:Mfix} {s:Mst} {bx:Nat} {w w':World} (h:Mine P i fx s bx w) (hb:Below w.heap.size w w'):Mine (grown P w.heap.size k) i fx s bx w':=by
 obtain ⟨base,v,hm,hq⟩:=h.ms
 refine ⟨base,_,hm.apart (fun q hq _=>hb.block q hq),fun q hq' hP=>?_⟩
 show newRole v.ρ w.heap.size 9 q = 9
 by_cases hlt:q < w.heap.size
 ·rw [newRole_same q hlt]
  unfold grown at hP
  rw [if_pos hlt] at hP
  exact hq q hlt hP
 ·unfold newRole
  rw [if_pos (by omega)]
theorem Mine.other {P:Nat->Nat} {i j:Nat} (hij:i ≠ j) {fx:Mfix} {s:Mst} {bx:Nat} {w w':World} (h:Mine P i fx s bx w) {ρ:Nat->Nat} (hj:∀ q,q < w.heap.size->P q ≠ j->ρ q = 9) (hf:Fr9 ρ w w'):Mine (grown P w.heap.size j) i fx s bx w':=by
 obtain ⟨base,v,hm,hq⟩:=h.ms
 refine ⟨base,_,hm.apart (fun q hlt hne=>?_),fun q hq' hP=>?_⟩
 ·have hPi : P q = i := by
   by_cases hP:P q = i
   ·exact hP
   ·exact absurd (hq q hlt hP) hne
  exact hf q hlt (by rw [hj q hlt (by omega)];exact Or.inl rfl)
 ·show newRole v.ρ w.heap.size 9 q = 9
  by_cases hlt:q < w.heap.size
  ·rw [newRole_same q hlt]
   unfold grown at hP
   rw [if_pos hlt] at hP
   exact hq q hlt hP
  ·unfold newRole
   rw [if_pos (by omega)]
theorem Mine.done {P:Nat->Nat} {i:Nat} {fx:Mfix} {s':Mst} {bx:Nat} {w w':World} {base:Nat} {w0:World} {v v':Mvals} (hj:∀ q,q < w.heap.size->P q ≠ i->v.ρ q = 9) (hm:MS base w0 fx s' bx v' w') (hro:∀ k,k < w.heap.size->v'.ρ k = v.ρ k):Mine (grown P w.heap.size i) i fx s' bx w':=by
 refine ⟨base,v',hm.rebase,fun q hq' hP=>?_⟩
 unfold grown at hP
 by_cases hlt:q < w.heap.size
 ·rw [if_pos hlt] at hP
  rw [hro q hlt]
  exact hj q hlt hP
 ·rw [if_neg hlt] at hP
  exact absurd rfl hP
theorem Mine.born {P:Nat->Nat} {i:Nat} {fx:Mfix} {s:Mst} {bx:Nat} {w0 w':World} {v:Mvals} (hm:MS w0.heap.size w0 fx s bx v w'):Mine (grown P w0.heap.size i) i fx s bx w':=by
 refine ⟨_,_,hm.mask.rebase,fun q hq' hP=>?_⟩
 unfold grown at hP
 show (if q < w0.heap.size then 9 else v.ρ q) = 9
 by_cases hlt:q < w0.heap.size
 ·rw [if_pos hlt]
 ·rw [if_neg hlt] at hP
  exact absurd rfl hP
theorem code_G {p:Prg} (hm:p.made) (him:∀ i ∈ p.code,i64r i.imm):CodeG ⟨p.data,p.tabs,p.code⟩:=by
 obtain ⟨⟨m1,m2,m3,m4,m5,m6⟩,m7,m8,m9⟩:=hm
 refine ⟨m8.1,fun i hi=>?_,m5⟩
 obtain ⟨k,hk,rfl⟩:=List.getElem_of_mem hi
 exact insOK_of_right _ _ (m8.2 k hk) (him _ hi) (m9 k hk)
theorem sane_G {p:Prg} {ctx:List Int} {rows:List (List Int)} (hm:p.made) (hf:fitsP p.lo p.hi p.tabs ctx.length rows) (hd:IsBytes p.data) (hc:IsBytes ctx) (hr:∀ k (h:k < rows.length),IsBytes rows[k]):Sane ⟨p.data,p.tabs,p.code⟩ (stG ctx rows):=by
 obtain ⟨⟨m1,m2,m3,m4,m5,m6⟩,m7,m8,m9⟩:=hm
 obtain ⟨⟨f1,f2,f3⟩,f4⟩:=hf
 have hcl:ctx.length <= 65535:=by omega
 have hz:∀ x ∈ (stG ctx rows).sl,x = noslot:=fun x hx=>List.eq_of_mem_replicate hx
 have hget:∀ k (h:k < p.tabs.length),p.tabs.getD k (0,0) = p.tabs[k]:=fun k h=>by rw [List.getD_eq_getElem?_getD,List.getElem?_eq_getElem h];rfl
 refine ⟨⟨⟨fun x hx=>?_,hc,hcl,hd,m4,f3,fun k hk=>?_,fun k hk=>?_⟩,⟨rfl,fun u hu=>?_⟩,slots_zero,fun x hx hk=>?_,⟨by show (0:Nat) <= 64;decide,fun x hx=>absurd hx (by simp [stG])⟩⟩,m6,by show (0:Int) <= 0;decide⟩
 ·rw [hz x hx]
  exact ⟨by unfold IsBytes;decide,by decide,by decide⟩
 ·show 1 <= (p.tabs.getD k (0,0)).1/\(p.tabs.getD k (0,0)).1 <= 64/\1 <= (p.tabs.getD k (0,0)).2/\(p.tabs.getD k (0,0)).2 <= 64
  rw [hget k hk]
  exact m7 k hk
 ·have hk':k < rows.length:=hk
  refine ⟨hr k hk',?_⟩
  show (rows[k].length:Int) = (p.tabs.getD k (0,0)).1 * (p.tabs.getD k (0,0)).2
  rw [hget k (by omega)]
  exact f4 k (by omega) hk'
 ·have : u = noval ∨ u = ⟨3, 0, 0, 0⟩ ∨ u = nval ctx.length ∨ u = ⟨2, 0, 0, 256⟩ := by
   simp only [stG,rg0,List.mem_cons,List.not_mem_nil,or_false] at hu
   rcases hu with h | h | h | h | h | h | h | h | h | h | h
   all_goals first
    | exact Or.inl h
    | exact Or.inr (Or.inl h)
    | exact Or.inr (Or.inr (Or.inl h))
    | exact Or.inr (Or.inr (Or.inr h))
  rcases this with rfl | rfl | rfl | rfl
  ·exact RegOK.none _
  ·exact PtrOK.reg ⟨by show (2:Int) <= 3/\(3:Int) <= 5;decide,by show -1048576 <= (0:Int)/\(0:Int) <= 1048576;decide,fun h=>absurd (show (3:Int) = 5 from h) (by decide)⟩
  ·exact RegOK.num _ (by unfold i64r;omega)
  ·exact PtrOK.reg ⟨by show (2:Int) <= 2/\(2:Int) <= 5;decide,by show -1048576 <= (256:Int)/\(256:Int) <= 1048576;decide,fun h=>absurd (show (2:Int) = 5 from h) (by decide)⟩
 ·rw [hz x hx] at hk
  exact absurd rfl hk
theorem step_ended {fx:Mfix} {s:Mst} (hd:s.done = true):StepR fx s 4 s:=by
 intro base w0 bx v w hM
 obtain ⟨t0,t1,t2,t3⟩:=hM.tail
 rw [hd] at t3
 have HM:=Lib.hid hM
 have hlt:=hM.box.lt
 clear hM t0 t1 t2
 go_enter Tryz.func23,Tryz.ntmps23
 go_wp2_with fail
 exact bodyPost_ret (v:=.int .i64 4) (by simp [results,Tryz.results23,go_sem]) rfl ⟨rfl,v,HM.out,fun q _ _=>rfl,fun _ _=>rfl⟩
theorem step_any {fx:Mfix} {s:Mst} (hc:CodeG fx) (h:Sane fx s) (hs:s.steps < 4611686018427387904):StepR fx s (stepF fx s).1 (stepF fx s).2:=by
 cases hd:s.done with
 | true =>
   rw [step_done fx s hd]
   exact step_ended hd
 | false=>exact step_G hc h.good h.at' hd ⟨h.steps,hs⟩
theorem run_still (fx:Mfix) (s:Mst) (hdn:s.done = true) (fuel:Nat) (hrl:s.rows.length <= 1000000) (hrb:∀ k (h:k < s.rows.length),IsBytes s.rows[k]/\s.rows[k].length <= 140737488355328) (hcl:s.ctx.length <= 65535) (hsl:s.sent.length <= 100000)
 (base:Nat) (w0:World) (bx:Nat) (v:Mvals) (w:World) (hM:MS base w0 fx s bx v w) :
 Calls Tryz.prog 21 #[.pointer (some ⟨bx,0,none⟩),.int .i64 fuel] w fun e w'=>
  ∃ r0 xv tv sv,e = .returned (.tuple #[.agg #[.int .i64 r0,xv,tv,sv],.int .i64 0])/\OutS w.heap.size 0 s r0 xv tv sv w'/\Below w.heap.size w w'/\Lab3 w.heap.size s xv tv sv w':=by
 have hb0:=run_out0
 have hbo:=run_out
 have hU0:=RU.begin hM
 obtain ⟨v',hvv⟩:∃ z,z = { v with ρ:=newRole v.ρ w.heap.size 9 }:=⟨_,rfl⟩
 rw [<- hvv] at hU0
 have HU:=Lib.hid hU0
 clear hM hU0 hvv
 go_enter Tryz.func21,Tryz.ntmps21
 go_wp2_with fail
 have HBA:=Lib.hid (below_map w (.cells #[.int .i64 0,.slice none 0 0,.slice none 0 0,.slice none 0 0] 30))
 generalize World.alloc _ _ = wA at HU HBA ⊢
 refine wp_scope_loop 0 (fun a' w'=>w' = wA/\∃ (u7 u8 u9 u10 u11 u12 u13 u14 u15 u16 u17 u18 u19 u20 u21 u22 u23 u24 u25 u26 u27 u28 u29 u30 u31 u32 u33 u34 u35 u36 u37 u38 u39 u40 u41 u42 u43 u44 u45 u46 u47:Value),a' = { tmps:=#[.pointer (some ⟨bx,0,none⟩),.int .i64 fuel,undef,undef,.pointer (some ⟨w.heap.size,0,none⟩),.int .i64 0,.int .i64 0,u7,u8,u9,u10,u11,u12,u13,u14,u15,u16,u17,u18,u19,u20,u21,u22,u23,u24,u25,u26,u27,u28,u29,u30,u31,u32,u33,u34,u35,u36,u37,u38,u39,u40,u41,u42,u43,u44,u45,u46,u47],defers:=[] }) (fun a' _=>0) rfl ?_ ?_
 ·intro hpass
  go_wp2
  go_step3
  rename_i hK
  exact hK _ _ (hpass _ _ ⟨rfl,_,_,_,_,_,_,_,_,_,_,_,_,_,_,_,_,_,_,_,_,_,_,_,_,_,_,_,_,_,_,_,_,_,_,_,_,_,_,_,_,_,rfl⟩)
 rintro a' w' ⟨rfl,u7,u8,u9,u10,u11,u12,u13,u14,u15,u16,u17,u18,u19,u20,u21,u22,u23,u24,u25,u26,u27,u28,u29,u30,u31,u32,u33,u34,u35,u36,u37,u38,u39,u40,u41,u42,u43,u44,u45,u46,u47,rfl⟩
 obtain ⟨wA,rfl⟩:∃ z,z = w':=⟨_,rfl⟩
 dsimp only
 generalize hQ:Exit.jump _ _ _ = Q
 obtain ⟨q0,q1,q2,q3⟩:=HU.out.ms.tail
 obtain ⟨⟨b0,b1,b2,b3⟩,f0,f1,f2,f3⟩:=HU.out.box.four
 have HU2:=HU
 clear HU
 rw [hdn] at q3
 clear q0 q1 q2
 have hx0:∀ u,s.rg[0]? = some u->u.x = ((s.rg[0]?).getD noval).x:=fun u hu=>by rw [hu];rfl
 obtain ⟨r0,hr0⟩:∃ r0,r0 = ((s.rg[0]?).getD noval).x:=⟨_,rfl⟩
 rw [<- hr0] at hx0
 have HX0:=Lib.hid hx0
 have HR0:=Lib.hid hr0
 clear hx0 hr0
 have hks:=RU.k HX0.out ⟨_,HU2.out.next (Below.refl _ _).drew⟩
 have hRX:∀ w' (hw:w'.cell? ⟨bx,426,none⟩ = some (.int .i64 r0)/\w'.cell? ⟨bx,416,none⟩ = some v'.xv/\w'.cell? ⟨bx,417,none⟩ = some v'.tv/\w'.cell? ⟨bx,467,none⟩ = some v'.sv/\∃ o,RU base w0 fx s bx v' w v.ρ o w'),Reads w' 1 v'.xv s.ctx.length (u8s s.ctx):=fun w' hw=>let ⟨o,h⟩:=hw.2.2.2.2;reads_own h.ms.ctxS.1 (u8s_one _) (by decide)
 have hRN:∀ w' (hw:w'.cell? ⟨bx,426,none⟩ = some (.int .i64 r0)/\w'.cell? ⟨bx,416,none⟩ = some v'.xv/\w'.cell? ⟨bx,417,none⟩ = some v'.tv/\w'.cell? ⟨bx,467,none⟩ = some v'.sv/\∃ o,RU base w0 fx s bx v' w v.ρ o w'),Reads w' 1 v'.sv s.sent.length (i64s s.sent):=fun w' hw=>let ⟨o,h⟩:=hw.2.2.2.2;reads_own h.ms.sentS.1 (i64s_one _) (by decide)
 have hRT:∀ w' (hw:w'.cell? ⟨bx,426,none⟩ = some (.int .i64 r0)/\w'.cell? ⟨bx,416,none⟩ = some v'.xv/\w'.cell? ⟨bx,417,none⟩ = some v'.tv/\w'.cell? ⟨bx,467,none⟩ = some v'.sv/\∃ o,RU base w0 fx s bx v' w v.ρ o w'),Rowed w' v'.tv v'.vals s.rows:=fun w' hw=>let ⟨o,h⟩:=hw.2.2.2.2;rowed_tabU h.ms.tabS (fun k hk=>(hrb k hk).1)
 have HCB:=Lib.hid (fun w' hw=>clone_byte v'.xv s.ctx.length (u8s s.ctx) w' (hRX w' hw) (by omega))
 have HCN:=Lib.hid (fun w' hw=>clone_int v'.sv s.sent.length (i64s s.sent) w' (hRN w' hw) (by omega))
 have HCT:=Lib.hid (fun w' hw=>copies_of v'.tv v'.vals s.rows hrl (fun k hk=>(hrb k hk).2) w' (hRT w' hw) (fun _=>0) 10)
 clear hRX hRN hRT
 go_upto_region 3 with fail
 go_region_held3 (fun w'=>w'.cell? ⟨bx,426,none⟩ = some (.int .i64 r0)/\w'.cell? ⟨bx,416,none⟩ = some v'.xv/\w'.cell? ⟨bx,417,none⟩ = some v'.tv/\w'.cell? ⟨bx,467,none⟩ = some v'.sv/\∃ o,RU base w0 fx s bx v' w v.ρ o w')
  (first
    | with_reducible assumption
    | exact RU.n HX0.out (by with_reducible assumption) hbC
    | exact RU.n HX0.out (by with_reducible assumption) hT.bel
    | exact RU.n HX0.out (by with_reducible assumption) hbN
    | exact RU.p HX0.out (by with_reducible assumption) _ _ _ _)
  (first
    | (go_at_call 47;refine (HCB.out _ (by with_reducible assumption)).mono ?_;rintro e wC ⟨vC,rfl,hownC,hbC⟩;obtain ⟨aC,kC,rfl⟩:=own_slice hownC)
    | (go_at_call 48;refine (HCT.out _ (by with_reducible assumption)).mono ?_;rintro e wT ⟨vT,valsT,ρT,rfl,hT⟩;obtain ⟨aT,kT,rfl⟩:=own_slice hT.list.1)
    | (go_at_call 52;refine (HCN.out _ (by with_reducible assumption)).mono ?_;rintro e wN ⟨vN,rfl,hownN,hbN⟩;obtain ⟨aN,kN,rfl⟩:=own_slice hownN;have hUN:=(((HU2.out.next (Below.refl _ _).drew).next hbC).next hT.bel).next hbN;obtain ⟨⟨_,_,_,_⟩,_,_,_,_⟩:=hUN.box.four))
 rename_i hheld
 clear hheld hks
 have hob:=HU2.out.box.lt
 have hUF:=hUN.put4 (.int .i64 r0) (.slice aC s.ctx.length kC) (.slice aT s.rows.length kT) (.slice aN s.sent.length kN)
 have hsC:=hbC.size
 have hsT:=hT.bel.size
 have hC:=own_low (own_put4 (q:=w.heap.size) (own_stays (own_stays hownC hT.bel (Nat.le_refl _)) hbN (Nat.le_refl _)) (by show _ < wA.heap.size;exact hob) (.int .i64 r0) (.slice aC s.ctx.length kC) (.slice aT s.rows.length kT) (.slice aN s.sent.length kN)) (Nat.le_of_lt hob)
 have hS:=own_low (own_put4 (q:=w.heap.size) hownN (by have:wA.heap.size <= wC.heap.size:=hsC;omega) (.int .i64 r0) (.slice aC s.ctx.length kC) (.slice aT s.rows.length kT) (.slice aN s.sent.length kN)) (show w.heap.size <= wT.heap.size by have:wA.heap.size <= wC.heap.size:=hsC;omega)
 have hTT:=tab_out hT hbN (q:=w.heap.size) (by have:wA.heap.size <= wC.heap.size:=hsC;omega) (b':=w.heap.size) (by have:wA.heap.size <= wC.heap.size:=hsC;omega) (.int .i64 r0) (.slice aC s.ctx.length kC) (.slice aT s.rows.length kT) (.slice aN s.sent.length kN)
 obtain ⟨⟨d0,d1,d2,d3⟩,_⟩:=hUF.box.four
 have hLB:Lab3 w.heap.size s (.slice aC s.ctx.length kC) (.slice aT s.rows.length kT) (.slice aN s.sent.length kN) ((((wN.setCell ⟨w.heap.size,0,none⟩ (.int .i64 r0)).setCell ⟨w.heap.size,1,none⟩ (.slice aC s.ctx.length kC)).setCell ⟨w.heap.size,2,none⟩ (.slice aT s.rows.length kT)).setCell ⟨w.heap.size,3,none⟩ (.slice aN s.sent.length kN)):=by
  refine ⟨⟨fun q=>if q < wC.heap.size then 5 else if q < wT.heap.size then ρT q else 6,valsT,⟨hC,fun b hb=>if_pos (hownC.lt b hb).2⟩,⟨⟨hTT.list.1,fun b hb=>?_⟩,fun k hk=>?_⟩,⟨hS,fun b hb=>?_⟩⟩⟩
  ·obtain ⟨l1,l2⟩:=hT.list.1.lt b hb
   show (if b < wC.heap.size then 5 else if b < wT.heap.size then ρT b else 6) = 10
   rw [if_neg (by omega),if_pos l2]
   exact hT.list.2 b hb
  ·obtain ⟨u,hu,ho⟩:=hT.item k hk hk
   obtain ⟨u',hu',ho'⟩:=hTT.item k hk
   obtain rfl:u = u':=Option.some.inj (hu.symm.trans hu')
   refine ⟨u,hu,ho'.1,fun b hb=>?_⟩
   obtain ⟨l1,l2⟩:=ho.1.lt b hb
   show (if b < wC.heap.size then 5 else if b < wT.heap.size then ρT b else 6) = 11 + k
   rw [if_neg (by omega),if_pos l2]
   exact ho.2 b hb
  ·have l1:=(hownN.lt b hb).1
   show (if b < wC.heap.size then 5 else if b < wT.heap.size then ρT b else 6) = 6
   rw [if_neg (by omega),if_neg (by omega)]
 have hBF:=(((((((HBA.out.trans ((Below.refl _ _).drew.mono HBA.out.size)).trans (hbC.mono (by have:=HBA.out.size;exact this))).trans (hT.bel.mono (by have:=HBA.out.size;have:wA.heap.size <= wC.heap.size:=hsC;omega))).trans (hbN.mono (by have:=HBA.out.size;have:wA.heap.size <= wC.heap.size:=hsC;omega))).setCell (p:=⟨w.heap.size,0,none⟩) (Nat.le_refl w.heap.size) (.int .i64 r0)).setCell (p:=⟨w.heap.size,1,none⟩) (Nat.le_refl w.heap.size) (.slice aC s.ctx.length kC)).setCell (p:=⟨w.heap.size,2,none⟩) (Nat.le_refl w.heap.size) (.slice aT s.rows.length kT)).setCell (p:=⟨w.heap.size,3,none⟩) (Nat.le_refl w.heap.size) (.slice aN s.sent.length kN)
 generalize World.setCell _ _ _ = wF at hUF hC hS hTT hBF hLB d0 d1 d2 d3 ⊢
 go_wp2
 subst hQ
 try simp only [Exit.jump]
 exact bodyPost_ret (v:=.tuple #[.agg #[.int .i64 r0,.slice aC s.ctx.length kC,.slice aT s.rows.length kT,.slice aN s.sent.length kN],.int .i64 0]) (by simp [results,Tryz.results21,go_sem,d0,d1,d2,d3]) rfl
  ⟨r0,_,_,_,rfl,⟨⟨_,_,_,rfl⟩,⟨_,_,_,rfl⟩,⟨_,_,_,rfl⟩,fun h=>absurd rfl h,fun _ u hu=>(HX0.out u hu).symm,fun _=>hC,fun _=>hS,fun _=>⟨_,_,hTT⟩⟩,hBF,hLB⟩
end Go.Proofs.YtdepknffpnnmmaaGreat
