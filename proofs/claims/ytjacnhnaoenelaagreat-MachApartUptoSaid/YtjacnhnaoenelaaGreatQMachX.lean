import Derived.Test.YtjacnhnaoenelaaGreatQMachU
import Derived.Test.YtjacnhnaoenelaaGreatQMachM
import Derived.Test.YtjacnhnaoenelaaGreatQMachS
import Derived.Deep.LoopGhost
import Derived.Deep.DeepCutAuto
set_option maxRecDepth 100000
set_option maxHeartbeats 1600000
namespace Go.Proofs.YtjacnhnaoenelaaGreat
open Go.Proofs.Tryz
open Go.RowKit
set_option linter.unusedVariables false
set_option linter.unusedSimpArgs false
theorem zx (Ad reg:Bool) (size src off Aa:Int) (d:Nat) (hd:d < 11) (bx:Nat) (cs:List Value) (w:World) (hl:cs.length = 471) (h:Row w bx 87 cs) :
 Calls prog 54 #[.pointer (some ⟨bx,0,none⟩),.agg #[.int .i64 20,.bool Ad,.bool reg,.int .i64 size,.int .i64 d,.int .i64 src,.int .i64 off,.int .i64 Aa]] w (Wrote w bx (D9 cs (423 + d * 4) (.int .i64 1) (.int .i64 0) (.int .i64 0) (.int .i64 Aa)) 0 0):=by
 have hj1:(0:Int) <= (d:Int):=by omega
 have hj2:(d:Int) < 11:=by omega
 have HF:=Lib.hid (FM.begin h 20 Ad reg size d src off Aa);clear h;go_enter func54,ntmps54;go_upto_region 1 with fail;generalize World.alloc _ _ = w1 at HF ⊢;have hks:=(show FX w bx w.heap.size 20 Ad reg size d src off Aa w1 from ⟨_,HF.out,hl⟩).next (Below.refl _ _).drew;replace hks:=hks.k47
 go_region_held3 (fun w'=>w'.cell? ⟨w.heap.size,4,none⟩ = some (.int .i64 d)/\w'.cell? ⟨w.heap.size,7,none⟩ = some (.int .i64 Aa)/\FX w bx w.heap.size 20 Ad reg size d src off Aa w')
  (first | assumption | exact FX.n47 (by assumption) hb | exact (FX.D9 (FX.n47 (by assumption) hb).2.2 _ _ _ _ _).k47 | exact (FX.D9 (by assumption) _ _ _ _ _).k47)
  (first
    | (go_at_call 35;refine (Gh _ _).mono ?_;rintro e w' ⟨rfl,hb⟩;have hFc:=HF.out.drew.next hb;obtain ⟨_,_,_,_,⟨_,_,_,_⟩,_,_,_,_⟩:=hFc.row4 hl d hd))
 rename_i C9;have HF2:=Lib.hid (hFc.D9 (423 + d * 4) (.int .i64 1) (.int .i64 0) (.int .i64 0) (.int .i64 Aa));clear C9 hks hFc;generalize World.setCell _ _ _ = w2 at HF2 ⊢;obtain ⟨c0,_⟩:=HF2.out.cells;go_wp2;exact bodyPost_ret (v:=.tuple #[.int .i64 0,.int .i64 0]) (by simp [results,results54,go_sem]) rfl ⟨rfl,HF2.out.mod,HF2.out.Ar⟩
def rg0 (nx:Nat):List Val:=[I4,⟨3,0,0,0⟩,nval nx,I4,I4,I4,I4,I4,I4,I4,⟨2,0,0,256⟩]
def st0 (ctx:List Int):Mst:=⟨List.replicate 32 Cc,rg0 ctx.length,ctx,[],[],0,0,false⟩
theorem Aew {op:Int} (h:op <= 15):D8 op = 52:=if_pos h
def four (a y:Int) (i:Ins):List Ins:=[⟨20,false,false,0,0,0,0,a⟩,⟨20,false,false,0,3,0,0,y⟩,i,⟨39,false,false,0,0,0,0,0⟩]
theorem Anj {w:World} {b:Nat} {e:TypeId} {l:List Ins} (h:Row w b e (Dj l)) (hn:0 < l.length) (hm:l.length <= 4096):Fa w (.slice (some ⟨b,0,none⟩) l.length l.length) l:=
 ⟨G5 l,Ut l,Or.inr ⟨hn,b,0,_,rfl,h.lt,Nat.le_trans hm (by decide),Nat.le_refl _,fun j u hj=>by rw [Nat.zero_add,h.cell];exact hj⟩⟩
structure KB (w:World) (ib:Nat) (cs:List Value) (w1:World):Prop where
 row:Row w1 ib 70 cs
 bel:Below w.heap.size w w1
 lb:w.heap.size <= ib
section
variable {w w1 w2:World} {ib:Nat} {op:Int} {Ad reg:Bool} {size dst src off Aa:Int}
theorem KB.next {cs:List Value} (h:KB w ib cs w1) (hb:Below w1.heap.size w1 w2):KB w ib cs w2:=⟨h.row.below hb h.row.lt,h.bel.trans (hb.mono h.bel.size),h.lb⟩
theorem KB.k (h:KB w ib (Ed op Ad reg size dst src off Aa) w1):w1.cell? ⟨ib,0,none⟩ = some (.int .i64 op)/\w1.cell? ⟨ib,1,none⟩ = some (.bool Ad)/\w1.cell? ⟨ib,2,none⟩ = some (.bool reg)/\w1.cell? ⟨ib,3,none⟩ = some (.int .i64 size)/\w1.cell? ⟨ib,4,none⟩ = some (.int .i64 dst)/\w1.cell? ⟨ib,5,none⟩ = some (.int .i64 src)/\w1.cell? ⟨ib,6,none⟩ = some (.int .i64 off)/\w1.cell? ⟨ib,7,none⟩ = some (.int .i64 Aa)/\KB w ib (Ed op Ad reg size dst src off Aa) w1:=
 ⟨by rw [h.row.cell];rfl,by rw [h.row.cell];rfl,by rw [h.row.cell];rfl,by rw [h.row.cell];rfl,by rw [h.row.cell];rfl,by rw [h.row.cell];rfl,by rw [h.row.cell];rfl,by rw [h.row.cell];rfl,h⟩
theorem KB.n (h:w1.cell? ⟨ib,0,none⟩ = some (.int .i64 op)/\w1.cell? ⟨ib,1,none⟩ = some (.bool Ad)/\w1.cell? ⟨ib,2,none⟩ = some (.bool reg)/\w1.cell? ⟨ib,3,none⟩ = some (.int .i64 size)/\w1.cell? ⟨ib,4,none⟩ = some (.int .i64 dst)/\w1.cell? ⟨ib,5,none⟩ = some (.int .i64 src)/\w1.cell? ⟨ib,6,none⟩ = some (.int .i64 off)/\w1.cell? ⟨ib,7,none⟩ = some (.int .i64 Aa)/\KB w ib (Ed op Ad reg size dst src off Aa) w1) (hb:Below w1.heap.size w1 w2) :
 w2.cell? ⟨ib,0,none⟩ = some (.int .i64 op)/\w2.cell? ⟨ib,1,none⟩ = some (.bool Ad)/\w2.cell? ⟨ib,2,none⟩ = some (.bool reg)/\w2.cell? ⟨ib,3,none⟩ = some (.int .i64 size)/\w2.cell? ⟨ib,4,none⟩ = some (.int .i64 dst)/\w2.cell? ⟨ib,5,none⟩ = some (.int .i64 src)/\w2.cell? ⟨ib,6,none⟩ = some (.int .i64 off)/\w2.cell? ⟨ib,7,none⟩ = some (.int .i64 Aa)/\KB w ib (Ed op Ad reg size dst src off Aa) w2:=(h.2.2.2.2.2.2.2.2.next hb).k
end
structure Aii (ib:Nat) (w:World) (q:Nat):Prop where
 row:Row w q 73 [.int .i64 0,.slice none 0 0,.slice none 0 0,.slice none 0 0]
 lt:ib < q
section
variable {w W w1 w':World} {ib q:Nat} {o:Obj} {op:Int} {Ad reg:Bool} {size dst src off Aa:Int}
theorem Aii.old (h:Aii ib W q) (hb:Below W.heap.size W w'):Aii ib w' q:=⟨h.row.below hb h.row.lt,h.lt⟩
theorem Aii.four (h:Aii ib W q):q < W.heap.size/\(W.cell? ⟨q,0,none⟩ = some (.int .i64 0)/\W.cell? ⟨q,1,none⟩ = some (.slice none 0 0)/\W.cell? ⟨q,2,none⟩ = some (.slice none 0 0)/\W.cell? ⟨q,3,none⟩ = some (.slice none 0 0)) /\
 W.frozen? ⟨q,0,none⟩ = false/\W.frozen? ⟨q,1,none⟩ = false/\W.frozen? ⟨q,2,none⟩ = false/\W.frozen? ⟨q,3,none⟩ = false:=⟨h.row.lt,h.row.four⟩
theorem KB.put {cs:List Value} (h:KB w ib cs w1) (hb:Aii ib w1 q) (x0 x1 x2 x3:Value):KB w ib cs ((((w1.setCell ⟨q,0,none⟩ x0).setCell ⟨q,1,none⟩ x1).setCell ⟨q,2,none⟩ x2).setCell ⟨q,3,none⟩ x3):=
 ⟨h.row.Nq (by have:=hb.lt;omega) x0 x1 x2 x3,by
  have hq:w.heap.size <= q:=Nat.le_trans h.lb (Nat.le_of_lt hb.lt);have:=Wj (b:=q) h.bel hq 0 x0 x1 x2 x3;simpa using this,h.lb⟩
theorem KB.p (h:w1.cell? ⟨ib,0,none⟩ = some (.int .i64 op)/\w1.cell? ⟨ib,1,none⟩ = some (.bool Ad)/\w1.cell? ⟨ib,2,none⟩ = some (.bool reg)/\w1.cell? ⟨ib,3,none⟩ = some (.int .i64 size)/\w1.cell? ⟨ib,4,none⟩ = some (.int .i64 dst)/\w1.cell? ⟨ib,5,none⟩ = some (.int .i64 src)/\w1.cell? ⟨ib,6,none⟩ = some (.int .i64 off)/\w1.cell? ⟨ib,7,none⟩ = some (.int .i64 Aa)/\KB w ib (Ed op Ad reg size dst src off Aa) w1) (hb:Aii ib w1 q) (x0 x1 x2 x3:Value):((((w1.setCell ⟨q,0,none⟩ x0).setCell ⟨q,1,none⟩ x1).setCell ⟨q,2,none⟩ x2).setCell ⟨q,3,none⟩ x3).cell? ⟨ib,0,none⟩ = some (.int .i64 op)/\((((w1.setCell ⟨q,0,none⟩ x0).setCell ⟨q,1,none⟩ x1).setCell ⟨q,2,none⟩ x2).setCell ⟨q,3,none⟩ x3).cell? ⟨ib,1,none⟩ = some (.bool Ad)/\((((w1.setCell ⟨q,0,none⟩ x0).setCell ⟨q,1,none⟩ x1).setCell ⟨q,2,none⟩ x2).setCell ⟨q,3,none⟩ x3).cell? ⟨ib,2,none⟩ = some (.bool reg)/\((((w1.setCell ⟨q,0,none⟩ x0).setCell ⟨q,1,none⟩ x1).setCell ⟨q,2,none⟩ x2).setCell ⟨q,3,none⟩ x3).cell? ⟨ib,3,none⟩ = some (.int .i64 size)/\((((w1.setCell ⟨q,0,none⟩ x0).setCell ⟨q,1,none⟩ x1).setCell ⟨q,2,none⟩ x2).setCell ⟨q,3,none⟩ x3).cell? ⟨ib,4,none⟩ = some (.int .i64 dst)/\((((w1.setCell ⟨q,0,none⟩ x0).setCell ⟨q,1,none⟩ x1).setCell ⟨q,2,none⟩ x2).setCell ⟨q,3,none⟩ x3).cell? ⟨ib,5,none⟩ = some (.int .i64 src)/\((((w1.setCell ⟨q,0,none⟩ x0).setCell ⟨q,1,none⟩ x1).setCell ⟨q,2,none⟩ x2).setCell ⟨q,3,none⟩ x3).cell? ⟨ib,6,none⟩ = some (.int .i64 off)/\((((w1.setCell ⟨q,0,none⟩ x0).setCell ⟨q,1,none⟩ x1).setCell ⟨q,2,none⟩ x2).setCell ⟨q,3,none⟩ x3).cell? ⟨ib,7,none⟩ = some (.int .i64 Aa)/\KB w ib (Ed op Ad reg size dst src off Aa) ((((w1.setCell ⟨q,0,none⟩ x0).setCell ⟨q,1,none⟩ x1).setCell ⟨q,2,none⟩ x2).setCell ⟨q,3,none⟩ x3):=(h.2.2.2.2.2.2.2.2.put hb x0 x1 x2 x3).k
end
structure KL (w w1:World):Prop where
 bel:Below w.heap.size w w1
theorem KL.next {w w1 w2:World} (h:KL w w1) (hb:Below w1.heap.size w1 w2):KL w w2:=⟨h.bel.trans (hb.mono h.bel.size)⟩
structure Ank (m:Nat) (w:World) (q:Nat):Prop where
 row:Row w q 73 [.int .i64 0,.slice none 0 0,.slice none 0 0,.slice none 0 0]
 lb:m <= q
section
variable {w W w1 w':World} {m q:Nat} {o:Obj}
theorem Ank.old (h:Ank m W q) (hb:Below W.heap.size W w'):Ank m w' q:=⟨h.row.below hb h.row.lt,h.lb⟩
theorem Ank.four (h:Ank m W q):q < W.heap.size/\(W.cell? ⟨q,0,none⟩ = some (.int .i64 0)/\W.cell? ⟨q,1,none⟩ = some (.slice none 0 0)/\W.cell? ⟨q,2,none⟩ = some (.slice none 0 0)/\W.cell? ⟨q,3,none⟩ = some (.slice none 0 0)) /\
 W.frozen? ⟨q,0,none⟩ = false/\W.frozen? ⟨q,1,none⟩ = false/\W.frozen? ⟨q,2,none⟩ = false/\W.frozen? ⟨q,3,none⟩ = false:=⟨h.row.lt,h.row.four⟩
theorem KL.put (h:KL w w1) (hb:Ank w.heap.size w1 q) (x0 x1 x2 x3:Value):KL w ((((w1.setCell ⟨q,0,none⟩ x0).setCell ⟨q,1,none⟩ x1).setCell ⟨q,2,none⟩ x2).setCell ⟨q,3,none⟩ x3):=⟨by
 have:=Wj (b:=q) h.bel hb.lb 0 x0 x1 x2 x3;simpa using this⟩
end
end Go.Proofs.YtjacnhnaoenelaaGreat
