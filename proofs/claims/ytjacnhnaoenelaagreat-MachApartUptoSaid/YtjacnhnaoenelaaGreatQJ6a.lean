import Derived.Test.YtjacnhnaoenelaaGreatQMachAS
import Derived.Test.YtjacnhnaoenelaaGreatQMachAP
import Derived.Deep.CutRange
import Derived.Test.YtjacnhnaoenelaaGreatQMachBI2
import Derived.Test.YtjacnhnaoenelaaGreatQMachAN
set_option maxRecDepth 1000000
namespace Go.Proofs.YtjacnhnaoenelaaGreat
open Go.Proofs.Tryz
open Go.RowKit
set_option linter.unusedVariables false
set_option linter.unusedSimpArgs false
def Vb (id:Int):List Int:=if id = 1\/id = 5 then [2,4,1,0,0] else if id = 2 then [3,2,4,0,0] else if id = 3 then [3,1,4,0,0] else if id = 4 then [2,2,4,0,0] else if id = 6 then [1,0,0,0,0] else [1,1,0,0,0]
def Yt (id:Int):Nat:=if id = 1\/id = 5 then 1 else 2
theorem ids {id:Int} (h:1 <= id/\id <= 8):id = 1\/id = 2\/id = 3\/id = 4\/id = 5\/id = 6\/id = 7\/id = 8:=by omega
theorem Aw9 (id:Int) (h:1 <= id/\id <= 8):∃ lo hi p q,∀ w,Calls prog 81 #[.int .i64 id] w (Vg (Vb id) lo hi p q w):=by
 rcases ids h with rfl | rfl | rfl | rfl | rfl | rfl | rfl | rfl
 ·exact ⟨_,_,_,_,fun w=>Azr w⟩
 ·exact ⟨_,_,_,_,fun w=>Azs w⟩
 ·exact ⟨_,_,_,_,fun w=>Azt w⟩
 ·exact ⟨_,_,_,_,fun w=>Azu w⟩
 ·exact ⟨_,_,_,_,fun w=>Azv w⟩
 ·exact ⟨_,_,_,_,fun w=>Azw w⟩
 ·exact ⟨_,_,_,_,fun w=>Azx w⟩
 ·exact ⟨_,_,_,_,fun w=>Azy w⟩
theorem Ayo (p:Nat->Prop):(∀ k,k < 5->p k) ↔ p 0/\p 1/\p 2/\p 3/\p 4:=by
 constructor
 ·intro h;exact ⟨h 0 (by decide),h 1 (by decide),h 2 (by decide),h 3 (by decide),h 4 (by decide)⟩
 ·rintro ⟨h0,h1,h2,h3,h4⟩ k hk;have hc:k = 0\/k = 1\/k = 2\/k = 3\/k = 4:=by omega
  rcases hc with rfl | rfl | rfl | rfl | rfl <;> assumption
theorem Aun (id:Int) (h:1 <= id/\id <= 8):Yt id < 5/\(Vb id).length = 5/\∀ k,k < 5->Ip ((Vb id).getD k 0) = true->k < Yt id/\(Vb id).getD (Yt id) 0 = 4/\∀ j,k < j->j < Yt id->(Vb id).getD j 0 ≠ 4:=by
 rcases ids h with rfl | rfl | rfl | rfl | rfl | rfl | rfl | rfl
 all_goals
  refine ⟨by decide,by decide,fun k hk=>?_⟩;have hc:k = 0\/k = 1\/k = 2\/k = 3\/k = 4:=by omega
  rcases hc with rfl | rfl | rfl | rfl | rfl
  all_goals
   intro hp
   first
    | exact absurd hp (by decide)
    | (refine ⟨by decide, by decide, fun j h1 h2 => ?_⟩
       have hj:j = 1:=by have h3:j < 2:=h2;omega
       subst hj
       decide)
    | (refine ⟨by decide, by decide, fun j h1 h2 => ?_⟩
       have h3:j < 2:=h2;omega)
    | (refine ⟨by decide, by decide, fun j h1 h2 => ?_⟩
       have h3:j < 1:=h2;omega)
theorem Ark (fx:Ak) (s:Mst) (id:Int) (h:1 <= id/\id <= 8):((∀ k,k < 5->Xg ((Vb id).getD k 0) (s.reg (k + 1:Nat)) = true)/\∀ k,k < 5->Oc fx s ((Vb id).getD k 0) (s.reg (k + 1:Nat)) (s.reg (Yt id + 1:Nat)).x = true) ↔ Hq fx s id = true:=by
 rw [Ayo,Ayo]
 rcases ids h with rfl | rfl | rfl | rfl | rfl | rfl | rfl | rfl
 all_goals
  simp [Vb,Yt,Xg,Oc,Ip,Hq,Xd,and_assoc]
structure KC (w:World) (bx:Nat) (cs:List Value) (op:Int) (Ad reg:Bool) (size dst src off Aa:Int) (tb:Nat) (sz:List Int) (w':World):Prop where
 fm:FM w bx w.heap.size cs op Ad reg size dst src off Aa w'
 box:Row w' tb 127 (O9 sz)
 lt:w.heap.size <= tb
 len:sz.length = 6
theorem KC.next {w wx w':World} {bx tb:Nat} {cs:List Value} {op:Int} {Ad reg:Bool} {size dst src off Aa:Int} {sz:List Int} (h:KC w bx cs op Ad reg size dst src off Aa tb sz wx) (hb:Below wx.heap.size wx w'):KC w bx cs op Ad reg size dst src off Aa tb sz w':=⟨h.fm.next hb,h.box.below hb h.box.lt,h.lt,h.len⟩
section
variable {base:Nat} {w0:World} {fx:Ak} {s:Mst} {bx:Nat} {v:Bc}
theorem MS.Avm {w:World} (h:MS base w0 fx s bx v w) (d:Nat) (hd:d < 11) (u:Val) :
 MS base w0 fx (s.Hw d u) bx v ((((w.setCell ⟨bx,423 + d * 4,none⟩ (.int .i64 u.k)).setCell ⟨bx,423 + d * 4 + 1,none⟩ (.int .i64 u.t)).setCell ⟨bx,423 + d * 4 + 2,none⟩ (.int .i64 u.o)).setCell ⟨bx,423 + d * 4 + 3,none⟩ (.int .i64 u.x)):=by
 have hm:=((((Mod.refl w bx).set (423 + d * 4) (.int .i64 u.k)).set (423 + d * 4 + 1) (.int .i64 u.t)).set (423 + d * 4 + 2) (.int .i64 u.o)).set (423 + d * 4 + 3) (.int .i64 u.x);have hr:=(((h.box.put (423 + d * 4) (.int .i64 u.k)).put (423 + d * 4 + 1) (.int .i64 u.t)).put (423 + d * 4 + 2) (.int .i64 u.o)).put (423 + d * 4 + 3) (.int .i64 u.x);have hs:=h.D9 d hd u;unfold Proofs.YtjacnhnaoenelaaGreat.D9 at hs;rw [hs] at hr;exact h.mod hm s.sl (s.rg.set d u) s.at' s.steps s.done h.Xx (by rw [List.length_set];exact h.Oj) hr
theorem MS.Avn {w:World} (h:MS base w0 fx s bx v w) (k t o x:Int) :
 MS base w0 fx (s.Hw 0 ⟨k,t,o,x⟩) bx v ((((w.setCell ⟨bx,423,none⟩ (.int .i64 k)).setCell ⟨bx,424,none⟩ (.int .i64 t)).setCell ⟨bx,425,none⟩ (.int .i64 o)).setCell ⟨bx,426,none⟩ (.int .i64 x)):=h.Avm 0 (by decide) ⟨k,t,o,x⟩
theorem MS.Avo {w:World} (h:MS base w0 fx s bx v w) (d:Nat) (hd:d < 11):∃ a b c x,(w.cell? ⟨bx,423 + d * 4,none⟩ = some a/\w.cell? ⟨bx,423 + d * 4 + 1,none⟩ = some b/\w.cell? ⟨bx,423 + d * 4 + 2,none⟩ = some c/\w.cell? ⟨bx,423 + d * 4 + 3,none⟩ = some x) /\
 w.frozen? ⟨bx,423 + d * 4,none⟩ = false/\w.frozen? ⟨bx,423 + d * 4 + 1,none⟩ = false/\w.frozen? ⟨bx,423 + d * 4 + 2,none⟩ = false/\w.frozen? ⟨bx,423 + d * 4 + 3,none⟩ = false:=
 have hl:=h.len
 ⟨(Aw s v)[423 + d * 4],(Aw s v)[423 + d * 4 + 1],(Aw s v)[423 + d * 4 + 2],(Aw s v)[423 + d * 4 + 3],⟨by rw [h.box.cell];simp [hl],by rw [h.box.cell];simp [hl],by rw [h.box.cell];simp [hl],by rw [h.box.cell];simp [hl]⟩,h.box.free _,h.box.free _,h.box.free _,h.box.free _⟩
theorem MS.Ayp {w:World} (h:MS base w0 fx s bx v w):∃ a b c x,(w.cell? ⟨bx,423,none⟩ = some a/\w.cell? ⟨bx,424,none⟩ = some b/\w.cell? ⟨bx,425,none⟩ = some c/\w.cell? ⟨bx,426,none⟩ = some x) /\
 w.frozen? ⟨bx,423,none⟩ = false/\w.frozen? ⟨bx,424,none⟩ = false/\w.frozen? ⟨bx,425,none⟩ = false/\w.frozen? ⟨bx,426,none⟩ = false:=h.Avo 0 (by decide)
def clr (s:Mst):Nat->Mst
 | 0=>s
 | k + 1=>(clr s k).Hw ((k + 1:Nat):Int) I4
theorem Arl (s:Mst) (V:Val) (hl:s.rg.length = 11):O8 s V = clr (s.Hw 0 V) 5:=by
 obtain ⟨sl,rg,ctx,rows,sent,at',steps,done⟩:=s;simp only at hl
 have hx:∃ a0 a1 a2 a3 a4 a5 t,rg = a0 :: a1 :: a2 :: a3 :: a4 :: a5 :: t:=by
  rcases rg with _ | ⟨a0,_ | ⟨a1,_ | ⟨a2,_ | ⟨a3,_ | ⟨a4,_ | ⟨a5,t⟩⟩⟩⟩⟩⟩
  all_goals first
   | (simp at hl;done)
   | exact ⟨_,_,_,_,_,_,_,rfl⟩
 obtain ⟨a0,a1,a2,a3,a4,a5,t,rfl⟩:=hx;rfl
end
theorem Zn {s:Mst} (h1:(Ei s.rg).length = 44) (h2:s.st.length = 416) (xv tv sv:Value) :
 (Au s xv tv sv)[463]? = some (.int .i64 s.at')/\(Au s xv tv sv)[464]? = some (.int .i64 s.steps)/\(Au s xv tv sv)[465]? = some (.bool s.done):=by
 unfold Au;refine ⟨?_,?_,?_⟩ <;> (rw [List.getElem?_append_right (by omega),h1,List.getElem?_append_right (by omega),h2];rfl)
theorem Arm {fx:Ak} {s:Mst} (h:Good fx s) (i:Ins) (hi:Me fx i) (hop:i.op = 22\/i.op = 23):DoR (D8 i.op) fx s i (Jz fx s i).by' (Jz fx s i).er (Jz fx s i).s:=by
 have hF:D8 i.op = 55:=by
  unfold D8;rw [if_neg (by omega),if_neg (by omega),if_neg (by omega),if_pos (by omega)]
 rw [hF]
 have hby:(Jz fx s i).by' = 0:=by
  unfold Jz;dsimp only;repeat' split
  all_goals rfl
 have hsh:(Jz fx s i).s = { s with sl:=s.sl,rg:=(Jz fx s i).s.rg,at':=s.at',steps:=s.steps,done:=s.done }:=by
  unfold Jz;dsimp only
  split
  ·rfl
  split
  ·rfl
  split
  ·rfl
  unfold N7
  split <;> rfl
 have hG:=Ak1 h i;rw [hby];intro base w0 bx v w hM;obtain ⟨d,hd⟩:∃ d:Nat,i.dst = d:=⟨i.dst.toNat,by have:=hi.dst;omega⟩;obtain ⟨r,hr⟩:∃ r:Nat,i.src = r:=⟨i.src.toNat,by have:=hi.src;omega⟩;have hd1:=hi.dst;have hr1:=hi.src
 have hsz:i.size = 1\/i.size = 2\/i.size = 4\/i.size = 8:=by
  rcases hop with h | h
  ·exact hi.ls (Or.inl h)
  ·rcases hi.lds h with h | h | h
   ·exact Or.inl h
   ·exact Or.inr (Or.inl h)
   ·exact Or.inr (Or.inr (Or.inl h))
 have hoff:=hi.off;obtain ⟨op,Ad,reg,size,dst,src,off,Aa⟩:=i;simp only at hd hr hd1 hr1 hsz hoff hop;subst hd hr;have hp:s.rg[r]? = some (s.reg r):=by rw [s.Ir r (by have:=h.regs.1;omega)];exact List.getElem?_eq_getElem _
 refine (An8 op Ad reg size off Aa d r (by omega) (by omega) (s.reg r) hp (F8 h.regs r).ptr h.mem hsz hoff hop w hM).mono ?_;rintro e w' ⟨rfl,hm,hrow⟩;refine ⟨rfl,v,?_,Jd.Eu hm hM.rb,fun _ _=>rfl⟩;rw [hsh] at hrow ⊢;exact hM.mod hm s.sl _ s.at' s.steps s.done h.slots hG.regs.1 hrow
theorem An9 {fx:Ak} {s:Mst} (h:Good fx s) (i:Ins) (hi:Me fx i) (hop:i.op = 24):DoR (D8 i.op) fx s i (Iy fx s i).by' (Iy fx s i).er (Iy fx s i).s:=by
 have hF:D8 i.op = 56:=by
  unfold D8;rw [if_neg (by omega),if_neg (by omega),if_neg (by omega),if_neg (by omega),if_pos (by omega)]
 rw [hF]
 have hby:(Iy fx s i).by' = 0:=by
  unfold Iy;dsimp only;repeat' split
  all_goals rfl
 rw [hby];intro base w0 bx v w hM;obtain ⟨d,hd⟩:∃ d:Nat,i.dst = d:=⟨i.dst.toNat,by have:=hi.dst;omega⟩;have hd1:=hi.dst;have hr1:=hi.src;have hsz:=hi.ls (Or.inr hop);have hoff:=hi.off;obtain ⟨op,Ad,reg,size,dst,src,off,Aa⟩:=i;simp only at hd hr1 hd1 hsz hoff hop;subst hd;have hp:s.rg[d]? = some (s.reg d):=by rw [s.Ir d (by have:=h.regs.1;omega)];exact List.getElem?_eq_getElem _
 exact Ai1 op Ad reg size src off Aa d (by omega) (s.reg d).k (s.reg d).t (s.reg d).o (s.reg d).x (s.sec ⟨op,Ad,reg,size,d,src,off,Aa⟩).k (s.sec ⟨op,Ad,reg,size,d,src,off,Aa⟩).t (s.sec ⟨op,Ad,reg,size,d,src,off,Aa⟩).o (s.sec ⟨op,Ad,reg,size,d,src,off,Aa⟩).x
  hp rfl (F8 h.regs d).x (F8 h.regs d).ptr h.mem hsz hoff (fun w' h'=>qg (s:=s) ⟨op,Ad,reg,size,d,src,off,Aa⟩ (fun _=>hr1) bx _ h.regs.1 (fun r hr hl=>hM.lu r hr) w' h') w hM
def Known (op:Int):Prop:=op <= 15\/op = 20\/(22 <= op/\op <= 24)\/(26 <= op/\op <= 37)\/op = 39
theorem A0e {fx:Ak} {s:Mst} (h:Good fx s) (i:Ins) (hi:Me fx i) (hk:Known i.op):DoR (D8 i.op) fx s i (Ij fx s i).by' (Ij fx s i).er (Ij fx s i).s:=by
 have ho:=hi.op;unfold Known at hk;unfold Ij
 split
 ·exact Anw fx s i (by omega) hi.dst (fun _=>hi.src) hi.Aa h.regs
 split
 ·omega
 split
 ·exact Aq1 fx s i (by omega) hi.dst
 split
 ·exact Arm h i hi (by omega)
 split
 ·exact An9 h i hi (by omega)
 split
 ·omega
 split
 ·exact Aq0 fx s i (by omega)
 split
 ·exact Aiy fx s i (by omega) hi.dst (fun _=>hi.src) hi.Aa h.regs
 split
 ·omega
 ·exact Anx fx s i (by omega)
theorem Auo {fx:Ak} {s:Mst} {i:Ins} (hi:Me fx i) : -4611686018427387904 <= (Ij fx s i).by'/\(Ij fx s i).by' <= 4611686018427387904:=by
 have ho:=hi.off;have hm:=hi.Ayg
 by_cases hj:i.op < 26\/37 < i.op
 ·rw [Aiv fx s i hj];decide
 ·unfold Ij;rw [if_neg (by omega),if_neg (by omega),if_neg (by omega),if_neg (by omega),if_neg (by omega),if_neg (by omega)]
  split
  ·unfold Aex;simp only;have:=hm (by omega)
   split <;> omega
  ·rw [if_pos (by omega)];unfold Ux;simp only
   split <;> omega
structure Axa (fx:Ak):Prop where
 len:fx.code.length <= 4096
 ins:∀ i ∈ fx.code,Me fx i/\Known i.op
 last:∀ k i,fx.code[k]? = some i->k + 1 = fx.code.length->(26 <= i.op/\i.op <= 37)\/i.op = 39
theorem Axb {fx:Ak} {s:Mst} {i:Ins} (h:i.op <= 39):(Ij fx s i).s.steps = s.steps/\(Ij fx s i).s.at' = s.at':=by
 by_cases h39:i.op = 39
 ·rw [Aa4 fx s i h39];unfold leaveD Jq
  split <;> exact ⟨rfl,rfl⟩
 ·have K:=Aa3 fx s i (by omega);exact ⟨K.steps,K.at'⟩
def Aac (fx:Ak):Nat->Mst->Int × Mst
 | 0,s=>(if s.done then 0 else 88,s)
 | n + 1,s=>if s.done then (0,s) else if (Fq fx s).1 = 0 then Aac fx n (Fq fx s).2 else Fq fx s
theorem Arn {code:List Ins} {i j:Nat} (h:(Bl code i:Int) = (Bl code j:Int)):i = j:=by
 by_cases h1:i < j
 ·have:=Uw code i j h1;omega
 ·by_cases h2:j < i
  ·have:=Uw code j i h2;omega
  ·omega
section
variable {fx:Ak} {s s':Mst} {i:Ins}
end
structure Acr (code:List Ins):Prop where
 len:0 < code.length/\code.length <= 4096
 ins:∀ i ∈ code,i.right = 0/\Ey i.Aa/\Known i.op
 last:∀ k i,code[k]? = some i->k + 1 = code.length->(26 <= i.op/\i.op <= 37)\/i.op = 39
theorem Acr.made {code:List Ins} (h:Acr code) (hi:Int) (hh:0 <= hi/\hi <= 65535):(Vo.mk 0 hi [] [] code).made:=by
 refine ⟨⟨by show (0:Int) <= 0;decide,hh.1,hh.2,by show (0:Nat) <= 4096;decide,by show (0:Nat) <= 8;decide,h.len.1⟩,fun i hi=>absurd hi (by simp),⟨h.len.2,fun i hi=>(h.ins _ (List.getElem_mem hi)).1⟩,fun i hi ho=>?_⟩;have hk:Known code[i].op:=(h.ins _ (List.getElem_mem hi)).2.2;have ho':code[i].op = 21:=ho;unfold Known at hk;omega
theorem Acr.code {code:List Ins} (h:Acr code):Axa ⟨[],[],code⟩:=
 ⟨h.len.2,fun i hi=>⟨Oa _ i (h.ins i hi).1 (h.ins i hi).2.1 (fun h21=>by have hk:=(h.ins i hi).2.2;unfold Known at hk;omega),(h.ins i hi).2.2⟩,h.last⟩
theorem Ayq (code:List Ins) (ctx:List Int) (hb:Ah ctx) (hl:ctx.length <= 65535):Good ⟨[],[],code⟩ (st0 ctx):=by
 have hz:∀ x ∈ (st0 ctx).sl,x = Cc:=fun x hx=>List.eq_of_mem_replicate hx;refine ⟨⟨fun x hx=>?_,hb,hl,Ah.nil,by show (0:Nat) <= 4096;decide,rfl,fun k hk=>absurd hk (by simp),fun k hk=>absurd hk (by simp [st0])⟩,⟨rfl,fun u hu=>?_⟩,Vp,fun x hx hk=>?_,⟨by show (0:Nat) <= 64;decide,fun x hx=>absurd hx (by simp [st0])⟩⟩
 ·rw [hz x hx];exact ⟨by unfold Ah;decide,by decide,by decide⟩
 ·have : u = I4 ∨ u = ⟨3, 0, 0, 0⟩ ∨ u = nval ctx.length ∨ u = ⟨2, 0, 0, 256⟩ := by
   simp only [st0,rg0,List.mem_cons,List.not_mem_nil,or_false] at hu
   rcases hu with h | h | h | h | h | h | h | h | h | h | h
   all_goals first
    | exact Or.inl h
    | exact Or.inr (Or.inl h)
    | exact Or.inr (Or.inr (Or.inl h))
    | exact Or.inr (Or.inr (Or.inr h))
  rcases this with rfl | rfl | rfl | rfl
  ·exact Dp.none _
  ·exact Gf.reg ⟨by show (2:Int) <= 3/\(3:Int) <= 5;decide,by show -1048576 <= (0:Int)/\(0:Int) <= 1048576;decide,fun h=>absurd (show (3:Int) = 5 from h) (by decide)⟩
  ·exact Dp.num _ (by unfold Ey;omega)
  ·exact Gf.reg ⟨by show (2:Int) <= 2/\(2:Int) <= 5;decide,by show -1048576 <= (256:Int)/\(256:Int) <= 1048576;decide,fun h=>absurd (show (2:Int) = 5 from h) (by decide)⟩
 ·rw [hz x hx] at hk;exact absurd rfl hk
section
variable {fx:Ak} {sl:List Slot} {ctx:List Int} {rg:List Val} {k:Nat} {n:Int}
end
end Go.Proofs.YtjacnhnaoenelaaGreat
