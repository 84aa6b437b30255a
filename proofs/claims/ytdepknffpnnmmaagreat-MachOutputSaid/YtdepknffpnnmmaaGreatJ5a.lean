import Derived.Test.YtdepknffpnnmmaaGreatMachX
import Derived.Test.YtdepknffpnnmmaaGreatMachAB
import Derived.Test.YtdepknffpnnmmaaGreatJ4a
import Derived.Test.YtdepknffpnnmmaaGreatJ3b
import Derived.Test.YtdepknffpnnmmaaGreatMachAA
import Derived.Deep.LoopGhost
import Derived.Deep.DeepCutAuto
import Derived.Deep.MidRow
import Derived.Deep.WholeRow
import Derived.Test.YtdepknffpnnmmaaGreatMachAD
set_option maxRecDepth 1000000
set_option maxHeartbeats 8000000
namespace Go.Proofs.YtdepknffpnnmmaaGreat
open Go.RowKit
set_option linter.unusedVariables false
set_option linter.unusedSimpArgs false
structure RegOK (fx:Mfix) (p:Val):Prop where
 kind:0 <= p.k
 x:i64r p.x
 ptr:2 <= p.k->PtrOK fx p
theorem RegOK.num (fx:Mfix) {x:Int} (h:i64r x):RegOK fx (nval x):=⟨by show (0:Int) <= 1;decide,h,fun h=>absurd (show (2:Int) <= 1 from h) (by decide)⟩
theorem RegOK.none (fx:Mfix):RegOK fx noval:=⟨by show (0:Int) <= 0;decide,zero_r,fun h=>absurd (show (2:Int) <= 0 from h) (by decide)⟩
def RegsOK (fx:Mfix) (s:Mst):Prop:=s.rg.length = 11/\∀ u ∈ s.rg,RegOK fx u
theorem Mst.reg_get (s:Mst) (d:Nat) (h:d < s.rg.length):s.reg d = s.rg[d]:=by
 unfold Mst.reg
 rw [Int.toNat_natCast,List.getElem?_eq_getElem h]
 rfl
theorem reg_ok {fx:Mfix} {s:Mst} (h:RegsOK fx s) (d:Int):RegOK fx (s.reg d):=by
 unfold Mst.reg
 by_cases hd:d.toNat < s.rg.length
 ·rw [List.getElem?_eq_getElem hd]
  exact h.2 _ (List.getElem_mem hd)
 ·rw [List.getElem?_eq_none (by omega)]
  exact RegOK.none fx
theorem sec_ok {fx:Mfix} {s:Mst} (h:RegsOK fx s) (i:Ins) (hi:i64r i.imm):RegOK fx (s.sec i):=by
 unfold Mst.sec
 split
 ·exact reg_ok h _
 ·exact RegOK.num fx hi
theorem sec_call {s:Mst} (i:Ins) (hsr:i.reg = true->0 <= i.src/\i.src < 11) (bx:Nat) (cs:List Value) (hl:s.rg.length = 11) (hr:∀ r (hr:r < 11) (hl:s.rg.length = 11),RegC cs r (s.rg[r]'(by rw [hl];exact hr))) (w:World) (hw:Row w bx 99 cs) :
 Calls Tryz.prog 81 #[.pointer (some ⟨bx,0,none⟩),.agg #[.int .i64 i.op,.bool i.nar,.bool i.reg,.int .i64 i.size,.int .i64 i.dst,.int .i64 i.src,.int .i64 i.off,.int .i64 i.imm]] w (Ret w (.agg #[.int .i64 (s.sec i).k,.int .i64 (s.sec i).t,.int .i64 (s.sec i).o,.int .i64 (s.sec i).x])):=by
 obtain ⟨op,nar,reg,size,dst,src,off,imm⟩:=i
 cases reg with
 | true =>
   obtain ⟨h1,h2⟩:=hsr rfl
   simp only at h1 h2
   obtain ⟨r,rfl⟩:∃ r:Nat,src = r:=⟨src.toNat,by omega⟩
   have hr11:r < 11:=by omega
   have hs:s.sec ⟨op,nar,true,size,dst,r,off,imm⟩ = s.rg[r]'(by rw [hl];exact hr11):=by
    unfold Mst.sec
    rw [if_pos rfl]
    exact s.reg_get r (by omega)
   rw [hs]
   exact second_reg op nar size dst off imm r hr11 bx cs _ (hr r hr11 hl) w hw
 | false=>exact second_imm op nar size dst src off imm bx w
theorem amode_of (fx:Mfix) (op:Int) (nar:Bool) (a b:Val) (hop:1 <= op/\op <= 15) (ha:RegOK fx a) (hb:RegOK fx b) :
 AMode op nar (if op = 15 then 1 else a.k) (if op = 15 then 0 else a.t) (if op = 15 then 0 else a.o) (if op = 15 then 0 else a.x)
  (if op = 14 then 1 else b.k) (if op = 14 then 0 else b.t) (if op = 14 then 0 else b.o) (if op = 14 then 0 else b.x) (arithV op nar a b).1 (arithV op nar a b).2:=by
 unfold arithV
 by_cases h1:op = 15/\nar = false/\b.k ≠ 0
 ·rw [if_pos h1]
  obtain ⟨rfl,rfl,hk⟩:=h1
  simp only [if_neg (show ¬((15:Int) = 14) by decide)]
  exact AMode.mov rfl rfl (by simpa using hk) rfl rfl
 ·rw [if_neg h1]
  have hno:op = 15->nar = false->((if op = 14 then 1 else b.k) != 0) = false:=by
   intro h2 h3
   have hb0:b.k = 0:=by
    by_cases h:b.k = 0
    ·exact h
    ·exact absurd ⟨h2,h3,h⟩ h1
   rw [if_neg (by omega),hb0]
   rfl
  by_cases h2:(if op = 15 then 1 else a.k) = 1/\(if op = 14 then 1 else b.k) = 1
  ·rw [if_pos h2]
   exact AMode.alu _ hno h2.1 h2.2 rfl (alu_gives op nar _ _ hop).1
  ·rw [if_neg h2]
   have hn:(((if op = 15 then 1 else a.k) == 1) && ((if op = 14 then 1 else b.k) == 1)) = false:=by
    cases hx:((if op = 15 then 1 else a.k) == 1) && ((if op = 14 then 1 else b.k) == 1) with
    | false=>rfl
    | true =>
      rw [Bool.and_eq_true] at hx
      exact absurd ⟨eq_of_beq hx.1,eq_of_beq hx.2⟩ h2
   by_cases h3:nar = true\/(if op = 15 then 1 else a.k) = 0\/(if op = 14 then 1 else b.k) = 0
   ·rw [if_pos h3]
    refine AMode.trap hno hn ?_ rfl
    rcases h3 with h | h | h
    ·rw [h];rfl
    ·rw [h];simp
    ·rw [h];simp
   ·rw [if_neg h3]
    have n1:nar = false:=by
     cases nar
     ·rfl
     ·exact absurd (Or.inl rfl) h3
    have n2:¬(if op = 15 then 1 else a.k) = 0:=fun h=>h3 (Or.inr (Or.inl h))
    have n3:¬(if op = 14 then 1 else b.k) = 0:=fun h=>h3 (Or.inr (Or.inr h))
    refine AMode.sum hno hn n1 (by simpa using n2) (by simpa using n3) fun w'=>?_
    have hA:RegOK fx (if op = 15 then nval 0 else a):=by
     split
     ·exact RegOK.num fx zero_r
     ·exact ha
    have hB:RegOK fx (if op = 14 then nval 0 else b):=by
     split
     ·exact RegOK.num fx zero_r
     ·exact hb
    have:=msum_of op (if op = 15 then nval 0 else a) (if op = 14 then nval 0 else b) (fun h=>(hA.ptr h).off) (fun h=>(hB.ptr h).off) ⟨hA.x,hB.x⟩ w'
    by_cases h15:op = 15
    ·simp only [if_pos h15] at this ⊢
     by_cases h14:op = 14
     ·omega
     ·simp only [if_neg h14] at this ⊢
      exact this
    ·simp only [if_neg h15] at this ⊢
     by_cases h14:op = 14
     ·simp only [if_pos h14] at this ⊢
      exact this
     ·simp only [if_neg h14] at this ⊢
      exact this
theorem do_arithD (fx:Mfix) (s:Mst) (i:Ins) (hop:1 <= i.op/\i.op <= 15) (hd:0 <= i.dst/\i.dst < 11) (hsr:i.reg = true->0 <= i.src/\i.src < 11) (himm:i64r i.imm) (hR:RegsOK fx s) :
 DoR (doerF i.op) fx s i (arithD s i).by' (arithD s i).er (arithD s i).s:=by
 obtain ⟨op,nar,reg,size,dst,src,off,imm⟩:=i
 simp only at hop hd hsr himm
 obtain ⟨d,rfl⟩:∃ d:Nat,dst = d:=⟨dst.toNat,by omega⟩
 have hd':d < 11:=by omega
 rw [doerF_arith hop.2]
 have ha:=reg_ok hR d
 have hb:=sec_ok hR ⟨op,nar,reg,size,d,src,off,imm⟩ himm
 have key:∀ (bx:Nat) (cs:List Value) (w:World),cs.length = 471->(∀ r (hr:r < 11) (hl:s.rg.length = 11),RegC cs r (s.rg[r]'(by rw [hl];exact hr)))->s.rg.length = 11->Row w bx 99 cs ->
  Calls Tryz.prog 67 #[.pointer (some ⟨bx,0,none⟩),(Ins.mk op nar reg size d src off imm).agg] w (ArSays w bx cs d (arithV op nar (s.reg d) (s.sec ⟨op,nar,reg,size,d,src,off,imm⟩)).1 (arithV op nar (s.reg d) (s.sec ⟨op,nar,reg,size,d,src,off,imm⟩)).2):=by
  intro bx cs w hl hr hl2 hw
  have hu:RegC cs d (s.reg d):=by
   rw [s.reg_get d (by omega)]
   exact hr d hd' hl2
  generalize s.reg d = A at ha hu ⊢
  have hsc:=fun w' h'=>sec_call (s:=s) ⟨op,nar,reg,size,d,src,off,imm⟩ hsr bx cs hl2 hr w' h'
  simp only at hsc
  generalize s.sec ⟨op,nar,reg,size,d,src,off,imm⟩ = B at hb hsc ⊢
  exact arith_walk op nar reg size src off imm d hd' bx cs hl A.k A.t A.o A.x B.k B.t B.o B.x hu hsc _ _ _ _ _ _ _ _ _ _
   (by by_cases h : op = 14
       ·exact Or.inl ⟨h,if_pos h,if_pos h,if_pos h,if_pos h⟩
       ·exact Or.inr ⟨h,if_neg h,if_neg h,if_neg h,if_neg h⟩)
   (by by_cases h : op = 15
       ·exact Or.inl ⟨h,if_pos h,if_pos h,if_pos h,if_pos h⟩
       ·exact Or.inr ⟨h,if_neg h,if_neg h,if_neg h,if_neg h⟩)
   (amode_of fx op nar A B hop ha hb) w hw
 unfold arithD setOr
 simp only
 by_cases hg:(arithV op nar (s.reg d) (s.sec ⟨op,nar,reg,size,d,src,off,imm⟩)).2 = 0
 ·rw [if_pos hg,hg]
  refine do_set d hd' _ fun bx cs w hl hr hl2 hw=>(key bx cs w hl hr hl2 hw).mono fun e w' hh=>?_
  rcases hh with ⟨_,h⟩ | ⟨h,_⟩
  ·exact h
  ·exact absurd hg h
 ·rw [if_neg hg]
  refine do_same fun bx cs w hl hr hl2 hw=>(key bx cs w hl hr hl2 hw).mono fun e w' hh=>?_
  rcases hh with ⟨h,_⟩ | ⟨_,h⟩
  ·exact absurd h hg
  ·exact h
theorem do_leapD (fx:Mfix) (s:Mst) (i:Ins) (hop:i.op = 26):DoR (doerF i.op) fx s i (leapD s i).by' (leapD s i).er (leapD s i).s:=by
 obtain ⟨op,nar,reg,size,dst,src,off,imm⟩:=i
 simp only at hop
 subst hop
 exact do_same fun bx cs w hl hr hl2 hw=>leap_of 26 nar reg size dst src off imm bx cs w hw
theorem do_leaveD (fx:Mfix) (s:Mst) (i:Ins) (hop:39 <= i.op):DoR (doerF i.op) fx s i (leaveD s).by' (leaveD s).er (leaveD s).s:=by
 obtain ⟨op,nar,reg,size,dst,src,off,imm⟩:=i
 simp only at hop
 have hF:doerF op = 76:=by
  unfold doerF
  rw [if_neg (by omega),if_neg (by omega),if_neg (by omega),if_neg (by omega),if_neg (by omega),if_neg (by omega),if_neg (by omega),if_neg (by omega),if_neg (by omega)]
 rw [hF]
 have key:∀ (bx:Nat) (cs:List Value) (w:World),cs.length = 471->(∀ r (hr:r < 11) (hl:s.rg.length = 11),RegC cs r (s.rg[r]'(by rw [hl];exact hr)))->s.rg.length = 11->Row w bx 99 cs ->
  Calls Tryz.prog 76 #[.pointer (some ⟨bx,0,none⟩),(Ins.mk op nar reg size dst src off imm).agg] w (fun e w'=>if (s.reg 0).k = 1 then Wrote w bx (cs.set 470 (.bool true)) 0 0 e w' else Wrote w bx cs 0 86 e w'):=by
  intro bx cs w hl hr hl2 hw
  have hu:RegC cs 0 (s.reg 0):=by
   rw [show s.reg 0 = s.rg[0]'(by omega) from s.reg_get 0 (by omega)]
   exact hr 0 (by decide) hl2
  exact leave_of op nar reg size dst src off imm bx cs hl _ hu w hw
 unfold leaveD trapD
 by_cases hk:(s.reg 0).k = 1
 ·rw [if_pos hk]
  exact do_done fun bx cs w hl hr hl2 hw=>(key bx cs w hl hr hl2 hw).mono fun e w' hh=>by rw [if_pos hk] at hh;exact hh
 ·rw [if_neg hk]
  exact do_same fun bx cs w hl hr hl2 hw=>(key bx cs w hl hr hl2 hw).mono fun e w' hh=>by rw [if_neg hk] at hh;exact hh
theorem do_wideD (fx:Mfix) (s:Mst) (i:Ins) (hop:i.op = 20) (hd:0 <= i.dst/\i.dst < 11):DoR (doerF i.op) fx s i (constD s i).by' (constD s i).er (constD s i).s:=by
 obtain ⟨op,nar,reg,size,dst,src,off,imm⟩:=i
 simp only at hop hd
 subst hop
 obtain ⟨d,rfl⟩:∃ d:Nat,dst = d:=⟨dst.toNat,by omega⟩
 have hd':d < 11:=by omega
 exact do_set d hd' (nval imm) fun bx cs w hl hr hl2 h=>constant_wide nar reg size src off imm d hd' bx cs w hl h
structure Keeps (s:Mst) (r:Did):Prop where
 at':r.s.at' = s.at'
 steps:r.s.steps = s.steps
 done:r.s.done = s.done
 trap:r.er ≠ 0->r.s = s
theorem keeps_setOr (s:Mst) (d:Int) (r:Val × Int):Keeps s (setOr s d r):=by
 unfold setOr
 by_cases h:r.2 = 0
 ·rw [if_pos h];exact ⟨rfl,rfl,rfl,fun hc=>absurd h hc⟩
 ·rw [if_neg h];exact ⟨rfl,rfl,rfl,fun _=>rfl⟩
theorem keeps_trap (s:Mst) (e:Int):Keeps s (trapD s e):=⟨rfl,rfl,rfl,fun _=>rfl⟩
theorem keeps_ok {s s1:Mst} (b:Int) (h:s1.at' = s.at'/\s1.steps = s.steps/\s1.done = s.done):Keeps s ⟨b,0,s1⟩:=⟨h.1,h.2.1,h.2.2,fun h=>absurd rfl h⟩
theorem write_keeps (fx:Mfix) (s:Mst) (v:Val) (a:Int) (b:List Int):(writeF fx s v a b).at' = s.at'/\(writeF fx s v a b).steps = s.steps/\(writeF fx s v a b).done = s.done:=by
 unfold writeF
 split
 ·exact ⟨rfl,rfl,rfl⟩
 ·split <;> exact ⟨rfl,rfl,rfl⟩
theorem keeps_load (fx:Mfix) (s:Mst) (i:Ins):Keeps s (loadD fx s i):=by
 unfold loadD
 dsimp only
 split
 ·exact keeps_trap _ _
 ·split
  ·exact keeps_trap _ _
  ·split
   ·exact keeps_ok 0 ⟨rfl,rfl,rfl⟩
   ·exact keeps_setOr _ _ _
theorem keeps_store (fx:Mfix) (s:Mst) (i:Ins):Keeps s (storeD fx s i):=by
 unfold storeD
 dsimp only
 split
 ·exact keeps_trap _ _
 ·split
  ·exact keeps_trap _ _
  ·split
   ·exact keeps_trap _ _
   ·split
    ·exact keeps_ok 0 (write_keeps _ _ _ _ _)
    ·split
     ·exact keeps_trap _ _
     ·exact keeps_ok 0 ⟨rfl,rfl,rfl⟩
theorem keeps_atom (fx:Mfix) (s:Mst) (i:Ins):Keeps s (atomD fx s i):=by
 unfold atomD
 dsimp only
 split
 ·exact keeps_trap _ _
 ·split
  ·exact keeps_trap _ _
  ·split
   ·exact keeps_trap _ _
   ·split
    ·exact keeps_trap _ _
    ·split
     ·exact keeps_ok 0 (write_keeps _ _ _ _ _)
     ·split
      ·exact keeps_ok 0 (write_keeps _ _ _ _ _)
      ·exact keeps_ok 0 (write_keeps _ _ _ _ _)
theorem keeps_call (fx:Mfix) (s:Mst) (i:Ins):Keeps s (callD fx s i):=by
 unfold callD
 by_cases h0:i.imm < 1\/8 < i.imm
 ·rw [if_pos h0];exact keeps_trap _ _
 rw [if_neg h0]
 by_cases hA:askedF fx s i.imm = false
 ·rw [if_pos hA];exact keeps_trap _ _
 rw [if_neg hA]
 by_cases h1:i.imm = 1
 ·rw [if_pos h1];exact keeps_ok 0 ⟨rfl,rfl,rfl⟩
 rw [if_neg h1]
 by_cases h2:i.imm = 2
 ·rw [if_pos h2];exact keeps_ok 0 (write_keeps fx s (s.reg 1) (s.reg 1).x (bytesF fx s 2 3))
 rw [if_neg h2]
 by_cases h3:i.imm = 3
 ·rw [if_pos h3];exact keeps_ok 0 (write_keeps fx s (s.reg 1) (s.reg 1).x (List.replicate (s.reg 3).x.toNat ((s.reg 2).x % 256)))
 rw [if_neg h3]
 by_cases h4:i.imm = 4
 ·rw [if_pos h4];exact keeps_ok 0 ⟨rfl,rfl,rfl⟩
 rw [if_neg h4]
 by_cases h5:i.imm = 5
 ·rw [if_pos h5];exact keeps_ok 0 ⟨rfl,rfl,rfl⟩
 rw [if_neg h5]
 by_cases h6:i.imm = 6
 ·rw [if_pos h6]
  by_cases h:64 <= s.sent.length
  ·rw [if_pos h];exact keeps_ok 0 ⟨rfl,rfl,rfl⟩
  ·rw [if_neg h];exact keeps_ok 0 ⟨rfl,rfl,rfl⟩
 rw [if_neg h6]
 by_cases h7:i.imm = 7
 ·rw [if_pos h7]
  by_cases h:(s.reg 1).x < 0\/(fx.tabs.length:Int) <= (s.reg 1).x
  ·rw [if_pos h];exact keeps_trap _ _
  ·rw [if_neg h];exact keeps_ok 0 ⟨rfl,rfl,rfl⟩
 rw [if_neg h7];exact keeps_ok 0 ⟨rfl,rfl,rfl⟩
theorem call_by (fx:Mfix) (s:Mst) (i:Ins):(callD fx s i).by' = 0:=by
 unfold callD
 by_cases h0:i.imm < 1\/8 < i.imm
 ·rw [if_pos h0];rfl
 rw [if_neg h0]
 by_cases hA:askedF fx s i.imm = false
 ·rw [if_pos hA];rfl
 rw [if_neg hA]
 by_cases h1:i.imm = 1
 ·rw [if_pos h1]
 rw [if_neg h1]
 by_cases h2:i.imm = 2
 ·rw [if_pos h2]
 rw [if_neg h2]
 by_cases h3:i.imm = 3
 ·rw [if_pos h3]
 rw [if_neg h3]
 by_cases h4:i.imm = 4
 ·rw [if_pos h4]
 rw [if_neg h4]
 by_cases h5:i.imm = 5
 ·rw [if_pos h5]
 rw [if_neg h5]
 by_cases h6:i.imm = 6
 ·rw [if_pos h6]
  by_cases h:64 <= s.sent.length
  ·rw [if_pos h]
  ·rw [if_neg h]
 rw [if_neg h6]
 by_cases h7:i.imm = 7
 ·rw [if_pos h7]
  by_cases h:(s.reg 1).x < 0\/(fx.tabs.length:Int) <= (s.reg 1).x
  ·rw [if_pos h];rfl
  ·rw [if_neg h]
 rw [if_neg h7]
theorem doF_keeps (fx:Mfix) (s:Mst) (i:Ins) (h:i.op < 39):Keeps s (doF fx s i):=by
 unfold doF
 split
 ·exact keeps_setOr _ _ _
 ·split
  ·exact keeps_setOr _ _ _
  ·split
   ·exact keeps_setOr _ _ _
   ·split
    ·exact keeps_load _ _ _
    ·split
     ·exact keeps_store _ _ _
     ·split
      ·exact keeps_atom _ _ _
      ·split
       ·exact keeps_ok _ ⟨rfl,rfl,rfl⟩
       ·split
        ·exact ⟨rfl,rfl,rfl,fun _=>rfl⟩
        ·split
         ·exact keeps_call _ _ _
         ·omega
theorem doF_by (fx:Mfix) (s:Mst) (i:Ins) (h:i.op < 26\/37 < i.op):(doF fx s i).by' = 0:=by
 unfold doF
 split
 ·rfl
 ·split
  ·rfl
  ·split
   ·rfl
   ·split
    ·unfold loadD;dsimp only;repeat' split
     all_goals rfl
    ·split
     ·unfold storeD;dsimp only;repeat' split
      all_goals rfl
     ·split
      ·unfold atomD;dsimp only;repeat' split
       all_goals rfl
      ·split
       ·omega
       ·split
        ·omega
        ·split
         ·exact call_by fx s i
         ·unfold leaveD;split <;> rfl
theorem doF_jump (fx:Mfix) (s:Mst) (i:Ins) (h:26 <= i.op/\i.op <= 37):(doF fx s i).s = s:=by
 unfold doF
 rw [if_neg (by omega),if_neg (by omega),if_neg (by omega),if_neg (by omega),if_neg (by omega),if_neg (by omega)]
 split
 ·rfl
 ·rw [if_pos (by omega)];rfl
theorem doF_leave (fx:Mfix) (s:Mst) (i:Ins) (h:i.op = 39):doF fx s i = leaveD s:=by
 unfold doF
 rw [if_neg (by omega),if_neg (by omega),if_neg (by omega),if_neg (by omega),if_neg (by omega),if_neg (by omega),if_neg (by omega),if_neg (by omega),if_neg (by omega)]
theorem where_some {code:List Ins} {u:Int} {j:Nat} (h:whereF code u = some j):j < code.length/\(unitAt code j:Int) = u:=by
 unfold whereF at h
 have h1:=List.mem_of_find?_eq_some h
 have h2:=List.find?_some h
 exact ⟨List.mem_range.1 h1,eq_of_beq h2⟩
theorem where_none {code:List Ins} {u:Int} (h:whereF code u = none):∀ j < code.length,(unitAt code j:Int) ≠ u:=by
 unfold whereF at h
 intro j hj hc
 have:=List.find?_eq_none.1 h j (List.mem_range.2 hj)
 rw [hc] at this
 exact this (beq_self_eq_true u)
theorem step_F (fx:Mfix) (s:Mst) (i:Ins) (hi:fx.code[s.at']? = some i) (hd:s.done = false) (hlen:fx.code.length <= 4096)
 (hgo:(26 <= i.op/\i.op <= 37)\/i.op = 39\/s.at' + 1 ≠ fx.code.length) (hop:i.op <= 39) (hst:0 <= s.steps/\s.steps < 4611686018427387904)
 (hby : -4611686018427387904 <= (doF fx s i).by'/\(doF fx s i).by' <= 4611686018427387904)
 (hdo:DoR (doerF i.op) fx s i (doF fx s i).by' (doF fx s i).er (doF fx s i).s):StepR fx s (stepF fx s).1 (stepF fx s).2:=by
 have hk:s.at' < fx.code.length:=by
  by_cases h:s.at' < fx.code.length
  ·exact h
  ·rw [List.getElem?_eq_none (by omega)] at hi;cases hi
 have hi':fx.code[s.at'] = ⟨i.op,i.nar,i.reg,i.size,i.dst,i.src,i.off,i.imm⟩:=by
  rw [List.getElem?_eq_getElem hk] at hi
  exact Option.some.inj hi
 have hg:fx.code.getD s.at' ⟨0,false,false,0,0,0,0,0⟩ = i:=by rw [List.getD_eq_getElem?_getD,hi];rfl
 have keep:(doF fx s i).s.at' = s.at'/\(doF fx s i).s.steps = s.steps/\((doF fx s i).er ≠ 0->(doF fx s i).s = s)/\((doF fx s i).er = 0->(doF fx s i).s.done = decide (i.op = 39)):=by
  by_cases h39:i.op = 39
  ·rw [doF_leave fx s i h39]
   unfold leaveD trapD
   split
   ·exact ⟨rfl,rfl,fun h=>absurd rfl h,fun _=>by rw [decide_eq_true h39]⟩
   ·exact ⟨rfl,rfl,fun _=>rfl,fun h=>absurd (show (86:Int) = 0 from h) (by decide)⟩
  ·have K:=doF_keeps fx s i (by omega)
   exact ⟨K.at',K.steps,K.trap,fun _=>by rw [K.done,hd,decide_eq_false h39]⟩
 obtain ⟨k1,k2,k3,k4⟩:=keep
 refine step_of fx s s.at' hk rfl hd i.op i.nar i.reg i.size i.dst i.src i.off i.imm hi' hlen (doF fx s i).by' (doF fx s i).er (doF fx s i).s hdo hgo k1 (by rw [k2];exact hst) hby _ _ ?_
 unfold stepF
 rw [if_neg (by rw [hd];decide)]
 simp only [hg]
 by_cases he:(doF fx s i).er = 0
 ·rw [if_neg (fun h=>h he)]
  by_cases h39:i.op = 39
  ·rw [if_pos h39]
   exact Or.inr (Or.inl ⟨he,by rw [k4 he,decide_eq_true h39],rfl,rfl⟩)
  ·rw [if_neg h39]
   have hdn:(doF fx s i).s.done = false:=by rw [k4 he,decide_eq_false h39]
   cases hw:whereF fx.code ((unitAt fx.code (s.at' + 1):Int) + (doF fx s i).by') with
   | some j =>
     obtain ⟨j1,j2⟩:=where_some hw
     exact Or.inr (Or.inr (Or.inl ⟨he,hdn,j,j1,j2,rfl,rfl⟩))
   | none =>
     have hn:=where_none hw
     refine Or.inr (Or.inr (Or.inr ⟨he,hdn,hn,?_,rfl⟩))
     by_cases hj:26 <= i.op/\i.op <= 37
     ·exact (doF_jump fx s i hj).symm
     ·exfalso
      have hb:=doF_by fx s i (by omega)
      rw [hb] at hn
      exact hn (s.at' + 1) (by rcases hgo with h | h | h;exact absurd h hj;exact absurd h h39;omega) (by omega)
 ·rw [if_pos he]
  exact Or.inl ⟨he,(k3 he).symm,rfl⟩
theorem Runs.stepF {fx:Mfix} {s s1 s2:Mst} {n:Nat} {er:Int} (hd:s.done = false) (hR:StepR fx s (Proofs.YtdepknffpnnmmaaGreat.stepF fx s).1 (Proofs.YtdepknffpnnmmaaGreat.stepF fx s).2) (he:Proofs.YtdepknffpnnmmaaGreat.stepF fx s = (0,s1)) (h:Runs fx s1 n er s2):Runs fx s (n + 1) er s2:=by
 rw [he] at hR
 exact Runs.step s s1 s2 n er hd hR h
structure InsOK (fx:Mfix) (i:Ins):Prop where
 op:1 <= i.op/\i.op <= 39
 dst:0 <= i.dst/\i.dst < 11
 src:0 <= i.src/\i.src < 11
 off : -32768 <= i.off/\i.off <= 32767
 imm:i64r i.imm
 imm32:i.op ≠ 20->-2147483648 <= i.imm/\i.imm <= 2147483647
 data:i.op = 21->0 <= i.imm/\i.imm <= fx.data.length
 ls:i.op = 22\/i.op = 24->i.size = 1\/i.size = 2\/i.size = 4\/i.size = 8
 lds:i.op = 23->i.size = 1\/i.size = 2\/i.size = 4
 atom:i.op = 25->(i.size = 4\/i.size = 8)/\atomicv i.imm = true
theorem isReg_range {n:Int} {wr:Bool} (h:isRegv n wr = true):0 <= n/\n < 11:=by
 unfold isRegv at h
 simp only [Bool.and_eq_true,decide_eq_true_eq] at h
 omega
theorem insOK_of_right (fx:Mfix) (i:Ins) (h:i.right = 0) (him:i64r i.imm) (hd:i.op = 21->i.imm <= fx.data.length):InsOK fx i:=by
 obtain ⟨op,nar,reg,size,dst,src,off,imm⟩:=i
 unfold Ins.right rightc at h
 simp only at h him hd
 by_cases h1:formedv op nar reg size = false
 ·rw [if_pos h1] at h;exact absurd h (by decide)
 rw [if_neg h1] at h
 by_cases h2:usesD op = true/\isRegv dst (writesDstv op) = false\/usesS op reg = true/\isRegv src (writesSrcv op imm) = false
 ·rw [if_pos h2] at h;exact absurd h (by decide)
 rw [if_neg h2] at h
 by_cases h3:usesD op = false/\dst ≠ 0\/usesS op reg = false/\src ≠ 0\/usesO op nar = false/\off ≠ 0\/off < -32768\/32768 <= off
 ·rw [if_pos h3] at h;exact absurd h (by decide)
 rw [if_neg h3] at h
 by_cases h4:usesI op nar reg = false/\imm ≠ 0\/usesI op nar reg = true/\immFitsv op nar imm = false
 ·rw [if_pos h4] at h;exact absurd h (by decide)
 have h1':formedv op nar reg size = true:=by simpa using h1
 have hop:1 <= op/\op <= 39:=by
  unfold formedv at h1'
  by_cases hc:op < 1\/39 < op
  ·rw [if_pos hc] at h1';cases h1'
  ·omega
 have hfits:immFitsv op nar imm = true->op ≠ 20->(-2147483648 <= imm/\imm <= 2147483647)/\(op = 25->atomicv imm = true)/\(op = 21->0 <= imm):=by
  intro hf hn
  unfold immFitsv at hf
  rw [if_neg hn] at hf
  by_cases hc:imm < -2147483648\/2147483647 < imm
  ·rw [if_pos hc] at hf;cases hf
  rw [if_neg hc] at hf
  refine ⟨by omega,fun h5=>?_,fun h5=>?_⟩
  ·subst h5
   simpa using hf
  ·subst h5
   simpa using hf
 have hI:∀ p:Prop,(usesI op nar reg = false->imm = 0->p)->(usesI op nar reg = true->immFitsv op nar imm = true->p)->p:=by
  intro p q1 q2
  cases hu:usesI op nar reg with
  | false =>
    refine q1 hu ?_
    by_cases hz:imm = 0
    ·exact hz
    ·exact absurd (Or.inl ⟨hu,hz⟩) h4
  | true =>
    refine q2 hu ?_
    cases hf:immFitsv op nar imm with
    | true=>rfl
    | false=>exact absurd (Or.inr ⟨hu,hf⟩) h4
 have hsz:op ≠ 16->sizesv op size = true:=by
  intro hn
  unfold formedv at h1'
  rw [if_neg (by omega),if_neg hn] at h1'
  simp only [Bool.and_eq_true] at h1'
  exact h1'.1.1
 refine ⟨hop,?_,?_,?_,him,?_,?_,?_,?_,?_⟩
 ·show 0 <= dst/\dst < 11
  cases hu:usesD op with
  | false =>
    by_cases hz:dst = 0
    ·omega
    ·exact absurd (Or.inl ⟨hu,hz⟩) h3
  | true =>
    cases hr:isRegv dst (writesDstv op) with
    | true=>exact isReg_range hr
    | false=>exact absurd (Or.inl ⟨hu,hr⟩) h2
 ·show 0 <= src/\src < 11
  cases hu:usesS op reg with
  | false =>
    by_cases hz:src = 0
    ·omega
    ·exact absurd (Or.inr (Or.inl ⟨hu,hz⟩)) h3
  | true =>
    cases hr:isRegv src (writesSrcv op imm) with
    | true=>exact isReg_range hr
    | false=>exact absurd (Or.inr ⟨hu,hr⟩) h2
 ·show -32768 <= off/\off <= 32767
  by_cases hc:off < -32768\/32768 <= off
  ·exact absurd (Or.inr (Or.inr (Or.inr hc))) h3
  ·omega
 ·intro hn
  exact hI _ (fun _ hz=>by show _ <= imm/\imm <= _;omega) (fun _ hf=>(hfits hf hn).1)
 ·intro h21
  simp only at h21
  refine ⟨?_,hd h21⟩
  exact hI _ (fun _ hz=>by show 0 <= imm;omega) (fun _ hf=>(hfits hf (by omega)).2.2 h21)
 ·intro hc
  have:=hsz (by simp only at hc;omega)
  unfold sizesv at this
  simp only at hc ⊢
  rw [if_neg (by omega),if_pos hc] at this
  simpa [or_assoc] using this
 ·intro hc
  have:=hsz (by simp only at hc;omega)
  unfold sizesv at this
  simp only at hc ⊢
  rw [if_neg (by omega),if_neg (by omega),if_pos hc] at this
  simpa [or_assoc] using this
 ·intro hc
  have:=hsz (by simp only at hc;omega)
  unfold sizesv at this
  simp only at hc ⊢
  rw [if_neg (by omega),if_neg (by omega),if_neg (by omega),if_pos hc] at this
  refine ⟨by simpa using this,?_⟩
  exact hI _ (fun hu hz=>by
   subst hc
   simp [usesI] at hu) (fun _ hf=>(hfits hf (by omega)).2.1 hc)
structure Good (fx:Mfix) (s:Mst):Prop where
 mem:MemOK fx s
 regs:RegsOK fx s
 slots:SlotsOK s.sl
 ptrs:∀ x ∈ s.sl,x.p.k ≠ 0->PtrOK fx x.p
 sent:s.sent.length <= 64/\∀ x ∈ s.sent,i64r x
theorem PtrOK.reg {fx:Mfix} {p:Val} (h:PtrOK fx p):RegOK fx p:=⟨by have:=h.kind;omega,by have:=h.off;unfold i64r;omega,fun _=>h⟩
theorem MemOK.regs' {fx:Mfix} {s:Mst} (h:MemOK fx s) (rg:List Val):MemOK fx { s with rg:=rg }:=⟨h.slots,h.ctx,h.ctxl,h.data,h.datal,h.rowsl,h.tabs,h.rows⟩
theorem Good.setr {fx:Mfix} {s:Mst} (h:Good fx s) (d:Int) (v:Val) (hv:RegOK fx v):Good fx (s.setr d v):=
 ⟨h.mem.regs' _,⟨by show (s.rg.set _ _).length = 11;rw [List.length_set];exact h.regs.1,fun u hu=>by
  rcases List.mem_or_eq_of_mem_set hu with h' | h'
  ·exact h.regs.2 u h'
  ·rw [h'];exact hv⟩,h.slots,h.ptrs,h.sent⟩
theorem Good.setOr {fx:Mfix} {s:Mst} (h:Good fx s) (d:Int) (r:Val × Int) (hv:r.2 = 0->RegOK fx r.1):Good fx (Proofs.YtdepknffpnnmmaaGreat.setOr s d r).s:=by
 unfold Proofs.YtdepknffpnnmmaaGreat.setOr
 by_cases hr:r.2 = 0
 ·rw [if_pos hr];exact h.setr d _ (hv hr)
 ·rw [if_neg hr];exact h
theorem moved_ok {fx:Mfix} {v:Val} {n:Int} (hv:PtrOK fx v) (h:(movedF v n).2 = 0):RegOK fx (movedF v n).1:=by
 unfold movedF at h ⊢
 by_cases hc:n < -2097152\/2097152 < n\/v.x + n < -1048576\/1048576 < v.x + n
 ·rw [if_pos hc] at h;exact absurd (show (85:Int) = 0 from h) (by decide)
 ·rw [if_neg hc]
  exact PtrOK.reg ⟨hv.kind,by show -1048576 <= v.x + n/\v.x + n <= 1048576;omega,hv.row⟩
theorem sum_ok {fx:Mfix} {op:Int} {a b:Val} (ha:RegOK fx a) (hb:RegOK fx b) (h:(sumF op a b).2 = 0):RegOK fx (sumF op a b).1:=by
 unfold sumF at h ⊢
 by_cases h1:op = 1/\2 <= a.k/\b.k = 1
 ·rw [if_pos h1] at h ⊢;exact moved_ok (ha.ptr h1.2.1) h
 rw [if_neg h1] at h ⊢
 by_cases h2:op = 1/\a.k = 1/\2 <= b.k
 ·rw [if_pos h2] at h ⊢;exact moved_ok (hb.ptr h2.2.2) h
 rw [if_neg h2] at h ⊢
 by_cases h3:op = 2/\2 <= a.k/\b.k = 1
 ·rw [if_pos h3] at h ⊢
  by_cases h4:b.x < -2097152
  ·rw [if_pos h4] at h;exact absurd (show (85:Int) = 0 from h) (by decide)
  ·rw [if_neg h4] at h ⊢;exact moved_ok (ha.ptr h3.2.1) h
 rw [if_neg h3] at h ⊢
 by_cases h4:op = 2/\alikeF a b = true
 ·rw [if_pos h4]
  have hal:=h4.2
  unfold alikeF at hal
  simp only [Bool.and_eq_true,decide_eq_true_eq,beq_iff_eq] at hal
  have h5:=(ha.ptr hal.1.2).off
  have h6:=(hb.ptr (by omega)).off
  exact RegOK.num fx (by unfold i64r;omega)
 ·rw [if_neg h4] at h;exact absurd (show (80:Int) = 0 from h) (by decide)
theorem arith_ok {fx:Mfix} {op:Int} {nar:Bool} {a b:Val} (hop:1 <= op/\op <= 15) (ha:RegOK fx a) (hb:RegOK fx b) (h:(arithV op nar a b).2 = 0):RegOK fx (arithV op nar a b).1:=by
 unfold arithV at h ⊢
 by_cases h1:op = 15/\nar = false/\b.k ≠ 0
 ·rw [if_pos h1];exact hb
 rw [if_neg h1] at h ⊢
 by_cases h2:(if op = 15 then 1 else a.k) = 1/\(if op = 14 then 1 else b.k) = 1
 ·rw [if_pos h2];exact RegOK.num fx (alu_gives op nar _ _ hop).2
 rw [if_neg h2] at h ⊢
 by_cases h3:nar = true\/(if op = 15 then 1 else a.k) = 0\/(if op = 14 then 1 else b.k) = 0
 ·rw [if_pos h3] at h;exact absurd (show (80:Int) = 0 from h) (by decide)
 rw [if_neg h3] at h ⊢
 refine sum_ok ?_ ?_ h
 ·split
  ·exact RegOK.num fx zero_r
  ·exact ha
 ·split
  ·exact RegOK.num fx zero_r
  ·exact hb
theorem part_ok {fx:Mfix} {i:Ins} {v:Val} (h:(partV i v).2 = 0):RegOK fx (partV i v).1:=by
 unfold partV at h ⊢
 by_cases h1:v.k ≠ 1
 ·rw [if_pos h1] at h;exact absurd (show (80:Int) = 0 from h) (by decide)
 rw [if_neg h1]
 split
 ·exact RegOK.num fx (extend_r _ _ _)
 ·exact RegOK.num fx (swap_r _ _ _)
theorem sgn_half (x q:Nat) (h:q <= 9223372036854775808) (hx:x < 2 * q):i64r (if x < q then (x:Int) else (x:Int) - ((2 * q:Nat):Int)):=by
 unfold i64r
 split <;> omega
theorem pow_half (n:Nat) (hn:1 <= n):(2:Nat) ^ n = 2 * 2 ^ (n - 1):=by
 obtain ⟨m,rfl⟩:∃ m,n = m + 1:=⟨n - 1,by omega⟩
 rw [Nat.pow_succ,Nat.add_sub_cancel,Nat.mul_comm]
theorem sgn_r (n x:Nat) (hn:1 <= n/\n <= 64) (hx:x < 2 ^ n):i64r (sgn n x):=by
 have h2:(2:Nat) ^ (n - 1) <= 2 ^ 63:=Nat.pow_le_pow_right (by decide) (by omega)
 have h3:(2:Nat) ^ 63 = 9223372036854775808:=by decide
 rw [h3] at h2
 have e:=pow_half n hn.1
 have h:=sgn_half x (2 ^ (n - 1)) h2 (by rw [<- e];exact hx)
 rw [<- e] at h
 unfold sgn
 have e2:((2:Int) ^ n) = ((2 ^ n:Nat):Int):=by push_cast;rfl
 rw [e2]
 exact h
theorem getv_r {xs:List Int} (h:IsBytes xs) (sg:Bool):i64r (getv sg xs):=by
 unfold getv
 split
 ·exact zero_r
 ·rename_i hc
  cases sg with
  | false=>rw [if_neg Bool.false_ne_true];exact wrap64_r _
  | true =>
    rw [if_pos rfl]
    have hl:1 <= xs.length/\xs.length <= 8:=by
     refine ⟨?_,by omega⟩
     cases xs with
     | nil=>exact absurd (Or.inl rfl) hc
     | cons x r=>simp
    refine sgn_r _ _ (by omega) ?_
    have:=num_lt h
    rwa [pow256] at this
theorem slotF_mem (sl:List Slot) (i:Nat):slotF sl i ∈ sl\/slotF sl i = noslot:=by
 unfold slotF
 by_cases hi:i / 8 < sl.length
 ·left;rw [show sl.getD (i / 8) noslot = sl[i / 8] by simp [List.getD,hi]];exact List.getElem_mem hi
 ·right;simp [List.getD,hi]
theorem load_ok {fx:Mfix} {s:Mst} (h:Good fx s) (i:Ins):Good fx (loadD fx s i).s:=by
 unfold loadD
 dsimp only
 split
 ·exact h
 ·split
  ·exact h
  ·split
   ·rename_i hc
    refine h.setr _ _ ?_
    rcases slotF_mem s.sl ((s.reg i.src).x + i.off).toNat with hm | hm
    ·exact (h.ptrs _ hm (by omega)).reg
    ·rw [hm];exact RegOK.none fx
   ·exact h.setOr _ _ fun _=>RegOK.num fx (getv_r (readF_bytes h.mem _ _ _) _)
theorem wr1_ok {fx:Mfix} {sl:List Slot} (hs:SlotsOK sl) (hb:∀ x ∈ sl,IsBytes x.b/\0 <= x.m/\x.m <= 255) (hp:∀ x ∈ sl,x.p.k ≠ 0->PtrOK fx x.p) (i:Nat) (c:Int) (hc:0 <= c/\c <= 255) :
 SlotsOK (wr1 sl i c)/\(∀ x ∈ wr1 sl i c,IsBytes x.b/\0 <= x.m/\x.m <= 255)/\(∀ x ∈ wr1 sl i c,x.p.k ≠ 0->PtrOK fx x.p):=by
 have hmask:=wr1_mask (fun y hy=>(hb y hy).2) i c
 have hY:∀ x ∈ wr1 sl i c,x ∈ sl\/(x.p.k = 0\/x.p = (slotF sl i).p/\(slotF sl i).p.k = 0)/\x.b.length = 8/\IsBytes x.b:=by
  intro x hx
  unfold wr1 at hx
  simp only at hx
  rcases List.mem_or_eq_of_mem_set hx with h' | h'
  ·exact Or.inl h'
  ·right
   rw [h']
   simp only
   have hz:∀ y:Slot,y.b.length = 8->IsBytes y.b->(y.b.set (i % 8) c).length = 8/\IsBytes (y.b.set (i % 8) c):=by
    intro y h1 h2
    refine ⟨by rw [List.length_set];exact h1,fun u hu=>?_⟩
    rcases List.mem_or_eq_of_mem_set hu with h' | h'
    ·exact h2 u h'
    ·rw [h'];exact hc
   have h0:noslot.b.length = 8/\IsBytes noslot.b:=⟨rfl,by unfold IsBytes;decide⟩
   by_cases hk:(slotF sl i).p.k ≠ 0
   ·rw [if_pos hk]
    exact ⟨Or.inl rfl,hz noslot h0.1 h0.2⟩
   ·rw [if_neg hk]
    refine ⟨Or.inr ⟨rfl,by omega⟩,?_⟩
    rcases slotF_mem sl i with hm | hm
    ·exact hz _ (hs.2 _ hm) (hb _ hm).1
    ·rw [hm];exact hz noslot h0.1 h0.2
 refine ⟨⟨?_,fun x hx=>?_⟩,fun x hx=>⟨?_,hmask x hx⟩,fun x hx hk=>?_⟩
 ·unfold wr1
  simp only
  rw [List.length_set]
  exact hs.1
 ·rcases hY x hx with h | h
  ·exact hs.2 x h
  ·exact h.2.1
 ·rcases hY x hx with h | h
  ·exact (hb x h).1
  ·exact h.2.2
 ·rcases hY x hx with h | h
  ·exact hp x h hk
  ·rcases h.1 with h' | ⟨h1,h2⟩
   ·exact absurd h' hk
   ·rw [h1] at hk;exact absurd h2 hk
theorem wrF_ok {fx:Mfix}:∀ (b:List Int) (sl:List Slot) (a:Nat),IsBytes b->SlotsOK sl->(∀ x ∈ sl,IsBytes x.b/\0 <= x.m/\x.m <= 255)->(∀ x ∈ sl,x.p.k ≠ 0->PtrOK fx x.p) ->
 SlotsOK (wrF sl a b)/\(∀ x ∈ wrF sl a b,IsBytes x.b/\0 <= x.m/\x.m <= 255)/\(∀ x ∈ wrF sl a b,x.p.k ≠ 0->PtrOK fx x.p)
 | [],sl,a,_,h1,h2,h3=>⟨h1,h2,h3⟩
 | c :: b, sl, a, hb, h1, h2, h3 => by
   obtain ⟨q1,q2,q3⟩:=wr1_ok h1 h2 h3 a c (hb c (by simp))
   exact wrF_ok b (wr1 sl a c) (a + 1) (fun x hx=>hb x (by simp [hx])) q1 q2 q3
theorem over_len (xs:List Int) (a:Nat) (b:List Int) (h:a + b.length <= xs.length):(overF xs a b).length = xs.length:=by
 unfold overF
 simp only [List.length_append,List.length_take,List.length_drop]
 omega
theorem over_bytes {xs:List Int} (hx:IsBytes xs) (a:Nat) {b:List Int} (hb:IsBytes b):IsBytes (overF xs a b):=by
 unfold overF
 exact ((hx.take a).append hb).append (fun x h=>hx x (List.mem_of_mem_drop h))
theorem write_ok {fx:Mfix} {s:Mst} (h:Good fx s) (p:Val) (hp:PtrOK fx p) (hk4:p.k ≠ 4) (a:Int) (b:List Int) (hb:IsBytes b) (hin:withinF fx s p a b.length = true):Good fx (writeF fx s p a b):=by
 have hw:=within_nat hin
 unfold lenF at hw
 unfold writeF
 by_cases h2:p.k = 2
 ·rw [if_pos h2]
  obtain ⟨q1,q2,q3⟩:=wrF_ok b s.sl a.toNat hb h.slots h.mem.slots h.ptrs
  exact ⟨⟨q2,h.mem.ctx,h.mem.ctxl,h.mem.data,h.mem.datal,h.mem.rowsl,h.mem.tabs,h.mem.rows⟩,h.regs,q1,q3,h.sent⟩
 ·rw [if_neg h2] at hw ⊢
  by_cases h3:p.k = 3
  ·rw [if_pos h3] at hw ⊢
   have hl:=over_len s.ctx a.toNat b (by omega)
   exact ⟨⟨h.mem.slots,over_bytes h.mem.ctx _ hb,by show (overF s.ctx a.toNat b).length <= 65535;rw [hl];exact h.mem.ctxl,h.mem.data,h.mem.datal,h.mem.rowsl,h.mem.tabs,h.mem.rows⟩,h.regs,h.slots,h.ptrs,h.sent⟩
  ·rw [if_neg h3,if_neg hk4] at hw
   rw [if_neg h3]
   have hk:=hp.kind
   obtain ⟨r1,r2,r3,r4⟩:=hp.row (by omega)
   obtain ⟨tn,htn⟩:∃ q:Nat,p.t = q:=⟨p.t.toNat,by omega⟩
   obtain ⟨on,hon⟩:∃ q:Nat,p.o = q:=⟨p.o.toNat,by omega⟩
   obtain ⟨an,rfl⟩:∃ q:Nat,a = q:=⟨a.toNat,by omega⟩
   rw [htn] at r2 r4 hw
   rw [hon] at r4
   simp only [Int.toNat_natCast] at r4 hw
   have htl:tn < fx.tabs.length:=by omega
   have hrl:tn < s.rows.length:=by rw [h.mem.rowsl];exact htl
   obtain ⟨q1,q2,q3,q4⟩:=h.mem.tabs tn htl
   obtain ⟨hbr,hlen⟩:=h.mem.rows tn hrl
   obtain ⟨wd,hwd⟩:∃ q:Nat,(fx.tabs.getD tn (0,0)).2 = q:=⟨(fx.tabs.getD tn (0,0)).2.toNat,by omega⟩
   obtain ⟨rw',hrw⟩:∃ q:Nat,(fx.tabs.getD tn (0,0)).1 = q:=⟨(fx.tabs.getD tn (0,0)).1.toNat,by omega⟩
   rw [hwd] at hw q3 q4
   rw [hrw] at r4 q1 q2
   have hlen':=hlen
   rw [hwd,hrw] at hlen
   have hL:s.rows[tn].length = rw' * wd:=by
    have:((s.rows[tn].length:Nat):Int) = ((rw' * wd:Nat):Int):=by rw [hlen];push_cast;rfl
    exact_mod_cast this
   have hmul:(on + 1) * wd <= rw' * wd:=Nat.mul_le_mul_right _ (by omega)
   have hmul3:(on + 1) * wd = on * wd + wd:=Nat.succ_mul on wd
   have hfr:fromF fx p an = on * wd + an:=by
    unfold fromF
    rw [htn,hon]
    simp only [Int.toNat_natCast]
    rw [hwd]
    have:(on:Int) * (wd:Int) + (an:Int) = ((on * wd + an:Nat):Int):=by push_cast;rfl
    rw [this,Int.toNat_natCast]
   have hro:rowOf s p = s.rows[tn]:=by unfold rowOf;rw [htn,Int.toNat_natCast];simp [List.getD,hrl]
   rw [hfr,hro,htn,Int.toNat_natCast]
   have hol:=over_len s.rows[tn] (on * wd + an) b (by omega)
   refine ⟨⟨h.mem.slots,h.mem.ctx,h.mem.ctxl,h.mem.data,h.mem.datal,by show (s.rows.set _ _).length = _;rw [List.length_set];exact h.mem.rowsl,h.mem.tabs,fun k hk=>?_⟩,h.regs,h.slots,h.ptrs,h.sent⟩
   have hk':k < s.rows.length:=by simpa using hk
   show IsBytes ((s.rows.set tn (overF s.rows[tn] (on * wd + an) b))[k]'hk)/\_
   rw [List.getElem_set]
   by_cases hkt:tn = k
   ·subst hkt
    rw [if_pos rfl]
    refine ⟨over_bytes hbr _ hb,?_⟩
    rw [hol]
    exact hlen'
   ·rw [if_neg hkt]
    exact h.mem.rows k hk'
theorem store_ok {fx:Mfix} {s:Mst} (h:Good fx s) (i:Ins) (hi:InsOK fx i) (hop:i.op = 24):Good fx (storeD fx s i).s:=by
 unfold storeD
 dsimp only
 have hsz:=hi.ls (Or.inr hop)
 split
 ·exact h
 ·rename_i h1
  split
  ·exact h
  ·rename_i h2
   split
   ·exact h
   ·rename_i h3
    have hp:=(reg_ok h.regs i.dst).ptr (by omega)
    split
    ·refine write_ok h _ hp h2 _ _ (putl_bytes _ _) ?_
     rw [putl_length,show ((i.size.toNat:Nat):Int) = i.size by omega]
     simpa using h3
    ·split
     ·exact h
     ·rename_i h4 h5
      have hb:=sec_ok h.regs i hi.imm
      have hbk:2 <= (s.sec i).k:=by have:=hb.kind;omega
      have hbp:=hb.ptr hbk
      have hnew:∀ x ∈ s.sl.set (((s.reg i.dst).x + i.off).toNat / 8) ⟨s.sec i,[0,0,0,0,0,0,0,0],0⟩,x ∈ s.sl\/x = ⟨s.sec i,[0,0,0,0,0,0,0,0],0⟩:=fun x hx=>List.mem_or_eq_of_mem_set hx
      refine ⟨⟨fun x hx=>?_,h.mem.ctx,h.mem.ctxl,h.mem.data,h.mem.datal,h.mem.rowsl,h.mem.tabs,h.mem.rows⟩,h.regs,⟨by show (s.sl.set _ _).length = 32;rw [List.length_set];exact h.slots.1,fun x hx=>?_⟩,fun x hx hk=>?_,h.sent⟩
      ·rcases hnew x hx with h' | h'
       ·exact h.mem.slots x h'
       ·rw [h']
        refine ⟨fun y hy=>?_,by show (0:Int) <= 0;decide,by show (0:Int) <= 255;decide⟩
        have:y = 0:=by simpa using hy
        omega
      ·rcases hnew x hx with h' | h'
       ·exact h.slots.2 x h'
       ·rw [h'];rfl
      ·rcases hnew x hx with h' | h'
       ·exact h.ptrs x h' hk
       ·rw [h'];exact hbp
theorem atom_ok {fx:Mfix} {s:Mst} (h:Good fx s) (i:Ins) (hi:InsOK fx i) (hop:i.op = 25):Good fx (atomD fx s i).s:=by
 unfold atomD
 dsimp only
 have hsz:=(hi.atom hop).1
 split
 ·exact h
 ·rename_i h1
  split
  ·exact h
  ·rename_i h2
   split
   ·exact h
   ·rename_i h3
    split
    ·exact h
    ·have hp:=(reg_ok h.regs i.dst).ptr (by omega)
     have hG:=write_ok h (s.reg i.dst) hp h2 ((s.reg i.dst).x + i.off) (putl i.size.toNat (mixedF s i (getv false (readF fx s (s.reg i.dst) ((s.reg i.dst).x + i.off) i.size)))) (putl_bytes _ _) (by
      rw [putl_length,show ((i.size.toNat:Nat):Int) = i.size by omega]
      simpa using h3)
     have hv:RegOK fx (nval (getv false (readF fx s (s.reg i.dst) ((s.reg i.dst).x + i.off) i.size))):=RegOK.num fx (getv_r (readF_bytes h.mem _ _ _) _)
     split
     ·exact hG.setr _ _ hv
     ·split
      ·exact hG.setr _ _ hv
      ·exact hG
theorem end_ok {fx:Mfix} {s:Mst} (h:Good fx s) (v:Val) (hv:RegOK fx v):Good fx (endF s v):=by
 refine ⟨h.mem.regs' _,⟨?_,fun u hu=>?_⟩,h.slots,h.ptrs,h.sent⟩
 ·have:=h.regs.1
  unfold endF
  simp
  omega
 ·unfold endF at hu
  simp only [List.mem_cons,List.mem_append] at hu
  rcases hu with rfl | hu | hu
  ·exact hv
  ·rw [List.eq_of_mem_replicate hu];exact RegOK.none fx
  ·exact h.regs.2 u (List.mem_of_mem_drop hu)
theorem findv_rng (c:Int):∀ xs:List Int,-1 <= findv xs c/\findv xs c <= (xs.length:Int) - 1
 | []=>by show -1 <= (-1:Int)/\(-1:Int) <= _;simp
 | x :: xs => by
   have ih:=findv_rng c xs
   have e:findv (x :: xs) c = if x = c then 0 else if findv xs c = -1 then -1 else findv xs c + 1:=rfl
   rw [e,List.length_cons]
   split
   ·omega
   ·split <;> omega
theorem cmpv_rng:∀ xs ys:List Int,-1 <= cmpv xs ys/\cmpv xs ys <= 1
 | [],[]=>by decide
 | [],_ :: _=>by show -1 <= (-1:Int)/\(-1:Int) <= 1;decide
 | _ :: _,[]=>by show -1 <= (1:Int)/\(1:Int) <= 1;decide
 | x :: xs, y :: ys => by
   have ih:=cmpv_rng xs ys
   rw [show cmpv (x :: xs) (y :: ys) = if x < y then -1 else if y < x then 1 else cmpv xs ys from rfl]
   split
   ·omega
   ·split <;> omega
theorem read_len (fx:Mfix) (s:Mst) (v:Val) (a n:Int):(readF fx s v a n).length <= n.toNat:=by
 unfold readF
 split
 ·unfold stackF;simp
 ·split
  ·simp;omega
  ·split
   ·simp;omega
   ·simp;omega
theorem lens_rng {v:Val} (h:lensF v = true):0 <= v.x/\v.x <= 65535:=by
 unfold lensF at h
 simp only [Bool.and_eq_true,decide_eq_true_eq] at h
 omega
theorem piece_rng {fx:Mfix} {s:Mst} {v:Val} {n:Int} {wr:Bool} (h:pieceF fx s v n wr = true):2 <= v.k/\withinF fx s v v.x n = true/\(wr = true->v.k ≠ 4):=by
 unfold pieceF at h
 simp only [Bool.and_eq_true,decide_eq_true_eq] at h
 refine ⟨h.1.1,h.1.2,fun hw=>?_⟩
 have:=h.2
 rw [hw] at this
 simpa using this
theorem call_ok {fx:Mfix} {s:Mst} (h:Good fx s) (i:Ins):Good fx (callD fx s i).s:=by
 unfold callD
 by_cases h0:i.imm < 1\/8 < i.imm
 ·rw [if_pos h0];exact h
 rw [if_neg h0]
 by_cases hA:askedF fx s i.imm = false
 ·rw [if_pos hA];exact h
 rw [if_neg hA]
 have hA:askedF fx s i.imm = true:=by simpa using hA
 unfold askedF at hA
 by_cases h1:i.imm = 1
 ·rw [if_pos h1]
  exact end_ok h _ (RegOK.num fx (by have:=sumN_range (readF_bytes h.mem (s.reg 1) (s.reg 1).x (s.reg 2).x) (show 0 <= (s.reg 3).x % 65536/\(s.reg 3).x % 65536 <= 65535 by omega) (((readF fx s (s.reg 1) (s.reg 1).x (s.reg 2).x).length + 1) / 2);unfold i64r sumv bytesF;omega))
 rw [if_neg h1]
 by_cases h2:i.imm = 2
 ·rw [if_pos h2]
  rw [if_neg (by omega),if_pos h2] at hA
  simp only [Bool.and_eq_true] at hA
  obtain ⟨p1,p2,p3⟩:=piece_rng hA.1.2
  have hl:=lens_rng hA.1.1
  obtain ⟨q1,q2,_⟩:=piece_rng hA.2
  have hlen:=read_len fx s (s.reg 2) (s.reg 2).x (s.reg 3).x
  refine end_ok (write_ok h _ ((reg_ok h.regs 1).ptr p1) (p3 rfl) _ _ (readF_bytes h.mem _ _ _) ?_) _ (RegOK.num fx zero_r)
  obtain ⟨z1,z2⟩:=within_nat p2
  show withinF fx s (s.reg 1) (s.reg 1).x ((readF fx s (s.reg 2) (s.reg 2).x (s.reg 3).x).length:Nat) = true
  unfold withinF
  simp only [Bool.and_eq_true,decide_eq_true_eq]
  omega
 rw [if_neg h2]
 by_cases h3:i.imm = 3
 ·rw [if_pos h3]
  rw [if_neg (by omega),if_neg h2,if_pos h3] at hA
  simp only [Bool.and_eq_true] at hA
  obtain ⟨p1,p2,p3⟩:=piece_rng hA.2
  have hl:=lens_rng hA.1.2
  refine end_ok (write_ok h _ ((reg_ok h.regs 1).ptr p1) (p3 rfl) _ _ (fun x hx=>by rw [List.eq_of_mem_replicate hx];omega) ?_) _ (RegOK.num fx zero_r)
  rw [List.length_replicate,show (((s.reg 3).x.toNat:Nat):Int) = (s.reg 3).x by omega]
  exact p2
 rw [if_neg h3]
 by_cases h4:i.imm = 4
 ·rw [if_pos h4]
  exact end_ok h _ (RegOK.num fx (by have:=cmpv_rng (bytesF fx s 1 3) (bytesF fx s 2 3);unfold i64r;omega))
 rw [if_neg h4]
 by_cases h5:i.imm = 5
 ·rw [if_pos h5]
  rw [if_pos (Or.inr h5)] at hA
  simp only [Bool.and_eq_true] at hA
  have hl:=lens_rng hA.1.1
  refine end_ok h _ (RegOK.num fx ?_)
  have:=findv_rng ((s.reg 3).x % 256) (bytesF fx s 1 2)
  have hlen:=read_len fx s (s.reg 1) (s.reg 1).x (s.reg 2).x
  have hlen':(bytesF fx s 1 2).length <= (s.reg 2).x.toNat:=hlen
  unfold i64r
  omega
 rw [if_neg h5]
 by_cases h6:i.imm = 6
 ·rw [if_pos h6]
  by_cases h7:64 <= s.sent.length
  ·rw [if_pos h7];exact end_ok h _ (RegOK.num fx (by unfold i64r;omega))
  ·rw [if_neg h7]
   refine end_ok (s:={ s with sent:=s.sent ++ [(s.reg 1).x] }) ⟨⟨h.mem.slots,h.mem.ctx,h.mem.ctxl,h.mem.data,h.mem.datal,h.mem.rowsl,h.mem.tabs,h.mem.rows⟩,h.regs,h.slots,h.ptrs,⟨?_,fun x hx=>?_⟩⟩ _ (RegOK.num fx zero_r)
   ·show (s.sent ++ [(s.reg 1).x]).length <= 64
    simp
    omega
   ·rcases List.mem_append.1 hx with h' | h'
    ·exact h.sent.2 x h'
    ·have:x = (s.reg 1).x:=by simpa using h'
     rw [this]
     exact (reg_ok h.regs 1).x
 rw [if_neg h6]
 by_cases h7:i.imm = 7
 ·rw [if_pos h7]
  by_cases h9:(s.reg 1).x < 0\/(fx.tabs.length:Int) <= (s.reg 1).x
  ·rw [if_pos h9];exact h
  ·rw [if_neg h9]
   refine end_ok h _ ?_
   by_cases h8:0 <= (s.reg 2).x/\(s.reg 2).x < (fx.tabs.getD (s.reg 1).x.toNat (0,0)).1
   ·rw [if_pos h8]
    exact PtrOK.reg ⟨by show (2:Int) <= 5/\(5:Int) <= 5;decide,by show -1048576 <= (0:Int)/\(0:Int) <= 1048576;decide,fun _=>⟨by show 0 <= (s.reg 1).x;omega,by show (s.reg 1).x < _;omega,h8.1,h8.2⟩⟩
   ·rw [if_neg h8]
    exact RegOK.num fx zero_r
 rw [if_neg h7]
 exact end_ok h _ (RegOK.num fx (wrap64_r _))
theorem doF_ok {fx:Mfix} {s:Mst} (h:Good fx s) (i:Ins) (hi:InsOK fx i):Good fx (doF fx s i).s:=by
 have ho:=hi.op
 unfold doF
 split
 ·exact h.setOr _ _ fun he=>arith_ok (by omega) (reg_ok h.regs _) (sec_ok h.regs i hi.imm) he
 split
 ·exact h.setOr _ _ fun he=>part_ok he
 split
 ·refine h.setOr _ _ fun _=>?_
  split
  ·rename_i h21
   have hd:=hi.data h21
   have hl:=h.mem.datal
   exact PtrOK.reg ⟨by show (2:Int) <= 4/\(4:Int) <= 5;decide,by show -1048576 <= i.imm/\i.imm <= 1048576;omega,fun hc=>absurd (show (4:Int) = 5 from hc) (by decide)⟩
  ·exact RegOK.num fx hi.imm
 split
 ·exact load_ok h i
 split
 ·rename_i h24;exact store_ok h i hi h24
 split
 ·rename_i h25;exact atom_ok h i hi h25
 split
 ·exact h
 split
 ·exact h
 split
 ·exact call_ok h i
 ·unfold leaveD
  split
  ·exact ⟨⟨h.mem.slots,h.mem.ctx,h.mem.ctxl,h.mem.data,h.mem.datal,h.mem.rowsl,h.mem.tabs,h.mem.rows⟩,h.regs,h.slots,h.ptrs,h.sent⟩
  ·exact h
theorem Good.count {fx:Mfix} {s:Mst} (h:Good fx s) (at':Nat) (steps:Int):Good fx { s with at':=at',steps:=steps }:=
 ⟨⟨h.mem.slots,h.mem.ctx,h.mem.ctxl,h.mem.data,h.mem.datal,h.mem.rowsl,h.mem.tabs,h.mem.rows⟩,h.regs,h.slots,h.ptrs,h.sent⟩
theorem stepF_ok {fx:Mfix} {s:Mst} (h:Good fx s) (i:Ins) (hi:InsOK fx i) (hg:fx.code[s.at']? = some i):Good fx (stepF fx s).2:=by
 unfold stepF
 split
 ·exact h
 ·have hg':fx.code.getD s.at' ⟨0,false,false,0,0,0,0,0⟩ = i:=by rw [List.getD_eq_getElem?_getD,hg];rfl
  simp only [hg']
  have hd:=doF_ok h i hi
  split
  ·exact h
  ·split
   ·exact hd.count _ _
   ·split
    ·exact hd.count _ _
    ·exact h
structure FP (w0:World) (bx ib ab:Nat) (cs:List Value) (op:Int) (nar reg:Bool) (size dst src off imm:Int) (a:List Value) (w1:World):Prop where
 fm:FM w0 bx ib cs op nar reg size dst src off imm w1
 ra:Row w1 ab 55 a
 la:w0.heap.size <= ab
 nai:ab ≠ ib
 nax:ab ≠ bx
def FPX (w0:World) (bx ib ab:Nat) (op:Int) (nar reg:Bool) (size dst src off imm:Int) (a:List Value) (w1:World):Prop:=∃ cs,FP w0 bx ib ab cs op nar reg size dst src off imm a w1/\cs.length = 471
section
variable {w0 w1 w2:World} {bx ib ab:Nat} {cs:List Value} {op:Int} {nar reg:Bool} {size dst src off imm:Int} {a:List Value}
theorem FP.next (h:FP w0 bx ib ab cs op nar reg size dst src off imm a w1) (hb:Below w1.heap.size w1 w2):FP w0 bx ib ab cs op nar reg size dst src off imm a w2:=
 ⟨h.fm.next hb,h.ra.below hb h.ra.lt,h.la,h.nai,h.nax⟩
theorem FP.set4 (h:FP w0 bx ib ab cs op nar reg size dst src off imm a w1) (k:Nat) (x0 x1 x2 x3:Value):FP w0 bx ib ab (Proofs.YtdepknffpnnmmaaGreat.set4 cs k x0 x1 x2 x3) op nar reg size dst src off imm a ((((w1.setCell ⟨bx,k,none⟩ x0).setCell ⟨bx,k + 1,none⟩ x1).setCell ⟨bx,k + 2,none⟩ x2).setCell ⟨bx,k + 3,none⟩ x3):=
 ⟨h.fm.set4 k x0 x1 x2 x3,(((h.ra.other ⟨bx,k,none⟩ x0 h.nax).other ⟨bx,k + 1,none⟩ x1 h.nax).other ⟨bx,k + 2,none⟩ x2 h.nax).other ⟨bx,k + 3,none⟩ x3 h.nax,h.la,h.nai,h.nax⟩
theorem FP.seta {y0 y1 y2 y3:Value} (h:FP w0 bx ib ab cs op nar reg size dst src off imm [y0,y1,y2,y3] w1) (x0 x1 x2 x3:Value) :
 FP w0 bx ib ab cs op nar reg size dst src off imm [x0,x1,x2,x3] ((((w1.setCell ⟨ab,0,none⟩ x0).setCell ⟨ab,1,none⟩ x1).setCell ⟨ab,2,none⟩ x2).setCell ⟨ab,3,none⟩ x3):=
 ⟨h.fm.put4o h.nax h.nai h.la x0 x1 x2 x3,h.ra.put4 x0 x1 x2 x3,h.la,h.nai,h.nax⟩
theorem FM.made (h:FM w0 bx ib cs op nar reg size dst src off imm w1) (a:List Value):FP w0 bx ib w1.heap.size cs op nar reg size dst src off imm a (w1.alloc (.cells a.toArray 55)):=by
 have h1:=h.mach.lt
 have h2:=h.ins.lt
 have h3:=h.mod.size
 exact ⟨h.box _,Row.made w1 a _,h3,by omega,by omega⟩
theorem FPX.next (h:FPX w0 bx ib ab op nar reg size dst src off imm a w1) (hb:Below w1.heap.size w1 w2):FPX w0 bx ib ab op nar reg size dst src off imm a w2:=let ⟨cs,h1,h2⟩:=h;⟨cs,h1.next hb,h2⟩
theorem FPX.set4 (h:FPX w0 bx ib ab op nar reg size dst src off imm a w1) (k:Nat) (x0 x1 x2 x3:Value):FPX w0 bx ib ab op nar reg size dst src off imm a ((((w1.setCell ⟨bx,k,none⟩ x0).setCell ⟨bx,k + 1,none⟩ x1).setCell ⟨bx,k + 2,none⟩ x2).setCell ⟨bx,k + 3,none⟩ x3):=
 let ⟨cs,h1,h2⟩:=h;⟨_,h1.set4 k x0 x1 x2 x3,by unfold Proofs.YtdepknffpnnmmaaGreat.set4;simp [h2]⟩
end
section
variable {w0 w1 w2:World} {bx ib ab:Nat} {cs:List Value} {op:Int} {nar reg:Bool} {size dst src off imm:Int} {x0 x1 x2 x3:Value}
theorem FPX.k (h:FPX w0 bx ib ab op nar reg size dst src off imm [x0,x1,x2,x3] w1):w1.cell? ⟨ib,0,none⟩ = some (.int .i64 op)/\w1.cell? ⟨ib,1,none⟩ = some (.bool nar)/\w1.cell? ⟨ib,3,none⟩ = some (.int .i64 size)/\w1.cell? ⟨ib,4,none⟩ = some (.int .i64 dst)/\w1.cell? ⟨ab,3,none⟩ = some x3/\FPX w0 bx ib ab op nar reg size dst src off imm [x0,x1,x2,x3] w1:=
 let ⟨cs,h1,h2⟩:=h;⟨h1.fm.cells.1,h1.fm.cells.2.1,h1.fm.cells.2.2.2.1,h1.fm.cells.2.2.2.2.1,h1.ra.four.1.2.2.2,h⟩
theorem FPX.n (h:w1.cell? ⟨ib,0,none⟩ = some (.int .i64 op)/\w1.cell? ⟨ib,1,none⟩ = some (.bool nar)/\w1.cell? ⟨ib,3,none⟩ = some (.int .i64 size)/\w1.cell? ⟨ib,4,none⟩ = some (.int .i64 dst)/\w1.cell? ⟨ab,3,none⟩ = some x3/\FPX w0 bx ib ab op nar reg size dst src off imm [x0,x1,x2,x3] w1) (hb:Below w1.heap.size w1 w2):w2.cell? ⟨ib,0,none⟩ = some (.int .i64 op)/\w2.cell? ⟨ib,1,none⟩ = some (.bool nar)/\w2.cell? ⟨ib,3,none⟩ = some (.int .i64 size)/\w2.cell? ⟨ib,4,none⟩ = some (.int .i64 dst)/\w2.cell? ⟨ab,3,none⟩ = some x3/\FPX w0 bx ib ab op nar reg size dst src off imm [x0,x1,x2,x3] w2:=(h.2.2.2.2.2.next hb).k
theorem FPX.s (h:w1.cell? ⟨ib,0,none⟩ = some (.int .i64 op)/\w1.cell? ⟨ib,1,none⟩ = some (.bool nar)/\w1.cell? ⟨ib,3,none⟩ = some (.int .i64 size)/\w1.cell? ⟨ib,4,none⟩ = some (.int .i64 dst)/\w1.cell? ⟨ab,3,none⟩ = some x3/\FPX w0 bx ib ab op nar reg size dst src off imm [x0,x1,x2,x3] w1) (k:Nat) (y0 y1 y2 y3:Value) :
 ((((w1.setCell ⟨bx,k,none⟩ y0).setCell ⟨bx,k + 1,none⟩ y1).setCell ⟨bx,k + 2,none⟩ y2).setCell ⟨bx,k + 3,none⟩ y3).cell? ⟨ib,0,none⟩ = some (.int .i64 op)/\((((w1.setCell ⟨bx,k,none⟩ y0).setCell ⟨bx,k + 1,none⟩ y1).setCell ⟨bx,k + 2,none⟩ y2).setCell ⟨bx,k + 3,none⟩ y3).cell? ⟨ib,1,none⟩ = some (.bool nar)/\((((w1.setCell ⟨bx,k,none⟩ y0).setCell ⟨bx,k + 1,none⟩ y1).setCell ⟨bx,k + 2,none⟩ y2).setCell ⟨bx,k + 3,none⟩ y3).cell? ⟨ib,3,none⟩ = some (.int .i64 size)/\((((w1.setCell ⟨bx,k,none⟩ y0).setCell ⟨bx,k + 1,none⟩ y1).setCell ⟨bx,k + 2,none⟩ y2).setCell ⟨bx,k + 3,none⟩ y3).cell? ⟨ib,4,none⟩ = some (.int .i64 dst)/\((((w1.setCell ⟨bx,k,none⟩ y0).setCell ⟨bx,k + 1,none⟩ y1).setCell ⟨bx,k + 2,none⟩ y2).setCell ⟨bx,k + 3,none⟩ y3).cell? ⟨ab,3,none⟩ = some x3/\FPX w0 bx ib ab op nar reg size dst src off imm [x0,x1,x2,x3] ((((w1.setCell ⟨bx,k,none⟩ y0).setCell ⟨bx,k + 1,none⟩ y1).setCell ⟨bx,k + 2,none⟩ y2).setCell ⟨bx,k + 3,none⟩ y3):=(h.2.2.2.2.2.set4 k y0 y1 y2 y3).k
end
theorem movs_of (nar reg:Bool) (size off imm:Int) (d s:Nat) (hd:d < 11) (hs:s < 11) (bx:Nat) (cs:List Value) (hl:cs.length = 471) (a v:Val) (hua:RegC cs d a) (hu:RegC cs s v) (w:World) (h:Row w bx 99 cs) :
 Calls Tryz.prog 68 #[.pointer (some ⟨bx,0,none⟩),.agg #[.int .i64 16,.bool nar,.bool reg,.int .i64 size,.int .i64 d,.int .i64 s,.int .i64 off,.int .i64 imm]] w (fun e w'=>(v.k = 1/\Wrote w bx (set4 cs (423 + d * 4) (.int .i64 1) (.int .i64 0) (.int .i64 0) (.int .i64 (extF size nar v.x))) 0 0 e w')\/(v.k ≠ 1/\Wrote w bx cs 0 80 e w')):=by
 have hj1:(0:Int) <= (d:Int):=by omega
 have hj2:(d:Int) < 11:=by omega
 have hi1:(0:Int) <= (s:Int):=by omega
 have hi2:(s:Int) < 11:=by omega
 have HF:=Lib.hid (FM.begin h 16 nar reg size d s off imm)
 clear h
 obtain ⟨ak,at',ao,ax⟩:=a
 obtain ⟨vk,vt,vo,vx⟩:=v
 simp only
 go_enter Tryz.func68,Tryz.ntmps68
 go_upto_region 1 with fail
 generalize World.alloc _ _ = w1 at HF ⊢
 obtain ⟨c0,c1,c2,c3,c4,c5,c6,c7⟩:=HF.out.cells
 obtain ⟨a0,a1,a2,a3⟩:=hua.row HF.out.mach
 obtain ⟨v0,v1,v2,v3⟩:=hu.row HF.out.mach
 simp only at a0 a1 a2 a3 v0 v1 v2 v3
 have hlt:=HF.out.mach.lt
 have hlt2:=HF.out.ins.lt
 go_region
 go_wp2_with fail
 go_region
 clear c0 c1 c2 c3 c4 c5 c6 c7 a0 a1 a2 a3 v0 v1 v2 v3
 have HP:=Lib.hid (((HF.out.made [.int .i64 vk,.int .i64 vt,.int .i64 vo,.int .i64 vx]).next (Below.refl _ _).drew).next (Below.refl _ _).drew)
 generalize hq:w1.heap.size = q at HP ⊢
 generalize World.drew _ = w2 at HP ⊢
 obtain ⟨c0,c1,c2,c3,c4,c5,c6,c7⟩:=HP.out.fm.cells
 obtain ⟨⟨b0,b1,b2,b3⟩,_⟩:=HP.out.ra.four
 by_cases hk:vk = 1
 ·subst hk
  go_upto_region 8 with (go_at_call 82;refine (numeric_of _ _ _ _ _).mono ?_;rintro e w' ⟨rfl,hb⟩;have hFP:=HP.out.next hb;obtain ⟨_,_,_,_,_,_,_,_⟩:=hFP.fm.cells)
  have HX:=Lib.hid hFP
  generalize w' = w3 at HX ⊢
  have hks:=((show FPX w bx w.heap.size q 16 nar reg size d s off imm [.int .i64 1,.int .i64 vt,.int .i64 vo,.int .i64 vx] w3 from ⟨_,HX.out,hl⟩).next (Below.refl _ _).drew).k
  go_region_held3 (fun w'=>w'.cell? ⟨w.heap.size,0,none⟩ = some (.int .i64 16)/\w'.cell? ⟨w.heap.size,1,none⟩ = some (.bool nar)/\w'.cell? ⟨w.heap.size,3,none⟩ = some (.int .i64 size)/\w'.cell? ⟨w.heap.size,4,none⟩ = some (.int .i64 d)/\w'.cell? ⟨q,3,none⟩ = some (.int .i64 vx)/\FPX w bx w.heap.size q 16 nar reg size d s off imm [.int .i64 1,.int .i64 vt,.int .i64 vo,.int .i64 vx] w')
   (first
     | with_reducible assumption
     | with_reducible exact FPX.n (by with_reducible assumption) hbN
     | with_reducible exact FPX.s (by with_reducible assumption) _ _ _ _ _
     | fail "none")
   (first
     | (go_at_call 85;refine (extend_told _ _ _ _).mono ?_;rintro e wE ⟨rfl,rfl⟩;have hE:=HX.out.next (Below.refl _ _).drew)
     | (go_at_call 50;refine (num_of _ _).mono ?_;rintro e wN ⟨rfl,hbN⟩;have hFc:=hE.next hbN;obtain ⟨_,_,_,_,⟨_,_,_,_⟩,_,_,_,_⟩:=hFc.fm.row4 hl d hd))
  rename_i hheld
  have HF2:=Lib.hid (hFc.fm.set4 (423 + d * 4) (.int .i64 1) (.int .i64 0) (.int .i64 0) (.int .i64 (extF size nar vx)))
  clear hheld hks hFc hE
  generalize World.setCell _ _ _ = w4 at HF2 ⊢
  go_wp2
  exact bodyPost_ret (v:=.tuple #[.int .i64 0,.int .i64 0]) (by simp [results,Tryz.results68,go_sem]) rfl ⟨rfl,HF2.out.mod,HF2.out.mach⟩
 ·have hkt:(vk == 1) = false:=by simpa using hk
  go_wp2_with (go_at_call 82;refine (numeric_of _ _ _ _ _).mono ?_;rintro e w' ⟨rfl,hb⟩;have hFP:=HP.out.next hb;obtain ⟨_,_,_,_,_,_,_,_⟩:=hFP.fm.cells)
  exact bodyPost_ret (v:=.tuple #[.int .i64 0,.int .i64 80]) (by simp [results,Tryz.results68,go_sem]) rfl (Or.inr ⟨hk,rfl,hFP.fm.mod,hFP.fm.mach⟩)
theorem turn_of (op:Int) (hop:17 <= op/\op <= 19) (nar reg:Bool) (size src off imm:Int) (d:Nat) (hd:d < 11) (bx:Nat) (cs:List Value) (hl:cs.length = 471) (v:Val) (hu:RegC cs d v) (hr:i64r v.x) (w:World) (h:Row w bx 99 cs) :
 Calls Tryz.prog 68 #[.pointer (some ⟨bx,0,none⟩),.agg #[.int .i64 op,.bool nar,.bool reg,.int .i64 size,.int .i64 d,.int .i64 src,.int .i64 off,.int .i64 imm]] w (fun e w'=>(v.k = 1/\Wrote w bx (set4 cs (423 + d * 4) (.int .i64 1) (.int .i64 0) (.int .i64 0) (.int .i64 (swapF size (op != 17) v.x))) 0 0 e w')\/(v.k ≠ 1/\Wrote w bx cs 0 80 e w')):=by
 have hj1:(0:Int) <= (d:Int):=by omega
 have hj2:(d:Int) < 11:=by omega
 have q16:(op == 16) = false:=by simp;omega
 have HF:=Lib.hid (FM.begin h op nar reg size d src off imm)
 clear h
 obtain ⟨vk,vt,vo,vx⟩:=v
 simp only at hr ⊢
 have HR:=Lib.hid hr
 obtain ⟨T,hT⟩:∃ T:Bool,(op != 17) = T:=⟨_,rfl⟩
 rw [hT]
 clear hr hop
 go_enter Tryz.func68,Tryz.ntmps68
 go_upto_region 1 with fail
 generalize World.alloc _ _ = w1 at HF ⊢
 obtain ⟨c0,c1,c2,c3,c4,c5,c6,c7⟩:=HF.out.cells
 obtain ⟨v0,v1,v2,v3⟩:=hu.row HF.out.mach
 simp only at v0 v1 v2 v3
 have hlt:=HF.out.mach.lt
 have hlt2:=HF.out.ins.lt
 go_region
 go_upto_region 5 with fail
 clear c0 c1 c2 c3 c4 c5 c6 c7 v0 v1 v2 v3
 have HP:=Lib.hid (((HF.out.made [.int .i64 vk,.int .i64 vt,.int .i64 vo,.int .i64 vx]).next (Below.refl _ _).drew))
 generalize hq:w1.heap.size = q at HP ⊢
 generalize World.drew _ = w2 at HP ⊢
 obtain ⟨c0,c1,c2,c3,c4,c5,c6,c7⟩:=HP.out.fm.cells
 obtain ⟨⟨b0,b1,b2,b3⟩,_⟩:=HP.out.ra.four
 by_cases hk:vk = 1
 ·subst hk
  go_upto_region 4 with (go_at_call 82;refine (numeric_of _ _ _ _ _).mono ?_;rintro e w' ⟨rfl,hb⟩;have hFP:=HP.out.next hb;obtain ⟨_,_,_,_,_,_,_,_⟩:=hFP.fm.cells)
  have HX:=Lib.hid hFP
  generalize w' = w3 at HX ⊢
  have hks:=((show FPX w bx w.heap.size q op nar reg size d src off imm [.int .i64 1,.int .i64 vt,.int .i64 vo,.int .i64 vx] w3 from ⟨_,HX.out,hl⟩).next (Below.refl _ _).drew).k
  go_region_held3 (fun w'=>w'.cell? ⟨w.heap.size,0,none⟩ = some (.int .i64 op)/\w'.cell? ⟨w.heap.size,1,none⟩ = some (.bool nar)/\w'.cell? ⟨w.heap.size,3,none⟩ = some (.int .i64 size)/\w'.cell? ⟨w.heap.size,4,none⟩ = some (.int .i64 d)/\w'.cell? ⟨q,3,none⟩ = some (.int .i64 vx)/\FPX w bx w.heap.size q op nar reg size d src off imm [.int .i64 1,.int .i64 vt,.int .i64 vo,.int .i64 vx] w')
   (first
     | with_reducible assumption
     | with_reducible exact FPX.n (by with_reducible assumption) hbN
     | with_reducible exact FPX.s (by with_reducible assumption) _ _ _ _ _
     | fail "none")
   (first
     | (go_at_call 86;refine (swap_told _ _ _ HR.out _).mono ?_;rintro e wE ⟨rfl,rfl⟩;have hE:=HX.out.next (Below.refl _ _).drew)
     | (go_at_call 50;refine (num_of _ _).mono ?_;rintro e wN ⟨rfl,hbN⟩;have hFc:=hE.next hbN;obtain ⟨_,_,_,_,⟨_,_,_,_⟩,_,_,_,_⟩:=hFc.fm.row4 hl d hd))
  rename_i hheld
  have HF2:=Lib.hid (hFc.fm.set4 (423 + d * 4) (.int .i64 1) (.int .i64 0) (.int .i64 0) (.int .i64 (swapF size T vx)))
  clear hheld hks hFc hE
  generalize World.setCell _ _ _ = w4 at HF2 ⊢
  go_wp2
  exact bodyPost_ret (v:=.tuple #[.int .i64 0,.int .i64 0]) (by simp [results,Tryz.results68,go_sem]) rfl ⟨rfl,HF2.out.mod,HF2.out.mach⟩
 ·have hkt:(vk == 1) = false:=by simpa using hk
  go_wp2_with (go_at_call 82;refine (numeric_of _ _ _ _ _).mono ?_;rintro e w' ⟨rfl,hb⟩;have hFP:=HP.out.next hb;obtain ⟨_,_,_,_,_,_,_,_⟩:=hFP.fm.cells)
  exact bodyPost_ret (v:=.tuple #[.int .i64 0,.int .i64 80]) (by simp [results,Tryz.results68,go_sem]) rfl (Or.inr ⟨hk,rfl,hFP.fm.mod,hFP.fm.mach⟩)
def Refused (w:World) (er:Int):Ending->World->Prop:=fun e w'=>e = .returned (.tuple #[.pointer none,.int .i64 er])/\Below w.heap.size w w'
theorem new_bad (lo hi:Int) (data:List Int) (tabs:List (Int × Int)) (code:List Ins) (da ta ca xa ra:Option Addr) (dc tc cc xn xc rn rc:Nat)
 (hmd:¬ (Prg.mk lo hi data tabs code).made) (hld:data.length <= 4611686018427387903) (hlt:tabs.length <= 4611686018427387903) (hlc:code.length <= 4611686018427387903) (w:World)
 (ht:Tabs w (.slice ta tabs.length tc) tabs) (hc:Coded w (.slice ca code.length cc) code) :
 Calls Tryz.prog 18 #[.agg #[.int .i64 lo,.int .i64 hi,.slice da data.length dc,.slice ta tabs.length tc,.slice ca code.length cc],.agg #[.slice xa xn xc,.slice ra rn rc]] w (Refused w 1):=by
 have hmade:=fun w' (h1:Tabs w' (.slice ta tabs.length tc) tabs) (h2:Coded w' (.slice ca code.length cc) code)=>made_of (Prg.mk lo hi data tabs code) da ta ca dc tc cc hld hlt hlc w' h1 h2
 simp only at hmade
 have hB0:=((Below.refl w.heap.size w).alloc (Nat.le_refl _) (.cells #[.int .i64 lo,.int .i64 hi,.slice da data.length dc,.slice ta tabs.length tc,.slice ca code.length cc] 44)).alloc (by simp) (.cells #[.slice xa xn xc,.slice ra rn rc] 46)
 have HMADE:=Lib.hid (hmade _ (Reads.below ht hB0 (Nat.le_refl _)) (hc.below hB0 (Nat.le_refl _)))
 have HB0:=Lib.hid hB0
 have HMD:=Lib.hid hmd
 clear hmade hB0 hmd ht hc hld hlt hlc
 generalize data.length = nd at *
 generalize tabs.length = nt at *
 generalize code.length = nc at *
 go_enter Tryz.func18,Tryz.ntmps18
 go_wp2_with fail
 refine (HMADE.out).mono ?_
 rintro e w1 ⟨d,rfl,hiff,hB⟩
 obtain rfl:d = false:=by
  cases d with
  | false=>rfl
  | true=>exact absurd (hiff.1 rfl) HMD.out
 have hBB:=HB0.out.trans (hB.mono (by simp;omega))
 go_wp2
 exact bodyPost_ret (v:=.tuple #[.pointer none,.int .i64 1]) (by simp [results,Tryz.results18,go_sem]) rfl ⟨rfl,hBB⟩
theorem rowed_tab {w:World} {base:Nat} {ρ:Nat->Nat} {tv:Value} {vals:List Value} {rows:List (List Int)} (h:TabS w base ρ tv vals rows) (hb:∀ k (h:k < rows.length),IsBytes rows[k]):Rowed w tv vals rows:=by
 have hl:vals.length = rows.length:=by have:=h.list.1.1;omega
 refine ⟨reads_own h.list.1 (fun u hu=>?_) (by decide),fun i hi=>?_⟩
 ·obtain ⟨k,hk,rfl⟩:=List.getElem_of_mem hu
  obtain ⟨u,hu2,ho⟩:=h.item k (by omega)
  rw [List.getElem?_eq_getElem hk] at hu2
  obtain rfl:=Option.some.inj hu2
  obtain ⟨a,c,hv⟩:=own_slice ho.1
  rw [hv]
  rfl
 ·obtain ⟨u,hu2,ho⟩:=h.item i hi
  exact ⟨u,hu2,held_of_own ho.1 (hb i hi) rfl⟩
def statec (s:Mst) (xv tv sv:Value):List Value:=regc s.rg ++ (s.st ++ [xv,tv,sv,.int .i64 s.at',.int .i64 s.steps,.bool s.done])
def tab44 (f:Nat->Value):List Value:=(List.range 44).map f
def tab416 (f:Nat->Value):List Value:=(List.range 416).map f
theorem built_state (f g:Nat->Value) (a b c:Option Addr) (n1 c1 n2 c2 n3 c3:Nat) (at' steps:Int) (done:Bool) :
 Tryz.prog.built 62 [(0,.agg (tab44 f).toArray),(1,.agg (tab416 g).toArray),(2,.slice a n1 c1),(3,.slice b n2 c2),(4,.slice c n3 c3),(5,.int .i64 at'),(6,.int .i64 steps),(7,.bool done)] =
  some (tab44 f ++ (tab416 g ++ [Value.slice a n1 c1,Value.slice b n2 c2,Value.slice c n3 c3,Value.int .i64 at',Value.int .i64 steps,Value.bool done])).toArray:=by
 kernel_rfl
theorem tab_of (n:Nat) (l:List Value) (h:l.length = n):l = (List.range n).map fun i=>l.getD i undef:=by
 apply List.ext_getElem
 ·simp [h]
 ·intro i h1 h2
  simp [List.getD,h1]
theorem run_state (s:Mst) (h1:(regc s.rg).length = 44) (h2:s.st.length = 416) (a b c:Option Addr) (n1 c1 n2 c2 n3 c3:Nat) (w:World) :
 (Instr.build 62 #[(0, .agg (regc s.rg).toArray), (1, .agg s.st.toArray), (2, .slice a n1 c1), (3, .slice b n2 c2), (4, .slice c n3 c3), (5, .int .i64 s.at'), (6, .int .i64 s.steps), (7, .bool s.done)]).run Tryz.prog w =
   .ok (.agg (statec s (.slice a n1 c1) (.slice b n2 c2) (.slice c n3 c3)).toArray) w:=by
 refine run_build w _ _ _ ?_
 have e1:=tab_of 44 _ h1
 have e2:=tab_of 416 _ h2
 have:=built_state (fun i=>(regc s.rg).getD i undef) (fun i=>s.st.getD i undef) a b c n1 c1 n2 c2 n3 c3 s.at' s.steps s.done
 unfold tab44 tab416 at this
 rw [<- e1,<- e2] at this
 exact this
theorem bmode_of (fx:Mfix) (i:Ins) (a b:Val) (hop:27 <= i.op/\i.op <= 37) (ha:RegOK fx a) (hb:RegOK fx b) :
 BMode i.op i.nar i.reg i.off i.imm a.k a.t a.o a.x b.k b.t b.o b.x (if (branchV i a b).2 = 0/\(branchV i a b).1 = true then i.off else 0) (branchV i a b).2:=by
 obtain ⟨op,nar,reg,size,dst,src,off,imm⟩:=i
 simp only at hop
 unfold branchV
 simp only
 by_cases h1:a.k = 1/\b.k = 1
 ·rw [if_pos h1]
  refine BMode.num (holdF op nar a.x b.x) h1.1 h1.2 (holds_says op nar a.x b.x ha.x hb.x hop) ?_ rfl
  cases holdF op nar a.x b.x <;> simp
 ·rw [if_neg h1]
  have hn:((a.k == 1) && (b.k == 1)) = false:=by
   cases hx:(a.k == 1) && (b.k == 1) with
   | false=>rfl
   | true =>
     rw [Bool.and_eq_true] at hx
     exact absurd ⟨eq_of_beq hx.1,eq_of_beq hx.2⟩ h1
  by_cases h2:nar = true\/a.k = 0\/b.k = 0
  ·rw [if_pos h2]
   refine BMode.trap hn ?_ (by simp) rfl
   rcases h2 with h | h | h
   ·rw [h];rfl
   ·rw [h];simp
   ·rw [h];simp
  ·rw [if_neg h2]
   have n1:nar = false:=by
    cases nar
    ·rfl
    ·exact absurd (Or.inl rfl) h2
   have n2:(a.k == 0) = false:=by
    have:¬a.k = 0:=fun h=>h2 (Or.inr (Or.inl h))
    simpa using this
   have n3:(b.k == 0) = false:=by
    have:¬b.k = 0:=fun h=>h2 (Or.inr (Or.inr h))
    simpa using this
   by_cases h3:alikeF a b = true/\op ≠ 37
   ·rw [if_pos h3]
    have hop':27 <= (if 29 <= op/\op <= 32 then op + 4 else op)/\(if 29 <= op/\op <= 32 then op + 4 else op) <= 37:=by split <;> omega
    refine BMode.ptr (holdF (if 29 <= op/\op <= 32 then op + 4 else op) false a.x b.x) (if 29 <= op/\op <= 32 then op + 4 else op) hn n1 n2 n3 h3.1 (by simpa using h3.2) ?_ (holds_says _ false a.x b.x ha.x hb.x hop') ?_ rfl
    ·by_cases h:29 <= op/\op <= 32
     ·rw [if_pos h,if_pos (by simp [h.1,h.2])]
     ·rw [if_neg h,if_neg (by simpa using h)]
    ·cases holdF (if 29 <= op/\op <= 32 then op + 4 else op) false a.x b.x <;> simp
   ·rw [if_neg h3]
    have h3':(alikeF a b && (op != 37)) = false:=by
     cases hx:alikeF a b && (op != 37) with
     | false=>rfl
     | true =>
       rw [Bool.and_eq_true] at hx
       exact absurd ⟨hx.1,by simpa using hx.2⟩ h3
    by_cases h4:a.k = 5/\reg = false/\imm = 0/\(op = 27\/op = 28)
    ·rw [if_pos h4]
     refine BMode.row hn n1 n2 n3 h3' ?_ ?_ rfl
     ·obtain ⟨q1,q2,q3,q4⟩:=h4
      rw [q1,q2,q3]
      rcases q4 with q | q <;> rw [q] <;> rfl
     ·simp
    ·rw [if_neg h4]
     refine BMode.none hn n1 n2 n3 h3' ?_ (by simp) rfl
     cases hx:(a.k == 5) && !reg && (imm == 0) && ((op == 27) || (op == 28)) with
     | false=>rfl
     | true =>
       simp only [Bool.and_eq_true,Bool.or_eq_true,Bool.not_eq_true',beq_iff_eq] at hx
       exact absurd ⟨hx.1.1.1,hx.1.1.2,hx.1.2,hx.2⟩ h4
theorem doerF_branch {op:Int} (h:27 <= op/\op <= 37):doerF op = 74:=by
 unfold doerF
 rw [if_neg (by omega),if_neg (by omega),if_neg (by omega),if_neg (by omega),if_neg (by omega),if_neg (by omega),if_neg (by omega),if_pos (by omega)]
theorem do_branchD (fx:Mfix) (s:Mst) (i:Ins) (hop:27 <= i.op/\i.op <= 37) (hd:0 <= i.dst/\i.dst < 11) (hsr:i.reg = true->0 <= i.src/\i.src < 11) (himm:i64r i.imm) (hR:RegsOK fx s) :
 DoR (doerF i.op) fx s i (branchD s i).by' (branchD s i).er (branchD s i).s:=by
 rw [doerF_branch hop]
 obtain ⟨op,nar,reg,size,dst,src,off,imm⟩:=i
 simp only at hop hd hsr himm
 obtain ⟨d,rfl⟩:∃ d:Nat,dst = d:=⟨dst.toNat,by omega⟩
 have hd':d < 11:=by omega
 unfold branchD
 simp only
 refine do_same fun bx cs w hl hr hl2 hw=>?_
 have hu:RegC cs d (s.reg d):=by
  rw [s.reg_get d (by omega)]
  exact hr d hd' hl2
 have hm:=bmode_of fx ⟨op,nar,reg,size,d,src,off,imm⟩ (s.reg d) (s.sec ⟨op,nar,reg,size,d,src,off,imm⟩) hop (reg_ok hR d) (sec_ok hR _ himm)
 exact branch_walk op nar reg size src off imm d hd' hop bx cs hl _ _ _ _ _ _ _ _ hu (fun w' h'=>sec_call (s:=s) ⟨op,nar,reg,size,d,src,off,imm⟩ hsr bx cs hl2 hr w' h') _ _ hm w hw
end Go.Proofs.YtdepknffpnnmmaaGreat
