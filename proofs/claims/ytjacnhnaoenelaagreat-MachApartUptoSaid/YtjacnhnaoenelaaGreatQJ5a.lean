import Derived.Test.YtjacnhnaoenelaaGreatQMachX
import Derived.Test.YtjacnhnaoenelaaGreatQMachAB
import Derived.Test.YtjacnhnaoenelaaGreatQJ4a
import Derived.Deep.MidRow
import Derived.Deep.WholeRow
import Derived.Test.YtjacnhnaoenelaaGreatQMachAD
set_option maxRecDepth 1000000
set_option maxHeartbeats 8000000
namespace Go.Proofs.YtjacnhnaoenelaaGreat
open Lib (hid)
open Go.Proofs.Tryz
open Go.RowKit
set_option linter.unusedVariables false
set_option linter.unusedSimpArgs false
structure Dp (fx:Ak) (p:Val):Prop where
 kind:0 <= p.k
 x:Ey p.x
 ptr:2 <= p.k->Gf fx p
theorem Dp.num (fx:Ak) {x:Int} (h:Ey x):Dp fx (nval x):=⟨by show (0:Int) <= 1;decide,h,fun h=>absurd (show (2:Int) <= 1 from h) (by decide)⟩
theorem Dp.none (fx:Ak):Dp fx I4:=⟨by show (0:Int) <= 0;decide,Hl,fun h=>absurd (show (2:Int) <= 0 from h) (by decide)⟩
def pz (fx:Ak) (s:Mst):Prop:=s.rg.length = 11/\∀ u ∈ s.rg,Dp fx u
theorem Mst.Ir (s:Mst) (d:Nat) (h:d < s.rg.length):s.reg d = s.rg[d]:=by
 unfold Mst.reg;rw [Int.toNat_natCast,List.getElem?_eq_getElem h];rfl
theorem F8 {fx:Ak} {s:Mst} (h:pz fx s) (d:Int):Dp fx (s.reg d):=by
 unfold Mst.reg
 by_cases hd:d.toNat < s.rg.length
 ·rw [List.getElem?_eq_getElem hd];exact h.2 _ (List.getElem_mem hd)
 ·rw [List.getElem?_eq_none (by omega)];exact Dp.none fx
theorem Acm {fx:Ak} {s:Mst} (h:pz fx s) (i:Ins) (hi:Ey i.Aa):Dp fx (s.sec i):=by
 unfold Mst.sec
 split
 ·exact F8 h _
 ·exact Dp.num fx hi
theorem qg {s:Mst} (i:Ins) (hsr:i.reg = true->0 <= i.src/\i.src < 11) (bx:Nat) (cs:List Value) (hl:s.rg.length = 11) (hr:∀ r (hr:r < 11) (hl:s.rg.length = 11),Ie cs r (s.rg[r]'(by rw [hl];exact hr))) (w:World) (hw:Row w bx 87 cs) :
 Calls prog 66 #[.pointer (some ⟨bx,0,none⟩),.agg #[.int .i64 i.op,.bool i.Ad,.bool i.reg,.int .i64 i.size,.int .i64 i.dst,.int .i64 i.src,.int .i64 i.off,.int .i64 i.Aa]] w (Ol w (.agg #[.int .i64 (s.sec i).k,.int .i64 (s.sec i).t,.int .i64 (s.sec i).o,.int .i64 (s.sec i).x])):=by
 obtain ⟨op,Ad,reg,size,dst,src,off,Aa⟩:=i
 cases reg with
 | true =>
   obtain ⟨h1,h2⟩:=hsr rfl;simp only at h1 h2;obtain ⟨r,rfl⟩:∃ r:Nat,src = r:=⟨src.toNat,by omega⟩;have Atx:r < 11:=by omega
   have hs:s.sec ⟨op,Ad,true,size,dst,r,off,Aa⟩ = s.rg[r]'(by rw [hl];exact Atx):=by
    unfold Mst.sec;rw [if_pos rfl];exact s.Ir r (by omega)
   rw [hs];exact Af9 op Ad size dst off Aa r Atx bx cs _ (hr r Atx hl) w hw
 | false=>exact Aga op Ad size dst src off Aa bx w
theorem Aqz (fx:Ak) (op:Int) (Ad:Bool) (a b:Val) (hop:1 <= op/\op <= 15) (ha:Dp fx a) (hb:Dp fx b) :
 Vh op Ad (if op = 15 then 1 else a.k) (if op = 15 then 0 else a.t) (if op = 15 then 0 else a.o) (if op = 15 then 0 else a.x)
  (if op = 14 then 1 else b.k) (if op = 14 then 0 else b.t) (if op = 14 then 0 else b.o) (if op = 14 then 0 else b.x) (O7 op Ad a b).1 (O7 op Ad a b).2:=by
 unfold O7
 by_cases h1:op = 15/\Ad = false/\b.k ≠ 0
 ·rw [if_pos h1];obtain ⟨rfl,rfl,hk⟩:=h1;simp only [if_neg (show ¬((15:Int) = 14) by decide)];exact Vh.mov rfl rfl (by simpa using hk) rfl rfl
 ·rw [if_neg h1]
  have hno:op = 15->Ad = false->((if op = 14 then 1 else b.k) != 0) = false:=by
   intro h2 h3
   have hb0:b.k = 0:=by
    by_cases h:b.k = 0
    ·exact h
    ·exact absurd ⟨h2,h3,h⟩ h1
   rw [if_neg (by omega),hb0];rfl
  by_cases h2:(if op = 15 then 1 else a.k) = 1/\(if op = 14 then 1 else b.k) = 1
  ·rw [if_pos h2];exact Vh.alu _ hno h2.1 h2.2 rfl (Aaw op Ad _ _ hop).1
  ·rw [if_neg h2]
   have hn:(((if op = 15 then 1 else a.k) == 1) && ((if op = 14 then 1 else b.k) == 1)) = false:=by
    cases hx:((if op = 15 then 1 else a.k) == 1) && ((if op = 14 then 1 else b.k) == 1) with
    | false=>rfl
    | true =>
      rw [Bool.and_eq_true] at hx;exact absurd ⟨eq_of_beq hx.1,eq_of_beq hx.2⟩ h2
   by_cases h3:Ad = true\/(if op = 15 then 1 else a.k) = 0\/(if op = 14 then 1 else b.k) = 0
   ·rw [if_pos h3];refine Vh.trap hno hn ?_ rfl
    rcases h3 with h | h | h
    ·rw [h];rfl
    ·rw [h];simp
    ·rw [h];simp
   ·rw [if_neg h3]
    have n1:Ad = false:=by
     cases Ad
     ·rfl
     ·exact absurd (Or.inl rfl) h3
    have n2:¬(if op = 15 then 1 else a.k) = 0:=fun h=>h3 (Or.inr (Or.inl h));have n3:¬(if op = 14 then 1 else b.k) = 0:=fun h=>h3 (Or.inr (Or.inr h));refine Vh.sum hno hn n1 (by simpa using n2) (by simpa using n3) fun w'=>?_
    have hA:Dp fx (if op = 15 then nval 0 else a):=by
     split
     ·exact Dp.num fx Hl
     ·exact ha
    have hB:Dp fx (if op = 14 then nval 0 else b):=by
     split
     ·exact Dp.num fx Hl
     ·exact hb
    have:=At6 op (if op = 15 then nval 0 else a) (if op = 14 then nval 0 else b) (fun h=>(hA.ptr h).off) (fun h=>(hB.ptr h).off) ⟨hA.x,hB.x⟩ w'
    by_cases h15:op = 15
    ·simp only [if_pos h15] at this ⊢
     by_cases h14:op = 14
     ·omega
     ·simp only [if_neg h14] at this ⊢;exact this
    ·simp only [if_neg h15] at this ⊢
     by_cases h14:op = 14
     ·simp only [if_pos h14] at this ⊢;exact this
     ·simp only [if_neg h14] at this ⊢;exact this
theorem Anw (fx:Ak) (s:Mst) (i:Ins) (hop:1 <= i.op/\i.op <= 15) (hd:0 <= i.dst/\i.dst < 11) (hsr:i.reg = true->0 <= i.src/\i.src < 11) (Ae9:Ey i.Aa) (hR:pz fx s) :
 DoR (D8 i.op) fx s i (mg s i).by' (mg s i).er (mg s i).s:=by
 obtain ⟨op,Ad,reg,size,dst,src,off,Aa⟩:=i;simp only at hop hd hsr Ae9;obtain ⟨d,rfl⟩:∃ d:Nat,dst = d:=⟨dst.toNat,by omega⟩;have hd':d < 11:=by omega
 rw [Aew hop.2];have ha:=F8 hR d;have hb:=Acm hR ⟨op,Ad,reg,size,d,src,off,Aa⟩ Ae9
 have key:∀ (bx:Nat) (cs:List Value) (w:World),cs.length = 471->(∀ r (hr:r < 11) (hl:s.rg.length = 11),Ie cs r (s.rg[r]'(by rw [hl];exact hr)))->s.rg.length = 11->Row w bx 87 cs ->
  Calls prog 52 #[.pointer (some ⟨bx,0,none⟩),(Ins.mk op Ad reg size d src off Aa).agg] w (Aqm w bx cs d (O7 op Ad (s.reg d) (s.sec ⟨op,Ad,reg,size,d,src,off,Aa⟩)).1 (O7 op Ad (s.reg d) (s.sec ⟨op,Ad,reg,size,d,src,off,Aa⟩)).2):=by
  intro bx cs w hl hr hl2 hw
  have hu:Ie cs d (s.reg d):=by
   rw [s.Ir d (by omega)];exact hr d hd' hl2
  generalize s.reg d = A at ha hu ⊢;have hsc:=fun w' h'=>qg (s:=s) ⟨op,Ad,reg,size,d,src,off,Aa⟩ hsr bx cs hl2 hr w' h';simp only at hsc;generalize s.sec ⟨op,Ad,reg,size,d,src,off,Aa⟩ = B at hb hsc ⊢
  exact Aij op Ad reg size src off Aa d hd' bx cs hl A.k A.t A.o A.x B.k B.t B.o B.x hu hsc _ _ _ _ _ _ _ _ _ _
   (by by_cases h : op = 14
       ·exact Or.inl ⟨h,if_pos h,if_pos h,if_pos h,if_pos h⟩
       ·exact Or.inr ⟨h,if_neg h,if_neg h,if_neg h,if_neg h⟩)
   (by by_cases h : op = 15
       ·exact Or.inl ⟨h,if_pos h,if_pos h,if_pos h,if_pos h⟩
       ·exact Or.inr ⟨h,if_neg h,if_neg h,if_neg h,if_neg h⟩)
   (Aqz fx op Ad A B hop ha hb) w hw
 unfold mg N7;simp only
 by_cases hg:(O7 op Ad (s.reg d) (s.sec ⟨op,Ad,reg,size,d,src,off,Aa⟩)).2 = 0
 ·rw [if_pos hg,hg];refine l7 d hd' _ fun bx cs w hl hr hl2 hw=>(key bx cs w hl hr hl2 hw).mono fun e w' hh=>?_
  rcases hh with ⟨_,h⟩ | ⟨h,_⟩
  ·exact h
  ·exact absurd hg h
 ·rw [if_neg hg];refine Qu fun bx cs w hl hr hl2 hw=>(key bx cs w hl hr hl2 hw).mono fun e w' hh=>?_
  rcases hh with ⟨h,_⟩ | ⟨_,h⟩
  ·exact absurd h hg
  ·exact h
theorem Aq0 (fx:Ak) (s:Mst) (i:Ins) (hop:i.op = 26):DoR (D8 i.op) fx s i (Aex s i).by' (Aex s i).er (Aex s i).s:=by
 obtain ⟨op,Ad,reg,size,dst,src,off,Aa⟩:=i;simp only at hop;subst hop;exact Qu fun bx cs w hl hr hl2 hw=>As7 26 Ad reg size dst src off Aa bx cs w hw
theorem Anx (fx:Ak) (s:Mst) (i:Ins) (hop:39 <= i.op):DoR (D8 i.op) fx s i (leaveD s).by' (leaveD s).er (leaveD s).s:=by
 obtain ⟨op,Ad,reg,size,dst,src,off,Aa⟩:=i;simp only at hop
 have hF:D8 op = 61:=by
  unfold D8;rw [if_neg (by omega),if_neg (by omega),if_neg (by omega),if_neg (by omega),if_neg (by omega),if_neg (by omega),if_neg (by omega),if_neg (by omega),if_neg (by omega)]
 rw [hF]
 have key:∀ (bx:Nat) (cs:List Value) (w:World),cs.length = 471->(∀ r (hr:r < 11) (hl:s.rg.length = 11),Ie cs r (s.rg[r]'(by rw [hl];exact hr)))->s.rg.length = 11->Row w bx 87 cs ->
  Calls prog 61 #[.pointer (some ⟨bx,0,none⟩),(Ins.mk op Ad reg size dst src off Aa).agg] w (fun e w'=>if (s.reg 0).k = 1 then Wrote w bx (cs.set 470 (.bool true)) 0 0 e w' else Wrote w bx cs 0 86 e w'):=by
  intro bx cs w hl hr hl2 hw
  have hu:Ie cs 0 (s.reg 0):=by
   rw [show s.reg 0 = s.rg[0]'(by omega) from s.Ir 0 (by omega)];exact hr 0 (by decide) hl2
  exact Ao1 op Ad reg size dst src off Aa bx cs hl _ hu w hw
 unfold leaveD Jq
 by_cases hk:(s.reg 0).k = 1
 ·rw [if_pos hk];exact do_done fun bx cs w hl hr hl2 hw=>(key bx cs w hl hr hl2 hw).mono fun e w' hh=>by rw [if_pos hk] at hh;exact hh
 ·rw [if_neg hk];exact Qu fun bx cs w hl hr hl2 hw=>(key bx cs w hl hr hl2 hw).mono fun e w' hh=>by rw [if_neg hk] at hh;exact hh
theorem Aq1 (fx:Ak) (s:Mst) (i:Ins) (hop:i.op = 20) (hd:0 <= i.dst/\i.dst < 11):DoR (D8 i.op) fx s i (Ti s i).by' (Ti s i).er (Ti s i).s:=by
 obtain ⟨op,Ad,reg,size,dst,src,off,Aa⟩:=i;simp only at hop hd;subst hop;obtain ⟨d,rfl⟩:∃ d:Nat,dst = d:=⟨dst.toNat,by omega⟩;have hd':d < 11:=by omega
 exact l7 d hd' (nval Aa) fun bx cs w hl hr hl2 h=>zx Ad reg size src off Aa d hd' bx cs w hl h
structure Keeps (s:Mst) (r:Did):Prop where
 at':r.s.at' = s.at'
 steps:r.s.steps = s.steps
 done:r.s.done = s.done
 trap:r.er ≠ 0->r.s = s
theorem Ov (s:Mst) (d:Int) (r:Val × Int):Keeps s (N7 s d r):=by
 unfold N7
 by_cases h:r.2 = 0
 ·rw [if_pos h];exact ⟨rfl,rfl,rfl,fun hc=>absurd h hc⟩
 ·rw [if_neg h];exact ⟨rfl,rfl,rfl,fun _=>rfl⟩
theorem Fg (s:Mst) (e:Int):Keeps s (Jq s e):=⟨rfl,rfl,rfl,fun _=>rfl⟩
theorem Gg {s s1:Mst} (b:Int) (h:s1.at' = s.at'/\s1.steps = s.steps/\s1.done = s.done):Keeps s ⟨b,0,s1⟩:=⟨h.1,h.2.1,h.2.2,fun h=>absurd rfl h⟩
theorem I8 (fx:Ak) (s:Mst) (v:Val) (a:Int) (b:List Int):(Gn fx s v a b).at' = s.at'/\(Gn fx s v a b).steps = s.steps/\(Gn fx s v a b).done = s.done:=by
 unfold Gn
 split
 ·exact ⟨rfl,rfl,rfl⟩
 ·split <;> exact ⟨rfl,rfl,rfl⟩
theorem Ais (fx:Ak) (s:Mst) (i:Ins):Keeps s (Jz fx s i):=by
 unfold Jz;dsimp only
 split
 ·exact Fg _ _
 ·split
  ·exact Fg _ _
  ·split
   ·exact Gg 0 ⟨rfl,rfl,rfl⟩
   ·exact Ov _ _ _
theorem Afb (fx:Ak) (s:Mst) (i:Ins):Keeps s (Iy fx s i):=by
 unfold Iy;dsimp only
 split
 ·exact Fg _ _
 ·split
  ·exact Fg _ _
  ·split
   ·exact Fg _ _
   ·split
    ·exact Gg 0 (I8 _ _ _ _ _)
    ·split
     ·exact Fg _ _
     ·exact Gg 0 ⟨rfl,rfl,rfl⟩
theorem Ait (fx:Ak) (s:Mst) (i:Ins):Keeps s (Mc fx s i):=by
 unfold Mc;dsimp only
 split
 ·exact Fg _ _
 ·split
  ·exact Fg _ _
  ·split
   ·exact Fg _ _
   ·split
    ·exact Fg _ _
    ·split
     ·exact Gg 0 (I8 _ _ _ _ _)
     ·split
      ·exact Gg 0 (I8 _ _ _ _ _)
      ·exact Gg 0 (I8 _ _ _ _ _)
theorem Aiu (fx:Ak) (s:Mst) (i:Ins):Keeps s (J3 fx s i):=by
 unfold J3
 by_cases h0:i.Aa < 1\/8 < i.Aa
 ·rw [if_pos h0];exact Fg _ _
 rw [if_neg h0]
 by_cases hA:Hq fx s i.Aa = false
 ·rw [if_pos hA];exact Fg _ _
 rw [if_neg hA]
 by_cases h1:i.Aa = 1
 ·rw [if_pos h1];exact Gg 0 ⟨rfl,rfl,rfl⟩
 rw [if_neg h1]
 by_cases h2:i.Aa = 2
 ·rw [if_pos h2];exact Gg 0 (I8 fx s (s.reg 1) (s.reg 1).x (N8 fx s 2 3))
 rw [if_neg h2]
 by_cases h3:i.Aa = 3
 ·rw [if_pos h3];exact Gg 0 (I8 fx s (s.reg 1) (s.reg 1).x (List.replicate (s.reg 3).x.toNat ((s.reg 2).x % 256)))
 rw [if_neg h3]
 by_cases h4:i.Aa = 4
 ·rw [if_pos h4];exact Gg 0 ⟨rfl,rfl,rfl⟩
 rw [if_neg h4]
 by_cases h5:i.Aa = 5
 ·rw [if_pos h5];exact Gg 0 ⟨rfl,rfl,rfl⟩
 rw [if_neg h5]
 by_cases h6:i.Aa = 6
 ·rw [if_pos h6]
  by_cases h:64 <= s.sent.length
  ·rw [if_pos h];exact Gg 0 ⟨rfl,rfl,rfl⟩
  ·rw [if_neg h];exact Gg 0 ⟨rfl,rfl,rfl⟩
 rw [if_neg h6]
 by_cases h7:i.Aa = 7
 ·rw [if_pos h7]
  by_cases h:(s.reg 1).x < 0\/(fx.tabs.length:Int) <= (s.reg 1).x
  ·rw [if_pos h];exact Fg _ _
  ·rw [if_neg h];exact Gg 0 ⟨rfl,rfl,rfl⟩
 rw [if_neg h7];exact Gg 0 ⟨rfl,rfl,rfl⟩
theorem Ak0 (fx:Ak) (s:Mst) (i:Ins):(J3 fx s i).by' = 0:=by
 unfold J3
 by_cases h0:i.Aa < 1\/8 < i.Aa
 ·rw [if_pos h0];rfl
 rw [if_neg h0]
 by_cases hA:Hq fx s i.Aa = false
 ·rw [if_pos hA];rfl
 rw [if_neg hA]
 by_cases h1:i.Aa = 1
 ·rw [if_pos h1]
 rw [if_neg h1]
 by_cases h2:i.Aa = 2
 ·rw [if_pos h2]
 rw [if_neg h2]
 by_cases h3:i.Aa = 3
 ·rw [if_pos h3]
 rw [if_neg h3]
 by_cases h4:i.Aa = 4
 ·rw [if_pos h4]
 rw [if_neg h4]
 by_cases h5:i.Aa = 5
 ·rw [if_pos h5]
 rw [if_neg h5]
 by_cases h6:i.Aa = 6
 ·rw [if_pos h6]
  by_cases h:64 <= s.sent.length
  ·rw [if_pos h]
  ·rw [if_neg h]
 rw [if_neg h6]
 by_cases h7:i.Aa = 7
 ·rw [if_pos h7]
  by_cases h:(s.reg 1).x < 0\/(fx.tabs.length:Int) <= (s.reg 1).x
  ·rw [if_pos h];rfl
  ·rw [if_neg h]
 rw [if_neg h7]
theorem Aa3 (fx:Ak) (s:Mst) (i:Ins) (h:i.op < 39):Keeps s (Ij fx s i):=by
 unfold Ij
 split
 ·exact Ov _ _ _
 ·split
  ·exact Ov _ _ _
  ·split
   ·exact Ov _ _ _
   ·split
    ·exact Ais _ _ _
    ·split
     ·exact Afb _ _ _
     ·split
      ·exact Ait _ _ _
      ·split
       ·exact Gg _ ⟨rfl,rfl,rfl⟩
       ·split
        ·exact ⟨rfl,rfl,rfl,fun _=>rfl⟩
        ·split
         ·exact Aiu _ _ _
         ·omega
theorem Aiv (fx:Ak) (s:Mst) (i:Ins) (h:i.op < 26\/37 < i.op):(Ij fx s i).by' = 0:=by
 unfold Ij
 split
 ·rfl
 ·split
  ·rfl
  ·split
   ·rfl
   ·split
    ·unfold Jz;dsimp only;repeat' split
     all_goals rfl
    ·split
     ·unfold Iy;dsimp only;repeat' split
      all_goals rfl
     ·split
      ·unfold Mc;dsimp only;repeat' split
       all_goals rfl
      ·split
       ·omega
       ·split
        ·omega
        ·split
         ·exact Ak0 fx s i
         ·unfold leaveD;split <;> rfl
theorem Aq2 (fx:Ak) (s:Mst) (i:Ins) (h:26 <= i.op/\i.op <= 37):(Ij fx s i).s = s:=by
 unfold Ij;rw [if_neg (by omega),if_neg (by omega),if_neg (by omega),if_neg (by omega),if_neg (by omega),if_neg (by omega)]
 split
 ·rfl
 ·rw [if_pos (by omega)];rfl
theorem Aa4 (fx:Ak) (s:Mst) (i:Ins) (h:i.op = 39):Ij fx s i = leaveD s:=by
 unfold Ij;rw [if_neg (by omega),if_neg (by omega),if_neg (by omega),if_neg (by omega),if_neg (by omega),if_neg (by omega),if_neg (by omega),if_neg (by omega),if_neg (by omega)]
theorem Vs {code:List Ins} {u:Int} {j:Nat} (h:Tj code u = some j):j < code.length/\(Bl code j:Int) = u:=by
 unfold Tj at h;have h1:=List.mem_of_find?_eq_some h;have h2:=List.find?_some h;exact ⟨List.mem_range.1 h1,eq_of_beq h2⟩
theorem Aiw {code:List Ins} {u:Int} (h:Tj code u = none):∀ j < code.length,(Bl code j:Int) ≠ u:=by
 unfold Tj at h;intro j hj hc;have:=List.find?_eq_none.1 h j (List.mem_range.2 hj);rw [hc] at this;exact this (beq_self_eq_true u)
theorem Aww (fx:Ak) (s:Mst) (i:Ins) (hi:fx.code[s.at']? = some i) (hd:s.done = false) (hlen:fx.code.length <= 4096)
 (hgo:(26 <= i.op/\i.op <= 37)\/i.op = 39\/s.at' + 1 ≠ fx.code.length) (hop:i.op <= 39) (hst:0 <= s.steps/\s.steps < 4611686018427387904)
 (hby : -4611686018427387904 <= (Ij fx s i).by'/\(Ij fx s i).by' <= 4611686018427387904)
 (hdo:DoR (D8 i.op) fx s i (Ij fx s i).by' (Ij fx s i).er (Ij fx s i).s):Wx fx s (Fq fx s).1 (Fq fx s).2:=by
 have hk:s.at' < fx.code.length:=by
  by_cases h:s.at' < fx.code.length
  ·exact h
  ·rw [List.getElem?_eq_none (by omega)] at hi;cases hi
 have hi':fx.code[s.at'] = ⟨i.op,i.Ad,i.reg,i.size,i.dst,i.src,i.off,i.Aa⟩:=by
  rw [List.getElem?_eq_getElem hk] at hi;exact Option.some.inj hi
 have hg:fx.code.getD s.at' ⟨0,false,false,0,0,0,0,0⟩ = i:=by rw [List.getD_eq_getElem?_getD,hi];rfl
 have keep:(Ij fx s i).s.at' = s.at'/\(Ij fx s i).s.steps = s.steps/\((Ij fx s i).er ≠ 0->(Ij fx s i).s = s)/\((Ij fx s i).er = 0->(Ij fx s i).s.done = decide (i.op = 39)):=by
  by_cases h39:i.op = 39
  ·rw [Aa4 fx s i h39];unfold leaveD Jq
   split
   ·exact ⟨rfl,rfl,fun h=>absurd rfl h,fun _=>by rw [decide_eq_true h39]⟩
   ·exact ⟨rfl,rfl,fun _=>rfl,fun h=>absurd (show (86:Int) = 0 from h) (by decide)⟩
  ·have K:=Aa3 fx s i (by omega);exact ⟨K.at',K.steps,K.trap,fun _=>by rw [K.done,hd,decide_eq_false h39]⟩
 obtain ⟨k1,k2,k3,k4⟩:=keep;refine At1 fx s s.at' hk rfl hd i.op i.Ad i.reg i.size i.dst i.src i.off i.Aa hi' hlen (Ij fx s i).by' (Ij fx s i).er (Ij fx s i).s hdo hgo k1 (by rw [k2];exact hst) hby _ _ ?_
 unfold Fq;rw [if_neg (by rw [hd];decide)];simp only [hg]
 by_cases he:(Ij fx s i).er = 0
 ·rw [if_neg (fun h=>h he)]
  by_cases h39:i.op = 39
  ·rw [if_pos h39];exact Or.inr (Or.inl ⟨he,by rw [k4 he,decide_eq_true h39],rfl,rfl⟩)
  ·rw [if_neg h39];have hdn:(Ij fx s i).s.done = false:=by rw [k4 he,decide_eq_false h39]
   cases hw:Tj fx.code ((Bl fx.code (s.at' + 1):Int) + (Ij fx s i).by') with
   | some j =>
     obtain ⟨j1,j2⟩:=Vs hw;exact Or.inr (Or.inr (Or.inl ⟨he,hdn,j,j1,j2,rfl,rfl⟩))
   | none =>
     have hn:=Aiw hw;refine Or.inr (Or.inr (Or.inr ⟨he,hdn,hn,?_,rfl⟩))
     by_cases hj:26 <= i.op/\i.op <= 37
     ·exact (Aq2 fx s i hj).symm
     ·exfalso
      have hb:=Aiv fx s i (by omega);rw [hb] at hn;exact hn (s.at' + 1) (by rcases hgo with h | h | h;exact absurd h hj;exact absurd h h39;omega) (by omega)
 ·rw [if_pos he];exact Or.inl ⟨he,(k3 he).symm,rfl⟩
theorem Runs.Fq {fx:Ak} {s s1 s2:Mst} {n:Nat} {er:Int} (hd:s.done = false) (hR:Wx fx s (Proofs.YtjacnhnaoenelaaGreat.Fq fx s).1 (Proofs.YtjacnhnaoenelaaGreat.Fq fx s).2) (he:Proofs.YtjacnhnaoenelaaGreat.Fq fx s = (0,s1)) (h:Runs fx s1 n er s2):Runs fx s (n + 1) er s2:=by
 rw [he] at hR;exact Runs.step s s1 s2 n er hd hR h
structure Me (fx:Ak) (i:Ins):Prop where
 op:1 <= i.op/\i.op <= 39
 dst:0 <= i.dst/\i.dst < 11
 src:0 <= i.src/\i.src < 11
 off : -32768 <= i.off/\i.off <= 32767
 Aa:Ey i.Aa
 Ayg:i.op ≠ 20->-2147483648 <= i.Aa/\i.Aa <= 2147483647
 data:i.op = 21->0 <= i.Aa/\i.Aa <= fx.data.length
 ls:i.op = 22\/i.op = 24->i.size = 1\/i.size = 2\/i.size = 4\/i.size = 8
 lds:i.op = 23->i.size = 1\/i.size = 2\/i.size = 4
 atom:i.op = 25->(i.size = 4\/i.size = 8)/\Hu i.Aa = true
theorem Zl {n:Int} {wr:Bool} (h:En n wr = true):0 <= n/\n < 11:=by
 unfold En at h;simp only [Bool.and_eq_true,decide_eq_true_eq] at h;omega
theorem Oa (fx:Ak) (i:Ins) (h:i.right = 0) (him:Ey i.Aa) (hd:i.op = 21->i.Aa <= fx.data.length):Me fx i:=by
 obtain ⟨op,Ad,reg,size,dst,src,off,Aa⟩:=i;unfold Ins.right Ry at h;simp only at h him hd
 by_cases h1:Cb op Ad reg size = false
 ·rw [if_pos h1] at h;exact absurd h (by decide)
 rw [if_neg h1] at h
 by_cases h2:Dx op = true/\En dst (Fb op) = false\/Dy op reg = true/\En src (Du op Aa) = false
 ·rw [if_pos h2] at h;exact absurd h (by decide)
 rw [if_neg h2] at h
 by_cases h3:Dx op = false/\dst ≠ 0\/Dy op reg = false/\src ≠ 0\/D5 op Ad = false/\off ≠ 0\/off < -32768\/32768 <= off
 ·rw [if_pos h3] at h;exact absurd h (by decide)
 rw [if_neg h3] at h
 by_cases h4:Dt op Ad reg = false/\Aa ≠ 0\/Dt op Ad reg = true/\Bv op Ad Aa = false
 ·rw [if_pos h4] at h;exact absurd h (by decide)
 have h1':Cb op Ad reg size = true:=by simpa using h1
 have hop:1 <= op/\op <= 39:=by
  unfold Cb at h1'
  by_cases hc:op < 1\/39 < op
  ·rw [if_pos hc] at h1';cases h1'
  ·omega
 have hfits:Bv op Ad Aa = true->op ≠ 20->(-2147483648 <= Aa/\Aa <= 2147483647)/\(op = 25->Hu Aa = true)/\(op = 21->0 <= Aa):=by
  intro hf hn;unfold Bv at hf;rw [if_neg hn] at hf
  by_cases hc:Aa < -2147483648\/2147483647 < Aa
  ·rw [if_pos hc] at hf;cases hf
  rw [if_neg hc] at hf;refine ⟨by omega,fun h5=>?_,fun h5=>?_⟩
  ·subst h5;simpa using hf
  ·subst h5;simpa using hf
 have hI:∀ p:Prop,(Dt op Ad reg = false->Aa = 0->p)->(Dt op Ad reg = true->Bv op Ad Aa = true->p)->p:=by
  intro p q1 q2
  cases hu:Dt op Ad reg with
  | false =>
    refine q1 hu ?_
    by_cases hz:Aa = 0
    ·exact hz
    ·exact absurd (Or.inl ⟨hu,hz⟩) h4
  | true =>
    refine q2 hu ?_
    cases hf:Bv op Ad Aa with
    | true=>rfl
    | false=>exact absurd (Or.inr ⟨hu,hf⟩) h4
 have hsz:op ≠ 16->Ep op size = true:=by
  intro hn;unfold Cb at h1';rw [if_neg (by omega),if_neg hn] at h1';simp only [Bool.and_eq_true] at h1';exact h1'.1.1
 refine ⟨hop,?_,?_,?_,him,?_,?_,?_,?_,?_⟩
 ·show 0 <= dst/\dst < 11
  cases hu:Dx op with
  | false =>
    by_cases hz:dst = 0
    ·omega
    ·exact absurd (Or.inl ⟨hu,hz⟩) h3
  | true =>
    cases hr:En dst (Fb op) with
    | true=>exact Zl hr
    | false=>exact absurd (Or.inl ⟨hu,hr⟩) h2
 ·show 0 <= src/\src < 11
  cases hu:Dy op reg with
  | false =>
    by_cases hz:src = 0
    ·omega
    ·exact absurd (Or.inr (Or.inl ⟨hu,hz⟩)) h3
  | true =>
    cases hr:En src (Du op Aa) with
    | true=>exact Zl hr
    | false=>exact absurd (Or.inr ⟨hu,hr⟩) h2
 ·show -32768 <= off/\off <= 32767
  by_cases hc:off < -32768\/32768 <= off
  ·exact absurd (Or.inr (Or.inr (Or.inr hc))) h3
  ·omega
 ·intro hn;exact hI _ (fun _ hz=>by show _ <= Aa/\Aa <= _;omega) (fun _ hf=>(hfits hf hn).1)
 ·intro h21;simp only at h21;refine ⟨?_,hd h21⟩;exact hI _ (fun _ hz=>by show 0 <= Aa;omega) (fun _ hf=>(hfits hf (by omega)).2.2 h21)
 ·intro hc;have:=hsz (by simp only at hc;omega);unfold Ep at this;simp only at hc ⊢;rw [if_neg (by omega),if_pos hc] at this;simpa [or_assoc] using this
 ·intro hc;have:=hsz (by simp only at hc;omega);unfold Ep at this;simp only at hc ⊢;rw [if_neg (by omega),if_neg (by omega),if_pos hc] at this;simpa [or_assoc] using this
 ·intro hc;have:=hsz (by simp only at hc;omega);unfold Ep at this;simp only at hc ⊢;rw [if_neg (by omega),if_neg (by omega),if_neg (by omega),if_pos hc] at this;refine ⟨by simpa using this,?_⟩
  exact hI _ (fun hu hz=>by
   subst hc;simp [Dt] at hu) (fun _ hf=>(hfits hf (by omega)).2.1 hc)
structure Good (fx:Ak) (s:Mst):Prop where
 mem:J4 fx s
 regs:pz fx s
 slots:Gu s.sl
 ptrs:∀ x ∈ s.sl,x.p.k ≠ 0->Gf fx x.p
 sent:s.sent.length <= 64/\∀ x ∈ s.sent,Ey x
theorem Gf.reg {fx:Ak} {p:Val} (h:Gf fx p):Dp fx p:=⟨by have:=h.kind;omega,by have:=h.off;unfold Ey;omega,fun _=>h⟩
theorem J4.Avk {fx:Ak} {s:Mst} (h:J4 fx s) (rg:List Val):J4 fx { s with rg:=rg }:=⟨h.slots,h.ctx,h.Zt,h.data,h.Vj,h.Md,h.tabs,h.rows⟩
theorem Good.Hw {fx:Ak} {s:Mst} (h:Good fx s) (d:Int) (v:Val) (hv:Dp fx v):Good fx (s.Hw d v):=
 ⟨h.mem.Avk _,⟨by show (s.rg.set _ _).length = 11;rw [List.length_set];exact h.regs.1,fun u hu=>by
  rcases List.mem_or_eq_of_mem_set hu with h' | h'
  ·exact h.regs.2 u h'
  ·rw [h'];exact hv⟩,h.slots,h.ptrs,h.sent⟩
theorem Good.N7 {fx:Ak} {s:Mst} (h:Good fx s) (d:Int) (r:Val × Int) (hv:r.2 = 0->Dp fx r.1):Good fx (Proofs.YtjacnhnaoenelaaGreat.N7 s d r).s:=by
 unfold Proofs.YtjacnhnaoenelaaGreat.N7
 by_cases hr:r.2 = 0
 ·rw [if_pos hr];exact h.Hw d _ (hv hr)
 ·rw [if_neg hr];exact h
theorem qh {fx:Ak} {v:Val} {n:Int} (hv:Gf fx v) (h:(Qv v n).2 = 0):Dp fx (Qv v n).1:=by
 unfold Qv at h ⊢
 by_cases hc:n < -2097152\/2097152 < n\/v.x + n < -1048576\/1048576 < v.x + n
 ·rw [if_pos hc] at h;exact absurd (show (85:Int) = 0 from h) (by decide)
 ·rw [if_neg hc];exact Gf.reg ⟨hv.kind,by show -1048576 <= v.x + n/\v.x + n <= 1048576;omega,hv.row⟩
theorem Awx {fx:Ak} {op:Int} {a b:Val} (ha:Dp fx a) (hb:Dp fx b) (h:(sumF op a b).2 = 0):Dp fx (sumF op a b).1:=by
 unfold sumF at h ⊢
 by_cases h1:op = 1/\2 <= a.k/\b.k = 1
 ·rw [if_pos h1] at h ⊢;exact qh (ha.ptr h1.2.1) h
 rw [if_neg h1] at h ⊢
 by_cases h2:op = 1/\a.k = 1/\2 <= b.k
 ·rw [if_pos h2] at h ⊢;exact qh (hb.ptr h2.2.2) h
 rw [if_neg h2] at h ⊢
 by_cases h3:op = 2/\2 <= a.k/\b.k = 1
 ·rw [if_pos h3] at h ⊢
  by_cases h4:b.x < -2097152
  ·rw [if_pos h4] at h;exact absurd (show (85:Int) = 0 from h) (by decide)
  ·rw [if_neg h4] at h ⊢;exact qh (ha.ptr h3.2.1) h
 rw [if_neg h3] at h ⊢
 by_cases h4:op = 2/\Ii a b = true
 ·rw [if_pos h4];have hal:=h4.2;unfold Ii at hal;simp only [Bool.and_eq_true,decide_eq_true_eq,beq_iff_eq] at hal;have h5:=(ha.ptr hal.1.2).off;have h6:=(hb.ptr (by omega)).off;exact Dp.num fx (by unfold Ey;omega)
 ·rw [if_neg h4] at h;exact absurd (show (80:Int) = 0 from h) (by decide)
theorem Aq3 {fx:Ak} {op:Int} {Ad:Bool} {a b:Val} (hop:1 <= op/\op <= 15) (ha:Dp fx a) (hb:Dp fx b) (h:(O7 op Ad a b).2 = 0):Dp fx (O7 op Ad a b).1:=by
 unfold O7 at h ⊢
 by_cases h1:op = 15/\Ad = false/\b.k ≠ 0
 ·rw [if_pos h1];exact hb
 rw [if_neg h1] at h ⊢
 by_cases h2:(if op = 15 then 1 else a.k) = 1/\(if op = 14 then 1 else b.k) = 1
 ·rw [if_pos h2];exact Dp.num fx (Aaw op Ad _ _ hop).2
 rw [if_neg h2] at h ⊢
 by_cases h3:Ad = true\/(if op = 15 then 1 else a.k) = 0\/(if op = 14 then 1 else b.k) = 0
 ·rw [if_pos h3] at h;exact absurd (show (80:Int) = 0 from h) (by decide)
 rw [if_neg h3] at h ⊢;refine Awx ?_ ?_ h
 ·split
  ·exact Dp.num fx Hl
  ·exact ha
 ·split
  ·exact Dp.num fx Hl
  ·exact hb
theorem Aud {fx:Ak} {i:Ins} {v:Val} (h:(Zg i v).2 = 0):Dp fx (Zg i v).1:=by
 unfold Zg at h ⊢
 by_cases h1:v.k ≠ 1
 ·rw [if_pos h1] at h;exact absurd (show (80:Int) = 0 from h) (by decide)
 rw [if_neg h1]
 split
 ·exact Dp.num fx (Ap0 _ _ _)
 ·exact Dp.num fx (Awk _ _ _)
theorem Aq4 (x q:Nat) (h:q <= 9223372036854775808) (hx:x < 2 * q):Ey (if x < q then (x:Int) else (x:Int) - ((2 * q:Nat):Int)):=by
 unfold Ey
 split <;> omega
theorem Aq5 (n:Nat) (hn:1 <= n):(2:Nat) ^ n = 2 * 2 ^ (n - 1):=by
 obtain ⟨m,rfl⟩:∃ m,n = m + 1:=⟨n - 1,by omega⟩;rw [Nat.pow_succ,Nat.add_sub_cancel,Nat.mul_comm]
theorem Ayh (n x:Nat) (hn:1 <= n/\n <= 64) (hx:x < 2 ^ n):Ey (G8 n x):=by
 have h2:(2:Nat) ^ (n - 1) <= 2 ^ 63:=Nat.pow_le_pow_right (by decide) (by omega);have h3:(2:Nat) ^ 63 = 9223372036854775808:=by decide
 rw [h3] at h2;have e:=Aq5 n hn.1;have h:=Aq4 x (2 ^ (n - 1)) h2 (by rw [<- e];exact hx);rw [<- e] at h;unfold G8;have e2:((2:Int) ^ n) = ((2 ^ n:Nat):Int):=by push_cast;rfl
 rw [e2];exact h
theorem Aq6 {xs:List Int} (h:Ah xs) (sg:Bool):Ey (Vl sg xs):=by
 unfold Vl
 split
 ·exact Hl
 ·rename_i hc
  cases sg with
  | false=>rw [if_neg Bool.false_ne_true];exact Ee _
  | true =>
    rw [if_pos rfl]
    have hl:1 <= xs.length/\xs.length <= 8:=by
     refine ⟨?_,by omega⟩
     cases xs with
     | nil=>exact absurd (Or.inl rfl) hc
     | cons x r=>simp
    refine Ayh _ _ (by omega) ?_;have:=Apf h
    rwa [Ags] at this
theorem Aa5 (sl:List Slot) (i:Nat):F6 sl i ∈ sl\/F6 sl i = Cc:=by
 unfold F6
 by_cases hi:i / 8 < sl.length
 ·left;rw [show sl.getD (i / 8) Cc = sl[i / 8] by simp [List.getD,hi]];exact List.getElem_mem hi
 ·right;simp [List.getD,hi]
theorem Ak1 {fx:Ak} {s:Mst} (h:Good fx s) (i:Ins):Good fx (Jz fx s i).s:=by
 unfold Jz;dsimp only
 split
 ·exact h
 ·split
  ·exact h
  ·split
   ·rename_i hc;refine h.Hw _ _ ?_
    rcases Aa5 s.sl ((s.reg i.src).x + i.off).toNat with hm | hm
    ·exact (h.ptrs _ hm (by omega)).reg
    ·rw [hm];exact Dp.none fx
   ·exact h.N7 _ _ fun _=>Dp.num fx (Aq6 (Fz h.mem _ _ _) _)
theorem Awy {fx:Ak} {sl:List Slot} (hs:Gu sl) (hb:∀ x ∈ sl,Ah x.b/\0 <= x.m/\x.m <= 255) (hp:∀ x ∈ sl,x.p.k ≠ 0->Gf fx x.p) (i:Nat) (c:Int) (hc:0 <= c/\c <= 255) :
 Gu (wr1 sl i c)/\(∀ x ∈ wr1 sl i c,Ah x.b/\0 <= x.m/\x.m <= 255)/\(∀ x ∈ wr1 sl i c,x.p.k ≠ 0->Gf fx x.p):=by
 have hmask:=Ae8 (fun y hy=>(hb y hy).2) i c
 have hY:∀ x ∈ wr1 sl i c,x ∈ sl\/(x.p.k = 0\/x.p = (F6 sl i).p/\(F6 sl i).p.k = 0)/\x.b.length = 8/\Ah x.b:=by
  intro x hx;unfold wr1 at hx;simp only at hx
  rcases List.mem_or_eq_of_mem_set hx with h' | h'
  ·exact Or.inl h'
  ·right
   rw [h'];simp only
   have hz:∀ y:Slot,y.b.length = 8->Ah y.b->(y.b.set (i % 8) c).length = 8/\Ah (y.b.set (i % 8) c):=by
    intro y h1 h2;refine ⟨by rw [List.length_set];exact h1,fun u hu=>?_⟩
    rcases List.mem_or_eq_of_mem_set hu with h' | h'
    ·exact h2 u h'
    ·rw [h'];exact hc
   have h0:Cc.b.length = 8/\Ah Cc.b:=⟨rfl,by unfold Ah;decide⟩
   by_cases hk:(F6 sl i).p.k ≠ 0
   ·rw [if_pos hk];exact ⟨Or.inl rfl,hz Cc h0.1 h0.2⟩
   ·rw [if_neg hk];refine ⟨Or.inr ⟨rfl,by omega⟩,?_⟩
    rcases Aa5 sl i with hm | hm
    ·exact hz _ (hs.2 _ hm) (hb _ hm).1
    ·rw [hm];exact hz Cc h0.1 h0.2
 refine ⟨⟨?_,fun x hx=>?_⟩,fun x hx=>⟨?_,hmask x hx⟩,fun x hx hk=>?_⟩
 ·unfold wr1;simp only;rw [List.length_set];exact hs.1
 ·rcases hY x hx with h | h
  ·exact hs.2 x h
  ·exact h.2.1
 ·rcases hY x hx with h | h
  ·exact (hb x h).1
  ·exact h.2.2
 ·rcases hY x hx with h | h
  ·exact hp x h hk
  ·rcases h.1 with h' | ⟨h1,h2⟩
   ·exact absurd h' hk
   ·rw [h1] at hk;exact absurd h2 hk
theorem Aq7 {fx:Ak}:∀ (b:List Int) (sl:List Slot) (a:Nat),Ah b->Gu sl->(∀ x ∈ sl,Ah x.b/\0 <= x.m/\x.m <= 255)->(∀ x ∈ sl,x.p.k ≠ 0->Gf fx x.p) ->
 Gu (wrF sl a b)/\(∀ x ∈ wrF sl a b,Ah x.b/\0 <= x.m/\x.m <= 255)/\(∀ x ∈ wrF sl a b,x.p.k ≠ 0->Gf fx x.p)
 | [],sl,a,_,h1,h2,h3=>⟨h1,h2,h3⟩
 | c :: b, sl, a, hb, h1, h2, h3 => by
   obtain ⟨q1,q2,q3⟩:=Awy h1 h2 h3 a c (hb c (by simp));exact Aq7 b (wr1 sl a c) (a + 1) (fun x hx=>hb x (by simp [hx])) q1 q2 q3
theorem Afc (xs:List Int) (a:Nat) (b:List Int) (h:a + b.length <= xs.length):(Jp xs a b).length = xs.length:=by
 unfold Jp;simp only [List.length_append,List.length_take,List.length_drop];omega
theorem qj {xs:List Int} (hx:Ah xs) (a:Nat) {b:List Int} (hb:Ah b):Ah (Jp xs a b):=by
 unfold Jp;exact ((hx.take a).append hb).append (fun x h=>hx x (List.mem_of_mem_drop h))
theorem Xf {fx:Ak} {s:Mst} (h:Good fx s) (p:Val) (hp:Gf fx p) (hk4:p.k ≠ 4) (a:Int) (b:List Int) (hb:Ah b) (hin:Dh fx s p a b.length = true):Good fx (Gn fx s p a b):=by
 have hw:=Fe hin;unfold Xc at hw;unfold Gn
 by_cases h2:p.k = 2
 ·rw [if_pos h2];obtain ⟨q1,q2,q3⟩:=Aq7 b s.sl a.toNat hb h.slots h.mem.slots h.ptrs;exact ⟨⟨q2,h.mem.ctx,h.mem.Zt,h.mem.data,h.mem.Vj,h.mem.Md,h.mem.tabs,h.mem.rows⟩,h.regs,q1,q3,h.sent⟩
 ·rw [if_neg h2] at hw ⊢
  by_cases h3:p.k = 3
  ·rw [if_pos h3] at hw ⊢;have hl:=Afc s.ctx a.toNat b (by omega);exact ⟨⟨h.mem.slots,qj h.mem.ctx _ hb,by show (Jp s.ctx a.toNat b).length <= 65535;rw [hl];exact h.mem.Zt,h.mem.data,h.mem.Vj,h.mem.Md,h.mem.tabs,h.mem.rows⟩,h.regs,h.slots,h.ptrs,h.sent⟩
  ·rw [if_neg h3,if_neg hk4] at hw;rw [if_neg h3];have hk:=hp.kind;obtain ⟨r1,r2,r3,r4⟩:=hp.row (by omega);obtain ⟨tn,htn⟩:∃ q:Nat,p.t = q:=⟨p.t.toNat,by omega⟩;obtain ⟨on,hon⟩:∃ q:Nat,p.o = q:=⟨p.o.toNat,by omega⟩;obtain ⟨an,rfl⟩:∃ q:Nat,a = q:=⟨a.toNat,by omega⟩;rw [htn] at r2 r4 hw;rw [hon] at r4;simp only [Int.toNat_natCast] at r4 hw;have htl:tn < fx.tabs.length:=by omega
   have hrl:tn < s.rows.length:=by rw [h.mem.Md];exact htl
   obtain ⟨q1,q2,q3,q4⟩:=h.mem.tabs tn htl;obtain ⟨hbr,hlen⟩:=h.mem.rows tn hrl;obtain ⟨wd,hwd⟩:∃ q:Nat,(fx.tabs.getD tn (0,0)).2 = q:=⟨(fx.tabs.getD tn (0,0)).2.toNat,by omega⟩;obtain ⟨rw',hrw⟩:∃ q:Nat,(fx.tabs.getD tn (0,0)).1 = q:=⟨(fx.tabs.getD tn (0,0)).1.toNat,by omega⟩;rw [hwd] at hw q3 q4;rw [hrw] at r4 q1 q2;have hlen':=hlen;rw [hwd,hrw] at hlen
   have hL:s.rows[tn].length = rw' * wd:=by
    have:((s.rows[tn].length:Nat):Int) = ((rw' * wd:Nat):Int):=by rw [hlen];push_cast;rfl
    exact_mod_cast this
   have hmul:(on + 1) * wd <= rw' * wd:=Nat.mul_le_mul_right _ (by omega);have Avg:(on + 1) * wd = on * wd + wd:=Nat.succ_mul on wd
   have hfr:Zh fx p an = on * wd + an:=by
    unfold Zh;rw [htn,hon];simp only [Int.toNat_natCast];rw [hwd];have:(on:Int) * (wd:Int) + (an:Int) = ((on * wd + an:Nat):Int):=by push_cast;rfl
    rw [this,Int.toNat_natCast]
   have hro:rowOf s p = s.rows[tn]:=by unfold rowOf;rw [htn,Int.toNat_natCast];simp [List.getD,hrl]
   rw [hfr,hro,htn,Int.toNat_natCast];have hol:=Afc s.rows[tn] (on * wd + an) b (by omega);refine ⟨⟨h.mem.slots,h.mem.ctx,h.mem.Zt,h.mem.data,h.mem.Vj,by show (s.rows.set _ _).length = _;rw [List.length_set];exact h.mem.Md,h.mem.tabs,fun k hk=>?_⟩,h.regs,h.slots,h.ptrs,h.sent⟩;have hk':k < s.rows.length:=by simpa using hk
   show Ah ((s.rows.set tn (Jp s.rows[tn] (on * wd + an) b))[k]'hk)/\_;rw [List.getElem_set]
   by_cases hkt:tn = k
   ·subst hkt;rw [if_pos rfl];refine ⟨qj hbr _ hb,?_⟩;rw [hol];exact hlen'
   ·rw [if_neg hkt];exact h.mem.rows k hk'
theorem Aq8 {fx:Ak} {s:Mst} (h:Good fx s) (i:Ins) (hi:Me fx i) (hop:i.op = 24):Good fx (Iy fx s i).s:=by
 unfold Iy;dsimp only;have hsz:=hi.ls (Or.inr hop)
 split
 ·exact h
 ·rename_i h1
  split
  ·exact h
  ·rename_i h2
   split
   ·exact h
   ·rename_i h3;have hp:=(F8 h.regs i.dst).ptr (by omega)
    split
    ·refine Xf h _ hp h2 _ _ (Vm _ _) ?_;rw [G9,show ((i.size.toNat:Nat):Int) = i.size by omega];simpa using h3
    ·split
     ·exact h
     ·rename_i h4 h5;have hb:=Acm h.regs i hi.Aa;have hbk:2 <= (s.sec i).k:=by have:=hb.kind;omega
      have hbp:=hb.ptr hbk;have hnew:∀ x ∈ s.sl.set (((s.reg i.dst).x + i.off).toNat / 8) ⟨s.sec i,[0,0,0,0,0,0,0,0],0⟩,x ∈ s.sl\/x = ⟨s.sec i,[0,0,0,0,0,0,0,0],0⟩:=fun x hx=>List.mem_or_eq_of_mem_set hx;refine ⟨⟨fun x hx=>?_,h.mem.ctx,h.mem.Zt,h.mem.data,h.mem.Vj,h.mem.Md,h.mem.tabs,h.mem.rows⟩,h.regs,⟨by show (s.sl.set _ _).length = 32;rw [List.length_set];exact h.slots.1,fun x hx=>?_⟩,fun x hx hk=>?_,h.sent⟩
      ·rcases hnew x hx with h' | h'
       ·exact h.mem.slots x h'
       ·rw [h'];refine ⟨fun y hy=>?_,by show (0:Int) <= 0;decide,by show (0:Int) <= 255;decide⟩;have:y = 0:=by simpa using hy
        omega
      ·rcases hnew x hx with h' | h'
       ·exact h.slots.2 x h'
       ·rw [h'];rfl
      ·rcases hnew x hx with h' | h'
       ·exact h.ptrs x h' hk
       ·rw [h'];exact hbp
theorem Aue {fx:Ak} {s:Mst} (h:Good fx s) (i:Ins) (hi:Me fx i) (hop:i.op = 25):Good fx (Mc fx s i).s:=by
 unfold Mc;dsimp only;have hsz:=(hi.atom hop).1
 split
 ·exact h
 ·rename_i h1
  split
  ·exact h
  ·rename_i h2
   split
   ·exact h
   ·rename_i h3
    split
    ·exact h
    ·have hp:=(F8 h.regs i.dst).ptr (by omega)
     have hG:=Xf h (s.reg i.dst) hp h2 ((s.reg i.dst).x + i.off) (Wq i.size.toNat (Yl s i (Vl false (D7 fx s (s.reg i.dst) ((s.reg i.dst).x + i.off) i.size)))) (Vm _ _) (by
      rw [G9,show ((i.size.toNat:Nat):Int) = i.size by omega];simpa using h3)
     have hv:Dp fx (nval (Vl false (D7 fx s (s.reg i.dst) ((s.reg i.dst).x + i.off) i.size))):=Dp.num fx (Aq6 (Fz h.mem _ _ _) _)
     split
     ·exact hG.Hw _ _ hv
     ·split
      ·exact hG.Hw _ _ hv
      ·exact hG
theorem Qz {fx:Ak} {s:Mst} (h:Good fx s) (v:Val) (hv:Dp fx v):Good fx (O8 s v):=by
 refine ⟨h.mem.Avk _,⟨?_,fun u hu=>?_⟩,h.slots,h.ptrs,h.sent⟩
 ·have:=h.regs.1;unfold O8;simp;omega
 ·unfold O8 at hu;simp only [List.mem_cons,List.mem_append] at hu
  rcases hu with rfl | hu | hu
  ·exact hv
  ·rw [List.eq_of_mem_replicate hu];exact Dp.none fx
  ·exact h.regs.2 u (List.mem_of_mem_drop hu)
theorem Aa6 (c:Int):∀ xs:List Int,-1 <= Lr xs c/\Lr xs c <= (xs.length:Int) - 1
 | []=>by show -1 <= (-1:Int)/\(-1:Int) <= _;simp
 | x :: xs => by
   have ih:=Aa6 c xs;have e:Lr (x :: xs) c = if x = c then 0 else if Lr xs c = -1 then -1 else Lr xs c + 1:=rfl
   rw [e,List.length_cons]
   split
   ·omega
   ·split <;> omega
theorem Afd:∀ xs ys:List Int,-1 <= X6 xs ys/\X6 xs ys <= 1
 | [],[]=>by decide
 | [],_ :: _=>by show -1 <= (-1:Int)/\(-1:Int) <= 1;decide
 | _ :: _,[]=>by show -1 <= (1:Int)/\(1:Int) <= 1;decide
 | x :: xs, y :: ys => by
   have ih:=Afd xs ys;rw [show X6 (x :: xs) (y :: ys) = if x < y then -1 else if y < x then 1 else X6 xs ys from rfl]
   split
   ·omega
   ·split <;> omega
theorem Afe (fx:Ak) (s:Mst) (v:Val) (a n:Int):(D7 fx s v a n).length <= n.toNat:=by
 unfold D7
 split
 ·unfold Qw;simp
 ·split
  ·simp;omega
  ·split
   ·simp;omega
   ·simp;omega
theorem ql {v:Val} (h:Xd v = true):0 <= v.x/\v.x <= 65535:=by
 unfold Xd at h;simp only [Bool.and_eq_true,decide_eq_true_eq] at h;omega
theorem Yq {fx:Ak} {s:Mst} {v:Val} {n:Int} {wr:Bool} (h:Jr fx s v n wr = true):2 <= v.k/\Dh fx s v v.x n = true/\(wr = true->v.k ≠ 4):=by
 unfold Jr at h;simp only [Bool.and_eq_true,decide_eq_true_eq] at h;refine ⟨h.1.1,h.1.2,fun hw=>?_⟩;have:=h.2;rw [hw] at this;simpa using this
theorem Auf {fx:Ak} {s:Mst} (h:Good fx s) (i:Ins):Good fx (J3 fx s i).s:=by
 unfold J3
 by_cases h0:i.Aa < 1\/8 < i.Aa
 ·rw [if_pos h0];exact h
 rw [if_neg h0]
 by_cases hA:Hq fx s i.Aa = false
 ·rw [if_pos hA];exact h
 rw [if_neg hA];have hA:Hq fx s i.Aa = true:=by simpa using hA
 unfold Hq at hA
 by_cases h1:i.Aa = 1
 ·rw [if_pos h1];exact Qz h _ (Dp.num fx (by have:=ah (Fz h.mem (s.reg 1) (s.reg 1).x (s.reg 2).x) (show 0 <= (s.reg 3).x % 65536/\(s.reg 3).x % 65536 <= 65535 by omega) (((D7 fx s (s.reg 1) (s.reg 1).x (s.reg 2).x).length + 1) / 2);unfold Ey Ao4 N8;omega))
 rw [if_neg h1]
 by_cases h2:i.Aa = 2
 ·rw [if_pos h2];rw [if_neg (by omega),if_pos h2] at hA;simp only [Bool.and_eq_true] at hA;obtain ⟨p1,p2,p3⟩:=Yq hA.1.2;have hl:=ql hA.1.1;obtain ⟨q1,q2,_⟩:=Yq hA.2;have hlen:=Afe fx s (s.reg 2) (s.reg 2).x (s.reg 3).x;refine Qz (Xf h _ ((F8 h.regs 1).ptr p1) (p3 rfl) _ _ (Fz h.mem _ _ _) ?_) _ (Dp.num fx Hl);obtain ⟨z1,z2⟩:=Fe p2;show Dh fx s (s.reg 1) (s.reg 1).x ((D7 fx s (s.reg 2) (s.reg 2).x (s.reg 3).x).length:Nat) = true;unfold Dh;simp only [Bool.and_eq_true,decide_eq_true_eq];omega
 rw [if_neg h2]
 by_cases h3:i.Aa = 3
 ·rw [if_pos h3];rw [if_neg (by omega),if_neg h2,if_pos h3] at hA;simp only [Bool.and_eq_true] at hA;obtain ⟨p1,p2,p3⟩:=Yq hA.2;have hl:=ql hA.1.2;refine Qz (Xf h _ ((F8 h.regs 1).ptr p1) (p3 rfl) _ _ (fun x hx=>by rw [List.eq_of_mem_replicate hx];omega) ?_) _ (Dp.num fx Hl);rw [List.length_replicate,show (((s.reg 3).x.toNat:Nat):Int) = (s.reg 3).x by omega];exact p2
 rw [if_neg h3]
 by_cases h4:i.Aa = 4
 ·rw [if_pos h4];exact Qz h _ (Dp.num fx (by have:=Afd (N8 fx s 1 3) (N8 fx s 2 3);unfold Ey;omega))
 rw [if_neg h4]
 by_cases h5:i.Aa = 5
 ·rw [if_pos h5];rw [if_pos (Or.inr h5)] at hA;simp only [Bool.and_eq_true] at hA;have hl:=ql hA.1.1;refine Qz h _ (Dp.num fx ?_);have:=Aa6 ((s.reg 3).x % 256) (N8 fx s 1 2);have hlen:=Afe fx s (s.reg 1) (s.reg 1).x (s.reg 2).x;have hlen':(N8 fx s 1 2).length <= (s.reg 2).x.toNat:=hlen;unfold Ey;omega
 rw [if_neg h5]
 by_cases h6:i.Aa = 6
 ·rw [if_pos h6]
  by_cases h7:64 <= s.sent.length
  ·rw [if_pos h7];exact Qz h _ (Dp.num fx (by unfold Ey;omega))
  ·rw [if_neg h7];refine Qz (s:={ s with sent:=s.sent ++ [(s.reg 1).x] }) ⟨⟨h.mem.slots,h.mem.ctx,h.mem.Zt,h.mem.data,h.mem.Vj,h.mem.Md,h.mem.tabs,h.mem.rows⟩,h.regs,h.slots,h.ptrs,⟨?_,fun x hx=>?_⟩⟩ _ (Dp.num fx Hl)
   ·show (s.sent ++ [(s.reg 1).x]).length <= 64;simp;omega
   ·rcases List.mem_append.1 hx with h' | h'
    ·exact h.sent.2 x h'
    ·have:x = (s.reg 1).x:=by simpa using h'
     rw [this];exact (F8 h.regs 1).x
 rw [if_neg h6]
 by_cases h7:i.Aa = 7
 ·rw [if_pos h7]
  by_cases h9:(s.reg 1).x < 0\/(fx.tabs.length:Int) <= (s.reg 1).x
  ·rw [if_pos h9];exact h
  ·rw [if_neg h9];refine Qz h _ ?_
   by_cases h8:0 <= (s.reg 2).x/\(s.reg 2).x < (fx.tabs.getD (s.reg 1).x.toNat (0,0)).1
   ·rw [if_pos h8];exact Gf.reg ⟨by show (2:Int) <= 5/\(5:Int) <= 5;decide,by show -1048576 <= (0:Int)/\(0:Int) <= 1048576;decide,fun _=>⟨by show 0 <= (s.reg 1).x;omega,by show (s.reg 1).x < _;omega,h8.1,h8.2⟩⟩
   ·rw [if_neg h8];exact Dp.num fx Hl
 rw [if_neg h7];exact Qz h _ (Dp.num fx (Ee _))
theorem Awz {fx:Ak} {s:Mst} (h:Good fx s) (i:Ins) (hi:Me fx i):Good fx (Ij fx s i).s:=by
 have ho:=hi.op;unfold Ij
 split
 ·exact h.N7 _ _ fun he=>Aq3 (by omega) (F8 h.regs _) (Acm h.regs i hi.Aa) he
 split
 ·exact h.N7 _ _ fun he=>Aud he
 split
 ·refine h.N7 _ _ fun _=>?_
  split
  ·rename_i h21;have hd:=hi.data h21;have hl:=h.mem.Vj;exact Gf.reg ⟨by show (2:Int) <= 4/\(4:Int) <= 5;decide,by show -1048576 <= i.Aa/\i.Aa <= 1048576;omega,fun hc=>absurd (show (4:Int) = 5 from hc) (by decide)⟩
  ·exact Dp.num fx hi.Aa
 split
 ·exact Ak1 h i
 split
 ·rename_i h24;exact Aq8 h i hi h24
 split
 ·rename_i h25;exact Aue h i hi h25
 split
 ·exact h
 split
 ·exact h
 split
 ·exact Auf h i
 ·unfold leaveD
  split
  ·exact ⟨⟨h.mem.slots,h.mem.ctx,h.mem.Zt,h.mem.data,h.mem.Vj,h.mem.Md,h.mem.tabs,h.mem.rows⟩,h.regs,h.slots,h.ptrs,h.sent⟩
  ·exact h
theorem Good.count {fx:Ak} {s:Mst} (h:Good fx s) (at':Nat) (steps:Int):Good fx { s with at':=at',steps:=steps }:=
 ⟨⟨h.mem.slots,h.mem.ctx,h.mem.Zt,h.mem.data,h.mem.Vj,h.mem.Md,h.mem.tabs,h.mem.rows⟩,h.regs,h.slots,h.ptrs,h.sent⟩
theorem Aq9 {fx:Ak} {s:Mst} (h:Good fx s) (i:Ins) (hi:Me fx i) (hg:fx.code[s.at']? = some i):Good fx (Fq fx s).2:=by
 unfold Fq
 split
 ·exact h
 ·have hg':fx.code.getD s.at' ⟨0,false,false,0,0,0,0,0⟩ = i:=by rw [List.getD_eq_getElem?_getD,hg];rfl
  simp only [hg'];have hd:=Awz h i hi
  split
  ·exact h
  ·split
   ·exact hd.count _ _
   ·split
    ·exact hd.count _ _
    ·exact h
structure FP (w0:World) (bx ib ab:Nat) (cs:List Value) (op:Int) (Ad reg:Bool) (size dst src off Aa:Int) (a:List Value) (w1:World):Prop where
 fm:FM w0 bx ib cs op Ad reg size dst src off Aa w1
 ra:Row w1 ab 57 a
 la:w0.heap.size <= ab
 nai:ab ≠ ib
 nax:ab ≠ bx
def Ob (w0:World) (bx ib ab:Nat) (op:Int) (Ad reg:Bool) (size dst src off Aa:Int) (a:List Value) (w1:World):Prop:=∃ cs,FP w0 bx ib ab cs op Ad reg size dst src off Aa a w1/\cs.length = 471
section
variable {w0 w1 w2:World} {bx ib ab:Nat} {cs:List Value} {op:Int} {Ad reg:Bool} {size dst src off Aa:Int} {a:List Value}
theorem FP.next (h:FP w0 bx ib ab cs op Ad reg size dst src off Aa a w1) (hb:Below w1.heap.size w1 w2):FP w0 bx ib ab cs op Ad reg size dst src off Aa a w2:=
 ⟨h.fm.next hb,h.ra.below hb h.ra.lt,h.la,h.nai,h.nax⟩
theorem FP.D9 (h:FP w0 bx ib ab cs op Ad reg size dst src off Aa a w1) (k:Nat) (x0 x1 x2 x3:Value):FP w0 bx ib ab (Proofs.YtjacnhnaoenelaaGreat.D9 cs k x0 x1 x2 x3) op Ad reg size dst src off Aa a ((((w1.setCell ⟨bx,k,none⟩ x0).setCell ⟨bx,k + 1,none⟩ x1).setCell ⟨bx,k + 2,none⟩ x2).setCell ⟨bx,k + 3,none⟩ x3):=
 ⟨h.fm.D9 k x0 x1 x2 x3,(((h.ra.other ⟨bx,k,none⟩ x0 h.nax).other ⟨bx,k + 1,none⟩ x1 h.nax).other ⟨bx,k + 2,none⟩ x2 h.nax).other ⟨bx,k + 3,none⟩ x3 h.nax,h.la,h.nai,h.nax⟩
theorem FP.Avu {y0 y1 y2 y3:Value} (h:FP w0 bx ib ab cs op Ad reg size dst src off Aa [y0,y1,y2,y3] w1) (x0 x1 x2 x3:Value) :
 FP w0 bx ib ab cs op Ad reg size dst src off Aa [x0,x1,x2,x3] ((((w1.setCell ⟨ab,0,none⟩ x0).setCell ⟨ab,1,none⟩ x1).setCell ⟨ab,2,none⟩ x2).setCell ⟨ab,3,none⟩ x3):=
 ⟨h.fm.Nq h.nax h.nai h.la x0 x1 x2 x3,h.ra.Wi x0 x1 x2 x3,h.la,h.nai,h.nax⟩
theorem FM.made (h:FM w0 bx ib cs op Ad reg size dst src off Aa w1) (a:List Value):FP w0 bx ib w1.heap.size cs op Ad reg size dst src off Aa a (w1.alloc (.cells a.toArray 57)):=by
 have h1:=h.Ar.lt;have h2:=h.ins.lt;have h3:=h.mod.size;exact ⟨h.box _,Row.made w1 a _,h3,by omega,by omega⟩
theorem Ob.next (h:Ob w0 bx ib ab op Ad reg size dst src off Aa a w1) (hb:Below w1.heap.size w1 w2):Ob w0 bx ib ab op Ad reg size dst src off Aa a w2:=let ⟨cs,h1,h2⟩:=h;⟨cs,h1.next hb,h2⟩
theorem Ob.D9 (h:Ob w0 bx ib ab op Ad reg size dst src off Aa a w1) (k:Nat) (x0 x1 x2 x3:Value):Ob w0 bx ib ab op Ad reg size dst src off Aa a ((((w1.setCell ⟨bx,k,none⟩ x0).setCell ⟨bx,k + 1,none⟩ x1).setCell ⟨bx,k + 2,none⟩ x2).setCell ⟨bx,k + 3,none⟩ x3):=
 let ⟨cs,h1,h2⟩:=h;⟨_,h1.D9 k x0 x1 x2 x3,by unfold Proofs.YtjacnhnaoenelaaGreat.D9;simp [h2]⟩
end
section
variable {w0 w1 w2:World} {bx ib ab:Nat} {cs:List Value} {op:Int} {Ad reg:Bool} {size dst src off Aa:Int} {x0 x1 x2 x3:Value}
theorem Ob.k (h:Ob w0 bx ib ab op Ad reg size dst src off Aa [x0,x1,x2,x3] w1):w1.cell? ⟨ib,0,none⟩ = some (.int .i64 op)/\w1.cell? ⟨ib,1,none⟩ = some (.bool Ad)/\w1.cell? ⟨ib,3,none⟩ = some (.int .i64 size)/\w1.cell? ⟨ib,4,none⟩ = some (.int .i64 dst)/\w1.cell? ⟨ab,3,none⟩ = some x3/\Ob w0 bx ib ab op Ad reg size dst src off Aa [x0,x1,x2,x3] w1:=
 let ⟨cs,h1,h2⟩:=h;⟨h1.fm.cells.1,h1.fm.cells.2.1,h1.fm.cells.2.2.2.1,h1.fm.cells.2.2.2.2.1,h1.ra.four.1.2.2.2,h⟩
theorem Ob.n (h:w1.cell? ⟨ib,0,none⟩ = some (.int .i64 op)/\w1.cell? ⟨ib,1,none⟩ = some (.bool Ad)/\w1.cell? ⟨ib,3,none⟩ = some (.int .i64 size)/\w1.cell? ⟨ib,4,none⟩ = some (.int .i64 dst)/\w1.cell? ⟨ab,3,none⟩ = some x3/\Ob w0 bx ib ab op Ad reg size dst src off Aa [x0,x1,x2,x3] w1) (hb:Below w1.heap.size w1 w2):w2.cell? ⟨ib,0,none⟩ = some (.int .i64 op)/\w2.cell? ⟨ib,1,none⟩ = some (.bool Ad)/\w2.cell? ⟨ib,3,none⟩ = some (.int .i64 size)/\w2.cell? ⟨ib,4,none⟩ = some (.int .i64 dst)/\w2.cell? ⟨ab,3,none⟩ = some x3/\Ob w0 bx ib ab op Ad reg size dst src off Aa [x0,x1,x2,x3] w2:=(h.2.2.2.2.2.next hb).k
theorem Ob.s (h:w1.cell? ⟨ib,0,none⟩ = some (.int .i64 op)/\w1.cell? ⟨ib,1,none⟩ = some (.bool Ad)/\w1.cell? ⟨ib,3,none⟩ = some (.int .i64 size)/\w1.cell? ⟨ib,4,none⟩ = some (.int .i64 dst)/\w1.cell? ⟨ab,3,none⟩ = some x3/\Ob w0 bx ib ab op Ad reg size dst src off Aa [x0,x1,x2,x3] w1) (k:Nat) (y0 y1 y2 y3:Value) :
 ((((w1.setCell ⟨bx,k,none⟩ y0).setCell ⟨bx,k + 1,none⟩ y1).setCell ⟨bx,k + 2,none⟩ y2).setCell ⟨bx,k + 3,none⟩ y3).cell? ⟨ib,0,none⟩ = some (.int .i64 op)/\((((w1.setCell ⟨bx,k,none⟩ y0).setCell ⟨bx,k + 1,none⟩ y1).setCell ⟨bx,k + 2,none⟩ y2).setCell ⟨bx,k + 3,none⟩ y3).cell? ⟨ib,1,none⟩ = some (.bool Ad)/\((((w1.setCell ⟨bx,k,none⟩ y0).setCell ⟨bx,k + 1,none⟩ y1).setCell ⟨bx,k + 2,none⟩ y2).setCell ⟨bx,k + 3,none⟩ y3).cell? ⟨ib,3,none⟩ = some (.int .i64 size)/\((((w1.setCell ⟨bx,k,none⟩ y0).setCell ⟨bx,k + 1,none⟩ y1).setCell ⟨bx,k + 2,none⟩ y2).setCell ⟨bx,k + 3,none⟩ y3).cell? ⟨ib,4,none⟩ = some (.int .i64 dst)/\((((w1.setCell ⟨bx,k,none⟩ y0).setCell ⟨bx,k + 1,none⟩ y1).setCell ⟨bx,k + 2,none⟩ y2).setCell ⟨bx,k + 3,none⟩ y3).cell? ⟨ab,3,none⟩ = some x3/\Ob w0 bx ib ab op Ad reg size dst src off Aa [x0,x1,x2,x3] ((((w1.setCell ⟨bx,k,none⟩ y0).setCell ⟨bx,k + 1,none⟩ y1).setCell ⟨bx,k + 2,none⟩ y2).setCell ⟨bx,k + 3,none⟩ y3):=(h.2.2.2.2.2.D9 k y0 y1 y2 y3).k
end
theorem Ak2 (Ad reg:Bool) (size off Aa:Int) (d s:Nat) (hd:d < 11) (hs:s < 11) (bx:Nat) (cs:List Value) (hl:cs.length = 471) (a v:Val) (Gm:Ie cs d a) (hu:Ie cs s v) (w:World) (h:Row w bx 87 cs) :
 Calls prog 53 #[.pointer (some ⟨bx,0,none⟩),.agg #[.int .i64 16,.bool Ad,.bool reg,.int .i64 size,.int .i64 d,.int .i64 s,.int .i64 off,.int .i64 Aa]] w (fun e w'=>(v.k = 1/\Wrote w bx (D9 cs (423 + d * 4) (.int .i64 1) (.int .i64 0) (.int .i64 0) (.int .i64 (Aca size Ad v.x))) 0 0 e w')\/(v.k ≠ 1/\Wrote w bx cs 0 80 e w')):=by
 have hj1:(0:Int) <= (d:Int):=by omega
 have hj2:(d:Int) < 11:=by omega
 have hi1:(0:Int) <= (s:Int):=by omega
 have hi2:(s:Int) < 11:=by omega
 have HF:=hid (FM.begin h 16 Ad reg size d s off Aa);clear h;obtain ⟨ak,at',ao,ax⟩:=a;obtain ⟨vk,vt,vo,vx⟩:=v;simp only;go_enter func53,ntmps53;go_upto_region 1 with fail;generalize World.alloc _ _ = w1 at HF ⊢;obtain ⟨c0,c1,c2,c3,c4,c5,c6,c7⟩:=HF.out.cells;obtain ⟨a0,a1,a2,a3⟩:=Gm.row HF.out.Ar;obtain ⟨v0,v1,v2,v3⟩:=hu.row HF.out.Ar;simp only at a0 a1 a2 a3 v0 v1 v2 v3;have hlt:=HF.out.Ar.lt;have hlt2:=HF.out.ins.lt
 go_region
 go_wp2_with fail
 go_region
 clear c0 c1 c2 c3 c4 c5 c6 c7 a0 a1 a2 a3 v0 v1 v2 v3;have HP:=hid (((HF.out.made [.int .i64 vk,.int .i64 vt,.int .i64 vo,.int .i64 vx]).next (Below.refl _ _).drew).next (Below.refl _ _).drew);generalize hq:w1.heap.size = q at HP ⊢;generalize World.drew _ = w2 at HP ⊢;obtain ⟨c0,c1,c2,c3,c4,c5,c6,c7⟩:=HP.out.fm.cells;obtain ⟨⟨b0,b1,b2,b3⟩,_⟩:=HP.out.ra.four
 by_cases hk:vk = 1
 ·subst hk;go_upto_region 8 with (go_at_call 67;refine (Af _ _ _ _ _).mono ?_;rintro e w' ⟨rfl,hb⟩;have hFP:=HP.out.next hb;obtain ⟨_,_,_,_,_,_,_,_⟩:=hFP.fm.cells);have HX:=hid hFP;generalize w' = w3 at HX ⊢;have hks:=((show Ob w bx w.heap.size q 16 Ad reg size d s off Aa [.int .i64 1,.int .i64 vt,.int .i64 vo,.int .i64 vx] w3 from ⟨_,HX.out,hl⟩).next (Below.refl _ _).drew).k
  go_region_held3 (fun w'=>w'.cell? ⟨w.heap.size,0,none⟩ = some (.int .i64 16)/\w'.cell? ⟨w.heap.size,1,none⟩ = some (.bool Ad)/\w'.cell? ⟨w.heap.size,3,none⟩ = some (.int .i64 size)/\w'.cell? ⟨w.heap.size,4,none⟩ = some (.int .i64 d)/\w'.cell? ⟨q,3,none⟩ = some (.int .i64 vx)/\Ob w bx w.heap.size q 16 Ad reg size d s off Aa [.int .i64 1,.int .i64 vt,.int .i64 vo,.int .i64 vx] w')
   (first
     | with_reducible assumption
     | with_reducible exact Ob.n (by with_reducible assumption) hbN
     | with_reducible exact Ob.s (by with_reducible assumption) _ _ _ _ _
     | fail "none")
   (first
     | (go_at_call 70;refine (Ael _ _ _ _).mono ?_;rintro e wE ⟨rfl,rfl⟩;have hE:=HX.out.next (Below.refl _ _).drew)
     | (go_at_call 35;refine (Gh _ _).mono ?_;rintro e wN ⟨rfl,hbN⟩;have hFc:=hE.next hbN;obtain ⟨_,_,_,_,⟨_,_,_,_⟩,_,_,_,_⟩:=hFc.fm.row4 hl d hd))
  rename_i C9;have HF2:=hid (hFc.fm.D9 (423 + d * 4) (.int .i64 1) (.int .i64 0) (.int .i64 0) (.int .i64 (Aca size Ad vx)));clear C9 hks hFc hE;generalize World.setCell _ _ _ = w4 at HF2 ⊢;go_wp2;exact bodyPost_ret (v:=.tuple #[.int .i64 0,.int .i64 0]) (by simp [results,results53,go_sem]) rfl ⟨rfl,HF2.out.mod,HF2.out.Ar⟩
 ·have hkt:(vk == 1) = false:=by simpa using hk
  go_wp2_with (go_at_call 67;refine (Af _ _ _ _ _).mono ?_;rintro e w' ⟨rfl,hb⟩;have hFP:=HP.out.next hb;obtain ⟨_,_,_,_,_,_,_,_⟩:=hFP.fm.cells);exact bodyPost_ret (v:=.tuple #[.int .i64 0,.int .i64 80]) (by simp [results,results53,go_sem]) rfl (Or.inr ⟨hk,rfl,hFP.fm.mod,hFP.fm.Ar⟩)
theorem Ak3 (op:Int) (hop:17 <= op/\op <= 19) (Ad reg:Bool) (size src off Aa:Int) (d:Nat) (hd:d < 11) (bx:Nat) (cs:List Value) (hl:cs.length = 471) (v:Val) (hu:Ie cs d v) (hr:Ey v.x) (w:World) (h:Row w bx 87 cs) :
 Calls prog 53 #[.pointer (some ⟨bx,0,none⟩),.agg #[.int .i64 op,.bool Ad,.bool reg,.int .i64 size,.int .i64 d,.int .i64 src,.int .i64 off,.int .i64 Aa]] w (fun e w'=>(v.k = 1/\Wrote w bx (D9 cs (423 + d * 4) (.int .i64 1) (.int .i64 0) (.int .i64 0) (.int .i64 (Il size (op != 17) v.x))) 0 0 e w')\/(v.k ≠ 1/\Wrote w bx cs 0 80 e w')):=by
 have hj1:(0:Int) <= (d:Int):=by omega
 have hj2:(d:Int) < 11:=by omega
 have q16:(op == 16) = false:=by simp;omega
 have HF:=hid (FM.begin h op Ad reg size d src off Aa);clear h;obtain ⟨vk,vt,vo,vx⟩:=v;simp only at hr ⊢;have HR:=hid hr;obtain ⟨T,hT⟩:∃ T:Bool,(op != 17) = T:=⟨_,rfl⟩;rw [hT];clear hr hop;go_enter func53,ntmps53;go_upto_region 1 with fail;generalize World.alloc _ _ = w1 at HF ⊢;obtain ⟨c0,c1,c2,c3,c4,c5,c6,c7⟩:=HF.out.cells;obtain ⟨v0,v1,v2,v3⟩:=hu.row HF.out.Ar;simp only at v0 v1 v2 v3;have hlt:=HF.out.Ar.lt;have hlt2:=HF.out.ins.lt
 go_region
 go_upto_region 5 with fail;clear c0 c1 c2 c3 c4 c5 c6 c7 v0 v1 v2 v3;have HP:=hid (((HF.out.made [.int .i64 vk,.int .i64 vt,.int .i64 vo,.int .i64 vx]).next (Below.refl _ _).drew));generalize hq:w1.heap.size = q at HP ⊢;generalize World.drew _ = w2 at HP ⊢;obtain ⟨c0,c1,c2,c3,c4,c5,c6,c7⟩:=HP.out.fm.cells;obtain ⟨⟨b0,b1,b2,b3⟩,_⟩:=HP.out.ra.four
 by_cases hk:vk = 1
 ·subst hk;go_upto_region 4 with (go_at_call 67;refine (Af _ _ _ _ _).mono ?_;rintro e w' ⟨rfl,hb⟩;have hFP:=HP.out.next hb;obtain ⟨_,_,_,_,_,_,_,_⟩:=hFP.fm.cells);have HX:=hid hFP;generalize w' = w3 at HX ⊢;have hks:=((show Ob w bx w.heap.size q op Ad reg size d src off Aa [.int .i64 1,.int .i64 vt,.int .i64 vo,.int .i64 vx] w3 from ⟨_,HX.out,hl⟩).next (Below.refl _ _).drew).k
  go_region_held3 (fun w'=>w'.cell? ⟨w.heap.size,0,none⟩ = some (.int .i64 op)/\w'.cell? ⟨w.heap.size,1,none⟩ = some (.bool Ad)/\w'.cell? ⟨w.heap.size,3,none⟩ = some (.int .i64 size)/\w'.cell? ⟨w.heap.size,4,none⟩ = some (.int .i64 d)/\w'.cell? ⟨q,3,none⟩ = some (.int .i64 vx)/\Ob w bx w.heap.size q op Ad reg size d src off Aa [.int .i64 1,.int .i64 vt,.int .i64 vo,.int .i64 vx] w')
   (first
     | with_reducible assumption
     | with_reducible exact Ob.n (by with_reducible assumption) hbN
     | with_reducible exact Ob.s (by with_reducible assumption) _ _ _ _ _
     | fail "none")
   (first
     | (go_at_call 71;refine (Am2 _ _ _ HR.out _).mono ?_;rintro e wE ⟨rfl,rfl⟩;have hE:=HX.out.next (Below.refl _ _).drew)
     | (go_at_call 35;refine (Gh _ _).mono ?_;rintro e wN ⟨rfl,hbN⟩;have hFc:=hE.next hbN;obtain ⟨_,_,_,_,⟨_,_,_,_⟩,_,_,_,_⟩:=hFc.fm.row4 hl d hd))
  rename_i C9;have HF2:=hid (hFc.fm.D9 (423 + d * 4) (.int .i64 1) (.int .i64 0) (.int .i64 0) (.int .i64 (Il size T vx)));clear C9 hks hFc hE;generalize World.setCell _ _ _ = w4 at HF2 ⊢;go_wp2;exact bodyPost_ret (v:=.tuple #[.int .i64 0,.int .i64 0]) (by simp [results,results53,go_sem]) rfl ⟨rfl,HF2.out.mod,HF2.out.Ar⟩
 ·have hkt:(vk == 1) = false:=by simpa using hk
  go_wp2_with (go_at_call 67;refine (Af _ _ _ _ _).mono ?_;rintro e w' ⟨rfl,hb⟩;have hFP:=HP.out.next hb;obtain ⟨_,_,_,_,_,_,_,_⟩:=hFP.fm.cells);exact bodyPost_ret (v:=.tuple #[.int .i64 0,.int .i64 80]) (by simp [results,results53,go_sem]) rfl (Or.inr ⟨hk,rfl,hFP.fm.mod,hFP.fm.Ar⟩)
def Ak4 (w:World) (er:Int):Ending->World->Prop:=fun e w'=>e = .returned (.tuple #[.pointer none,.int .i64 er])/\Below w.heap.size w w'
theorem Auh (lo hi:Int) (data:List Int) (tabs:List (Int × Int)) (code:List Ins) (da ta ca xa ra:Option Addr) (dc tc cc xn xc rn rc:Nat)
 (hmd:¬ (Vo.mk lo hi data tabs code).made) (hld:data.length <= 4611686018427387903) (hlt:tabs.length <= 4611686018427387903) (hlc:code.length <= 4611686018427387903) (w:World)
 (ht:Tabs w (.slice ta tabs.length tc) tabs) (hc:Fa w (.slice ca code.length cc) code) :
 Calls prog 9 #[.agg #[.int .i64 lo,.int .i64 hi,.slice da data.length dc,.slice ta tabs.length tc,.slice ca code.length cc],.agg #[.slice xa xn xc,.slice ra rn rc]] w (Ak4 w 1):=by
 have Nz:=fun w' (h1:Tabs w' (.slice ta tabs.length tc) tabs) (h2:Fa w' (.slice ca code.length cc) code)=>Acb (Vo.mk lo hi data tabs code) da ta ca dc tc cc hld hlt hlc w' h1 h2;simp only at Nz;have hB0:=((Below.refl w.heap.size w).alloc nl (.cells #[.int .i64 lo,.int .i64 hi,.slice da data.length dc,.slice ta tabs.length tc,.slice ca code.length cc] 26)).alloc (by simp) (.cells #[.slice xa xn xc,.slice ra rn rc] 29);have Aeu:=hid (Nz _ (Reads.below ht hB0 nl) (hc.below hB0 nl));have HB0:=hid hB0;have HMD:=hid hmd;clear Nz hB0 hmd ht hc hld hlt hlc;generalize data.length = nd at *;generalize tabs.length = nt at *;generalize code.length = nc at *;go_enter func9,ntmps9;go_wp2_with fail;refine (Aeu.out).mono ?_;rintro e w1 ⟨d,rfl,hiff,hB⟩
 obtain rfl:d = false:=by
  cases d with
  | false=>rfl
  | true=>exact absurd (hiff.1 rfl) HMD.out
 have hBB:=HB0.out.trans (hB.mono (by simp;omega));go_wp2;exact bodyPost_ret (v:=.tuple #[.pointer none,.int .i64 1]) (by simp [results,results9,go_sem]) rfl ⟨rfl,hBB⟩
theorem Anz {w:World} {base:Nat} {ρ:Nat->Nat} {tv:Value} {vals:List Value} {rows:List (List Int)} (h:F9 w base ρ tv vals rows) (hb:∀ k (h:k < rows.length),Ah rows[k]):Es w tv vals rows:=by
 have hl:vals.length = rows.length:=by have:=h.list.1.1;omega
 refine ⟨Gl h.list.1 (fun u hu=>?_) (by decide),fun i hi=>?_⟩
 ·obtain ⟨k,hk,rfl⟩:=List.getElem_of_mem hu;obtain ⟨u,hu2,ho⟩:=h.item k (by omega);rw [List.getElem?_eq_getElem hk] at hu2;obtain rfl:=Option.some.inj hu2;obtain ⟨a,c,hv⟩:=Ai ho.1;rw [hv];rfl
 ·obtain ⟨u,hu2,ho⟩:=h.item i hi;exact ⟨u,hu2,Dq ho.1 (hb i hi) rfl⟩
def Au (s:Mst) (xv tv sv:Value):List Value:=Ei s.rg ++ (s.st ++ [xv,tv,sv,.int .i64 s.at',.int .i64 s.steps,.bool s.done])
def Ara (f:Nat->Value):List Value:=(List.range 44).map f
def Aix (f:Nat->Value):List Value:=(List.range 416).map f
theorem Aff (f g:Nat->Value) (a b c:Option Addr) (n1 c1 n2 c2 n3 c3:Nat) (at' steps:Int) (done:Bool) :
 prog.built 64 [(0,.agg (Ara f).toArray),(1,.agg (Aix g).toArray),(2,.slice a n1 c1),(3,.slice b n2 c2),(4,.slice c n3 c3),(5,.int .i64 at'),(6,.int .i64 steps),(7,.bool done)] =
  some (Ara f ++ (Aix g ++ [Value.slice a n1 c1,Value.slice b n2 c2,Value.slice c n3 c3,Value.int .i64 at',Value.int .i64 steps,Value.bool done])).toArray:=by
 kernel_rfl
theorem Arb (n:Nat) (l:List Value) (h:l.length = n):l = (List.range n).map fun i=>l.getD i undef:=by
 apply List.ext_getElem
 ·simp [h]
 ·intro i h1 h2;simp [List.getD,h1]
theorem An0 (s:Mst) (h1:(Ei s.rg).length = 44) (h2:s.st.length = 416) (a b c:Option Addr) (n1 c1 n2 c2 n3 c3:Nat) (w:World) :
 (Instr.build 64 #[(0, .agg (Ei s.rg).toArray), (1, .agg s.st.toArray), (2, .slice a n1 c1), (3, .slice b n2 c2), (4, .slice c n3 c3), (5, .int .i64 s.at'), (6, .int .i64 s.steps), (7, .bool s.done)]).run prog w =
   .ok (.agg (Au s (.slice a n1 c1) (.slice b n2 c2) (.slice c n3 c3)).toArray) w:=by
 refine run_build w _ _ _ ?_;have e1:=Arb 44 _ h1;have e2:=Arb 416 _ h2;have:=Aff (fun i=>(Ei s.rg).getD i undef) (fun i=>s.st.getD i undef) a b c n1 c1 n2 c2 n3 c3 s.at' s.steps s.done;unfold Ara Aix at this;rw [<- e1,<- e2] at this;exact this
theorem Arc (fx:Ak) (i:Ins) (a b:Val) (hop:27 <= i.op/\i.op <= 37) (ha:Dp fx a) (hb:Dp fx b) :
 Rl i.op i.Ad i.reg i.off i.Aa a.k a.t a.o a.x b.k b.t b.o b.x (if (Qx i a b).2 = 0/\(Qx i a b).1 = true then i.off else 0) (Qx i a b).2:=by
 obtain ⟨op,Ad,reg,size,dst,src,off,Aa⟩:=i;simp only at hop;unfold Qx;simp only
 by_cases h1:a.k = 1/\b.k = 1
 ·rw [if_pos h1];refine Rl.num (jm op Ad a.x b.x) h1.1 h1.2 (jo op Ad a.x b.x ha.x hb.x hop) ?_ rfl
  cases jm op Ad a.x b.x <;> simp
 ·rw [if_neg h1]
  have hn:((a.k == 1) && (b.k == 1)) = false:=by
   cases hx:(a.k == 1) && (b.k == 1) with
   | false=>rfl
   | true =>
     rw [Bool.and_eq_true] at hx;exact absurd ⟨eq_of_beq hx.1,eq_of_beq hx.2⟩ h1
  by_cases h2:Ad = true\/a.k = 0\/b.k = 0
  ·rw [if_pos h2];refine Rl.trap hn ?_ (by simp) rfl
   rcases h2 with h | h | h
   ·rw [h];rfl
   ·rw [h];simp
   ·rw [h];simp
  ·rw [if_neg h2]
   have n1:Ad = false:=by
    cases Ad
    ·rfl
    ·exact absurd (Or.inl rfl) h2
   have n2:(a.k == 0) = false:=by
    have:¬a.k = 0:=fun h=>h2 (Or.inr (Or.inl h));simpa using this
   have n3:(b.k == 0) = false:=by
    have:¬b.k = 0:=fun h=>h2 (Or.inr (Or.inr h));simpa using this
   by_cases h3:Ii a b = true/\op ≠ 37
   ·rw [if_pos h3];have hop':27 <= (if 29 <= op/\op <= 32 then op + 4 else op)/\(if 29 <= op/\op <= 32 then op + 4 else op) <= 37:=by split <;> omega
    refine Rl.ptr (jm (if 29 <= op/\op <= 32 then op + 4 else op) false a.x b.x) (if 29 <= op/\op <= 32 then op + 4 else op) hn n1 n2 n3 h3.1 (by simpa using h3.2) ?_ (jo _ false a.x b.x ha.x hb.x hop') ?_ rfl
    ·by_cases h:29 <= op/\op <= 32
     ·rw [if_pos h,if_pos (by simp [h.1,h.2])]
     ·rw [if_neg h,if_neg (by simpa using h)]
    ·cases jm (if 29 <= op/\op <= 32 then op + 4 else op) false a.x b.x <;> simp
   ·rw [if_neg h3]
    have h3':(Ii a b && (op != 37)) = false:=by
     cases hx:Ii a b && (op != 37) with
     | false=>rfl
     | true =>
       rw [Bool.and_eq_true] at hx;exact absurd ⟨hx.1,by simpa using hx.2⟩ h3
    by_cases h4:a.k = 5/\reg = false/\Aa = 0/\(op = 27\/op = 28)
    ·rw [if_pos h4];refine Rl.row hn n1 n2 n3 h3' ?_ ?_ rfl
     ·obtain ⟨q1,q2,q3,q4⟩:=h4;rw [q1,q2,q3]
      rcases q4 with q | q <;> rw [q] <;> rfl
     ·simp
    ·rw [if_neg h4];refine Rl.none hn n1 n2 n3 h3' ?_ (by simp) rfl
     cases hx:(a.k == 5) && !reg && (Aa == 0) && ((op == 27) || (op == 28)) with
     | false=>rfl
     | true =>
       simp only [Bool.and_eq_true,Bool.or_eq_true,Bool.not_eq_true',beq_iff_eq] at hx;exact absurd ⟨hx.1.1.1,hx.1.1.2,hx.1.2,hx.2⟩ h4
theorem Acn {op:Int} (h:27 <= op/\op <= 37):D8 op = 59:=by
 unfold D8;rw [if_neg (by omega),if_neg (by omega),if_neg (by omega),if_neg (by omega),if_neg (by omega),if_neg (by omega),if_neg (by omega),if_pos (by omega)]
theorem Aiy (fx:Ak) (s:Mst) (i:Ins) (hop:27 <= i.op/\i.op <= 37) (hd:0 <= i.dst/\i.dst < 11) (hsr:i.reg = true->0 <= i.src/\i.src < 11) (Ae9:Ey i.Aa) (hR:pz fx s) :
 DoR (D8 i.op) fx s i (Ux s i).by' (Ux s i).er (Ux s i).s:=by
 rw [Acn hop];obtain ⟨op,Ad,reg,size,dst,src,off,Aa⟩:=i;simp only at hop hd hsr Ae9;obtain ⟨d,rfl⟩:∃ d:Nat,dst = d:=⟨dst.toNat,by omega⟩;have hd':d < 11:=by omega
 unfold Ux;simp only;refine Qu fun bx cs w hl hr hl2 hw=>?_
 have hu:Ie cs d (s.reg d):=by
  rw [s.Ir d (by omega)];exact hr d hd' hl2
 have hm:=Arc fx ⟨op,Ad,reg,size,d,src,off,Aa⟩ (s.reg d) (s.sec ⟨op,Ad,reg,size,d,src,off,Aa⟩) hop (F8 hR d) (Acm hR _ Ae9);exact Afa op Ad reg size src off Aa d hd' hop bx cs hl _ _ _ _ _ _ _ _ hu (fun w' h'=>qg (s:=s) ⟨op,Ad,reg,size,d,src,off,Aa⟩ hsr bx cs hl2 hr w' h') _ _ hm w hw
end Go.Proofs.YtjacnhnaoenelaaGreat
