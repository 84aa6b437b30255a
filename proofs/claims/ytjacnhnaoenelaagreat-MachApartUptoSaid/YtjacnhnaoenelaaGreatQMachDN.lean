import Derived.Test.YtjacnhnaoenelaaGreatQGa
import Derived.Deep.Slices
import Derived.Lib.SmallJoins
set_option maxRecDepth 100000
namespace Go.Proofs.YtjacnhnaoenelaaGreat
open Go.Proofs.Tryz
open Go.RowKit Go.ChangeShapes Go.WideShapes Go.Deep
set_option linter.unusedVariables false
set_option linter.unusedSimpArgs false
theorem flat_get {α β:Type} (f:α->List β) (c:Nat):∀ (l:List α),(∀ a ∈ l,(f a).length = c)->∀ j u,(l.flatMap f)[j]? = some u->∃ i,∃ h:i < l.length,∃ k,k < c/\j = i * c + k/\(f l[i])[k]? = some u
 | [],_,j,u,h=>by simp at h
 | a :: l, hl, j, u, h => by
   have ha:=hl a (List.mem_cons_self ..);rw [List.flatMap_cons] at h
   by_cases hj:j < c
   ·rw [List.getElem?_append_left (by omega)] at h;exact ⟨0,by simp,j,hj,by omega,h⟩
   ·rw [List.getElem?_append_right (by omega),ha] at h;obtain ⟨i,hi,k,hk,hjk,hu⟩:=flat_get f c l (fun b hb=>hl b (List.mem_cons_of_mem _ hb)) _ u h;refine ⟨i + 1,by simp;omega,k,hk,?_,?_⟩
    ·rw [Nat.add_mul];omega
    ·simpa using hu
theorem Af5 {α β:Type} (f:α->List β) (c:Nat):∀ (l:List α),(∀ a ∈ l,(f a).length = c)->(l.flatMap f).length = l.length * c
 | [],_=>by simp
 | a :: l, hl => by
   rw [List.flatMap_cons,List.length_append,hl a (List.mem_cons_self ..),Af5 f c l (fun b hb=>hl b (List.mem_cons_of_mem _ hb)),List.length_cons,Nat.add_mul];omega
section
variable {H:Type} {enc:TypeId × Value->H} {W:World}
theorem yj {t e:TypeId} {c:Nat} {α:Type} (f:α->List Value) (Q:α->Prop) {fuel:Nat} {v:Value} {x:DataW H × List MemPlace}
 (ht:prog.underlying t = some (.slice e)) (hc:prog.cellsOf e = c) (hc0:0 < c)
 (hel:∀ n cs y,DataW.trod enc prog W 0 (fun _=>true) true n e cs = some y->∃ a:α,cs = f a/\Q a)
 (hf:∀ a,(f a).length = c/\∀ u ∈ f a,u.oneCell' = true)
 (h:DataW.trod enc prog W 0 (fun _=>true) true fuel t [v] = some x) :
 ∃ l:List α,(∀ a ∈ l,Q a)/\Reads W c v l.length (l.flatMap f)/\(l = []\/∃ elems spare,x.1 = .slice elems spare/\elems.length = l.length):=by
 have hnone:∀ a cap,cap <= maxLen->Reads W c (.slice a 0 cap) ([]:List α).length (([]:List α).flatMap f):=fun a cap hm=>⟨by simp,fun u hu=>by simp at hu,Or.inl ⟨rfl,a,cap,rfl,hm⟩⟩
 rcases open_slice ht h with ⟨hcs,hx⟩ | ⟨a,len,cap,m,n,D,Pl,hcs,_,hl,hm,hmm,hx,Alc⟩
 ·obtain rfl:v = .slice none 0 0:=by simpa using hcs
  exact ⟨[],fun a ha=>(by cases ha),hnone none 0 (by decide),Or.inl rfl⟩
 ·obtain rfl:v = .slice (some a) len cap:=by simpa using hcs
  simp only [if_true] at hmm
  by_cases hp:0 < len
  ·have hone : ∀ i, i < len → ∃ y : α, W.cells? 0 (a.add (i * c)) c = some (f y) ∧ Q y := fun i hi => by
    obtain ⟨cs',h1,h2⟩:=Alc i (by omega);rw [hc] at h1;obtain ⟨y,rfl,hq⟩:=hel n cs' _ h2;exact ⟨y,h1,hq⟩
   obtain ⟨y0,_⟩:=hone 0 hp
   haveI:Inhabited α:=⟨y0⟩
   obtain ⟨A,hA⟩:=choose_lt hone;have hcell:∀ i,i < len->∀ k,k < c->W.cell? ((a.add (i * c)).add k) = (f (A i))[k]?:=fun i hi k hk=>(World.cells?_some (hA i hi).1).2.2 k hk;obtain ⟨b,off,spot⟩:=a
   have hspot:spot = none:=by
    have h0:=hcell 0 hp 0 hc0;rw [List.getElem?_eq_getElem (by rw [(hf _).1];exact hc0)] at h0;simpa [Addr.add] using World.cell?_spot h0
   subst hspot
   have hadd:∀ i k,((⟨b,off,none⟩:Addr).add i).add k = ⟨b,off + (i + k),none⟩:=fun i k=>by
    rw [Go.WideShapes.add_plain,Go.WideShapes.add_plain,Nat.add_assoc]
   have hll:((List.range len).map A).length = len:=by simp
   refine ⟨(List.range len).map A,fun y hy=>?_,⟨?_,fun u hu=>?_,Or.inr ⟨by rw [hll];exact hp,b,off,cap,by rw [hll],?_,hm,by rw [hll];exact hl,fun j u hj=>?_⟩⟩,Or.inr ⟨_,_,by rw [hx],by simp⟩⟩
   ·obtain ⟨i,hi,rfl⟩:=List.mem_map.1 hy;exact (hA i (List.mem_range.1 hi)).2
   ·exact Af5 f c _ fun y _=>(hf y).1
   ·obtain ⟨y,_,hu2⟩:=List.mem_flatMap.1 hu;exact (hf y).2 u hu2
   ·have h0:=hcell 0 hp 0 hc0;rw [List.getElem?_eq_getElem (by rw [(hf _).1];exact hc0),hadd] at h0;exact World.block_lt_of_cell? W _ h0
   ·obtain ⟨i,hi,k,hk,rfl,hu⟩:=flat_get f c _ (fun y _=>(hf y).1) j u hj;rw [hll] at hi;have h1:=hcell i hi k hk;rw [hadd] at h1;simp only [List.getElem_map,List.getElem_range] at hu;rw [h1,hu]
  ·obtain rfl:len = 0:=by omega
   exact ⟨[],fun a ha=>(by cases ha),hnone _ cap hm,Or.inl rfl⟩
theorem Wh {fuel:Nat} {v:Value} {x:DataW H × List MemPlace} (h:DataW.trod enc prog W 0 (fun _=>true) true fuel 22 [v] = some x) :
 ∃ xs:List Int,Held W v xs/\(xs = []\/∃ spare,x.1 = .slice (lits .u8 xs) (lits .u8 spare)):=by
 rcases open_ints underlying22 underlying5 (by kernel_rfl) h with ⟨hcs,hx⟩ | ⟨a,len,cap,zs,hcs,_,hl,hm,hz,hx,hcell,hwz⟩
 ·obtain rfl:v = .slice none 0 0:=by simpa using hcs
  exact ⟨[],Z7 W,Or.inl rfl⟩
 ·obtain rfl:v = .slice (some a) len cap:=by simpa using hcs
  simp only [if_true] at hz
  have hb:Ah (zs.take len):=by
   intro x hx;have:=hwz x (List.mem_of_mem_take hx);simp [Lit.wf,IntKind.min,IntKind.max,IntKind.signed,IntKind.bits] at this;omega
  have hlen:(zs.take len).length = len:=by rw [List.length_take];omega
  refine ⟨zs.take len,⟨hb,?_⟩,Or.inr ⟨zs.drop len,by rw [hx]⟩⟩
  by_cases hp:0 < len
  ·right
   obtain ⟨b,off,rfl,hc⟩:=ints_at hcell (by omega);refine ⟨by omega,b,off,cap,by rw [hlen],by omega,hm,?_,?_⟩
   ·exact World.block_lt_of_cell? W _ (hc 0 (by omega))
   ·intro i hi;rw [hc i (by omega)];have hiz:i < zs.length:=by omega
    simp [List.getD,List.getElem?_take,show i < len by omega,hiz]
  ·left
   obtain rfl:len = 0:=by omega
   exact ⟨by simp,Or.inr ⟨a,cap,rfl,hm⟩⟩
theorem Aoy {fuel:Nat} {v:Value} {x:DataW H × List MemPlace} (h:DataW.trod enc prog W 0 (fun _=>true) true fuel 27 [v] = some x) :
 ∃ (vals:List Value) (rows:List (List Int)),Es W v vals rows/\(rows = []\/∃ elems spare,x.1 = .slice elems spare/\elems.length = rows.length/\∀ i (hi:i < rows.length),rows[i] = []\/∃ sp,elems[i]? = some (.slice (lits .u8 rows[i]) (lits .u8 sp))):=by
 have hnone:∀ a cap,cap <= maxLen->Es W (.slice a 0 cap) [] []:=fun a cap hm=>⟨⟨rfl,fun u hu=>(by cases hu),Or.inl ⟨rfl,a,cap,rfl,hm⟩⟩,fun i hi=>absurd hi (by simp)⟩
 rcases open_slice1 underlying27 (by kernel_rfl) h with ⟨hcs,hx⟩ | ⟨a,len,cap,m,n,V,D,Pl,hcs,_,hl,hm,hmm,hx,Alc⟩
 ·obtain rfl:v = .slice none 0 0:=by simpa using hcs
  exact ⟨[],[],hnone none 0 (by decide),Or.inl rfl⟩
 ·obtain rfl:v = .slice (some a) len cap:=by simpa using hcs
  simp only [if_true] at hmm
  by_cases hp:0 < len
  ·have hone:∀ i,i < len->∃ xs:List Int,Held W (V i) xs/\(xs = []\/∃ sp,D i = .slice (lits .u8 xs) (lits .u8 sp)):=fun i hi=>Wh (Alc i (by omega)).2;obtain ⟨A,hA⟩:=choose_lt hone;have hcell:∀ i,i < len->W.cell? (a.add i) = some (V i):=fun i hi=>(Alc i (by omega)).1;obtain ⟨b,off,spot⟩:=a;have hspot:spot = none:=by simpa [Addr.add] using World.cell?_spot (hcell 0 hp)
   subst hspot;have hvl:((List.range len).map V).length = len:=by simp
   have hrl:((List.range len).map A).length = len:=by simp
   have hV1:∀ i,i < len->(V i).oneCell' = true:=fun i hi=>by
    obtain ⟨a1,c1,hv⟩:=Gy (hA i hi).1;rw [hv];rfl
   refine ⟨(List.range len).map V,(List.range len).map A,⟨⟨by rw [hvl,hrl,Nat.mul_one],fun u hu=>?_,Or.inr ⟨by rw [hrl];exact hp,b,off,cap,by rw [hrl],?_,hm,by rw [hrl];exact hl,fun j u hj=>?_⟩⟩,fun i hi=>?_⟩,Or.inr ⟨_,_,by rw [hx],by simp,fun i hi=>?_⟩⟩
   ·obtain ⟨i,hi,rfl⟩:=List.mem_map.1 hu;exact hV1 i (List.mem_range.1 hi)
   ·have h0:=hcell 0 hp;rw [Go.WideShapes.add_plain] at h0;exact World.block_lt_of_cell? W _ h0
   ·have hj2 : j < len := by
     have:=(List.getElem?_eq_some_iff.1 hj).1;rw [hvl] at this;exact this
    rw [List.getElem?_eq_getElem (by rw [hvl];exact hj2),List.getElem_map,List.getElem_range] at hj;have h1:=hcell j hj2;rw [Go.WideShapes.add_plain] at h1;rw [h1,hj]
   ·rw [hrl] at hi;refine ⟨V i,by rw [List.getElem?_eq_getElem (by rw [hvl];exact hi),List.getElem_map,List.getElem_range],?_⟩;rw [List.getElem_map,List.getElem_range];exact (hA i hi).1
   ·rw [hrl] at hi;rw [List.getElem_map,List.getElem_range]
    rcases (hA i hi).2 with h0 | ⟨sp,hs⟩
    ·exact Or.inl h0
    ·exact Or.inr ⟨sp,by rw [List.getElem?_eq_getElem (by simpa using hi),List.getElem_map,List.getElem_range,hs]⟩
  ·obtain rfl:len = 0:=by omega
   exact ⟨[],[],hnone _ cap hm,Or.inl rfl⟩
theorem As2 (n:Nat) (cs:List Value) (y:DataW H × List MemPlace) (h:DataW.trod enc prog W 0 (fun _=>true) true n 70 cs = some y):∃ i:Ins,cs = i.cs/\Ey i.Aa:=by
 obtain ⟨xs,m,_,_,hl,_,hf⟩:=DataW.trod_struct underlying70 h;have hc8:prog.cellsOf 70 = 8:=by kernel_rfl
 have hl8:cs.length = 8:=hl.trans hc8;clear hl hc8 h;have hci:prog.cellsOf 3 = 1:=by kernel_rfl
 have hcb:prog.cellsOf 4 = 1:=by kernel_rfl
 match cs,hl8 with
 | [c0, c1, c2, c3, c4, c5, c6, c7], _ =>
   have g0:DataW.trod enc prog W 0 (fun _=>true) true m 3 (([c0,c1,c2,c3,c4,c5,c6,c7].drop 0).take (prog.cellsOf 3)) = xs[0]?:=hf 0 _ rfl;rw [hci] at g0;change DataW.trod enc prog W 0 (fun _=>true) true m 3 [c0] = _ at g0;have g1:DataW.trod enc prog W 0 (fun _=>true) true m 4 (([c0,c1,c2,c3,c4,c5,c6,c7].drop 1).take (prog.cellsOf 4)) = xs[1]?:=hf 1 _ rfl;rw [hcb] at g1;change DataW.trod enc prog W 0 (fun _=>true) true m 4 [c1] = _ at g1;have g2:DataW.trod enc prog W 0 (fun _=>true) true m 4 (([c0,c1,c2,c3,c4,c5,c6,c7].drop 2).take (prog.cellsOf 4)) = xs[2]?:=hf 2 _ rfl;rw [hcb] at g2;change DataW.trod enc prog W 0 (fun _=>true) true m 4 [c2] = _ at g2;have g3:DataW.trod enc prog W 0 (fun _=>true) true m 3 (([c0,c1,c2,c3,c4,c5,c6,c7].drop 3).take (prog.cellsOf 3)) = xs[3]?:=hf 3 _ rfl;rw [hci] at g3;change DataW.trod enc prog W 0 (fun _=>true) true m 3 [c3] = _ at g3;have g4:DataW.trod enc prog W 0 (fun _=>true) true m 3 (([c0,c1,c2,c3,c4,c5,c6,c7].drop 4).take (prog.cellsOf 3)) = xs[4]?:=hf 4 _ rfl;rw [hci] at g4;change DataW.trod enc prog W 0 (fun _=>true) true m 3 [c4] = _ at g4;have g5:DataW.trod enc prog W 0 (fun _=>true) true m 3 (([c0,c1,c2,c3,c4,c5,c6,c7].drop 5).take (prog.cellsOf 3)) = xs[5]?:=hf 5 _ rfl;rw [hci] at g5;change DataW.trod enc prog W 0 (fun _=>true) true m 3 [c5] = _ at g5;have g6:DataW.trod enc prog W 0 (fun _=>true) true m 3 (([c0,c1,c2,c3,c4,c5,c6,c7].drop 6).take (prog.cellsOf 3)) = xs[6]?:=hf 6 _ rfl;rw [hci] at g6;change DataW.trod enc prog W 0 (fun _=>true) true m 3 [c6] = _ at g6;have g7:DataW.trod enc prog W 0 (fun _=>true) true m 3 (([c0,c1,c2,c3,c4,c5,c6,c7].drop 7).take (prog.cellsOf 3)) = xs[7]?:=hf 7 _ rfl;rw [hci] at g7;change DataW.trod enc prog W 0 (fun _=>true) true m 3 [c7] = _ at g7;have hx:∀ i,i < 8->∃ z,xs[i]? = some z:=fun i hi=>⟨_,List.getElem?_eq_getElem (by simp_all)⟩;obtain ⟨z0,e0⟩:=hx 0 (by decide);obtain ⟨z1,e1⟩:=hx 1 (by decide);obtain ⟨z2,e2⟩:=hx 2 (by decide);obtain ⟨z3,e3⟩:=hx 3 (by decide);obtain ⟨z4,e4⟩:=hx 4 (by decide);obtain ⟨z5,e5⟩:=hx 5 (by decide);obtain ⟨z6,e6⟩:=hx 6 (by decide);obtain ⟨z7,e7⟩:=hx 7 (by decide);rw [e0] at g0;rw [e1] at g1;rw [e2] at g2;rw [e3] at g3;rw [e4] at g4;rw [e5] at g5;rw [e6] at g6;rw [e7] at g7;obtain ⟨a0,k0,_,_⟩:=DataW.trod_int underlying3 g0;obtain ⟨a1,k1,_⟩:=DataW.trod_bool underlying4 g1;obtain ⟨a2,k2,_⟩:=DataW.trod_bool underlying4 g2;obtain ⟨a3,k3,_,_⟩:=DataW.trod_int underlying3 g3;obtain ⟨a4,k4,_,_⟩:=DataW.trod_int underlying3 g4;obtain ⟨a5,k5,_,_⟩:=DataW.trod_int underlying3 g5;obtain ⟨a6,k6,_,_⟩:=DataW.trod_int underlying3 g6;obtain ⟨a7,k7,_,w7⟩:=DataW.trod_int underlying3 g7;simp only [List.cons.injEq,and_true] at k0 k1 k2 k3 k4 k5 k6 k7;subst k0 k1 k2 k3 k4 k5 k6 k7;exact ⟨⟨a0,a1,a2,a3,a4,a5,a6,a7⟩,rfl,by have:=bounds_i64 w7;unfold Ey;omega⟩
theorem As3 (n:Nat) (cs:List Value) (y:DataW H × List MemPlace) (h:DataW.trod enc prog W 0 (fun _=>true) true n 89 cs = some y):∃ t:Int × Int,cs = [.int .i64 t.1,.int .i64 t.2]/\True:=by
 obtain ⟨xs,m,_,_,hl,_,hf⟩:=DataW.trod_struct underlying89 h;have hc2:prog.cellsOf 89 = 2:=by kernel_rfl
 have hl2:cs.length = 2:=hl.trans hc2;clear hl hc2 h;have hci:prog.cellsOf 3 = 1:=by kernel_rfl
 match cs,hl2 with
 | [c0, c1], _ =>
   have g0:DataW.trod enc prog W 0 (fun _=>true) true m 3 (([c0,c1].drop 0).take (prog.cellsOf 3)) = xs[0]?:=hf 0 _ rfl;rw [hci] at g0;change DataW.trod enc prog W 0 (fun _=>true) true m 3 [c0] = _ at g0;have g1:DataW.trod enc prog W 0 (fun _=>true) true m 3 (([c0,c1].drop 1).take (prog.cellsOf 3)) = xs[1]?:=hf 1 _ rfl;rw [hci] at g1;change DataW.trod enc prog W 0 (fun _=>true) true m 3 [c1] = _ at g1;have hx:∀ i,i < 2->∃ z,xs[i]? = some z:=fun i hi=>⟨_,List.getElem?_eq_getElem (by simp_all)⟩;obtain ⟨z0,e0⟩:=hx 0 (by decide);obtain ⟨z1,e1⟩:=hx 1 (by decide);rw [e0] at g0;rw [e1] at g1;obtain ⟨a0,k0,_,_⟩:=DataW.trod_int underlying3 g0;obtain ⟨a1,k1,_,_⟩:=DataW.trod_int underlying3 g1;simp only [List.cons.injEq,and_true] at k0 k1;subst k0 k1;exact ⟨(a0,a1),rfl,trivial⟩
end
end Go.Proofs.YtjacnhnaoenelaaGreat
