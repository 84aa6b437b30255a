import Derived.Test.YtjacnhnaoenelaaGreatQMachDN
import Derived.Test.YtjacnhnaoenelaaGreatRows
import Derived.WideShapes
set_option maxRecDepth 100000
set_option maxHeartbeats 1600000
namespace Go.Proofs.YtjacnhnaoenelaaGreat
open Go.Proofs.Tryz
open Go.RowKit Go.ChangeShapes Go.WideShapes Go.Deep
set_option linter.unusedVariables false
set_option linter.unusedSimpArgs false
section
variable {H:Type} {enc:TypeId × Value->H} {W:World}
theorem As4 {H:Type} (d:DataW H):1 <= Rows.uptoBulk d:=by
 cases d with
 | lit l=>cases l <;> simp [Rows.uptoBulk]
 | nil=>simp [Rows.uptoBulk]
 | ptr d=>simp [Rows.uptoBulk]
 | slice elems spare=>simp [Rows.uptoBulk]
 | agg parts=>simp [Rows.uptoBulk]
 | iface t d=>simp [Rows.uptoBulk]
 | map entries=>simp [Rows.uptoBulk]
 | held h=>simp [Rows.uptoBulk]
theorem Kv {H:Type} {d:DataW H} {l:List (DataW H)} (h:d ∈ l):Rows.uptoBulk d <= Rows.uptoBulkAll l:=by
 induction l with
 | nil=>cases h
 | cons x r ih =>
   simp only [Rows.uptoBulkAll]
   cases List.mem_cons.1 h with
   | inl e=>subst e;omega
   | inr e=>have:=ih e;omega
theorem Af6 {H:Type} (l:List (DataW H)):l.length <= Rows.uptoBulkAll l:=by
 induction l with
 | nil=>simp [Rows.uptoBulkAll]
 | cons x r ih=>have:=As4 x;simp only [Rows.uptoBulkAll,List.length_cons];omega
theorem Kw {H:Type} {d:DataW H} {elems spare:List (DataW H)} {k:Nat} (hd:d = .slice elems spare) (hk:elems.length = k) (h:Rows.uptoBulk d <= 1048576):k <= 1048576:=by
 subst hd;have h1:=Af6 elems;simp only [Rows.uptoBulk] at h;omega
theorem Aoz {H:Type} {d e:DataW H} {elems spare:List (DataW H)} (hd:d = .slice elems spare) (he:e ∈ elems) (h:Rows.uptoBulk d <= 1048576):Rows.uptoBulk e <= 1048576:=by
 subst hd;have h1:=Kv he;simp only [Rows.uptoBulk] at h;omega
theorem Abj {base:Nat} {v:Value} {d:DataW H} {p:List MemPlace} (hv:Value.okWide prog W .any base 26 v) (h:DataW.Trod enc prog W 0 (fun _=>true) true 26 v d p) (hz:Rows.uptoBulk d <= 1048576) :
 ∃ (lo hi:Int) (data:List Int) (tabs:List (Int × Int)) (code:List Ins) (dv tv cv:Value),v = .agg #[.int .i64 lo,.int .i64 hi,dv,tv,cv]/\Held W dv data/\Tabs W tv tabs/\Fa W cv code/\(∀ i ∈ code,Ey i.Aa)/\data.length <= 1048576/\tabs.length <= 1048576/\code.length <= 1048576:=by
 obtain ⟨cs,rfl,hsz⟩:=okWide_struct underlying26 hv;obtain ⟨fuel,hfu⟩:=h;obtain ⟨xs,m,_,hx,_,hxl,hf⟩:=DataW.trod_struct underlying26 hfu;have hc:prog.cellsOf 26 = 5:=by kernel_rfl
 have hsz2:cs.size = 5:=hsz.trans hc;clear hsz hc hfu hv;have hd:d = .agg (xs.map (·.1)):=congrArg Prod.fst hx
 have hw:∀ (j:Nat) (t:TypeId) (z:DataW H × List MemPlace),([3,3,22,23,24]:List TypeId)[j]? = some t->xs[j]? = some z->Rows.uptoBulk z.1 <= Rows.uptoBulk d:=fun j t z _ hz=>by
  rw [hd];have h0:z.1 ∈ xs.map (·.1):=List.mem_map_of_mem (List.mem_of_getElem? hz);have h1:=Kv h0;simp only [Rows.uptoBulk];omega
 clear hd hx;obtain ⟨cl⟩:=cs
 match cl,hsz2 with
 | [c0, c1, c2, c3, c4], _ =>
   have g0:DataW.trod enc prog W 0 (fun _=>true) true m 3 (([c0,c1,c2,c3,c4].drop 0).take (prog.cellsOf 3)) = xs[0]?:=hf 0 _ rfl;rw [show prog.cellsOf 3 = 1 by kernel_rfl] at g0;change DataW.trod enc prog W 0 (fun _=>true) true m 3 [c0] = _ at g0;obtain ⟨z0,e0⟩:∃ z,xs[0]? = some z:=⟨_,List.getElem?_eq_getElem (by rw [hxl];decide)⟩;rw [e0] at g0;have q0:Rows.uptoBulk z0.1 <= 1048576:=Nat.le_trans (hw 0 3 z0 rfl e0) hz;have g1:DataW.trod enc prog W 0 (fun _=>true) true m 3 (([c0,c1,c2,c3,c4].drop 1).take (prog.cellsOf 3)) = xs[1]?:=hf 1 _ rfl;rw [show prog.cellsOf 3 = 1 by kernel_rfl] at g1;change DataW.trod enc prog W 0 (fun _=>true) true m 3 [c1] = _ at g1;obtain ⟨z1,e1⟩:∃ z,xs[1]? = some z:=⟨_,List.getElem?_eq_getElem (by rw [hxl];decide)⟩;rw [e1] at g1;have q1:Rows.uptoBulk z1.1 <= 1048576:=Nat.le_trans (hw 1 3 z1 rfl e1) hz;have g2:DataW.trod enc prog W 0 (fun _=>true) true m 22 (([c0,c1,c2,c3,c4].drop 2).take (prog.cellsOf 22)) = xs[2]?:=hf 2 _ rfl;rw [show prog.cellsOf 22 = 1 by kernel_rfl] at g2;change DataW.trod enc prog W 0 (fun _=>true) true m 22 [c2] = _ at g2;obtain ⟨z2,e2⟩:∃ z,xs[2]? = some z:=⟨_,List.getElem?_eq_getElem (by rw [hxl];decide)⟩;rw [e2] at g2;have q2:Rows.uptoBulk z2.1 <= 1048576:=Nat.le_trans (hw 2 22 z2 rfl e2) hz;have g3:DataW.trod enc prog W 0 (fun _=>true) true m 23 (([c0,c1,c2,c3,c4].drop 3).take (prog.cellsOf 23)) = xs[3]?:=hf 3 _ rfl;rw [show prog.cellsOf 23 = 1 by kernel_rfl] at g3;change DataW.trod enc prog W 0 (fun _=>true) true m 23 [c3] = _ at g3;obtain ⟨z3,e3⟩:∃ z,xs[3]? = some z:=⟨_,List.getElem?_eq_getElem (by rw [hxl];decide)⟩;rw [e3] at g3;have q3:Rows.uptoBulk z3.1 <= 1048576:=Nat.le_trans (hw 3 23 z3 rfl e3) hz;have g4:DataW.trod enc prog W 0 (fun _=>true) true m 24 (([c0,c1,c2,c3,c4].drop 4).take (prog.cellsOf 24)) = xs[4]?:=hf 4 _ rfl;rw [show prog.cellsOf 24 = 1 by kernel_rfl] at g4;change DataW.trod enc prog W 0 (fun _=>true) true m 24 [c4] = _ at g4;obtain ⟨z4,e4⟩:∃ z,xs[4]? = some z:=⟨_,List.getElem?_eq_getElem (by rw [hxl];decide)⟩;rw [e4] at g4;have q4:Rows.uptoBulk z4.1 <= 1048576:=Nat.le_trans (hw 4 24 z4 rfl e4) hz;obtain ⟨lo,k0,_,_⟩:=DataW.trod_int underlying3 g0;obtain ⟨hi,k1,_,_⟩:=DataW.trod_int underlying3 g1;simp only [List.cons.injEq,and_true] at k0 k1;subst k0 k1;obtain ⟨data,hD,hD2⟩:=Wh g2;obtain ⟨tabs,_,hT,hT2⟩:=yj (fun t:Int × Int=>[.int .i64 t.1,.int .i64 t.2]) (fun _=>True) underlying23 (c:=2) (by kernel_rfl) (by decide) As3 (fun t=>⟨rfl,fun u hu=>by simp at hu;rcases hu with rfl | rfl <;> rfl⟩) g3;obtain ⟨code,hI,hC,hC2⟩:=yj Ins.cs (fun i=>Ey i.Aa) underlying24 (c:=8) (by kernel_rfl) (by decide) As2 (fun i=>⟨rfl,fun u hu=>by unfold Ins.cs Ed at hu;simp at hu;rcases hu with rfl | rfl | rfl | rfl | rfl | rfl | rfl | rfl <;> rfl⟩) g4;refine ⟨lo,hi,data,tabs,code,c2,c3,c4,rfl,hD,hT,hC,hI,?_,?_,?_⟩
   ·rcases hD2 with rfl | ⟨sp,hs⟩
    ·decide
    ·exact Kw hs (by simp [lits]) q2
   ·rcases hT2 with rfl | ⟨el,sp,hs,hk⟩
    ·decide
    ·exact Kw hs hk q3
   ·rcases hC2 with rfl | ⟨el,sp,hs,hk⟩
    ·decide
    ·exact Kw hs hk q4
theorem yt {base:Nat} {v:Value} {d:DataW H} {p:List MemPlace} (hv:Value.okWide prog W .any base 29 v) (h:DataW.Trod enc prog W 0 (fun _=>true) true 29 v d p) (hz:Rows.uptoBulk d <= 1048576) :
 ∃ (ctx:List Int) (vals:List Value) (rows:List (List Int)) (xv tv:Value),v = .agg #[xv,tv]/\Held W xv ctx/\Es W tv vals rows/\ctx.length <= 1048576/\rows.length <= 1048576/\∀ i (h:i < rows.length),rows[i].length <= 1048576:=by
 obtain ⟨cs,rfl,hsz⟩:=okWide_struct underlying29 hv;obtain ⟨fuel,hfu⟩:=h;obtain ⟨xs,m,_,hx,_,hxl,hf⟩:=DataW.trod_struct underlying29 hfu;have hc:prog.cellsOf 29 = 2:=by kernel_rfl
 have hsz2:cs.size = 2:=hsz.trans hc;clear hsz hc hfu hv;have hd:d = .agg (xs.map (·.1)):=congrArg Prod.fst hx
 have hw:∀ (j:Nat) (t:TypeId) (z:DataW H × List MemPlace),([22,27]:List TypeId)[j]? = some t->xs[j]? = some z->Rows.uptoBulk z.1 <= Rows.uptoBulk d:=fun j t z _ hz=>by
  rw [hd];have h0:z.1 ∈ xs.map (·.1):=List.mem_map_of_mem (List.mem_of_getElem? hz);have h1:=Kv h0;simp only [Rows.uptoBulk];omega
 clear hd hx;obtain ⟨cl⟩:=cs
 match cl,hsz2 with
 | [c0, c1], _ =>
   have g0:DataW.trod enc prog W 0 (fun _=>true) true m 22 (([c0,c1].drop 0).take (prog.cellsOf 22)) = xs[0]?:=hf 0 _ rfl;rw [show prog.cellsOf 22 = 1 by kernel_rfl] at g0;change DataW.trod enc prog W 0 (fun _=>true) true m 22 [c0] = _ at g0;obtain ⟨z0,e0⟩:∃ z,xs[0]? = some z:=⟨_,List.getElem?_eq_getElem (by rw [hxl];decide)⟩;rw [e0] at g0;have q0:Rows.uptoBulk z0.1 <= 1048576:=Nat.le_trans (hw 0 22 z0 rfl e0) hz;have g1:DataW.trod enc prog W 0 (fun _=>true) true m 27 (([c0,c1].drop 1).take (prog.cellsOf 27)) = xs[1]?:=hf 1 _ rfl;rw [show prog.cellsOf 27 = 1 by kernel_rfl] at g1;change DataW.trod enc prog W 0 (fun _=>true) true m 27 [c1] = _ at g1;obtain ⟨z1,e1⟩:∃ z,xs[1]? = some z:=⟨_,List.getElem?_eq_getElem (by rw [hxl];decide)⟩;rw [e1] at g1;have q1:Rows.uptoBulk z1.1 <= 1048576:=Nat.le_trans (hw 1 27 z1 rfl e1) hz;obtain ⟨ctx,hD,hD2⟩:=Wh g0;obtain ⟨vals,rows,hR,hR2⟩:=Aoy g1;refine ⟨ctx,vals,rows,c0,c1,rfl,hD,hR,?_,?_,?_⟩
   ·rcases hD2 with rfl | ⟨sp,hs⟩
    ·decide
    ·exact Kw hs (by simp [lits]) q0
   ·rcases hR2 with rfl | ⟨el,sp,hs,hk,_⟩
    ·decide
    ·exact Kw hs hk q1
   ·rcases hR2 with rfl | ⟨el,sp,hs,hk,hel⟩
    ·intro i hi;exact absurd hi (by simp)
    ·intro i hi
     rcases hel i hi with h0 | ⟨sp2,h1⟩
     ·rw [h0];decide
     ·have hmem:DataW.slice (lits .u8 rows[i]) (lits .u8 sp2) ∈ el:=List.mem_of_getElem? h1;exact Kw (elems:=lits .u8 rows[i]) (spare:=lits .u8 sp2) rfl (by simp [lits]) (Aoz hs hmem q1)
end
end Go.Proofs.YtjacnhnaoenelaaGreat
