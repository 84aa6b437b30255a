import Derived.Test.YtdepknffpnnmmaaGreatMachDN
import Derived.WideShapes
set_option maxRecDepth 100000
set_option maxHeartbeats 1600000
namespace Go.Proofs.YtdepknffpnnmmaaGreat
open Go.RowKit Go.ChangeShapes Go.WideShapes Go.Deep
set_option linter.unusedVariables false
set_option linter.unusedSimpArgs false
section
variable {H:Type} {enc:TypeId × Value->H} {W:World}
theorem slice_weight {t e:TypeId} {d:DataW H} {elems spare:List (DataW H)} {B k:Nat} (hu:Tryz.prog.underlying t = some (.slice e)) (hb:Tryz.prog.bytesOf e = B) (hd:d = .slice elems spare) (hk:elems.length = k) (h:∀ n ∈ d.weights Tryz.prog t,n <= reachBytes):k * B <= 140737488355328:=by
 subst hd
 have:=h ((elems.length + spare.length) * Tryz.prog.bytesOf e) (by simp [DataW.weights,hu])
 rw [hb,hk] at this
 have h2:k * B <= (k + spare.length) * B:=Nat.mul_le_mul_right _ (by omega)
 have h3:reachBytes <= 140737488355328:=by decide
 omega
theorem prog_arg {base:Nat} {v:Value} {d:DataW H} {p:List MemPlace} (hv:Value.okWide Tryz.prog W .any base 44 v) (h:DataW.Trod enc Tryz.prog W 0 (fun _=>true) true 44 v d p) (hz:∀ n ∈ d.weights Tryz.prog 44,n <= reachBytes) :
 ∃ (lo hi:Int) (data:List Int) (tabs:List (Int × Int)) (code:List Ins) (dv tv cv:Value),v = .agg #[.int .i64 lo,.int .i64 hi,dv,tv,cv]/\Held W dv data/\Tabs W tv tabs/\Coded W cv code/\(∀ i ∈ code,i64r i.imm)/\data.length <= 140737488355328/\tabs.length * 16 <= 140737488355328/\code.length * 56 <= 140737488355328:=by
 obtain ⟨cs,rfl,hsz⟩:=okWide_struct Tryz.underlying44 hv
 obtain ⟨fuel,hfu⟩:=h
 obtain ⟨xs,m,_,hx,_,hxl,hf⟩:=DataW.trod_struct Tryz.underlying44 hfu
 have hc:Tryz.prog.cellsOf 44 = 5:=by kernel_rfl
 have hsz2:cs.size = 5:=hsz.trans hc
 clear hsz hc hfu hv
 have hd:d = .agg (xs.map (·.1)):=congrArg Prod.fst hx
 have hw:∀ (j:Nat) (t:TypeId) (z:DataW H × List MemPlace),([3,3,27,42,22]:List TypeId)[j]? = some t->xs[j]? = some z->∀ n ∈ z.1.weights Tryz.prog t,n ∈ d.weights Tryz.prog 44:=fun j t z ht hz n hn=>by
  rw [hd]
  unfold DataW.weights
  simp only [Tryz.underlying44]
  exact DataW.weights_mem_each (j:=j) (t:=t) (d:=z.1) ht (by rw [List.getElem?_map,hz];rfl) n hn
 clear hd hx
 obtain ⟨cl⟩:=cs
 match cl,hsz2 with
 | [c0, c1, c2, c3, c4], _ =>
   have g0:DataW.trod enc Tryz.prog W 0 (fun _=>true) true m 3 (([c0,c1,c2,c3,c4].drop 0).take (Tryz.prog.cellsOf 3)) = xs[0]?:=hf 0 _ rfl
   rw [show Tryz.prog.cellsOf 3 = 1 by kernel_rfl] at g0
   change DataW.trod enc Tryz.prog W 0 (fun _=>true) true m 3 [c0] = _ at g0
   obtain ⟨z0,e0⟩:∃ z,xs[0]? = some z:=⟨_,List.getElem?_eq_getElem (by rw [hxl];decide)⟩
   rw [e0] at g0
   have q0:∀ n ∈ z0.1.weights Tryz.prog 3,n <= reachBytes:=fun n hn=>hz n (hw 0 3 z0 rfl e0 n hn)
   have g1:DataW.trod enc Tryz.prog W 0 (fun _=>true) true m 3 (([c0,c1,c2,c3,c4].drop 1).take (Tryz.prog.cellsOf 3)) = xs[1]?:=hf 1 _ rfl
   rw [show Tryz.prog.cellsOf 3 = 1 by kernel_rfl] at g1
   change DataW.trod enc Tryz.prog W 0 (fun _=>true) true m 3 [c1] = _ at g1
   obtain ⟨z1,e1⟩:∃ z,xs[1]? = some z:=⟨_,List.getElem?_eq_getElem (by rw [hxl];decide)⟩
   rw [e1] at g1
   have q1:∀ n ∈ z1.1.weights Tryz.prog 3,n <= reachBytes:=fun n hn=>hz n (hw 1 3 z1 rfl e1 n hn)
   have g2:DataW.trod enc Tryz.prog W 0 (fun _=>true) true m 27 (([c0,c1,c2,c3,c4].drop 2).take (Tryz.prog.cellsOf 27)) = xs[2]?:=hf 2 _ rfl
   rw [show Tryz.prog.cellsOf 27 = 1 by kernel_rfl] at g2
   change DataW.trod enc Tryz.prog W 0 (fun _=>true) true m 27 [c2] = _ at g2
   obtain ⟨z2,e2⟩:∃ z,xs[2]? = some z:=⟨_,List.getElem?_eq_getElem (by rw [hxl];decide)⟩
   rw [e2] at g2
   have q2:∀ n ∈ z2.1.weights Tryz.prog 27,n <= reachBytes:=fun n hn=>hz n (hw 2 27 z2 rfl e2 n hn)
   have g3:DataW.trod enc Tryz.prog W 0 (fun _=>true) true m 42 (([c0,c1,c2,c3,c4].drop 3).take (Tryz.prog.cellsOf 42)) = xs[3]?:=hf 3 _ rfl
   rw [show Tryz.prog.cellsOf 42 = 1 by kernel_rfl] at g3
   change DataW.trod enc Tryz.prog W 0 (fun _=>true) true m 42 [c3] = _ at g3
   obtain ⟨z3,e3⟩:∃ z,xs[3]? = some z:=⟨_,List.getElem?_eq_getElem (by rw [hxl];decide)⟩
   rw [e3] at g3
   have q3:∀ n ∈ z3.1.weights Tryz.prog 42,n <= reachBytes:=fun n hn=>hz n (hw 3 42 z3 rfl e3 n hn)
   have g4:DataW.trod enc Tryz.prog W 0 (fun _=>true) true m 22 (([c0,c1,c2,c3,c4].drop 4).take (Tryz.prog.cellsOf 22)) = xs[4]?:=hf 4 _ rfl
   rw [show Tryz.prog.cellsOf 22 = 1 by kernel_rfl] at g4
   change DataW.trod enc Tryz.prog W 0 (fun _=>true) true m 22 [c4] = _ at g4
   obtain ⟨z4,e4⟩:∃ z,xs[4]? = some z:=⟨_,List.getElem?_eq_getElem (by rw [hxl];decide)⟩
   rw [e4] at g4
   have q4:∀ n ∈ z4.1.weights Tryz.prog 22,n <= reachBytes:=fun n hn=>hz n (hw 4 22 z4 rfl e4 n hn)
   obtain ⟨lo,k0,_,_⟩:=DataW.trod_int Tryz.underlying3 g0
   obtain ⟨hi,k1,_,_⟩:=DataW.trod_int Tryz.underlying3 g1
   simp only [List.cons.injEq,and_true] at k0 k1
   subst k0 k1
   obtain ⟨data,hD,hD2⟩:=bytes_trod g2
   obtain ⟨tabs,_,hT,hT2⟩:=open_reads (fun t:Int × Int=>[.int .i64 t.1,.int .i64 t.2]) (fun _=>True) Tryz.underlying42 (c:=2) (by kernel_rfl) (by decide) tab_trod (fun t=>⟨rfl,fun u hu=>by simp at hu;rcases hu with rfl | rfl <;> rfl⟩) g3
   obtain ⟨code,hI,hC,hC2⟩:=open_reads Ins.cs (fun i=>i64r i.imm) Tryz.underlying22 (c:=8) (by kernel_rfl) (by decide) ins_trod (fun i=>⟨rfl,fun u hu=>by unfold Ins.cs insc at hu;simp at hu;rcases hu with rfl | rfl | rfl | rfl | rfl | rfl | rfl | rfl <;> rfl⟩) g4
   refine ⟨lo,hi,data,tabs,code,c2,c3,c4,rfl,hD,hT,hC,hI,?_,?_,?_⟩
   ·rcases hD2 with rfl | ⟨sp,hs⟩
    ·decide
    ·have:=slice_weight (B:=1) (k:=data.length) Tryz.underlying27 (by kernel_rfl) hs (by simp [lits]) q2
     omega
   ·rcases hT2 with rfl | ⟨el,sp,hs,hk⟩
    ·decide
    ·exact slice_weight (B:=16) Tryz.underlying42 (by kernel_rfl) hs hk q3
   ·rcases hC2 with rfl | ⟨el,sp,hs,hk⟩
    ·decide
    ·exact slice_weight (B:=56) Tryz.underlying22 (by kernel_rfl) hs hk q4
theorem input_arg {base:Nat} {v:Value} {d:DataW H} {p:List MemPlace} (hv:Value.okWide Tryz.prog W .any base 46 v) (h:DataW.Trod enc Tryz.prog W 0 (fun _=>true) true 46 v d p) (hz:∀ n ∈ d.weights Tryz.prog 46,n <= reachBytes) :
 ∃ (ctx:List Int) (vals:List Value) (rows:List (List Int)) (xv tv:Value),v = .agg #[xv,tv]/\Held W xv ctx/\Rowed W tv vals rows/\ctx.length <= 140737488355328/\rows.length <= 5864062014805/\∀ i (h:i < rows.length),rows[i].length <= 140737488355328:=by
 obtain ⟨cs,rfl,hsz⟩:=okWide_struct Tryz.underlying46 hv
 obtain ⟨fuel,hfu⟩:=h
 obtain ⟨xs,m,_,hx,_,hxl,hf⟩:=DataW.trod_struct Tryz.underlying46 hfu
 have hc:Tryz.prog.cellsOf 46 = 2:=by kernel_rfl
 have hsz2:cs.size = 2:=hsz.trans hc
 clear hsz hc hfu hv
 have hd:d = .agg (xs.map (·.1)):=congrArg Prod.fst hx
 have hw:∀ (j:Nat) (t:TypeId) (z:DataW H × List MemPlace),([27,28]:List TypeId)[j]? = some t->xs[j]? = some z->∀ n ∈ z.1.weights Tryz.prog t,n ∈ d.weights Tryz.prog 46:=fun j t z ht hz n hn=>by
  rw [hd]
  unfold DataW.weights
  simp only [Tryz.underlying46]
  exact DataW.weights_mem_each (j:=j) (t:=t) (d:=z.1) ht (by rw [List.getElem?_map,hz];rfl) n hn
 clear hd hx
 obtain ⟨cl⟩:=cs
 match cl,hsz2 with
 | [c0, c1], _ =>
   have g0:DataW.trod enc Tryz.prog W 0 (fun _=>true) true m 27 (([c0,c1].drop 0).take (Tryz.prog.cellsOf 27)) = xs[0]?:=hf 0 _ rfl
   rw [show Tryz.prog.cellsOf 27 = 1 by kernel_rfl] at g0
   change DataW.trod enc Tryz.prog W 0 (fun _=>true) true m 27 [c0] = _ at g0
   obtain ⟨z0,e0⟩:∃ z,xs[0]? = some z:=⟨_,List.getElem?_eq_getElem (by rw [hxl];decide)⟩
   rw [e0] at g0
   have q0:∀ n ∈ z0.1.weights Tryz.prog 27,n <= reachBytes:=fun n hn=>hz n (hw 0 27 z0 rfl e0 n hn)
   have g1:DataW.trod enc Tryz.prog W 0 (fun _=>true) true m 28 (([c0,c1].drop 1).take (Tryz.prog.cellsOf 28)) = xs[1]?:=hf 1 _ rfl
   rw [show Tryz.prog.cellsOf 28 = 1 by kernel_rfl] at g1
   change DataW.trod enc Tryz.prog W 0 (fun _=>true) true m 28 [c1] = _ at g1
   obtain ⟨z1,e1⟩:∃ z,xs[1]? = some z:=⟨_,List.getElem?_eq_getElem (by rw [hxl];decide)⟩
   rw [e1] at g1
   have q1:∀ n ∈ z1.1.weights Tryz.prog 28,n <= reachBytes:=fun n hn=>hz n (hw 1 28 z1 rfl e1 n hn)
   obtain ⟨ctx,hD,hD2⟩:=bytes_trod g0
   obtain ⟨vals,rows,hR,hR2⟩:=rows_trod g1
   refine ⟨ctx,vals,rows,c0,c1,rfl,hD,hR,?_,?_,?_⟩
   ·rcases hD2 with rfl | ⟨sp,hs⟩
    ·decide
    ·have:=slice_weight (B:=1) (k:=ctx.length) Tryz.underlying27 (by kernel_rfl) hs (by simp [lits]) q0
     omega
   ·rcases hR2 with rfl | ⟨el,sp,hs,hk,_⟩
    ·decide
    ·have:=slice_weight (B:=24) Tryz.underlying28 (by kernel_rfl) hs hk q1
     omega
   ·rcases hR2 with rfl | ⟨el,sp,hs,hk,hel⟩
    ·intro i hi
     exact absurd hi (by simp)
    ·intro i hi
     rcases hel i hi with h0 | ⟨sp2,h1⟩
     ·rw [h0];decide
     ·have hmem:DataW.slice (lits .u8 rows[i]) (lits .u8 sp2) ∈ el:=List.mem_of_getElem? h1
      have hq:∀ n ∈ (DataW.slice (lits (H:=H) .u8 rows[i]) (lits .u8 sp2)).weights Tryz.prog 27,n <= reachBytes:=fun n hn=>q1 n (by
       rw [hs]
       unfold DataW.weights
       simp only [Tryz.underlying28]
       exact List.mem_cons_of_mem _ (List.mem_append_left _ (weights_all el hmem n hn)))
      have:=slice_weight (B:=1) (k:=rows[i].length) Tryz.underlying27 (by kernel_rfl) rfl (by simp [lits]) hq
      omega
end
end Go.Proofs.YtdepknffpnnmmaaGreat
