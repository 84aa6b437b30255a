import Derived.Test.YtjacnhnaoenelaaGreatQGb1
import Derived.Test.YtjacnhnaoenelaaGreatQGa
set_option maxRecDepth 100000
set_option maxHeartbeats 4000000
namespace Go.Proofs.YtjacnhnaoenelaaGreat
open Lib (hid)
open Go.Proofs.Tryz
open Go.RowKit
set_option linter.unusedVariables false
set_option linter.unusedSimpArgs false
structure Work (P:Nat->Nat) (i:Nat) (w w':World):Prop where
 os:w'.os = w.os
 tape:w'.tape = w.tape
 output:w'.output = w.output
 size:w.heap.size <= w'.heap.size
 keep:∀ q,q < w.heap.size->P q ≠ i->w'.heap[q]? = w.heap[q]?
theorem Work.of_below {P:Nat->Nat} {i:Nat} {w w':World} (h:Below w.heap.size w w'):Work P i w w':=⟨h.os,h.tape,h.output,h.size,fun q hq _=>h.block q hq⟩
theorem Mine.work {P:Nat->Nat} {i j:Nat} (hij:i ≠ j) {fx:Ak} {s:Mst} {bx:Nat} {w w':World} (h:Mine P i fx s bx w) (hW:Work P j w w'):Mine (grown P w.heap.size j) i fx s bx w':=by
 obtain ⟨base,v,hm,hq⟩:=h.ms;refine ⟨base,_,hm.apart (fun q hlt hne=>?_),fun q hq' hP=>?_⟩
 ·have hPi : P q = i := by
   by_cases hP:P q = i
   ·exact hP
   ·exact absurd (hq q hlt hP) hne
  exact hW.keep q hlt (by omega)
 ·show Aj v.ρ w.heap.size 9 q = 9
  by_cases hlt:q < w.heap.size
  ·rw [Bo q hlt];unfold grown at hP;rw [if_pos hlt] at hP;exact hq q hlt hP
  ·unfold Aj;rw [if_pos (by omega)]
structure Ground (W:World) (P:Nat->Nat) (w:World):Prop where
 bel:Below W.heap.size W w
 zero:∀ q,q < W.heap.size->P q = 0
theorem Ground.begin (W:World):Ground W (fun _=>0) W:=⟨Below.refl _ _,fun _ _=>rfl⟩
theorem Ground.work {W:World} {P:Nat->Nat} {i k:Nat} (hi:i ≠ 0) {w w':World} (h:Ground W P w) (hW:Work P i w w'):Ground W (grown P w.heap.size k) w':=
 ⟨⟨hW.os.trans h.bel.os, hW.tape.trans h.bel.tape, hW.output.trans h.bel.output, Nat.le_trans h.bel.size hW.size, fun q hq => (hW.keep q (Nat.lt_of_lt_of_le hq h.bel.size) (by rw [h.zero q hq]; omega)).trans (h.bel.block q hq)⟩, fun q hq => by
   unfold grown;rw [if_pos (Nat.lt_of_lt_of_le hq h.bel.size)];exact h.zero q hq⟩
theorem Ground.next {W:World} {P:Nat->Nat} {k:Nat} {w w':World} (h:Ground W P w) (hb:Below w.heap.size w w'):Ground W (grown P w.heap.size k) w':=Ground.work (i:=1) (by decide) h (Work.of_below hb)
theorem Ci {P:Nat->Nat} {n i q:Nat} (h:q < n):grown P n i q = P q:=by unfold grown;rw [if_pos h]
theorem Kt {P:Nat->Nat} {n i q:Nat} (h:n <= q):grown P n i q = i:=by unfold grown;rw [if_neg (by omega)]
theorem Kr.small {fx:Ak} {s:Mst} (hc:J5 fx) (h:Kr fx s):s.rows.length <= 1000000/\(∀ k (hk:k < s.rows.length),Ah s.rows[k]/\s.rows[k].length <= 140737488355328)/\s.ctx.length <= 65535/\s.sent.length <= 100000:=by
 have h1:=h.good.mem.Md;have h2:=hc.tabs;have h3:=h.good.sent.1;exact ⟨by omega,fun k hk=>⟨(h.good.mem.rows k hk).1,Aba h.good.mem k hk⟩,h.good.mem.Zt,by omega⟩
section
variable {P:Nat->Nat} {i:Nat} {fx:Ak} {s:Mst} {bx:Nat} {w:World}
theorem U1 (hc:J5 fx) (h:Kr fx s) (hn:s.steps < 4611686018427387904) (hm:Mine P i fx s bx w) :
 Calls prog 16 #[.pointer (some ⟨bx,0,none⟩)] w fun e w'=>e = .returned (.int .i64 (Fq fx s).1)/\Mine (grown P w.heap.size i) i fx (Fq fx s).2 bx w'/\Work P i w w':=by
 obtain ⟨base,v,hM,hq⟩:=hm.ms;refine (Ase hc h hn base w bx v w hM).mono ?_;rintro e w' ⟨he,v',hM',hf,hro⟩;exact ⟨he,Mine.done hq hM' hro,⟨hM'.bel.os,hM'.bel.tape,hM'.bel.output,hM'.bel.size,fun q hlt hP=>hf q hlt (by rw [hq q hlt hP];exact Or.inl rfl)⟩⟩
theorem Vw (hc:J5 fx) (h:Kr fx s) (hm:Mine P i fx s bx w) :
 Calls prog 17 #[.pointer (some ⟨bx,0,none⟩)] w fun e w'=>∃ xv tv sv,e = .returned (.agg (Au s xv tv sv).toArray)/\Jt w s xv tv sv w':=by
 obtain ⟨base,v,hM,hq⟩:=hm.ms;obtain ⟨k1,k2,k3,k4⟩:=h.small hc;exact Afg fx s k3 k4 k1 k2 base w bx v w hM
end
theorem zq.keep {base:Nat} {er:Int} {s:Mst} {r0:Int} {xv tv sv:Value} {w w':World} (h:zq base er s r0 xv tv sv w) (hk:∀ q,base <= q->q < w.heap.size->w'.heap[q]? = w.heap[q]?):zq base er s r0 xv tv sv w':=by
 have hst:∀ {e:TypeId} {size n:Nat} {x:Value} {xs:List Value},w.ownsRow base e size x n xs->w'.ownsRow base e size x n xs:=fun ho=>Em ho fun b hb=>hk b (ho.lt b hb).1 (ho.lt b hb).2;refine ⟨h.shx,h.sht,h.shs,h.fail,h.r0,fun he=>hst (h.ctx he),fun he=>hst (h.sent he),fun he=>?_⟩;obtain ⟨ρ,vals,hT⟩:=h.tabs he;exact ⟨ρ,vals,⟨⟨hst hT.list.1,hT.list.2⟩,fun k hk'=>let ⟨u,hu,ho⟩:=hT.item k hk';⟨u,hu,⟨hst ho.1,ho.2⟩⟩⟩⟩
theorem Aco.keep {base:Nat} {s:Mst} {xv tv sv:Value} {w w':World} (h:Aco base s xv tv sv w) (hk:∀ q,base <= q->q < w.heap.size->w'.heap[q]? = w.heap[q]?):Aco base s xv tv sv w':=by
 have hst:∀ {f:Nat->Nat} {r:Nat} {e:TypeId} {size n:Nat} {x:Value} {xs:List Value},Bf w base f r e size x n xs->Bf w' base f r e size x n xs:=fun ho=>⟨Em ho.1 fun b hb=>hk b (ho.1.lt b hb).1 (ho.1.lt b hb).2,ho.2⟩;obtain ⟨f,vals,h1,h2,h3⟩:=h.at';exact ⟨f,vals,hst h1,⟨hst h2.list,fun k hk'=>let ⟨u,hu,ho⟩:=h2.item k hk';⟨u,hu,hst ho⟩⟩,hst h3⟩
theorem Jt.keep {w s':World} {s:Mst} {xv tv sv:Value} {w1 w2:World} (h:Jt w s xv tv sv w1) (hb:Below w1.heap.size w1 w2):Jt w s xv tv sv w2:=by
 have hst:∀ {e:TypeId} {size n:Nat} {x:Value} {xs:List Value},w1.ownsRow w.heap.size e size x n xs->w2.ownsRow w.heap.size e size x n xs:=fun ho=>Dn ho hb nl;obtain ⟨ρ,vals,hT⟩:=h.tabs;exact ⟨h.bel.trans (hb.mono h.bel.size),hst h.ctx,⟨ρ,vals,⟨⟨hst hT.list.1,hT.list.2⟩,fun k hk'=>let ⟨u,hu,ho⟩:=hT.item k hk';⟨u,hu,⟨hst ho.1,ho.2⟩⟩⟩⟩,hst h.sent,h.shx,h.sht,h.shs,h.lab.keep fun q _ hq=>hb.block q hq⟩
theorem Xk {w:World} {base:Nat} {v:Value} {xs:List Int} (h:w.ownsRow base 3 1 v xs.length (Jb xs)):Ints w v xs:=by
 have h0:=Gl h (Wy _) (by decide);obtain ⟨hl,h1,⟨hz,a,cap,rfl,hm⟩ | ⟨hp,b,off,cap,rfl,hlt,hm,hc,hcell⟩⟩:=h0
 ·have:xs = []:=List.length_eq_zero_iff.1 hz;subst this;exact Or.inl ⟨rfl,a,cap,rfl⟩
 ·refine Or.inr ⟨hp,b,off,cap,rfl,hlt,fun i hi=>hcell i _ ?_⟩;unfold Jb;rw [List.getElem?_map,List.getElem?_eq_getElem hi];simp [List.getD,hi]
theorem zq.reads {base:Nat} {s:Mst} {r0:Int} {xv tv sv:Value} {w:World} (h:zq base 0 s r0 xv tv sv w) (hx:Ah s.ctx) (hr:∀ k (hk:k < s.rows.length),Ah s.rows[k]) :
 ∃ a n b m c k vals,xv = .slice a s.ctx.length n/\tv = .slice b s.rows.length m/\sv = .slice c s.sent.length k/\Held w xv s.ctx/\Es w tv vals s.rows/\Ints w sv s.sent:=by
 obtain ⟨ρ,vals,hT⟩:=h.tabs rfl;obtain ⟨a,n,e1⟩:=Ai (h.ctx rfl);obtain ⟨b,m,e2⟩:=Ai hT.list.1;obtain ⟨c,k,e3⟩:=Ai (h.sent rfl);exact ⟨a,n,b,m,c,k,vals,e1,e2,e3,Dq (h.ctx rfl) hx rfl,Ho hT hr,Xk (h.sent rfl)⟩
theorem Jt.reads {w:World} {s:Mst} {xv tv sv:Value} {w':World} (h:Jt w s xv tv sv w') (hx:Ah s.ctx) (hr:∀ k (hk:k < s.rows.length),Ah s.rows[k]) :
 ∃ a n b m c k vals,xv = .slice a s.ctx.length n/\tv = .slice b s.rows.length m/\sv = .slice c s.sent.length k/\Held w' xv s.ctx/\Es w' tv vals s.rows/\Ints w' sv s.sent:=by
 obtain ⟨ρ,vals,hT⟩:=h.tabs;obtain ⟨a,n,e1⟩:=Ai h.ctx;obtain ⟨b,m,e2⟩:=Ai hT.list.1;obtain ⟨c,k,e3⟩:=Ai h.sent;exact ⟨a,n,b,m,c,k,vals,e1,e2,e3,Dq h.ctx hx rfl,Ho hT hr,Xk h.sent⟩
structure Qa (P:Nat->Nat) (i:Nat) (er:Int) (s:Mst) (r0:Int) (xv tv sv:Value) (w:World):Prop where
 at':∃ base we,zq base er s r0 xv tv sv we/\we.heap.size <= w.heap.size/\∀ q,base <= q->q < we.heap.size->P q = i/\w.heap[q]? = we.heap[q]?
theorem Qa.out {P:Nat->Nat} {i:Nat} {er:Int} {s:Mst} {r0:Int} {xv tv sv:Value} {w:World} (h:Qa P i er s r0 xv tv sv w):∃ base,zq base er s r0 xv tv sv w:=by
 obtain ⟨base,we,hO,hs,hk⟩:=h.at';exact ⟨base,hO.keep fun q h1 h2=>(hk q h1 h2).2⟩
theorem Qa.work {P:Nat->Nat} {i j:Nat} (hij:i ≠ j) {er:Int} {s:Mst} {r0:Int} {xv tv sv:Value} {w w':World} (h:Qa P i er s r0 xv tv sv w) (hW:Work P j w w') (k:Nat):Qa (grown P w.heap.size k) i er s r0 xv tv sv w':=by
 obtain ⟨base,we,hO,hs,hk⟩:=h.at';refine ⟨base,we,hO,Nat.le_trans hs hW.size,fun q h1 h2=>?_⟩;obtain ⟨g1,g2⟩:=hk q h1 h2;exact ⟨(Ci (by omega)).trans g1,(hW.keep q (by omega) (by omega)).trans g2⟩
theorem Qa.next {P:Nat->Nat} {i k:Nat} {er:Int} {s:Mst} {r0:Int} {xv tv sv:Value} {w w':World} (h:Qa P i er s r0 xv tv sv w) (hb:Below w.heap.size w w'):Qa (grown P w.heap.size k) i er s r0 xv tv sv w':=
 h.work (j:=i + 1) (by omega) (Work.of_below hb) k
theorem Qa.begin {P:Nat->Nat} {i:Nat} {er:Int} {s:Mst} {r0:Int} {xv tv sv:Value} {w w':World} (h:zq w.heap.size er s r0 xv tv sv w') (hs:w.heap.size <= w'.heap.size):Qa (grown P w.heap.size i) i er s r0 xv tv sv w':=
 ⟨w.heap.size,w',h,Nat.le_refl _,fun q h1 h2=>⟨Kt h1,rfl⟩⟩
structure Nj (P:Nat->Nat) (q:Nat) (e:TypeId) (cs:List Value) (w:World):Prop where
 row:Row w q e cs
 zero:P q = 0
theorem Nj.work {P:Nat->Nat} {j q:Nat} (hj:j ≠ 0) {e:TypeId} {cs:List Value} {w w':World} (h:Nj P q e cs w) (hW:Work P j w w') (k:Nat):Nj (grown P w.heap.size k) q e cs w':=
 ⟨(hW.keep q h.row.lt (by rw [h.zero];omega)).trans h.row,(Ci h.row.lt).trans h.zero⟩
theorem Nj.next {P:Nat->Nat} {q k:Nat} {e:TypeId} {cs:List Value} {w w':World} (h:Nj P q e cs w) (hb:Below w.heap.size w w'):Nj (grown P w.heap.size k) q e cs w':=h.work (j:=1) (by decide) (Work.of_below hb) k
theorem Nj.made {P:Nat->Nat} (w:World) (cs:List Value) (e:TypeId):Nj (grown P w.heap.size 0) w.heap.size e cs (w.alloc (.cells cs.toArray e)):=⟨Row.made w cs e,Kt nl⟩
theorem Aol {P:Nat->Nat} {q:Nat} (hq:P q = 0) (w:World) (x0 x1 x2 x3:Value):Work P 0 w ((((w.setCell ⟨q,0,none⟩ x0).setCell ⟨q,1,none⟩ x1).setCell ⟨q,2,none⟩ x2).setCell ⟨q,3,none⟩ x3):=
 ⟨rfl,rfl,rfl,by simp,fun k hk hne=>by
  have hkq:k ≠ q:=fun hc=>hne (by rw [hc];exact hq);rw [Below.heap_setCell _ _ _ _ hkq,Below.heap_setCell _ _ _ _ hkq,Below.heap_setCell _ _ _ _ hkq,Below.heap_setCell _ _ _ _ hkq]⟩
structure T3 (W:World) (P:Nat->Nat) (fx:Ak) (s1 s2 s3:Mst) (b1 b2 b3:Nat) (w:World):Prop where
 g:Ground W P w
 m1:Mine P 1 fx s1 b1 w
 m2:Mine P 2 fx s2 b2 w
 m3:Mine P 3 fx s3 b3 w
section
variable {W:World} {P:Nat->Nat} {fx:Ak} {s1 s2 s3 s':Mst} {b1 b2 b3:Nat} {w w':World}
theorem T3.next (h:T3 W P fx s1 s2 s3 b1 b2 b3 w) (hb:Below w.heap.size w w') (k:Nat):T3 W (grown P w.heap.size k) fx s1 s2 s3 b1 b2 b3 w':=⟨h.g.next hb,h.m1.next hb,h.m2.next hb,h.m3.next hb⟩
theorem T3.Wi (h:T3 W P fx s1 s2 s3 b1 b2 b3 w) {q:Nat} (hq:P q = 0) (hW:W.heap.size <= q) (x0 x1 x2 x3:Value):T3 W (grown P w.heap.size 0) fx s1 s2 s3 b1 b2 b3 ((((w.setCell ⟨q,0,none⟩ x0).setCell ⟨q,1,none⟩ x1).setCell ⟨q,2,none⟩ x2).setCell ⟨q,3,none⟩ x3):=by
 have hw:=Aol (P:=P) hq w x0 x1 x2 x3;exact ⟨⟨(((h.g.bel.setCell hW x0).setCell hW x1).setCell hW x2).setCell hW x3,fun q' hq'=>(Ci (Nat.lt_of_lt_of_le hq' h.g.bel.size)).trans (h.g.zero q' hq')⟩,h.m1.work (by decide) hw,h.m2.work (by decide) hw,h.m3.work (by decide) hw⟩
end
end Go.Proofs.YtjacnhnaoenelaaGreat
