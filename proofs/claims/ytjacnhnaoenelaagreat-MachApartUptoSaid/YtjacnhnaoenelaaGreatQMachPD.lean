import Derived.Test.YtjacnhnaoenelaaGreatQMachPC
set_option maxRecDepth 100000
namespace Go.Proofs.YtjacnhnaoenelaaGreat
open Go.Proofs.Tryz
open Go.RowKit
set_option linter.unusedVariables false
set_option linter.unusedSimpArgs false
structure StN (P:Nat->Nat) (s:Mst) (xv tv sv:Value) (w:World):Prop where
 at':∃ w0 we,Jt w0 s xv tv sv we/\we.heap.size <= w.heap.size/\∀ q,w0.heap.size <= q->q < we.heap.size->100 <= P q/\w.heap[q]? = we.heap[q]?
theorem StN.parts {fx:Ak} {P:Nat->Nat} {s:Mst} {xv tv sv:Value} {w:World} (hs:Kr fx s) (h:StN P s xv tv sv w):Parts w s xv tv sv:=by
 obtain ⟨w0,we,hA,hsz,hk⟩:=h.at';have hst:∀ {e:TypeId} {size n:Nat} {x:Value} {xs:List Value},we.ownsRow w0.heap.size e size x n xs->w.ownsRow w0.heap.size e size x n xs:=fun ho=>Em ho fun b hb=>(hk b (ho.lt b hb).1 (ho.lt b hb).2).2;obtain ⟨ρ,vals,hT⟩:=hA.tabs;obtain ⟨a,n,e1⟩:=Ai hA.ctx;obtain ⟨b,m,e2⟩:=Ai hT.list.1;obtain ⟨c,k,e3⟩:=Ai hA.sent;have hT2:F9 w w0.heap.size ρ tv vals s.rows:=⟨⟨hst hT.list.1,hT.list.2⟩,fun k hk'=>let ⟨u,hu,ho⟩:=hT.item k hk';⟨u,hu,⟨hst ho.1,ho.2⟩⟩⟩;exact ⟨a,n,b,m,c,k,vals,e1,e2,e3,Dq (hst hA.ctx) hs.good.mem.ctx rfl,Ho hT2 (fun k hk=>(hs.good.mem.rows k hk).1),Xk (hst hA.sent)⟩
theorem StN.work {P:Nat->Nat} {j:Nat} (hj:j < 100) {s:Mst} {xv tv sv:Value} {w w':World} (h:StN P s xv tv sv w) (hW:Work P j w w') (k:Nat):StN (grown P w.heap.size k) s xv tv sv w':=by
 obtain ⟨w0,we,hA,hs,hk⟩:=h.at';refine ⟨w0,we,hA,Nat.le_trans hs hW.size,fun q h1 h2=>?_⟩;obtain ⟨g1,g2⟩:=hk q h1 h2;exact ⟨by rw [Ci (by omega)];exact g1,(hW.keep q (by omega) (by omega)).trans g2⟩
theorem StN.next {P:Nat->Nat} {s:Mst} {xv tv sv:Value} {w w':World} (h:StN P s xv tv sv w) (hb:Below w.heap.size w w') (k:Nat):StN (grown P w.heap.size k) s xv tv sv w':=h.work (j:=1) (by decide) (Work.of_below hb) k
def yg (K:Nat) (P:Nat->Nat) (n:Nat) (f:Nat->Nat):Nat->Nat:=fun q=>if q < n then P q else K + f q
theorem Asy {K:Nat} {P:Nat->Nat} {n:Nat} {f:Nat->Nat} {q:Nat} (hq:q < n):yg K P n f q = P q:=by
 unfold yg;rw [if_pos hq]
def Lm (K base:Nat) (vals:List Value) (rows:List (List Int)) (k:Nat) (P:Nat->Nat) (w:World):Prop:=
 ∀ j,k <= j->∀ (h:j < rows.length),∃ u,vals[j]? = some u/\Bf w base P (K + 11 + j) 5 1 u rows[j].length (Gp rows[j])
section
variable {K base k:Nat} {vals:List Value} {rows:List (List Int)} {P:Nat->Nat} {w w':World}
theorem Lm.work (hK:100 <= K) {j:Nat} (hj:j < 100) (h:Lm K base vals rows k P w) (hW:Work P j w w') (m:Nat):Lm K base vals rows k (grown P w.heap.size m) w':=
 fun i hi hl=>let ⟨u,hu,ho⟩:=h i hi hl;⟨u,hu,ho.work (by omega) hW m⟩
theorem Lm.weak {k':Nat} (hk:k <= k') (h:Lm K base vals rows k P w):Lm K base vals rows k' P w:=fun i hi hl=>h i (Nat.le_trans hk hi) hl
theorem yh {r:Nat} (hK:100 <= K) (hr:∀ j,k <= j->j < rows.length->K + 11 + j ≠ r):Nk r (Lm K base vals rows k):=
 ⟨fun P P' w hf h j hj hl=>let ⟨u,hu,ho⟩:=h j hj hl;⟨u,hu,ho.re fun q hq=>(hf q (by have:=hr j hj hl;omega)).trans hq⟩,fun P m k' w w' hm hW h=>Lm.work hK (by omega) h hW k'⟩
end
theorem Aco.labels {base:Nat} {s:Mst} {xv tv sv:Value} {w:World} (h:Aco base s xv tv sv w) {low:Nat} (hlow:low <= base):∃ f vals,∀ K P,Bf w low (yg K P base f) (K + 5) 5 1 xv s.ctx.length (Gp s.ctx)/\Bf w low (yg K P base f) (K + 6) 3 1 sv s.sent.length (Jb s.sent)/\Bf w low (yg K P base f) (K + 10) 22 1 tv s.rows.length vals/\Lm K low vals s.rows 0 (yg K P base f) w:=by
 obtain ⟨f,vals,h1,h2,h3⟩:=h.at';refine ⟨f,vals,fun K P=>?_⟩
 have hm:∀ {r:Nat} {e:TypeId} {n:Nat} {x:Value} {xs:List Value},Bf w base f r e 1 x n xs->Bf w low (yg K P base f) (K + r) e 1 x n xs:=fun ho=>⟨Gz ho.1 hlow,fun b hb=>by
  have h1:=(ho.1.lt b hb).1;have h2:=ho.2 b hb;show (if b < base then P b else K + f b) = _;rw [if_neg (by omega),h2]⟩
 refine ⟨hm h1,hm h3,hm h2.list,fun j _ hj=>?_⟩;obtain ⟨u,hu,ho⟩:=h2.item j hj;have:=hm ho;rw [show K + (11 + j) = K + 11 + j by omega] at this;exact ⟨u,hu,this⟩
def MQ (fx:Ak) (b:Nat) (i:Nat) (vq:Value) (P:Nat->Nat) (w:World):Prop:=
 vq = .pointer none\/(vq = .pointer (some ⟨b,0,none⟩)/\J5 fx/\∃ s,Kr fx s/\s.steps <= i/\Mine P 5 fx s b w)
section
variable {fx:Ak} {b i j:Nat} {vq:Value} {P P':Nat->Nat} {w w':World}
theorem MQ.work (hj:j ≠ 5) (h:MQ fx b i vq P w) (hW:Work P j w w'):MQ fx b i vq (grown P w.heap.size j) w':=by
 rcases h with h | ⟨h1,h2,s,h3,h4,h5⟩
 ·exact Or.inl h
 ·exact Or.inr ⟨h1,h2,s,h3,h4,h5.work (by omega) hW⟩
theorem MQ.next (h:MQ fx b i vq P w) (hb:Below w.heap.size w w') (k:Nat):MQ fx b i vq (grown P w.heap.size k) w':=by
 rcases h with h | ⟨h1,h2,s,h3,h4,h5⟩
 ·exact Or.inl h
 ·exact Or.inr ⟨h1,h2,s,h3,h4,h5.next hb⟩
theorem MQ.re (hf:∀ q,P q = 5->P' q = 5) (h:MQ fx b i vq P w):MQ fx b i vq P' w:=by
 rcases h with h | ⟨h1,h2,s,h3,h4,h5⟩
 ·exact Or.inl h
 ·exact Or.inr ⟨h1,h2,s,h3,h4,h5.re hf⟩
theorem MQ.mono {i':Nat} (h:MQ fx b i vq P w) (hi:i <= i'):MQ fx b i' vq P w:=by
 rcases h with h | ⟨h1,h2,s,h3,h4,h5⟩
 ·exact Or.inl h
 ·exact Or.inr ⟨h1,h2,s,h3,by omega,h5⟩
theorem Aux {r:Nat} (hr:100 <= r) (fx:Ak) (b i:Nat) (vq:Value):Nk r (MQ fx b i vq):=
 ⟨fun P P' w hf h=>h.re fun q hq=>(hf q (by omega)).trans hq,fun P j k w w' hj hW h=>by
  rcases h with h | ⟨h1,h2,s,h3,h4,h5⟩
  ·exact Or.inl h
  ·exact Or.inr ⟨h1,h2,s,h3,h4,(Y3 (r:=r) (by omega) (by decide) (by decide) fx s b).work P j k w w' hj hW h5⟩⟩
end
def X1 (fx fq:Ak) (s1 s4:Mst) (b1 b4 b5 i:Nat) (vq:Value) (P:Nat->Nat) (w:World):Prop:=Mine P 1 fx s1 b1 w/\Mine P 4 fx s4 b4 w/\MQ fq b5 i vq P w
section
variable {fx fq:Ak} {s1 s4:Mst} {b1 b4 b5 i:Nat} {vq:Value} {P P':Nat->Nat} {w w':World}
theorem X1.next (h:X1 fx fq s1 s4 b1 b4 b5 i vq P w) (hb:Below w.heap.size w w') (k:Nat):X1 fx fq s1 s4 b1 b4 b5 i vq (grown P w.heap.size k) w':=⟨h.1.next hb,h.2.1.next hb,h.2.2.next hb k⟩
theorem X1.re (hf:∀ q,P q < 100->P' q = P q) (h:X1 fx fq s1 s4 b1 b4 b5 i vq P w):X1 fx fq s1 s4 b1 b4 b5 i vq P' w:=
 ⟨h.1.re fun q hq=>(hf q (by omega)).trans hq,h.2.1.re fun q hq=>(hf q (by omega)).trans hq,h.2.2.re fun q hq=>(hf q (by omega)).trans hq⟩
theorem Ky {r:Nat} (hr:100 <= r):Nk r (X1 fx fq s1 s4 b1 b4 b5 i vq):=
 (Y3 (by omega) (by decide) (by decide) _ _ _).and ((Y3 (by omega) (by decide) (by decide) _ _ _).and (Aux hr _ _ _ _))
end
structure XL (lo:Nat) (s:Mst) (D1 D2:Nat) (x1 t1 y1 x2 t2 y2:Value) (v1 v2:List Value) (M:(Nat->Nat)->World->Prop) (k1 k2:Nat) (P:Nat->Nat) (w:World):Prop where
 m:M P w
 d1:Nj P D1 64 (Au s x1 t1 y1) w
 d2:Nj P D2 64 (Au s x2 t2 y2) w
 l1:Bf w lo P 110 22 1 t1 s.rows.length v1
 l2:Bf w lo P 310 22 1 t2 s.rows.length v2
 r1:Lm 100 lo v1 s.rows k1 P w
 r2:Lm 300 lo v2 s.rows k2 P w
section
variable {lo:Nat} {s:Mst} {D1 D2:Nat} {x1 t1 y1 x2 t2 y2:Value} {v1 v2:List Value} {M:(Nat->Nat)->World->Prop} {k1 k2:Nat} {P:Nat->Nat} {w w':World}
theorem XL.weak {k1' k2':Nat} (h:XL lo s D1 D2 x1 t1 y1 x2 t2 y2 v1 v2 M k1 k2 P w) (h1:k1 <= k1') (h2:k2 <= k2'):XL lo s D1 D2 x1 t1 y1 x2 t2 y2 v1 v2 M k1' k2' P w:=
 ⟨h.m,h.d1,h.d2,h.l1,h.l2,h.r1.weak h1,h.r2.weak h2⟩
theorem U7 {r:Nat} (hr:100 < r) (hM:Nk r M) (h1:110 ≠ r) (h2:310 ≠ r) (h3:∀ j,k1 <= j->j < s.rows.length->100 + 11 + j ≠ r) (h4:∀ j,k2 <= j->j < s.rows.length->300 + 11 + j ≠ r):Nk r (XL lo s D1 D2 x1 t1 y1 x2 t2 y2 v1 v2 M k1 k2):=
 have f1:Nk r (fun P w=>Nj P D1 64 (Au s x1 t1 y1) w):=Abi (by omega) _ _ _;have f2:Nk r (fun P w=>Nj P D2 64 (Au s x2 t2 y2) w):=Abi (by omega) _ _ _;have f3:Nk r (fun P w=>Bf w lo P 110 22 1 t1 s.rows.length v1):=Ja h1 (by decide) _ _ _;have f4:Nk r (fun P w=>Bf w lo P 310 22 1 t2 s.rows.length v2):=Ja h2 (by decide) _ _ _;have f5:Nk r (Lm 100 lo v1 s.rows k1):=yh (by decide) h3;have f6:Nk r (Lm 300 lo v2 s.rows k2):=yh (by decide) h4
 ⟨fun P P' w hf h=>⟨hM.re P P' w hf h.m,f1.re P P' w hf h.d1,f2.re P P' w hf h.d2,f3.re P P' w hf h.l1,f4.re P P' w hf h.l2,f5.re P P' w hf h.r1,f6.re P P' w hf h.r2⟩,
  fun P j k w w' hj hW h=>⟨hM.work P j k w w' hj hW h.m,f1.work P j k w w' hj hW h.d1,f2.work P j k w w' hj hW h.d2,f3.work P j k w w' hj hW h.l1,f4.work P j k w w' hj hW h.l2,f5.work P j k w w' hj hW h.r1,f6.work P j k w w' hj hW h.r2⟩⟩
end
section
variable {P P':Nat->Nat} {i n:Nat} {w w':World}
theorem Xu (hP:∀ q,q < n->P' q = P q) (hi:i ≠ 200) (q:Nat) (h:grown P n 200 q = i):P' q = i:=by
 unfold grown at h
 by_cases hq:q < n
 ·rw [if_pos hq] at h;rw [hP q hq,h]
 ·rw [if_neg hq] at h;exact absurd h.symm hi
theorem Mine.moves (hb:Below w.heap.size w w') (hP:∀ q,q < w.heap.size->P' q = P q) (hi:i ≠ 200) {fx:Ak} {s:Mst} {bx:Nat} (h:Mine P i fx s bx w):Mine P' i fx s bx w':=(h.next (k:=200) hb).re fun q hq=>Xu hP hi q hq
theorem MQ.moves (hb:Below w.heap.size w w') (hP:∀ q,q < w.heap.size->P' q = P q) {fx:Ak} {b:Nat} {vq:Value} (h:MQ fx b i vq P w):MQ fx b i vq P' w':=(h.next hb 200).re fun q hq=>Xu hP (by decide) q hq
theorem X1.moves (hb:Below w.heap.size w w') (hP:∀ q,q < w.heap.size->P' q = P q) {fx fq:Ak} {s1 s4:Mst} {b1 b4 b5:Nat} {vq:Value} (h:X1 fx fq s1 s4 b1 b4 b5 i vq P w):X1 fx fq s1 s4 b1 b4 b5 i vq P' w':=
 ⟨h.1.moves hb hP (by decide),h.2.1.moves hb hP (by decide),h.2.2.moves hb hP⟩
theorem Rnd.moves {W:World} {X Y:(Nat->Nat)->World->Prop} {hb hl N M:Nat} (h:Rnd W X hb hl N M P w) (hbl:Below w.heap.size w w') (hP:∀ q,q < w.heap.size->P' q = P q) (hY:Y P' w'):Rnd W Y hb hl N M P' w':=
 ⟨⟨h.g.bel.trans (hbl.mono h.g.bel.size),fun q hq=>(hP q (Nat.lt_of_lt_of_le hq h.g.bel.size)).trans (h.g.zero q hq)⟩,hY,(h.bk.work (j:=9) (by decide) (Work.of_below hbl) 200).re fun q hq=>Xu hP (by decide) q hq,(h.lg.work (j:=9) (by decide) (Work.of_below hbl) 200).re fun q hq=>Xu hP (by decide) q hq⟩
theorem Rnd.works {W:World} {X Y:(Nat->Nat)->World->Prop} {hb hl N M j:Nat} (h:Rnd W X hb hl N M P w) (h0:j ≠ 0) (h2:2 ≠ j) (h3:3 ≠ j) (hW:Work P j w w') (hY:Y (grown P w.heap.size j) w'):Rnd W Y hb hl N M (grown P w.heap.size j) w':=
 ⟨h.g.work h0 hW,hY,h.bk.work h2 hW j,h.lg.work h3 hW j⟩
end
structure YS (K lo:Nat) (s:Mst) (D:Nat) (x t y:Value) (v:List Value) (P:Nat->Nat) (w:World):Prop where
 ctx:Bf w lo P (K + 5) 5 1 x s.ctx.length (Gp s.ctx)
 sent:Bf w lo P (K + 6) 3 1 y s.sent.length (Jb s.sent)
 list:Bf w lo P (K + 10) 22 1 t s.rows.length v
 rows:Lm K lo v s.rows 0 P w
 told:StN P s x t y w
 box:Nj P D 64 (Au s x t y) w
section
variable {K lo D j:Nat} {s:Mst} {x t y:Value} {v:List Value} {P P':Nat->Nat} {w w':World}
theorem YS.work (hK:100 <= K) (hj:j < 100) (h0:j ≠ 0) (h:YS K lo s D x t y v P w) (hW:Work P j w w') (k:Nat):YS K lo s D x t y v (grown P w.heap.size k) w':=
 ⟨h.ctx.work (by omega) hW k,h.sent.work (by omega) hW k,h.list.work (by omega) hW k,h.rows.work hK hj hW k,h.told.work hj hW k,h.box.work h0 hW k⟩
theorem Bf.moves {base size n r:Nat} {e:TypeId} {u:Value} {xs:List Value} (hb:Below w.heap.size w w') (hP:∀ q,q < w.heap.size->P' q = P q) (h:Bf w base P r e size u n xs):Bf w' base P' r e size u n xs:=
 h.move fun q hq hr=>⟨hb.block q hq,(hP q hq).trans hr⟩
theorem Lm.moves {k:Nat} {rows:List (List Int)} (hb:Below w.heap.size w w') (hP:∀ q,q < w.heap.size->P' q = P q) (h:Lm K lo v rows k P w):Lm K lo v rows k P' w':=
 fun i hi hl=>let ⟨u,hu,ho⟩:=h i hi hl;⟨u,hu,ho.moves hb hP⟩
theorem StN.moves (hb:Below w.heap.size w w') (hP:∀ q,q < w.heap.size->P' q = P q) (h:StN P s x t y w):StN P' s x t y w':=by
 obtain ⟨w0,we,hA,hs,hk⟩:=h.at';refine ⟨w0,we,hA,Nat.le_trans hs hb.size,fun q h1 h2=>?_⟩;obtain ⟨g1,g2⟩:=hk q h1 h2;exact ⟨by rw [hP q (by omega)];exact g1,(hb.block q (by omega)).trans g2⟩
theorem Nj.moves {q:Nat} {e:TypeId} {cs:List Value} (hb:Below w.heap.size w w') (hP:∀ q,q < w.heap.size->P' q = P q) (h:Nj P q e cs w):Nj P' q e cs w':=⟨h.row.below hb h.row.lt,(hP q h.row.lt).trans h.zero⟩
theorem YS.moves (hb:Below w.heap.size w w') (hP:∀ q,q < w.heap.size->P' q = P q) (h:YS K lo s D x t y v P w):YS K lo s D x t y v P' w':=
 ⟨h.ctx.moves hb hP,h.sent.moves hb hP,h.list.moves hb hP,h.rows.moves hb hP,h.told.moves hb hP,h.box.moves hb hP⟩
theorem YS.begin (hK:100 <= K) (hlo:lo <= w.heap.size) (hA:Jt w s x t y w'):∃ v,∀ P:Nat->Nat,∃ P':Nat->Nat,(∀ q,q < w.heap.size->P' q = P q)/\YS K lo s w'.heap.size x t y v P' (w'.alloc (.cells (Au s x t y).toArray 64)):=by
 obtain ⟨f,v,hN⟩:=hA.lab.labels hlo;refine ⟨v,fun P=>⟨grown (yg K P w.heap.size f) w'.heap.size 0,fun q hq=>?_,?_⟩⟩
 ·rw [Ci (Nat.lt_of_lt_of_le hq hA.bel.size),Asy hq]
 ·obtain ⟨h1,h2,h3,h4⟩:=hN K P;have hb:=Ae w' (.cells (Au s x t y).toArray 64);have hP:∀ q,q < w'.heap.size->grown (yg K P w.heap.size f) w'.heap.size 0 q = yg K P w.heap.size f q:=fun q hq=>Ci hq;refine ⟨h1.moves hb hP,h2.moves hb hP,h3.moves hb hP,h4.moves hb hP,⟨w,w',hA,hb.size,fun q g1 g2=>⟨?_,hb.block q g2⟩⟩,Nj.made w' _ _⟩;rw [Ci g2];unfold yg;rw [if_neg (by omega)];omega
end
theorem YS.lists {lo D1 D2:Nat} {s:Mst} {x1 t1 y1 x2 t2 y2:Value} {v1 v2:List Value} {M:(Nat->Nat)->World->Prop} {P:Nat->Nat} {w:World} (h1:YS 100 lo s D1 x1 t1 y1 v1 P w) (h2:YS 300 lo s D2 x2 t2 y2 v2 P w) (hM:M P w):XL lo s D1 D2 x1 t1 y1 x2 t2 y2 v1 v2 M 0 0 P w:=
 ⟨hM,h1.box,h2.box,h1.list,h2.list,h1.rows,h2.rows⟩
theorem MO.mq {P:Nat->Nat} {q:Vo} {ctx:List Int} {rows:List (List Int)} {vq:Value} {w:World} {E:Int} (hE:E = newE q ctx rows) (h:MO P 5 q ctx rows vq w) (him:∀ i ∈ q.code,Ey i.Aa) (hd:Ah q.data) (hc:Ah ctx) (hr:∀ k (h:k < rows.length),Ah rows[k]) :
 ∃ (b:Nat) (d:Bool),MQ ⟨q.data,q.tabs,q.code⟩ b 0 vq P w/\(E == 0) = d/\(∀ w,(binOp .neq 39 vq (.pointer none)).run prog w = .ok (.bool d) w)/\(∀ a b w,(eqGuard .neq 39 a b vq (.pointer none)).run prog w = .ok () w)/\(vq = .pointer none->d = false):=by
 rcases h with ⟨h0,b,rfl,hm⟩ | ⟨h0,rfl⟩
 ·have hz:=Yv.1 h0;exact ⟨b,true,Or.inr ⟨rfl,Asb hz.1 him,_,Asd hz.1 hz.2 hd hc hr,(by show (0:Int) <= ((0:Nat):Int);decide),hm⟩,by rw [hE,h0];rfl,fun w=>rfl,fun a b w=>rfl,fun h=>by cases h⟩
 ·exact ⟨0,false,Or.inl rfl,by rw [hE];simpa using h0,fun w=>rfl,fun a b w=>rfl,fun _=>rfl⟩
theorem Ac5 {w w':World} {s:Mst} {x y:Value} {b:Option Addr} {u c:Nat} (h:Jt w s x (.slice b u c) y w'):u = s.rows.length:=by
 obtain ⟨ρ,vals,hT⟩:=h.tabs;obtain ⟨a,n,e⟩:=Ai hT.list.1;simp only [Value.slice.injEq] at e;exact e.2.1
theorem step_more {fx:Ak} {s:Mst} {i:Nat} (hc:J5 fx) (h:Kr fx s) (hs:s.steps <= (i:Int)) (hi:i < 60):s.steps < 4611686018427387904/\Kr fx (Fq fx s).2/\(Fq fx s).2.steps <= ((i + 1:Nat):Int):=by
 have h0:s.steps < 4611686018427387904:=by omega
 obtain ⟨-,-,h1⟩:=Acu (s:=s) hc h.at';have h2:=h.step hc;generalize (Fq fx s).2 = s' at h1 h2 ⊢;exact ⟨h0,h2,by push_cast;omega⟩
section
variable {W:World} {fx fq:Ak} {s1 s4 s':Mst} {b1 b4 b5 i hb hl N M:Nat} {vq:Value} {P:Nat->Nat} {w w':World}
theorem Rnd.one (h:Rnd W (X1 fx fq s1 s4 b1 b4 b5 i vq) hb hl N M P w) (hm:Mine (grown P w.heap.size 1) 1 fx s' b1 w') (hW:Work P 1 w w'):Rnd W (X1 fx fq s' s4 b1 b4 b5 i vq) hb hl N M (grown P w.heap.size 1) w':=
 h.works (by decide) (by decide) (by decide) hW ⟨hm,h.x.2.1.work (by decide) hW,h.x.2.2.work (by decide) hW⟩
theorem Rnd.other (h:Rnd W (X1 fx fq s1 s4 b1 b4 b5 i (.pointer (some ⟨b5,0,none⟩))) hb hl N M P w) (hc:J5 fq) (hs:Kr fq s') (hst:s'.steps <= ((i + 1:Nat):Int)) (hm:Mine (grown P w.heap.size 5) 5 fq s' b5 w') (hW:Work P 5 w w') :
 Rnd W (X1 fx fq s1 s4 b1 b4 b5 (i + 1) (.pointer (some ⟨b5,0,none⟩))) hb hl N M (grown P w.heap.size 5) w':=
 h.works (by decide) (by decide) (by decide) hW ⟨h.x.1.work (by decide) hW,h.x.2.1.work (by decide) hW,Or.inr ⟨rfl,hc,s',hs,hst,hm⟩⟩
theorem Rnd.idle (h:Rnd W (X1 fx fq s1 s4 b1 b4 b5 i vq) hb hl N M P w):Rnd W (X1 fx fq s1 s4 b1 b4 b5 (i + 1) vq) hb hl N M P w:=
 h.weak fun P w h=>⟨h.1,h.2.1,h.2.2.mono (Nat.le_succ _)⟩
end
section
variable {W:World} {s:Mst} {K D hb hl N M:Nat} {x t y:Value} {v:List Value} {P P':Nat->Nat} {w w':World}
theorem Rnd.told {X X':(Nat->Nat)->World->Prop} (h:Rnd W X hb hl N M P w) (hbb:Below w.heap.size w w') (hP:∀ q,q < w.heap.size->P' q = P q) (hY:YS K W.heap.size s D x t y v P' w') (hX:X' P' w'):Rnd W (fun P w=>YS K W.heap.size s D x t y v P w/\X' P w) hb hl N M P' w':=
 h.moves hbb hP ⟨hY,hX⟩
end
theorem Ri {s:Mst} (h1:(Ei s.rg).length = 44) (h2:s.st.length = 416) {xv tv sv:Value} {op:Oper} {a:Act} {w:World} {K:Act->World->Prop} {Q:Exit->Act->World->Prop} (n:Nat) {D:Nat} (h:Row w D 64 (Au s xv tv sv)) (ho:op.op = .load 64 (.tmp n)) (hx:a.eval (.tmp n) = .pointer (some ⟨D,0,none⟩))
 (hK:K (a.put op.dst (.agg (Au s xv tv sv).toArray)) w):op.wp prog a w K Q:=
 wp_load_mid 64 (.tmp n) ho D 0 hx (Au s xv tv sv) _ (fun j v hv=>by rw [Nat.zero_add,h.cell];exact hv) underlying64 rfl (Zq h1 h2) hK
end Go.Proofs.YtjacnhnaoenelaaGreat
