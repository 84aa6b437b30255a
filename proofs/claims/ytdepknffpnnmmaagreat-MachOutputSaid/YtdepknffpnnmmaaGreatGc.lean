import Derived.Test.YtdepknffpnnmmaaGreatGb
import Derived.Test.YtdepknffpnnmmaaGreatBk
import Derived.Test.YtdepknffpnnmmaaGreatLk
import Derived.Test.YtdepknffpnnmmaaGreatGa
namespace Go.Proofs.YtdepknffpnnmmaaGreat
open Go.RowKit
set_option linter.unusedVariables false
set_option linter.unusedSimpArgs false
section
variable {P P':Nat->Nat} {i j k r:Nat} {w w':World}
theorem Mine.re (hf:∀ q,P q = i->P' q = i) {fx:Mfix} {s:Mst} {bx:Nat} (h:Mine P i fx s bx w):Mine P' i fx s bx w:=by
 obtain ⟨base,v,hm,hq⟩:=h.ms
 exact ⟨base,v,hm,fun q hlt hP=>hq q hlt fun e=>hP (hf q e)⟩
theorem Own0.re (hf:∀ q,P q = 0->P' q = 0) {q:Nat} {e:TypeId} {cs:List Value} (h:Own0 P q e cs w):Own0 P' q e cs w:=⟨h.row,hf q h.zero⟩
theorem ToldO.re (hf:∀ q,P q = i->P' q = i) {er:Int} {s:Mst} {r0:Int} {xv tv sv:Value} (h:ToldO P i er s r0 xv tv sv w):ToldO P' i er s r0 xv tv sv w:=by
 obtain ⟨base,we,hO,hs,hk⟩:=h.at'
 exact ⟨base,we,hO,hs,fun q h1 h2=>⟨hf q (hk q h1 h2).1,(hk q h1 h2).2⟩⟩
theorem Ground.re {W:World} (hf:∀ q,P q = 0->P' q = 0) (h:Ground W P w):Ground W P' w:=⟨h.bel,fun q hq=>hf q (h.zero q hq)⟩
theorem OwnS.re {base size n:Nat} {e:TypeId} {v:Value} {xs:List Value} (hf:∀ q,P q = r->P' q = r) (h:OwnS w base P r e size v n xs):OwnS w base P' r e size v n xs:=⟨h.1,fun b hb=>hf b (h.2 b hb)⟩
theorem OwnS.work {base size n:Nat} {e:TypeId} {v:Value} {xs:List Value} (hr:r ≠ j) (hW:Work P j w w') (k:Nat) (h:OwnS w base P r e size v n xs):OwnS w' base (grown P w.heap.size k) r e size v n xs:=
 h.move fun q hq hP=>⟨hW.keep q hq (by rw [hP];exact hr),(grown_old hq).trans hP⟩
theorem OwnS.nextW {base size n:Nat} {e:TypeId} {v:Value} {xs:List Value} (hb:Below w.heap.size w w') (k:Nat) (h:OwnS w base P r e size v n xs):OwnS w' base (grown P w.heap.size k) r e size v n xs:=
 h.move fun q hq hP=>⟨hb.block q hq,(grown_old hq).trans hP⟩
theorem BMine.re (hf:∀ q,P q = i->P' q = i) {base hb:Nat} {cnt tot:Int} (h:BMine P i base hb cnt tot k w):BMine P' i base hb cnt tot k w:=by
 obtain ⟨ρ,vf,vw,vk,vn,F,ws,K,hC,h1,h2,h3,h4,h5⟩:=h.at'
 exact ⟨ρ,vf,vw,vk,vn,F,ws,K,hC,h1,h2,h3,h4,fun q hq hP=>h5 q hq fun e=>hP (hf q e)⟩
theorem Led.BMine.re (hf:∀ q,P q = i->P' q = i) {base hb:Nat} {cnt tot:Int} (h:Led.BMine P i base hb cnt tot k w):Led.BMine P' i base hb cnt tot k w:=by
 obtain ⟨ρ,vf,vw,vk,vn,F,ws,K,hC,h1,h2,h3,h4,h5⟩:=h.at'
 exact ⟨ρ,vf,vw,vk,vn,F,ws,K,hC,h1,h2,h3,h4,fun q hq hP=>h5 q hq fun e=>hP (hf q e)⟩
theorem relab_other {v:Value} {q:Nat} (h:P q ≠ r) (hv:∀ b,v.ownBlock = some b->P b = r):relab P v i q = P q:=by
 unfold relab
 rw [if_neg fun e=>h (hv q e)]
end
def BokN (P:Nat->Nat) (i base hb N:Nat) (w:World):Prop:=∃ cnt tot k,BMine P i base hb cnt tot k w/\0 <= cnt/\cnt <= N/\0 <= tot/\tot <= N * 1000000/\k <= 6 * N
def LokN (P:Nat->Nat) (i base hb N:Nat) (w:World):Prop:=∃ cnt tot k,Led.BMine P i base hb cnt tot k w/\0 <= cnt/\cnt <= N/\0 <= tot/\tot <= N * 1000000/\k <= 6 * N
section
variable {P P':Nat->Nat} {i j base hb N M:Nat} {w w':World}
theorem BokN.mono (h:BokN P i base hb N w) (hn:N <= M):BokN P i base hb M w:=by
 obtain ⟨cnt,tot,k,h1,h2,h3,h4,h5,h6⟩:=h
 exact ⟨cnt,tot,k,h1,h2,by omega,h4,by omega,by omega⟩
theorem LokN.mono (h:LokN P i base hb N w) (hn:N <= M):LokN P i base hb M w:=by
 obtain ⟨cnt,tot,k,h1,h2,h3,h4,h5,h6⟩:=h
 exact ⟨cnt,tot,k,h1,h2,by omega,h4,by omega,by omega⟩
theorem BokN.work (hij:i ≠ j) (h:BokN P i base hb N w) (hW:Work P j w w') (m:Nat):BokN (grown P w.heap.size m) i base hb N w':=by
 obtain ⟨cnt,tot,k,h1,h2⟩:=h
 exact ⟨cnt,tot,k,h1.work hij hW m,h2⟩
theorem LokN.work (hij:i ≠ j) (h:LokN P i base hb N w) (hW:Work P j w w') (m:Nat):LokN (grown P w.heap.size m) i base hb N w':=by
 obtain ⟨cnt,tot,k,h1,h2⟩:=h
 exact ⟨cnt,tot,k,h1.work hij hW m,h2⟩
theorem BokN.re (hf:∀ q,P q = i->P' q = i) (h:BokN P i base hb N w):BokN P' i base hb N w:=by
 obtain ⟨cnt,tot,k,h1,h2⟩:=h
 exact ⟨cnt,tot,k,h1.re hf,h2⟩
theorem LokN.re (hf:∀ q,P q = i->P' q = i) (h:LokN P i base hb N w):LokN P' i base hb N w:=by
 obtain ⟨cnt,tot,k,h1,h2⟩:=h
 exact ⟨cnt,tot,k,Led.BMine.re hf h1,h2⟩
end
structure Rnd (W:World) (X:(Nat->Nat)->World->Prop) (hb hl N M:Nat) (P:Nat->Nat) (w:World):Prop where
 g:Ground W P w
 x:X P w
 bk:BokN P 2 W.heap.size hb N w
 lg:LokN P 3 W.heap.size hl M w
structure Firm (r:Nat) (X:(Nat->Nat)->World->Prop):Prop where
 re:∀ P P' w,(∀ q,P q ≠ r->P' q = P q)->X P w->X P' w
 work:∀ P j k w w',(j = 2\/j = 3)->Work P j w w'->X P w->X (grown P w.heap.size k) w'
section
variable {W:World} {X:(Nat->Nat)->World->Prop} {hb hl N M:Nat} {P:Nat->Nat} {w:World} {r:Nat}
theorem Rnd.book (hr:100 <= r) (hX:Firm r X) (h:Rnd W X hb hl N M P w) (hN:N <= 10000) {v:Value} {xs:List Int} (hx:IsBytes xs) (hxl:xs.length <= 1000000) (hv:OwnS w W.heap.size P r 5 1 v xs.length (u8s xs)) :
 Calls Tryz.prog 34 #[.pointer (some ⟨hb,0,none⟩),v] w fun e w'=>e = .returned (.bool true)/\∃ P',Rnd W X hb hl (N + 1) M P' w':=by
 obtain ⟨cnt,tot,k,h1,h2,h3,h4,h5,h6⟩:=h.bk
 refine (bown_mine W.heap.size hb cnt tot k v xs w h1 (by omega) ⟨h2,by omega⟩ ⟨h4,by omega⟩ hx (by omega) hv.1 (fun b hb'=>by rw [hv.2 b hb'];omega)).mono ?_
 rintro e w' ⟨he,hB,hW⟩
 have hf:∀ q,P q ≠ r->relab P v 2 q = P q:=fun q hq=>relab_other hq hv.2
 have hi:∀ m,m < 100->∀ q,P q = m->relab P v 2 q = m:=fun m hm q hq=>(hf q (by omega)).trans hq
 exact ⟨he,_,(h.g.re (hi 0 (by omega))).work (by decide) hW,hX.work _ 2 2 _ _ (Or.inl rfl) hW (hX.re _ _ _ hf h.x),⟨_,_,_,hB,by omega,by push_cast;omega,by omega,by push_cast;omega,by omega⟩,(h.lg.re (hi 3 (by omega))).work (by decide) hW 2⟩
theorem Rnd.ledger (hr:100 <= r) (hX:Firm r X) (h:Rnd W X hb hl N M P w) (hM:M <= 10000) {v:Value} {xs:List Int} (hxl:xs.length <= 1000000) (hv:OwnS w W.heap.size P r 3 1 v xs.length (i64s xs)) :
 Calls Tryz.prog 35 #[.pointer (some ⟨hl,0,none⟩),v] w fun e w'=>e = .returned (.bool true)/\∃ P',Rnd W X hb hl N (M + 1) P' w':=by
 obtain ⟨cnt,tot,k,h1,h2,h3,h4,h5,h6⟩:=h.lg
 refine (Led.bown_mine W.heap.size hl cnt tot k v xs w h1 (by omega) ⟨h2,by omega⟩ ⟨h4,by omega⟩ (show xs.length <= 9223372036854775807 by omega) (by omega) hv.1 (fun b hb'=>by rw [hv.2 b hb'];omega)).mono ?_
 rintro e w' ⟨he,hB,hW⟩
 have hf:∀ q,P q ≠ r->relab P v 3 q = P q:=fun q hq=>relab_other hq hv.2
 have hi:∀ m,m < 100->∀ q,P q = m->relab P v 3 q = m:=fun m hm q hq=>(hf q (by omega)).trans hq
 exact ⟨he,_,(h.g.re (hi 0 (by omega))).work (by decide) hW,hX.work _ 3 3 _ _ (Or.inr rfl) hW (hX.re _ _ _ hf h.x),(h.bk.re (hi 2 (by omega))).work (by decide) hW 3,⟨_,_,_,hB,by omega,by push_cast;omega,by omega,by push_cast;omega,by omega⟩⟩
theorem Rnd.bdone (hX:Firm 100 X) (h:Rnd W X hb hl N M P w) (hN:N <= 10000) :
 Calls Tryz.prog 36 #[.pointer (some ⟨hb,0,none⟩)] w fun e w'=>e = .returned (.bool true)/\∃ P',Ground W P' w'/\X P' w'/\LokN P' 3 W.heap.size hl M w':=by
 obtain ⟨cnt,tot,k,h1,h2,h3,h4,h5,h6⟩:=h.bk
 refine (bdone_mine W.heap.size hb cnt tot k w h1 (by omega) ⟨h4,by omega⟩).mono ?_
 rintro e w' ⟨he,hW⟩
 exact ⟨he,_,h.g.work (k:=2) (by decide) hW,hX.work _ 2 2 _ _ (Or.inl rfl) hW h.x,h.lg.work (by decide) hW 2⟩
theorem ldone_of (hX:Firm 100 X) (hg:Ground W P w) (hx:X P w) (hL:LokN P 3 W.heap.size hl M w) (hM:M <= 10000) :
 Calls Tryz.prog 37 #[.pointer (some ⟨hl,0,none⟩)] w fun e w'=>e = .returned (.bool true)/\∃ P',Ground W P' w'/\X P' w':=by
 obtain ⟨cnt,tot,k,h1,h2,h3,h4,h5,h6⟩:=hL
 refine (Led.bdone_mine W.heap.size hl cnt tot k w h1 (by omega) ⟨h4,by omega⟩).mono ?_
 rintro e w' ⟨he,hW⟩
 exact ⟨he,_,hg.work (k:=3) (by decide) hW,hX.work _ 3 3 _ _ (Or.inr rfl) hW hx⟩
end
def Parts (w:World) (s:Mst) (xv tv sv:Value):Prop:=∃ (a:Option Addr) (n:Nat) (b:Option Addr) (m:Nat) (c:Option Addr) (k:Nat) (vals:List Value),xv = .slice a s.ctx.length n/\tv = .slice b s.rows.length m/\sv = .slice c s.sent.length k/\Held w xv s.ctx/\Rowed w tv vals s.rows/\Ints w sv s.sent
theorem parts_same {s:Mst} {fx:Mfix} (hc:CodeG fx) (hs:Sane fx s) {x1 t1 s1 x2 t2 s2:Value} {w:World} (h1:Parts w s x1 t1 s1) (h2:Parts w s x2 t2 s2) :
 Calls Tryz.prog 25 #[.agg (statec s x1 t1 s1).toArray,.agg (statec s x2 t2 s2).toArray] w fun e w'=>e = .returned (.bool true)/\Below w.heap.size w w':=by
 obtain ⟨k1,k2,k3,k4⟩:=hs.small hc
 obtain ⟨a,n,b,m,c,k,va,rfl,rfl,rfl,g1,g2,g3⟩:=h1
 obtain ⟨a',n',b',m',c',k',vb,rfl,rfl,rfl,g4,g5,g6⟩:=h2
 exact same_state s hs.good.regs.1 hs.good.slots (by rw [regc_len,hs.good.regs.1]) hs.good.slots.len a b c a' b' c' n m k n' m' k' va vb (by omega) (by omega) w g1 g2 g3 g4 g5 g6
theorem StateA.parts {fx:Mfix} {w:World} {s:Mst} {xv tv sv:Value} {w':World} (hs:Sane fx s) (h:StateA w s xv tv sv w'):Parts w' s xv tv sv:=
 h.reads hs.good.mem.ctx (fun k hk=>(hs.good.mem.rows k hk).1)
theorem Parts.below {w w':World} {s:Mst} {xv tv sv:Value} (h:Parts w s xv tv sv) (hb:Below w.heap.size w w'):Parts w' s xv tv sv:=by
 obtain ⟨a,n,b,m,c,k,vals,h1,h2,h3,h4,h5,h6⟩:=h
 exact ⟨a,n,b,m,c,k,vals,h1,h2,h3,h4.below hb (Nat.le_refl _),h5.below hb (Nat.le_refl _),h6.below hb (Nat.le_refl _)⟩
structure ToldS (P:Nat->Nat) (s:Mst) (xv tv sv:Value) (w:World):Prop where
 at':∃ w0 we,StateA w0 s xv tv sv we/\we.heap.size <= w.heap.size/\∀ q,w0.heap.size <= q->q < we.heap.size->P q = 0/\w.heap[q]? = we.heap[q]?
theorem ToldS.parts {fx:Mfix} {P:Nat->Nat} {s:Mst} {xv tv sv:Value} {w:World} (hs:Sane fx s) (h:ToldS P s xv tv sv w):Parts w s xv tv sv:=by
 obtain ⟨w0,we,hA,hsz,hk⟩:=h.at'
 have hst:∀ {e:TypeId} {size n:Nat} {x:Value} {xs:List Value},we.ownsRow w0.heap.size e size x n xs->w.ownsRow w0.heap.size e size x n xs:=fun ho=>ownsRow_stayS ho fun b hb=>(hk b (ho.lt b hb).1 (ho.lt b hb).2).2
 obtain ⟨ρ,vals,hT⟩:=hA.tabs
 obtain ⟨a,n,e1⟩:=own_slice hA.ctx
 obtain ⟨b,m,e2⟩:=own_slice hT.list.1
 obtain ⟨c,k,e3⟩:=own_slice hA.sent
 have hT2:TabS w w0.heap.size ρ tv vals s.rows:=⟨⟨hst hT.list.1,hT.list.2⟩,fun k hk'=>let ⟨u,hu,ho⟩:=hT.item k hk';⟨u,hu,⟨hst ho.1,ho.2⟩⟩⟩
 exact ⟨a,n,b,m,c,k,vals,e1,e2,e3,held_of_own (hst hA.ctx) hs.good.mem.ctx rfl,rowed_tabU hT2 (fun k hk=>(hs.good.mem.rows k hk).1),ints_own (hst hA.sent)⟩
theorem ToldS.work {P:Nat->Nat} {j:Nat} (hj:j ≠ 0) {s:Mst} {xv tv sv:Value} {w w':World} (h:ToldS P s xv tv sv w) (hW:Work P j w w') (k:Nat):ToldS (grown P w.heap.size k) s xv tv sv w':=by
 obtain ⟨w0,we,hA,hs,hk⟩:=h.at'
 refine ⟨w0,we,hA,Nat.le_trans hs hW.size,fun q h1 h2=>?_⟩
 obtain ⟨g1,g2⟩:=hk q h1 h2
 exact ⟨(grown_old (by omega)).trans g1,(hW.keep q (by omega) (by omega)).trans g2⟩
theorem ToldS.next {P:Nat->Nat} {k:Nat} {s:Mst} {xv tv sv:Value} {w w':World} (h:ToldS P s xv tv sv w) (hb:Below w.heap.size w w'):ToldS (grown P w.heap.size k) s xv tv sv w':=h.work (j:=1) (by decide) (Work.of_below hb) k
theorem ToldS.begin {P:Nat->Nat} {s:Mst} {xv tv sv:Value} {w w':World} (h:StateA w s xv tv sv w'):ToldS (grown P w.heap.size 0) s xv tv sv w':=
 ⟨w,w',h,Nat.le_refl _,fun q h1 h2=>⟨grown_new h1,rfl⟩⟩
structure QQ (W:World) (P:Nat->Nat) (fx:Mfix) (s:Mst) (b1 D B E:Nat) (xv tv sv:Value) (cb ce:List Value) (w:World):Prop where
 g:Ground W P w
 m:Mine P 1 fx s b1 w
 box:Own0 P D 62 (statec s xv tv sv) w
 told:ToldS P s xv tv sv w
 bb:Own0 P B 30 cb w
 be:Own0 P E 30 ce w
def Q5 (W:World) (fx:Mfix) (s:Mst) (b1 D B E:Nat) (xv tv sv:Value) (cb ce:List Value) (w:World):Prop:=∃ P,QQ W P fx s b1 D B E xv tv sv cb ce w
section
variable {W:World} {fx:Mfix} {s:Mst} {b1 D B E:Nat} {xv tv sv:Value} {cb ce:List Value} {w w':World}
theorem QQ.next {P:Nat->Nat} (h:QQ W P fx s b1 D B E xv tv sv cb ce w) (hb:Below w.heap.size w w'):QQ W (grown P w.heap.size 0) fx s b1 D B E xv tv sv cb ce w':=
 ⟨h.g.next hb,h.m.next hb,h.box.next hb,h.told.next hb,h.bb.next hb,h.be.next hb⟩
theorem Q5.next (h:Q5 W fx s b1 D B E xv tv sv cb ce w) (hb:Below w.heap.size w w'):Q5 W fx s b1 D B E xv tv sv cb ce w':=let ⟨P,hP⟩:=h;⟨_,hP.next hb⟩
theorem Q5.bel (h:Q5 W fx s b1 D B E xv tv sv cb ce w):Below W.heap.size W w:=let ⟨P,hP⟩:=h;hP.g.bel
theorem Q5.step (hc:CodeG fx) (hs:Sane fx s) (hst:s.steps < 4611686018427387904) (hk:(stepF fx s).2 = s) (h:Q5 W fx s b1 D B E xv tv sv cb ce w) :
 Calls Tryz.prog 23 #[.pointer (some ⟨b1,0,none⟩)] w fun e w'=>e = .returned (.int .i64 (stepF fx s).1)/\Q5 W fx s b1 D B E xv tv sv cb ce w':=by
 obtain ⟨P,hP⟩:=h
 refine (step_mine hc hs hst hP.m).mono ?_
 rintro e w' ⟨he,hm,hw⟩
 rw [hk] at hm
 exact ⟨he,_,hP.g.work (by decide) hw,hm,hP.box.work (by decide) hw 1,hP.told.work (by decide) hw 1,hP.bb.work (by decide) hw 1,hP.be.work (by decide) hw 1⟩
theorem Q5.state (hc:CodeG fx) (hs:Sane fx s) (h:Q5 W fx s b1 D B E xv tv sv cb ce w) :
 Calls Tryz.prog 22 #[.pointer (some ⟨b1,0,none⟩)] w fun e w'=>∃ x1 t1 s1,e = .returned (.agg (statec s x1 t1 s1).toArray)/\Parts w' s x1 t1 s1/\Q5 W fx s b1 D B E xv tv sv cb ce w':=by
 obtain ⟨P,hP⟩:=h
 refine (state_mine hc hs hP.m).mono ?_
 rintro e w' ⟨x1,t1,s1,he,hA⟩
 exact ⟨x1,t1,s1,he,hA.parts hs,_,hP.next hA.bel⟩
theorem Q5.same (hc:CodeG fx) (hs:Sane fx s) (h:Q5 W fx s b1 D B E xv tv sv cb ce w) {x1 t1 s1:Value} (h1:Parts w s x1 t1 s1) :
 Calls Tryz.prog 25 #[.agg (statec s xv tv sv).toArray,.agg (statec s x1 t1 s1).toArray] w fun e w'=>e = .returned (.bool true)/\Q5 W fx s b1 D B E xv tv sv cb ce w':=by
 obtain ⟨P,hP⟩:=h
 refine (parts_same hc hs (hP.told.parts hs) h1).mono ?_
 rintro e w' ⟨he,hb⟩
 exact ⟨he,_,hP.next hb⟩
theorem Q5.range (h:Q5 W fx s b1 D B E xv tv sv cb ce w):w.rangeAt D 0 (statec s xv tv sv):=fun j v hv=>by
 obtain ⟨P,hP⟩:=h
 rw [Nat.zero_add,hP.box.row.cell]
 exact hv
end
section
variable {W:World} {fx:Mfix} {s:Mst} {b1 D B E:Nat} {xv tv sv:Value} {a0 a1 a2 a3 c0 c1 c2 c3:Value} {w w':World}
theorem Q5.k (h44:(regc s.rg).length = 44) (h416:s.st.length = 416) {S:Int} {d:Bool} (hS:s.steps = S) (hd:s.done = d) (h:Q5 W fx s b1 D B E xv tv sv [a0,a1,a2,a3] [c0,c1,c2,c3] w) :
 w.cell? ⟨D,464,none⟩ = some (.int .i64 S)/\w.cell? ⟨D,465,none⟩ = some (.bool d) /\
 w.cell? ⟨B,0,none⟩ = some a0/\w.cell? ⟨B,1,none⟩ = some a1/\w.cell? ⟨B,2,none⟩ = some a2/\w.cell? ⟨B,3,none⟩ = some a3 /\
 w.cell? ⟨E,0,none⟩ = some c0/\w.cell? ⟨E,1,none⟩ = some c1/\w.cell? ⟨E,2,none⟩ = some c2/\w.cell? ⟨E,3,none⟩ = some c3 /\
 Q5 W fx s b1 D B E xv tv sv [a0,a1,a2,a3] [c0,c1,c2,c3] w:=by
 have h':=h
 obtain ⟨P,hP⟩:=h
 obtain ⟨t1,t2,t3⟩:=statec_tail h44 h416 xv tv sv
 rw [hS] at t2
 rw [hd] at t3
 obtain ⟨⟨f0,f1,f2,f3⟩,_⟩:=hP.bb.row.four
 obtain ⟨⟨g0,g1,g2,g3⟩,_⟩:=hP.be.row.four
 exact ⟨(hP.box.row.cell 464).trans t2,(hP.box.row.cell 465).trans t3,f0,f1,f2,f3,g0,g1,g2,g3,h'⟩
end
section
variable {r i:Nat}
theorem Firm.and {X Y:(Nat->Nat)->World->Prop} (h1:Firm r X) (h2:Firm r Y):Firm r (fun P w=>X P w/\Y P w):=
 ⟨fun P P' w hf h=>⟨h1.re P P' w hf h.1,h2.re P P' w hf h.2⟩,fun P j k w w' hj hW h=>⟨h1.work P j k w w' hj hW h.1,h2.work P j k w w' hj hW h.2⟩⟩
theorem firm_mine (hr:i ≠ r) (h2:i ≠ 2) (h3:i ≠ 3) (fx:Mfix) (s:Mst) (bx:Nat):Firm r (fun P w=>Mine P i fx s bx w):=
 ⟨fun P P' w hf h=>h.re fun q hq=>(hf q (by omega)).trans hq,fun P j k w w' hj hW h=>by
  have:=h.work (j:=j) (by omega) hW
  exact this.re fun q hq=>by
   unfold grown at hq ⊢
   by_cases hlt:q < w.heap.size
   ·rw [if_pos hlt] at hq ⊢;exact hq
   ·rw [if_neg hlt] at hq
    omega⟩
theorem firm_own0 (hr:0 ≠ r) (q:Nat) (e:TypeId) (cs:List Value):Firm r (fun P w=>Own0 P q e cs w):=
 ⟨fun P P' w hf h=>h.re fun q hq=>(hf q (by omega)).trans hq,fun P j k w w' hj hW h=>h.work (by omega) hW k⟩
theorem firm_toldO (hr:i ≠ r) (h2:i ≠ 2) (h3:i ≠ 3) (er:Int) (s:Mst) (r0:Int) (xv tv sv:Value):Firm r (fun P w=>ToldO P i er s r0 xv tv sv w):=
 ⟨fun P P' w hf h=>h.re fun q hq=>(hf q (by omega)).trans hq,fun P j k w w' hj hW h=>h.work (by omega) hW k⟩
theorem ToldS.re {P P':Nat->Nat} {w:World} {s:Mst} {xv tv sv:Value} (hf:∀ q,P q = 0->P' q = 0) (h:ToldS P s xv tv sv w):ToldS P' s xv tv sv w:=by
 obtain ⟨w0,we,hO,hs,hk⟩:=h.at'
 exact ⟨w0,we,hO,hs,fun q h1 h2=>⟨hf q (hk q h1 h2).1,(hk q h1 h2).2⟩⟩
theorem firm_toldS (hr:0 ≠ r) (s:Mst) (xv tv sv:Value):Firm r (fun P w=>ToldS P s xv tv sv w):=
 ⟨fun P P' w hf h=>h.re fun q hq=>(hf q (by omega)).trans hq,fun P j k w w' hj hW h=>h.work (by omega) hW k⟩
theorem firm_list {l base size n:Nat} (hr:l ≠ r) (h2:100 <= l) (e:TypeId) (v:Value) (xs:List Value):Firm r (fun P w=>OwnS w base P l e size v n xs):=
 ⟨fun P P' w hf h=>h.re fun q hq=>(hf q (by omega)).trans hq,fun P j k w w' hj hW h=>h.work (by omega) hW k⟩
def RowsAt (base:Nat) (vals:List Value) (rows:List (List Int)) (k:Nat) (P:Nat->Nat) (w:World):Prop:=
 ∀ j,k <= j->∀ (h:j < rows.length),∃ u,vals[j]? = some u/\OwnS w base P (111 + j) 5 1 u rows[j].length (u8s rows[j])
theorem firm_rows {base k:Nat} (hr:∀ j,k <= j->111 + j ≠ r) (vals:List Value) (rows:List (List Int)):Firm r (RowsAt base vals rows k):=
 ⟨fun P P' w hf h j hj hl=>let ⟨u,hu,ho⟩:=h j hj hl;⟨u,hu,ho.re fun q hq=>(hf q (by have:=hr j hj;omega)).trans hq⟩,fun P m k w w' hm hW h j hj hl=>let ⟨u,hu,ho⟩:=h j hj hl;⟨u,hu,ho.work (by omega) hW k⟩⟩
end
theorem Rnd.weak {W:World} {X Y:(Nat->Nat)->World->Prop} {hb hl N M:Nat} {P:Nat->Nat} {w:World} (h:Rnd W X hb hl N M P w) (hxy:∀ P w,X P w->Y P w):Rnd W Y hb hl N M P w:=⟨h.g,hxy _ _ h.x,h.bk,h.lg⟩
theorem Rnd.mono {W:World} {X:(Nat->Nat)->World->Prop} {hb hl N M N' M':Nat} {P:Nat->Nat} {w:World} (h:Rnd W X hb hl N M P w) (h1:N <= N') (h2:M <= M'):Rnd W X hb hl N' M' P w:=⟨h.g,h.x,h.bk.mono h1,h.lg.mono h2⟩
theorem Rnd.next {W:World} {X:(Nat->Nat)->World->Prop} {hb hl N M:Nat} {P:Nat->Nat} {w w':World} (h:Rnd W X hb hl N M P w) (hX:∀ P k w w',Below w.heap.size w w'->X P w->X (grown P w.heap.size k) w') (hbl:Below w.heap.size w w') (k:Nat):Rnd W X hb hl N M (grown P w.heap.size k) w':=
 ⟨h.g.next hbl,hX P k w w' hbl h.x,h.bk.work (j:=9) (by decide) (Work.of_below hbl) k,h.lg.work (j:=9) (by decide) (Work.of_below hbl) k⟩
theorem Rnd.re {W:World} {X:(Nat->Nat)->World->Prop} {hb hl N M:Nat} {P P':Nat->Nat} {w:World} (h:Rnd W X hb hl N M P w) (hf:∀ q,P q < 100->P' q = P q) (hX:X P w->X P' w):Rnd W X hb hl N M P' w:=
 ⟨h.g.re fun q hq=>(hf q (by omega)).trans hq,hX h.x,h.bk.re fun q hq=>(hf q (by omega)).trans hq,h.lg.re fun q hq=>(hf q (by omega)).trans hq⟩
def named (P:Nat->Nat) (n:Nat) (f:Nat->Nat):Nat->Nat:=fun q=>if q < n then P q else 100 + f q
theorem named_low {P:Nat->Nat} {n:Nat} {f:Nat->Nat} {q:Nat} (h:grown P n 200 q < 100):named P n f q = grown P n 200 q:=by
 unfold grown at h ⊢
 unfold named
 by_cases hq:q < n
 ·rw [if_pos hq,if_pos hq]
 ·rw [if_neg hq] at h
  omega
theorem Lab3.named {base:Nat} {s:Mst} {xv tv sv:Value} {w:World} (h:Lab3 base s xv tv sv w) {low:Nat} (hlow:low <= base):∃ f vals,∀ P,OwnS w low (named P base f) 105 5 1 xv s.ctx.length (u8s s.ctx)/\OwnS w low (named P base f) 106 3 1 sv s.sent.length (i64s s.sent)/\OwnS w low (named P base f) 110 27 1 tv s.rows.length vals/\RowsAt low vals s.rows 0 (named P base f) w:=by
 obtain ⟨f,vals,h1,h2,h3⟩:=h.at'
 refine ⟨f,vals,fun P=>?_⟩
 have hm:∀ {r:Nat} {e:TypeId} {n:Nat} {x:Value} {xs:List Value},OwnS w base f r e 1 x n xs->OwnS w low (Go.Proofs.YtdepknffpnnmmaaGreat.named P base f) (100 + r) e 1 x n xs:=fun ho=>⟨own_low ho.1 hlow,fun b hb=>by
  have h1:=(ho.1.lt b hb).1
  have h2:=ho.2 b hb
  show (if b < base then P b else 100 + f b) = _
  rw [if_neg (by omega),h2]⟩
 refine ⟨hm h1,hm h3,hm h2.list,fun j _ hj=>?_⟩
 obtain ⟨u,hu,ho⟩:=h2.item j hj
 have:=hm ho
 rw [show 100 + (11 + j) = 111 + j by omega] at this
 exact ⟨u,hu,this⟩
structure KD (wD:World) (B:Nat) (cs:List Value) (w:World):Prop where
 bel:Below wD.heap.size wD w
 row:Row w B 30 cs
section
variable {wD w w':World} {B C:Nat} {a0 a1 a2 a3:Value}
theorem KD.k (h:KD wD B [a0,a1,a2,a3] w):w.cell? ⟨B,0,none⟩ = some a0/\w.cell? ⟨B,1,none⟩ = some a1/\w.cell? ⟨B,2,none⟩ = some a2/\w.cell? ⟨B,3,none⟩ = some a3/\KD wD B [a0,a1,a2,a3] w:=
 let ⟨⟨h0,h1,h2,h3⟩,_⟩:=h.row.four;⟨h0,h1,h2,h3,h⟩
theorem KD.n (h:w.cell? ⟨B,0,none⟩ = some a0/\w.cell? ⟨B,1,none⟩ = some a1/\w.cell? ⟨B,2,none⟩ = some a2/\w.cell? ⟨B,3,none⟩ = some a3/\KD wD B [a0,a1,a2,a3] w) (hb:Below w.heap.size w w') :
 w'.cell? ⟨B,0,none⟩ = some a0/\w'.cell? ⟨B,1,none⟩ = some a1/\w'.cell? ⟨B,2,none⟩ = some a2/\w'.cell? ⟨B,3,none⟩ = some a3/\KD wD B [a0,a1,a2,a3] w':=
 KD.k ⟨h.2.2.2.2.bel.trans (hb.mono h.2.2.2.2.bel.size),h.2.2.2.2.row.below hb h.2.2.2.2.row.lt⟩
theorem KD.p (h:w.cell? ⟨B,0,none⟩ = some a0/\w.cell? ⟨B,1,none⟩ = some a1/\w.cell? ⟨B,2,none⟩ = some a2/\w.cell? ⟨B,3,none⟩ = some a3/\KD wD B [a0,a1,a2,a3] w) (hB:B < wD.heap.size) (hC:wD.heap.size <= C) (x0 x1 x2 x3:Value) :
 let w':=((((w.setCell ⟨C,0,none⟩ x0).setCell ⟨C,1,none⟩ x1).setCell ⟨C,2,none⟩ x2).setCell ⟨C,3,none⟩ x3)
 w'.cell? ⟨B,0,none⟩ = some a0/\w'.cell? ⟨B,1,none⟩ = some a1/\w'.cell? ⟨B,2,none⟩ = some a2/\w'.cell? ⟨B,3,none⟩ = some a3/\KD wD B [a0,a1,a2,a3] w':=
 KD.k ⟨(((h.2.2.2.2.bel.setCell hC x0).setCell hC x1).setCell hC x2).setCell hC x3,h.2.2.2.2.row.put4o (by omega) x0 x1 x2 x3⟩
end
theorem KD.x {wD w:World} {B:Nat} {a0 a1 a2 a3:Value} {o o':Obj} (h:(w.alloc o).cell? ⟨B,0,none⟩ = some a0/\(w.alloc o).cell? ⟨B,1,none⟩ = some a1/\(w.alloc o).cell? ⟨B,2,none⟩ = some a2/\(w.alloc o).cell? ⟨B,3,none⟩ = some a3/\KD wD B [a0,a1,a2,a3] (w.alloc o)) (hB:B < wD.heap.size) (hw:wD.heap.size <= w.heap.size) :
 (w.alloc o').cell? ⟨B,0,none⟩ = some a0/\(w.alloc o').cell? ⟨B,1,none⟩ = some a1/\(w.alloc o').cell? ⟨B,2,none⟩ = some a2/\(w.alloc o').cell? ⟨B,3,none⟩ = some a3/\KD wD B [a0,a1,a2,a3] (w.alloc o'):=by
 have hk:=h.2.2.2.2
 have hq:∀ q,q < w.heap.size->(w.alloc o').heap[q]? = (w.alloc o).heap[q]?:=fun q hq=>(Below.heap_alloc _ _ _ hq).trans (Below.heap_alloc _ _ _ hq).symm
 exact KD.k ⟨⟨hk.bel.os,hk.bel.tape,hk.bel.output,by simp;omega,fun q hq'=>(hq q (by omega)).trans (hk.bel.block q hq')⟩,(hq B (by omega)).trans hk.row⟩
theorem bx_new {W w':World} {o:Obj} {e:TypeId} {cs:List Value} (ho:o = .cells cs.toArray e) (hb:Below (W.alloc o).heap.size (W.alloc o) w'):Row w' W.heap.size e cs:=by
 subst ho
 exact (Row.made W cs e).below hb (Row.made W cs e).lt
theorem bx_newd {W w':World} {o:Obj} {e:TypeId} {cs:List Value} (ho:o = .cells cs.toArray e) (hb:Below (W.alloc o).drew.heap.size (W.alloc o).drew w'):Row w' W.heap.size e cs:=by
 subst ho
 exact (Row.made W cs e).drew.below hb (Row.made W cs e).lt
section
variable {w1 w2 w3 wS wD:World} {b1 b2 b3 C:Nat} {s:Mst} {r0:Int} {x t v x0 x1 x2 x3:Value} {ρ:Nat->Nat} {vals:List Value}
theorem own_fin {w1 wS:World} {b1 C size n:Nat} {e:TypeId} {x:Value} {xs:List Value} (e1:w1.ownsRow b1 e size x n xs) (f1:Below w1.heap.size w1 wS) (g1:C < b1\/w1.heap.size <= C) (y0 y1 y2 y3:Value):((((wS.setCell ⟨C,0,none⟩ y0).setCell ⟨C,1,none⟩ y1).setCell ⟨C,2,none⟩ y2).setCell ⟨C,3,none⟩ y3).ownsRow b1 e size x n xs:=by
 rcases g1 with g1 | g1
 ·exact own_put4 (own_stays e1 f1 (Nat.le_refl _)) g1 _ _ _ _
 ·exact own_stays e1 ((((f1.setCell (p:=⟨C,0,none⟩) g1 y0).setCell (p:=⟨C,1,none⟩) g1 y1).setCell (p:=⟨C,2,none⟩) g1 y2).setCell (p:=⟨C,3,none⟩) g1 y3) (Nat.le_refl _)
structure WasO (wD:World) (s:Mst) (r0:Int) (C:Nat) (x t v:Value) (w:World):Prop where
 bel:Below wD.heap.size wD w
 le:wD.heap.size <= C
 row:Row w C 30 [.int .i64 r0,x,t,v]
 out:OutS wD.heap.size 0 s r0 x t v w
theorem was_old (hr0:∀ u,s.rg[0]? = some u->r0 = u.x) (e1:w1.ownsRow b1 5 1 x s.ctx.length (u8s s.ctx)) (f1:Below w1.heap.size w1 wS) (g1:C < b1\/w1.heap.size <= C) (l1:wD.heap.size <= b1)
 (e2:TabS w2 b2 ρ t vals s.rows) (f2:Below w2.heap.size w2 wS) (g2:C < b2\/w2.heap.size <= C) (l2:wD.heap.size <= b2)
 (e3:w3.ownsRow b3 3 1 v s.sent.length (i64s s.sent)) (f3:Below w3.heap.size w3 wS) (g3:C < b3\/w3.heap.size <= C) (l3:wD.heap.size <= b3)
 (hrow:Row wS C 30 [x0,x1,x2,x3]) (hbel:Below wD.heap.size wD wS) (hC:wD.heap.size <= C):WasO wD s r0 C x t v ((((wS.setCell ⟨C,0,none⟩ (.int .i64 r0)).setCell ⟨C,1,none⟩ x).setCell ⟨C,2,none⟩ t).setCell ⟨C,3,none⟩ v):=by
 obtain ⟨a,n,rfl⟩:=own_slice e1
 obtain ⟨b,m,rfl⟩:=own_slice e2.list.1
 obtain ⟨c,k,rfl⟩:=own_slice e3
 exact ⟨(((hbel.setCell (p:=⟨C,0,none⟩) hC _).setCell (p:=⟨C,1,none⟩) hC _).setCell (p:=⟨C,2,none⟩) hC _).setCell (p:=⟨C,3,none⟩) hC _,hC,hrow.put4 _ _ _ _,⟨⟨_,_,_,rfl⟩,⟨_,_,_,rfl⟩,⟨_,_,_,rfl⟩,fun h=>absurd rfl h,fun _=>hr0,
  fun _=>own_low (own_fin e1 f1 g1 _ _ _ _) l1,fun _=>own_low (own_fin e3 f3 g3 _ _ _ _) l3,
  fun _=>⟨ρ,vals,⟨own_low (own_fin e2.list.1 f2 g2 _ _ _ _) l2,e2.list.2⟩,fun k hk=>let ⟨u,hu,ho⟩:=e2.item k hk;⟨u,hu,own_low (own_fin ho.1 f2 g2 _ _ _ _) l2,ho.2⟩⟩⟩⟩
theorem was_new (hr0:∀ u,s.rg[0]? = some u->r0 = u.x) (e1:w1.ownsRow b1 5 1 x s.ctx.length (u8s s.ctx)) (f1:Below w1.heap.size w1 wS) (l1:wD.heap.size <= b1)
 (e2:TabS w2 b2 ρ t vals s.rows) (f2:Below w2.heap.size w2 wS) (l2:wD.heap.size <= b2)
 (e3:w3.ownsRow b3 3 1 v s.sent.length (i64s s.sent)) (f3:Below w3.heap.size w3 wS) (l3:wD.heap.size <= b3) (hbel:Below wD.heap.size wD wS) :
 WasO wD s r0 wS.heap.size x t v (wS.alloc (.cells #[.int .i64 r0,x,t,v] 30)):=by
 obtain ⟨a,n,rfl⟩:=own_slice e1
 obtain ⟨b,m,rfl⟩:=own_slice e2.list.1
 obtain ⟨c,k,rfl⟩:=own_slice e3
 exact ⟨hbel.alloc hbel.size _,hbel.size,Row.made wS _ _,⟨⟨_,_,_,rfl⟩,⟨_,_,_,rfl⟩,⟨_,_,_,rfl⟩,fun h=>absurd rfl h,fun _=>hr0,
  fun _=>own_low (own_stays e1 (f1.alloc f1.size _) (Nat.le_refl _)) l1,fun _=>own_low (own_stays e3 (f3.alloc f3.size _) (Nat.le_refl _)) l3,
  fun _=>⟨ρ,vals,⟨own_low (own_stays e2.list.1 (f2.alloc f2.size _) (Nat.le_refl _)) l2,e2.list.2⟩,fun k hk=>let ⟨u,hu,ho⟩:=e2.item k hk;⟨u,hu,own_low (own_stays ho.1 (f2.alloc f2.size _) (Nat.le_refl _)) l2,ho.2⟩⟩⟩⟩
end
theorem statec_mid {s:Mst} (h1:(regc s.rg).length = 44) (h2:s.st.length = 416) (xv tv sv:Value):(statec s xv tv sv)[460]? = some xv/\(statec s xv tv sv)[461]? = some tv/\(statec s xv tv sv)[462]? = some sv:=by
 unfold statec
 refine ⟨?_,?_,?_⟩ <;> (rw [List.getElem?_append_right (by omega),h1,List.getElem?_append_right (by omega),h2];rfl)
end Go.Proofs.YtdepknffpnnmmaaGreat
