import Derived.Test.YtjacnhnaoenelaaGreatQMachPB
import Derived.Test.YtjacnhnaoenelaaGreatQGd
import Derived.Test.YtjacnhnaoenelaaGreatQGc
namespace Go.Proofs.YtjacnhnaoenelaaGreat
open Go.RowKit
set_option linter.unusedVariables false
set_option linter.unusedSimpArgs false
theorem Kept.owned {X:List Nat} {a b:World} (h:Kept X a b) {base size n:Nat} {e:TypeId} {v:Value} {xs:List Value} (ho:a.ownsRow base e size v n xs) (hx:∀ q,q ∈ X->q < base\/a.heap.size <= q):b.ownsRow base e size v n xs:=
 Em ho fun g hg=>h.block g (ho.lt g hg).2 fun hm=>by
  have h1:=ho.lt g hg
  rcases hx g hm with h2 | h2 <;> omega
theorem Kept.work {X:List Nat} {P:Nat->Nat} {a b:World} (h:Kept X a b) (hX:∀ q,q ∈ X->P q = 0):Work P 0 a b:=
 ⟨h.os,h.tape,h.output,h.size,fun q hq hP=>h.block q hq fun hm=>hP (hX q hm)⟩
theorem F9.owned {X:List Nat} {a b:World} (k:Kept X a b) {base:Nat} {ρ:Nat->Nat} {tv:Value} {vals:List Value} {rows:List (List Int)} (h:F9 a base ρ tv vals rows) (hx:∀ q,q ∈ X->q < base\/a.heap.size <= q):F9 b base ρ tv vals rows:=
 ⟨⟨k.owned h.list.1 hx,h.list.2⟩,fun j hj=>let ⟨u,hu,ho⟩:=h.item j hj;⟨u,hu,k.owned ho.1 hx,ho.2⟩⟩
theorem F9.Aju {a b:World} {C:Nat} (k:Kept [C] a b) {base:Nat} {ρ:Nat->Nat} {tv:Value} {vals:List Value} {rows:List (List Int)} (h:F9 a base ρ tv vals rows) {e:TypeId} {cs:List Value} (hC:Row a C e cs) (h1:22 ≠ e) (h2:5 ≠ e):F9 b base ρ tv vals rows:=
 ⟨⟨k.uf h.list.1 hC h1,h.list.2⟩,fun j hj=>let ⟨u,hu,ho⟩:=h.item j hj;⟨u,hu,k.uf ho.1 hC h2,ho.2⟩⟩
theorem F9.low {w:World} {base low:Nat} {ρ:Nat->Nat} {tv:Value} {vals:List Value} {rows:List (List Int)} (h:F9 w base ρ tv vals rows) (hl:low <= base):F9 w low ρ tv vals rows:=
 ⟨⟨Gz h.list.1 hl,h.list.2⟩,fun j hj=>let ⟨u,hu,ho⟩:=h.item j hj;⟨u,hu,Gz ho.1 hl,ho.2⟩⟩
structure Qb (W V:World) (ps xs qs ys:List Value) (w:World):Prop where
 one:KZ W ps xs w
 two:KZ V qs ys w
 at2:V.heap.size = W.heap.size + 2
theorem Qb.next {W V:World} {ps xs qs ys:List Value} {w w':World} (h:Qb W V ps xs qs ys w) (hb:Below w.heap.size w w'):Qb W V ps xs qs ys w':=⟨h.one.next hb,h.two.next hb,h.at2⟩
theorem Qb.kept {W V:World} {ps xs qs ys:List Value} {w w':World} {X:List Nat} (h:Qb W V ps xs qs ys w) (hb:Kept X w w') (hX:∀ b,b ∈ X->W.heap.size + 4 <= b):Qb W V ps xs qs ys w':=by
 have e:=h.at2;have n:∀ b,b < W.heap.size + 4->b ∉ X:=fun b hb hm=>by have:=hX b hm;omega
 have s1:=h.one.bel.size;have s2:=h.two.bel.size
 exact ⟨⟨h.one.bel.trans (hb.below s1 fun b hm=>by have:=hX b hm;omega),hb.row h.one.prg (n _ (by omega)),hb.row h.one.inp (n _ (by omega))⟩,
  ⟨h.two.bel.trans (hb.below s2 fun b hm=>by have:=hX b hm;omega),hb.row h.two.prg (n _ (by omega)),hb.row h.two.inp (n _ (by omega))⟩,e⟩
theorem Qb.work {W V:World} {ps xs qs ys:List Value} {P:Nat->Nat} {j:Nat} {w w':World} (h:Qb W V ps xs qs ys w) (hW:Work P j w w') (hP:∀ q,q < W.heap.size + 4->P q ≠ j):Qb W V ps xs qs ys w':=by
 have e:=h.at2;have s1:=h.one.bel.size;have s2:=h.two.bel.size;have hk:∀ B,B <= W.heap.size + 4->B <= w.heap.size->Below B w w':=fun B hB hs=>⟨hW.os,hW.tape,hW.output,hW.size,fun q hq=>hW.keep q (by omega) (hP q (by omega))⟩;have hr:∀ {q:Nat} {e:TypeId} {cs:List Value},Row w q e cs->q < W.heap.size + 4->Row w' q e cs:=fun hR hq=>(hW.keep _ hR.lt (hP _ hq)).trans hR;exact ⟨⟨h.one.bel.trans (hk _ (by omega) s1),hr h.one.prg (by omega),hr h.one.inp (by omega)⟩,⟨h.two.bel.trans (hk _ (by omega) s2),hr h.two.prg (by omega),hr h.two.inp (by omega)⟩,e⟩
structure GA (p:Vo) (B rd rc C:Nat) (ta:Option Addr) (tc:Nat) (w:World):Prop where
 l1:Row w B 32 [.slice (some ⟨rd,0,none⟩) (4 * p.data.length + 200) (4 * p.data.length + 200)]
 u1:Row w rd 5 (Dv (4 * p.data.length + 200) (Om p.data (p.data.length + 70)))
 l3:Row w (B + 2) 34 [.slice (some ⟨rc,0,none⟩) (4 * p.code.length + 200) (4 * p.code.length + 200)]
 u3:Row w rc 70 (Dj (Hf p.code (p.code.length + 70)))
 tb:w.ownsRow (B + 3) 89 2 (.slice ta p.tabs.length tc) p.tabs.length (Va p.tabs)
 bc:Row w C 26 [.int .i64 p.lo,.int .i64 p.hi,.slice (some ⟨rd,0,none⟩) p.data.length (4 * p.data.length + 200),.slice ta p.tabs.length tc,.slice (some ⟨rc,0,none⟩) p.code.length (4 * p.code.length + 200)]
 hrd:B + 3 <= rd
 hrc:B + 3 <= rc
 hC:B + 3 <= C
section
variable {p:Vo} {B rd rc C:Nat} {ta:Option Addr} {tc:Nat} {w w':World}
theorem GA.kept {X:List Nat} (h:GA p B rd rc C ta tc w) (k:Kept X w w') (hX:∀ q,q ∈ X->q = B + 1\/w.heap.size <= q):GA p B rd rc C ta tc w':=by
 obtain ⟨h1,h2,h3,h4,h5,h6,h7,h8,h9⟩:=h
 have hn:∀ {q:Nat} {e:TypeId} {cs:List Value},Row w q e cs->q ≠ B + 1->Row w' q e cs:=fun hR hq=>k.row hR fun hm=>by
  have:=hR.lt
  rcases hX _ hm with h | h <;> omega
 exact ⟨hn h1 (by omega),hn h2 (by omega),hn h3 (by omega),hn h4 (by omega),k.owned h5 fun q hm=>by rcases hX q hm with h | h <;> omega,hn h6 (by omega),h7,h8,h9⟩
theorem GA.next (h:GA p B rd rc C ta tc w) (hb:Below w.heap.size w w'):GA p B rd rc C ta tc w':=h.kept (Kept.of (X:=[]) hb) (by simp)
theorem GA.data (h:GA p B rd rc C ta tc w) (hx:Ah p.data) (hl:p.data.length <= 1048576):Held w (.slice (some ⟨rd,0,none⟩) p.data.length (4 * p.data.length + 200)) p.data:=by
 have:=Qg (k:=p.data.length) h.u1 (su hx _) (by omega) (by unfold maxLen;omega)
 rwa [tq] at this
theorem GA.code (h:GA p B rd rc C ta tc w) (hl:p.code.length <= 1048576):Fa w (.slice (some ⟨rc,0,none⟩) p.code.length (4 * p.code.length + 200)) p.code:=by
 have:=ru (l:=p.code) h.u3 (fun t ht=>Abf _ _ t ht) (by rw [Fh];omega) (by rw [Fh];unfold maxLen;omega)
 rwa [Fh] at this
theorem GA.tabs (h:GA p B rd rc C ta tc w):Tabs w (.slice ta p.tabs.length tc) p.tabs:=Gl h.tb (Af1 _) (by decide)
end
structure GI (ctx:List Int) (rows:List (List Int)) (vals:List Value) (ρ:Nat->Nat) (B rx D T:Nat) (ra:Option Addr) (rc:Nat) (w:World):Prop where
 l2:Row w (B + 1) 32 [.slice (some ⟨rx,0,none⟩) (4 * ctx.length + 200) (4 * ctx.length + 200)]
 u2:Row w rx 5 (Dv (4 * ctx.length + 200) (Om ctx (ctx.length + 70)))
 tb:F9 w T ρ (.slice ra rows.length rc) vals rows
 bd:Row w D 29 [.slice (some ⟨rx,0,none⟩) ctx.length (4 * ctx.length + 200),.slice ra rows.length rc]
 lt:rx < T
section
variable {ctx:List Int} {rows:List (List Int)} {vals:List Value} {ρ:Nat->Nat} {B rx D T:Nat} {ra:Option Addr} {rc:Nat} {w w':World}
theorem GI.next (h:GI ctx rows vals ρ B rx D T ra rc w) (hb:Below w.heap.size w w'):GI ctx rows vals ρ B rx D T ra rc w':=
 ⟨h.l2.below hb h.l2.lt,h.u2.below hb h.u2.lt,F9.owned (X:=[]) (Kept.of hb) h.tb (by simp),h.bd.below hb h.bd.lt,h.lt⟩
theorem GI.Ay8 (h:GI ctx rows vals ρ B rx D T ra rc w) (hx:Ah ctx) (hl:ctx.length <= 1048576):Held w (.slice (some ⟨rx,0,none⟩) ctx.length (4 * ctx.length + 200)) ctx:=by
 have:=Qg (k:=ctx.length) h.u2 (su hx _) (by omega) (by unfold maxLen;omega)
 rwa [tq] at this
end
def MO (P:Nat->Nat) (i:Nat) (p:Vo) (ctx:List Int) (rows:List (List Int)) (vp:Value) (w:World):Prop:=
 (newE p ctx rows = 0/\∃ bx,vp = .pointer (some ⟨bx,0,none⟩)/\Mine P i ⟨p.data,p.tabs,p.code⟩ (stG ctx rows) bx w)\/(newE p ctx rows ≠ 0/\vp = .pointer none)
section
variable {P:Nat->Nat} {i j:Nat} {p:Vo} {ctx:List Int} {rows:List (List Int)} {vp:Value} {w w':World}
theorem MO.work (hij:i ≠ j) (h:MO P i p ctx rows vp w) (hW:Work P j w w'):MO (grown P w.heap.size j) i p ctx rows vp w':=by
 rcases h with ⟨h0,bx,h1,h2⟩ | h
 ·exact Or.inl ⟨h0,bx,h1,h2.work hij hW⟩
 ·exact Or.inr h
theorem MO.next (h:MO P i p ctx rows vp w) (hb:Below w.heap.size w w') (k:Nat):MO (grown P w.heap.size k) i p ctx rows vp w':=by
 rcases h with ⟨h0,bx,h1,h2⟩ | h
 ·exact Or.inl ⟨h0,bx,h1,h2.next hb⟩
 ·exact Or.inr h
end
theorem Ku {w:World} {C:Nat} {t:TypeId} {a b:Value} (h:Row w C t [a,b]):(w.cell? ⟨C,0,none⟩ = some a/\w.frozen? ⟨C,0,none⟩ = false)/\(w.cell? ⟨C,1,none⟩ = some b/\w.frozen? ⟨C,1,none⟩ = false):=
 ⟨⟨(h.cell 0).trans rfl,h.free 0⟩,⟨(h.cell 1).trans rfl,h.free 1⟩⟩
def Avt (w:World) (C:Nat) (a b:Value):World:=(w.setCell ⟨C,0,none⟩ a).setCell ⟨C,1,none⟩ b
theorem Y4 {w:World} {C:Nat} {t:TypeId} {a' b':Value} (h:Row w C t [a',b']) (a b:Value):Row (Avt w C a b) C t [a,b]:=(h.put 0 a).put 1 b
theorem V9 (w:World) (C:Nat) (a b:Value):Kept [C] w (Avt w C a b):=(Gw w C 0 a).trans (Gw _ C 1 b)
theorem U5 (k n:Nat) (h:k < n) (hn:n <= 1048576):wrap64 ((k:Int) + 1) = ((k + 1:Nat):Int):=by unfold wrap64;omega
theorem U6 (n k:Nat) (h:k < n):n - ((k + 1:Nat):Int).toNat < n - ((k:Nat):Int).toNat:=by omega
theorem Ajv {k n:Nat} (h:k < n):decide ((k:Int) < (n:Int)) = true:=decide_eq_true (Int.ofNat_lt.2 h)
theorem Ac2 {k n:Nat} (h:¬ k < n):decide ((k:Int) < (n:Int)) = false:=decide_eq_false fun h'=>h (Int.ofNat_lt.1 h')
theorem Ac3 {w:World} {base n c:Nat} {e:TypeId} {a:Option Addr} {xs:List Value} (h:w.ownsRow base e 1 (.slice a n c) n xs) (hn:0 < n):∃ g,a = some ⟨g,0,none⟩/\∀ j,j < n->w.cell? ⟨g,j,none⟩ = xs[j]?:=by
 have h0:=h;obtain ⟨hl,⟨hv,h1⟩ | ⟨g,cap,cur,hv,hb,hg,rest⟩⟩:=h
 ·omega
 ·cases hv
  exact ⟨g,rfl,fun j hj=>h0.cellAt j (by omega)⟩
theorem Asw {w:World} {base n c:Nat} {e:TypeId} {a:Option Addr} {xs:List Value} (h:w.ownsRow base e 1 (.slice a n c) n xs) (hn:0 < n):∃ g cs,a = some ⟨g,0,none⟩/\base <= g/\Row w g e cs/\n <= cs.length:=by
 obtain ⟨hl,⟨hv,h1⟩ | ⟨g,cap,cur,hv,hb,hg,h1,h2,h3,h4⟩⟩:=h
 ·omega
 ·cases hv
  exact ⟨g,cur.toList,rfl,hb,by simpa [Row] using hg,by simp;omega⟩
theorem Alb {fx:Ak} {s:Mst} (hc:J5 fx) (hs:Kr fx s) (k:Nat) (hk:k < s.rows.length):s.rows[k].length <= 1000000:=by
 obtain ⟨_,h⟩:=hs.good.mem.rows k hk;obtain ⟨a1,a2,a3,a4⟩:=hs.good.mem.tabs k (by rw [<- hs.good.mem.Md];exact hk);have:(fx.tabs.getD k (0,0)).1 * (fx.tabs.getD k (0,0)).2 <= 64 * 64:=Int.mul_le_mul a2 a4 (by omega) (by omega);omega
theorem Ac4 {w w':World} {ρ ρ':Nat->Nat} {v:Value} {vals:List Value} {rows:List (List Int)} (h:O4 w w' ρ ρ' 10 rows.length v vals rows):F9 w' w.heap.size ρ' v vals rows:=⟨h.list,fun k hk=>h.item k hk hk⟩
structure GC (W V:World) (ps xs qs ys:List Value) (p:Vo) (ctx:List Int) (rows:List (List Int)) (vp:Value) (vals:List Value) (B D T F:Nat) (dv:Value) (ra:Option Addr) (rc:Nat) (P:Nat->Nat) (w:World):Prop where
 g:Ground W P w
 ka:Qb W V ps xs qs ys w
 m:MO P 1 p ctx rows vp w
 zero:∀ q,q < F->P q = 0
 size:F <= w.heap.size
 bd:Row w D 29 [dv,.slice ra rows.length rc]
 hD:D < F
 hW:W.heap.size + 4 <= T
 list:w.ownsRow T 22 1 (.slice ra rows.length rc) rows.length vals
 item:∀ k (h:k < rows.length),∃ u xs,vals[k]? = some u/\xs.length = rows[k].length/\w.ownsRow T 5 1 u rows[k].length xs/\∀ g,u.ownBlock = some g->g < F
section
variable {W V:World} {ps xs qs ys:List Value} {p:Vo} {ctx:List Int} {rows:List (List Int)} {vp:Value} {vals:List Value} {B D T F:Nat} {dv:Value} {ra:Option Addr} {rc:Nat} {P:Nat->Nat} {w w':World}
theorem GC.next (h:GC W V ps xs qs ys p ctx rows vp vals B D T F dv ra rc P w) (hb:Below w.heap.size w w'):GC W V ps xs qs ys p ctx rows vp vals B D T F dv ra rc (grown P w.heap.size 0) w':=
 ⟨h.g.next hb,h.ka.next hb,h.m.next hb 0,fun q hq=>(Ci (Nat.lt_of_lt_of_le hq h.size)).trans (h.zero q hq),Nat.le_trans h.size hb.size,h.bd.below hb h.bd.lt,h.hD,h.hW,Dn h.list hb nl,fun k hk=>let ⟨u,y,h1,h2,h3,h4⟩:=h.item k hk;⟨u,y,h1,h2,Dn h3 hb nl,h4⟩⟩
theorem GC.kept {x:Nat} (h:GC W V ps xs qs ys p ctx rows vp vals B D T F dv ra rc P w) (k:Kept [x] w w') (h1:W.heap.size + 4 <= x) (h2:x < T) (h3:x ≠ D) (h4:x < F):GC W V ps xs qs ys p ctx rows vp vals B D T F dv ra rc (grown P w.heap.size 0) w':=by
 have hw:=k.work (P:=P) (fun q hq=>by rw [List.mem_singleton.1 hq];exact h.zero x h4);have hx:∀ q,q ∈ [x]->q < T\/w.heap.size <= q:=fun q hq=>Or.inl (by rw [List.mem_singleton.1 hq];exact h2)
 refine ⟨⟨h.g.bel.trans (k.below h.g.bel.size fun q hq=>by rw [List.mem_singleton.1 hq];omega),fun q hq=>(Ci (Nat.lt_of_lt_of_le hq h.g.bel.size)).trans (h.g.zero q hq)⟩,h.ka.kept k fun q hq=>by rw [List.mem_singleton.1 hq];exact h1,h.m.work (by decide) hw,
  fun q hq=>(Ci (Nat.lt_of_lt_of_le hq h.size)).trans (h.zero q hq),Nat.le_trans h.size k.size,k.row h.bd (by simp;omega),h.hD,h.hW,k.owned h.list hx,fun j hj=>let ⟨u,y,a1,a2,a3,a4⟩:=h.item j hj;⟨u,y,a1,a2,k.owned a3 hx,a4⟩⟩
theorem Asx {w:World} {base n:Nat} {e:TypeId} {v:Value} {xs:List Value} (h:w.ownsRow base e 1 v n xs) (b k:Nat) (x:Value):∃ ys:List Value,ys.length = xs.length/\(w.setCell ⟨b,k,none⟩ x).ownsRow base e 1 v n ys:=by
 obtain ⟨hl,hn | ⟨g,cap,cur,rfl,hb,hg,h1,h2,h3,h4⟩⟩:=h
 ·exact ⟨xs,rfl,hl,.inl hn⟩
 ·by_cases hgb:b = g
  ·subst hgb;have hr:Row w b e cur.toList:=by simpa [Row] using hg
   have hr2:=hr.put k x;refine ⟨((cur.toList.set k x).take (n * 1)),?_,?_,.inr ⟨b,cap,(cur.toList.set k x).toArray,rfl,hb,by simpa [Row] using hr2,h1,h2,by simp;omega,by simp⟩⟩
   ·rw [<- h4];simp
   ·rw [List.length_take,List.length_set];have:=congrArg List.length h4;rw [List.length_take] at this;omega
  ·exact ⟨xs,rfl,hl,.inr ⟨g,cap,cur,rfl,hb,(Below.heap_setCell _ _ _ _ (fun h=>hgb h.symm)).trans hg,h1,h2,h3,h4⟩⟩
theorem GC.put {b k:Nat} {cs:List Value} (h:GC W V ps xs qs ys p ctx rows vp vals B D T F dv ra rc P w) (hb:T <= b) (hbF:b < F) (hR:Row w b 5 cs) (x:Value):GC W V ps xs qs ys p ctx rows vp vals B D T F dv ra rc (grown P w.heap.size 0) (w.setCell ⟨b,k,none⟩ x):=by
 have kp:=Gw w b k x;have hw:=kp.work (P:=P) (fun q hq=>by rw [List.mem_singleton.1 hq];exact h.zero b hbF);have hWT:=h.hW
 refine ⟨⟨h.g.bel.trans (kp.below h.g.bel.size fun q hq=>by rw [List.mem_singleton.1 hq];omega),fun q hq=>(Ci (Nat.lt_of_lt_of_le hq h.g.bel.size)).trans (h.g.zero q hq)⟩,h.ka.kept kp fun q hq=>by rw [List.mem_singleton.1 hq];omega,h.m.work (by decide) hw,
  fun q hq=>(Ci (Nat.lt_of_lt_of_le hq h.size)).trans (h.zero q hq),by simpa using h.size,kp.row h.bd (by simpa using h.bd.ne hR (by decide)),h.hD,h.hW,kp.uf h.list hR (by decide),fun j hj=>?_⟩
 obtain ⟨u,y,a1,a2,a3,a4⟩:=h.item j hj;obtain ⟨z,hz,hz2⟩:=Asx a3 b k x;exact ⟨u,z,a1,hz.trans a2,hz2,a4⟩
end
theorem GC.begin {W V w0 w:World} {ps xs qs ys:List Value} {p:Vo} {ctx:List Int} {rows:List (List Int)} {vp:Value} {vals:List Value} {ρ P:Nat->Nat} {B rx D T:Nat} {ra:Option Addr} {rc:Nat} (hI:GI ctx rows vals ρ B rx D T ra rc w0) (hb:Below w0.heap.size w0 w) (g:Ground W P w) (ka:Qb W V ps xs qs ys w) (m:MO P 1 p ctx rows vp w) (hz:∀ q,q < w0.heap.size->P q = 0) (hW:W.heap.size + 4 <= T) :
 GC W V ps xs qs ys p ctx rows vp vals B D T w0.heap.size (.slice (some ⟨rx,0,none⟩) ctx.length (4 * ctx.length + 200)) ra rc P w:=
 ⟨g,ka,m,hz,hb.size,hI.bd.below hb hI.bd.lt,hI.bd.lt,hW,Dn hI.tb.list.1 hb nl,fun k hk=>let ⟨u,hu,ho⟩:=hI.tb.item k hk;⟨u,_,hu,by simp [Gp],Dn ho.1 hb nl,fun q hq=>(ho.1.lt q hq).2⟩⟩
theorem x9 {p:Vo} {ctx:List Int} {rows:List (List Int)} {w w':World} {e:Ending} {E:Int} (hE:E = newE p ctx rows)
 (h:(newE p ctx rows = 0/\∃ bx v,e = .returned (.tuple #[.pointer (some ⟨bx,0,none⟩),.int .i64 0])/\MS w.heap.size w ⟨p.data,p.tabs,p.code⟩ (stG ctx rows) bx v w')\/(newE p ctx rows ≠ 0/\e = .returned (.tuple #[.pointer none,.int .i64 (newE p ctx rows)])/\Below w.heap.size w w')) :
 ∃ vp,e = .returned (.tuple #[vp,.int .i64 E])/\Below w.heap.size w w'/\∀ P i,MO (grown P w.heap.size i) i p ctx rows vp w':=by
 rcases h with ⟨h0,bx,v,rfl,hM⟩ | ⟨h0,rfl,hb⟩
 ·exact ⟨_,by rw [hE,h0],hM.bel,fun P i=>Or.inl ⟨h0,bx,rfl,Mine.born hM⟩⟩
 ·exact ⟨_,by rw [hE],hb,fun P i=>Or.inr ⟨h0,rfl⟩⟩
section
variable {W V w w':World} {a b c d f x y a' b' c' d' f' x' y':Value}
theorem Qb.kp (h:Qb W V [a,b,c,d,f] [x,y] [a',b',c',d',f'] [x',y'] w):w.cell? ⟨W.heap.size,0,none⟩ = some a/\w.cell? ⟨W.heap.size,1,none⟩ = some b/\w.cell? ⟨W.heap.size,2,none⟩ = some c/\w.cell? ⟨W.heap.size,3,none⟩ = some d/\w.cell? ⟨W.heap.size,4,none⟩ = some f/\w.cell? ⟨W.heap.size + 1,0,none⟩ = some x/\w.cell? ⟨W.heap.size + 1,1,none⟩ = some y/\Qb W V [a,b,c,d,f] [x,y] [a',b',c',d',f'] [x',y'] w:=by
 obtain ⟨h0,h1,h2,h3,h4,h5,h6,_⟩:=h.one.k;exact ⟨h0,h1,h2,h3,h4,h5,h6,h⟩
theorem Qb.np (h:w.cell? ⟨W.heap.size,0,none⟩ = some a/\w.cell? ⟨W.heap.size,1,none⟩ = some b/\w.cell? ⟨W.heap.size,2,none⟩ = some c/\w.cell? ⟨W.heap.size,3,none⟩ = some d/\w.cell? ⟨W.heap.size,4,none⟩ = some f/\w.cell? ⟨W.heap.size + 1,0,none⟩ = some x/\w.cell? ⟨W.heap.size + 1,1,none⟩ = some y/\Qb W V [a,b,c,d,f] [x,y] [a',b',c',d',f'] [x',y'] w) (hb:Below w.heap.size w w') :
 w'.cell? ⟨W.heap.size,0,none⟩ = some a/\w'.cell? ⟨W.heap.size,1,none⟩ = some b/\w'.cell? ⟨W.heap.size,2,none⟩ = some c/\w'.cell? ⟨W.heap.size,3,none⟩ = some d/\w'.cell? ⟨W.heap.size,4,none⟩ = some f/\w'.cell? ⟨W.heap.size + 1,0,none⟩ = some x/\w'.cell? ⟨W.heap.size + 1,1,none⟩ = some y/\Qb W V [a,b,c,d,f] [x,y] [a',b',c',d',f'] [x',y'] w':=(h.2.2.2.2.2.2.2.next hb).kp
theorem Qb.kq (h:Qb W V [a,b,c,d,f] [x,y] [a',b',c',d',f'] [x',y'] w):w.cell? ⟨W.heap.size + 2,0,none⟩ = some a'/\w.cell? ⟨W.heap.size + 2,1,none⟩ = some b'/\w.cell? ⟨W.heap.size + 2,2,none⟩ = some c'/\w.cell? ⟨W.heap.size + 2,3,none⟩ = some d'/\w.cell? ⟨W.heap.size + 2,4,none⟩ = some f'/\w.cell? ⟨W.heap.size + 3,0,none⟩ = some x'/\w.cell? ⟨W.heap.size + 3,1,none⟩ = some y'/\Qb W V [a,b,c,d,f] [x,y] [a',b',c',d',f'] [x',y'] w:=by
 obtain ⟨h0,h1,h2,h3,h4,h5,h6,_⟩:=h.two.k;have e:=h.at2;rw [e] at h0 h1 h2 h3 h4 h5 h6;exact ⟨h0,h1,h2,h3,h4,h5,h6,h⟩
theorem Qb.nq (h:w.cell? ⟨W.heap.size + 2,0,none⟩ = some a'/\w.cell? ⟨W.heap.size + 2,1,none⟩ = some b'/\w.cell? ⟨W.heap.size + 2,2,none⟩ = some c'/\w.cell? ⟨W.heap.size + 2,3,none⟩ = some d'/\w.cell? ⟨W.heap.size + 2,4,none⟩ = some f'/\w.cell? ⟨W.heap.size + 3,0,none⟩ = some x'/\w.cell? ⟨W.heap.size + 3,1,none⟩ = some y'/\Qb W V [a,b,c,d,f] [x,y] [a',b',c',d',f'] [x',y'] w) (hb:Below w.heap.size w w') :
 w'.cell? ⟨W.heap.size + 2,0,none⟩ = some a'/\w'.cell? ⟨W.heap.size + 2,1,none⟩ = some b'/\w'.cell? ⟨W.heap.size + 2,2,none⟩ = some c'/\w'.cell? ⟨W.heap.size + 2,3,none⟩ = some d'/\w'.cell? ⟨W.heap.size + 2,4,none⟩ = some f'/\w'.cell? ⟨W.heap.size + 3,0,none⟩ = some x'/\w'.cell? ⟨W.heap.size + 3,1,none⟩ = some y'/\Qb W V [a,b,c,d,f] [x,y] [a',b',c',d',f'] [x',y'] w':=(h.2.2.2.2.2.2.2.next hb).kq
end
end Go.Proofs.YtjacnhnaoenelaaGreat
