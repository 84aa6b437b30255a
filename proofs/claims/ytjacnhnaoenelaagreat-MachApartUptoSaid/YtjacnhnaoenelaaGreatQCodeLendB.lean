import Derived.Test.YtjacnhnaoenelaaGreatQCodeLend
set_option maxRecDepth 100000
set_option maxHeartbeats 3200000
namespace Go.Proofs.YtjacnhnaoenelaaGreat
open Lib (hid)
open Go.Proofs.Tryz
open Go.RowKit
set_option linter.unusedVariables false
set_option linter.unusedSimpArgs false
theorem qx {P:Program} (w:World) (dT sT ty elem:TypeId) (d a:Option Addr) (dLen dCap sLen sCap s:Nat) (hu:P.underlying dT = some (.slice elem)) (hs:(P.info? elem).map (·.size) = some s) (hn:Nat.min sLen dLen = 0) :
 (Builtin.copy_ #[dT,sT] ty #[.slice d dLen dCap,.slice a sLen sCap]).run P w = .ok (goInt 0) w:=by
 cases hq:P.info? elem with
 | none=>simp [hq] at hs
 | some i =>
   have hl:∀ (x:Addr),(loadCells x 0).run P w = .ok #[] w:=fun x=>by simpa using run_loadCells_list (P:=P) w x [] (by simp)
   cases d <;> cases a <;> simp [Builtin.copy_,run_underlying hu,Builtin.lenOf,Builtin.firstCells,sizeOf,typeInfo,hq,hn,storeCells,hl]
theorem Xl {P:Program} {w:World} {ops:Array Oper} {rest:List Oper} {o:Oper} {a:Act} {Q:Exit->Act->World->Prop} (hgd:o.guard = none) (d s:Operand) (dT sT:TypeId)
 (ho:o.op = .call { callee:=.builtin .copy,args:=#[d,s],argTypes:=#[dT,sT] }) (elem:TypeId) (hu:P.underlying dT = some (.slice elem)) (sz:Nat) (hsz:(P.info? elem).map (·.size) = some sz)
 (g dLen dCap:Nat) (sp:Option Addr) (sLen sCap:Nat) (hd:a.eval d = .slice (some ⟨g,0,none⟩) dLen dCap) (hs:a.eval s = .slice sp sLen sCap)
 (cur:List Value) (t:TypeId) (hg:w.heap[g]? = some (.cells cur.toArray t (0,0))) (cs:List Value) (hle:sLen <= dLen) (hn:cs.length = sLen * sz)
 (hpos:0 < sLen->∃ ad,sp = some ad/\∀ j v,cs[j]? = some v->w.cell? (ad.add j) = some v) (hfit:cs.length <= cur.length) (h1:∀ v ∈ cs,v.oneCell' = true)
 (h:∀ w',Hid (w'.heap[g]? = some (.cells (cs ++ cur.drop cs.length).toArray t (0,0)))->(∀ q,q ≠ g->w'.heap[q]? = w.heap[q]?)->Below g w w'->wpList P ops Q rest (a.put o.dst (goInt sLen)) w'):wpList P ops Q (o :: rest) a w:=by
 have hmin:Nat.min sLen dLen = sLen:=Nat.min_eq_left hle
 by_cases h0:sLen = 0
 ·subst h0;obtain rfl:cs = []:=List.eq_nil_of_length_eq_zero (by simpa using hn);refine wpList_plain hgd fun K hK=>?_;have hrun:=qx (P:=P) w dT sT o.type elem (some ⟨g,0,none⟩) sp dLen dCap 0 sCap sz hu hsz hmin;unfold Oper.wp;simp [execOp,ho,resolve,invoke,builtin,hd,hs,hrun,Result.andThen];exact hK _ _ (h w (show _ = _ by simpa using hg) (fun _ _=>rfl) (Below.refl _ _))
 ·obtain ⟨ad,rfl,hsrc⟩:=hpos (by omega);refine Acw hgd d s dT sT ho elem hu sz hsz g dLen dCap ad sLen sCap hd hs cur t hg cs (by rw [hmin];exact hn) hsrc hfit h1 ?_;rw [hmin];exact h
theorem Vx {w:World} {b:Nat} {e:TypeId} {l:List Ins} (h:Row w b e (Dj l)) (i:Nat) (hi:i < l.length) :
 (w.cell? ⟨b,i * 8,none⟩ = some (.int .i64 l[i].op)/\w.frozen? ⟨b,i * 8,none⟩ = false)/\(w.cell? ⟨b,i * 8 + 1,none⟩ = some (.bool l[i].Ad)/\w.frozen? ⟨b,i * 8 + 1,none⟩ = false) /\
 (w.cell? ⟨b,i * 8 + 2,none⟩ = some (.bool l[i].reg)/\w.frozen? ⟨b,i * 8 + 2,none⟩ = false)/\(w.cell? ⟨b,i * 8 + 3,none⟩ = some (.int .i64 l[i].size)/\w.frozen? ⟨b,i * 8 + 3,none⟩ = false) /\
 (w.cell? ⟨b,i * 8 + 4,none⟩ = some (.int .i64 l[i].dst)/\w.frozen? ⟨b,i * 8 + 4,none⟩ = false)/\(w.cell? ⟨b,i * 8 + 5,none⟩ = some (.int .i64 l[i].src)/\w.frozen? ⟨b,i * 8 + 5,none⟩ = false) /\
 (w.cell? ⟨b,i * 8 + 6,none⟩ = some (.int .i64 l[i].off)/\w.frozen? ⟨b,i * 8 + 6,none⟩ = false)/\(w.cell? ⟨b,i * 8 + 7,none⟩ = some (.int .i64 l[i].Aa)/\w.frozen? ⟨b,i * 8 + 7,none⟩ = false):=by
 have g:∀ j,j < 8->w.cell? ⟨b,i * 8 + j,none⟩ = (l[i].cs)[j]?:=fun j hj=>(h.cell _).trans (I5 l i hi j hj);exact ⟨⟨g 0 (by omega),h.free _⟩,⟨g 1 (by omega),h.free _⟩,⟨g 2 (by omega),h.free _⟩,⟨g 3 (by omega),h.free _⟩,⟨g 4 (by omega),h.free _⟩,⟨g 5 (by omega),h.free _⟩,⟨g 6 (by omega),h.free _⟩,⟨g 7 (by omega),h.free _⟩⟩
def Ajh (w:World) (b i:Nat) (x:Ins):World:=((((((((w.setCell ⟨b,i * 8,none⟩ (.int .i64 x.op)).setCell ⟨b,i * 8 + 1,none⟩ (.bool x.Ad)).setCell ⟨b,i * 8 + 2,none⟩ (.bool x.reg)).setCell ⟨b,i * 8 + 3,none⟩ (.int .i64 x.size)).setCell ⟨b,i * 8 + 4,none⟩ (.int .i64 x.dst)).setCell ⟨b,i * 8 + 5,none⟩ (.int .i64 x.src)).setCell ⟨b,i * 8 + 6,none⟩ (.int .i64 x.off)).setCell ⟨b,i * 8 + 7,none⟩ (.int .i64 x.Aa))
theorem Afy {w:World} {b:Nat} {e:TypeId} {l:List Ins} (h:Row w b e (Dj l)) (i:Nat) (hi:i < l.length) (x:Ins):Row (Ajh w b i x) b e (Dj (l.set i x)):=by
 rw [<- Afv l i x hi];exact (((((((h.put _ _).put _ _).put _ _).put _ _).put _ _).put _ _).put _ _).put _ _
theorem qy {w0 w:World} {b B:Nat} (h:Below B w0 w) (hb:B <= b) (i:Nat) (x:Ins):Below B w0 (Ajh w b i x):=
 (((((((h.setCell hb _).setCell hb _).setCell hb _).setCell hb _).setCell hb _).setCell hb _).setCell hb _).setCell hb _
def Ay2 (w:World) (hb:Nat) (l:List Ins) (e:Ending) (w':World):Prop:=
 e = .returned (.slice (some ⟨w.heap.size,0,none⟩) l.length (4 * l.length + 200)) /\
 Row w' hb 34 [.slice (some ⟨w.heap.size,0,none⟩) (4 * l.length + 200) (4 * l.length + 200)] /\
 Row w' w.heap.size 70 (Dj (Hf l (l.length + 70))) /\
 (∀ q,q < w.heap.size->q ≠ hb->w'.heap[q]? = w.heap[q]?)/\Below hb w w'
theorem Aon (hb:Nat) (v:Value) (l:List Ins) (hl:l.length <= 1048576) (w:World) (hX:Fa w v l) (hR:Row w hb 34 [.slice none 0 0]) :
 Calls prog 7 #[.pointer (some ⟨hb,0,none⟩),v] w (Ay2 w hb l):=by
 have hsl:∃ a cap,v = .slice a l.length cap/\(0 < l.length->∃ b off,a = some ⟨b,off,none⟩/\b < w.heap.size/\∀ j u,(Dj l)[j]? = some u->w.cell? ⟨b,off + j,none⟩ = some u):=by
  obtain ⟨hl,h1,⟨hz,a,cap,rfl,hm⟩ | ⟨hp,b,off,cap,rfl,hlt,hm,hc,hcell⟩⟩:=hX
  ·exact ⟨a,cap,by rw [hz],fun hi=>absurd hi (by omega)⟩
  ·exact ⟨_,cap,rfl,fun _=>⟨b,off,rfl,hlt,hcell⟩⟩
 obtain ⟨a,cap,rfl,hc⟩:=hsl;obtain ⟨k,hk⟩:∃ k,k = l.length:=⟨_,rfl⟩;rw [<- hk] at hl hc;show Calls _ _ #[_,.slice a l.length cap] _ _;rw [<- hk];have HK:=hid hk;have HX:=hid hX;have HC:=hid hc;clear hk hc hX
 have hmk:∀ w:World,(Instr.makeSlice 24 (.int .i64 (4 * (k:Int) + 200)) (.int .i64 (4 * (k:Int) + 200))).run prog w =
  .ok (.slice (some ⟨w.heap.size,0,none⟩) (4 * k + 200) (4 * k + 200)) (w.alloc (.cells (Dj (List.replicate (4 * k + 200) Ro)).toArray 70)):=fun w=>by
  have h:=Asi (4 * k + 200) (by omega) w;have e:(((4 * k + 200:Nat)):Int) = 4 * (k:Int) + 200:=by omega
  rwa [e] at h
 have hlt:=hR.lt;have q0:=hR.cell 0;simp only [List.getElem?_cons_zero] at q0;have hRa:=hR.alloc (.cells (Dj (List.replicate (4 * k + 200) Ro)).toArray 70);have q1:=hRa.cell 0;have f1:=hRa.free 0;simp only [List.getElem?_cons_zero] at q1;obtain ⟨Z,hZ⟩:∃ Z,Z = Dj (List.replicate (4 * k + 200) Ro):=⟨_,rfl⟩;rw [<- hZ] at hRa q1 f1;obtain ⟨W0,hW0⟩:∃ W0,W0 = (w.setCell ⟨hb,0,none⟩ (.slice (some ⟨w.heap.size,0,none⟩) (4 * k + 200) (4 * k + 200))).alloc (.cells Z.toArray 70):=⟨_,rfl⟩
 have hG:W0.heap[w.heap.size]? = some (.cells Z.toArray 70 (0,0)):=by
  have:=Row.made (w.setCell ⟨hb,0,none⟩ (.slice (some ⟨w.heap.size,0,none⟩) (4 * k + 200) (4 * k + 200))) Z 70;rw [hW0];simpa [Row] using this
 have hH0:Row W0 hb 34 [.slice (some ⟨w.heap.size,0,none⟩) (4 * k + 200) (4 * k + 200)]:=by rw [hW0];exact (hR.put 0 _).alloc _
 have hO:∀ q,q < w.heap.size->q ≠ hb->W0.heap[q]? = w.heap[q]?:=fun q hq hqb=>by
  rw [hW0,Below.heap_alloc _ _ _ (by simpa using hq),Below.heap_setCell _ _ _ _ hqb]
 have hBh:Below hb w W0:=by rw [hW0];exact ((Below.refl hb w).setCell nl _).alloc (by simp;omega) _
 have hZl:Z.length = (4 * k + 200) * 8:=by rw [hZ,G5,List.length_replicate]
 have hcs:(Dj l).length = k * 8:=by rw [G5,<- HK.out]
 have hfit:(Dj l).length <= Z.length:=by rw [hcs,hZl];omega
 have hpos:0 < k->∃ ad,a = some ad/\∀ j u,(Dj l)[j]? = some u->W0.cell? (ad.add j) = some u:=by
  intro hp;obtain ⟨b,off,ha,hb1,hcell⟩:=HC.out hp
  have hbh:b ≠ hb:=by
   rintro rfl;have h1:=hcell 1 _ (List.getElem?_eq_getElem (by rw [hcs];omega));rw [hR.cell] at h1
   cases off <;> simp at h1
  refine ⟨_,ha,fun j u hv=>?_⟩;rw [<- hcell j u hv];rw [show (⟨b,off,none⟩:Addr).add j = ⟨b,off + j,none⟩ by simp [Addr.add]];exact World.cell?_of_block (a:=⟨b,off + j,none⟩) (hO b hb1 hbh)
 have hsz:(prog.info? 70).map (·.size) = some 8:=by kernel_rfl
 have HR:=hid hR;have HG:=hid hG;have HH0:=hid hH0;have HO:=hid hO;have HBH:=hid hBh;have Axg:=hid hfit;have Aqr:=hid hpos;have HZ:=hid hZ;have Ph:=hid hcs;rw [<- hZ] at hmk;subst hW0;clear hR hRa hG hH0 hO hBh hfit hpos hZ hcs hZl;go_enter func7,ntmps7;go_wp2_with (((with_reducible refine Xl (o:=⟨some 30,_,_,_,_,_⟩) rfl (.tmp 28) (.tmp 29) 24 24 rfl 70 underlying24 8 hsz w.heap.size (4 * k + 200) (4 * k + 200) a k cap ?_ ?_ Z 70 HG.out (Dj l) (by omega) Ph.out Aqr.out Axg.out (Ut l) ?_);rfl;rfl;intro w2 hg2 hO1 hB2))
 have hRb:Row w2 w.heap.size 70 (Dj (Hf l 0)):=by
  have h:=hg2.out;rw [HZ.out,HK.out,Afx] at h;exact h
 have hH2:Row w2 hb 34 [.slice (some ⟨w.heap.size,0,none⟩) (4 * k + 200) (4 * k + 200)]:=HH0.out.below hB2 hlt;have hO2:∀ q,q < w.heap.size->q ≠ hb->w2.heap[q]? = w.heap[q]?:=fun q hq hqb=>by rw [hB2.block q hq];exact HO.out q hq hqb
 have Asj:=HBH.out.trans (hB2.mono (Nat.le_of_lt hlt));have hlt2:=hRb.lt;have HRB:=hid hRb;have HH2:=hid hH2;have HO2:=hid hO2;have Axh:=hid Asj;clear hg2 hB2 hO1 hRb hH2 hO2 Asj q0 q1 f1 hmk hsz;go_wp2
 go_loopw [6] (fun s wr=>∃ i:Nat,i <= k + 70/\s = .int .i64 i/\Row wr w.heap.size 70 (Dj (Hf l i))/\Below w.heap.size w2 wr) (fun s _=>k + 70 - (intOf s).toNat)
 case atStart=>exact ⟨0,Nat.zero_le _,rfl,HRB.out,Below.refl _ _⟩
 case round=>
  obtain ⟨i,hi,rfl,hR,hB⟩:=hrel;have hH:Row wr hb 34 [.slice (some ⟨w.heap.size,0,none⟩) (4 * k + 200) (4 * k + 200)]:=HH2.out.below hB hlt;have q0:=hH.cell 0;simp only [List.getElem?_cons_zero] at q0
  by_cases hlt2:i < k + 70
  ·have HR:=hid hR;have HB:=hid hB;have hw1:IntKind.i64.wrap ((k:Int) + i) = (k:Int) + i:=IntWalk.i64_in _ (by omega);have hL1:(k:Int) + i < 4 * k + 200:=by omega
   have hw2:(0:Int) <= (k:Int) + i:=by omega
   have hw3:((k:Int) + i).toNat = k + i:=by omega
   have A0j:hb < wr.drew.heap.size:=hH.drew.lt;clear hR hB hH;go_wp2_with fail;refine wp_region_held_drew (S:=fun w'=>w'.cell? ⟨hb,0,none⟩ = some (.slice (some ⟨w.heap.size,0,none⟩) (4 * k + 200) (4 * k + 200))) (by kernel_rfl) ?_ (fun hHeld=>?_)
   ·exact q0
   refine D6 0 37 ?_;refine D6 1 38 ?_;refine D6 2 39 ?_;refine D6 3 40 ?_;refine D6 4 41 ?_;refine D6 5 42 ?_;refine D6 6 43 ?_;refine D6 7 44 ?_;have hm:Calls prog 26 #[.int .i64 i] wr.drew fun e w'=>e = .returned (.agg #[.int .i64 (-7 - (i:Int)),.bool false,.bool false,.int .i64 0,.int .i64 0,.int .i64 0,.int .i64 0,.int .i64 i])/\Below wr.drew.heap.size wr.drew w':=Afw i (by omega) wr.drew;refine wpAnyH_ready (rs:=[8]) (by kernel_rfl) (by simp) ?_;refine AllReadyH.cons (o:=⟨some 45,_,_,_,_,_⟩) rfl (fun K hK=>?_) AllReadyH.nil;go_simp;go_at_call 26;refine hm.mono ?_;rintro e w3 ⟨rfl,hb3⟩;have q03:w3.cell? ⟨hb,0,none⟩ = some (.slice (some ⟨w.heap.size,0,none⟩) (4 * k + 200) (4 * k + 200)):=(hb3.cell (p:=⟨hb,0,none⟩) A0j).trans q0;refine hK.out _ _ ?_ (fun hHeld=>?_)
   ·(try dsimp only);exact q03
   clear hK K
   try simp only [Act.put,List.setIfInBounds_toArray,List.set_cons_zero,List.set_cons_succ]
   have hR3:=HR.out.drew.below hb3 HR.out.drew.lt;have hc3:=Vx hR3 (k + i) (by rw [Fh];have:=HK.out;omega);obtain ⟨⟨c0,d0⟩,⟨c1,d1⟩,⟨c2,d2⟩,⟨c3,d3⟩,⟨c4,d4⟩,⟨c5,d5⟩,⟨c6,d6⟩,⟨c7,d7⟩⟩:=hc3;refine D6 9 46 ?_;refine wpAnyH_ready (rs:=[10]) (by kernel_rfl) (by simp) ?_;refine AllReadyH.cons (o:=⟨none,_,_,_,_,_⟩) rfl (fun K hK=>?_) AllReadyH.nil;go_simp;have hP:=Afy hR3 (k + i) (by rw [Fh];have:=HK.out;omega) (Rn i);have hB8:=qy (Below.refl w.heap.size w3) (Nat.le_refl w.heap.size) (k + i) (Rn i);have hBw:Below w.heap.size w2 w3:=HB.out.drew.trans (hb3.mono (Nat.le_of_lt HR.out.drew.lt));refine hK.out _ _ ?_ (fun hHeld=>?_)
   ·(try dsimp only);exact (hB8.cell (p:=⟨hb,0,none⟩) hlt).trans q03
   clear hK K
   try simp only [Act.put,List.setIfInBounds_toArray,List.set_cons_zero,List.set_cons_succ]
   have Ay3:=hBw.trans hB8;have hP8:Row _ _ _ (Dj (Hf l (i + 1))):=(show (Hf l i).set (k + i) (Rn i) = Hf l (i + 1) by rw [HK.out];exact Ajf l i (by have:=HK.out;omega)) ▸ hP;have HP8:=hid hP8;have A0k:=hid Ay3;clear c0 c1 c2 c3 c4 c5 c6 c7 d0 d1 d2 d3 d4 d5 d6 d7 hP hP8 Ay3 hB8 hBw hHeld q03 hm hb3 hR3;refine wpAnyH_done (by kernel_rfl) ?_ _;go_wp2_with fail
   go_roundw
   case rel=>exact ⟨i + 1,hlt2,by go_num,HP8.out,A0k.out⟩
   case measure=>simp [intOf];omega
  ·obtain rfl:i = k + 70:=by omega
   go_wp2;go_ret
   have e:=HK.out;refine ⟨by rw [<- e];rfl,by rw [<- e];exact hH,by rw [<- e];exact hR,fun q hq hqb=>?_,Axh.out.trans (hB.mono (Nat.le_of_lt hlt))⟩;rw [hB.block q hq];exact HO2.out q hq hqb
end Go.Proofs.YtjacnhnaoenelaaGreat
