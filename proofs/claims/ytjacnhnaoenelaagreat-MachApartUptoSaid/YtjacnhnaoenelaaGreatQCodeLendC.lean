import Derived.Test.YtjacnhnaoenelaaGreatQCodeLendB
set_option maxRecDepth 100000
set_option maxHeartbeats 3200000
namespace Go.Proofs.YtjacnhnaoenelaaGreat
open Lib (hid)
open Go.Proofs.Tryz
open Go.RowKit
set_option linter.unusedVariables false
set_option linter.unusedSimpArgs false
def Afz:Ins:=⟨-3,false,false,0,0,0,0,0⟩
theorem Aji:prog.built 70 [(0,.int .i64 (-3))] = some #[.int .i64 (-3),.bool false,.bool false,.int .i64 0,.int .i64 0,.int .i64 0,.int .i64 0,.int .i64 0]:=by kernel_rfl
theorem Asl (w:World):(Instr.build 70 #[(0,.int .i64 (-3))]).run prog w = .ok (.agg #[.int .i64 (-3),.bool false,.bool false,.int .i64 0,.int .i64 0,.int .i64 0,.int .i64 0,.int .i64 0]) w:=run_build w _ _ _ Aji
theorem ru {w:World} {b:Nat} {e:TypeId} {l m:List Ins} (h:Row w b e (Dj m)) (hp:∀ t,t < l.length->m[t]? = l[t]?) (hle:l.length <= m.length) (hm:m.length <= maxLen):Fa w (.slice (some ⟨b,0,none⟩) l.length m.length) l:=by
 refine ⟨G5 l,Ut l,?_⟩
 by_cases h0:l.length = 0
 ·rw [h0];exact Or.inl ⟨rfl,_,_,rfl,hm⟩
 ·refine Or.inr ⟨by omega,b,0,_,rfl,h.lt,hm,hle,fun j u hj=>?_⟩;rw [Nat.zero_add,h.cell];obtain ⟨hj',-⟩:=List.getElem?_eq_some_iff.1 hj;rw [G5] at hj';have h1:=I5 l (j / 8) (by omega) (j % 8) (by omega);have h2:=I5 m (j / 8) (by omega) (j % 8) (by omega);rw [show j / 8 * 8 + j % 8 = j by omega] at h1 h2;have h3:=hp (j / 8) (by omega);rw [List.getElem?_eq_getElem (by omega),List.getElem?_eq_getElem (by omega)] at h3;rw [h2,Option.some.inj h3,<- h1,hj]
theorem Abf (l:List Ins) (i t:Nat) (ht:t < l.length):(Hf l i)[t]? = l[t]?:=by
 simp [Hf,show t < 4 * l.length + 200 by omega,ht,List.getD]
theorem Ajj (l:List Ins) (n i:Nat) (hi:i < n) (hn:l.length + n <= 4 * l.length + 200) (h:l.length + i < (Hf l n).length):(Hf l n)[l.length + i] = Rn i:=by
 simp [Hf,hi];intro h;omega
theorem Ay4 (hb rb:Nat) (v:Value) (l:List Ins) (hl:l.length <= 1048576) (hne:rb ≠ hb) (w:World) (hX:Fa w v l)
 (hR:Row w hb 34 [.slice (some ⟨rb,0,none⟩) (4 * l.length + 200) (4 * l.length + 200)]) (hU:Row w rb 70 (Dj (Hf l (l.length + 70)))) :
 Calls prog 13 #[.pointer (some ⟨hb,0,none⟩),v] w fun e w'=>e = .returned (.bool true) /\
  (∃ m:List Ins,m.length = 4 * l.length + 200/\Row w' rb 70 (Dj m))/\(∀ q,q < w.heap.size->q ≠ rb->w'.heap[q]? = w.heap[q]?)/\(∀ B,B <= rb->Below B w w'):=by
 obtain ⟨a,cap,rfl,-⟩:=hX.open;have hin:=ru (l:=l) hU (Abf l _) (by rw [Fh];omega) (by rw [Fh];unfold maxLen;omega);rw [Fh] at hin;have hsame:=Abe _ _ l (by omega) w hin hX;obtain ⟨k,hk⟩:∃ k,k = l.length:=⟨_,rfl⟩;rw [<- hk] at hl hU hR hsame ⊢;have HK:=hid hk;have HS:=hid hsame;have HR:=hid hR;have HU:=hid hU;have A0l:=hU.lt;have A0m:=hR.lt;have q0:=hR.cell 0;simp only [List.getElem?_cons_zero] at q0;clear hk hX hin hR hU hsame;go_enter func13,ntmps13;go_wp2_with fail;refine (HS.out).mono ?_;rintro e w1 ⟨rfl,n1,hw1⟩;have hB1:Below w.heap.size w w1:=by rw [hw1];exact below_drewN (Below.refl _ _) _
 have HB1:=hid hB1;clear hw1 hB1;go_wp2
 go_loopw [6,7] (fun o s wr=>∃ i:Nat,i <= k + 70/\o = .bool true/\s = .int .i64 i/\Below w.heap.size w wr) (fun _ s _=>k + 70 - (intOf s).toNat)
 case atStart=>exact ⟨0,Nat.zero_le _,rfl,rfl,HB1.out⟩
 case round=>
  clear q0;obtain ⟨i,hi,rfl,rfl,hB⟩:=hrel;have hR:=HR.out.below hB A0m;have hU:=HU.out.below hB A0l;have q0:=hR.cell 0;simp only [List.getElem?_cons_zero] at q0
  by_cases hlt:i < k + 70
  ·have hc3:=Vx hU (k + i) (by rw [Fh];have:=HK.out;omega)
   have hmk:(Hf l (k + 70))[k + i]'(by rw [Fh];have:=HK.out;omega) = Rn i:=by
    have e:=HK.out;subst e;exact Ajj l _ i (by omega) (by omega) _
   rw [hmk] at hc3;obtain ⟨⟨c0,-⟩,⟨c1,-⟩,⟨c2,-⟩,⟨c3,-⟩,⟨c4,-⟩,⟨c5,-⟩,⟨c6,-⟩,⟨c7,-⟩⟩:=hc3;have hq:∀ w:World,(binOp .eql 70 (.agg #[.int .i64 (-7 - (i:Int)),.bool false,.bool false,.int .i64 0,.int .i64 0,.int .i64 0,.int .i64 0,.int .i64 i]) (.agg #[.int .i64 (-7 - (i:Int)),.bool false,.bool false,.int .i64 0,.int .i64 0,.int .i64 0,.int .i64 0,.int .i64 i])).run prog w = .ok (.bool true) w:=fun w=>Aut (Rn i) w;have hm:Calls prog 26 #[.int .i64 i] wr.drew fun e w'=>e = .returned (.agg #[.int .i64 (-7 - (i:Int)),.bool false,.bool false,.int .i64 0,.int .i64 0,.int .i64 0,.int .i64 0,.int .i64 i])/\Below wr.drew.heap.size wr.drew w':=Afw i (by omega) wr.drew
   have hS0:∀ w':World,Below wr.heap.size wr w'->w'.cell? ⟨hb,0,none⟩ = some (.slice (some ⟨rb,0,none⟩) (4 * k + 200) (4 * k + 200)) /\
    w'.cell? ⟨rb,(k + i) * 8,none⟩ = some (.int .i64 (-7 - (i:Int)))/\w'.cell? ⟨rb,(k + i) * 8 + 1,none⟩ = some (.bool false)/\w'.cell? ⟨rb,(k + i) * 8 + 2,none⟩ = some (.bool false) /\
    w'.cell? ⟨rb,(k + i) * 8 + 3,none⟩ = some (.int .i64 0)/\w'.cell? ⟨rb,(k + i) * 8 + 4,none⟩ = some (.int .i64 0)/\w'.cell? ⟨rb,(k + i) * 8 + 5,none⟩ = some (.int .i64 0) /\
    w'.cell? ⟨rb,(k + i) * 8 + 6,none⟩ = some (.int .i64 0)/\w'.cell? ⟨rb,(k + i) * 8 + 7,none⟩ = some (.int .i64 i):=fun w' hb'=>
    ⟨(hb'.cell (p := ⟨hb, _, none⟩) hR.lt).trans q0, (hb'.cell (p := ⟨rb, _, none⟩) hU.lt).trans c0, (hb'.cell (p := ⟨rb, _, none⟩) hU.lt).trans c1, (hb'.cell (p := ⟨rb, _, none⟩) hU.lt).trans c2, (hb'.cell (p := ⟨rb, _, none⟩) hU.lt).trans c3,
      (hb'.cell (p:=⟨rb,_,none⟩) hU.lt).trans c4,(hb'.cell (p:=⟨rb,_,none⟩) hU.lt).trans c5,(hb'.cell (p:=⟨rb,_,none⟩) hU.lt).trans c6,(hb'.cell (p:=⟨rb,_,none⟩) hU.lt).trans c7⟩
   have HS0:=hid hS0;have HB:=hid hB;have HM:=hid hm;have hi1:(k:Int) + i < 4 * k + 200:=by omega
   have hi2:(0:Int) <= (k:Int) + i:=by omega
   have hi3:((k:Int) + i).toNat = k + i:=by omega
   have hw1:IntKind.i64.wrap ((k:Int) + i) = (k:Int) + i:=IntWalk.i64_in _ (by omega);clear hR hU hB hm hS0 c0 c1 c2 c3 c4 c5 c6 c7 hmk;go_wp2_with fail
   refine wp_region_held_drew (S:=fun w'=>w'.cell? ⟨hb,0,none⟩ = some (.slice (some ⟨rb,0,none⟩) (4 * k + 200) (4 * k + 200)) /\
    w'.cell? ⟨rb,(k + i) * 8,none⟩ = some (.int .i64 (-7 - (i:Int)))/\w'.cell? ⟨rb,(k + i) * 8 + 1,none⟩ = some (.bool false)/\w'.cell? ⟨rb,(k + i) * 8 + 2,none⟩ = some (.bool false) /\
    w'.cell? ⟨rb,(k + i) * 8 + 3,none⟩ = some (.int .i64 0)/\w'.cell? ⟨rb,(k + i) * 8 + 4,none⟩ = some (.int .i64 0)/\w'.cell? ⟨rb,(k + i) * 8 + 5,none⟩ = some (.int .i64 0) /\
    w'.cell? ⟨rb,(k + i) * 8 + 6,none⟩ = some (.int .i64 0)/\w'.cell? ⟨rb,(k + i) * 8 + 7,none⟩ = some (.int .i64 i)) (by kernel_rfl) ?_ (fun hHeld=>?_)
   ·exact HS0.out _ (Below.refl _ _).drew
   refine D6 0 25 ?_;refine D6 1 26 ?_;refine D6 2 27 ?_;refine D6 3 28 ?_;refine D6 4 29 ?_;refine D6 5 30 ?_;refine D6 6 31 ?_;refine D6 7 32 ?_;refine D6 8 33 ?_;refine D6 9 34 ?_;refine D6 10 35 ?_;refine D6 11 36 ?_;refine wpAnyH_ready (rs:=[12]) (by kernel_rfl) (by simp) ?_;refine AllReadyH.cons (o:=⟨some 37,_,_,_,_,_⟩) rfl (fun K hK=>?_) AllReadyH.nil;go_simp;go_at_call 26;refine HM.out.mono ?_;rintro e w3 ⟨rfl,hb3⟩;have hB3:Below wr.heap.size wr w3:=((Below.refl wr.heap.size wr).drew).trans hb3;refine hK.out _ _ ?_ (fun hHeld=>?_)
   ·(try dsimp only);exact HS0.out _ hB3
   clear hK K
   try simp only [Act.put,List.setIfInBounds_toArray,List.set_cons_zero,List.set_cons_succ]
   refine D6 13 38 ?_;refine D6 14 39 ?_;refine D6 15 6 ?_;refine wpAnyH_done (by kernel_rfl) ?_ _;have HW3:=hid (HB.out.trans (hB3.mono HB.out.size));clear hHeld hb3 hB3 hw1 hi1 hi2 hi3 hq;go_wp2_with fail
   go_roundw
   case rel=>exact ⟨i + 1,hlt,rfl,by go_num,HW3.out⟩
   case measure=>simp [intOf];omega
  ·have HIK:=hid (show i = k + 70 by omega);have hO:∀ q,q < w.heap.size->q ≠ rb->wr.heap[q]? = w.heap[q]?:=fun q hq _=>hB.block q hq;have hBB:∀ B,B <= rb->Below B w wr:=fun B h=>hB.mono (by omega);have A15:=Asl;go_wp2;clear hlt
   go_loopw [8] (fun s wr=>∃ i:Nat,i <= k/\s = .int .i64 i/\Row wr hb 34 [.slice (some ⟨rb,0,none⟩) (4 * k + 200) (4 * k + 200)]/\(∃ m:List Ins,m.length = 4 * k + 200/\Row wr rb 70 (Dj m))/\(∀ q,q < w.heap.size->q ≠ rb->wr.heap[q]? = w.heap[q]?)/\(∀ B,B <= rb->Below B w wr)) (fun s _=>k - (intOf s).toNat)
   case atStart=>exact ⟨0,Nat.zero_le _,rfl,hR,⟨_,by rw [Fh,<- HK.out],hU⟩,hO,hBB⟩
   case round=>
    clear q0 hR hU hO hB hBB;obtain ⟨j,hj,rfl,hR,⟨m,hm,hU⟩,hO,hB⟩:=hrel;have q0:=hR.cell 0;simp only [List.getElem?_cons_zero] at q0
    by_cases hlt2:j < k
    ·have hc3:=Vx hU j (by omega);obtain ⟨⟨c0,d0⟩,⟨c1,d1⟩,⟨c2,d2⟩,⟨c3,d3⟩,⟨c4,d4⟩,⟨c5,d5⟩,⟨c6,d6⟩,⟨c7,d7⟩⟩:=hc3;have hP:=Afy hU j (by omega) Afz
     have hRo:Row (Ajh wr rb j Afz) hb 34 [.slice (some ⟨rb,0,none⟩) (4 * k + 200) (4 * k + 200)]:=by
      unfold Ajh;exact (((((((hR.other _ _ (Ne.symm hne)).other _ _ (Ne.symm hne)).other _ _ (Ne.symm hne)).other _ _ (Ne.symm hne)).other _ _ (Ne.symm hne)).other _ _ (Ne.symm hne)).other _ _ (Ne.symm hne)).other _ _ (Ne.symm hne)
     have hOo:∀ q,q < w.heap.size->q ≠ rb->(Ajh wr rb j Afz).heap[q]? = w.heap[q]?:=fun q h1 h2=>by
      unfold Ajh;rw [Below.heap_setCell _ _ _ _ h2,Below.heap_setCell _ _ _ _ h2,Below.heap_setCell _ _ _ _ h2,Below.heap_setCell _ _ _ _ h2,Below.heap_setCell _ _ _ _ h2,Below.heap_setCell _ _ _ _ h2,Below.heap_setCell _ _ _ _ h2,Below.heap_setCell _ _ _ _ h2];exact hO q h1 h2
     have hBo:∀ B,B <= rb->Below B w (Ajh wr rb j Afz):=fun B h=>qy (hB B h) h j Afz;have HP:=hid hP;have HRO:=hid hRo;have HOO:=hid hOo;have HBO:=hid hBo;have HM:=hid hm;have hw4:(j:Int) < 4 * k + 200:=by omega
     have hw2:(0:Int) <= (j:Int):=by omega
     clear hR hU hO hB hP hRo hOo hBo;go_wp2
     go_roundw
     case rel=>exact ⟨j + 1,hlt2,by go_num,HRO.out,⟨_,by rw [List.length_set];exact HM.out,HP.out⟩,HOO.out,HBO.out⟩
     case measure=>simp [intOf];omega
    ·obtain rfl:j = k:=by omega
     go_wp2;go_ret
     exact ⟨rfl,⟨m,hm,hU⟩,hO,hB⟩
end Go.Proofs.YtjacnhnaoenelaaGreat
