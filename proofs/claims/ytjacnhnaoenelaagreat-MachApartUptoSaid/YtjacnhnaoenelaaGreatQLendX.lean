import Derived.Test.YtjacnhnaoenelaaGreatQJ0b
set_option maxRecDepth 100000
set_option maxHeartbeats 3200000
namespace Go.Proofs.YtjacnhnaoenelaaGreat
open Lib (hid)
open Go.Proofs.Tryz
open Go.RowKit
set_option linter.unusedVariables false
set_option linter.unusedSimpArgs false
theorem Abg (i:Nat) (hi:i <= 1000000000) (w:World):Calls prog 25 #[.int .i64 i] w fun e w'=>e = .returned (.int .u8 (mark i))/\w = w':=by
 go_enter func25,ntmps25;go_wp2;go_ret
 exact ⟨Bj (Apo _),rfl⟩
theorem su {xs:List Int} (h:Ah xs) (i t:Nat):0 <= Om xs i t/\Om xs i t <= 255:=by
 unfold Om
 split
 ·exact h.at' t
 ·split
  ·exact iq _
  ·omega
theorem Ajk (xs:List Int) (L:Nat) (hL:xs.length <= L):splice (Dv L fun _=>0) 0 (xs.map (Value.int .u8)) = Dv L (Om xs 0):=by
 unfold splice
 apply List.ext_getElem?
 intro t;rw [List.take_zero,List.nil_append,Nat.zero_add,List.length_map]
 by_cases ht:t < xs.length
 ·rw [List.getElem?_append_left (by simpa using ht),Hr _ (by omega)];simp [Om,ht,List.getD]
 ·rw [List.getElem?_append_right (by simpa using ht),List.getElem?_drop]
  by_cases h2:t < L
  ·rw [Hr _ h2,List.length_map,show xs.length + (t - xs.length) = t by omega,Hr _ h2];simp [Om,ht]
  ·rw [List.length_map,show xs.length + (t - xs.length) = t by omega,List.getElem?_eq_none (by simp [Dv];omega),List.getElem?_eq_none (by simp [Dv];omega)]
theorem Aoo {wr:World} {xs:List Int} {L i b:Nat} {e:TypeId} (hR:Row wr b e (Dv L (Om xs i))):Row (wr.setCell ⟨b,xs.length + i,none⟩ (.int .u8 (mark i))) b e (Dv L (Om xs (i + 1))):=by
 have h:=hR.put (xs.length + i) (.int .u8 (mark i));rw [ig] at h
 rwa [Iu (h:=Om xs (i + 1))] at h
 intro t _;unfold Om
 by_cases h1:t = xs.length + i
 ·subst h1;rw [if_pos rfl,if_neg (by omega),if_pos (by omega),Nat.add_sub_cancel_left]
 ·rw [if_neg h1]
  by_cases h2:t < xs.length
  ·rw [if_pos h2,if_pos h2]
  ·rw [if_neg h2,if_neg h2]
   by_cases h3:t < xs.length + i
   ·rw [if_pos h3,if_pos (by omega)]
   ·rw [if_neg h3,if_neg (by omega)]
def A0n (w:World) (hb:Nat) (xs:List Int) (e:Ending) (w':World):Prop:=
 e = .returned (.slice (some ⟨w.heap.size,0,none⟩) xs.length (4 * xs.length + 200)) /\
 Row w' hb 32 [.slice (some ⟨w.heap.size,0,none⟩) (4 * xs.length + 200) (4 * xs.length + 200)] /\
 Row w' w.heap.size 5 (Dv (4 * xs.length + 200) (Om xs (xs.length + 70))) /\
 (∀ q,q < w.heap.size->q ≠ hb->w'.heap[q]? = w.heap[q]?)/\Below hb w w'
theorem Asm (hb:Nat) (bv:Value) (xs:List Int) (hl:xs.length <= 1048576) (w:World) (hX:Held w bv xs) (hR:Row w hb 32 [.slice none 0 0]) :
 Calls prog 5 #[.pointer (some ⟨hb,0,none⟩),bv] w (A0n w hb xs):=by
 have hx:=hX.bytes
 have hsl:∃ a cap,bv = .slice a xs.length cap/\(0 < xs.length->∃ b off,a = some ⟨b,off,none⟩/\b < w.heap.size/\∀ i,i < xs.length->w.cell? ⟨b,off + i,none⟩ = some (.int .u8 (xs.getD i 0))):=by
  obtain ⟨_,⟨rfl,rfl | ⟨a,cap,rfl,_⟩⟩ | ⟨_,b,off,cap,rfl,_,_,hlt,hcell⟩⟩:=hX
  ·exact ⟨_,_,rfl,fun h=>by simp at h⟩
  ·exact ⟨_,_,rfl,fun h=>by simp at h⟩
  ·exact ⟨_,_,rfl,fun h=>⟨b,off,rfl,hlt,hcell⟩⟩
 obtain ⟨a,cap,rfl,hc⟩:=hsl;obtain ⟨k,hk⟩:∃ k,k = xs.length:=⟨_,rfl⟩;rw [<- hk] at hl hc;show Calls _ _ #[_,.slice a xs.length cap] _ _;rw [<- hk];have HK:=hid hk;have HX:=hid hx;have HC:=hid hc;clear hk hx hc hX
 have hmk:∀ w:World,(Instr.makeSlice 22 (.int .i64 (4 * (k:Int) + 200)) (.int .i64 (4 * (k:Int) + 200))).run prog w =
  .ok (.slice (some ⟨w.heap.size,0,none⟩) (4 * k + 200) (4 * k + 200)) (w.alloc (.cells (Dv (4 * k + 200) (fun _=>0)).toArray 5)):=fun w=>by
  have h:=Qe (4 * k + 200) (by omega) w;have e:(((4 * k + 200:Nat)):Int) = 4 * (k:Int) + 200:=by omega
  rwa [e] at h
 have hlt:=hR.lt;have q0:=hR.cell 0;simp only [List.getElem?_cons_zero] at q0;have hRa:=hR.alloc (.cells (Dv (4 * k + 200) (fun _=>0)).toArray 5);have q1:=hRa.cell 0;have f1:=hRa.free 0;simp only [List.getElem?_cons_zero] at q1;have hU:=Row.made w (Dv (4 * k + 200) (fun _=>0)) 5;obtain ⟨Z,hZ⟩:∃ Z,Z = Dv (4 * k + 200) (fun _=>0):=⟨_,rfl⟩;rw [<- hZ] at hU hRa q1 f1;obtain ⟨W0,hW0⟩:∃ W0,W0 = (w.setCell ⟨hb,0,none⟩ (.slice (some ⟨w.heap.size,0,none⟩) (4 * k + 200) (4 * k + 200))).alloc (.cells Z.toArray 5):=⟨_,rfl⟩;have hne:w.heap.size ≠ hb:=by omega
 have hG:W0.heap[w.heap.size]? = some (.cells Z.toArray 5 (0,0)):=by
  have:=Row.made (w.setCell ⟨hb,0,none⟩ (.slice (some ⟨w.heap.size,0,none⟩) (4 * k + 200) (4 * k + 200))) Z 5;rw [hW0];simpa [Row] using this
 have hH0:Row W0 hb 32 [.slice (some ⟨w.heap.size,0,none⟩) (4 * k + 200) (4 * k + 200)]:=by rw [hW0];exact (hR.put 0 _).alloc _
 have hO:∀ q,q < w.heap.size->q ≠ hb->W0.heap[q]? = w.heap[q]?:=fun q hq hqb=>by
  rw [hW0,Below.heap_alloc _ _ _ (by simpa using hq),Below.heap_setCell _ _ _ _ hqb]
 have hBh:Below hb w W0:=by rw [hW0];exact ((Below.refl hb w).setCell nl _).alloc (by simp;omega) _
 have hZl:Z.length = 4 * k + 200:=by rw [hZ];simp [Dv]
 have hcs:(xs.map (Value.int .u8)).length = k:=by simp [HK.out]
 have hn1:(xs.map (Value.int .u8)).length = Nat.min k (4 * k + 200):=by rw [hcs];exact (Nat.min_eq_left (by omega)).symm
 have hfit:0 + (xs.map (Value.int .u8)).length <= Z.length:=by rw [hcs,hZl];omega
 have hpos:0 < (xs.map (Value.int .u8)).length->(some ⟨w.heap.size,0,none⟩:Option Addr) = some ⟨w.heap.size,0,none⟩/\∃ ad,a = some ad/\∀ j v,(xs.map (Value.int .u8))[j]? = some v->W0.cell? (ad.add j) = some v:=by
  intro hp;rw [hcs] at hp;obtain ⟨b,off,ha,hb1,hcell⟩:=HC.out hp
  have hbh:b ≠ hb:=by
   rintro rfl;have h1:=hcell 0 hp;rw [hR.cell] at h1
   cases off <;> simp at h1
  refine ⟨rfl,_,ha,fun j v hv=>?_⟩
  have hj:=Z9 (w:=W0) (b:=b) (off:=off) (xs:=xs) (fun i hi=>by
   rw [<- hcell i (by rw [HK.out];exact hi)];exact World.cell?_of_block (hO b hb1 hbh)) j v hv
  exact hj
 have hon:=Aak xs;have hsz:(prog.info? 5).map (·.size) = some 1:=by kernel_rfl
 have HR:=hid hR;have HU:=hid hU;have HG:=hid hG;have HH0:=hid hH0;have HO:=hid hO;have HBH:=hid hBh;have HN1:=hid hn1;have Axg:=hid hfit;have Aqr:=hid hpos;have HZ:=hid hZ;have HZL:=hid hZl;have Ph:=hid hcs;rw [<- hZ] at hmk;subst hW0;clear hR hRa hU hG hH0 hO hBh hn1 hfit hpos hZ hZl hcs;go_enter func5,ntmps5;go_wp2_with (((with_reducible refine wpList_copy_splice (o:=⟨some 30,_,_,_,_,_⟩) rfl (.tmp 28) (.tmp 29) 22 22 rfl 5 underlying22 hsz (some ⟨w.heap.size,0,none⟩) a (4 * k + 200) (4 * k + 200) k cap ?_ ?_ w.heap.size 0 Z 5 HG.out (xs.map (Value.int .u8)) HN1.out Aqr.out Axg.out hon w.heap.size _ (Below.refl _ _) nl ?_);rfl;rfl;intro w2 hg2 hB2))
 have hRb:Row w2 w.heap.size 5 (Dv (4 * k + 200) (Om xs 0)):=by
  have h:=hg2.out;rw [HZ.out,Ajk xs _ (by have:=HK.out;omega)] at h;exact h
 have hH2:=HH0.out.below hB2 hlt;have hO2:∀ q,q < w.heap.size->q ≠ hb->w2.heap[q]? = w.heap[q]?:=fun q hq hqb=>by rw [hB2.block q hq];exact HO.out q hq hqb
 have Asj:=HBH.out.trans (hB2.mono (Nat.le_of_lt hlt));have HRB:=hid hRb;have HH2:=hid hH2;have HO2:=hid hO2;have Axh:=hid Asj;clear hg2 hB2 hRb hH2 hO2 Asj q0 q1 f1 hmk hon hsz;go_wp2
 go_loopw [6] (fun s wr=>∃ i:Nat,i <= k + 70/\s = .int .i64 i/\Row wr w.heap.size 5 (Dv (4 * k + 200) (Om xs i))/\Below w.heap.size w2 wr) (fun s _=>k + 70 - (intOf s).toNat)
 case atStart=>exact ⟨0,Nat.zero_le _,rfl,HRB.out,Below.refl _ _⟩
 case round=>
  obtain ⟨i,hi,rfl,hR,hB⟩:=hrel;have hH:=HH2.out.below hB hlt;have q0:=hH.cell 0;simp only [List.getElem?_cons_zero] at q0
  by_cases hlt2:i < k + 70
  ·have q1:=(hR.cell (k + i)).trans (Hr _ (by omega));have f1:=hR.free (k + i);obtain ⟨z,hz⟩:∃ z,z = Om xs i (k + i):=⟨_,rfl⟩;rw [<- hz] at q1;have HR:=hid hR;have HB:=hid hB;have hL1:(k:Int) + i < 4 * k + 200:=by omega
   clear hR hB hH hz;go_wp2;have hbe:=Abg i (by omega) wr.drew;have hw2:(0:Int) <= (k:Int) + i:=by omega
   have hw3:((k:Int) + i).toNat = k + i:=by omega
   have hw1:IntKind.i64.wrap ((k:Int) + i) = (k:Int) + i:=IntWalk.i64_in _ (by omega)
   go_still_tail 10,(by kernel_rfl)
   still_call (hbe.mono fun e w'' ⟨h1,h2⟩=>⟨h1,h2.symm⟩)
   repeat still_step
   refine wpStill_nil ?_;change wpList _ _ _ _ _ wr.drew;have q2:wr.drew.cell? ⟨w.heap.size,k + i,none⟩ = some (.int .u8 z):=q1;have f2:wr.drew.frozen? ⟨w.heap.size,k + i,none⟩ = false:=f1;generalize hwd:wr.drew = wd at q2 f2;have HWD:=hid hwd;clear hwd hw1 hw2 hw3 hbe;go_wp2
   go_roundw
   case rel=>
    refine ⟨i + 1,hlt2,by go_num,?_,?_⟩
    ·have hw:Row wd w.heap.size 5 (Dv (4 * k + 200) (Om xs i)):=HWD.out ▸ HR.out.drew;have:=Aoo hw
     rwa [<- HK.out] at this
    ·have hb':Below w.heap.size w2 wd:=HWD.out ▸ HB.out.drew;exact hb'.setCell nl _
   case measure=>simp [intOf];omega
  ·obtain rfl:i = k + 70:=by omega
   go_wp2;go_ret
   have e:=HK.out;refine ⟨by rw [<- e];rfl,by rw [<- e];exact hH,by rw [<- e];exact hR,fun q hq hqb=>?_,Axh.out.trans (hB.mono (Nat.le_of_lt hlt))⟩;rw [hB.block q hq];exact HO2.out q hq hqb
theorem tq (xs:List Int) (i:Nat):Sj xs.length (Om xs i) = xs:=by
 apply List.ext_getElem?
 intro t
 by_cases ht:t < xs.length
 ·simp [Sj,Om,ht,List.getD]
 ·rw [List.getElem?_eq_none (by rw [Je];omega),List.getElem?_eq_none (by omega)]
def Oe (f:Nat->Int) (xs:List Int) (i t:Nat):Int:=if t < i/\t < xs.length then bits .xor .u8 (xs.getD t 0) 90 else Oq f xs (xs.length + 70) t
theorem Acx (f:Nat->Int) (xs:List Int) (L:Nat):Dv L (Oe f xs 0) = Dv L (Oq f xs (xs.length + 70)):=Iu fun t _=>by
 unfold Oe;rw [if_neg (by omega)]
theorem Af0 {f:Nat->Int} {wr:World} {xs:List Int} {L i b:Nat} {e:TypeId} (hi:i < xs.length) (hR:Row wr b e (Dv L (Oe f xs i))):Row (wr.setCell ⟨b,i,none⟩ (.int .u8 (bits .xor .u8 (xs.getD i 0) 90))) b e (Dv L (Oe f xs (i + 1))):=by
 have h:=hR.put i (.int .u8 (bits .xor .u8 (xs.getD i 0) 90));rw [ig] at h
 rwa [Iu (h:=Oe f xs (i + 1))] at h
 intro t _;unfold Oe
 by_cases h1:t = i
 ·subst h1;rw [if_pos rfl,if_pos ⟨by omega,hi⟩]
 ·rw [if_neg h1]
  by_cases h2:t < i/\t < xs.length
  ·rw [if_pos h2,if_pos ⟨by omega,h2.2⟩]
  ·rw [if_neg h2,if_neg (by omega)]
theorem Aop (hb rb L:Nat) (f:Nat->Int) (hf:∀ t,0 <= f t/\f t <= 255) (bv:Value) (xs:List Int) (hl:xs.length <= 1048576) (hL:2 * xs.length + 70 <= L) (hLm:L <= 1000000000) (hne:rb ≠ hb) (w:World) (hX:Held w bv xs)
 (hR:Row w hb 32 [.slice (some ⟨rb,0,none⟩) L L]) (hU:Row w rb 5 (Dv L (Oq f xs (xs.length + 70)))) :
 Calls prog 12 #[.pointer (some ⟨hb,0,none⟩),bv] w fun e w'=>e = .returned (.bool true)/\Row w' hb 32 [.slice (some ⟨rb,0,none⟩) L L] /\
  Row w' rb 5 (Dv L (Oe f xs xs.length))/\(∀ q,q ≠ rb->w'.heap[q]? = w.heap[q]?)/\(∀ B,B <= rb->Below B w w'):=by
 have hx:=hX.bytes
 have hsl:∃ a cap,bv = .slice a xs.length cap:=by
  obtain ⟨_,⟨rfl,rfl | ⟨a,cap,rfl,_⟩⟩ | ⟨_,b,off,cap,rfl,_⟩⟩:=hX
  ·exact ⟨_,_,rfl⟩
  ·exact ⟨_,_,rfl⟩
  ·exact ⟨_,_,rfl⟩
 obtain ⟨a,cap,rfl⟩:=hsl;have hin:=Qg (k:=xs.length) hU (Zb hf hx _) (by omega) (by unfold maxLen;omega);rw [Zc] at hin;obtain ⟨k,hk⟩:∃ k,k = xs.length:=⟨_,rfl⟩;rw [<- hk] at hl hL hX hin hU ⊢;have HK:=hid hk;have HX:=hid hx;have HH:=hid hX;have HIN:=hid hin;have HR:=hid hR;have HU:=hid hU;have q0:=hR.cell 0;simp only [List.getElem?_cons_zero] at q0;clear hk hx hX hin hR hU;go_enter func12,ntmps12;go_wp2_with fail;refine (Uf _ _ _ _ HIN.out HH.out).mono ?_;rintro e w1 ⟨rfl,rfl⟩;go_wp2
 go_loopw [6,7] (fun o s wr=>∃ i:Nat,i <= k + 70/\o = .bool true/\s = .int .i64 i/\Row wr hb 32 [.slice (some ⟨rb,0,none⟩) L L]/\Row wr rb 5 (Dv L (Oq f xs (k + 70)))/\(∀ q,q ≠ rb->wr.heap[q]? = w.heap[q]?)/\(∀ B,B <= rb->Below B w wr)) (fun _ s _=>k + 70 - (intOf s).toNat)
 case atStart=>exact ⟨0,Nat.zero_le _,rfl,rfl,HR.out,HU.out,fun _ _=>rfl,fun B _=>Below.refl B w⟩
 case round=>
  clear q0;obtain ⟨i,hi,rfl,rfl,hR,hU,hO,hB⟩:=hrel;have q0:=hR.cell 0;simp only [List.getElem?_cons_zero] at q0
  by_cases hlt:i < k + 70
  ·have q1:=(hU.cell (k + i)).trans (Hr _ (by omega))
   have hm:Oq f xs (k + 70) (k + i) = mark i:=by
    unfold Oq;rw [<- HK.out,if_neg (by omega),if_pos (by omega),Nat.add_sub_cancel_left]
   rw [hm] at q1;obtain ⟨m,hm2⟩:∃ m,m = mark i:=⟨_,rfl⟩;have hbe:=fun w=>Abg i (by omega) w;rw [<- hm2] at q1 hbe;have hmm:(m == m) = true:=by simp
   have HR1:=hid hR;have y5:=hid hU;have HO1:=hid hO;have HB1:=hid hB;have HBE:=hid hbe;clear hR hU hO hB hm hm2 hbe;go_wp2;have hw2:(0:Int) <= (k:Int) + i:=by omega
   have hw3:((k:Int) + i).toNat = k + i:=by omega
   have hw4:(k:Int) + i < L:=by omega
   have hw1:IntKind.i64.wrap ((k:Int) + i) = (k:Int) + i:=IntWalk.i64_in _ (by omega)
   go_quiet ((go_at_call 25;exact Calls.quiet_of_same ((HBE.out _).mono fun e w' ⟨h1,h2⟩=>⟨h1,h2.symm⟩)))
   clear hw1 hw2 hw3 hw4;go_wp2
   go_roundw
   case rel=>exact ⟨i + 1,hlt,rfl,by go_num,HR1.out.drewN _,y5.out.drewN _,HO1.out,fun B h=>below_drewN (HB1.out B h) _⟩
   case measure=>simp [intOf];omega
  ·have HIK:=hid (show i = k + 70 by omega);go_wp2;clear hlt
   go_loopw [8] (fun s wr=>∃ i:Nat,i <= k/\s = .int .i64 i/\Row wr hb 32 [.slice (some ⟨rb,0,none⟩) L L]/\Row wr rb 5 (Dv L (Oe f xs i))/\(∀ q,q ≠ rb->wr.heap[q]? = w.heap[q]?)/\(∀ B,B <= rb->Below B w wr)) (fun s _=>k - (intOf s).toNat)
   case atStart=>exact ⟨0,Nat.zero_le _,rfl,hR,by rw [Acx,<- HK.out];exact hU,hO,hB⟩
   case round=>
    clear q0 hR hU hO hB;obtain ⟨j,hj,rfl,hR,hU,hO,hB⟩:=hrel;have q0:=hR.cell 0;simp only [List.getElem?_cons_zero] at q0
    by_cases hlt2:j < k
    ·have q1:=(hU.cell j).trans (Hr _ (by omega));have f1:=hU.free j;have hx1:=HX.out.at' j
     have hg:Oe f xs j j = xs.getD j 0:=by
      unfold Oe Oq;rw [if_neg (by omega),if_pos (by have:=HK.out;omega)]
     rw [hg] at q1;obtain ⟨x,hx⟩:∃ x,x = xs.getD j 0:=⟨_,rfl⟩;rw [<- hx] at q1 hx1;have HXX:=hid hx;have HR1:=hid hR;have y5:=hid hU;have HO1:=hid hO;have HB1:=hid hB;clear hR hU hO hB hg hx;have hw4:(j:Int) < L:=by omega
     have hw2:(0:Int) <= (j:Int):=by omega
     go_wp2
     go_still_tail 14,(by kernel_rfl)
     change wpList _ _ _ _ _ wr.drew;have q2:wr.drew.cell? ⟨rb,j,none⟩ = some (.int .u8 x):=q1;have f2:wr.drew.frozen? ⟨rb,j,none⟩ = false:=f1;generalize hwd:wr.drew = wd at q2 f2;have HWD:=hid hwd;clear hwd;go_wp2
     go_roundw
     case rel=>
      have hwr:Row wd rb 5 (Dv L (Oe f xs j)):=HWD.out ▸ y5.out.drew;have hst:=Af0 (by rw [<- HK.out];exact hlt2) hwr;rw [<- HXX.out] at hst;refine ⟨j + 1,hlt2,by go_num,?_,hst,?_,?_⟩
      ·have:Row wd hb 32 [.slice (some ⟨rb,0,none⟩) L L]:=HWD.out ▸ HR1.out.drew;exact this.other _ _ (Ne.symm hne)
      ·intro q hq;rw [Below.heap_setCell _ _ _ _ hq];have:wd.heap = wr.heap:=by rw [<- HWD.out];rfl
       rw [this];exact HO1.out q hq
      ·intro B h;have:Below B w wd:=HWD.out ▸ (HB1.out B h).drew;exact this.setCell h _
     case measure=>simp [intOf];omega
    ·obtain rfl:j = k:=by omega
     go_wp2;go_ret
     exact ⟨rfl,hR,by first | exact hU | (rw [<- HK.out];exact hU),hO,hB⟩
end Go.Proofs.YtjacnhnaoenelaaGreat
