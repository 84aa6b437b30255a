import Derived.Test.YtjacnhnaoenelaaGreatQInts
import Derived.Test.YtjacnhnaoenelaaGreatQBk
set_option maxRecDepth 100000
set_option maxHeartbeats 6400000
namespace Go.Proofs.YtjacnhnaoenelaaGreat.Led
open Lib (hid)
open Go.Proofs.Tryz
open Go.RowKit
set_option linter.unusedVariables false
theorem Oh:(prog.info? 3).map (fun i=>(i.zero,i.size,i.bytes)) = some (some (.int .i64 0),1,8):=by kernel_rfl
def Xr (xs:List Int):Prop:=xs.length <= 9223372036854775807
theorem Zo {w:World} {base n:Nat} {v:Value} {xs:List Int} (h:w.ownsRow base 3 1 v n (xs.map (Value.int .i64))) (hn:n = xs.length):Ints w v xs:=by
 subst hn;have h0:=h;obtain ⟨hlen,h⟩:=h
 rcases h with ⟨rfl,h1⟩ | ⟨g,cap,cur,rfl,hb,hg,h1,h2,h3,h4⟩
 ·exact Or.inl ⟨List.length_eq_zero_iff.1 h1,none,0,rfl⟩
 ·by_cases hp:0 < xs.length
  ·refine Or.inr ⟨hp,g,0,cap,rfl,lt_of_block hg,fun i hi=>?_⟩;rw [Nat.zero_add,h0.cellAt i (by omega)];simp [List.getD,hi]
  ·have:xs = []:=List.length_eq_zero_iff.1 (by omega);subst this;exact Or.inl ⟨rfl,_,cap,rfl⟩
def Ll (l j:Nat):Int:=-1000003 * ((l:Int) + 1) - j
def Fj (l n:Nat):List Value:=J6 n (Ll l)
theorem Di (l n:Nat):(Fj l n).length = n:=by simp [Fj,J6]
theorem Og (l:Nat) {n j:Nat} (h:j < n):(Fj l n)[j]? = some (.int .i64 (Ll l j)):=Wn _ h
theorem Oz {a b c d e f g:Prop} (h:a/\b/\c/\d/\e/\f/\g):g:=h.2.2.2.2.2.2
theorem Xp {a b c d e f g i:Prop} (h:a/\b/\c/\d/\e/\f/\g/\i):i:=h.2.2.2.2.2.2.2
structure Core (w:World) (base hb:Nat) (ρ:Nat->Nat) (cnt tot:Int) (vf vw vk vn:Value) (F:List (Value × List Int)) (ws:List Value) (K:List (Value × Nat × Nat)) (A:Nat->Option Obj):Prop where
 row:Row w hb 52 [.int .i64 tot,vf,vw,vk,vn,.bool false]
 Eb:ρ hb = 0
 low:base <= hb
 fresh:Aq w base ρ 1 50 vf (F.map (·.1))
 was:Aq w base ρ 4 50 vw ws
 Rf:ws.length = F.length
 kept:Aq w base ρ 2 50 vk (K.map (·.1))
 nums:Aq w base ρ 3 3 vn (K.map fun (x:Value × Nat × Nat)=>Value.int .i64 (x.2.1:Int))
 item:∀ (i:Nat) (x:Value × List Int),F[i]? = some x->Aq w base ρ (10 + i) 3 x.1 (x.2.map (Value.int .i64))/\Xr x.2
 copy:∀ (i:Nat) (v:Value) (x:Value × List Int),ws[i]? = some v->F[i]? = some x->Aq w base ρ 9 3 v (x.2.map (Value.int .i64))
 done:∀ x ∈ K,Aq w base ρ 9 3 x.1 (Fj x.2.1 x.2.2)
 side:∀ (j:Nat) (y:Obj),A j = some y->G7 w ρ (1000 + j) j y
theorem Core.calm {w w':World} {base hb:Nat} {ρ:Nat->Nat} {cnt tot:Int} {vf vw vk vn:Value} {F:List (Value × List Int)} {ws:List Value} {K:List (Value × Nat × Nat)} {A:Nat->Option Obj} (h:Core w base hb ρ cnt tot vf vw vk vn F ws K A) (hc:Calm w w') :
 Core w' base hb ρ cnt tot vf vw vk vn F ws K A where
 row:=h.row.calm hc
 Eb:=h.Eb
 low:=h.low
 fresh:=h.fresh.same hc.heap
 was:=h.was.same hc.heap
 Rf:=h.Rf
 kept:=h.kept.same hc.heap
 nums:=h.nums.same hc.heap
 item:=fun i x hx=>⟨(h.item i x hx).1.same hc.heap,(h.item i x hx).2⟩
 copy:=fun i v x hv hx=>(h.copy i v x hv hx).same hc.heap
 done:=fun x hx=>(h.done x hx).same hc.heap
 side:=fun j y hy=>(h.side j y hy).same hc.heap
theorem Xq (base hb:Nat) (ρ:Nat->Nat) (cnt tot:Int) (vf vw vk vn:Value) (F:List (Value × List Int)) (ws:List Value) (K:List (Value × Nat × Nat)) {A:Nat->Option Obj} (w:World) (hF:F.length <= 1000000) (h:Core w base hb ρ cnt tot vf vw vk vn F ws K A) :
 Calls prog 64 #[.pointer (some ⟨hb,0,none⟩)] w fun e w'=>e = .returned (.tuple #[])/\Calm w w':=by
 obtain ⟨af,cf,rfl,h1,h2,hfc⟩:=h.fresh.open;obtain ⟨aw,cw,rfl,h3,h4,hwc⟩:=h.was.open;rw [List.length_map] at hfc h1;show Calls _ _ _ _ _;have hwl:=h.Rf;have HC:=hid h;have hr:=h.row;rw [List.length_map] at hr;obtain ⟨n,hn⟩:∃ n,n = F.length:=⟨_,rfl⟩;rw [<- hn] at hfc h1 hwl hr hF;rw [hwl] at hwc h3 hr;have HR:=hid hr;have HFC:=hid hfc;have HWC:=hid hwc;have HN:=hid hn;have HWL:=hid hwl;clear hfc hwc hn h hr hwl;go_enter func64,ntmps64;go_wp2
 go_loopw [2] (fun s wr=>∃ i:Nat,i <= n/\s = .int .i64 i/\Calm w wr) (fun s _=>n - (intOf s).toNat)
 case atStart=>exact ⟨0,Nat.zero_le _,rfl,Calm.refl _⟩
 case round=>
  obtain ⟨i,hi,rfl,Hy⟩:=hrel;have hr:=HR.out.calm Hy;have q2:=hr.cell 1;have q3:=hr.cell 2;have q6:=hr.cell 5;have f6:=hr.free 5;simp only [List.getElem?_cons_zero,List.getElem?_cons_succ] at q2 q3 q6
  by_cases hlt:i < n
  ·obtain ⟨bf,rfl,_,_,_,hf⟩:=HFC.out (by omega);obtain ⟨bw,rfl,_,_,_,hw⟩:=HWC.out (by omega);have e1:=(Hy.cell _).trans (hf i hlt).1;have e2:=(Hy.cell _).trans (hw i hlt).1;obtain ⟨x,hx⟩:∃ x,F[i]? = some x:=⟨F[i]'(by have:=HN.out;omega),by simp⟩;obtain ⟨v,hv⟩:∃ v,ws[i]? = some v:=⟨ws[i]'(by have:=HWL.out;omega),by simp⟩;rw [List.getElem?_map,hx] at e1;rw [hv] at e2;change _ = some x.1 at e1;have hO:=HC.out.item i x hx;have hW:=HC.out.copy i v x hv hx;have HOL:=hid (show x.2.length <= 9223372036854775807 from hO.2);have hs1:∀ w',Calm w w'->Ints w' x.1 x.2:=fun w' hc=>Zo (hO.1.same hc.heap).1 (by simp);have hs2:∀ w',Calm w w'->Ints w' v x.2:=fun w' hc=>Zo (hW.same hc.heap).1 (by simp);obtain ⟨u,hu⟩:∃ u,x.1 = u:=⟨_,rfl⟩
   have hmk:∀ w':World,Calm w w'->w'.cell? ⟨hb,5,none⟩ = some (.bool false)/\w'.cell? ⟨hb,1,none⟩ = some (.slice (some ⟨bf,0,none⟩) n cf)/\w'.cell? ⟨hb,2,none⟩ = some (.slice (some ⟨bw,0,none⟩) n cw) /\
    w'.cell? ⟨bf,i,none⟩ = some u/\w'.cell? ⟨bw,i,none⟩ = some v/\w'.frozen? ⟨hb,5,none⟩ = false/\Calm w w':=fun w' hc=>by
    have hr':=HR.out.calm hc;refine ⟨by simpa using hr'.cell 5,by simpa using hr'.cell 1,by simpa using hr'.cell 2,?_,?_,hr'.free 5,hc⟩
    ·rw [hc.cell,<- Hy.cell,e1,hu]
    ·rw [hc.cell,<- Hy.cell,e2]
   rw [hu] at e1 hs1;have HCA:=hid Hy;have HS1:=hid hs1;have HS2:=hid hs2;have HMK:=hid hmk;clear hf hw hO hW hs1 hs2 Hy hr hu hx hv hmk q3 q6 f6 e1 e2;have i1:(i:Int) < n:=by omega
   have i2:(0:Int) <= (i:Int):=by omega
   go_wp2_with fail
   go_region_held3 (fun w':World=>w'.cell? ⟨hb,5,none⟩ = some (.bool false)/\w'.cell? ⟨hb,1,none⟩ = some (.slice (some ⟨bf,0,none⟩) n cf)/\w'.cell? ⟨hb,2,none⟩ = some (.slice (some ⟨bw,0,none⟩) n cw) /\
    w'.cell? ⟨bf,i,none⟩ = some u/\w'.cell? ⟨bw,i,none⟩ = some v/\w'.frozen? ⟨hb,5,none⟩ = false/\Calm w w') (first | exact HMK.out _ HCA.out.drew | exact HMK.out _ (Oz (by assumption)) | exact HMK.out _ (HCA.out.drewN _) | exact HMK.out _ (Calm.drewN (Oz (by assumption)) _) | exact HMK.out _ (Calm.set (Oz (by assumption)) (Row.calm HR.out (Oz (by assumption))) rfl))
    (first
      | (go_at_call 44;refine (Aas _ _ x.2 HOL.out _ (HS1.out _ (Oz (by assumption))) (HS2.out _ (Oz (by assumption)))).mono ?_;rintro e w' ⟨rfl,nq,rfl⟩))
   have hS:=Oz (by assumption);go_wp2
   go_roundw
   case rel=>exact ⟨i + 1,hlt,by go_num,hS⟩
   case measure=>simp [intOf];omega
  ·obtain rfl:i = n:=by omega
   go_wp2
   go_end0
   exact ⟨rfl,Hy⟩
theorem holds_of (base hb:Nat) (ρ:Nat->Nat) (cnt tot:Int) (vf vw vk vn:Value) (F:List (Value × List Int)) (ws:List Value) (K:List (Value × Nat × Nat)) {A:Nat->Option Obj} (w:World) (hF:F.length <= 1000000) (hK:K.length <= 1000000)
 (hKl:∀ x ∈ K,x.2.1 <= 1000000/\x.2.2 <= 1000000000000) (h:Core w base hb ρ cnt tot vf vw vk vn F ws K A) :
 Calls prog 49 #[.pointer (some ⟨hb,0,none⟩)] w fun e w'=>e = .returned (.bool true)/\Calm w w':=by
 have HC:=hid h;obtain ⟨ak,ck,rfl,h1,h2,hkc⟩:=h.kept.open;obtain ⟨an,cn,rfl,h3,h4,hnc⟩:=h.nums.open;rw [List.length_map] at hkc h1 hnc h3;have hr:=h.row;rw [List.length_map,List.length_map] at hr;obtain ⟨n,hn⟩:∃ n,n = K.length:=⟨_,rfl⟩;rw [<- hn] at hkc h1 hr hK hnc h3;have HR:=hid hr;have Na:=hid hkc;have HNC:=hid hnc;have HN:=hid hn;have HKL:=hid hKl;have HF:=hid hF;clear hkc hnc hn h hr hKl hF;go_enter func49,ntmps49;go_wp2_with fail;refine (Xq base hb ρ cnt tot vf vw _ _ F ws K _ HF.out HC.out).mono ?_;rintro e w1 ⟨rfl,Hy⟩;go_wp2
 go_loopw [3] (fun s wr=>∃ i:Nat,i <= n/\s = .int .i64 i/\Calm w wr) (fun s _=>n - (intOf s).toNat)
 case atStart=>exact ⟨0,Nat.zero_le _,rfl,Hy⟩
 case round=>
  clear Hy;obtain ⟨i,hi,rfl,Hy⟩:=hrel;have hr:=HR.out.calm Hy;have q4:=hr.cell 3;simp only [List.getElem?_cons_zero,List.getElem?_cons_succ] at q4
  by_cases hlt:i < n
  ·have i1:(i:Int) < n:=by omega
   have i2:(0:Int) <= (i:Int):=by omega
   obtain ⟨bk,rfl,_,_,_,hf⟩:=Na.out (by omega);obtain ⟨bn,rfl,_,_,_,hw⟩:=HNC.out (by omega);obtain ⟨x,hx⟩:∃ x,K[i]? = some x:=⟨K[i]'(by have:=HN.out;omega),by simp⟩;have hxm:x ∈ K:=List.mem_of_getElem? hx;have e1:=(hf i hlt).1;have e2:=(hw i hlt).1;rw [List.getElem?_map,hx] at e1 e2;change _ = some x.1 at e1;change _ = some (Value.int .i64 (x.2.1:Int)) at e2;have hO:=HC.out.done x hxm;obtain ⟨l,hl⟩:∃ l,l = x.2.1:=⟨_,rfl⟩;obtain ⟨m,hm⟩:∃ m,m = x.2.2:=⟨_,rfl⟩;have hlm:=HKL.out x hxm;rw [<- hl] at e2 hO hlm;rw [<- hm] at hO hlm;obtain ⟨ag,cg,hv,_,_,hgc⟩:=hO.open;rw [Di] at hv hgc;rw [hv] at e1;have e1':=(Hy.cell _).trans e1;have HLM:=hid hlm;have HGC:=hid hgc;have E1:=hid e1;have E2:=hid e2;have HCA:=hid Hy;clear hf hw hx hxm hO hl hm hlm hv hgc e1 e2 Hy hr;go_wp2
   go_loopw [4] (fun s wr=>∃ j:Nat,j <= m/\s = .int .i64 j/\Calm w wr) (fun s _=>m - (intOf s).toNat)
   case atStart=>exact ⟨0,Nat.zero_le _,rfl,HCA.out⟩
   case round=>
    clear e1' q4;obtain ⟨j,hj,rfl,Hy⟩:=hrel;have hr:=HR.out.calm Hy;have q4:=hr.cell 3;simp only [List.getElem?_cons_zero,List.getElem?_cons_succ] at q4;have e1:=(Hy.cell _).trans E1.out
    by_cases hlt2:j < m
    ·have j1:(j:Int) < m:=by omega
     have j2:(0:Int) <= (j:Int):=by omega
     have j3:m <= 1000000000000:=by have:=HLM.out;omega
     obtain ⟨bg,rfl,_,_,_,hg⟩:=HGC.out (by omega);have e3:=(hg j hlt2).1;rw [Og l hlt2] at e3;obtain ⟨o,ho⟩:∃ o,o = Ll l j:=⟨_,rfl⟩;rw [<- ho] at e3;have hoo:(o != o) = false:=by simp
     have hl3:l <= 1000000:=HLM.out.1;have hw1:IntKind.i64.wrap ((l:Int) + 1) = (l:Int) + 1:=IntWalk.i64_in _ (by omega);have hw2:IntKind.i64.wrap (-1000003 * ((l:Int) + 1)) = -1000003 * ((l:Int) + 1):=IntWalk.i64_in _ (by omega);have hw3:IntKind.i64.wrap (-1000003 * ((l:Int) + 1) - (j:Int)) = o:=by rw [ho];exact IntWalk.i64_in _ (by omega)
     have hmk:∀ w':World,Calm w w'->w'.cell? ⟨hb,5,none⟩ = some (.bool false)/\w'.cell? ⟨hb,3,none⟩ = some (.slice (some ⟨bk,0,none⟩) n ck)/\w'.cell? ⟨hb,4,none⟩ = some (.slice (some ⟨bn,0,none⟩) n cn) /\
      w'.cell? ⟨bk,i,none⟩ = some (.slice (some ⟨bg,0,none⟩) m cg)/\w'.cell? ⟨bg,j,none⟩ = some (.int .i64 o)/\w'.cell? ⟨bn,i,none⟩ = some (.int .i64 l)/\w'.frozen? ⟨hb,5,none⟩ = false/\Calm w w':=fun w' hc=>by
      have hr':=HR.out.calm hc;refine ⟨by simpa using hr'.cell 5,by simpa using hr'.cell 3,by simpa using hr'.cell 4,?_,?_,?_,hr'.free 5,hc⟩
      ·rw [hc.cell,E1.out]
      ·rw [hc.cell,e3]
      ·rw [hc.cell,E2.out]
     have HMK:=hid hmk;have HO:=hid ho;have HCA:=hid Hy;clear hmk hg e3 ho Hy hr;go_wp2_with fail
     go_region_held3 (fun w':World=>w'.cell? ⟨hb,5,none⟩ = some (.bool false)/\w'.cell? ⟨hb,3,none⟩ = some (.slice (some ⟨bk,0,none⟩) n ck)/\w'.cell? ⟨hb,4,none⟩ = some (.slice (some ⟨bn,0,none⟩) n cn) /\
      w'.cell? ⟨bk,i,none⟩ = some (.slice (some ⟨bg,0,none⟩) m cg)/\w'.cell? ⟨bg,j,none⟩ = some (.int .i64 o)/\w'.cell? ⟨bn,i,none⟩ = some (.int .i64 l)/\w'.frozen? ⟨hb,5,none⟩ = false/\Calm w w')
      (first | exact HMK.out _ HCA.out.drew | exact HMK.out _ (Xp (by assumption)) | exact HMK.out _ (Calm.set (Xp (by assumption)) (Row.calm HR.out (Xp (by assumption))) rfl))
      (fail)
     have hS:=Xp (by assumption);go_wp2
     go_roundw
     case rel=>exact ⟨j + 1,hlt2,by go_num,hS⟩
     case measure=>simp [intOf];omega
    ·obtain rfl:j = m:=by omega
     go_wp2
     go_roundw
     case rel=>exact ⟨i + 1,hlt,by go_num,Hy⟩
     case measure=>simp [intOf];omega
  ·obtain rfl:i = n:=by omega
   have q6:=hr.cell 5;simp only [List.getElem?_cons_zero,List.getElem?_cons_succ] at q6;go_wp2;go_ret
   exact ⟨rfl,Hy⟩
structure Bz (w:World) (base hb:Nat) (ρ:Nat->Nat) (cnt tot:Int) (vf vw vk vn:Value) (n:Nat) (v:Nat->Value) (c:Nat->List Value) (R:Nat->Nat) (KV KN:List Value) (K:List (Value × Nat × Nat)) (A:Nat->Option Obj):Prop where
 row:Row w hb 52 [.int .i64 tot,vf,vw,vk,vn,.bool false]
 Eb:ρ hb = 0
 low:base <= hb
 fresh:Aq w base ρ 1 50 vf ((List.range n).map v)
 kept:Aq w base ρ 2 50 vk KV
 nums:Aq w base ρ 3 3 vn KN
 item:∀ t,t < n->Aq w base ρ (R t) 3 (v t) (c t)
 done:∀ x ∈ K,Aq w base ρ 9 3 x.1 (Fj x.2.1 x.2.2)
 side:∀ (j:Nat) (y:Obj),A j = some y->G7 w ρ (1000 + j) j y
section
variable {w w':World} {base hb:Nat} {ρ:Nat->Nat} {cnt tot:Int} {vf vw vk vn:Value} {n:Nat} {v:Nat->Value} {c:Nat->List Value} {R:Nat->Nat} {KV KN:List Value} {K:List (Value × Nat × Nat)} {A:Nat->Option Obj}
theorem Bz.calm (h:Bz w base hb ρ cnt tot vf vw vk vn n v c R KV KN K A) (hc:Calm w w'):Bz w' base hb ρ cnt tot vf vw vk vn n v c R KV KN K A where
 row:=h.row.calm hc
 Eb:=h.Eb
 low:=h.low
 fresh:=h.fresh.same hc.heap
 kept:=h.kept.same hc.heap
 nums:=h.nums.same hc.heap
 item:=fun t ht=>(h.item t ht).same hc.heap
 done:=fun x hx=>(h.done x hx).same hc.heap
 side:=fun j y hy=>(h.side j y hy).same hc.heap
theorem Bz.put (h:Bz w base hb ρ cnt tot vf vw vk vn n v c (fun t=>10 + t) KV KN K A) {i j b cap:Nat} (hi:i < n) (hi9:i < 990) (hv:v i = .slice (some ⟨b,0,none⟩) (c i).length cap) (hj:j < (c i).length) (x:Value) :
 Bz (w.setCell ⟨b,j,none⟩ x) base hb ρ cnt tot vf vw vk vn n v (fun t=>if t = i then (c i).set j x else c t) (fun t=>10 + t) KV KN K A:=by
 have hIt:=h.item i hi;have hρ:ρ b = 10 + i:=hIt.2 b (by rw [hv];rfl);have hset:∀ q,q ≠ b->(w.setCell ⟨b,j,none⟩ x).heap[q]? = w.heap[q]?:=fun q hq=>Below.heap_setCell _ _ _ _ hq;refine ⟨?_,h.Eb,h.low,?_,?_,?_,?_,?_,?_⟩
 ·exact h.row.other _ _ (fun e=>by have:=h.Eb;change hb = b at e;rw [e] at this;omega)
 ·exact h.fresh.move fun q _ hr=>⟨hset q (fun e=>by subst e;omega),hr⟩
 ·exact h.kept.move fun q _ hr=>⟨hset q (fun e=>by subst e;omega),hr⟩
 ·exact h.nums.move fun q _ hr=>⟨hset q (fun e=>by subst e;omega),hr⟩
 ·intro t ht
  by_cases e:t = i
  ·subst e;rw [if_pos rfl];refine ⟨?_,hIt.2⟩;have:=hIt.1;rw [hv] at this ⊢;rw [List.length_set];exact Aal this j x hj
  ·rw [if_neg e];exact (h.item t ht).move fun q _ hr=>⟨hset q (fun e2=>by subst e2;omega),hr⟩
 ·intro x hx;exact (h.done x hx).move fun q _ hr=>⟨hset q (fun e=>by subst e;omega),hr⟩
 ·intro j y hy;exact (h.side j y hy).move fun q _ hr=>⟨hset q (fun e=>by subst e;omega),hr⟩
theorem Bz.alloc (h:Bz w base hb ρ cnt tot vf vw vk vn n v c R KV KN K A) (o:Obj):Bz (w.alloc o) base hb ρ cnt tot vf vw vk vn n v c R KV KN K A where
 row:=h.row.alloc o
 Eb:=h.Eb
 low:=h.low
 fresh:=h.fresh.alloc o
 kept:=h.kept.alloc o
 nums:=h.nums.alloc o
 item:=fun t ht=>(h.item t ht).alloc o
 done:=fun x hx=>(h.done x hx).alloc o
 side:=fun j y hy=>(h.side j y hy).alloc o
theorem Bz.congr {c':Nat->List Value} {R':Nat->Nat} (h:Bz w base hb ρ cnt tot vf vw vk vn n v c R KV KN K A) (hc:∀ t,t < n->c t = c' t) (hR:∀ t,t < n->R t = R' t):Bz w base hb ρ cnt tot vf vw vk vn n v c' R' KV KN K A where
 row:=h.row
 Eb:=h.Eb
 low:=h.low
 fresh:=h.fresh
 kept:=h.kept
 nums:=h.nums
 item:=fun t ht=>by rw [<- hc t ht,<- hR t ht];exact h.item t ht
 done:=h.done
 side:=h.side
theorem Bz.uj {row:Option Nat} {g i:Nat} (h:Bz w base hb ρ cnt tot vf vw vk vn n v c R KV KN K A) (hg:w.grownBy w' row) (hrow:∀ b,row = some b->ρ b = 10 + i) (hnew:row = some g\/g = w.heap.size)
 (hR:∀ t,t < n->t ≠ i->R t ≠ 10 + i) (hRi:R i = 10 + i) (hi:i < n) (hi9:i < 990) (hit:w'.ownsRow base 3 1 (v i) (c i).length (c i)):Bz w' base hb (fun q=>if q = g then 10 + i else ρ q) cnt tot vf vw vk vn n v c R KV KN K A where
 row:=h.row.grow (by rw [h.Eb];omega) hg hrow hnew
 Eb:=by
  have:=(Gj hg hrow hnew hb h.row.lt (by rw [h.Eb];omega)).2;exact this.trans h.Eb
 low:=h.low
 fresh:=h.fresh.grow (by omega) hg hrow hnew
 kept:=h.kept.grow (by omega) hg hrow hnew
 nums:=h.nums.grow (by omega) hg hrow hnew
 item:=fun t ht=>by
  by_cases e:t = i
  ·subst e;rw [hRi];refine ⟨hit,fun b hb2=>?_⟩;show (if b = g then 10 + t else ρ b) = 10 + t
   split
   ·rfl
   ·have:=(h.item t ht).2 b hb2;rw [this,hRi]
  ·exact (h.item t ht).grow (hR t ht e) hg hrow hnew
 done:=fun x hx=>(h.done x hx).grow (by omega) hg hrow hnew
 side:=fun j y hy=>(h.side j y hy).grow (by omega) hg hrow hnew
theorem Bz.Tv {row:Option Nat} {g cap:Nat} {N:Nat} {KV':List Value} (h:Bz w base hb ρ cnt tot vf vw vk vn n v c R KV KN K A) (hg:w.grownBy w' row) (hrow:∀ b,row = some b->ρ b = 2) (hnew:row = some g\/g = w.heap.size)
 (hR:∀ t,t < n->9 <= R t) (hN:KV'.length = N) (hk:w'.ownsRow base 50 1 (.slice (some ⟨g,0,none⟩) N cap) N KV') :
 Bz (w'.setCell ⟨hb,3,none⟩ (.slice (some ⟨g,0,none⟩) N cap)) base hb (fun q=>if q = g then 2 else ρ q) cnt tot vf vw (.slice (some ⟨g,0,none⟩) N cap) vn n v c R KV' KN K A:=by
 have hr0:(fun q=>if q = g then 2 else ρ q) hb = 0:=((Gj hg hrow hnew hb h.row.lt (by rw [h.Eb];omega)).2).trans h.Eb;have hne:∀ r0,r0 ≠ 0->(fun q=>if q = g then 2 else ρ q) (⟨hb,3,none⟩:Addr).block ≠ r0:=fun r0 h0 e=>h0 (by rw [<- e];exact hr0);refine ⟨?_,hr0,h.low,?_,?_,?_,?_,?_,?_⟩
 ·have:=(h.row.grow (by rw [h.Eb];omega) hg hrow hnew).put 3 (.slice (some ⟨g,0,none⟩) N cap);exact this
 ·exact (h.fresh.grow (by omega) hg hrow hnew).set (hne 1 (by omega)) _
 ·exact Aq.set ⟨by rw [hN];exact hk,fun b hb2=>by cases hb2;show (if g = g then 2 else ρ g) = 2;rw [if_pos rfl]⟩ (hne 2 (by omega)) _
 ·exact (h.nums.grow (by omega) hg hrow hnew).set (hne 3 (by omega)) _
 ·intro t ht;have:=hR t ht;exact ((h.item t ht).grow (by omega) hg hrow hnew).set (hne _ (by omega)) _
 ·intro x hx;exact ((h.done x hx).grow (by omega) hg hrow hnew).set (hne 9 (by omega)) _
 ·intro j y hy;exact ((h.side j y hy).grow (by omega) hg hrow hnew).set (hne _ (by omega)) _
theorem Bz.Tz {row:Option Nat} {g cap:Nat} {N:Nat} {KN':List Value} (h:Bz w base hb ρ cnt tot vf vw vk vn n v c R KV KN K A) (hg:w.grownBy w' row) (hrow:∀ b,row = some b->ρ b = 3) (hnew:row = some g\/g = w.heap.size)
 (hR:∀ t,t < n->9 <= R t) (hN:KN'.length = N) (hk:w'.ownsRow base 3 1 (.slice (some ⟨g,0,none⟩) N cap) N KN') :
 Bz (w'.setCell ⟨hb,4,none⟩ (.slice (some ⟨g,0,none⟩) N cap)) base hb (fun q=>if q = g then 3 else ρ q) cnt tot vf vw vk (.slice (some ⟨g,0,none⟩) N cap) n v c R KV KN' K A:=by
 have hr0:(fun q=>if q = g then 3 else ρ q) hb = 0:=((Gj hg hrow hnew hb h.row.lt (by rw [h.Eb];omega)).2).trans h.Eb;have hne:∀ r0,r0 ≠ 0->(fun q=>if q = g then 3 else ρ q) (⟨hb,4,none⟩:Addr).block ≠ r0:=fun r0 h0 e=>h0 (by rw [<- e];exact hr0);refine ⟨?_,hr0,h.low,?_,?_,?_,?_,?_,?_⟩
 ·have:=(h.row.grow (by rw [h.Eb];omega) hg hrow hnew).put 4 (.slice (some ⟨g,0,none⟩) N cap);exact this
 ·exact (h.fresh.grow (by omega) hg hrow hnew).set (hne 1 (by omega)) _
 ·exact (h.kept.grow (by omega) hg hrow hnew).set (hne 2 (by omega)) _
 ·exact Aq.set ⟨by rw [hN];exact hk,fun b hb2=>by cases hb2;show (if g = g then 3 else ρ g) = 3;rw [if_pos rfl]⟩ (hne 3 (by omega)) _
 ·intro t ht;have:=hR t ht;exact ((h.item t ht).grow (by omega) hg hrow hnew).set (hne _ (by omega)) _
 ·intro x hx;exact ((h.done x hx).grow (by omega) hg hrow hnew).set (hne 9 (by omega)) _
 ·intro j y hy;exact ((h.side j y hy).grow (by omega) hg hrow hnew).set (hne _ (by omega)) _
theorem Bz.settle {i:Nat} {x:Value × Nat × Nat} (h:Bz w base hb ρ cnt tot vf vw vk vn n v c R KV KN K A) (hi9:i < 990) (hR:∀ t,t < n->t ≠ i->R t ≠ 10 + i) (hx:Aq w base ρ (10 + i) 3 x.1 (Fj x.2.1 x.2.2)\/Aq w base ρ 9 3 x.1 (Fj x.2.1 x.2.2)) :
 Bz w base hb (fun q=>if ρ q = 10 + i then 9 else ρ q) cnt tot vf vw vk vn n v c (fun t=>if R t = 10 + i then 9 else R t) KV KN (K ++ [x]) A:=by
 have hk:∀ {r:Nat} {e:TypeId} {u:Value} {xs:List Value},r ≠ 10 + i->Aq w base ρ r e u xs->Aq w base (fun q=>if ρ q = 10 + i then 9 else ρ q) r e u xs:=fun hr ho=>ho.move fun q _ hq=>⟨rfl,by
  show (if ρ q = 10 + i then 9 else ρ q) = _;rw [if_neg (by rw [hq];exact hr),hq]⟩
 have hj9:∀ {e:TypeId} {u:Value} {xs:List Value},Aq w base ρ (10 + i) e u xs->Aq w base (fun q=>if ρ q = 10 + i then 9 else ρ q) 9 e u xs:=fun ho=>ho.move fun q _ hq=>⟨rfl,by
  show (if ρ q = 10 + i then 9 else ρ q) = _;rw [if_pos hq]⟩
 refine ⟨h.row,?_,h.low,hk (by omega) h.fresh,hk (by omega) h.kept,hk (by omega) h.nums,fun t ht=>?_,fun y hy=>?_,fun j y hy=>(h.side j y hy).move fun q _ hq=>⟨rfl,by
  show (if ρ q = 10 + i then 9 else ρ q) = _;rw [if_neg (by rw [hq];omega),hq]⟩⟩
 ·show (if ρ hb = 10 + i then 9 else ρ hb) = 0;rw [h.Eb,if_neg (by omega)]
 ·show Aq _ _ _ (if R t = 10 + i then 9 else R t) _ _ _
  by_cases e:R t = 10 + i
  ·rw [if_pos e];have:=h.item t ht;rw [e] at this;exact hj9 this
  ·rw [if_neg e];exact hk e (h.item t ht)
 ·rcases List.mem_append.1 hy with hy | hy
  ·exact hk (by omega) (h.done y hy)
  ·obtain rfl:y = x:=by simpa using hy
   rcases hx with hx | hx
   ·exact hj9 hx
   ·exact hk (by omega) hx
end
theorem Yy (l p:Nat):Fj l p ++ [.int .i64 (Ll l p)] = Fj l (p + 1):=by
 simp [Fj,J6,List.range_succ]
theorem Y2:(prog.info? 50).map (fun i=>(i.zero,i.size,i.bytes)) = some (some (.slice none 0 0),1,24):=by kernel_rfl
theorem Rh {l j:Nat} {cs:List Value} (h:cs.take j = Fj l j) (hj:j < cs.length):(cs.set j (.int .i64 (Ll l j))).take (j + 1) = Fj l (j + 1):=by
 apply List.ext_getElem?
 intro t;rw [List.getElem?_take]
 by_cases ht:t < j + 1
 ·rw [if_pos ht,Og l ht,List.getElem?_set]
  by_cases e:j = t
  ·subst e;rw [if_pos rfl,if_pos hj]
  ·rw [if_neg e];have h2:=congrArg (fun z=>z[t]?) h;simp only [List.getElem?_take] at h2;rw [if_pos (by omega),Og l (by omega)] at h2;exact h2
 ·rw [if_neg ht,List.getElem?_eq_none (by rw [Di];omega)]
theorem Gi {w:World} {base:Nat} {ρ:Nat->Nat} {r:Nat} {e:TypeId} {u:Value} {n:Nat} {v:Nat->Value} (h:Aq w base ρ r e u ((List.range n).map v)):∃ a cap,u = .slice a n cap/\(0 < n->∃ b,a = some ⟨b,0,none⟩/\∀ i,i < n->w.cell? ⟨b,i,none⟩ = some (v i)):=by
 obtain ⟨a,cap,rfl,h1,h2,h3⟩:=h.open;simp only [List.length_map,List.length_range] at h3;refine ⟨a,cap,by simp,fun hp=>?_⟩;obtain ⟨b,rfl,_,_,_,hc⟩:=h3 hp;refine ⟨b,rfl,fun i hi=>?_⟩;rw [(hc i hi).1];simp [hi]
theorem Ua (base hb:Nat) (ρ:Nat->Nat) (cnt tot:Int) (vf vw vk vn:Value) (F:List (Value × List Int)) (ws:List Value) (K:List (Value × Nat × Nat)) {A:Nat->Option Obj} (w:World) (hF:F.length <= 100) (hFl:∀ x ∈ F,x.2.length <= 1000000000) (hK:K.length <= 100000) (htot:0 <= tot/\tot <= 1000000000000)
 (hKl:∀ x ∈ K,x.2.1 <= 1000000/\x.2.2 <= 1000000000000) (h:Core w base hb ρ cnt tot vf vw vk vn F ws K A) :
 Calls prog 48 #[.pointer (some ⟨hb,0,none⟩)] w fun e w'=>e = .returned (.tuple #[])/\Below base w w'/\∃ ρ' Ub Uc K',Core w' base hb ρ' cnt tot (.slice none 0 0) (.slice none 0 0) Ub Uc [] [] K' A/\K'.length = K.length + 2 * F.length/\(∀ x ∈ K',x.2.1 <= 1000000/\x.2.2 <= 1000000000000):=by
 have HC:=hid h;obtain ⟨n,hn⟩:∃ n,n = F.length:=⟨_,rfl⟩;obtain ⟨f,hf⟩:∃ f,f = K.length:=⟨_,rfl⟩;obtain ⟨v,hv⟩:∃ v:Nat->Value,v = fun t=>(F.getD t (.slice none 0 0,[])).1:=⟨_,rfl⟩;obtain ⟨c0,hc0⟩:∃ c0:Nat->List Value,c0 = fun t=>(F.getD t (.slice none 0 0,[])).2.map (Value.int .i64):=⟨_,rfl⟩;obtain ⟨len,hlen⟩:∃ len:Nat->Nat,len = fun t=>(c0 t).length:=⟨_,rfl⟩
 have hmap:F.map (·.1) = (List.range n).map v:=by
  apply List.ext_getElem?
  intro t
  by_cases ht:t < n
  ·simp [hv,List.getD,show t < F.length by omega,ht]
  ·rw [List.getElem?_eq_none (by simp;omega),List.getElem?_eq_none (by simp;omega)]
 have hw0:Bz w base hb ρ cnt tot vf vw vk vn n v c0 (fun t=>10 + t) (K.map (·.1)) (K.map fun (x:Value × Nat × Nat)=>Value.int .i64 (x.2.1:Int)) K A:=by
  refine ⟨h.row,h.Eb,h.low,by rw [<- hmap];exact h.fresh,h.kept,h.nums,fun t ht=>?_,h.done,h.side⟩;have hx:F[t]? = some (F.getD t (.slice none 0 0,[])):=by simp [List.getD,show t < F.length by omega]
  have:=(h.item t _ hx).1;rw [hv,hc0];exact this
 have hlb:∀ t,len t <= 1000000000:=fun t=>by
  rw [hlen,hc0];simp only [List.length_map]
  by_cases ht:t < F.length
  ·have:F.getD t (.slice none 0 0,[]) ∈ F:=by simp [List.getD,ht]
   exact hFl _ this
  ·simp [List.getD,List.getElem?_eq_none (show F.length <= t by omega)]
 have hl0:∀ t,(c0 t).length = len t:=fun t=>by rw [hlen]
 have hn1:n <= 100:=by omega
 have hf1:f <= 100000:=by omega
 obtain ⟨af,cf,hvf,hfc⟩:=Gi hw0.fresh;obtain ⟨ak,ck,hvk,hck1,A0q,_⟩:=hw0.kept.open;rw [List.length_map,<- hf] at hvk hck1;have hdrop:∀ w',Bz w' base hb ρ cnt tot vf vw vk vn n v c0 (fun t=>10 + t) (K.map (·.1)) (K.map fun (x:Value × Nat × Nat)=>Value.int .i64 (x.2.1:Int)) K A->True:=fun _ _=>trivial;clear hdrop;have HN:=hid hn;have HF:=hid hf;have HW0:=hid hw0;have HLB:=hid hlb;have HL0:=hid hl0;have HKL:=hid hKl;have HFC:=hid hfc;have HFF:=hid hF;have HVK:=hid hvk;have HVF:=hid hvf;have HT:=hid htot;clear hn hf hv hc0 hlen hmap hw0 hlb hl0 hKl hfc h hF hFl hvk hvf htot;go_enter func48,ntmps48;go_wp2_with fail;refine (Xq base hb ρ cnt tot vf vw vk vn F ws K _ (by have:=HFF.out;omega) HC.out).mono ?_;rintro e w1 ⟨rfl,Hy⟩;have hw1:=HW0.out.calm Hy;have q4:=hw1.row.cell 3;simp only [List.getElem?_cons_zero,List.getElem?_cons_succ] at q4;rw [HVK.out] at q4;have HB1:=hid (Hy.below base);have HW1:=hid hw1;clear Hy hw1;go_wp2;clear q4
 go_loopw [3] (fun s wr=>∃ (i:Nat) (c:Nat->List Value),i <= n/\s = .int .i64 i/\Bz wr base hb ρ cnt tot vf vw vk vn n v c (fun t=>10 + t) (K.map (·.1)) (K.map fun (x:Value × Nat × Nat)=>Value.int .i64 (x.2.1:Int)) K A/\(∀ t,(c t).length = len t)/\(∀ t,t < i->c t = Fj (f + t) (len t))/\Below base w wr) (fun s _=>n - (intOf s).toNat)
 case atStart=>exact ⟨0,c0,Nat.zero_le _,rfl,HW1.out,HL0.out,fun t ht=>by omega,HB1.out⟩
 case round=>
  obtain ⟨i,c,hi,rfl,hW,hcl,hcd,hB⟩:=hrel;have q2:=hW.row.cell 1;simp only [List.getElem?_cons_zero,List.getElem?_cons_succ] at q2;rw [HVF.out] at q2
  by_cases hlt:i < n
  ·have i1:(i:Int) < n:=by omega
   obtain ⟨bf,haf,Axi⟩:=HFC.out (by omega);subst haf;have HW:=hid hW;have HB:=hid hB;have HCL:=hid hcl;have HCD:=hid hcd;obtain ⟨l,hl⟩:∃ l,l = f + i:=⟨_,rfl⟩;have hlc:(f:Int) + (i:Int) = (l:Int):=by omega
   obtain ⟨av,cv,Vd,_,_,_⟩:=(hW.item i hlt).open;rw [hcl] at Vd;have HVI:=hid Vd;have HL:=hid hl;have hln:=HLB.out i;obtain ⟨m,hm⟩:∃ m,m = len i:=⟨_,rfl⟩;rw [<- hm] at hln HVI;have HM:=hid hm;clear hW hB hcl hcd Vd hl hm;go_wp2;clear q2
   go_loopw [4] (fun s wr=>∃ (j:Nat) (c':Nat->List Value),j <= m/\s = .int .i64 j/\Bz wr base hb ρ cnt tot vf vw vk vn n v c' (fun t=>10 + t) (K.map (·.1)) (K.map fun (x:Value × Nat × Nat)=>Value.int .i64 (x.2.1:Int)) K A/\(∀ t,(c' t).length = len t)/\(∀ t,t < i->c' t = Fj (f + t) (len t))/\(c' i).take j = Fj l j/\Below base w wr) (fun s _=>m - (intOf s).toNat)
   case atStart=>exact ⟨0,c,Nat.zero_le _,rfl,HW.out,HCL.out,HCD.out,rfl,HB.out⟩
   case round=>
    obtain ⟨j,c',hj,rfl,hW',hcl',Ajn,hct,hB'⟩:=hrel;have q2:=hW'.row.cell 1;simp only [List.getElem?_cons_zero,List.getElem?_cons_succ] at q2;rw [HVF.out] at q2
    have e1:wr.cell? ⟨bf,i,none⟩ = some (.slice av m cv):=by
     obtain ⟨a2,c2,hv2,hc2⟩:=Gi hW'.fresh;rw [HVF.out] at hv2;injection hv2 with hv2 _ _;obtain ⟨b2,hb2,hcc⟩:=hc2 (by omega);rw [<- hv2] at hb2;injection hb2 with hb2;injection hb2 with hb2;rw [hb2,hcc i hlt,HVI.out]
    by_cases hlt2:j < m
    ·have j1:(j:Int) < m:=by omega
     have j2:(0:Int) <= (j:Int):=by omega
     have i2:(0:Int) <= (i:Int):=by omega
     obtain ⟨a3,c3,hv3,_,_,hg3⟩:=(hW'.item i hlt).open;rw [HVI.out,hcl',<- HM.out] at hv3;injection hv3 with Axj _ Axk;subst Axj Axk;obtain ⟨b,rfl,_,hbb,hrb,hcell⟩:=hg3 (by rw [hcl',<- HM.out];omega);obtain ⟨z,hz⟩:∃ z,(c' i)[j]? = some z:=⟨(c' i)[j]'(by rw [hcl',<- HM.out];exact hlt2),by simp⟩;have e2:=(hcell j (by rw [hcl',<- HM.out];exact hlt2)).1;have f2:=(hcell j (by rw [hcl',<- HM.out];exact hlt2)).2;rw [hz] at e2;have HW':=hid hW';have uq:=hid hcl';have Axl:=hid Ajn;have HCT:=hid hct;have HB':=hid hB';have HBB:=hid hbb;clear hW' hcl' Ajn hct hB' hg3 hcell hz hrb hbb;have hlb:l <= 1000000:=by have:=HL.out;omega
     have hw1:IntKind.i64.wrap ((l:Int) + 1) = (l:Int) + 1:=IntWalk.i64_in _ (by omega);have hw2:IntKind.i64.wrap (-1000003 * ((l:Int) + 1)) = -1000003 * ((l:Int) + 1):=IntWalk.i64_in _ (by omega);have hw3:IntKind.i64.wrap (-1000003 * ((l:Int) + 1) - (j:Int)) = Ll l j:=IntWalk.i64_in _ (by omega);obtain ⟨z2,hz2⟩:∃ z2,z2 = Ll l j:=⟨_,rfl⟩;rw [<- hz2] at hw3;have HZ2:=hid hz2;have HWD:=HW';have HBD:=HB';clear hz2;go_wp2
     go_roundw
     case rel=>
      have hlen:∀ t,(if t = i then (c' i).set j (.int .i64 z2) else c' t).length = len t:=fun t=>by
       by_cases e:t = i
       ·subst e;rw [if_pos rfl,List.length_set,uq.out]
       ·rw [if_neg e,uq.out]
      refine ⟨j + 1,_,hlt2,by go_num,HWD.out.put hlt (by omega) (by rw [uq.out,<- HM.out];exact HVI.out) (by rw [uq.out,<- HM.out];exact hlt2) _,hlen,fun t ht=>?_,?_,HBD.out.setCell HBB.out _⟩
      ·rw [if_neg (by omega)];exact Axl.out t ht
      ·rw [if_pos rfl];rw [HZ2.out];exact Rh HCT.out (by rw [uq.out,<- HM.out];exact hlt2)
     case measure=>simp [intOf];omega
    ·obtain rfl:j = m:=by omega
     go_wp2
     go_roundw
     case rel=>
      refine ⟨i + 1,c',hlt,by go_num,hW',hcl',fun t ht=>?_,hB'⟩
      by_cases e:t = i
      ·subst e;rw [<- hct.symm.trans (List.take_of_length_le (by rw [hcl',<- HM.out];exact Nat.le_refl _)),<- HL.out,<- HM.out]
      ·exact Ajn t (by omega)
     case measure=>simp [intOf];omega
  ·obtain rfl:n = i:=by omega
   have hW2:Bz wr base hb ρ cnt tot vf vw vk vn n v (fun t=>Fj (f + t) (len t)) (fun t=>if t < 0 then 9 else 10 + t) (K.map (·.1)) (K.map fun (x:Value × Nat × Nat)=>Value.int .i64 (x.2.1:Int)) K A:=
    hW.congr (fun t ht=>hcd t ht) (fun t _=>by rw [if_neg (by omega)])
   have HW:=hid hW2;have HB:=hid hB;obtain ⟨M,hM⟩:∃ M:Int,M = if (4000:Int) < tot then 4000 else tot:=⟨_,rfl⟩
   have hM2:0 <= M/\M <= 4000:=by
    have:=HT.out;rw [hM]
    split <;> omega
   have hmin:∀ (ts:Array TypeId) (t:TypeId) (W:World),(Builtin.min_ ts t #[.int .i64 tot,.int .i64 4000]).run prog W = .ok (.int .i64 M) W:=fun ts t W=>by rw [run_min_int2,hM]
   obtain ⟨T,hT,hTm⟩:∃ T:Nat,M + 70 = (T:Int)/\T <= 4070:=⟨(M + 70).toNat,by omega,by omega⟩;clear hM hM2;have HTT:=hid hT;clear hW hB hcl hcd hW2 hT;go_wp2;clear q2
   go_loopw [5] (fun s wr=>∃ (i:Nat) (ρ':Nat->Nat) (Ub Uc:Value) (K':List (Value × Nat × Nat)),i <= n/\s = .int .i64 i/\Bz wr base hb ρ' cnt tot vf vw Ub Uc n v (fun t=>Fj (f + t) (len t)) (fun t=>if t < i then 9 else 10 + t) (K'.map (·.1)) (K'.map fun (x:Value × Nat × Nat)=>Value.int .i64 (x.2.1:Int)) K' A/\K'.length = f + i/\(∀ x ∈ K',x.2.1 <= 1000000/\x.2.2 <= 1000000000000)/\Below base w wr) (fun s _=>n - (intOf s).toNat)
   case atStart=>exact ⟨0,ρ,vk,vn,K,Nat.zero_le _,rfl,HW.out,HF.out.symm,HKL.out,HB.out⟩
   case round=>
    clear HW HB;obtain ⟨i,ρ',Ub,Uc,K',hi,rfl,hW,hKn,hKb,hB⟩:=hrel;have q2:=hW.row.cell 1;have q1:=hW.row.cell 0;simp only [List.getElem?_cons_zero,List.getElem?_cons_succ] at q1 q2;rw [HVF.out] at q2
    by_cases hlt:i < n
    ·have i1:(i:Int) < n:=by omega
     have i2:(0:Int) <= (i:Int):=by omega
     obtain ⟨bf,haf,_⟩:=HFC.out (by omega);subst haf;obtain ⟨l,hl⟩:∃ l,l = f + i:=⟨_,rfl⟩;have hlc:(f:Int) + (i:Int) = (l:Int):=by omega
     obtain ⟨av,cv,Vd,_,_,_⟩:=(hW.item i hlt).open;rw [Di] at Vd
     have e1:wr.cell? ⟨bf,i,none⟩ = some (.slice av (len i) cv):=by
      obtain ⟨a2,c2,hv2,hc2⟩:=Gi hW.fresh;rw [HVF.out] at hv2;injection hv2 with hv2 _ _;obtain ⟨b2,hb2,hcc⟩:=hc2 (by omega);rw [<- hv2] at hb2;injection hb2 with hb2;injection hb2 with hb2;rw [hb2,hcc i hlt,Vd]
     have hln:=HLB.out i;obtain ⟨m,hm⟩:∃ m,m = len i:=⟨_,rfl⟩;rw [<- hm] at hln Vd e1
     have hG0:Aq wr base ρ' (10 + i) 3 (v i) (Fj l (m + 0)):=by
      have:=hW.item i hlt;rw [if_neg (by omega)] at this;rw [hl,Nat.add_zero,hm];exact this
     rw [Vd] at hG0;have HVI:=hid Vd;have HL:=hid hl;have HM:=hid hm;have HG0:=hid hG0;have HW:=hid hW;have HB:=hid hB;have HKN:=hid hKn;have HKB:=hid hKb;clear Vd hl hm hG0 hW hB hKn hKb;go_wp2;clear q1 q2 e1
     go_loopw [6,7] (fun g s wr=>∃ (k:Nat) (ρ2:Nat->Nat) (gv:Value),gv = g/\k <= T/\s = .int .i64 k/\Bz wr base hb ρ2 cnt tot vf vw Ub Uc n v (fun t=>Fj (f + t) (len t)) (fun t=>if t < i then 9 else 10 + t) (K'.map (·.1)) (K'.map fun (x:Value × Nat × Nat)=>Value.int .i64 (x.2.1:Int)) K' A/\Aq wr base ρ2 (10 + i) 3 gv (Fj l (m + k))/\Below base w wr) (fun _ s _=>T - (intOf s).toNat)
     case atStart=>exact ⟨0,ρ',_,rfl,Nat.zero_le _,rfl,HW.out,HG0.out,HB.out⟩
     case round=>
      clear HW HB HG0;obtain ⟨k,ρ2,gv,hgv,hk,rfl,hW,hG,hB⟩:=hrel;subst hgv;have q1:=hW.row.cell 0;simp only [List.getElem?_cons_zero] at q1;have hT:=HTT.out
      by_cases hltk:k < T
      ·have k1:(k:Int) < T:=by omega
       obtain ⟨ag,cg,hgf,Aah,Aor,_⟩:=hG.open;rw [Di] at hgf Aah;obtain ⟨p,hp⟩:∃ p,p = m + k:=⟨_,rfl⟩;rw [<- hp] at hgf Aah hG;have hpb:p <= 1000004070:=by omega
       subst hgf;have HW:=hid hW;have HB:=hid hB;have HG:=hid hG;have HP:=hid hp;clear hW hB hG hp Aah Aor
       all_goals
        have hlb:l <= 1000000:=by have:=HL.out;omega
        have hw1:IntKind.i64.wrap ((l:Int) + 1) = (l:Int) + 1:=IntWalk.i64_in _ (by omega);have hw2:IntKind.i64.wrap (-1000003 * ((l:Int) + 1)) = -1000003 * ((l:Int) + 1):=IntWalk.i64_in _ (by omega);have hw3:IntKind.i64.wrap (-1000003 * ((l:Int) + 1) - (p:Int)) = Ll l p:=IntWalk.i64_in _ (by omega);obtain ⟨i0,hi0,hz0,hz1,hz2⟩:=info_parts Oh;have hWa:=HW.out.alloc (.cells #[.int .i64 (Ll l p)] 3);have hGa:=HG.out.alloc (.cells #[.int .i64 (Ll l p)] 3);have hbz:base <= wr.heap.size:=Nat.le_trans HW.out.low (Nat.le_of_lt HW.out.row.lt);have hBa:=HB.out.alloc hbz (.cells #[.int .i64 (Ll l p)] 3);obtain ⟨z,hz⟩:∃ z,z = Ll l p:=⟨_,rfl⟩;have hsn:=Yy l p;rw [<- hz] at hWa hGa hBa hsn hw3;have hGo:=hGa.1;rw [Di] at hGo;have hnw:=cell_one_new wr (.int .i64 z) 3;have hon:∀ u ∈ [Value.int .i64 z],u.oneCell' = true:=fun u hu=>by simp at hu;subst hu;rfl
        have Lp:p + 1 <= maxLen:=by unfold maxLen;omega
        have hm4:(p + 1) * 8 <= 140737488355328:=by omega
        have Yz:base <= (wr.alloc (.cells #[.int .i64 z] 3)).heap.size:=by simp;omega
        have HWa:=hid hWa;have HGa:=hid hGa;have HBa:=hid hBa;have HGo:=hid hGo;have HSN:=hid hsn;clear hWa hGa hBa hGo hsn hz;go_wp2_with (at_builtin;refine Hg rfl (.tmp 79) (.tmp 88) 50 rfl base 3 i0 (.int .i64 0) 8 underlying50 hi0 hz0 hz1 hz2 rfl _ p _ rfl HGo.out ⟨wr.heap.size,0,none⟩ 1 1 [.int .i64 z] rfl rfl hnw hon (by decide) Lp hm4 Yz ?_;intro g2 cap2 w2 hown hgrow hnew hlt2 hkeep);rw [HSN.out] at hown;have hrow:∀ b,(Value.slice ag p cg).ownBlock = some b->ρ2 b = 10 + i:=fun b hb2=>HGa.out.2 b hb2;have hRi:(fun t=>if t < i then 9 else 10 + t) i = 10 + i:=if_neg (Nat.lt_irrefl i)
        have hRt:∀ t,t < n->t ≠ i->(fun t=>if t < i then 9 else 10 + t) t ≠ 10 + i:=fun t _ hti=>by
         show (if t < i then 9 else 10 + t) ≠ 10 + i
         split <;> omega
        have hit:=HWa.out.item i hlt;have hit2:=hkeep (v i) _ _ hit.1 (fun _=>by rw [Di,<- HM.out];have:=HP.out;omega);have hW3:=HWa.out.uj hgrow hrow hnew hRt hRi hlt (by omega) hit2
        have hG3:Aq w2 base (fun q=>if q = g2 then 10 + i else ρ2 q) (10 + i) 3 (.slice (some ⟨g2,0,none⟩) (p + 1) cap2) (Fj l (m + (k + 1))):=by
         have e:m + (k + 1) = p + 1:=by have:=HP.out;omega
         rw [e];refine ⟨by rw [Di];exact hown,fun b hb2=>?_⟩
         cases hb2
         show (if g2 = g2 then 10 + i else ρ2 g2) = 10 + i;rw [if_pos rfl]
        have hB3:Below base w w2:=Below.grown HBa.out hgrow Yz (fun b hb2=>(HGa.out.1.lt b hb2).1);have HW3:=hid hW3;have HG3:=hid hG3;clear hown hgrow hnew hlt2 hkeep hrow hRi hRt hit hit2 hW3 hG3 hnw hon Lp hm4 Yz;go_wp2
        go_roundw
        case rel=>exact ⟨k + 1,_,_,rfl,hltk,by go_num,HW3.out,HG3.out,hB3⟩
        case measure=>simp [intOf];omega
      ·obtain rfl:T = k:=by omega
       obtain ⟨ag,cg,hgf,_,_,_⟩:=hG.open;rw [Di] at hgf;obtain ⟨p,hp⟩:∃ p,p = m + T:=⟨_,rfl⟩;rw [<- hp] at hgf hG;have hpb:p <= 1000004070:=by omega
       subst hgf;obtain ⟨N,hN⟩:∃ N,N = K'.length:=⟨_,rfl⟩;have hNb:N <= 200000:=by rw [hN,HKN.out];omega
       obtain ⟨KV,yx⟩:∃ KV,KV = K'.map (·.1):=⟨_,rfl⟩;obtain ⟨KN,hKN⟩:∃ KN,KN = K'.map fun (x:Value × Nat × Nat)=>Value.int .i64 (x.2.1:Int):=⟨_,rfl⟩;have V4:KV.length = N:=by rw [yx,List.length_map,hN]
       have uw:KN.length = N:=by rw [hKN,List.length_map,hN]
       rw [<- yx,<- hKN] at hW;have hbz:base <= wr.heap.size:=Nat.le_trans hW.low (Nat.le_of_lt hW.row.lt);have q4:=hW.row.cell 3;simp only [List.getElem?_cons_zero,List.getElem?_cons_succ] at q4;have hWa:=hW.alloc (.cells #[.slice ag p cg] 50);have hGa:=hG.alloc (.cells #[.slice ag p cg] 50);have hBa:=hB.alloc hbz (.cells #[.slice ag p cg] 50);have hko:=hWa.kept.1;rw [V4] at hko;have hnw:=cell_one_new wr (.slice ag p cg) 50;have hon:∀ u ∈ [Value.slice ag p cg],u.oneCell' = true:=fun u hu=>by simp at hu;subst hu;rfl
       have Lp:N + 1 <= maxLen:=by unfold maxLen;omega
       have hm4:(N + 1) * 24 <= 140737488355328:=by omega
       have Ajo:(N + 1) * 8 <= 140737488355328:=by omega
       have Yz:base <= (wr.alloc (.cells #[.slice ag p cg] 50)).heap.size:=by simp;omega
       have hR9:∀ t,t < n->9 <= (fun t=>if t < i then 9 else 10 + t) t:=fun t _=>by
        show 9 <= if t < i then 9 else 10 + t
        split <;> omega
       obtain ⟨i1,hi1,hy0,hy1,hy2⟩:=info_parts Y2;obtain ⟨i3,hi3,hx0,hx1,hx2⟩:=info_parts Oh;have HW:=hid hWa;have HB:=hid hBa;have HG:=hid hGa;have HKO:=hid hko;have HP:=hid hp;have HNN:=hid hN;have HKV:=hid yx;have Ajp:=hid hKN;have Ajq:=hid V4;have uz:=hid uw;clear hW hB hG hWa hGa hBa hko hp hN yx hKN V4 uw;have HBZ:=hid hbz;clear hbz
       go_wp2_with
        (first
          | (at_builtin
             refine wpList_append_lies _ rfl (.tmp 94) (.tmp 96) 49 rfl base 50 i1 (.slice none 0 0) 1 24 underlying49 hi1 hy0 hy1 hy2 rfl (by decide) Ub N KV rfl HKO.out ⟨wr.heap.size,0,none⟩ 1 1 [Value.slice ag p cg] rfl rfl hnw hon (by decide) Lp hm4 Yz _ rfl ?_;intro g3 cap3 w3 hown hgrow hnew hlt3;have hrow:∀ b,Value.ownBlock Ub = some b->ρ2 b = 2:=fun b hb2=>HW.out.kept.2 b hb2;have hl1:(KV ++ [Value.slice ag p cg]).length = N + 1:=by rw [List.length_append,Ajq.out];rfl
             have hW3:=HW.out.Tv hgrow hrow hnew hR9 hl1 hown;have r3:=HW.out.row.grow (by rw [HW.out.Eb];omega) hgrow hrow hnew;have q4:=r3.cell 3;have f4:=r3.free 3;have q5:=hW3.row.cell 4;simp only [List.getElem?_cons_zero,List.getElem?_cons_succ] at q4 q5;have hB3:Below base w w3:=Below.grown HB.out hgrow Yz (fun b hb2=>(HKO.out.lt b hb2).1);have hB4:=hB3.setCell (p:=⟨hb,3,none⟩) HW.out.low (.slice (some ⟨g3,0,none⟩) (N + 1) cap3);have hG4:=((HG.out.grow (show 10 + i ≠ 2 by omega) hgrow hrow hnew).set (a:=⟨hb,3,none⟩) (by rw [hW3.Eb];omega) (.slice (some ⟨g3,0,none⟩) (N + 1) cap3)).alloc (.cells #[.int .i64 (l:Int)] 3);have HG4:=hid hG4;clear hG4;have hs4:(w3.setCell ⟨hb,3,none⟩ (.slice (some ⟨g3,0,none⟩) (N + 1) cap3)).heap.size = w3.heap.size:=by simp
             have V5:=cell_one_new (w3.setCell ⟨hb,3,none⟩ (.slice (some ⟨g3,0,none⟩) (N + 1) cap3)) (.int .i64 (l:Int)) 3;rw [hs4] at V5;have vg:∀ u ∈ [Value.int .i64 (l:Int)],u.oneCell' = true:=fun u hu=>by simp at hu;subst hu;rfl
             have hW4:=hW3.alloc (.cells #[.int .i64 (l:Int)] 3);have Ud:base <= w3.heap.size:=Nat.le_trans HW.out.low (Nat.le_of_lt r3.lt);have wo:=hB4.alloc (by rw [hs4];exact Ud) (.cells #[.int .i64 (l:Int)] 3);have hno:=hW4.nums.1;rw [uz.out] at hno;have N9:base <= ((w3.setCell ⟨hb,3,none⟩ (.slice (some ⟨g3,0,none⟩) (N + 1) cap3)).alloc (.cells #[.int .i64 (l:Int)] 3)).heap.size:=by simp;omega
             have HW4:=hid hW4;have HB5:=hid wo;have Zr:=hid hno;clear hown hgrow hnew hlt3 hrow hl1 hW3 r3 hB3 hB4 hs4 hW4 Ud wo hno)
          | (at_builtin
             refine wpList_append_lies _ rfl (.tmp 104) (.tmp 108) 50 rfl base 3 i3 (.int .i64 0) 1 8 underlying50 hi3 hx0 hx1 hx2 rfl (by decide) Uc N KN rfl Zr.out ⟨w3.heap.size,0,none⟩ 1 1 [.int .i64 (l:Int)] rfl rfl V5 vg (by decide) Lp Ajo N9 _ rfl ?_;intro g5 cap5 w5 hown hgrow hnew Acp;have hrow:∀ b,Value.ownBlock Uc = some b->(fun q=>if q = g3 then 2 else ρ2 q) b = 3:=fun b hb2=>HW4.out.nums.2 b hb2;have hl1:(KN ++ [Value.int .i64 (l:Int)]).length = N + 1:=by rw [List.length_append,uz.out];rfl
             have hW5:=HW4.out.Tz hgrow hrow hnew hR9 hl1 hown;have r5:=HW4.out.row.grow (by rw [HW4.out.Eb];omega) hgrow hrow hnew;clear q4 f4 q5;have q6:=r5.cell 4;have f6:=r5.free 4;have q2:=hW5.row.cell 1;simp only [List.getElem?_cons_zero,List.getElem?_cons_succ] at q6 q2;have hB6:=(Below.grown HB5.out hgrow N9 (fun b hb2=>(Zr.out.lt b hb2).1)).setCell (p:=⟨hb,4,none⟩) HW.out.low (.slice (some ⟨g5,0,none⟩) (N + 1) cap5);have hG6:=(HG4.out.grow (show 10 + i ≠ 3 by omega) hgrow hrow hnew).set (a:=⟨hb,4,none⟩) (by rw [hW5.Eb];omega) (.slice (some ⟨g5,0,none⟩) (N + 1) cap5);have HG6:=hid hG6;clear hG6;have HW5:=hid hW5;have HB6:=hid hB6;clear hown hgrow hnew Acp hrow hl1 hW5 r5 hB6 V5 vg))
       all_goals
        have hS:=HW5.out.settle (i:=i) (x:=(.slice ag p cg,l,p)) (by omega) (fun t _ hti=>by
         show (if t < i then 9 else 10 + t) ≠ 10 + i
         split <;> omega) (Or.inl HG6.out)
        have hS2:=hS.congr (c':=fun t=>Fj (f + t) (len t)) (R':=fun t=>if t < i + 1 then 9 else 10 + t) (fun t _=>rfl) (fun t _=>by
         show (if (if t < i then 9 else 10 + t) = 10 + i then 9 else (if t < i then 9 else 10 + t)) = if t < i + 1 then 9 else 10 + t
         by_cases h1:t < i
         ·rw [if_pos h1,if_neg (by omega),if_pos (by omega)]
         ·rw [if_neg h1]
          by_cases h2:t = i
          ·subst h2;rw [if_pos rfl,if_pos (by omega)]
          ·rw [if_neg (by omega),if_neg (by omega)])
        have e1:KV ++ [Value.slice ag p cg] = (K' ++ [(Value.slice ag p cg,l,p)]).map (·.1):=by rw [List.map_append,<- HKV.out];rfl
        have e2:KN ++ [Value.int .i64 (l:Int)] = (K' ++ [(Value.slice ag p cg,l,p)]).map fun (x:Value × Nat × Nat)=>Value.int .i64 (x.2.1:Int):=by rw [List.map_append,<- Ajp.out];rfl
        rw [e1,e2] at hS2;have HS2:=hid hS2;have hlen2:(K' ++ [(Value.slice ag p cg,l,p)]).length = f + (i + 1):=by rw [List.length_append,HKN.out];rfl
        have hbd2:∀ x ∈ K' ++ [(Value.slice ag p cg,l,p)],x.2.1 <= 1000000/\x.2.2 <= 1000000000000:=by
         intro x hx
         rcases List.mem_append.1 hx with hx | hx
         ·exact HKB.out x hx
         ·obtain rfl:x = (Value.slice ag p cg,l,p):=by simpa using hx
          exact ⟨by show l <= _;have:=HL.out;omega,by show p <= _;omega⟩
        clear hS hS2 e1 e2;go_wp2
        go_roundw
        case rel=>exact ⟨i + 1,_,_,_,_,hlt,by go_num,HS2.out,hlen2,hbd2,HB6.out⟩
        case measure=>simp [intOf];omega
    ·obtain rfl:n = i:=by omega
     have hW2:=hW.congr (c':=fun t=>Fj (f + t) (len t)) (R':=fun _=>9) (fun t _=>rfl) (fun t ht=>if_pos ht);have HW:=hid hW2;have HB:=hid hB;have HKN:=hid hKn;have HKB:=hid hKb;clear hW hB hKn hKb q1 hW2;go_wp2;clear q2
     go_loopw [8] (fun s wr=>∃ (i:Nat) (ρ':Nat->Nat) (Ub Uc:Value) (K':List (Value × Nat × Nat)),i <= n/\s = .int .i64 i/\Bz wr base hb ρ' cnt tot vf vw Ub Uc n v (fun t=>Fj (f + t) (len t)) (fun _=>9) (K'.map (·.1)) (K'.map fun (x:Value × Nat × Nat)=>Value.int .i64 (x.2.1:Int)) K' A/\K'.length = f + n + i/\(∀ x ∈ K',x.2.1 <= 1000000/\x.2.2 <= 1000000000000)/\Below base w wr) (fun s _=>n - (intOf s).toNat)
     case atStart=>exact ⟨0,ρ',Ub,Uc,K',Nat.zero_le _,rfl,HW.out,HKN.out,HKB.out,HB.out⟩
     case round=>
      clear HW HB HKN HKB;obtain ⟨i,ρ',Ub,Uc,K',hi,rfl,hW,hKn,hKb,hB⟩:=hrel;have q2:=hW.row.cell 1;simp only [List.getElem?_cons_zero,List.getElem?_cons_succ] at q2;rw [HVF.out] at q2
      by_cases hlt:i < n
      ·have i1:(i:Int) < n:=by omega
       have i2:(0:Int) <= (i:Int):=by omega
       obtain ⟨bf,haf,_⟩:=HFC.out (by omega);subst haf;obtain ⟨l,hl⟩:∃ l,l = f + i:=⟨_,rfl⟩;have hlc:(f:Int) + (i:Int) = (l:Int):=by omega
       obtain ⟨ag,cg,Vd,_,_,_⟩:=(hW.item i hlt).open;rw [Di] at Vd
       have e1:wr.cell? ⟨bf,i,none⟩ = some (.slice ag (len i) cg):=by
        obtain ⟨a2,c2,hv2,hc2⟩:=Gi hW.fresh;rw [HVF.out] at hv2;injection hv2 with hv2 _ _;obtain ⟨b2,hb2,hcc⟩:=hc2 (by omega);rw [<- hv2] at hb2;injection hb2 with hb2;injection hb2 with hb2;rw [hb2,hcc i hlt,Vd]
       have hln:=HLB.out i;have hG:=hW.item i hlt;obtain ⟨p,hp⟩:∃ p,p = len i:=⟨_,rfl⟩;rw [<- hp] at hln Vd e1;have hG:Aq wr base ρ' 9 3 (.slice ag p cg) (Fj l p):=by rw [<- Vd,hl,hp];exact hG
       obtain ⟨N,hN⟩:∃ N,N = K'.length:=⟨_,rfl⟩;have hNb:N <= 200000:=by rw [hN,hKn];omega
       obtain ⟨KV,yx⟩:∃ KV,KV = K'.map (·.1):=⟨_,rfl⟩;obtain ⟨KN,hKN⟩:∃ KN,KN = K'.map fun (x:Value × Nat × Nat)=>Value.int .i64 (x.2.1:Int):=⟨_,rfl⟩;have V4:KV.length = N:=by rw [yx,List.length_map,hN]
       have uw:KN.length = N:=by rw [hKN,List.length_map,hN]
       rw [<- yx,<- hKN] at hW;have hbz:base <= wr.heap.size:=Nat.le_trans hW.low (Nat.le_of_lt hW.row.lt);have q4:=hW.row.cell 3;simp only [List.getElem?_cons_zero,List.getElem?_cons_succ] at q4;have hcd:Calm (wr.alloc (.cells #[.slice ag p cg] 50)) (wr.alloc (.cells #[.slice ag p cg] 50)).drew:=(Calm.refl _).drew;have Acy:=hW.alloc (.cells #[.slice ag p cg] 50);have q4a:=Acy.row.cell 3;have q2a:=Acy.row.cell 1;simp only [List.getElem?_cons_zero,List.getElem?_cons_succ] at q4a q2a;rw [HVF.out] at q2a
       have e1a:(wr.alloc (.cells #[.slice ag p cg] 50)).cell? ⟨bf,i,none⟩ = some (.slice ag p cg):=by
        rw [<- e1];exact World.cell?_of_block (Below.heap_alloc _ _ _ (World.block_lt_of_cell? wr _ e1))
       have hWa:=Acy.calm hcd;have hGa:=(hG.alloc (.cells #[.slice ag p cg] 50)).same hcd.heap;have hBa:=(hB.alloc hbz (.cells #[.slice ag p cg] 50)).drew;have hko:=hWa.kept.1;rw [V4] at hko;have hnw:∀ j u,[Value.slice ag p cg][j]? = some u->(wr.alloc (.cells #[.slice ag p cg] 50)).drew.cell? ((⟨wr.heap.size,0,none⟩:Addr).add j) = some u:=cell_one_new wr (.slice ag p cg) 50;have hon:∀ u ∈ [Value.slice ag p cg],u.oneCell' = true:=fun u hu=>by simp at hu;subst hu;rfl
       have Lp:N + 1 <= maxLen:=by unfold maxLen;omega
       have hm4:(N + 1) * 24 <= 140737488355328:=by omega
       have Ajo:(N + 1) * 8 <= 140737488355328:=by omega
       have Yz:base <= (wr.alloc (.cells #[.slice ag p cg] 50)).drew.heap.size:=by simp;omega
       have hR9:∀ t,t < n->9 <= (fun _:Nat=>9) t:=fun t _=>Nat.le_refl 9;obtain ⟨i1',hi1,hy0,hy1,hy2⟩:=info_parts Y2;obtain ⟨i3,hi3,hx0,hx1,hx2⟩:=info_parts Oh;have HW:=hid hWa;have HB:=hid hBa;have HG:=hid hGa;have HKO:=hid hko;have HP:=hid hp;have HL:=hid hl;have HNN:=hid hN;have HKV:=hid yx;have Ajp:=hid hKN;have Ajq:=hid V4;have uz:=hid uw;have Axm:=hid hKn;have HKB:=hid hKb;clear hW hB hG Acy hWa hGa hBa hko hp hl hN yx hKN V4 uw hbz hcd hKn hKb Vd;go_wp2
       go_region_law
        (first
          | (skip
             refine step_append_lies _ rfl (.tmp 125) (.tmp 133) 49 rfl base 50 i1' (.slice none 0 0) 1 24 underlying49 hi1 hy0 hy1 hy2 rfl (by decide) Ub N KV rfl HKO.out ⟨wr.heap.size,0,none⟩ 1 1 [Value.slice ag p cg] rfl rfl hnw hon (by decide) Lp hm4 Yz _ rfl ?_;intro g3 cap3 w3 hown hgrow hnew hlt3;have hrow:∀ b,Value.ownBlock Ub = some b->ρ' b = 2:=fun b hb2=>HW.out.kept.2 b hb2;have hl1:(KV ++ [Value.slice ag p cg]).length = N + 1:=by rw [List.length_append,Ajq.out];rfl
             have hW3:=HW.out.Tv hgrow hrow hnew hR9 hl1 hown;have r3:=HW.out.row.grow (by rw [HW.out.Eb];omega) hgrow hrow hnew;have q4:=r3.cell 3;have f4:=r3.free 3;have q5:=hW3.row.cell 4;simp only [List.getElem?_cons_zero,List.getElem?_cons_succ] at q4 q5;have hB3:Below base w w3:=Below.grown HB.out hgrow Yz (fun b hb2=>(HKO.out.lt b hb2).1);have hB4:=hB3.setCell (p:=⟨hb,3,none⟩) HW.out.low (.slice (some ⟨g3,0,none⟩) (N + 1) cap3);have hG4:=((HG.out.grow (show 9 ≠ 2 by omega) hgrow hrow hnew).set (a:=⟨hb,3,none⟩) (by rw [hW3.Eb];omega) (.slice (some ⟨g3,0,none⟩) (N + 1) cap3)).alloc (.cells #[.int .i64 (l:Int)] 3);have HG4:=hid hG4;clear hG4;have hs4:(w3.setCell ⟨hb,3,none⟩ (.slice (some ⟨g3,0,none⟩) (N + 1) cap3)).heap.size = w3.heap.size:=by simp
             have V5:=cell_one_new (w3.setCell ⟨hb,3,none⟩ (.slice (some ⟨g3,0,none⟩) (N + 1) cap3)) (.int .i64 (l:Int)) 3;rw [hs4] at V5;have vg:∀ u ∈ [Value.int .i64 (l:Int)],u.oneCell' = true:=fun u hu=>by simp at hu;subst hu;rfl
             have hW4:=hW3.alloc (.cells #[.int .i64 (l:Int)] 3);have Ud:base <= w3.heap.size:=Nat.le_trans HW.out.low (Nat.le_of_lt r3.lt);have wo:=hB4.alloc (by rw [hs4];exact Ud) (.cells #[.int .i64 (l:Int)] 3);have hno:=hW4.nums.1;rw [uz.out] at hno;have N9:base <= ((w3.setCell ⟨hb,3,none⟩ (.slice (some ⟨g3,0,none⟩) (N + 1) cap3)).alloc (.cells #[.int .i64 (l:Int)] 3)).heap.size:=by simp;omega
             have HW4:=hid hW4;have HB5:=hid wo;have Zr:=hid hno;clear hown hgrow hnew hlt3 hrow hl1 hW3 r3 hB3 hB4 hs4 hW4 Ud wo hno))
       all_goals
        go_wp2_with
         (first
           | (at_builtin
              refine wpList_append_lies _ rfl (.tmp 141) (.tmp 145) 50 rfl base 3 i3 (.int .i64 0) 1 8 underlying50 hi3 hx0 hx1 hx2 rfl (by decide) Uc N KN rfl Zr.out ⟨w3.heap.size,0,none⟩ 1 1 [.int .i64 (l:Int)] rfl rfl V5 vg (by decide) Lp Ajo N9 _ rfl ?_;intro g5 cap5 w5 hown hgrow hnew Acp;have hrow:∀ b,Value.ownBlock Uc = some b->(fun q=>if q = g3 then 2 else ρ' q) b = 3:=fun b hb2=>HW4.out.nums.2 b hb2;have hl1:(KN ++ [Value.int .i64 (l:Int)]).length = N + 1:=by rw [List.length_append,uz.out];rfl
              have hW5:=HW4.out.Tz hgrow hrow hnew hR9 hl1 hown;have r5:=HW4.out.row.grow (by rw [HW4.out.Eb];omega) hgrow hrow hnew;clear q4 f4 q5;have q6:=r5.cell 4;have f6:=r5.free 4;have q2:=hW5.row.cell 1;simp only [List.getElem?_cons_zero,List.getElem?_cons_succ] at q6 q2;have hB6:=(Below.grown HB5.out hgrow N9 (fun b hb2=>(Zr.out.lt b hb2).1)).setCell (p:=⟨hb,4,none⟩) HW.out.low (.slice (some ⟨g5,0,none⟩) (N + 1) cap5);have hG6:=(HG4.out.grow (show 9 ≠ 3 by omega) hgrow hrow hnew).set (a:=⟨hb,4,none⟩) (by rw [hW5.Eb];omega) (.slice (some ⟨g5,0,none⟩) (N + 1) cap5);have HG6:=hid hG6;clear hG6;have HW5:=hid hW5;have HB6:=hid hB6;clear hown hgrow hnew Acp hrow hl1 hW5 r5 hB6 V5 vg))
       all_goals
        have hS:=HW5.out.settle (i:=0) (x:=(.slice ag p cg,l,p)) (by omega) (fun t _ _=>by show (9:Nat) ≠ 10 + 0;decide) (Or.inr HG6.out);have hS2:=hS.congr (c':=fun t=>Fj (f + t) (len t)) (R':=fun _=>9) (fun t _=>rfl) (fun t _=>rfl);have e1:KV ++ [Value.slice ag p cg] = (K' ++ [(Value.slice ag p cg,l,p)]).map (·.1):=by rw [List.map_append,<- HKV.out];rfl
        have e2:KN ++ [Value.int .i64 (l:Int)] = (K' ++ [(Value.slice ag p cg,l,p)]).map fun (x:Value × Nat × Nat)=>Value.int .i64 (x.2.1:Int):=by rw [List.map_append,<- Ajp.out];rfl
        rw [e1,e2] at hS2;have HS2:=hid hS2;have hlen2:(K' ++ [(Value.slice ag p cg,l,p)]).length = f + n + (i + 1):=by rw [List.length_append,Axm.out];rfl
        have hbd2:∀ x ∈ K' ++ [(Value.slice ag p cg,l,p)],x.2.1 <= 1000000/\x.2.2 <= 1000000000000:=by
         intro x hx
         rcases List.mem_append.1 hx with hx | hx
         ·exact HKB.out x hx
         ·obtain rfl:x = (Value.slice ag p cg,l,p):=by simpa using hx
          exact ⟨by show l <= _;have:=HL.out;omega,by show p <= _;omega⟩
        clear hS hS2 e1 e2;go_wp2
        go_roundw
        case rel=>exact ⟨i + 1,_,_,_,_,hlt,by go_num,HS2.out,hlen2,hbd2,HB6.out⟩
        case measure=>simp [intOf];omega
      ·obtain rfl:n = i:=by omega
       have r1:=hW.row;have f2:=r1.free 1;have r2:=r1.put 1 (.slice none 0 0);have q3:=r2.cell 2;have f3:=r2.free 2;simp only [List.set_cons_zero,List.set_cons_succ,List.getElem?_cons_zero,List.getElem?_cons_succ] at q3;have r3:=r2.put 2 (.slice none 0 0);simp only [List.set_cons_zero,List.set_cons_succ] at r3;have hset:∀ {r:Nat} {e:TypeId} {u:Value} {xs:List Value},r ≠ 0->Aq wr base ρ' r e u xs->Aq ((wr.setCell ⟨hb,1,none⟩ (.slice none 0 0)).setCell ⟨hb,2,none⟩ (.slice none 0 0)) base ρ' r e u xs:=fun hr ho=>(ho.set (a:=⟨hb,1,none⟩) (by show ρ' hb ≠ _;rw [hW.Eb];exact fun e=>hr e.symm) _).set (a:=⟨hb,2,none⟩) (by show ρ' hb ≠ _;rw [hW.Eb];exact fun e=>hr e.symm) _
       have hC:Core ((wr.setCell ⟨hb,1,none⟩ (.slice none 0 0)).setCell ⟨hb,2,none⟩ (.slice none 0 0)) base hb ρ' cnt tot (.slice none 0 0) (.slice none 0 0) Ub Uc [] [] K' A:=
        { row := r3, Eb := hW.Eb, low := hW.low, fresh := Aq.nil _ _ _ _ _, was := Aq.nil _ _ _ _ _, Rf := rfl, kept := hset (by omega) hW.kept, nums := hset (by omega) hW.nums,
          item:=fun i x hx=>(by cases hx),copy:=fun i v x hv hx=>(by cases hx),done:=fun x hx=>hset (by omega) (hW.done x hx),side:=fun j y hy=>((hW.side j y hy).set (a:=⟨hb,1,none⟩) (by show ρ' hb ≠ _;rw [hW.Eb];omega) _).set (a:=⟨hb,2,none⟩) (by show ρ' hb ≠ _;rw [hW.Eb];omega) _ }
       have hBz:=(hB.setCell (p:=⟨hb,1,none⟩) hW.low (.slice none 0 0)).setCell (p:=⟨hb,2,none⟩) hW.low (.slice none 0 0);have HCC:=hid hC;have HBZ:=hid hBz;have HKN:=hid hKn;have HKB:=hid hKb;clear r1 r2 r3 hset hC hBz hW hB hKn hKb;go_wp2
       go_end0
       refine ⟨rfl,HBZ.out,ρ',Ub,Uc,K',HCC.out,?_,HKB.out⟩;rw [HKN.out,HF.out,HN.out];omega
structure Mid (w:World) (base hb:Nat) (ρ:Nat->Nat) (cnt tot:Int) (vf vw vk vn:Value) (FV WV:List Value) (F:List (Value × List Int)) (ws:List Value) (K:List (Value × Nat × Nat)) (A:Nat->Option Obj):Prop where
 row:Row w hb 52 [.int .i64 tot,vf,vw,vk,vn,.bool false]
 Eb:ρ hb = 0
 low:base <= hb
 fresh:Aq w base ρ 1 50 vf FV
 was:Aq w base ρ 4 50 vw WV
 kept:Aq w base ρ 2 50 vk (K.map (·.1))
 nums:Aq w base ρ 3 3 vn (K.map fun (x:Value × Nat × Nat)=>Value.int .i64 (x.2.1:Int))
 item:∀ (i:Nat) (x:Value × List Int),F[i]? = some x->Aq w base ρ (10 + i) 3 x.1 (x.2.map (Value.int .i64))/\Xr x.2
 copy:∀ (i:Nat) (v:Value) (x:Value × List Int),ws[i]? = some v->F[i]? = some x->Aq w base ρ 9 3 v (x.2.map (Value.int .i64))
 done:∀ x ∈ K,Aq w base ρ 9 3 x.1 (Fj x.2.1 x.2.2)
 side:∀ (j:Nat) (y:Obj),A j = some y->G7 w ρ (1000 + j) j y
section
variable {w w':World} {base hb:Nat} {ρ ρ':Nat->Nat} {cnt tot:Int} {vf vw vk vn:Value} {FV WV:List Value} {F:List (Value × List Int)} {ws:List Value} {K:List (Value × Nat × Nat)} {A:Nat->Option Obj}
theorem Mid.move (h:Mid w base hb ρ cnt tot vf vw vk vn FV WV F ws K A) (hf:∀ q,q < w.heap.size->w'.heap[q]? = w.heap[q]?/\ρ' q = ρ q):Mid w' base hb ρ' cnt tot vf vw vk vn FV WV F ws K A:=by
 have hm:∀ {r:Nat} {e:TypeId} {u:Value} {xs:List Value},Aq w base ρ r e u xs->Aq w' base ρ' r e u xs:=fun ho=>ho.move fun q hq hr=>⟨(hf q hq).1,(hf q hq).2.trans hr⟩;refine ⟨?_,?_,h.low,hm h.fresh,hm h.was,hm h.kept,hm h.nums,fun i x hx=>⟨hm (h.item i x hx).1,(h.item i x hx).2⟩,fun i v x hv hx=>hm (h.copy i v x hv hx),fun x hx=>hm (h.done x hx),fun j y hy=>(h.side j y hy).move fun q hq hr=>⟨(hf q hq).1,(hf q hq).2.trans hr⟩⟩
 ·have:=h.row;unfold Row at this ⊢;rw [(hf hb h.row.lt).1];exact this
 ·rw [(hf hb h.row.lt).2];exact h.Eb
theorem Mid.calm (h:Mid w base hb ρ cnt tot vf vw vk vn FV WV F ws K A) (hc:Calm w w'):Mid w' base hb ρ cnt tot vf vw vk vn FV WV F ws K A:=h.move fun q _=>⟨by rw [hc.heap],rfl⟩
theorem Mid.alloc (h:Mid w base hb ρ cnt tot vf vw vk vn FV WV F ws K A) (o:Obj):Mid (w.alloc o) base hb ρ cnt tot vf vw vk vn FV WV F ws K A:=h.move fun q hq=>⟨Below.heap_alloc _ _ _ hq,rfl⟩
theorem Mid.news (h:Mid w base hb ρ cnt tot vf vw vk vn FV WV F ws K A) (hB:Below w.heap.size w w'):Mid w' base hb (fun q=>if w.heap.size <= q then 9 else ρ q) cnt tot vf vw vk vn FV WV F ws K A:=
 h.move fun q hq=>⟨hB.block q hq,by show (if w.heap.size <= q then 9 else ρ q) = ρ q;rw [if_neg (by omega)]⟩
theorem Mid.total (h:Mid w base hb ρ cnt tot vf vw vk vn FV WV F ws K A) (c':Int):Mid (w.setCell ⟨hb,0,none⟩ (.int .i64 c')) base hb ρ cnt c' vf vw vk vn FV WV F ws K A:=by
 have hm:∀ {r:Nat} {e:TypeId} {u:Value} {xs:List Value},r ≠ 0->Aq w base ρ r e u xs->Aq (w.setCell ⟨hb,0,none⟩ (.int .i64 c')) base ρ r e u xs:=fun hr ho=>ho.set (a:=⟨hb,0,none⟩) (by show ρ hb ≠ _;rw [h.Eb];exact fun e=>hr e.symm) _;exact ⟨h.row.put 0 _,h.Eb,h.low,hm (by omega) h.fresh,hm (by omega) h.was,hm (by omega) h.kept,hm (by omega) h.nums,fun i x hx=>⟨hm (by omega) (h.item i x hx).1,(h.item i x hx).2⟩,fun i v x hv hx=>hm (by omega) (h.copy i v x hv hx),fun x hx=>hm (by omega) (h.done x hx),fun j y hy=>(h.side j y hy).set (a:=⟨hb,0,none⟩) (by show ρ hb ≠ _;rw [h.Eb];omega) _⟩
theorem Mid.Y0 {row:Option Nat} {g cap N:Nat} {FV':List Value} (h:Mid w base hb ρ cnt tot vf vw vk vn FV WV F ws K A) (hg:w.grownBy w' row) (hrow:∀ b,row = some b->ρ b = 1) (hnew:row = some g\/g = w.heap.size)
 (hN:FV'.length = N) (hk:w'.ownsRow base 50 1 (.slice (some ⟨g,0,none⟩) N cap) N FV') :
 Mid (w'.setCell ⟨hb,1,none⟩ (.slice (some ⟨g,0,none⟩) N cap)) base hb (fun q=>if q = g then 1 else ρ q) cnt tot (.slice (some ⟨g,0,none⟩) N cap) vw vk vn FV' WV F ws K A:=by
 have hr0:(fun q=>if q = g then 1 else ρ q) hb = 0:=((Gj hg hrow hnew hb h.row.lt (by rw [h.Eb];omega)).2).trans h.Eb
 have hm:∀ {r:Nat} {e:TypeId} {u:Value} {xs:List Value},r ≠ 0->r ≠ 1->Aq w base ρ r e u xs->Aq (w'.setCell ⟨hb,1,none⟩ (.slice (some ⟨g,0,none⟩) N cap)) base (fun q=>if q = g then 1 else ρ q) r e u xs:=fun hr h1 ho=>
  (ho.grow h1 hg hrow hnew).set (a:=⟨hb,1,none⟩) (fun e=>hr (by rw [<- e];exact hr0)) _
 refine ⟨(h.row.grow (by rw [h.Eb];omega) hg hrow hnew).put 1 _,hr0,h.low,?_,hm (by omega) (by omega) h.was,hm (by omega) (by omega) h.kept,hm (by omega) (by omega) h.nums,fun i x hx=>⟨hm (by omega) (by omega) (h.item i x hx).1,(h.item i x hx).2⟩,fun i v x hv hx=>hm (by omega) (by omega) (h.copy i v x hv hx),fun x hx=>hm (by omega) (by omega) (h.done x hx),fun j y hy=>((h.side j y hy).grow (by omega) hg hrow hnew).set (a:=⟨hb,1,none⟩) (fun e=>by have:=hr0.symm.trans e;omega) _⟩;exact Aq.set ⟨by rw [hN];exact hk,fun b hb2=>by cases hb2;show (if g = g then 1 else ρ g) = 1;rw [if_pos rfl]⟩ (a:=⟨hb,1,none⟩) (fun e=>by have:(0:Nat) = 1:=hr0.symm.trans e;omega) _
theorem Mid.Acz {row:Option Nat} {g cap N:Nat} {WV':List Value} (h:Mid w base hb ρ cnt tot vf vw vk vn FV WV F ws K A) (hg:w.grownBy w' row) (hrow:∀ b,row = some b->ρ b = 4) (hnew:row = some g\/g = w.heap.size)
 (hN:WV'.length = N) (hk:w'.ownsRow base 50 1 (.slice (some ⟨g,0,none⟩) N cap) N WV') :
 Mid (w'.setCell ⟨hb,2,none⟩ (.slice (some ⟨g,0,none⟩) N cap)) base hb (fun q=>if q = g then 4 else ρ q) cnt tot vf (.slice (some ⟨g,0,none⟩) N cap) vk vn FV WV' F ws K A:=by
 have hr0:(fun q=>if q = g then 4 else ρ q) hb = 0:=((Gj hg hrow hnew hb h.row.lt (by rw [h.Eb];omega)).2).trans h.Eb
 have hm:∀ {r:Nat} {e:TypeId} {u:Value} {xs:List Value},r ≠ 0->r ≠ 4->Aq w base ρ r e u xs->Aq (w'.setCell ⟨hb,2,none⟩ (.slice (some ⟨g,0,none⟩) N cap)) base (fun q=>if q = g then 4 else ρ q) r e u xs:=fun hr h1 ho=>
  (ho.grow h1 hg hrow hnew).set (a:=⟨hb,2,none⟩) (fun e=>hr (by rw [<- e];exact hr0)) _
 refine ⟨(h.row.grow (by rw [h.Eb];omega) hg hrow hnew).put 2 _,hr0,h.low,hm (by omega) (by omega) h.fresh,?_,hm (by omega) (by omega) h.kept,hm (by omega) (by omega) h.nums,fun i x hx=>⟨hm (by omega) (by omega) (h.item i x hx).1,(h.item i x hx).2⟩,fun i v x hv hx=>hm (by omega) (by omega) (h.copy i v x hv hx),fun x hx=>hm (by omega) (by omega) (h.done x hx),fun j y hy=>((h.side j y hy).grow (by omega) hg hrow hnew).set (a:=⟨hb,2,none⟩) (fun e=>by have:=hr0.symm.trans e;omega) _⟩;exact Aq.set ⟨by rw [hN];exact hk,fun b hb2=>by cases hb2;show (if g = g then 4 else ρ g) = 4;rw [if_pos rfl]⟩ (a:=⟨hb,2,none⟩) (fun e=>by have:(0:Nat) = 4:=hr0.symm.trans e;omega) _
theorem Mid.core {v v':Value} {xs:List Int} (h:Mid w base hb ρ cnt tot vf vw vk vn (F.map (·.1) ++ [v]) (ws ++ [v']) F ws K A) (hl:ws.length = F.length) (hx:Xr xs) (hv:Aq w base ρ (10 + F.length) 3 v (xs.map (Value.int .i64)))
 (hv':Aq w base ρ 9 3 v' (xs.map (Value.int .i64))):Core w base hb ρ cnt tot vf vw vk vn (F ++ [(v,xs)]) (ws ++ [v']) K A where
 row:=h.row
 Eb:=h.Eb
 low:=h.low
 fresh:=by rw [List.map_append];exact h.fresh
 was:=h.was
 Rf:=by rw [List.length_append,List.length_append,hl];rfl
 kept:=h.kept
 nums:=h.nums
 item:=fun i x hxi=>by
  by_cases hi:i < F.length
  ·rw [List.getElem?_append_left hi] at hxi;exact h.item i x hxi
  ·rw [List.getElem?_append_right (by omega)] at hxi
   have hi2:i = F.length:=by
    rcases Nat.lt_or_ge F.length i with h2 | h2
    ·rw [List.getElem?_eq_none (by simp;omega)] at hxi;cases hxi
    ·omega
   subst hi2;simp at hxi;subst hxi;exact ⟨hv,hx⟩
 copy:=fun i u x hu hxi=>by
  by_cases hi:i < F.length
  ·rw [List.getElem?_append_left hi] at hxi;rw [List.getElem?_append_left (by omega)] at hu;exact h.copy i u x hu hxi
  ·rw [List.getElem?_append_right (by omega)] at hxi hu
   have hi2:i = F.length:=by
    rcases Nat.lt_or_ge F.length i with h2 | h2
    ·rw [List.getElem?_eq_none (by simp;omega)] at hxi;cases hxi
    ·omega
   subst hi2;rw [hl] at hu;simp at hxi hu;subst hxi hu;exact hv'
 done:=h.done
 side:=h.side
theorem Core.mid (h:Core w base hb ρ cnt tot vf vw vk vn F ws K A):Mid w base hb ρ cnt tot vf vw vk vn (F.map (·.1)) ws F ws K A:=⟨h.row,h.Eb,h.low,h.fresh,h.was,h.kept,h.nums,h.item,h.copy,h.done,h.side⟩
end
def Good (w:World) (base hb:Nat) (cnt tot:Int) (k:Nat) (A:Nat->Option Obj):Prop:=
 ∃ ρ vf vw vk vn F ws K,Core w base hb ρ cnt tot vf vw vk vn F ws K A/\F.length <= 2/\(∀ x ∈ F,x.2.length <= 1000000000)/\K.length <= k/\(∀ x ∈ K,x.2.1 <= 1000000/\x.2.2 <= 1000000000000)
theorem ownsRow_base {w:World} {base base':Nat} {e:TypeId} {v:Value} {n:Nat} {xs:List Value} (h:w.ownsRow base' e 1 v n xs) (hb:base <= base'):w.ownsRow base e 1 v n xs:=by
 obtain ⟨hl,hz | ⟨g,cap,cur,rfl,hb',rest⟩⟩:=h
 ·exact ⟨hl,Or.inl hz⟩
 ·exact ⟨hl,Or.inr ⟨g,cap,cur,rfl,by omega,rest⟩⟩
theorem wu {w:World} {base:Nat} {e:TypeId} {v:Value} {n:Nat} {xs:List Value} (h:w.ownsRow base e 1 v n xs):∃ a c,v = .slice a n c:=by
 rcases h.2 with ⟨rfl,h0⟩ | ⟨g,c,cur,rfl,_⟩
 ·exact ⟨none,0,by rw [h0]⟩
 ·exact ⟨_,_,rfl⟩
theorem Af3 (v:Value) (xs:List Int) (w:World) (base:Nat) (h:w.ownsRow base 3 1 v xs.length (xs.map (Value.int .i64))) (hl:xs.length <= 1000000000) :
 Calls prog 47 #[v] w fun e w'=>∃ v',e = .returned v'/\w'.ownsRow w.heap.size 3 1 v' xs.length (xs.map (Value.int .i64))/\Below w.heap.size w w':=by
 obtain ⟨i0,hi,hz0,hz1,hz2⟩:=info_parts Oh;have h0:=h;obtain ⟨hl1,⟨rfl,hn⟩ | ⟨g,cap,cur,rfl,hb,hg,hnc,hcm,hcs,ht⟩⟩:=h
 ·have hx:xs = []:=List.length_eq_zero_iff.1 hn;subst hx;go_enter func47,ntmps47;go_wp2_with (at_builtin;refine wpList_append_own_none rfl (.const (.slice none 0 0)) (.tmp 3) 50 rfl w.heap.size 3 i0 1 underlying50 hi (.slice none 0 0) 0 [] rfl (World.ownsRow_nil _ _ _ _) rfl ?_);go_ret
  exact ⟨_,rfl,World.ownsRow_nil _ _ _ _,Below.refl _ _⟩
 ·have hnews : ∀ (j : Nat) (u : Value), (xs.map (Value.int .i64))[j]? = some u → w.cell? ((⟨g, 0, none⟩ : Addr).add j) = some u := by
   intro j u hu;have hplain:(⟨g,0,none⟩:Addr).add j = ⟨g,j,none⟩:=by unfold Addr.add;split <;> simp_all
   have hj:j < xs.length:=by
    rcases Nat.lt_or_ge j xs.length with h | h
    ·exact h
    ·rw [List.getElem?_eq_none (by simpa using h)] at hu;cases hu
   rw [hplain,h0.cellAt j (by omega),hu]
  have hone:∀ u ∈ xs.map (Value.int .i64),u.oneCell' = true:=by
   intro u hu;obtain ⟨x,_,rfl⟩:=List.mem_map.1 hu;rfl
  obtain ⟨m,hm⟩:∃ m,m = xs.length:=⟨_,rfl⟩;have hnl:(xs.map (Value.int .i64)).length = m * 1:=by rw [List.length_map,hm,Nat.mul_one]
  rw [<- hm] at hl ⊢;obtain ⟨zs,hzs⟩:∃ zs,zs = xs.map (Value.int .i64):=⟨_,rfl⟩;rw [<- hzs] at hnews hone hnl ⊢;clear hl1 hnc hcm hcs ht h0 hg hb hm hzs;go_enter func47,ntmps47;go_wp2_with (at_builtin;refine wpList_append_own _ rfl (.const (.slice none 0 0)) (.tmp 3) 50 rfl w.heap.size 3 i0 (.int .i64 0) 1 8 underlying50 hi hz0 hz1 hz2 rfl (by decide) (.slice none 0 0) 0 [] rfl (World.ownsRow_nil _ _ _ _) ⟨g,0,none⟩ m _ zs rfl hnl hnews hone (by unfold maxLen;omega) (by omega) nl ?_;intro v1 w1 hown hgrow _);have hB:=Below.grown (Below.refl _ _) hgrow nl (fun k hk=>by cases hk);rw [Nat.zero_add,List.nil_append] at hown;go_wp2;go_ret
  exact ⟨_,rfl,hown,hB⟩
theorem Ac0 (base hb:Nat) (ρ:Nat->Nat) (cnt tot:Int) (vf vw vk vn:Value) (F:List (Value × List Int)) (ws:List Value) (K:List (Value × Nat × Nat)) (v:Value) (xs:List Int) (kk:Nat) {A:Nat->Option Obj} (w:World)
 (hF:F.length <= 2) (hFl:∀ x ∈ F,x.2.length <= 1000000000) (hK:K.length <= kk) (hkk:kk <= 90000) (hKl:∀ x ∈ K,x.2.1 <= 1000000/\x.2.2 <= 1000000000000) (hcnt:0 <= cnt/\cnt <= 1000000000) (htot:0 <= tot/\tot <= 500000000000)
 (hx:Xr xs) (hxl:xs.length <= 1000000000) (h:Core w base hb ρ cnt tot vf vw vk vn F ws K A) (hv:Aq w base ρ (10 + F.length) 3 v (xs.map (Value.int .i64))) :
 Calls prog 20 #[.pointer (some ⟨hb,0,none⟩),v] w fun e w'=>e = .returned (.bool true)/\Below base w w'/\Good w' base hb cnt (tot + xs.length) (kk + 6) A:=by
 obtain ⟨av,cv,hvf,_,_,_⟩:=hv.open;rw [List.length_map] at hvf;obtain ⟨m,hm⟩:∃ m,m = xs.length:=⟨_,rfl⟩;rw [<- hm] at hvf hxl ⊢;subst hvf;obtain ⟨n,hn⟩:∃ n,n = F.length:=⟨_,rfl⟩;rw [<- hn] at hv hF;obtain ⟨c1,hc1⟩:∃ c1,c1 = cnt:=⟨_,rfl⟩;obtain ⟨t1,ht1⟩:∃ t1,tot + (m:Int) = t1:=⟨_,rfl⟩;rw [ht1];subst hc1;have hwl:=h.Rf;have hM:=h.mid.total t1;have hbz:base <= w.heap.size:=Nat.le_trans h.low (Nat.le_of_lt h.row.lt);have hrA:=h.row;have q1:=hrA.cell 0;have f1:=hrA.free 0;have hrB:=hrA.put 0 (.int .i64 t1);have q2:=hrB.cell 1;simp only [List.set_cons_zero,List.getElem?_cons_zero,List.getElem?_cons_succ] at q1 q2;obtain ⟨W2,hW2⟩:∃ W2,W2 = w.setCell ⟨hb,0,none⟩ (.int .i64 t1):=⟨_,rfl⟩;have hs2:W2.heap.size = w.heap.size:=by rw [hW2];simp
 have hset:∀ (i:Nat) (x:Value) {w0:World} {u:Value} {zs:List Value},Aq w0 base ρ (10 + n) 3 u zs->Aq (w0.setCell ⟨hb,i,none⟩ x) base ρ (10 + n) 3 u zs:=fun i x {w0 u zs} ho=>ho.set (a:=⟨hb,i,none⟩) (by show ρ hb ≠ _;rw [h.Eb];omega) x;have hv2:Aq W2 base ρ (10 + n) 3 (.slice av m cv) (xs.map (Value.int .i64)):=by rw [hW2];exact hset 0 _ hv
 have hB2:Below base w W2:=by rw [hW2];exact (Below.refl base w).setCell h.low _
 rw [<- hW2] at hM;have hMa:=hM.alloc (.cells #[.slice av m cv] 50);have hva:=hv2.alloc (.cells #[.slice av m cv] 50);have hBa:=hB2.alloc (by rw [hs2];exact hbz) (.cells #[.slice av m cv] 50);have hko:=hMa.fresh.1;rw [List.length_map,<- hn] at hko;have hnw:=cell_one_new W2 (.slice av m cv) 50;rw [hs2] at hnw;have hon:∀ u ∈ [Value.slice av m cv],u.oneCell' = true:=fun u hu=>by simp at hu;subst hu;rfl
 have Lp:n + 1 <= maxLen:=by unfold maxLen;omega
 have hm4:(n + 1) * 24 <= 140737488355328:=by omega
 have Yz:base <= (W2.alloc (.cells #[.slice av m cv] 50)).heap.size:=by simp;omega
 obtain ⟨i1,hi1,hy0,hy1,hy2⟩:=info_parts Y2;have HM:=hid hMa;have HV:=hid hva;have HB:=hid hBa;have HKO:=hid hko;have HN:=hid hn;have HF:=hid hF;have HFL:=hid hFl;have HK:=hid hK;have HKK:=hid hkk;have HKL:=hid hKl;have HT:=hid htot;have HT1:=hid ht1;have HX:=hid hx;have J7:=hid hxl;have HMM:=hid hm;have HWL:=hid hwl;clear hMa hva hBa hko hn hF hFl hK hkk hKl hx hm hwl hM hv2 hB2 hset hrA hrB hv h;subst hW2;go_enter func20,ntmps20
 go_wp2_with
  (at_builtin
   refine wpList_append_lies _ rfl (.tmp 19) (.tmp 21) 49 rfl base 50 i1 (.slice none 0 0) 1 24 underlying49 hi1 hy0 hy1 hy2 rfl (by decide) vf n _ rfl HKO.out ⟨w.heap.size,0,none⟩ 1 1 [Value.slice av m cv] rfl rfl hnw hon (by decide) Lp hm4 Yz _ rfl ?_;intro g3 cap3 w3 hown hgrow hnew hlt3;have hrow:∀ b,Value.ownBlock vf = some b->ρ b = 1:=fun b hb2=>HM.out.fresh.2 b hb2;have hl1:(F.map (·.1) ++ [Value.slice av m cv]).length = n + 1:=by rw [List.length_append,List.length_map,<- HN.out];rfl
   have hM3:=HM.out.Y0 hgrow hrow hnew hl1 hown;have hv3:=(HV.out.grow (show 10 + n ≠ 1 by omega) hgrow hrow hnew).set (a:=⟨hb,1,none⟩) (by rw [hM3.Eb];omega) (.slice (some ⟨g3,0,none⟩) (n + 1) cap3);have r3:=HM.out.row.grow (by rw [HM.out.Eb];omega) hgrow hrow hnew;clear q1 f1 q2;have q2:=r3.cell 1;have f2:=r3.free 1;simp only [List.getElem?_cons_zero,List.getElem?_cons_succ] at q2;have hB3:=(Below.grown HB.out hgrow Yz (fun b hb2=>(HKO.out.lt b hb2).1)).setCell (p:=⟨hb,1,none⟩) HM.out.low (.slice (some ⟨g3,0,none⟩) (n + 1) cap3);have Ru:=hid hM3;have HV3:=hid hv3;have HB3:=hid hB3;clear hown hgrow hnew hlt3 hrow hl1 hM3 hv3 r3 hB3 hnw)
 clear q2 f2;generalize (w3.setCell ⟨hb,1,none⟩ (.slice (some ⟨g3,0,none⟩) (n + 1) cap3)) = w4 at Ru HV3 HB3 ⊢;generalize (fun q=>if q = g3 then 1 else ρ q) = ρ4 at Ru HV3;have hcd:Calm w4 w4.drew:=(Calm.refl w4).drew;have hM4:=Ru.out.calm hcd;have hv4:=HV3.out.same hcd.heap;have hB4:=HB3.out.drew;have q3:=Ru.out.row.cell 2;simp only [List.getElem?_cons_zero,List.getElem?_cons_succ] at q3;have hh4:w4.drew.ownsRow base 3 1 (.slice av m cv) xs.length (xs.map (Value.int .i64)):=by have:=hv4.1;rwa [List.length_map] at this
 have Ud:base <= w4.drew.heap.size:=Nat.le_trans hM4.low (Nat.le_of_lt hM4.row.lt);have HM4:=hid hM4;have HV4:=hid hv4;have HB4:=hid hB4;have HH4:=hid hh4;have Ajr:=hid Ud;clear hcd hM4 hv4 hB4 hh4 Ud HM HV HB HKO Yz
 go_region_law
  (first
    | (refine step_append_lies _ rfl (.tmp 29) (.tmp 32) 49 rfl base 50 i1 (.slice none 0 0) 1 24 underlying49 hi1 hy0 hy1 hy2 rfl (by decide) vw n _ rfl Aso.out ⟨w5.heap.size, 0, none⟩ 1 1 [Value.slice a5 m c5] rfl rfl Axn Axo (by decide) Lp hm4 N9 _ rfl ?_
       intro g6 cap6 w6 hown hgrow hnew An3;have hrow:∀ b,Value.ownBlock vw = some b->(fun q=>if w4.drew.heap.size <= q then 9 else ρ4 q) b = 4:=fun b hb2=>Xi.out.was.2 b hb2;have hl1:(ws ++ [Value.slice a5 m c5]).length = n + 1:=by rw [List.length_append,HWL.out,<- HN.out];rfl
       have hM6:=Xi.out.Acz hgrow hrow hnew hl1 hown;have hv6:=(HV5.out.grow (show 10 + n ≠ 4 by omega) hgrow hrow hnew).set (a:=⟨hb,2,none⟩) (by rw [hM6.Eb];omega) (.slice (some ⟨g6,0,none⟩) (n + 1) cap6);have hc6:=(HC5.out.grow (show 9 ≠ 4 by omega) hgrow hrow hnew).set (a:=⟨hb,2,none⟩) (by rw [hM6.Eb];omega) (.slice (some ⟨g6,0,none⟩) (n + 1) cap6);have r6:=Xi.out.row.grow (by rw [Xi.out.Eb];omega) hgrow hrow hnew;clear q3a q3b;have q3:=r6.cell 2;have f3:=r6.free 2;have q2:=hM6.row.cell 1;simp only [List.getElem?_cons_zero,List.getElem?_cons_succ] at q3 q2;have hB6:=(Below.grown HB5.out hgrow N9 (fun b hb2=>(Aso.out.lt b hb2).1)).setCell (p:=⟨hb,2,none⟩) Xi.out.low (.slice (some ⟨g6,0,none⟩) (n + 1) cap6);have hC6:=hM6.core (by rw [HWL.out]) HX.out (by rw [<- HN.out];exact hv6) hc6;have HC6:=hid hC6;have HB6:=hid hB6;clear hown hgrow hnew An3 hrow hl1 hM6 hv6 hc6 r6 hB6 hC6)
    | (go_simp
       go_at_call 47;refine (Af3 _ xs _ base HH4.out (by rw [<- HMM.out];have:=J7.out;omega)).mono ?_;rintro e w5 ⟨v',rfl,hown5,wo⟩;obtain ⟨a5,c5,rfl⟩:=wu hown5;rw [<- HMM.out] at hown5
       try rw [<- HMM.out]
       have Ajs:=HM4.out.news wo
       have Asp:Aq w5 base (fun q=>if w4.drew.heap.size <= q then 9 else ρ4 q) (10 + n) 3 (.slice av m cv) (xs.map (Value.int .i64)):=HV4.out.move fun q hq hr=>⟨wo.block q hq,by
        show (if w4.drew.heap.size <= q then 9 else ρ4 q) = 10 + n;rw [if_neg (by omega)];exact hr⟩
       have Asq:Aq w5 base (fun q=>if w4.drew.heap.size <= q then 9 else ρ4 q) 9 3 (.slice a5 m c5) (xs.map (Value.int .i64)):=⟨by
        rw [List.length_map,<- HMM.out];exact ownsRow_base hown5 Ajr.out,fun b hb2=>by
        have:=(hown5.lt b hb2).1;show (if w4.drew.heap.size <= b then 9 else ρ4 b) = 9;rw [if_pos this]⟩
       have hs5:=wo.size;have Asr:base <= w5.heap.size:=Nat.le_trans Ajr.out hs5;have q3a:=Ajs.row.cell 2;have hM5:=Ajs.alloc (.cells #[.slice a5 m c5] 50);have q3b:=hM5.row.cell 2;simp only [List.getElem?_cons_zero,List.getElem?_cons_succ] at q3a q3b;have hv5:=Asp.alloc (.cells #[.slice a5 m c5] 50);have hc5:=Asq.alloc (.cells #[.slice a5 m c5] 50);have Ajt:=hM5.was.1;rw [HWL.out,<- HN.out] at Ajt;have Axn:=cell_one_new w5 (.slice a5 m c5) 50;have Axo:∀ u ∈ [Value.slice a5 m c5],u.oneCell' = true:=fun u hu=>by simp at hu;subst hu;rfl
       have N9:base <= (w5.alloc (.cells #[.slice a5 m c5] 50)).heap.size:=by simp;omega
       have Ass:=(HB4.out.trans (wo.mono Ajr.out)).alloc Asr (.cells #[.slice a5 m c5] 50);have Xi:=hid hM5;have HV5:=hid hv5;have HC5:=hid hc5;have Aso:=hid Ajt;have HB5:=hid Ass;clear Ajs Asp Asq hM5 hv5 hc5 Ajt Ass hs5 Asr hown5 wo))
 all_goals
  generalize (w6.setCell ⟨hb,2,none⟩ (.slice (some ⟨g6,0,none⟩) (n + 1) cap6)) = w7 at HC6 HB6 q2 ⊢
  have hFb:∀ x ∈ F ++ [(Value.slice av m cv,xs)],x.2.length <= 1000000000:=by
   intro x hx
   rcases List.mem_append.1 hx with hx | hx
   ·exact HFL.out x hx
   ·obtain rfl:x = (Value.slice av m cv,xs):=by simpa using hx
    show xs.length <= _;rw [<- HMM.out];exact J7.out
  have Af2:(F ++ [(Value.slice av m cv,xs)]).length = n + 1:=by rw [List.length_append,<- HN.out];rfl
  have Asu:0 <= t1/\t1 <= 1000000000000:=by have:=HT.out;have:=HT1.out;have:=J7.out;omega
  have HFB:=hid hFb;have Ue:=hid Af2;have HTB:=hid Asu;clear hFb Af2 Asu
  by_cases h3:n = 2
  ·have i1:(3:Int) <= ((n + 1:Nat):Int):=by omega
   have i2:(3:Int) <= (n:Int) + 1:=by omega
   clear h3;go_wp2_with fail;refine (Ua base hb _ c1 t1 _ _ vk vn _ _ K _ (by rw [Ue.out];have:=HF.out;omega) HFB.out (by have:=HK.out;have:=HKK.out;omega) HTB.out HKL.out HC6.out).mono ?_;rintro e w8 ⟨rfl,hB8,ρ8,vk8,vn8,K8,hC8,hK8,xg⟩;have HC8:=hid hC8;have HB8:=hid (HB6.out.trans hB8);have HK8:=hid hK8;have Ac1:=hid xg;clear hC8 hB8 hK8 xg;go_wp2_with fail;refine (holds_of base hb ρ8 c1 t1 _ _ vk8 vn8 [] [] K8 _ (by decide) (by rw [HK8.out,Ue.out];have:=HK.out;have:=HKK.out;have:=HF.out;omega) Ac1.out HC8.out).mono ?_;rintro e w9 ⟨rfl,Hy⟩;go_wp2;go_ret
   exact ⟨rfl,HB8.out.trans (Hy.below base),ρ8,_,_,vk8,vn8,[],[],K8,HC8.out.calm Hy,by decide,fun x hx=>(by cases hx),by rw [HK8.out,Ue.out];have:=HK.out;have:=HF.out;omega,Ac1.out⟩
  ·have i1:((n + 1:Nat):Int) < 3:=by have:=HF.out;omega
   have i2:(n:Int) + 1 < 3:=by have:=HF.out;omega
   have i3:¬ ((3:Int) <= (n:Int) + 1):=by omega
   have HH3:=hid h3;clear h3;go_wp2_with fail;refine (holds_of base hb _ c1 t1 _ _ vk vn _ _ K _ (by rw [Ue.out];have:=HF.out;omega) (by have:=HK.out;have:=HKK.out;omega) HKL.out HC6.out).mono ?_;rintro e w9 ⟨rfl,Hy⟩;go_wp2;go_ret
   exact ⟨rfl,HB6.out.trans (Hy.below base),_,_,_,vk,vn,_,_,K,HC6.out.calm Hy,by rw [Ue.out];have:=HF.out;have:=HH3.out;omega,HFB.out,by have:=HK.out;omega,HKL.out⟩
section
variable {w w':World} {base hb:Nat} {ρ ρ':Nat->Nat} {cnt tot:Int} {vf vw vk vn:Value} {F:List (Value × List Int)} {ws:List Value} {K:List (Value × Nat × Nat)} {A A':Nat->Option Obj}
theorem Core.shift (h:Core w base hb ρ cnt tot vf vw vk vn F ws K A) (hF:F.length <= 2) (hf:∀ q,q < w.heap.size->ρ q < 1000->w'.heap[q]? = w.heap[q]?/\ρ' q = ρ q) (hs:∀ j y,A' j = some y->G7 w' ρ' (1000 + j) j y):Core w' base hb ρ' cnt tot vf vw vk vn F ws K A':=by
 have hm:∀ {r:Nat} {e:TypeId} {u:Value} {xs:List Value},r < 1000->Aq w base ρ r e u xs->Aq w' base ρ' r e u xs:=fun hr ho=>ho.move fun q hq hq'=>⟨(hf q hq (by omega)).1,(hf q hq (by omega)).2.trans hq'⟩
 have hlt:∀ (i:Nat) (x:Value × List Int),F[i]? = some x->i < 2:=fun i x hx=>by
  rcases Nat.lt_or_ge i F.length with h | h
  ·omega
  ·rw [List.getElem?_eq_none h] at hx;cases hx
 have hb0:=hf hb h.row.lt (by rw [h.Eb];omega)
 exact { row := hb0.1.trans h.row, Eb := hb0.2.trans h.Eb, low := h.low, fresh := hm (by omega) h.fresh, was := hm (by omega) h.was, Rf := h.Rf, kept := hm (by omega) h.kept, nums := hm (by omega) h.nums,
         item:=fun i x hx=>⟨hm (by have:=hlt i x hx;omega) (h.item i x hx).1,(h.item i x hx).2⟩,copy:=fun i v x hv hx=>hm (by omega) (h.copy i v x hv hx),done:=fun x hx=>hm (by omega) (h.done x hx),side:=hs }
end
end Go.Proofs.YtjacnhnaoenelaaGreat.Led
