import Derived.Test.YtjacnhnaoenelaaGreatQGb
import Derived.Test.YtjacnhnaoenelaaGreatQLk
set_option maxRecDepth 100000
set_option maxHeartbeats 6400000
namespace Go.Proofs.YtjacnhnaoenelaaGreat
open Lib (hid)
open Go.Proofs.Tryz
open Go.RowKit
set_option linter.unusedVariables false
def Ic (P:Nat->Nat) (v:Value) (i:Nat):Nat->Nat:=fun q=>if v.ownBlock = some q then i else P q
structure Fv (P:Nat->Nat) (i:Nat) (base hb:Nat) (cnt tot:Int) (k:Nat) (w:World):Prop where
 at':∃ ρ vf vw vk vn F ws K,Core w base hb ρ cnt tot vf vw vk vn F ws K (fun _=>none)/\F.length <= 2/\(∀ x ∈ F,x.2.length <= 1000000000)/\K.length <= k/\(∀ x ∈ K,x.2.1 <= 1000000/\x.2.2 <= 1000000000000)/\∀ q,q < w.heap.size->P q ≠ i->1000 <= ρ q
theorem Fv.work {P:Nat->Nat} {i j:Nat} (hij:i ≠ j) {base hb:Nat} {cnt tot:Int} {k:Nat} {w w':World} (h:Fv P i base hb cnt tot k w) (hW:Work P j w w') (m:Nat):Fv (grown P w.heap.size m) i base hb cnt tot k w':=by
 obtain ⟨ρ,vf,vw,vk,vn,F,ws,K,hC,h1,h2,h3,h4,h5⟩:=h.at';refine ⟨fun q=>if q < w.heap.size then ρ q else 1000,vf,vw,vk,vn,F,ws,K,hC.shift h1 (fun q hq hr=>⟨hW.keep q hq ?_,if_pos hq⟩) (fun j y hy=>nomatch hy),h1,h2,h3,h4,fun q _ hP=>?_⟩
 ·intro hPj;have:=h5 q hq (by omega);omega
 ·show 1000 <= (if q < w.heap.size then ρ q else 1000)
  by_cases hlt:q < w.heap.size
  ·rw [if_pos hlt];unfold grown at hP;rw [if_pos hlt] at hP;exact h5 q hlt hP
  ·rw [if_neg hlt];omega
theorem Fv.Ic {P:Nat->Nat} {i m:Nat} {v:Value} (hv:∀ b,v.ownBlock = some b->P b ≠ i) {base hb:Nat} {cnt tot:Int} {k:Nat} {w:World} (h:Fv P i base hb cnt tot k w):Fv (Ic P v m) i base hb cnt tot k w:=by
 obtain ⟨ρ,vf,vw,vk,vn,F,ws,K,hC,h1,h2,h3,h4,h5⟩:=h.at';refine ⟨ρ,vf,vw,vk,vn,F,ws,K,hC,h1,h2,h3,h4,fun q hq hP=>h5 q hq fun e=>?_⟩;unfold Go.Proofs.YtjacnhnaoenelaaGreat.Ic at hP
 by_cases hvq:v.ownBlock = some q
 ·exact hv q hvq e
 ·rw [if_neg hvq] at hP;exact hP e
theorem Fv.begin {P:Nat->Nat} {i:Nat} (w:World) (base hb:Nat) (hlow:base <= hb) (h:Row w hb 54 [.int .i64 0,.int .i64 0,.slice none 0 0,.slice none 0 0,.slice none 0 0,.slice none 0 0,.bool false]) (hP:P hb = i):Fv P i base hb 0 0 0 w:=
 ⟨fun q=>if P q = i then 0 else 1000,_,_,_,_,[],[],[],{ row:=h,Eb:=if_pos hP,low:=hlow,fresh:=Aq.nil _ _ _ _ _,was:=Aq.nil _ _ _ _ _,Rf:=rfl,kept:=Aq.nil _ _ _ _ _,nums:=Aq.nil _ _ _ _ _,item:=fun i x hx=>(by cases hx),copy:=fun i v x hv hx=>(by cases hx),done:=fun x hx=>(by cases hx),side:=fun j y hy=>nomatch hy },
  by decide,fun x hx=>(by cases hx),Nat.le_refl _,fun x hx=>(by cases hx),fun q _ hq=>by
   show 1000 <= (if P q = i then 0 else 1000);rw [if_neg hq];omega⟩
theorem Y1 {P:Nat->Nat} {i:Nat} (base hb:Nat) (cnt tot:Int) (k:Nat) (v:Value) (xs:List Int) (w:World) (h:Fv P i base hb cnt tot k w) (hk:k <= 90000) (hcnt:0 <= cnt/\cnt <= 1000000000) (htot:0 <= tot/\tot <= 500000000000)
 (hx:Ah xs) (hxl:xs.length <= 1000000000) (hv:w.ownsRow base 5 1 v xs.length (xs.map (Value.int .u8))) (hP:∀ b,v.ownBlock = some b->P b ≠ i) :
 Calls prog 19 #[.pointer (some ⟨hb,0,none⟩),v] w fun e w'=>e = .returned (.bool true)/\Fv (grown (Go.Proofs.YtjacnhnaoenelaaGreat.Ic P v i) w.heap.size i) i base hb (cnt + 1) (tot + xs.length) (k + 6) w'/\Work (Go.Proofs.YtjacnhnaoenelaaGreat.Ic P v i) i w w':=by
 obtain ⟨ρ,vf,vw,vk,vn,F,ws,K,hC,h1,h2,h3,h4,h5⟩:=h.at';obtain ⟨P',hP'⟩:∃ z,z = Go.Proofs.YtjacnhnaoenelaaGreat.Ic P v i:=⟨_,rfl⟩;have hb1:∀ b,v.ownBlock = some b->P' b = i:=fun b hb=>by rw [hP'];unfold Go.Proofs.YtjacnhnaoenelaaGreat.Ic;rw [if_pos hb]
 have hb2:∀ q,P q = i->P' q = i:=fun q hq=>by
  rw [hP'];unfold Go.Proofs.YtjacnhnaoenelaaGreat.Ic
  by_cases hvq:v.ownBlock = some q
  ·rw [if_pos hvq]
  ·rw [if_neg hvq];exact hq
 rw [<- hP']
 have hC2:=hC.shift (w':=w) (ρ':=fun q=>if P' q ≠ i then 1000 + q else if v.ownBlock = some q then 10 + F.length else ρ q) (A':=fun q=>if q < w.heap.size/\P' q ≠ i then w.heap[q]? else none) h1
  (fun q hq hr => ⟨rfl, by
    have hPi:P q = i:=by
     by_cases e:P q = i
     ·exact e
     ·have:=h5 q hq e;omega
    show (if P' q ≠ i then 1000 + q else if v.ownBlock = some q then 10 + F.length else ρ q) = ρ q;rw [if_neg (fun e=>e (hb2 q hPi)),if_neg (fun e=>hP q e hPi)]⟩)
  (fun j y hy => by
    by_cases hj:j < w.heap.size/\P' j ≠ i
    ·have hy2:(if j < w.heap.size/\P' j ≠ i then w.heap[j]? else none) = some y:=hy;rw [if_pos hj] at hy2
     exact ⟨hy2,by
      show (if P' j ≠ i then 1000 + j else if v.ownBlock = some j then 10 + F.length else ρ j) = 1000 + j;rw [if_pos hj.2]⟩
    ·have hy2:(if j < w.heap.size/\P' j ≠ i then w.heap[j]? else none) = some y:=hy;rw [if_neg hj] at hy2
     cases hy2)
 refine (Ac0 base hb _ cnt tot vf vw vk vn F ws K v xs k w h1 h2 h3 hk h4 hcnt htot hx hxl hC2 ⟨by rw [List.length_map];exact hv,fun b hb=>by
  show (if P' b ≠ i then 1000 + b else if v.ownBlock = some b then 10 + F.length else ρ b) = _;rw [if_neg (fun e=>e (hb1 b hb)),if_pos hb]⟩).mono ?_
 rintro e w' ⟨he,hB,ρ',vf',vw',Ub,Uc,F',ws',K',hC',g1,g2,g3,g4⟩
 have hside:∀ q,q < w.heap.size->P' q ≠ i->G7 w' ρ' (1000 + q) q (w.heap[q]?.getD (.cells #[] 0 (0,0)))/\w'.heap[q]? = w.heap[q]?:=fun q hq xq=>by
  have hs:=hC'.side q (w.heap[q]?.getD (.cells #[] 0 (0,0))) (by
   show (if q < w.heap.size/\P' q ≠ i then w.heap[q]? else none) = _;rw [if_pos ⟨hq,xq⟩,Array.getElem?_eq_getElem hq];rfl)
  refine ⟨hs,hs.1.trans ?_⟩;rw [Array.getElem?_eq_getElem hq];rfl
 refine ⟨he,⟨fun q=>if q < w.heap.size then ρ' q else if P' q = i\/w.heap.size <= q then ρ' q else 1000,vf',vw',Ub,Uc,F',ws',K',hC'.shift g1 (fun q hq hr=>⟨rfl,?_⟩) (fun j y hy=>nomatch hy),g1,g2,g3,g4,fun q hq xq=>?_⟩,⟨hB.os,hB.tape,hB.output,hB.size,fun q hq xq=>(hside q hq xq).2⟩⟩
 ·show (if q < w.heap.size then ρ' q else if P' q = i\/w.heap.size <= q then ρ' q else 1000) = ρ' q
  by_cases hlt:q < w.heap.size
  ·rw [if_pos hlt]
  ·rw [if_neg hlt,if_pos (Or.inr (by omega))]
 ·unfold grown at xq
  by_cases hlt:q < w.heap.size
  ·rw [if_pos hlt] at xq;show 1000 <= (if q < w.heap.size then ρ' q else if P' q = i\/w.heap.size <= q then ρ' q else 1000);rw [if_pos hlt,(hside q hlt xq).1.2];omega
  ·rw [if_neg hlt] at xq;exact absurd rfl xq
theorem V6 (base hb:Nat) (ρ:Nat->Nat) (cnt tot:Int) (k:Nat) (vf vw vk vn:Value) (F:List (Value × List Int)) (ws:List Value) (K:List (Value × Nat × Nat)) (A:Nat->Option Obj) (w:World) (hC:Core w base hb ρ cnt tot vf vw vk vn F ws K A) (h1:F.length <= 2) (h2:∀ x ∈ F,x.2.length <= 1000000000) (h3:K.length <= k) (h4:∀ x ∈ K,x.2.1 <= 1000000/\x.2.2 <= 1000000000000) (hk:k <= 90000) (htot:0 <= tot/\tot <= 500000000000) :
 Calls prog 21 #[.pointer (some ⟨hb,0,none⟩)] w fun e w'=>e = .returned (.bool true)/\Below base w w'/\∀ j y,A j = some y->w'.heap[j]? = some y:=by
 have HC:=hid hC;clear hC;go_enter func21,ntmps21;go_wp2_with fail;refine (Ua base hb ρ cnt tot vf vw vk vn F ws K _ (by omega) h2 (by omega) ⟨htot.1,by omega⟩ h4 HC.out).mono ?_;rintro e w8 ⟨rfl,hB8,ρ8,vk8,vn8,K8,hC8,hK8,xg⟩;have HC8:=hid hC8;have HB8:=hid hB8;have Ac1:=hid xg;clear hC8 hB8 xg;go_wp2_with fail;refine (holds_of base hb ρ8 cnt tot _ _ vk8 vn8 [] [] K8 _ (by decide) (by rw [hK8];omega) Ac1.out HC8.out).mono ?_;rintro e w9 ⟨rfl,Hy⟩;go_wp2;go_ret
 exact ⟨rfl,HB8.out.trans (Hy.below base),fun j y hy=>by rw [Hy.heap];exact (HC8.out.side j y hy).1⟩
theorem V7 {P:Nat->Nat} {i:Nat} (base hb:Nat) (cnt tot:Int) (k:Nat) (w:World) (h:Fv P i base hb cnt tot k w) (hk:k <= 90000) (htot:0 <= tot/\tot <= 500000000000) :
 Calls prog 21 #[.pointer (some ⟨hb,0,none⟩)] w fun e w'=>e = .returned (.bool true)/\Work P i w w':=by
 obtain ⟨ρ,vf,vw,vk,vn,F,ws,K,hC,h1,h2,h3,h4,h5⟩:=h.at'
 have hC2:=hC.shift (w':=w) (ρ':=fun q=>if P q ≠ i then 1000 + q else ρ q) (A':=fun q=>if q < w.heap.size/\P q ≠ i then w.heap[q]? else none) h1
  (fun q hq hr => ⟨rfl, by
    have hPi:P q = i:=by
     by_cases e:P q = i
     ·exact e
     ·have:=h5 q hq e;omega
    show (if P q ≠ i then 1000 + q else ρ q) = ρ q;rw [if_neg (fun e=>e hPi)]⟩)
  (fun j y hy => by
    have hy2:(if j < w.heap.size/\P j ≠ i then w.heap[j]? else none) = some y:=hy
    by_cases hj:j < w.heap.size/\P j ≠ i
    ·rw [if_pos hj] at hy2
     exact ⟨hy2,by
      show (if P j ≠ i then 1000 + j else ρ j) = 1000 + j;rw [if_pos hj.2]⟩
    ·rw [if_neg hj] at hy2
     cases hy2)
 refine (V6 base hb _ cnt tot k vf vw vk vn F ws K _ w hC2 h1 h2 h3 h4 hk htot).mono ?_;rintro e w' ⟨he,hB,hs⟩;refine ⟨he,⟨hB.os,hB.tape,hB.output,hB.size,fun q hq xq=>?_⟩⟩;rw [Array.getElem?_eq_getElem hq]
 exact hs q _ (by
  show (if q < w.heap.size/\P q ≠ i then w.heap[q]? else none) = _;rw [if_pos ⟨hq,xq⟩,Array.getElem?_eq_getElem hq])
end Go.Proofs.YtjacnhnaoenelaaGreat
namespace Go.Proofs.YtjacnhnaoenelaaGreat.Led
open Lib (hid)
open Go.Proofs.Tryz
open Go.RowKit
set_option linter.unusedVariables false
structure Fv (P:Nat->Nat) (i:Nat) (base hb:Nat) (cnt tot:Int) (k:Nat) (w:World):Prop where
 at':∃ ρ vf vw vk vn F ws K,Core w base hb ρ cnt tot vf vw vk vn F ws K (fun _=>none)/\F.length <= 2/\(∀ x ∈ F,x.2.length <= 1000000000)/\K.length <= k/\(∀ x ∈ K,x.2.1 <= 1000000/\x.2.2 <= 1000000000000)/\∀ q,q < w.heap.size->P q ≠ i->1000 <= ρ q
theorem Fv.work {P:Nat->Nat} {i j:Nat} (hij:i ≠ j) {base hb:Nat} {cnt tot:Int} {k:Nat} {w w':World} (h:Fv P i base hb cnt tot k w) (hW:Work P j w w') (m:Nat):Fv (grown P w.heap.size m) i base hb cnt tot k w':=by
 obtain ⟨ρ,vf,vw,vk,vn,F,ws,K,hC,h1,h2,h3,h4,h5⟩:=h.at';refine ⟨fun q=>if q < w.heap.size then ρ q else 1000,vf,vw,vk,vn,F,ws,K,hC.shift h1 (fun q hq hr=>⟨hW.keep q hq ?_,if_pos hq⟩) (fun j y hy=>nomatch hy),h1,h2,h3,h4,fun q _ hP=>?_⟩
 ·intro hPj;have:=h5 q hq (by omega);omega
 ·show 1000 <= (if q < w.heap.size then ρ q else 1000)
  by_cases hlt:q < w.heap.size
  ·rw [if_pos hlt];unfold grown at hP;rw [if_pos hlt] at hP;exact h5 q hlt hP
  ·rw [if_neg hlt];omega
theorem Fv.Ic {P:Nat->Nat} {i m:Nat} {v:Value} (hv:∀ b,v.ownBlock = some b->P b ≠ i) {base hb:Nat} {cnt tot:Int} {k:Nat} {w:World} (h:Fv P i base hb cnt tot k w):Fv (Ic P v m) i base hb cnt tot k w:=by
 obtain ⟨ρ,vf,vw,vk,vn,F,ws,K,hC,h1,h2,h3,h4,h5⟩:=h.at';refine ⟨ρ,vf,vw,vk,vn,F,ws,K,hC,h1,h2,h3,h4,fun q hq hP=>h5 q hq fun e=>?_⟩;unfold Go.Proofs.YtjacnhnaoenelaaGreat.Ic at hP
 by_cases hvq:v.ownBlock = some q
 ·exact hv q hvq e
 ·rw [if_neg hvq] at hP;exact hP e
theorem Fv.begin {P:Nat->Nat} {i:Nat} (w:World) (base hb:Nat) (hlow:base <= hb) (h:Row w hb 52 [.int .i64 0,.slice none 0 0,.slice none 0 0,.slice none 0 0,.slice none 0 0,.bool false]) (hP:P hb = i):Fv P i base hb 0 0 0 w:=
 ⟨fun q=>if P q = i then 0 else 1000,_,_,_,_,[],[],[],{ row:=h,Eb:=if_pos hP,low:=hlow,fresh:=Aq.nil _ _ _ _ _,was:=Aq.nil _ _ _ _ _,Rf:=rfl,kept:=Aq.nil _ _ _ _ _,nums:=Aq.nil _ _ _ _ _,item:=fun i x hx=>(by cases hx),copy:=fun i v x hv hx=>(by cases hx),done:=fun x hx=>(by cases hx),side:=fun j y hy=>nomatch hy },
  by decide,fun x hx=>(by cases hx),Nat.le_refl _,fun x hx=>(by cases hx),fun q _ hq=>by
   show 1000 <= (if P q = i then 0 else 1000);rw [if_neg hq];omega⟩
theorem Y1 {P:Nat->Nat} {i:Nat} (base hb:Nat) (cnt tot:Int) (k:Nat) (v:Value) (xs:List Int) (w:World) (h:Fv P i base hb cnt tot k w) (hk:k <= 90000) (hcnt:0 <= cnt/\cnt <= 1000000000) (htot:0 <= tot/\tot <= 500000000000)
 (hx:Xr xs) (hxl:xs.length <= 1000000000) (hv:w.ownsRow base 3 1 v xs.length (xs.map (Value.int .i64))) (hP:∀ b,v.ownBlock = some b->P b ≠ i) :
 Calls prog 20 #[.pointer (some ⟨hb,0,none⟩),v] w fun e w'=>e = .returned (.bool true)/\Fv (grown (Go.Proofs.YtjacnhnaoenelaaGreat.Ic P v i) w.heap.size i) i base hb cnt (tot + xs.length) (k + 6) w'/\Work (Go.Proofs.YtjacnhnaoenelaaGreat.Ic P v i) i w w':=by
 obtain ⟨ρ,vf,vw,vk,vn,F,ws,K,hC,h1,h2,h3,h4,h5⟩:=h.at';obtain ⟨P',hP'⟩:∃ z,z = Go.Proofs.YtjacnhnaoenelaaGreat.Ic P v i:=⟨_,rfl⟩;have hb1:∀ b,v.ownBlock = some b->P' b = i:=fun b hb=>by rw [hP'];unfold Go.Proofs.YtjacnhnaoenelaaGreat.Ic;rw [if_pos hb]
 have hb2:∀ q,P q = i->P' q = i:=fun q hq=>by
  rw [hP'];unfold Go.Proofs.YtjacnhnaoenelaaGreat.Ic
  by_cases hvq:v.ownBlock = some q
  ·rw [if_pos hvq]
  ·rw [if_neg hvq];exact hq
 rw [<- hP']
 have hC2:=hC.shift (w':=w) (ρ':=fun q=>if P' q ≠ i then 1000 + q else if v.ownBlock = some q then 10 + F.length else ρ q) (A':=fun q=>if q < w.heap.size/\P' q ≠ i then w.heap[q]? else none) h1
  (fun q hq hr => ⟨rfl, by
    have hPi:P q = i:=by
     by_cases e:P q = i
     ·exact e
     ·have:=h5 q hq e;omega
    show (if P' q ≠ i then 1000 + q else if v.ownBlock = some q then 10 + F.length else ρ q) = ρ q;rw [if_neg (fun e=>e (hb2 q hPi)),if_neg (fun e=>hP q e hPi)]⟩)
  (fun j y hy => by
    by_cases hj:j < w.heap.size/\P' j ≠ i
    ·have hy2:(if j < w.heap.size/\P' j ≠ i then w.heap[j]? else none) = some y:=hy;rw [if_pos hj] at hy2
     exact ⟨hy2,by
      show (if P' j ≠ i then 1000 + j else if v.ownBlock = some j then 10 + F.length else ρ j) = 1000 + j;rw [if_pos hj.2]⟩
    ·have hy2:(if j < w.heap.size/\P' j ≠ i then w.heap[j]? else none) = some y:=hy;rw [if_neg hj] at hy2
     cases hy2)
 refine (Ac0 base hb _ cnt tot vf vw vk vn F ws K v xs k w h1 h2 h3 hk h4 hcnt htot hx hxl hC2 ⟨by rw [List.length_map];exact hv,fun b hb=>by
  show (if P' b ≠ i then 1000 + b else if v.ownBlock = some b then 10 + F.length else ρ b) = _;rw [if_neg (fun e=>e (hb1 b hb)),if_pos hb]⟩).mono ?_
 rintro e w' ⟨he,hB,ρ',vf',vw',Ub,Uc,F',ws',K',hC',g1,g2,g3,g4⟩
 have hside:∀ q,q < w.heap.size->P' q ≠ i->G7 w' ρ' (1000 + q) q (w.heap[q]?.getD (.cells #[] 0 (0,0)))/\w'.heap[q]? = w.heap[q]?:=fun q hq xq=>by
  have hs:=hC'.side q (w.heap[q]?.getD (.cells #[] 0 (0,0))) (by
   show (if q < w.heap.size/\P' q ≠ i then w.heap[q]? else none) = _;rw [if_pos ⟨hq,xq⟩,Array.getElem?_eq_getElem hq];rfl)
  refine ⟨hs,hs.1.trans ?_⟩;rw [Array.getElem?_eq_getElem hq];rfl
 refine ⟨he,⟨fun q=>if q < w.heap.size then ρ' q else if P' q = i\/w.heap.size <= q then ρ' q else 1000,vf',vw',Ub,Uc,F',ws',K',hC'.shift g1 (fun q hq hr=>⟨rfl,?_⟩) (fun j y hy=>nomatch hy),g1,g2,g3,g4,fun q hq xq=>?_⟩,⟨hB.os,hB.tape,hB.output,hB.size,fun q hq xq=>(hside q hq xq).2⟩⟩
 ·show (if q < w.heap.size then ρ' q else if P' q = i\/w.heap.size <= q then ρ' q else 1000) = ρ' q
  by_cases hlt:q < w.heap.size
  ·rw [if_pos hlt]
  ·rw [if_neg hlt,if_pos (Or.inr (by omega))]
 ·unfold grown at xq
  by_cases hlt:q < w.heap.size
  ·rw [if_pos hlt] at xq;show 1000 <= (if q < w.heap.size then ρ' q else if P' q = i\/w.heap.size <= q then ρ' q else 1000);rw [if_pos hlt,(hside q hlt xq).1.2];omega
  ·rw [if_neg hlt] at xq;exact absurd rfl xq
theorem V6 (base hb:Nat) (ρ:Nat->Nat) (cnt tot:Int) (k:Nat) (vf vw vk vn:Value) (F:List (Value × List Int)) (ws:List Value) (K:List (Value × Nat × Nat)) (A:Nat->Option Obj) (w:World) (hC:Core w base hb ρ cnt tot vf vw vk vn F ws K A) (h1:F.length <= 2) (h2:∀ x ∈ F,x.2.length <= 1000000000) (h3:K.length <= k) (h4:∀ x ∈ K,x.2.1 <= 1000000/\x.2.2 <= 1000000000000) (hk:k <= 90000) (htot:0 <= tot/\tot <= 500000000000) :
 Calls prog 22 #[.pointer (some ⟨hb,0,none⟩)] w fun e w'=>e = .returned (.bool true)/\Below base w w'/\∀ j y,A j = some y->w'.heap[j]? = some y:=by
 have HC:=hid hC;clear hC;go_enter func22,ntmps22;go_wp2_with fail;refine (Ua base hb ρ cnt tot vf vw vk vn F ws K _ (by omega) h2 (by omega) ⟨htot.1,by omega⟩ h4 HC.out).mono ?_;rintro e w8 ⟨rfl,hB8,ρ8,vk8,vn8,K8,hC8,hK8,xg⟩;have HC8:=hid hC8;have HB8:=hid hB8;have Ac1:=hid xg;clear hC8 hB8 xg;go_wp2_with fail;refine (holds_of base hb ρ8 cnt tot _ _ vk8 vn8 [] [] K8 _ (by decide) (by rw [hK8];omega) Ac1.out HC8.out).mono ?_;rintro e w9 ⟨rfl,Hy⟩;go_wp2;go_ret
 exact ⟨rfl,HB8.out.trans (Hy.below base),fun j y hy=>by rw [Hy.heap];exact (HC8.out.side j y hy).1⟩
theorem V7 {P:Nat->Nat} {i:Nat} (base hb:Nat) (cnt tot:Int) (k:Nat) (w:World) (h:Fv P i base hb cnt tot k w) (hk:k <= 90000) (htot:0 <= tot/\tot <= 500000000000) :
 Calls prog 22 #[.pointer (some ⟨hb,0,none⟩)] w fun e w'=>e = .returned (.bool true)/\Work P i w w':=by
 obtain ⟨ρ,vf,vw,vk,vn,F,ws,K,hC,h1,h2,h3,h4,h5⟩:=h.at'
 have hC2:=hC.shift (w':=w) (ρ':=fun q=>if P q ≠ i then 1000 + q else ρ q) (A':=fun q=>if q < w.heap.size/\P q ≠ i then w.heap[q]? else none) h1
  (fun q hq hr => ⟨rfl, by
    have hPi:P q = i:=by
     by_cases e:P q = i
     ·exact e
     ·have:=h5 q hq e;omega
    show (if P q ≠ i then 1000 + q else ρ q) = ρ q;rw [if_neg (fun e=>e hPi)]⟩)
  (fun j y hy => by
    have hy2:(if j < w.heap.size/\P j ≠ i then w.heap[j]? else none) = some y:=hy
    by_cases hj:j < w.heap.size/\P j ≠ i
    ·rw [if_pos hj] at hy2
     exact ⟨hy2,by
      show (if P j ≠ i then 1000 + j else ρ j) = 1000 + j;rw [if_pos hj.2]⟩
    ·rw [if_neg hj] at hy2
     cases hy2)
 refine (V6 base hb _ cnt tot k vf vw vk vn F ws K _ w hC2 h1 h2 h3 h4 hk htot).mono ?_;rintro e w' ⟨he,hB,hs⟩;refine ⟨he,⟨hB.os,hB.tape,hB.output,hB.size,fun q hq xq=>?_⟩⟩;rw [Array.getElem?_eq_getElem hq]
 exact hs q _ (by
  show (if q < w.heap.size/\P q ≠ i then w.heap[q]? else none) = _;rw [if_pos ⟨hq,xq⟩,Array.getElem?_eq_getElem hq])
end Go.Proofs.YtjacnhnaoenelaaGreat.Led
namespace Go.Proofs.YtjacnhnaoenelaaGreat
open Go.Proofs.Tryz
open Go.RowKit
set_option linter.unusedVariables false
set_option linter.unusedSimpArgs false
section
variable {P P':Nat->Nat} {i j k r:Nat} {w w':World}
theorem Mine.re (hf:∀ q,P q = i->P' q = i) {fx:Ak} {s:Mst} {bx:Nat} (h:Mine P i fx s bx w):Mine P' i fx s bx w:=by
 obtain ⟨base,v,hm,hq⟩:=h.ms;exact ⟨base,v,hm,fun q hlt hP=>hq q hlt fun e=>hP (hf q e)⟩
theorem Nj.re (hf:∀ q,P q = 0->P' q = 0) {q:Nat} {e:TypeId} {cs:List Value} (h:Nj P q e cs w):Nj P' q e cs w:=⟨h.row,hf q h.zero⟩
theorem Qa.re (hf:∀ q,P q = i->P' q = i) {er:Int} {s:Mst} {r0:Int} {xv tv sv:Value} (h:Qa P i er s r0 xv tv sv w):Qa P' i er s r0 xv tv sv w:=by
 obtain ⟨base,we,hO,hs,hk⟩:=h.at';exact ⟨base,we,hO,hs,fun q h1 h2=>⟨hf q (hk q h1 h2).1,(hk q h1 h2).2⟩⟩
theorem Ground.re {W:World} (hf:∀ q,P q = 0->P' q = 0) (h:Ground W P w):Ground W P' w:=⟨h.bel,fun q hq=>hf q (h.zero q hq)⟩
theorem Bf.re {base size n:Nat} {e:TypeId} {v:Value} {xs:List Value} (hf:∀ q,P q = r->P' q = r) (h:Bf w base P r e size v n xs):Bf w base P' r e size v n xs:=⟨h.1,fun b hb=>hf b (h.2 b hb)⟩
theorem Bf.work {base size n:Nat} {e:TypeId} {v:Value} {xs:List Value} (hr:r ≠ j) (hW:Work P j w w') (k:Nat) (h:Bf w base P r e size v n xs):Bf w' base (grown P w.heap.size k) r e size v n xs:=
 h.move fun q hq hP=>⟨hW.keep q hq (by rw [hP];exact hr),(Ci hq).trans hP⟩
theorem Fv.re (hf:∀ q,P q = i->P' q = i) {base hb:Nat} {cnt tot:Int} (h:Fv P i base hb cnt tot k w):Fv P' i base hb cnt tot k w:=by
 obtain ⟨ρ,vf,vw,vk,vn,F,ws,K,hC,h1,h2,h3,h4,h5⟩:=h.at';exact ⟨ρ,vf,vw,vk,vn,F,ws,K,hC,h1,h2,h3,h4,fun q hq hP=>h5 q hq fun e=>hP (hf q e)⟩
theorem Led.Fv.re (hf:∀ q,P q = i->P' q = i) {base hb:Nat} {cnt tot:Int} (h:Led.Fv P i base hb cnt tot k w):Led.Fv P' i base hb cnt tot k w:=by
 obtain ⟨ρ,vf,vw,vk,vn,F,ws,K,hC,h1,h2,h3,h4,h5⟩:=h.at';exact ⟨ρ,vf,vw,vk,vn,F,ws,K,hC,h1,h2,h3,h4,fun q hq hP=>h5 q hq fun e=>hP (hf q e)⟩
theorem Zp {v:Value} {q:Nat} (h:P q ≠ r) (hv:∀ b,v.ownBlock = some b->P b = r):Ic P v i q = P q:=by
 unfold Ic;rw [if_neg fun e=>h (hv q e)]
end
def Aai (P:Nat->Nat) (i base hb N:Nat) (w:World):Prop:=∃ cnt tot k,Fv P i base hb cnt tot k w/\0 <= cnt/\cnt <= N/\0 <= tot/\tot <= N * 1000000/\k <= 6 * N
def Xt (P:Nat->Nat) (i base hb N:Nat) (w:World):Prop:=∃ cnt tot k,Led.Fv P i base hb cnt tot k w/\0 <= cnt/\cnt <= N/\0 <= tot/\tot <= N * 1000000/\k <= 6 * N
section
variable {P P':Nat->Nat} {i j base hb N M:Nat} {w w':World}
theorem Aai.mono (h:Aai P i base hb N w) (hn:N <= M):Aai P i base hb M w:=by
 obtain ⟨cnt,tot,k,h1,h2,h3,h4,h5,h6⟩:=h;exact ⟨cnt,tot,k,h1,h2,by omega,h4,by omega,by omega⟩
theorem Xt.mono (h:Xt P i base hb N w) (hn:N <= M):Xt P i base hb M w:=by
 obtain ⟨cnt,tot,k,h1,h2,h3,h4,h5,h6⟩:=h;exact ⟨cnt,tot,k,h1,h2,by omega,h4,by omega,by omega⟩
theorem Aai.work (hij:i ≠ j) (h:Aai P i base hb N w) (hW:Work P j w w') (m:Nat):Aai (grown P w.heap.size m) i base hb N w':=by
 obtain ⟨cnt,tot,k,h1,h2⟩:=h;exact ⟨cnt,tot,k,h1.work hij hW m,h2⟩
theorem Xt.work (hij:i ≠ j) (h:Xt P i base hb N w) (hW:Work P j w w') (m:Nat):Xt (grown P w.heap.size m) i base hb N w':=by
 obtain ⟨cnt,tot,k,h1,h2⟩:=h;exact ⟨cnt,tot,k,h1.work hij hW m,h2⟩
theorem Aai.re (hf:∀ q,P q = i->P' q = i) (h:Aai P i base hb N w):Aai P' i base hb N w:=by
 obtain ⟨cnt,tot,k,h1,h2⟩:=h;exact ⟨cnt,tot,k,h1.re hf,h2⟩
theorem Xt.re (hf:∀ q,P q = i->P' q = i) (h:Xt P i base hb N w):Xt P' i base hb N w:=by
 obtain ⟨cnt,tot,k,h1,h2⟩:=h;exact ⟨cnt,tot,k,Led.Fv.re hf h1,h2⟩
end
structure Rnd (W:World) (X:(Nat->Nat)->World->Prop) (hb hl N M:Nat) (P:Nat->Nat) (w:World):Prop where
 g:Ground W P w
 x:X P w
 bk:Aai P 2 W.heap.size hb N w
 lg:Xt P 3 W.heap.size hl M w
structure Nk (r:Nat) (X:(Nat->Nat)->World->Prop):Prop where
 re:∀ P P' w,(∀ q,P q ≠ r->P' q = P q)->X P w->X P' w
 work:∀ P j k w w',(j = 2\/j = 3)->Work P j w w'->X P w->X (grown P w.heap.size k) w'
section
variable {W:World} {X:(Nat->Nat)->World->Prop} {hb hl N M:Nat} {P:Nat->Nat} {w:World} {r:Nat}
theorem Rnd.book (hr:100 <= r) (hX:Nk r X) (h:Rnd W X hb hl N M P w) (hN:N <= 10000) {v:Value} {xs:List Int} (hx:Ah xs) (hxl:xs.length <= 1000000) (hv:Bf w W.heap.size P r 5 1 v xs.length (Gp xs)) :
 Calls prog 19 #[.pointer (some ⟨hb,0,none⟩),v] w fun e w'=>e = .returned (.bool true)/\∃ P',Rnd W X hb hl (N + 1) M P' w':=by
 obtain ⟨cnt,tot,k,h1,h2,h3,h4,h5,h6⟩:=h.bk;refine (Y1 W.heap.size hb cnt tot k v xs w h1 (by omega) ⟨h2,by omega⟩ ⟨h4,by omega⟩ hx (by omega) hv.1 (fun b hb'=>by rw [hv.2 b hb'];omega)).mono ?_;rintro e w' ⟨he,hB,hW⟩;have hf:∀ q,P q ≠ r->Ic P v 2 q = P q:=fun q hq=>Zp hq hv.2;have hi:∀ m,m < 100->∀ q,P q = m->Ic P v 2 q = m:=fun m hm q hq=>(hf q (by omega)).trans hq;exact ⟨he,_,(h.g.re (hi 0 (by omega))).work (by decide) hW,hX.work _ 2 2 _ _ (Or.inl rfl) hW (hX.re _ _ _ hf h.x),⟨_,_,_,hB,by omega,by push_cast;omega,by omega,by push_cast;omega,by omega⟩,(h.lg.re (hi 3 (by omega))).work (by decide) hW 2⟩
theorem Rnd.ledger (hr:100 <= r) (hX:Nk r X) (h:Rnd W X hb hl N M P w) (hM:M <= 10000) {v:Value} {xs:List Int} (hxl:xs.length <= 1000000) (hv:Bf w W.heap.size P r 3 1 v xs.length (Jb xs)) :
 Calls prog 20 #[.pointer (some ⟨hl,0,none⟩),v] w fun e w'=>e = .returned (.bool true)/\∃ P',Rnd W X hb hl N (M + 1) P' w':=by
 obtain ⟨cnt,tot,k,h1,h2,h3,h4,h5,h6⟩:=h.lg;refine (Led.Y1 W.heap.size hl cnt tot k v xs w h1 (by omega) ⟨h2,by omega⟩ ⟨h4,by omega⟩ (show xs.length <= 9223372036854775807 by omega) (by omega) hv.1 (fun b hb'=>by rw [hv.2 b hb'];omega)).mono ?_;rintro e w' ⟨he,hB,hW⟩;have hf:∀ q,P q ≠ r->Ic P v 3 q = P q:=fun q hq=>Zp hq hv.2;have hi:∀ m,m < 100->∀ q,P q = m->Ic P v 3 q = m:=fun m hm q hq=>(hf q (by omega)).trans hq;exact ⟨he,_,(h.g.re (hi 0 (by omega))).work (by decide) hW,hX.work _ 3 3 _ _ (Or.inr rfl) hW (hX.re _ _ _ hf h.x),(h.bk.re (hi 2 (by omega))).work (by decide) hW 3,⟨_,_,_,hB,by omega,by push_cast;omega,by omega,by push_cast;omega,by omega⟩⟩
theorem Rnd.Asv (hX:Nk 100 X) (h:Rnd W X hb hl N M P w) (hN:N <= 10000) :
 Calls prog 21 #[.pointer (some ⟨hb,0,none⟩)] w fun e w'=>e = .returned (.bool true)/\∃ P',Ground W P' w'/\X P' w'/\Xt P' 3 W.heap.size hl M w':=by
 obtain ⟨cnt,tot,k,h1,h2,h3,h4,h5,h6⟩:=h.bk;refine (V7 W.heap.size hb cnt tot k w h1 (by omega) ⟨h4,by omega⟩).mono ?_;rintro e w' ⟨he,hW⟩;exact ⟨he,_,h.g.work (k:=2) (by decide) hW,hX.work _ 2 2 _ _ (Or.inl rfl) hW h.x,h.lg.work (by decide) hW 2⟩
theorem xu (hX:Nk 100 X) (hg:Ground W P w) (hx:X P w) (hL:Xt P 3 W.heap.size hl M w) (hM:M <= 10000) :
 Calls prog 22 #[.pointer (some ⟨hl,0,none⟩)] w fun e w'=>e = .returned (.bool true)/\∃ P',Ground W P' w'/\X P' w':=by
 obtain ⟨cnt,tot,k,h1,h2,h3,h4,h5,h6⟩:=hL;refine (Led.V7 W.heap.size hl cnt tot k w h1 (by omega) ⟨h4,by omega⟩).mono ?_;rintro e w' ⟨he,hW⟩;exact ⟨he,_,hg.work (k:=3) (by decide) hW,hX.work _ 3 3 _ _ (Or.inr rfl) hW hx⟩
end
def Parts (w:World) (s:Mst) (xv tv sv:Value):Prop:=∃ (a:Option Addr) (n:Nat) (b:Option Addr) (m:Nat) (c:Option Addr) (k:Nat) (vals:List Value),xv = .slice a s.ctx.length n/\tv = .slice b s.rows.length m/\sv = .slice c s.sent.length k/\Held w xv s.ctx/\Es w tv vals s.rows/\Ints w sv s.sent
theorem V8 {s:Mst} {fx:Ak} (hc:J5 fx) (hs:Kr fx s) {x1 t1 s1 x2 t2 s2:Value} {w:World} (h1:Parts w s x1 t1 s1) (h2:Parts w s x2 t2 s2) :
 Calls prog 18 #[.agg (Au s x1 t1 s1).toArray,.agg (Au s x2 t2 s2).toArray] w fun e w'=>e = .returned (.bool true)/\Below w.heap.size w w':=by
 obtain ⟨k1,k2,k3,k4⟩:=hs.small hc;obtain ⟨a,n,b,m,c,k,va,rfl,rfl,rfl,g1,g2,g3⟩:=h1;obtain ⟨a',n',b',m',c',k',vb,rfl,rfl,rfl,g4,g5,g6⟩:=h2;exact Ajc s hs.good.regs.1 hs.good.slots (by rw [Jm,hs.good.regs.1]) hs.good.slots.len a b c a' b' c' n m k n' m' k' va vb (by omega) (by omega) w g1 g2 g3 g4 g5 g6
theorem Jt.parts {fx:Ak} {w:World} {s:Mst} {xv tv sv:Value} {w':World} (hs:Kr fx s) (h:Jt w s xv tv sv w'):Parts w' s xv tv sv:=
 h.reads hs.good.mem.ctx (fun k hk=>(hs.good.mem.rows k hk).1)
theorem Parts.below {w w':World} {s:Mst} {xv tv sv:Value} (h:Parts w s xv tv sv) (hb:Below w.heap.size w w'):Parts w' s xv tv sv:=by
 obtain ⟨a,n,b,m,c,k,vals,h1,h2,h3,h4,h5,h6⟩:=h;exact ⟨a,n,b,m,c,k,vals,h1,h2,h3,h4.below hb nl,h5.below hb nl,h6.below hb nl⟩
structure O1 (P:Nat->Nat) (s:Mst) (xv tv sv:Value) (w:World):Prop where
 at':∃ w0 we,Jt w0 s xv tv sv we/\we.heap.size <= w.heap.size/\∀ q,w0.heap.size <= q->q < we.heap.size->P q = 0/\w.heap[q]? = we.heap[q]?
theorem O1.parts {fx:Ak} {P:Nat->Nat} {s:Mst} {xv tv sv:Value} {w:World} (hs:Kr fx s) (h:O1 P s xv tv sv w):Parts w s xv tv sv:=by
 obtain ⟨w0,we,hA,hsz,hk⟩:=h.at';have hst:∀ {e:TypeId} {size n:Nat} {x:Value} {xs:List Value},we.ownsRow w0.heap.size e size x n xs->w.ownsRow w0.heap.size e size x n xs:=fun ho=>Em ho fun b hb=>(hk b (ho.lt b hb).1 (ho.lt b hb).2).2;obtain ⟨ρ,vals,hT⟩:=hA.tabs;obtain ⟨a,n,e1⟩:=Ai hA.ctx;obtain ⟨b,m,e2⟩:=Ai hT.list.1;obtain ⟨c,k,e3⟩:=Ai hA.sent;have hT2:F9 w w0.heap.size ρ tv vals s.rows:=⟨⟨hst hT.list.1,hT.list.2⟩,fun k hk'=>let ⟨u,hu,ho⟩:=hT.item k hk';⟨u,hu,⟨hst ho.1,ho.2⟩⟩⟩;exact ⟨a,n,b,m,c,k,vals,e1,e2,e3,Dq (hst hA.ctx) hs.good.mem.ctx rfl,Ho hT2 (fun k hk=>(hs.good.mem.rows k hk).1),Xk (hst hA.sent)⟩
theorem O1.work {P:Nat->Nat} {j:Nat} (hj:j ≠ 0) {s:Mst} {xv tv sv:Value} {w w':World} (h:O1 P s xv tv sv w) (hW:Work P j w w') (k:Nat):O1 (grown P w.heap.size k) s xv tv sv w':=by
 obtain ⟨w0,we,hA,hs,hk⟩:=h.at';refine ⟨w0,we,hA,Nat.le_trans hs hW.size,fun q h1 h2=>?_⟩;obtain ⟨g1,g2⟩:=hk q h1 h2;exact ⟨(Ci (by omega)).trans g1,(hW.keep q (by omega) (by omega)).trans g2⟩
theorem O1.next {P:Nat->Nat} {k:Nat} {s:Mst} {xv tv sv:Value} {w w':World} (h:O1 P s xv tv sv w) (hb:Below w.heap.size w w'):O1 (grown P w.heap.size k) s xv tv sv w':=h.work (j:=1) (by decide) (Work.of_below hb) k
theorem O1.begin {P:Nat->Nat} {s:Mst} {xv tv sv:Value} {w w':World} (h:Jt w s xv tv sv w'):O1 (grown P w.heap.size 0) s xv tv sv w':=
 ⟨w,w',h,Nat.le_refl _,fun q h1 h2=>⟨Kt h1,rfl⟩⟩
structure QQ (W:World) (P:Nat->Nat) (fx:Ak) (s:Mst) (b1 D B E:Nat) (xv tv sv:Value) (cb ce:List Value) (w:World):Prop where
 g:Ground W P w
 m:Mine P 1 fx s b1 w
 box:Nj P D 64 (Au s xv tv sv) w
 told:O1 P s xv tv sv w
 bb:Nj P B 73 cb w
 be:Nj P E 73 ce w
def Q5 (W:World) (fx:Ak) (s:Mst) (b1 D B E:Nat) (xv tv sv:Value) (cb ce:List Value) (w:World):Prop:=∃ P,QQ W P fx s b1 D B E xv tv sv cb ce w
section
variable {W:World} {fx:Ak} {s:Mst} {b1 D B E:Nat} {xv tv sv:Value} {cb ce:List Value} {w w':World}
theorem QQ.next {P:Nat->Nat} (h:QQ W P fx s b1 D B E xv tv sv cb ce w) (hb:Below w.heap.size w w'):QQ W (grown P w.heap.size 0) fx s b1 D B E xv tv sv cb ce w':=
 ⟨h.g.next hb,h.m.next hb,h.box.next hb,h.told.next hb,h.bb.next hb,h.be.next hb⟩
theorem Q5.next (h:Q5 W fx s b1 D B E xv tv sv cb ce w) (hb:Below w.heap.size w w'):Q5 W fx s b1 D B E xv tv sv cb ce w':=let ⟨P,hP⟩:=h;⟨_,hP.next hb⟩
theorem Q5.bel (h:Q5 W fx s b1 D B E xv tv sv cb ce w):Below W.heap.size W w:=let ⟨P,hP⟩:=h;hP.g.bel
theorem Q5.step (hc:J5 fx) (hs:Kr fx s) (hst:s.steps < 4611686018427387904) (hk:(Fq fx s).2 = s) (h:Q5 W fx s b1 D B E xv tv sv cb ce w) :
 Calls prog 16 #[.pointer (some ⟨b1,0,none⟩)] w fun e w'=>e = .returned (.int .i64 (Fq fx s).1)/\Q5 W fx s b1 D B E xv tv sv cb ce w':=by
 obtain ⟨P,hP⟩:=h;refine (U1 hc hs hst hP.m).mono ?_;rintro e w' ⟨he,hm,hw⟩;rw [hk] at hm;exact ⟨he,_,hP.g.work (by decide) hw,hm,hP.box.work (by decide) hw 1,hP.told.work (by decide) hw 1,hP.bb.work (by decide) hw 1,hP.be.work (by decide) hw 1⟩
theorem Q5.same (hc:J5 fx) (hs:Kr fx s) (h:Q5 W fx s b1 D B E xv tv sv cb ce w) {x1 t1 s1:Value} (h1:Parts w s x1 t1 s1) :
 Calls prog 18 #[.agg (Au s xv tv sv).toArray,.agg (Au s x1 t1 s1).toArray] w fun e w'=>e = .returned (.bool true)/\Q5 W fx s b1 D B E xv tv sv cb ce w':=by
 obtain ⟨P,hP⟩:=h;refine (V8 hc hs (hP.told.parts hs) h1).mono ?_;rintro e w' ⟨he,hb⟩;exact ⟨he,_,hP.next hb⟩
theorem Q5.range (h:Q5 W fx s b1 D B E xv tv sv cb ce w):w.rangeAt D 0 (Au s xv tv sv):=fun j v hv=>by
 obtain ⟨P,hP⟩:=h;rw [Nat.zero_add,hP.box.row.cell];exact hv
theorem Zq (Pg:(Ei s.rg).length = 44) (Ht:s.st.length = 416):(prog.info? 64).map (·.size) = some (Au s xv tv sv).length:=by
 rw [Kq Pg Ht];exact Q7
end
section
variable {W:World} {fx:Ak} {s:Mst} {b1 D B E:Nat} {xv tv sv:Value} {a0 a1 a2 a3 c0 c1 c2 c3:Value} {w w':World}
theorem Q5.k (Pg:(Ei s.rg).length = 44) (Ht:s.st.length = 416) {S:Int} {d:Bool} (hS:s.steps = S) (hd:s.done = d) (h:Q5 W fx s b1 D B E xv tv sv [a0,a1,a2,a3] [c0,c1,c2,c3] w) :
 w.cell? ⟨D,464,none⟩ = some (.int .i64 S)/\w.cell? ⟨D,465,none⟩ = some (.bool d) /\
 w.cell? ⟨B,0,none⟩ = some a0/\w.cell? ⟨B,1,none⟩ = some a1/\w.cell? ⟨B,2,none⟩ = some a2/\w.cell? ⟨B,3,none⟩ = some a3 /\
 w.cell? ⟨E,0,none⟩ = some c0/\w.cell? ⟨E,1,none⟩ = some c1/\w.cell? ⟨E,2,none⟩ = some c2/\w.cell? ⟨E,3,none⟩ = some c3 /\
 Q5 W fx s b1 D B E xv tv sv [a0,a1,a2,a3] [c0,c1,c2,c3] w:=by
 have h':=h;obtain ⟨P,hP⟩:=h;obtain ⟨t1,t2,t3⟩:=Zn Pg Ht xv tv sv;rw [hS] at t2;rw [hd] at t3;obtain ⟨⟨f0,f1,f2,f3⟩,_⟩:=hP.bb.row.four;obtain ⟨⟨g0,g1,g2,g3⟩,_⟩:=hP.be.row.four;exact ⟨(hP.box.row.cell 464).trans t2,(hP.box.row.cell 465).trans t3,f0,f1,f2,f3,g0,g1,g2,g3,h'⟩
end
section
variable {r i:Nat}
theorem Nk.and {X Y:(Nat->Nat)->World->Prop} (h1:Nk r X) (h2:Nk r Y):Nk r (fun P w=>X P w/\Y P w):=
 ⟨fun P P' w hf h=>⟨h1.re P P' w hf h.1,h2.re P P' w hf h.2⟩,fun P j k w w' hj hW h=>⟨h1.work P j k w w' hj hW h.1,h2.work P j k w w' hj hW h.2⟩⟩
theorem Y3 (hr:i ≠ r) (h2:i ≠ 2) (h3:i ≠ 3) (fx:Ak) (s:Mst) (bx:Nat):Nk r (fun P w=>Mine P i fx s bx w):=
 ⟨fun P P' w hf h=>h.re fun q hq=>(hf q (by omega)).trans hq,fun P j k w w' hj hW h=>by
  have:=h.work (j:=j) (by omega) hW
  exact this.re fun q hq=>by
   unfold grown at hq ⊢
   by_cases hlt:q < w.heap.size
   ·rw [if_pos hlt] at hq ⊢;exact hq
   ·rw [if_neg hlt] at hq;omega⟩
theorem Abi (hr:0 ≠ r) (q:Nat) (e:TypeId) (cs:List Value):Nk r (fun P w=>Nj P q e cs w):=
 ⟨fun P P' w hf h=>h.re fun q hq=>(hf q (by omega)).trans hq,fun P j k w w' hj hW h=>h.work (by omega) hW k⟩
theorem O1.re {P P':Nat->Nat} {w:World} {s:Mst} {xv tv sv:Value} (hf:∀ q,P q = 0->P' q = 0) (h:O1 P s xv tv sv w):O1 P' s xv tv sv w:=by
 obtain ⟨w0,we,hO,hs,hk⟩:=h.at';exact ⟨w0,we,hO,hs,fun q h1 h2=>⟨hf q (hk q h1 h2).1,(hk q h1 h2).2⟩⟩
theorem Ja {l base size n:Nat} (hr:l ≠ r) (h2:100 <= l) (e:TypeId) (v:Value) (xs:List Value):Nk r (fun P w=>Bf w base P l e size v n xs):=
 ⟨fun P P' w hf h=>h.re fun q hq=>(hf q (by omega)).trans hq,fun P j k w w' hj hW h=>h.work (by omega) hW k⟩
def Axp (base:Nat) (vals:List Value) (rows:List (List Int)) (k:Nat) (P:Nat->Nat) (w:World):Prop:=
 ∀ j,k <= j->∀ (h:j < rows.length),∃ u,vals[j]? = some u/\Bf w base P (111 + j) 5 1 u rows[j].length (Gp rows[j])
end
theorem Rnd.weak {W:World} {X Y:(Nat->Nat)->World->Prop} {hb hl N M:Nat} {P:Nat->Nat} {w:World} (h:Rnd W X hb hl N M P w) (hxy:∀ P w,X P w->Y P w):Rnd W Y hb hl N M P w:=⟨h.g,hxy _ _ h.x,h.bk,h.lg⟩
theorem Rnd.mono {W:World} {X:(Nat->Nat)->World->Prop} {hb hl N M N' M':Nat} {P:Nat->Nat} {w:World} (h:Rnd W X hb hl N M P w) (h1:N <= N') (h2:M <= M'):Rnd W X hb hl N' M' P w:=⟨h.g,h.x,h.bk.mono h1,h.lg.mono h2⟩
theorem Rnd.next {W:World} {X:(Nat->Nat)->World->Prop} {hb hl N M:Nat} {P:Nat->Nat} {w w':World} (h:Rnd W X hb hl N M P w) (hX:∀ P k w w',Below w.heap.size w w'->X P w->X (grown P w.heap.size k) w') (hbl:Below w.heap.size w w') (k:Nat):Rnd W X hb hl N M (grown P w.heap.size k) w':=
 ⟨h.g.next hbl,hX P k w w' hbl h.x,h.bk.work (j:=9) (by decide) (Work.of_below hbl) k,h.lg.work (j:=9) (by decide) (Work.of_below hbl) k⟩
theorem Rnd.re {W:World} {X:(Nat->Nat)->World->Prop} {hb hl N M:Nat} {P P':Nat->Nat} {w:World} (h:Rnd W X hb hl N M P w) (hf:∀ q,P q < 100->P' q = P q) (hX:X P w->X P' w):Rnd W X hb hl N M P' w:=
 ⟨h.g.re fun q hq=>(hf q (by omega)).trans hq,hX h.x,h.bk.re fun q hq=>(hf q (by omega)).trans hq,h.lg.re fun q hq=>(hf q (by omega)).trans hq⟩
def named (P:Nat->Nat) (n:Nat) (f:Nat->Nat):Nat->Nat:=fun q=>if q < n then P q else 100 + f q
theorem Aco.named {base:Nat} {s:Mst} {xv tv sv:Value} {w:World} (h:Aco base s xv tv sv w) {low:Nat} (hlow:low <= base):∃ f vals,∀ P,Bf w low (named P base f) 105 5 1 xv s.ctx.length (Gp s.ctx)/\Bf w low (named P base f) 106 3 1 sv s.sent.length (Jb s.sent)/\Bf w low (named P base f) 110 22 1 tv s.rows.length vals/\Axp low vals s.rows 0 (named P base f) w:=by
 obtain ⟨f,vals,h1,h2,h3⟩:=h.at';refine ⟨f,vals,fun P=>?_⟩
 have hm:∀ {r:Nat} {e:TypeId} {n:Nat} {x:Value} {xs:List Value},Bf w base f r e 1 x n xs->Bf w low (Go.Proofs.YtjacnhnaoenelaaGreat.named P base f) (100 + r) e 1 x n xs:=fun ho=>⟨Gz ho.1 hlow,fun b hb=>by
  have h1:=(ho.1.lt b hb).1;have h2:=ho.2 b hb;show (if b < base then P b else 100 + f b) = _;rw [if_neg (by omega),h2]⟩
 refine ⟨hm h1,hm h3,hm h2.list,fun j _ hj=>?_⟩;obtain ⟨u,hu,ho⟩:=h2.item j hj;have:=hm ho;rw [show 100 + (11 + j) = 111 + j by omega] at this;exact ⟨u,hu,this⟩
structure KD (wD:World) (B:Nat) (cs:List Value) (w:World):Prop where
 bel:Below wD.heap.size wD w
 row:Row w B 73 cs
section
variable {wD w w':World} {B C:Nat} {a0 a1 a2 a3:Value}
theorem KD.k (h:KD wD B [a0,a1,a2,a3] w):w.cell? ⟨B,0,none⟩ = some a0/\w.cell? ⟨B,1,none⟩ = some a1/\w.cell? ⟨B,2,none⟩ = some a2/\w.cell? ⟨B,3,none⟩ = some a3/\KD wD B [a0,a1,a2,a3] w:=
 let ⟨⟨h0,h1,h2,h3⟩,_⟩:=h.row.four;⟨h0,h1,h2,h3,h⟩
theorem KD.n (h:w.cell? ⟨B,0,none⟩ = some a0/\w.cell? ⟨B,1,none⟩ = some a1/\w.cell? ⟨B,2,none⟩ = some a2/\w.cell? ⟨B,3,none⟩ = some a3/\KD wD B [a0,a1,a2,a3] w) (hb:Below w.heap.size w w') :
 w'.cell? ⟨B,0,none⟩ = some a0/\w'.cell? ⟨B,1,none⟩ = some a1/\w'.cell? ⟨B,2,none⟩ = some a2/\w'.cell? ⟨B,3,none⟩ = some a3/\KD wD B [a0,a1,a2,a3] w':=
 KD.k ⟨h.2.2.2.2.bel.trans (hb.mono h.2.2.2.2.bel.size),h.2.2.2.2.row.below hb h.2.2.2.2.row.lt⟩
theorem KD.p (h:w.cell? ⟨B,0,none⟩ = some a0/\w.cell? ⟨B,1,none⟩ = some a1/\w.cell? ⟨B,2,none⟩ = some a2/\w.cell? ⟨B,3,none⟩ = some a3/\KD wD B [a0,a1,a2,a3] w) (hB:B < wD.heap.size) (hC:wD.heap.size <= C) (x0 x1 x2 x3:Value) :
 let w':=((((w.setCell ⟨C,0,none⟩ x0).setCell ⟨C,1,none⟩ x1).setCell ⟨C,2,none⟩ x2).setCell ⟨C,3,none⟩ x3)
 w'.cell? ⟨B,0,none⟩ = some a0/\w'.cell? ⟨B,1,none⟩ = some a1/\w'.cell? ⟨B,2,none⟩ = some a2/\w'.cell? ⟨B,3,none⟩ = some a3/\KD wD B [a0,a1,a2,a3] w':=
 KD.k ⟨(((h.2.2.2.2.bel.setCell hC x0).setCell hC x1).setCell hC x2).setCell hC x3,h.2.2.2.2.row.Nq (by omega) x0 x1 x2 x3⟩
end
theorem KD.x {wD w:World} {B:Nat} {a0 a1 a2 a3:Value} {o o':Obj} (h:(w.alloc o).cell? ⟨B,0,none⟩ = some a0/\(w.alloc o).cell? ⟨B,1,none⟩ = some a1/\(w.alloc o).cell? ⟨B,2,none⟩ = some a2/\(w.alloc o).cell? ⟨B,3,none⟩ = some a3/\KD wD B [a0,a1,a2,a3] (w.alloc o)) (hB:B < wD.heap.size) (hw:wD.heap.size <= w.heap.size) :
 (w.alloc o').cell? ⟨B,0,none⟩ = some a0/\(w.alloc o').cell? ⟨B,1,none⟩ = some a1/\(w.alloc o').cell? ⟨B,2,none⟩ = some a2/\(w.alloc o').cell? ⟨B,3,none⟩ = some a3/\KD wD B [a0,a1,a2,a3] (w.alloc o'):=by
 have hk:=h.2.2.2.2;have hq:∀ q,q < w.heap.size->(w.alloc o').heap[q]? = (w.alloc o).heap[q]?:=fun q hq=>(Below.heap_alloc _ _ _ hq).trans (Below.heap_alloc _ _ _ hq).symm;exact KD.k ⟨⟨hk.bel.os,hk.bel.tape,hk.bel.output,by simp;omega,fun q hq'=>(hq q (by omega)).trans (hk.bel.block q hq')⟩,(hq B (by omega)).trans hk.row⟩
section
variable {w1 w2 w3 wS wD:World} {b1 b2 b3 C:Nat} {s:Mst} {r0:Int} {x t v x0 x1 x2 x3:Value} {ρ:Nat->Nat} {vals:List Value}
end
theorem xw {s:Mst} (h1:(Ei s.rg).length = 44) (h2:s.st.length = 416) (xv tv sv:Value):(Au s xv tv sv)[460]? = some xv/\(Au s xv tv sv)[461]? = some tv/\(Au s xv tv sv)[462]? = some sv:=by
 unfold Au;refine ⟨?_,?_,?_⟩ <;> (rw [List.getElem?_append_right (by omega),h1,List.getElem?_append_right (by omega),h2];rfl)
end Go.Proofs.YtjacnhnaoenelaaGreat
