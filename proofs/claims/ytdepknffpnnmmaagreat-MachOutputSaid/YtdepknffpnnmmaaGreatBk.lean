import Derived.Test.YtdepknffpnnmmaaGreatJ0a
import Derived.Test.YtdepknffpnnmmaaGreatJ0b
import Derived.BigQuiet
import Derived.Deep.RegionHeld3
import Derived.StillTailTactics
import Derived.Deep.RegionLaw
import Derived.Test.YtdepknffpnnmmaaGreatGb
set_option maxRecDepth 100000
set_option maxHeartbeats 6400000
namespace Go.Proofs.YtdepknffpnnmmaaGreat
open Go.RowKit
set_option linter.unusedVariables false
def KeepB (w:World) (ρ:Nat->Nat) (r j:Nat) (y:Obj):Prop:=w.heap[j]? = some y/\ρ j = r
theorem KeepB.lt {w:World} {ρ:Nat->Nat} {r j:Nat} {y:Obj} (h:KeepB w ρ r j y):j < w.heap.size:=(Array.getElem?_eq_some_iff.1 h.1).1
theorem KeepB.move {w w':World} {ρ ρ':Nat->Nat} {r r' j:Nat} {y:Obj} (h:KeepB w ρ r j y) (hf:∀ q,q < w.heap.size->ρ q = r->w'.heap[q]? = w.heap[q]?/\ρ' q = r'):KeepB w' ρ' r' j y:=
 ⟨(hf j h.lt h.2).1.trans h.1,(hf j h.lt h.2).2⟩
theorem KeepB.same {w w':World} {ρ:Nat->Nat} {r j:Nat} {y:Obj} (h:KeepB w ρ r j y) (hh:w'.heap = w.heap):KeepB w' ρ r j y:=h.move fun q _ hr=>⟨by rw [hh],hr⟩
theorem KeepB.grow {w w':World} {ρ:Nat->Nat} {r0 r j:Nat} {y:Obj} {row:Option Nat} {g:Nat} (h:KeepB w ρ r0 j y) (hne:r0 ≠ r) (hg:w.grownBy w' row) (hrow:∀ b,row = some b->ρ b = r) (hnew:row = some g\/g = w.heap.size) :
 KeepB w' (fun q=>if q = g then r else ρ q) r0 j y:=
 h.move fun q hq hr=>by
  have:=grow_role hg hrow hnew q hq (by rw [hr];exact hne)
  exact ⟨this.1,this.2.trans hr⟩
theorem KeepB.set {w:World} {ρ:Nat->Nat} {r0 j:Nat} {y:Obj} (h:KeepB w ρ r0 j y) {a:Addr} (hne:ρ a.block ≠ r0) (x:Value):KeepB (w.setCell a x) ρ r0 j y:=
 h.move fun q _ hr=>⟨Below.heap_setCell _ _ _ _ (fun e=>hne (by rw [<- e];exact hr)),hr⟩
theorem KeepB.alloc {w:World} {ρ:Nat->Nat} {r0 j:Nat} {y:Obj} (h:KeepB w ρ r0 j y) (o:Obj):KeepB (w.alloc o) ρ r0 j y:=h.move fun q hq hr=>⟨Below.heap_alloc _ _ _ hq,hr⟩
def ownv (l j:Nat):Int:=(37 * (l:Int) + 11 * j + (l:Int) / 7) % 256
def ownl (l n:Nat):List Value:=utab n (ownv l)
theorem ownl_length (l n:Nat):(ownl l n).length = n:=by simp [ownl,utab]
theorem ownl_get (l:Nat) {n j:Nat} (h:j < n):(ownl l n)[j]? = some (.int .u8 (ownv l j)):=utab_get _ h
theorem own_of (l j:Nat) (hl:l <= 1000000000) (hj:j <= 1000000000000) (w:World):Calls Tryz.prog 78 #[.int .i64 l,.int .i64 j] w fun e w'=>e = .returned (.int .u8 (ownv l j))/\w = w':=by
 have h7:(l:Int).tdiv 7 = (l:Int) / 7:=Int.tdiv_eq_ediv_of_nonneg (by omega)
 obtain ⟨q,hq⟩:∃ q:Int,q = (l:Int) / 7:=⟨_,rfl⟩
 have hq0:0 <= q/\q <= 1000000000:=by omega
 have hv:ownv l j = (37 * (l:Int) + 11 * j + q) % 256:=by unfold ownv;rw [<- hq]
 rw [<- hq] at h7
 have HV:=Lib.hid hv
 have hq':=hq.symm
 clear hq hv
 go_enter Tryz.func78,Tryz.ntmps78
 go_wp2
 go_ret
 exact ⟨ret_int (by rw [HV.out] <;> exact u8_mod _),rfl⟩
theorem last7 {a b c d e f g:Prop} (h:a/\b/\c/\d/\e/\f/\g):g:=h.2.2.2.2.2.2
theorem last8 {a b c d e f g i:Prop} (h:a/\b/\c/\d/\e/\f/\g/\i):i:=h.2.2.2.2.2.2.2
structure Core (w:World) (base hb:Nat) (ρ:Nat->Nat) (cnt tot:Int) (vf vw vk vn:Value) (F:List (Value × List Int)) (ws:List Value) (K:List (Value × Nat × Nat)) (A:Nat->Option Obj):Prop where
 row:Row w hb 83 [.int .i64 cnt,.int .i64 tot,vf,vw,vk,vn,.bool false]
 rol:ρ hb = 0
 low:base <= hb
 fresh:Own1 w base ρ 1 27 vf (F.map (·.1))
 was:Own1 w base ρ 4 27 vw ws
 wlen:ws.length = F.length
 kept:Own1 w base ρ 2 27 vk (K.map (·.1))
 nums:Own1 w base ρ 3 3 vn (K.map fun (x:Value × Nat × Nat)=>Value.int .i64 (x.2.1:Int))
 item:∀ (i:Nat) (x:Value × List Int),F[i]? = some x->Own1 w base ρ (10 + i) 5 x.1 (x.2.map (Value.int .u8))/\IsBytes x.2
 copy:∀ (i:Nat) (v:Value) (x:Value × List Int),ws[i]? = some v->F[i]? = some x->Own1 w base ρ 9 5 v (x.2.map (Value.int .u8))
 done:∀ x ∈ K,Own1 w base ρ 9 5 x.1 (ownl x.2.1 x.2.2)
 side:∀ (j:Nat) (y:Obj),A j = some y->KeepB w ρ (1000 + j) j y
theorem Core.calm {w w':World} {base hb:Nat} {ρ:Nat->Nat} {cnt tot:Int} {vf vw vk vn:Value} {F:List (Value × List Int)} {ws:List Value} {K:List (Value × Nat × Nat)} {A:Nat->Option Obj} (h:Core w base hb ρ cnt tot vf vw vk vn F ws K A) (hc:Calm w w') :
 Core w' base hb ρ cnt tot vf vw vk vn F ws K A where
 row:=h.row.calm hc
 rol:=h.rol
 low:=h.low
 fresh:=h.fresh.same hc.heap
 was:=h.was.same hc.heap
 wlen:=h.wlen
 kept:=h.kept.same hc.heap
 nums:=h.nums.same hc.heap
 item:=fun i x hx=>⟨(h.item i x hx).1.same hc.heap,(h.item i x hx).2⟩
 copy:=fun i v x hv hx=>(h.copy i v x hv hx).same hc.heap
 done:=fun x hx=>(h.done x hx).same hc.heap
 side:=fun j y hy=>(h.side j y hy).same hc.heap
theorem look_of (base hb:Nat) (ρ:Nat->Nat) (cnt tot:Int) (vf vw vk vn:Value) (F:List (Value × List Int)) (ws:List Value) (K:List (Value × Nat × Nat)) {A:Nat->Option Obj} (w:World) (hF:F.length <= 1000000) (h:Core w base hb ρ cnt tot vf vw vk vn F ws K A) :
 Calls Tryz.prog 77 #[.pointer (some ⟨hb,0,none⟩)] w fun e w'=>e = .returned (.tuple #[])/\Calm w w':=by
 obtain ⟨af,cf,rfl,h1,h2,hfc⟩:=h.fresh.open
 obtain ⟨aw,cw,rfl,h3,h4,hwc⟩:=h.was.open
 rw [List.length_map] at hfc h1
 show Calls _ _ _ _ _
 have hwl:=h.wlen
 have HC:=Lib.hid h
 have hr:=h.row
 rw [List.length_map] at hr
 obtain ⟨n,hn⟩:∃ n,n = F.length:=⟨_,rfl⟩
 rw [<- hn] at hfc h1 hwl hr hF
 rw [hwl] at hwc h3 hr
 have HR:=Lib.hid hr
 have HFC:=Lib.hid hfc
 have HWC:=Lib.hid hwc
 have HN:=Lib.hid hn
 have HWL:=Lib.hid hwl
 clear hfc hwc hn h hr hwl
 go_enter Tryz.func77,Tryz.ntmps77
 go_wp2
 go_loopw [2] (fun s wr=>∃ i:Nat,i <= n/\s = .int .i64 i/\Calm w wr) (fun s _=>n - (intOf s).toNat)
 case atStart=>exact ⟨0,Nat.zero_le _,rfl,Calm.refl _⟩
 case round=>
  obtain ⟨i,hi,rfl,hCa⟩:=hrel
  have hr:=HR.out.calm hCa
  have q2:=hr.cell 2
  have q3:=hr.cell 3
  have q6:=hr.cell 6
  have f6:=hr.free 6
  simp only [List.getElem?_cons_zero,List.getElem?_cons_succ] at q2 q3 q6
  by_cases hlt:i < n
  ·obtain ⟨bf,rfl,_,_,_,hf⟩:=HFC.out (by omega)
   obtain ⟨bw,rfl,_,_,_,hw⟩:=HWC.out (by omega)
   have e1:=(hCa.cell _).trans (hf i hlt).1
   have e2:=(hCa.cell _).trans (hw i hlt).1
   obtain ⟨x,hx⟩:∃ x,F[i]? = some x:=⟨F[i]'(by have:=HN.out;omega),by simp⟩
   obtain ⟨v,hv⟩:∃ v,ws[i]? = some v:=⟨ws[i]'(by have:=HWL.out;omega),by simp⟩
   rw [List.getElem?_map,hx] at e1
   rw [hv] at e2
   change _ = some x.1 at e1
   have hO:=HC.out.item i x hx
   have hW:=HC.out.copy i v x hv hx
   have hs1:∀ w',Calm w w'->Held w' x.1 x.2:=fun w' hc=>held_of_own (hO.1.same hc.heap).1 hO.2 (by simp)
   have hs2:∀ w',Calm w w'->Held w' v x.2:=fun w' hc=>held_of_own (hW.same hc.heap).1 hO.2 (by simp)
   obtain ⟨u,hu⟩:∃ u,x.1 = u:=⟨_,rfl⟩
   have hmk:∀ w':World,Calm w w'->w'.cell? ⟨hb,6,none⟩ = some (.bool false)/\w'.cell? ⟨hb,2,none⟩ = some (.slice (some ⟨bf,0,none⟩) n cf)/\w'.cell? ⟨hb,3,none⟩ = some (.slice (some ⟨bw,0,none⟩) n cw) /\
    w'.cell? ⟨bf,i,none⟩ = some u/\w'.cell? ⟨bw,i,none⟩ = some v/\w'.frozen? ⟨hb,6,none⟩ = false/\Calm w w':=fun w' hc=>by
    have hr':=HR.out.calm hc
    refine ⟨by simpa using hr'.cell 6,by simpa using hr'.cell 2,by simpa using hr'.cell 3,?_,?_,hr'.free 6,hc⟩
    ·rw [hc.cell,<- hCa.cell,e1,hu]
    ·rw [hc.cell,<- hCa.cell,e2]
   rw [hu] at e1 hs1
   have HCA:=Lib.hid hCa
   have HS1:=Lib.hid hs1
   have HS2:=Lib.hid hs2
   have HMK:=Lib.hid hmk
   clear hf hw hO hW hs1 hs2 hCa hr hu hx hv hmk q3 q6 f6 e1 e2
   have i1:(i:Int) < n:=by omega
   have i2:(0:Int) <= (i:Int):=by omega
   go_wp2_with fail
   go_region_held3 (fun w':World=>w'.cell? ⟨hb,6,none⟩ = some (.bool false)/\w'.cell? ⟨hb,2,none⟩ = some (.slice (some ⟨bf,0,none⟩) n cf)/\w'.cell? ⟨hb,3,none⟩ = some (.slice (some ⟨bw,0,none⟩) n cw) /\
    w'.cell? ⟨bf,i,none⟩ = some u/\w'.cell? ⟨bw,i,none⟩ = some v/\w'.frozen? ⟨hb,6,none⟩ = false/\Calm w w') (first | exact HMK.out _ HCA.out.drew | exact HMK.out _ (last7 (by assumption)) | exact HMK.out _ (Calm.set (last7 (by assumption)) (Row.calm HR.out (last7 (by assumption))) rfl))
    (first
      | (go_at_call 15;refine (same_at _ _ x.2 _ (HS1.out _ (last7 (by assumption))) (HS2.out _ (last7 (by assumption)))).mono ?_;rintro e w' ⟨rfl,rfl⟩))
   have hS:=last7 (by assumption)
   go_wp2
   go_roundw
   case rel=>exact ⟨i + 1,hlt,by go_num,hS⟩
   case measure=>simp [intOf];omega
  ·obtain rfl:i = n:=by omega
   go_wp2
   go_end0
   exact ⟨rfl,hCa⟩
theorem holds_of (base hb:Nat) (ρ:Nat->Nat) (cnt tot:Int) (vf vw vk vn:Value) (F:List (Value × List Int)) (ws:List Value) (K:List (Value × Nat × Nat)) {A:Nat->Option Obj} (w:World) (hF:F.length <= 1000000) (hK:K.length <= 1000000)
 (hKl:∀ x ∈ K,x.2.1 <= 1000000/\x.2.2 <= 1000000000000) (h:Core w base hb ρ cnt tot vf vw vk vn F ws K A) :
 Calls Tryz.prog 60 #[.pointer (some ⟨hb,0,none⟩)] w fun e w'=>e = .returned (.bool true)/\Calm w w':=by
 have HC:=Lib.hid h
 obtain ⟨ak,ck,rfl,h1,h2,hkc⟩:=h.kept.open
 obtain ⟨an,cn,rfl,h3,h4,hnc⟩:=h.nums.open
 rw [List.length_map] at hkc h1 hnc h3
 have hr:=h.row
 rw [List.length_map,List.length_map] at hr
 obtain ⟨n,hn⟩:∃ n,n = K.length:=⟨_,rfl⟩
 rw [<- hn] at hkc h1 hr hK hnc h3
 have HR:=Lib.hid hr
 have HKC:=Lib.hid hkc
 have HNC:=Lib.hid hnc
 have HN:=Lib.hid hn
 have HKL:=Lib.hid hKl
 have HF:=Lib.hid hF
 clear hkc hnc hn h hr hKl hF
 go_enter Tryz.func60,Tryz.ntmps60
 go_wp2_with fail
 refine (look_of base hb ρ cnt tot vf vw _ _ F ws K _ HF.out HC.out).mono ?_
 rintro e w1 ⟨rfl,hCa⟩
 go_wp2
 go_loopw [3] (fun s wr=>∃ i:Nat,i <= n/\s = .int .i64 i/\Calm w wr) (fun s _=>n - (intOf s).toNat)
 case atStart=>exact ⟨0,Nat.zero_le _,rfl,hCa⟩
 case round=>
  clear hCa
  obtain ⟨i,hi,rfl,hCa⟩:=hrel
  have hr:=HR.out.calm hCa
  have q4:=hr.cell 4
  simp only [List.getElem?_cons_zero,List.getElem?_cons_succ] at q4
  by_cases hlt:i < n
  ·have i1:(i:Int) < n:=by omega
   have i2:(0:Int) <= (i:Int):=by omega
   obtain ⟨bk,rfl,_,_,_,hf⟩:=HKC.out (by omega)
   obtain ⟨bn,rfl,_,_,_,hw⟩:=HNC.out (by omega)
   obtain ⟨x,hx⟩:∃ x,K[i]? = some x:=⟨K[i]'(by have:=HN.out;omega),by simp⟩
   have hxm:x ∈ K:=List.mem_of_getElem? hx
   have e1:=(hf i hlt).1
   have e2:=(hw i hlt).1
   rw [List.getElem?_map,hx] at e1 e2
   change _ = some x.1 at e1
   change _ = some (Value.int .i64 (x.2.1:Int)) at e2
   have hO:=HC.out.done x hxm
   obtain ⟨l,hl⟩:∃ l,l = x.2.1:=⟨_,rfl⟩
   obtain ⟨m,hm⟩:∃ m,m = x.2.2:=⟨_,rfl⟩
   have hlm:=HKL.out x hxm
   rw [<- hl] at e2 hO hlm
   rw [<- hm] at hO hlm
   obtain ⟨ag,cg,hv,_,_,hgc⟩:=hO.open
   rw [ownl_length] at hv hgc
   rw [hv] at e1
   have e1':=(hCa.cell _).trans e1
   have HLM:=Lib.hid hlm
   have HGC:=Lib.hid hgc
   have E1:=Lib.hid e1
   have E2:=Lib.hid e2
   have HCA:=Lib.hid hCa
   clear hf hw hx hxm hO hl hm hlm hv hgc e1 e2 hCa hr
   go_wp2
   go_loopw [4] (fun s wr=>∃ j:Nat,j <= m/\s = .int .i64 j/\Calm w wr) (fun s _=>m - (intOf s).toNat)
   case atStart=>exact ⟨0,Nat.zero_le _,rfl,HCA.out⟩
   case round=>
    clear e1' q4
    obtain ⟨j,hj,rfl,hCa⟩:=hrel
    have hr:=HR.out.calm hCa
    have q4:=hr.cell 4
    simp only [List.getElem?_cons_zero,List.getElem?_cons_succ] at q4
    have e1:=(hCa.cell _).trans E1.out
    by_cases hlt2:j < m
    ·have j1:(j:Int) < m:=by omega
     have j2:(0:Int) <= (j:Int):=by omega
     have j3:m <= 1000000000000:=by have:=HLM.out;omega
     obtain ⟨bg,rfl,_,_,_,hg⟩:=HGC.out (by omega)
     have e3:=(hg j hlt2).1
     rw [ownl_get l hlt2] at e3
     obtain ⟨o,ho⟩:∃ o,o = ownv l j:=⟨_,rfl⟩
     rw [<- ho] at e3
     have hoo:(o != o) = false:=by simp
     have hmk:∀ w':World,Calm w w'->w'.cell? ⟨hb,6,none⟩ = some (.bool false)/\w'.cell? ⟨hb,4,none⟩ = some (.slice (some ⟨bk,0,none⟩) n ck)/\w'.cell? ⟨hb,5,none⟩ = some (.slice (some ⟨bn,0,none⟩) n cn) /\
      w'.cell? ⟨bk,i,none⟩ = some (.slice (some ⟨bg,0,none⟩) m cg)/\w'.cell? ⟨bg,j,none⟩ = some (.int .u8 o)/\w'.cell? ⟨bn,i,none⟩ = some (.int .i64 l)/\w'.frozen? ⟨hb,6,none⟩ = false/\Calm w w':=fun w' hc=>by
      have hr':=HR.out.calm hc
      refine ⟨by simpa using hr'.cell 6,by simpa using hr'.cell 4,by simpa using hr'.cell 5,?_,?_,?_,hr'.free 6,hc⟩
      ·rw [hc.cell,E1.out]
      ·rw [hc.cell,e3]
      ·rw [hc.cell,E2.out]
     have HMK:=Lib.hid hmk
     have HO:=Lib.hid ho
     have HCA:=Lib.hid hCa
     clear hmk hg e3 ho hCa hr
     go_wp2_with fail
     go_region_held3 (fun w':World=>w'.cell? ⟨hb,6,none⟩ = some (.bool false)/\w'.cell? ⟨hb,4,none⟩ = some (.slice (some ⟨bk,0,none⟩) n ck)/\w'.cell? ⟨hb,5,none⟩ = some (.slice (some ⟨bn,0,none⟩) n cn) /\
      w'.cell? ⟨bk,i,none⟩ = some (.slice (some ⟨bg,0,none⟩) m cg)/\w'.cell? ⟨bg,j,none⟩ = some (.int .u8 o)/\w'.cell? ⟨bn,i,none⟩ = some (.int .i64 l)/\w'.frozen? ⟨hb,6,none⟩ = false/\Calm w w')
      (first | exact HMK.out _ HCA.out.drew | exact HMK.out _ (last8 (by assumption)) | exact HMK.out _ (Calm.set (last8 (by assumption)) (Row.calm HR.out (last8 (by assumption))) rfl))
      (first
        | (go_at_call 78;refine (own_of l j (by have:=HLM.out;omega) (by have:=HLM.out;omega) _).mono ?_;rintro e w' ⟨rfl,rfl⟩;rw [<- HO.out]))
     have hS:=last8 (by assumption)
     go_wp2
     go_roundw
     case rel=>exact ⟨j + 1,hlt2,by go_num,hS⟩
     case measure=>simp [intOf];omega
    ·obtain rfl:j = m:=by omega
     go_wp2
     go_roundw
     case rel=>exact ⟨i + 1,hlt,by go_num,hCa⟩
     case measure=>simp [intOf];omega
  ·obtain rfl:i = n:=by omega
   have q6:=hr.cell 6
   simp only [List.getElem?_cons_zero,List.getElem?_cons_succ] at q6
   go_wp2
   go_ret
   exact ⟨rfl,hCa⟩
structure WCore (w:World) (base hb:Nat) (ρ:Nat->Nat) (cnt tot:Int) (vf vw vk vn:Value) (n:Nat) (v:Nat->Value) (c:Nat->List Value) (R:Nat->Nat) (KV KN:List Value) (K:List (Value × Nat × Nat)) (A:Nat->Option Obj):Prop where
 row:Row w hb 83 [.int .i64 cnt,.int .i64 tot,vf,vw,vk,vn,.bool false]
 rol:ρ hb = 0
 low:base <= hb
 fresh:Own1 w base ρ 1 27 vf ((List.range n).map v)
 kept:Own1 w base ρ 2 27 vk KV
 nums:Own1 w base ρ 3 3 vn KN
 item:∀ t,t < n->Own1 w base ρ (R t) 5 (v t) (c t)
 done:∀ x ∈ K,Own1 w base ρ 9 5 x.1 (ownl x.2.1 x.2.2)
 side:∀ (j:Nat) (y:Obj),A j = some y->KeepB w ρ (1000 + j) j y
section
variable {w w':World} {base hb:Nat} {ρ:Nat->Nat} {cnt tot:Int} {vf vw vk vn:Value} {n:Nat} {v:Nat->Value} {c:Nat->List Value} {R:Nat->Nat} {KV KN:List Value} {K:List (Value × Nat × Nat)} {A:Nat->Option Obj}
theorem WCore.calm (h:WCore w base hb ρ cnt tot vf vw vk vn n v c R KV KN K A) (hc:Calm w w'):WCore w' base hb ρ cnt tot vf vw vk vn n v c R KV KN K A where
 row:=h.row.calm hc
 rol:=h.rol
 low:=h.low
 fresh:=h.fresh.same hc.heap
 kept:=h.kept.same hc.heap
 nums:=h.nums.same hc.heap
 item:=fun t ht=>(h.item t ht).same hc.heap
 done:=fun x hx=>(h.done x hx).same hc.heap
 side:=fun j y hy=>(h.side j y hy).same hc.heap
theorem WCore.put (h:WCore w base hb ρ cnt tot vf vw vk vn n v c (fun t=>10 + t) KV KN K A) {i j b cap:Nat} (hi:i < n) (hi9:i < 990) (hv:v i = .slice (some ⟨b,0,none⟩) (c i).length cap) (hj:j < (c i).length) (x:Value) :
 WCore (w.setCell ⟨b,j,none⟩ x) base hb ρ cnt tot vf vw vk vn n v (fun t=>if t = i then (c i).set j x else c t) (fun t=>10 + t) KV KN K A:=by
 have hIt:=h.item i hi
 have hρ:ρ b = 10 + i:=hIt.2 b (by rw [hv];rfl)
 have hset:∀ q,q ≠ b->(w.setCell ⟨b,j,none⟩ x).heap[q]? = w.heap[q]?:=fun q hq=>Below.heap_setCell _ _ _ _ hq
 refine ⟨?_,h.rol,h.low,?_,?_,?_,?_,?_,?_⟩
 ·exact h.row.other _ _ (fun e=>by have:=h.rol;change hb = b at e;rw [e] at this;omega)
 ·exact h.fresh.move fun q _ hr=>⟨hset q (fun e=>by subst e;omega),hr⟩
 ·exact h.kept.move fun q _ hr=>⟨hset q (fun e=>by subst e;omega),hr⟩
 ·exact h.nums.move fun q _ hr=>⟨hset q (fun e=>by subst e;omega),hr⟩
 ·intro t ht
  by_cases e:t = i
  ·subst e
   rw [if_pos rfl]
   refine ⟨?_,hIt.2⟩
   have:=hIt.1
   rw [hv] at this ⊢
   rw [List.length_set]
   exact own_set_v this j x hj
  ·rw [if_neg e]
   exact (h.item t ht).move fun q _ hr=>⟨hset q (fun e2=>by subst e2;omega),hr⟩
 ·intro x hx
  exact (h.done x hx).move fun q _ hr=>⟨hset q (fun e=>by subst e;omega),hr⟩
 ·intro j y hy
  exact (h.side j y hy).move fun q _ hr=>⟨hset q (fun e=>by subst e;omega),hr⟩
theorem WCore.alloc (h:WCore w base hb ρ cnt tot vf vw vk vn n v c R KV KN K A) (o:Obj):WCore (w.alloc o) base hb ρ cnt tot vf vw vk vn n v c R KV KN K A where
 row:=h.row.alloc o
 rol:=h.rol
 low:=h.low
 fresh:=h.fresh.alloc o
 kept:=h.kept.alloc o
 nums:=h.nums.alloc o
 item:=fun t ht=>(h.item t ht).alloc o
 done:=fun x hx=>(h.done x hx).alloc o
 side:=fun j y hy=>(h.side j y hy).alloc o
theorem WCore.congr {c':Nat->List Value} {R':Nat->Nat} (h:WCore w base hb ρ cnt tot vf vw vk vn n v c R KV KN K A) (hc:∀ t,t < n->c t = c' t) (hR:∀ t,t < n->R t = R' t):WCore w base hb ρ cnt tot vf vw vk vn n v c' R' KV KN K A where
 row:=h.row
 rol:=h.rol
 low:=h.low
 fresh:=h.fresh
 kept:=h.kept
 nums:=h.nums
 item:=fun t ht=>by rw [<- hc t ht,<- hR t ht];exact h.item t ht
 done:=h.done
 side:=h.side
theorem WCore.growItem {row:Option Nat} {g i:Nat} (h:WCore w base hb ρ cnt tot vf vw vk vn n v c R KV KN K A) (hg:w.grownBy w' row) (hrow:∀ b,row = some b->ρ b = 10 + i) (hnew:row = some g\/g = w.heap.size)
 (hR:∀ t,t < n->t ≠ i->R t ≠ 10 + i) (hRi:R i = 10 + i) (hi:i < n) (hi9:i < 990) (hit:w'.ownsRow base 5 1 (v i) (c i).length (c i)):WCore w' base hb (fun q=>if q = g then 10 + i else ρ q) cnt tot vf vw vk vn n v c R KV KN K A where
 row:=h.row.grow (by rw [h.rol];omega) hg hrow hnew
 rol:=by
  have:=(grow_role hg hrow hnew hb h.row.lt (by rw [h.rol];omega)).2
  exact this.trans h.rol
 low:=h.low
 fresh:=h.fresh.grow (by omega) hg hrow hnew
 kept:=h.kept.grow (by omega) hg hrow hnew
 nums:=h.nums.grow (by omega) hg hrow hnew
 item:=fun t ht=>by
  by_cases e:t = i
  ·subst e
   rw [hRi]
   refine ⟨hit,fun b hb2=>?_⟩
   show (if b = g then 10 + t else ρ b) = 10 + t
   split
   ·rfl
   ·have:=(h.item t ht).2 b hb2
    rw [this,hRi]
  ·exact (h.item t ht).grow (hR t ht e) hg hrow hnew
 done:=fun x hx=>(h.done x hx).grow (by omega) hg hrow hnew
 side:=fun j y hy=>(h.side j y hy).grow (by omega) hg hrow hnew
theorem WCore.growKept {row:Option Nat} {g cap:Nat} {N:Nat} {KV':List Value} (h:WCore w base hb ρ cnt tot vf vw vk vn n v c R KV KN K A) (hg:w.grownBy w' row) (hrow:∀ b,row = some b->ρ b = 2) (hnew:row = some g\/g = w.heap.size)
 (hR:∀ t,t < n->9 <= R t) (hN:KV'.length = N) (hk:w'.ownsRow base 27 1 (.slice (some ⟨g,0,none⟩) N cap) N KV') :
 WCore (w'.setCell ⟨hb,4,none⟩ (.slice (some ⟨g,0,none⟩) N cap)) base hb (fun q=>if q = g then 2 else ρ q) cnt tot vf vw (.slice (some ⟨g,0,none⟩) N cap) vn n v c R KV' KN K A:=by
 have hr0:(fun q=>if q = g then 2 else ρ q) hb = 0:=((grow_role hg hrow hnew hb h.row.lt (by rw [h.rol];omega)).2).trans h.rol
 have hne:∀ r0,r0 ≠ 0->(fun q=>if q = g then 2 else ρ q) (⟨hb,4,none⟩:Addr).block ≠ r0:=fun r0 h0 e=>h0 (by rw [<- e];exact hr0)
 refine ⟨?_,hr0,h.low,?_,?_,?_,?_,?_,?_⟩
 ·have:=(h.row.grow (by rw [h.rol];omega) hg hrow hnew).put 4 (.slice (some ⟨g,0,none⟩) N cap)
  exact this
 ·exact (h.fresh.grow (by omega) hg hrow hnew).set (hne 1 (by omega)) _
 ·exact Own1.set ⟨by rw [hN];exact hk,fun b hb2=>by cases hb2;show (if g = g then 2 else ρ g) = 2;rw [if_pos rfl]⟩ (hne 2 (by omega)) _
 ·exact (h.nums.grow (by omega) hg hrow hnew).set (hne 3 (by omega)) _
 ·intro t ht
  have:=hR t ht
  exact ((h.item t ht).grow (by omega) hg hrow hnew).set (hne _ (by omega)) _
 ·intro x hx
  exact ((h.done x hx).grow (by omega) hg hrow hnew).set (hne 9 (by omega)) _
 ·intro j y hy
  exact ((h.side j y hy).grow (by omega) hg hrow hnew).set (hne _ (by omega)) _
theorem WCore.growNums {row:Option Nat} {g cap:Nat} {N:Nat} {KN':List Value} (h:WCore w base hb ρ cnt tot vf vw vk vn n v c R KV KN K A) (hg:w.grownBy w' row) (hrow:∀ b,row = some b->ρ b = 3) (hnew:row = some g\/g = w.heap.size)
 (hR:∀ t,t < n->9 <= R t) (hN:KN'.length = N) (hk:w'.ownsRow base 3 1 (.slice (some ⟨g,0,none⟩) N cap) N KN') :
 WCore (w'.setCell ⟨hb,5,none⟩ (.slice (some ⟨g,0,none⟩) N cap)) base hb (fun q=>if q = g then 3 else ρ q) cnt tot vf vw vk (.slice (some ⟨g,0,none⟩) N cap) n v c R KV KN' K A:=by
 have hr0:(fun q=>if q = g then 3 else ρ q) hb = 0:=((grow_role hg hrow hnew hb h.row.lt (by rw [h.rol];omega)).2).trans h.rol
 have hne:∀ r0,r0 ≠ 0->(fun q=>if q = g then 3 else ρ q) (⟨hb,5,none⟩:Addr).block ≠ r0:=fun r0 h0 e=>h0 (by rw [<- e];exact hr0)
 refine ⟨?_,hr0,h.low,?_,?_,?_,?_,?_,?_⟩
 ·have:=(h.row.grow (by rw [h.rol];omega) hg hrow hnew).put 5 (.slice (some ⟨g,0,none⟩) N cap)
  exact this
 ·exact (h.fresh.grow (by omega) hg hrow hnew).set (hne 1 (by omega)) _
 ·exact (h.kept.grow (by omega) hg hrow hnew).set (hne 2 (by omega)) _
 ·exact Own1.set ⟨by rw [hN];exact hk,fun b hb2=>by cases hb2;show (if g = g then 3 else ρ g) = 3;rw [if_pos rfl]⟩ (hne 3 (by omega)) _
 ·intro t ht
  have:=hR t ht
  exact ((h.item t ht).grow (by omega) hg hrow hnew).set (hne _ (by omega)) _
 ·intro x hx
  exact ((h.done x hx).grow (by omega) hg hrow hnew).set (hne 9 (by omega)) _
 ·intro j y hy
  exact ((h.side j y hy).grow (by omega) hg hrow hnew).set (hne _ (by omega)) _
theorem WCore.settle {i:Nat} {x:Value × Nat × Nat} (h:WCore w base hb ρ cnt tot vf vw vk vn n v c R KV KN K A) (hi9:i < 990) (hR:∀ t,t < n->t ≠ i->R t ≠ 10 + i) (hx:Own1 w base ρ (10 + i) 5 x.1 (ownl x.2.1 x.2.2)\/Own1 w base ρ 9 5 x.1 (ownl x.2.1 x.2.2)) :
 WCore w base hb (fun q=>if ρ q = 10 + i then 9 else ρ q) cnt tot vf vw vk vn n v c (fun t=>if R t = 10 + i then 9 else R t) KV KN (K ++ [x]) A:=by
 have hk:∀ {r:Nat} {e:TypeId} {u:Value} {xs:List Value},r ≠ 10 + i->Own1 w base ρ r e u xs->Own1 w base (fun q=>if ρ q = 10 + i then 9 else ρ q) r e u xs:=fun hr ho=>ho.move fun q _ hq=>⟨rfl,by
  show (if ρ q = 10 + i then 9 else ρ q) = _
  rw [if_neg (by rw [hq];exact hr),hq]⟩
 have hj9:∀ {e:TypeId} {u:Value} {xs:List Value},Own1 w base ρ (10 + i) e u xs->Own1 w base (fun q=>if ρ q = 10 + i then 9 else ρ q) 9 e u xs:=fun ho=>ho.move fun q _ hq=>⟨rfl,by
  show (if ρ q = 10 + i then 9 else ρ q) = _
  rw [if_pos hq]⟩
 refine ⟨h.row,?_,h.low,hk (by omega) h.fresh,hk (by omega) h.kept,hk (by omega) h.nums,fun t ht=>?_,fun y hy=>?_,fun j y hy=>(h.side j y hy).move fun q _ hq=>⟨rfl,by
  show (if ρ q = 10 + i then 9 else ρ q) = _
  rw [if_neg (by rw [hq];omega),hq]⟩⟩
 ·show (if ρ hb = 10 + i then 9 else ρ hb) = 0
  rw [h.rol,if_neg (by omega)]
 ·show Own1 _ _ _ (if R t = 10 + i then 9 else R t) _ _ _
  by_cases e:R t = 10 + i
  ·rw [if_pos e]
   have:=h.item t ht
   rw [e] at this
   exact hj9 this
  ·rw [if_neg e]
   exact hk e (h.item t ht)
 ·rcases List.mem_append.1 hy with hy | hy
  ·exact hk (by omega) (h.done y hy)
  ·obtain rfl:y = x:=by simpa using hy
   rcases hx with hx | hx
   ·exact hj9 hx
   ·exact hk (by omega) hx
end
theorem ownl_snoc (l p:Nat):ownl l p ++ [.int .u8 (ownv l p)] = ownl l (p + 1):=by
 simp [ownl,utab,List.range_succ]
theorem info_bytes:(Tryz.prog.info? 27).map (fun i=>(i.zero,i.size,i.bytes)) = some (some (.slice none 0 0),1,24):=by kernel_rfl
theorem info_num:(Tryz.prog.info? 3).map (fun i=>(i.zero,i.size,i.bytes)) = some (some (.int .i64 0),1,8):=by kernel_rfl
theorem take_set_own {l j:Nat} {cs:List Value} (h:cs.take j = ownl l j) (hj:j < cs.length):(cs.set j (.int .u8 (ownv l j))).take (j + 1) = ownl l (j + 1):=by
 apply List.ext_getElem?
 intro t
 rw [List.getElem?_take]
 by_cases ht:t < j + 1
 ·rw [if_pos ht,ownl_get l ht,List.getElem?_set]
  by_cases e:j = t
  ·subst e;rw [if_pos rfl,if_pos hj]
  ·rw [if_neg e]
   have h2:=congrArg (fun z=>z[t]?) h
   simp only [List.getElem?_take] at h2
   rw [if_pos (by omega),ownl_get l (by omega)] at h2
   exact h2
 ·rw [if_neg ht,List.getElem?_eq_none (by rw [ownl_length];omega)]
theorem own_row_cell {w:World} {base:Nat} {ρ:Nat->Nat} {r:Nat} {e:TypeId} {u:Value} {n:Nat} {v:Nat->Value} (h:Own1 w base ρ r e u ((List.range n).map v)):∃ a cap,u = .slice a n cap/\(0 < n->∃ b,a = some ⟨b,0,none⟩/\∀ i,i < n->w.cell? ⟨b,i,none⟩ = some (v i)):=by
 obtain ⟨a,cap,rfl,h1,h2,h3⟩:=h.open
 simp only [List.length_map,List.length_range] at h3
 refine ⟨a,cap,by simp,fun hp=>?_⟩
 obtain ⟨b,rfl,_,_,_,hc⟩:=h3 hp
 refine ⟨b,rfl,fun i hi=>?_⟩
 rw [(hc i hi).1]
 simp [hi]
theorem write_of (base hb:Nat) (ρ:Nat->Nat) (cnt tot:Int) (vf vw vk vn:Value) (F:List (Value × List Int)) (ws:List Value) (K:List (Value × Nat × Nat)) {A:Nat->Option Obj} (w:World) (hF:F.length <= 100) (hFl:∀ x ∈ F,x.2.length <= 1000000000) (hK:K.length <= 100000) (htot:0 <= tot/\tot <= 1000000000000)
 (hKl:∀ x ∈ K,x.2.1 <= 1000000/\x.2.2 <= 1000000000000) (h:Core w base hb ρ cnt tot vf vw vk vn F ws K A) :
 Calls Tryz.prog 59 #[.pointer (some ⟨hb,0,none⟩)] w fun e w'=>e = .returned (.tuple #[])/\Below base w w'/\∃ ρ' vk' vn' K',Core w' base hb ρ' cnt tot (.slice none 0 0) (.slice none 0 0) vk' vn' [] [] K' A/\K'.length = K.length + 2 * F.length/\(∀ x ∈ K',x.2.1 <= 1000000/\x.2.2 <= 1000000000000):=by
 have HC:=Lib.hid h
 obtain ⟨n,hn⟩:∃ n,n = F.length:=⟨_,rfl⟩
 obtain ⟨f,hf⟩:∃ f,f = K.length:=⟨_,rfl⟩
 obtain ⟨v,hv⟩:∃ v:Nat->Value,v = fun t=>(F.getD t (.slice none 0 0,[])).1:=⟨_,rfl⟩
 obtain ⟨c0,hc0⟩:∃ c0:Nat->List Value,c0 = fun t=>(F.getD t (.slice none 0 0,[])).2.map (Value.int .u8):=⟨_,rfl⟩
 obtain ⟨len,hlen⟩:∃ len:Nat->Nat,len = fun t=>(c0 t).length:=⟨_,rfl⟩
 have hmap:F.map (·.1) = (List.range n).map v:=by
  apply List.ext_getElem?
  intro t
  by_cases ht:t < n
  ·simp [hv,List.getD,show t < F.length by omega,ht]
  ·rw [List.getElem?_eq_none (by simp;omega),List.getElem?_eq_none (by simp;omega)]
 have hw0:WCore w base hb ρ cnt tot vf vw vk vn n v c0 (fun t=>10 + t) (K.map (·.1)) (K.map fun (x:Value × Nat × Nat)=>Value.int .i64 (x.2.1:Int)) K A:=by
  refine ⟨h.row,h.rol,h.low,by rw [<- hmap];exact h.fresh,h.kept,h.nums,fun t ht=>?_,h.done,h.side⟩
  have hx:F[t]? = some (F.getD t (.slice none 0 0,[])):=by simp [List.getD,show t < F.length by omega]
  have:=(h.item t _ hx).1
  rw [hv,hc0]
  exact this
 have hlb:∀ t,len t <= 1000000000:=fun t=>by
  rw [hlen,hc0]
  simp only [List.length_map]
  by_cases ht:t < F.length
  ·have:F.getD t (.slice none 0 0,[]) ∈ F:=by simp [List.getD,ht]
   exact hFl _ this
  ·simp [List.getD,List.getElem?_eq_none (show F.length <= t by omega)]
 have hl0:∀ t,(c0 t).length = len t:=fun t=>by rw [hlen]
 have hn1:n <= 100:=by omega
 have hf1:f <= 100000:=by omega
 obtain ⟨af,cf,hvf,hfc⟩:=own_row_cell hw0.fresh
 obtain ⟨ak,ck,hvk,hck1,hck2,_⟩:=hw0.kept.open
 rw [List.length_map,<- hf] at hvk hck1
 have hdrop:∀ w',WCore w' base hb ρ cnt tot vf vw vk vn n v c0 (fun t=>10 + t) (K.map (·.1)) (K.map fun (x:Value × Nat × Nat)=>Value.int .i64 (x.2.1:Int)) K A->True:=fun _ _=>trivial
 clear hdrop
 have HN:=Lib.hid hn
 have HF:=Lib.hid hf
 have HW0:=Lib.hid hw0
 have HLB:=Lib.hid hlb
 have HL0:=Lib.hid hl0
 have HKL:=Lib.hid hKl
 have HFC:=Lib.hid hfc
 have HFF:=Lib.hid hF
 have HVK:=Lib.hid hvk
 have HVF:=Lib.hid hvf
 have HT:=Lib.hid htot
 clear hn hf hv hc0 hlen hmap hw0 hlb hl0 hKl hfc h hF hFl hvk hvf htot
 go_enter Tryz.func59,Tryz.ntmps59
 go_wp2_with fail
 refine (look_of base hb ρ cnt tot vf vw vk vn F ws K _ (by have:=HFF.out;omega) HC.out).mono ?_
 rintro e w1 ⟨rfl,hCa⟩
 have hw1:=HW0.out.calm hCa
 have q4:=hw1.row.cell 4
 simp only [List.getElem?_cons_zero,List.getElem?_cons_succ] at q4
 rw [HVK.out] at q4
 have HB1:=Lib.hid (hCa.below base)
 have HW1:=Lib.hid hw1
 clear hCa hw1
 go_wp2
 clear q4
 go_loopw [3] (fun s wr=>∃ (i:Nat) (c:Nat->List Value),i <= n/\s = .int .i64 i/\WCore wr base hb ρ cnt tot vf vw vk vn n v c (fun t=>10 + t) (K.map (·.1)) (K.map fun (x:Value × Nat × Nat)=>Value.int .i64 (x.2.1:Int)) K A/\(∀ t,(c t).length = len t)/\(∀ t,t < i->c t = ownl (f + t) (len t))/\Below base w wr) (fun s _=>n - (intOf s).toNat)
 case atStart=>exact ⟨0,c0,Nat.zero_le _,rfl,HW1.out,HL0.out,fun t ht=>by omega,HB1.out⟩
 case round=>
  obtain ⟨i,c,hi,rfl,hW,hcl,hcd,hB⟩:=hrel
  have q2:=hW.row.cell 2
  simp only [List.getElem?_cons_zero,List.getElem?_cons_succ] at q2
  rw [HVF.out] at q2
  by_cases hlt:i < n
  ·have i1:(i:Int) < n:=by omega
   obtain ⟨bf,haf,hfcell⟩:=HFC.out (by omega)
   subst haf
   have HW:=Lib.hid hW
   have HB:=Lib.hid hB
   have HCL:=Lib.hid hcl
   have HCD:=Lib.hid hcd
   obtain ⟨l,hl⟩:∃ l,l = f + i:=⟨_,rfl⟩
   have hlc:(f:Int) + (i:Int) = (l:Int):=by omega
   obtain ⟨av,cv,hvi,_,_,_⟩:=(hW.item i hlt).open
   rw [hcl] at hvi
   have HVI:=Lib.hid hvi
   have HL:=Lib.hid hl
   have hln:=HLB.out i
   obtain ⟨m,hm⟩:∃ m,m = len i:=⟨_,rfl⟩
   rw [<- hm] at hln HVI
   have HM:=Lib.hid hm
   clear hW hB hcl hcd hvi hl hm
   go_wp2
   clear q2
   go_loopw [5] (fun s wr=>∃ (j:Nat) (c':Nat->List Value),j <= m/\s = .int .i64 j/\WCore wr base hb ρ cnt tot vf vw vk vn n v c' (fun t=>10 + t) (K.map (·.1)) (K.map fun (x:Value × Nat × Nat)=>Value.int .i64 (x.2.1:Int)) K A/\(∀ t,(c' t).length = len t)/\(∀ t,t < i->c' t = ownl (f + t) (len t))/\(c' i).take j = ownl l j/\Below base w wr) (fun s _=>m - (intOf s).toNat)
   case atStart=>exact ⟨0,c,Nat.zero_le _,rfl,HW.out,HCL.out,HCD.out,rfl,HB.out⟩
   case round=>
    obtain ⟨j,c',hj,rfl,hW',hcl',hcd',hct,hB'⟩:=hrel
    have q2:=hW'.row.cell 2
    simp only [List.getElem?_cons_zero,List.getElem?_cons_succ] at q2
    rw [HVF.out] at q2
    have e1:wr.cell? ⟨bf,i,none⟩ = some (.slice av m cv):=by
     obtain ⟨a2,c2,hv2,hc2⟩:=own_row_cell hW'.fresh
     rw [HVF.out] at hv2
     injection hv2 with hv2 _ _
     obtain ⟨b2,hb2,hcc⟩:=hc2 (by omega)
     rw [<- hv2] at hb2
     injection hb2 with hb2
     injection hb2 with hb2
     rw [hb2,hcc i hlt,HVI.out]
    by_cases hlt2:j < m
    ·have j1:(j:Int) < m:=by omega
     have j2:(0:Int) <= (j:Int):=by omega
     have i2:(0:Int) <= (i:Int):=by omega
     obtain ⟨a3,c3,hv3,_,_,hg3⟩:=(hW'.item i hlt).open
     rw [HVI.out,hcl',<- HM.out] at hv3
     injection hv3 with hv3a _ hv3c
     subst hv3a hv3c
     obtain ⟨b,rfl,_,hbb,hrb,hcell⟩:=hg3 (by rw [hcl',<- HM.out];omega)
     obtain ⟨z,hz⟩:∃ z,(c' i)[j]? = some z:=⟨(c' i)[j]'(by rw [hcl',<- HM.out];exact hlt2),by simp⟩
     have e2:=(hcell j (by rw [hcl',<- HM.out];exact hlt2)).1
     have f2:=(hcell j (by rw [hcl',<- HM.out];exact hlt2)).2
     rw [hz] at e2
     have HW':=Lib.hid hW'
     have HCL':=Lib.hid hcl'
     have HCD':=Lib.hid hcd'
     have HCT:=Lib.hid hct
     have HB':=Lib.hid hB'
     have HBB:=Lib.hid hbb
     clear hW' hcl' hcd' hct hB' hg3 hcell hz hrb hbb
     go_wp2
     have how:=own_of l j (by have:=HL.out;omega) (by omega) wr.drew
     go_still_tail 12,(by kernel_rfl)
     still_call (how.mono fun e w'' ⟨h1,h2⟩=>⟨h1,h2.symm⟩)
     repeat still_step
     refine wpStill_nil ?_
     change wpList _ _ _ _ _ wr.drew
     have e3:wr.drew.cell? ⟨b,j,none⟩ = some z:=e2
     have f3:wr.drew.frozen? ⟨b,j,none⟩ = false:=f2
     have HWD:Hid (WCore wr.drew base hb ρ cnt tot vf vw vk vn n v c' (fun t=>10 + t) (K.map (·.1)) (K.map fun (x:Value × Nat × Nat)=>Value.int .i64 (x.2.1:Int)) K A):=HW'.out.calm (Calm.refl wr).drew
     have HBD:Hid (Below base w wr.drew):=HB'.out.drew
     clear how e1 e2 f2 q2
     generalize wr.drew = wd at e3 f3 HWD HBD ⊢
     go_wp2
     go_roundw
     case rel=>
      have hlen:∀ t,(if t = i then (c' i).set j (.int .u8 (ownv l j)) else c' t).length = len t:=fun t=>by
       by_cases e:t = i
       ·subst e;rw [if_pos rfl,List.length_set,HCL'.out]
       ·rw [if_neg e,HCL'.out]
      refine ⟨j + 1,_,hlt2,by go_num,HWD.out.put hlt (by omega) (by rw [HCL'.out,<- HM.out];exact HVI.out) (by rw [HCL'.out,<- HM.out];exact hlt2) _,hlen,fun t ht=>?_,?_,HBD.out.setCell HBB.out _⟩
      ·rw [if_neg (by omega)];exact HCD'.out t ht
      ·rw [if_pos rfl]
       exact take_set_own HCT.out (by rw [HCL'.out,<- HM.out];exact hlt2)
     case measure=>simp [intOf];omega
    ·obtain rfl:j = m:=by omega
     go_wp2
     go_roundw
     case rel=>
      refine ⟨i + 1,c',hlt,by go_num,hW',hcl',fun t ht=>?_,hB'⟩
      by_cases e:t = i
      ·subst e
       rw [<- hct.symm.trans (List.take_of_length_le (by rw [hcl',<- HM.out];exact Nat.le_refl _)),<- HL.out,<- HM.out]
      ·exact hcd' t (by omega)
     case measure=>simp [intOf];omega
  ·obtain rfl:n = i:=by omega
   have hW2:WCore wr base hb ρ cnt tot vf vw vk vn n v (fun t=>ownl (f + t) (len t)) (fun t=>if t < 0 then 9 else 10 + t) (K.map (·.1)) (K.map fun (x:Value × Nat × Nat)=>Value.int .i64 (x.2.1:Int)) K A:=
    hW.congr (fun t ht=>hcd t ht) (fun t _=>by rw [if_neg (by omega)])
   have HW:=Lib.hid hW2
   have HB:=Lib.hid hB
   obtain ⟨M,hM⟩:∃ M:Int,M = if (4000:Int) < tot then 4000 else tot:=⟨_,rfl⟩
   have hM2:0 <= M/\M <= 4000:=by
    have:=HT.out
    rw [hM]
    split <;> omega
   have hmin:∀ (ts:Array TypeId) (t:TypeId) (W:World),(Builtin.min_ ts t #[.int .i64 tot,.int .i64 4000]).run Tryz.prog W = .ok (.int .i64 M) W:=fun ts t W=>by rw [run_min_int2,hM]
   obtain ⟨T,hT,hTm⟩:∃ T:Nat,M + 70 = (T:Int)/\T <= 4070:=⟨(M + 70).toNat,by omega,by omega⟩
   clear hM hM2
   have HTT:=Lib.hid hT
   clear hW hB hcl hcd hW2 hT
   go_wp2
   clear q2
   go_loopw [6] (fun s wr=>∃ (i:Nat) (ρ':Nat->Nat) (vk' vn':Value) (K':List (Value × Nat × Nat)),i <= n/\s = .int .i64 i/\WCore wr base hb ρ' cnt tot vf vw vk' vn' n v (fun t=>ownl (f + t) (len t)) (fun t=>if t < i then 9 else 10 + t) (K'.map (·.1)) (K'.map fun (x:Value × Nat × Nat)=>Value.int .i64 (x.2.1:Int)) K' A/\K'.length = f + i/\(∀ x ∈ K',x.2.1 <= 1000000/\x.2.2 <= 1000000000000)/\Below base w wr) (fun s _=>n - (intOf s).toNat)
   case atStart=>exact ⟨0,ρ,vk,vn,K,Nat.zero_le _,rfl,HW.out,HF.out.symm,HKL.out,HB.out⟩
   case round=>
    clear HW HB
    obtain ⟨i,ρ',vk',vn',K',hi,rfl,hW,hKn,hKb,hB⟩:=hrel
    have q2:=hW.row.cell 2
    have q1:=hW.row.cell 1
    simp only [List.getElem?_cons_zero,List.getElem?_cons_succ] at q1 q2
    rw [HVF.out] at q2
    by_cases hlt:i < n
    ·have i1:(i:Int) < n:=by omega
     have i2:(0:Int) <= (i:Int):=by omega
     obtain ⟨bf,haf,_⟩:=HFC.out (by omega)
     subst haf
     obtain ⟨l,hl⟩:∃ l,l = f + i:=⟨_,rfl⟩
     have hlc:(f:Int) + (i:Int) = (l:Int):=by omega
     obtain ⟨av,cv,hvi,_,_,_⟩:=(hW.item i hlt).open
     rw [ownl_length] at hvi
     have e1:wr.cell? ⟨bf,i,none⟩ = some (.slice av (len i) cv):=by
      obtain ⟨a2,c2,hv2,hc2⟩:=own_row_cell hW.fresh
      rw [HVF.out] at hv2
      injection hv2 with hv2 _ _
      obtain ⟨b2,hb2,hcc⟩:=hc2 (by omega)
      rw [<- hv2] at hb2
      injection hb2 with hb2
      injection hb2 with hb2
      rw [hb2,hcc i hlt,hvi]
     have hln:=HLB.out i
     obtain ⟨m,hm⟩:∃ m,m = len i:=⟨_,rfl⟩
     rw [<- hm] at hln hvi e1
     have hG0:Own1 wr base ρ' (10 + i) 5 (v i) (ownl l (m + 0)):=by
      have:=hW.item i hlt
      rw [if_neg (by omega)] at this
      rw [hl,Nat.add_zero,hm]
      exact this
     rw [hvi] at hG0
     have HVI:=Lib.hid hvi
     have HL:=Lib.hid hl
     have HM:=Lib.hid hm
     have HG0:=Lib.hid hG0
     have HW:=Lib.hid hW
     have HB:=Lib.hid hB
     have HKN:=Lib.hid hKn
     have HKB:=Lib.hid hKb
     clear hvi hl hm hG0 hW hB hKn hKb
     go_wp2
     clear q1 q2 e1
     go_loopw [8,9] (fun g s wr=>∃ (k:Nat) (ρ2:Nat->Nat) (gv:Value),gv = g/\k <= T/\s = .int .i64 k/\WCore wr base hb ρ2 cnt tot vf vw vk' vn' n v (fun t=>ownl (f + t) (len t)) (fun t=>if t < i then 9 else 10 + t) (K'.map (·.1)) (K'.map fun (x:Value × Nat × Nat)=>Value.int .i64 (x.2.1:Int)) K' A/\Own1 wr base ρ2 (10 + i) 5 gv (ownl l (m + k))/\Below base w wr) (fun _ s _=>T - (intOf s).toNat)
     case atStart=>exact ⟨0,ρ',_,rfl,Nat.zero_le _,rfl,HW.out,HG0.out,HB.out⟩
     case round=>
      clear HW HB HG0
      obtain ⟨k,ρ2,gv,hgv,hk,rfl,hW,hG,hB⟩:=hrel
      subst hgv
      have q1:=hW.row.cell 1
      simp only [List.getElem?_cons_zero,List.getElem?_cons_succ] at q1
      have hT:=HTT.out
      by_cases hltk:k < T
      ·have k1:(k:Int) < T:=by omega
       obtain ⟨ag,cg,hgf,hgc1,hgc2,_⟩:=hG.open
       rw [ownl_length] at hgf hgc1
       obtain ⟨p,hp⟩:∃ p,p = m + k:=⟨_,rfl⟩
       rw [<- hp] at hgf hgc1 hG
       have hpb:p <= 1000004070:=by omega
       subst hgf
       have HW:=Lib.hid hW
       have HB:=Lib.hid hB
       have HG:=Lib.hid hG
       have HP:=Lib.hid hp
       clear hW hB hG hp hgc1 hgc2
       go_wp2_with fail
       all_goals
        refine (own_of l p (by have:=HL.out;omega) (by omega) _).mono ?_
        rintro e w2 ⟨rfl,rfl⟩
        obtain ⟨i0,hi0,hz0,hz1,hz2⟩:=info_parts info_u8
        have hWa:=HW.out.alloc (.cells #[.int .u8 (ownv l p)] 5)
        have hGa:=HG.out.alloc (.cells #[.int .u8 (ownv l p)] 5)
        have hbz:base <= wr.heap.size:=Nat.le_trans HW.out.low (Nat.le_of_lt HW.out.row.lt)
        have hBa:=HB.out.alloc hbz (.cells #[.int .u8 (ownv l p)] 5)
        obtain ⟨z,hz⟩:∃ z,z = ownv l p:=⟨_,rfl⟩
        have hsn:=ownl_snoc l p
        rw [<- hz] at hWa hGa hBa hsn ⊢
        have hGo:=hGa.1
        rw [ownl_length] at hGo
        have hnw:=cell_one_new wr (.int .u8 z) 5
        have hon:∀ u ∈ [Value.int .u8 z],u.oneCell' = true:=fun u hu=>by simp at hu;subst hu;rfl
        have hm3:p + 1 <= maxLen:=by unfold maxLen;omega
        have hm4:(p + 1) * 1 <= 140737488355328:=by omega
        have hm5:base <= (wr.alloc (.cells #[.int .u8 z] 5)).heap.size:=by simp;omega
        have HWa:=Lib.hid hWa
        have HGa:=Lib.hid hGa
        have HBa:=Lib.hid hBa
        have HGo:=Lib.hid hGo
        have HSN:=Lib.hid hsn
        clear hWa hGa hBa hGo hsn hz q1 hT
        go_wp2_with (at_builtin;refine wpList_append_keep rfl (.tmp 83) (.tmp 88) 27 rfl base 5 i0 (.int .u8 0) 1 Tryz.underlying27 hi0 hz0 hz1 hz2 rfl _ p _ rfl HGo.out ⟨wr.heap.size,0,none⟩ 1 1 [.int .u8 z] rfl rfl hnw hon (by decide) hm3 hm4 hm5 ?_;intro g2 cap2 w2 hown hgrow hnew hlt2 hkeep)
        rw [HSN.out] at hown
        have hrow:∀ b,(Value.slice ag p cg).ownBlock = some b->ρ2 b = 10 + i:=fun b hb2=>HGa.out.2 b hb2
        have hRi:(fun t=>if t < i then 9 else 10 + t) i = 10 + i:=if_neg (Nat.lt_irrefl i)
        have hRt:∀ t,t < n->t ≠ i->(fun t=>if t < i then 9 else 10 + t) t ≠ 10 + i:=fun t _ hti=>by
         show (if t < i then 9 else 10 + t) ≠ 10 + i
         split <;> omega
        have hit:=HWa.out.item i hlt
        have hit2:=hkeep (v i) _ _ hit.1 (fun _=>by rw [ownl_length,<- HM.out];have:=HP.out;omega)
        have hW3:=HWa.out.growItem hgrow hrow hnew hRt hRi hlt (by omega) hit2
        have hG3:Own1 w2 base (fun q=>if q = g2 then 10 + i else ρ2 q) (10 + i) 5 (.slice (some ⟨g2,0,none⟩) (p + 1) cap2) (ownl l (m + (k + 1))):=by
         have e:m + (k + 1) = p + 1:=by have:=HP.out;omega
         rw [e]
         refine ⟨by rw [ownl_length];exact hown,fun b hb2=>?_⟩
         cases hb2
         show (if g2 = g2 then 10 + i else ρ2 g2) = 10 + i
         rw [if_pos rfl]
        have hB3:Below base w w2:=Below.grown HBa.out hgrow hm5 (fun b hb2=>(HGa.out.1.lt b hb2).1)
        have HW3:=Lib.hid hW3
        have HG3:=Lib.hid hG3
        clear hown hgrow hnew hlt2 hkeep hrow hRi hRt hit hit2 hW3 hG3 hnw hon hm3 hm4 hm5
        go_wp2
        go_roundw
        case rel=>exact ⟨k + 1,_,_,rfl,hltk,by go_num,HW3.out,HG3.out,hB3⟩
        case measure=>simp [intOf];omega
      ·obtain rfl:T = k:=by omega
       obtain ⟨ag,cg,hgf,_,_,_⟩:=hG.open
       rw [ownl_length] at hgf
       obtain ⟨p,hp⟩:∃ p,p = m + T:=⟨_,rfl⟩
       rw [<- hp] at hgf hG
       have hpb:p <= 1000004070:=by omega
       subst hgf
       obtain ⟨N,hN⟩:∃ N,N = K'.length:=⟨_,rfl⟩
       have hNb:N <= 200000:=by rw [hN,HKN.out];omega
       obtain ⟨KV,hKV⟩:∃ KV,KV = K'.map (·.1):=⟨_,rfl⟩
       obtain ⟨KN,hKN⟩:∃ KN,KN = K'.map fun (x:Value × Nat × Nat)=>Value.int .i64 (x.2.1:Int):=⟨_,rfl⟩
       have hKVl:KV.length = N:=by rw [hKV,List.length_map,hN]
       have hKNl:KN.length = N:=by rw [hKN,List.length_map,hN]
       rw [<- hKV,<- hKN] at hW
       have hbz:base <= wr.heap.size:=Nat.le_trans hW.low (Nat.le_of_lt hW.row.lt)
       have q4:=hW.row.cell 4
       simp only [List.getElem?_cons_zero,List.getElem?_cons_succ] at q4
       have hWa:=hW.alloc (.cells #[.slice ag p cg] 27)
       have hGa:=hG.alloc (.cells #[.slice ag p cg] 27)
       have hBa:=hB.alloc hbz (.cells #[.slice ag p cg] 27)
       have hko:=hWa.kept.1
       rw [hKVl] at hko
       have hnw:=cell_one_new wr (.slice ag p cg) 27
       have hon:∀ u ∈ [Value.slice ag p cg],u.oneCell' = true:=fun u hu=>by simp at hu;subst hu;rfl
       have hm3:N + 1 <= maxLen:=by unfold maxLen;omega
       have hm4:(N + 1) * 24 <= 140737488355328:=by omega
       have hm4':(N + 1) * 8 <= 140737488355328:=by omega
       have hm5:base <= (wr.alloc (.cells #[.slice ag p cg] 27)).heap.size:=by simp;omega
       have hR9:∀ t,t < n->9 <= (fun t=>if t < i then 9 else 10 + t) t:=fun t _=>by
        show 9 <= if t < i then 9 else 10 + t
        split <;> omega
       obtain ⟨i1,hi1,hy0,hy1,hy2⟩:=info_parts info_bytes
       obtain ⟨i3,hi3,hx0,hx1,hx2⟩:=info_parts info_num
       have HW:=Lib.hid hWa
       have HB:=Lib.hid hBa
       have HG:=Lib.hid hGa
       have HKO:=Lib.hid hko
       have HP:=Lib.hid hp
       have HNN:=Lib.hid hN
       have HKV:=Lib.hid hKV
       have HKNN:=Lib.hid hKN
       have HKVL:=Lib.hid hKVl
       have HKNL:=Lib.hid hKNl
       clear hW hB hG hWa hGa hBa hko hp hN hKV hKN hKVl hKNl
       have HBZ:=Lib.hid hbz
       clear hbz
       go_wp2_with
        (first
          | (at_builtin
             refine wpList_append_lies _ rfl (.tmp 94) (.tmp 96) 28 rfl base 27 i1 (.slice none 0 0) 1 24 Tryz.underlying28 hi1 hy0 hy1 hy2 rfl (by decide) vk' N KV rfl HKO.out ⟨wr.heap.size,0,none⟩ 1 1 [Value.slice ag p cg] rfl rfl hnw hon (by decide) hm3 hm4 hm5 _ rfl ?_
             intro g3 cap3 w3 hown hgrow hnew hlt3
             have hrow:∀ b,Value.ownBlock vk' = some b->ρ2 b = 2:=fun b hb2=>HW.out.kept.2 b hb2
             have hl1:(KV ++ [Value.slice ag p cg]).length = N + 1:=by rw [List.length_append,HKVL.out];rfl
             have hW3:=HW.out.growKept hgrow hrow hnew hR9 hl1 hown
             have r3:=HW.out.row.grow (by rw [HW.out.rol];omega) hgrow hrow hnew
             have q4:=r3.cell 4
             have f4:=r3.free 4
             have q5:=hW3.row.cell 5
             simp only [List.getElem?_cons_zero,List.getElem?_cons_succ] at q4 q5
             have hB3:Below base w w3:=Below.grown HB.out hgrow hm5 (fun b hb2=>(HKO.out.lt b hb2).1)
             have hB4:=hB3.setCell (p:=⟨hb,4,none⟩) HW.out.low (.slice (some ⟨g3,0,none⟩) (N + 1) cap3)
             have hG4:=((HG.out.grow (show 10 + i ≠ 2 by omega) hgrow hrow hnew).set (a:=⟨hb,4,none⟩) (by rw [hW3.rol];omega) (.slice (some ⟨g3,0,none⟩) (N + 1) cap3)).alloc (.cells #[.int .i64 (l:Int)] 3)
             have HG4:=Lib.hid hG4
             clear hG4
             have hs4:(w3.setCell ⟨hb,4,none⟩ (.slice (some ⟨g3,0,none⟩) (N + 1) cap3)).heap.size = w3.heap.size:=by simp
             have hnw2:=cell_one_new (w3.setCell ⟨hb,4,none⟩ (.slice (some ⟨g3,0,none⟩) (N + 1) cap3)) (.int .i64 (l:Int)) 3
             rw [hs4] at hnw2
             have hon2:∀ u ∈ [Value.int .i64 (l:Int)],u.oneCell' = true:=fun u hu=>by simp at hu;subst hu;rfl
             have hW4:=hW3.alloc (.cells #[.int .i64 (l:Int)] 3)
             have hbz4:base <= w3.heap.size:=Nat.le_trans HW.out.low (Nat.le_of_lt r3.lt)
             have hB5:=hB4.alloc (by rw [hs4];exact hbz4) (.cells #[.int .i64 (l:Int)] 3)
             have hno:=hW4.nums.1
             rw [HKNL.out] at hno
             have hm6:base <= ((w3.setCell ⟨hb,4,none⟩ (.slice (some ⟨g3,0,none⟩) (N + 1) cap3)).alloc (.cells #[.int .i64 (l:Int)] 3)).heap.size:=by simp;omega
             have HW4:=Lib.hid hW4
             have HB5:=Lib.hid hB5
             have HNO:=Lib.hid hno
             clear hown hgrow hnew hlt3 hrow hl1 hW3 r3 hB3 hB4 hs4 hW4 hbz4 hB5 hno)
          | (at_builtin
             refine wpList_append_lies _ rfl (.tmp 104) (.tmp 106) 23 rfl base 3 i3 (.int .i64 0) 1 8 Tryz.underlying23 hi3 hx0 hx1 hx2 rfl (by decide) vn' N KN rfl HNO.out ⟨w3.heap.size,0,none⟩ 1 1 [.int .i64 (l:Int)] rfl rfl hnw2 hon2 (by decide) hm3 hm4' hm6 _ rfl ?_
             intro g5 cap5 w5 hown hgrow hnew hlt5
             have hrow:∀ b,Value.ownBlock vn' = some b->(fun q=>if q = g3 then 2 else ρ2 q) b = 3:=fun b hb2=>HW4.out.nums.2 b hb2
             have hl1:(KN ++ [Value.int .i64 (l:Int)]).length = N + 1:=by rw [List.length_append,HKNL.out];rfl
             have hW5:=HW4.out.growNums hgrow hrow hnew hR9 hl1 hown
             have r5:=HW4.out.row.grow (by rw [HW4.out.rol];omega) hgrow hrow hnew
             clear q4 f4 q5
             have q6:=r5.cell 5
             have f6:=r5.free 5
             have q2:=hW5.row.cell 2
             simp only [List.getElem?_cons_zero,List.getElem?_cons_succ] at q6 q2
             have hB6:=(Below.grown HB5.out hgrow hm6 (fun b hb2=>(HNO.out.lt b hb2).1)).setCell (p:=⟨hb,5,none⟩) HW.out.low (.slice (some ⟨g5,0,none⟩) (N + 1) cap5)
             have hG6:=(HG4.out.grow (show 10 + i ≠ 3 by omega) hgrow hrow hnew).set (a:=⟨hb,5,none⟩) (by rw [hW5.rol];omega) (.slice (some ⟨g5,0,none⟩) (N + 1) cap5)
             have HG6:=Lib.hid hG6
             clear hG6
             have HW5:=Lib.hid hW5
             have HB6:=Lib.hid hB6
             clear hown hgrow hnew hlt5 hrow hl1 hW5 r5 hB6 hnw2 hon2))
       all_goals
        have hS:=HW5.out.settle (i:=i) (x:=(.slice ag p cg,l,p)) (by omega) (fun t _ hti=>by
         show (if t < i then 9 else 10 + t) ≠ 10 + i
         split <;> omega) (Or.inl HG6.out)
        have hS2:=hS.congr (c':=fun t=>ownl (f + t) (len t)) (R':=fun t=>if t < i + 1 then 9 else 10 + t) (fun t _=>rfl) (fun t _=>by
         show (if (if t < i then 9 else 10 + t) = 10 + i then 9 else (if t < i then 9 else 10 + t)) = if t < i + 1 then 9 else 10 + t
         by_cases h1:t < i
         ·rw [if_pos h1,if_neg (by omega),if_pos (by omega)]
         ·rw [if_neg h1]
          by_cases h2:t = i
          ·subst h2;rw [if_pos rfl,if_pos (by omega)]
          ·rw [if_neg (by omega),if_neg (by omega)])
        have e1:KV ++ [Value.slice ag p cg] = (K' ++ [(Value.slice ag p cg,l,p)]).map (·.1):=by rw [List.map_append,<- HKV.out];rfl
        have e2:KN ++ [Value.int .i64 (l:Int)] = (K' ++ [(Value.slice ag p cg,l,p)]).map fun (x:Value × Nat × Nat)=>Value.int .i64 (x.2.1:Int):=by rw [List.map_append,<- HKNN.out];rfl
        rw [e1,e2] at hS2
        have HS2:=Lib.hid hS2
        have hlen2:(K' ++ [(Value.slice ag p cg,l,p)]).length = f + (i + 1):=by rw [List.length_append,HKN.out];rfl
        have hbd2:∀ x ∈ K' ++ [(Value.slice ag p cg,l,p)],x.2.1 <= 1000000/\x.2.2 <= 1000000000000:=by
         intro x hx
         rcases List.mem_append.1 hx with hx | hx
         ·exact HKB.out x hx
         ·obtain rfl:x = (Value.slice ag p cg,l,p):=by simpa using hx
          exact ⟨by show l <= _;have:=HL.out;omega,by show p <= _;omega⟩
        clear hS hS2 e1 e2
        go_wp2
        go_roundw
        case rel=>exact ⟨i + 1,_,_,_,_,hlt,by go_num,HS2.out,hlen2,hbd2,HB6.out⟩
        case measure=>simp [intOf];omega
    ·obtain rfl:n = i:=by omega
     have hW2:=hW.congr (c':=fun t=>ownl (f + t) (len t)) (R':=fun _=>9) (fun t _=>rfl) (fun t ht=>if_pos ht)
     have HW:=Lib.hid hW2
     have HB:=Lib.hid hB
     have HKN:=Lib.hid hKn
     have HKB:=Lib.hid hKb
     clear hW hB hKn hKb q1 hW2
     go_wp2
     clear q2
     go_loopw [10] (fun s wr=>∃ (i:Nat) (ρ':Nat->Nat) (vk' vn':Value) (K':List (Value × Nat × Nat)),i <= n/\s = .int .i64 i/\WCore wr base hb ρ' cnt tot vf vw vk' vn' n v (fun t=>ownl (f + t) (len t)) (fun _=>9) (K'.map (·.1)) (K'.map fun (x:Value × Nat × Nat)=>Value.int .i64 (x.2.1:Int)) K' A/\K'.length = f + n + i/\(∀ x ∈ K',x.2.1 <= 1000000/\x.2.2 <= 1000000000000)/\Below base w wr) (fun s _=>n - (intOf s).toNat)
     case atStart=>exact ⟨0,ρ',vk',vn',K',Nat.zero_le _,rfl,HW.out,HKN.out,HKB.out,HB.out⟩
     case round=>
      clear HW HB HKN HKB
      obtain ⟨i,ρ',vk',vn',K',hi,rfl,hW,hKn,hKb,hB⟩:=hrel
      have q2:=hW.row.cell 2
      simp only [List.getElem?_cons_zero,List.getElem?_cons_succ] at q2
      rw [HVF.out] at q2
      by_cases hlt:i < n
      ·have i1:(i:Int) < n:=by omega
       have i2:(0:Int) <= (i:Int):=by omega
       obtain ⟨bf,haf,_⟩:=HFC.out (by omega)
       subst haf
       obtain ⟨l,hl⟩:∃ l,l = f + i:=⟨_,rfl⟩
       have hlc:(f:Int) + (i:Int) = (l:Int):=by omega
       obtain ⟨ag,cg,hvi,_,_,_⟩:=(hW.item i hlt).open
       rw [ownl_length] at hvi
       have e1:wr.cell? ⟨bf,i,none⟩ = some (.slice ag (len i) cg):=by
        obtain ⟨a2,c2,hv2,hc2⟩:=own_row_cell hW.fresh
        rw [HVF.out] at hv2
        injection hv2 with hv2 _ _
        obtain ⟨b2,hb2,hcc⟩:=hc2 (by omega)
        rw [<- hv2] at hb2
        injection hb2 with hb2
        injection hb2 with hb2
        rw [hb2,hcc i hlt,hvi]
       have hln:=HLB.out i
       have hG:=hW.item i hlt
       obtain ⟨p,hp⟩:∃ p,p = len i:=⟨_,rfl⟩
       rw [<- hp] at hln hvi e1
       have hG:Own1 wr base ρ' 9 5 (.slice ag p cg) (ownl l p):=by rw [<- hvi,hl,hp];exact hG
       obtain ⟨N,hN⟩:∃ N,N = K'.length:=⟨_,rfl⟩
       have hNb:N <= 200000:=by rw [hN,hKn];omega
       obtain ⟨KV,hKV⟩:∃ KV,KV = K'.map (·.1):=⟨_,rfl⟩
       obtain ⟨KN,hKN⟩:∃ KN,KN = K'.map fun (x:Value × Nat × Nat)=>Value.int .i64 (x.2.1:Int):=⟨_,rfl⟩
       have hKVl:KV.length = N:=by rw [hKV,List.length_map,hN]
       have hKNl:KN.length = N:=by rw [hKN,List.length_map,hN]
       rw [<- hKV,<- hKN] at hW
       have hbz:base <= wr.heap.size:=Nat.le_trans hW.low (Nat.le_of_lt hW.row.lt)
       have q4:=hW.row.cell 4
       simp only [List.getElem?_cons_zero,List.getElem?_cons_succ] at q4
       have hcd:Calm (wr.alloc (.cells #[.slice ag p cg] 27)) (wr.alloc (.cells #[.slice ag p cg] 27)).drew:=(Calm.refl _).drew
       have hWa0:=hW.alloc (.cells #[.slice ag p cg] 27)
       have q4a:=hWa0.row.cell 4
       have q2a:=hWa0.row.cell 2
       simp only [List.getElem?_cons_zero,List.getElem?_cons_succ] at q4a q2a
       rw [HVF.out] at q2a
       have e1a:(wr.alloc (.cells #[.slice ag p cg] 27)).cell? ⟨bf,i,none⟩ = some (.slice ag p cg):=by
        rw [<- e1];exact World.cell?_of_block (Below.heap_alloc _ _ _ (World.block_lt_of_cell? wr _ e1))
       have hWa:=hWa0.calm hcd
       have hGa:=(hG.alloc (.cells #[.slice ag p cg] 27)).same hcd.heap
       have hBa:=(hB.alloc hbz (.cells #[.slice ag p cg] 27)).drew
       have hko:=hWa.kept.1
       rw [hKVl] at hko
       have hnw:∀ j u,[Value.slice ag p cg][j]? = some u->(wr.alloc (.cells #[.slice ag p cg] 27)).drew.cell? ((⟨wr.heap.size,0,none⟩:Addr).add j) = some u:=cell_one_new wr (.slice ag p cg) 27
       have hon:∀ u ∈ [Value.slice ag p cg],u.oneCell' = true:=fun u hu=>by simp at hu;subst hu;rfl
       have hm3:N + 1 <= maxLen:=by unfold maxLen;omega
       have hm4:(N + 1) * 24 <= 140737488355328:=by omega
       have hm4':(N + 1) * 8 <= 140737488355328:=by omega
       have hm5:base <= (wr.alloc (.cells #[.slice ag p cg] 27)).drew.heap.size:=by simp;omega
       have hR9:∀ t,t < n->9 <= (fun _:Nat=>9) t:=fun t _=>Nat.le_refl 9
       obtain ⟨i1',hi1,hy0,hy1,hy2⟩:=info_parts info_bytes
       obtain ⟨i3,hi3,hx0,hx1,hx2⟩:=info_parts info_num
       have HW:=Lib.hid hWa
       have HB:=Lib.hid hBa
       have HG:=Lib.hid hGa
       have HKO:=Lib.hid hko
       have HP:=Lib.hid hp
       have HL:=Lib.hid hl
       have HNN:=Lib.hid hN
       have HKV:=Lib.hid hKV
       have HKNN:=Lib.hid hKN
       have HKVL:=Lib.hid hKVl
       have HKNL:=Lib.hid hKNl
       have HKNe:=Lib.hid hKn
       have HKB:=Lib.hid hKb
       clear hW hB hG hWa0 hWa hGa hBa hko hp hl hN hKV hKN hKVl hKNl hbz hcd hKn hKb hvi
       go_wp2
       go_region_law
        (first
          | (skip
             refine step_append_lies _ rfl (.tmp 123) (.tmp 131) 28 rfl base 27 i1' (.slice none 0 0) 1 24 Tryz.underlying28 hi1 hy0 hy1 hy2 rfl (by decide) vk' N KV rfl HKO.out ⟨wr.heap.size,0,none⟩ 1 1 [Value.slice ag p cg] rfl rfl hnw hon (by decide) hm3 hm4 hm5 _ rfl ?_
             intro g3 cap3 w3 hown hgrow hnew hlt3
             have hrow:∀ b,Value.ownBlock vk' = some b->ρ' b = 2:=fun b hb2=>HW.out.kept.2 b hb2
             have hl1:(KV ++ [Value.slice ag p cg]).length = N + 1:=by rw [List.length_append,HKVL.out];rfl
             have hW3:=HW.out.growKept hgrow hrow hnew hR9 hl1 hown
             have r3:=HW.out.row.grow (by rw [HW.out.rol];omega) hgrow hrow hnew
             have q4:=r3.cell 4
             have f4:=r3.free 4
             have q5:=hW3.row.cell 5
             simp only [List.getElem?_cons_zero,List.getElem?_cons_succ] at q4 q5
             have hB3:Below base w w3:=Below.grown HB.out hgrow hm5 (fun b hb2=>(HKO.out.lt b hb2).1)
             have hB4:=hB3.setCell (p:=⟨hb,4,none⟩) HW.out.low (.slice (some ⟨g3,0,none⟩) (N + 1) cap3)
             have hG4:=((HG.out.grow (show 9 ≠ 2 by omega) hgrow hrow hnew).set (a:=⟨hb,4,none⟩) (by rw [hW3.rol];omega) (.slice (some ⟨g3,0,none⟩) (N + 1) cap3)).alloc (.cells #[.int .i64 (l:Int)] 3)
             have HG4:=Lib.hid hG4
             clear hG4
             have hs4:(w3.setCell ⟨hb,4,none⟩ (.slice (some ⟨g3,0,none⟩) (N + 1) cap3)).heap.size = w3.heap.size:=by simp
             have hnw2:=cell_one_new (w3.setCell ⟨hb,4,none⟩ (.slice (some ⟨g3,0,none⟩) (N + 1) cap3)) (.int .i64 (l:Int)) 3
             rw [hs4] at hnw2
             have hon2:∀ u ∈ [Value.int .i64 (l:Int)],u.oneCell' = true:=fun u hu=>by simp at hu;subst hu;rfl
             have hW4:=hW3.alloc (.cells #[.int .i64 (l:Int)] 3)
             have hbz4:base <= w3.heap.size:=Nat.le_trans HW.out.low (Nat.le_of_lt r3.lt)
             have hB5:=hB4.alloc (by rw [hs4];exact hbz4) (.cells #[.int .i64 (l:Int)] 3)
             have hno:=hW4.nums.1
             rw [HKNL.out] at hno
             have hm6:base <= ((w3.setCell ⟨hb,4,none⟩ (.slice (some ⟨g3,0,none⟩) (N + 1) cap3)).alloc (.cells #[.int .i64 (l:Int)] 3)).heap.size:=by simp;omega
             have HW4:=Lib.hid hW4
             have HB5:=Lib.hid hB5
             have HNO:=Lib.hid hno
             clear hown hgrow hnew hlt3 hrow hl1 hW3 r3 hB3 hB4 hs4 hW4 hbz4 hB5 hno))
       all_goals
        go_wp2_with
         (first
           | (at_builtin
              refine wpList_append_lies _ rfl (.tmp 139) (.tmp 143) 23 rfl base 3 i3 (.int .i64 0) 1 8 Tryz.underlying23 hi3 hx0 hx1 hx2 rfl (by decide) vn' N KN rfl HNO.out ⟨w3.heap.size,0,none⟩ 1 1 [.int .i64 (l:Int)] rfl rfl hnw2 hon2 (by decide) hm3 hm4' hm6 _ rfl ?_
              intro g5 cap5 w5 hown hgrow hnew hlt5
              have hrow:∀ b,Value.ownBlock vn' = some b->(fun q=>if q = g3 then 2 else ρ' q) b = 3:=fun b hb2=>HW4.out.nums.2 b hb2
              have hl1:(KN ++ [Value.int .i64 (l:Int)]).length = N + 1:=by rw [List.length_append,HKNL.out];rfl
              have hW5:=HW4.out.growNums hgrow hrow hnew hR9 hl1 hown
              have r5:=HW4.out.row.grow (by rw [HW4.out.rol];omega) hgrow hrow hnew
              clear q4 f4 q5
              have q6:=r5.cell 5
              have f6:=r5.free 5
              have q2:=hW5.row.cell 2
              simp only [List.getElem?_cons_zero,List.getElem?_cons_succ] at q6 q2
              have hB6:=(Below.grown HB5.out hgrow hm6 (fun b hb2=>(HNO.out.lt b hb2).1)).setCell (p:=⟨hb,5,none⟩) HW.out.low (.slice (some ⟨g5,0,none⟩) (N + 1) cap5)
              have hG6:=(HG4.out.grow (show 9 ≠ 3 by omega) hgrow hrow hnew).set (a:=⟨hb,5,none⟩) (by rw [hW5.rol];omega) (.slice (some ⟨g5,0,none⟩) (N + 1) cap5)
              have HG6:=Lib.hid hG6
              clear hG6
              have HW5:=Lib.hid hW5
              have HB6:=Lib.hid hB6
              clear hown hgrow hnew hlt5 hrow hl1 hW5 r5 hB6 hnw2 hon2))
       all_goals
        have hS:=HW5.out.settle (i:=0) (x:=(.slice ag p cg,l,p)) (by omega) (fun t _ _=>by show (9:Nat) ≠ 10 + 0;decide) (Or.inr HG6.out)
        have hS2:=hS.congr (c':=fun t=>ownl (f + t) (len t)) (R':=fun _=>9) (fun t _=>rfl) (fun t _=>rfl)
        have e1:KV ++ [Value.slice ag p cg] = (K' ++ [(Value.slice ag p cg,l,p)]).map (·.1):=by rw [List.map_append,<- HKV.out];rfl
        have e2:KN ++ [Value.int .i64 (l:Int)] = (K' ++ [(Value.slice ag p cg,l,p)]).map fun (x:Value × Nat × Nat)=>Value.int .i64 (x.2.1:Int):=by rw [List.map_append,<- HKNN.out];rfl
        rw [e1,e2] at hS2
        have HS2:=Lib.hid hS2
        have hlen2:(K' ++ [(Value.slice ag p cg,l,p)]).length = f + n + (i + 1):=by rw [List.length_append,HKNe.out];rfl
        have hbd2:∀ x ∈ K' ++ [(Value.slice ag p cg,l,p)],x.2.1 <= 1000000/\x.2.2 <= 1000000000000:=by
         intro x hx
         rcases List.mem_append.1 hx with hx | hx
         ·exact HKB.out x hx
         ·obtain rfl:x = (Value.slice ag p cg,l,p):=by simpa using hx
          exact ⟨by show l <= _;have:=HL.out;omega,by show p <= _;omega⟩
        clear hS hS2 e1 e2
        go_wp2
        go_roundw
        case rel=>exact ⟨i + 1,_,_,_,_,hlt,by go_num,HS2.out,hlen2,hbd2,HB6.out⟩
        case measure=>simp [intOf];omega
      ·obtain rfl:n = i:=by omega
       have r1:=hW.row
       have f2:=r1.free 2
       have r2:=r1.put 2 (.slice none 0 0)
       have q3:=r2.cell 3
       have f3:=r2.free 3
       simp only [List.set_cons_zero,List.set_cons_succ,List.getElem?_cons_zero,List.getElem?_cons_succ] at q3
       have r3:=r2.put 3 (.slice none 0 0)
       simp only [List.set_cons_zero,List.set_cons_succ] at r3
       have hset:∀ {r:Nat} {e:TypeId} {u:Value} {xs:List Value},r ≠ 0->Own1 wr base ρ' r e u xs->Own1 ((wr.setCell ⟨hb,2,none⟩ (.slice none 0 0)).setCell ⟨hb,3,none⟩ (.slice none 0 0)) base ρ' r e u xs:=fun hr ho=>(ho.set (a:=⟨hb,2,none⟩) (by show ρ' hb ≠ _;rw [hW.rol];exact fun e=>hr e.symm) _).set (a:=⟨hb,3,none⟩) (by show ρ' hb ≠ _;rw [hW.rol];exact fun e=>hr e.symm) _
       have hC:Core ((wr.setCell ⟨hb,2,none⟩ (.slice none 0 0)).setCell ⟨hb,3,none⟩ (.slice none 0 0)) base hb ρ' cnt tot (.slice none 0 0) (.slice none 0 0) vk' vn' [] [] K' A:=
        { row := r3, rol := hW.rol, low := hW.low, fresh := Own1.nil _ _ _ _ _, was := Own1.nil _ _ _ _ _, wlen := rfl, kept := hset (by omega) hW.kept, nums := hset (by omega) hW.nums,
          item:=fun i x hx=>(by cases hx),copy:=fun i v x hv hx=>(by cases hx),done:=fun x hx=>hset (by omega) (hW.done x hx),side:=fun j y hy=>((hW.side j y hy).set (a:=⟨hb,2,none⟩) (by show ρ' hb ≠ _;rw [hW.rol];omega) _).set (a:=⟨hb,3,none⟩) (by show ρ' hb ≠ _;rw [hW.rol];omega) _ }
       have hBz:=(hB.setCell (p:=⟨hb,2,none⟩) hW.low (.slice none 0 0)).setCell (p:=⟨hb,3,none⟩) hW.low (.slice none 0 0)
       have HCC:=Lib.hid hC
       have HBZ:=Lib.hid hBz
       have HKN:=Lib.hid hKn
       have HKB:=Lib.hid hKb
       clear r1 r2 r3 hset hC hBz hW hB hKn hKb
       go_wp2
       go_end0
       refine ⟨rfl,HBZ.out,ρ',vk',vn',K',HCC.out,?_,HKB.out⟩
       rw [HKN.out,HF.out,HN.out];omega
structure Mid (w:World) (base hb:Nat) (ρ:Nat->Nat) (cnt tot:Int) (vf vw vk vn:Value) (FV WV:List Value) (F:List (Value × List Int)) (ws:List Value) (K:List (Value × Nat × Nat)) (A:Nat->Option Obj):Prop where
 row:Row w hb 83 [.int .i64 cnt,.int .i64 tot,vf,vw,vk,vn,.bool false]
 rol:ρ hb = 0
 low:base <= hb
 fresh:Own1 w base ρ 1 27 vf FV
 was:Own1 w base ρ 4 27 vw WV
 kept:Own1 w base ρ 2 27 vk (K.map (·.1))
 nums:Own1 w base ρ 3 3 vn (K.map fun (x:Value × Nat × Nat)=>Value.int .i64 (x.2.1:Int))
 item:∀ (i:Nat) (x:Value × List Int),F[i]? = some x->Own1 w base ρ (10 + i) 5 x.1 (x.2.map (Value.int .u8))/\IsBytes x.2
 copy:∀ (i:Nat) (v:Value) (x:Value × List Int),ws[i]? = some v->F[i]? = some x->Own1 w base ρ 9 5 v (x.2.map (Value.int .u8))
 done:∀ x ∈ K,Own1 w base ρ 9 5 x.1 (ownl x.2.1 x.2.2)
 side:∀ (j:Nat) (y:Obj),A j = some y->KeepB w ρ (1000 + j) j y
section
variable {w w':World} {base hb:Nat} {ρ ρ':Nat->Nat} {cnt tot:Int} {vf vw vk vn:Value} {FV WV:List Value} {F:List (Value × List Int)} {ws:List Value} {K:List (Value × Nat × Nat)} {A:Nat->Option Obj}
theorem Mid.move (h:Mid w base hb ρ cnt tot vf vw vk vn FV WV F ws K A) (hf:∀ q,q < w.heap.size->w'.heap[q]? = w.heap[q]?/\ρ' q = ρ q):Mid w' base hb ρ' cnt tot vf vw vk vn FV WV F ws K A:=by
 have hm:∀ {r:Nat} {e:TypeId} {u:Value} {xs:List Value},Own1 w base ρ r e u xs->Own1 w' base ρ' r e u xs:=fun ho=>ho.move fun q hq hr=>⟨(hf q hq).1,(hf q hq).2.trans hr⟩
 refine ⟨?_,?_,h.low,hm h.fresh,hm h.was,hm h.kept,hm h.nums,fun i x hx=>⟨hm (h.item i x hx).1,(h.item i x hx).2⟩,fun i v x hv hx=>hm (h.copy i v x hv hx),fun x hx=>hm (h.done x hx),fun j y hy=>(h.side j y hy).move fun q hq hr=>⟨(hf q hq).1,(hf q hq).2.trans hr⟩⟩
 ·have:=h.row
  unfold Row at this ⊢
  rw [(hf hb h.row.lt).1];exact this
 ·rw [(hf hb h.row.lt).2];exact h.rol
theorem Mid.calm (h:Mid w base hb ρ cnt tot vf vw vk vn FV WV F ws K A) (hc:Calm w w'):Mid w' base hb ρ cnt tot vf vw vk vn FV WV F ws K A:=h.move fun q _=>⟨by rw [hc.heap],rfl⟩
theorem Mid.alloc (h:Mid w base hb ρ cnt tot vf vw vk vn FV WV F ws K A) (o:Obj):Mid (w.alloc o) base hb ρ cnt tot vf vw vk vn FV WV F ws K A:=h.move fun q hq=>⟨Below.heap_alloc _ _ _ hq,rfl⟩
theorem Mid.news (h:Mid w base hb ρ cnt tot vf vw vk vn FV WV F ws K A) (hB:Below w.heap.size w w'):Mid w' base hb (fun q=>if w.heap.size <= q then 9 else ρ q) cnt tot vf vw vk vn FV WV F ws K A:=
 h.move fun q hq=>⟨hB.block q hq,by show (if w.heap.size <= q then 9 else ρ q) = ρ q;rw [if_neg (by omega)]⟩
theorem Mid.count (h:Mid w base hb ρ cnt tot vf vw vk vn FV WV F ws K A) (c':Int):Mid (w.setCell ⟨hb,0,none⟩ (.int .i64 c')) base hb ρ c' tot vf vw vk vn FV WV F ws K A:=by
 have hm:∀ {r:Nat} {e:TypeId} {u:Value} {xs:List Value},r ≠ 0->Own1 w base ρ r e u xs->Own1 (w.setCell ⟨hb,0,none⟩ (.int .i64 c')) base ρ r e u xs:=fun hr ho=>ho.set (a:=⟨hb,0,none⟩) (by show ρ hb ≠ _;rw [h.rol];exact fun e=>hr e.symm) _
 exact ⟨h.row.put 0 _,h.rol,h.low,hm (by omega) h.fresh,hm (by omega) h.was,hm (by omega) h.kept,hm (by omega) h.nums,fun i x hx=>⟨hm (by omega) (h.item i x hx).1,(h.item i x hx).2⟩,fun i v x hv hx=>hm (by omega) (h.copy i v x hv hx),fun x hx=>hm (by omega) (h.done x hx),fun j y hy=>(h.side j y hy).set (a:=⟨hb,0,none⟩) (by show ρ hb ≠ _;rw [h.rol];omega) _⟩
theorem Mid.total (h:Mid w base hb ρ cnt tot vf vw vk vn FV WV F ws K A) (c':Int):Mid (w.setCell ⟨hb,1,none⟩ (.int .i64 c')) base hb ρ cnt c' vf vw vk vn FV WV F ws K A:=by
 have hm:∀ {r:Nat} {e:TypeId} {u:Value} {xs:List Value},r ≠ 0->Own1 w base ρ r e u xs->Own1 (w.setCell ⟨hb,1,none⟩ (.int .i64 c')) base ρ r e u xs:=fun hr ho=>ho.set (a:=⟨hb,1,none⟩) (by show ρ hb ≠ _;rw [h.rol];exact fun e=>hr e.symm) _
 exact ⟨h.row.put 1 _,h.rol,h.low,hm (by omega) h.fresh,hm (by omega) h.was,hm (by omega) h.kept,hm (by omega) h.nums,fun i x hx=>⟨hm (by omega) (h.item i x hx).1,(h.item i x hx).2⟩,fun i v x hv hx=>hm (by omega) (h.copy i v x hv hx),fun x hx=>hm (by omega) (h.done x hx),fun j y hy=>(h.side j y hy).set (a:=⟨hb,1,none⟩) (by show ρ hb ≠ _;rw [h.rol];omega) _⟩
theorem Mid.growFresh {row:Option Nat} {g cap N:Nat} {FV':List Value} (h:Mid w base hb ρ cnt tot vf vw vk vn FV WV F ws K A) (hg:w.grownBy w' row) (hrow:∀ b,row = some b->ρ b = 1) (hnew:row = some g\/g = w.heap.size)
 (hN:FV'.length = N) (hk:w'.ownsRow base 27 1 (.slice (some ⟨g,0,none⟩) N cap) N FV') :
 Mid (w'.setCell ⟨hb,2,none⟩ (.slice (some ⟨g,0,none⟩) N cap)) base hb (fun q=>if q = g then 1 else ρ q) cnt tot (.slice (some ⟨g,0,none⟩) N cap) vw vk vn FV' WV F ws K A:=by
 have hr0:(fun q=>if q = g then 1 else ρ q) hb = 0:=((grow_role hg hrow hnew hb h.row.lt (by rw [h.rol];omega)).2).trans h.rol
 have hm:∀ {r:Nat} {e:TypeId} {u:Value} {xs:List Value},r ≠ 0->r ≠ 1->Own1 w base ρ r e u xs->Own1 (w'.setCell ⟨hb,2,none⟩ (.slice (some ⟨g,0,none⟩) N cap)) base (fun q=>if q = g then 1 else ρ q) r e u xs:=fun hr h1 ho=>
  (ho.grow h1 hg hrow hnew).set (a:=⟨hb,2,none⟩) (fun e=>hr (by rw [<- e];exact hr0)) _
 refine ⟨(h.row.grow (by rw [h.rol];omega) hg hrow hnew).put 2 _,hr0,h.low,?_,hm (by omega) (by omega) h.was,hm (by omega) (by omega) h.kept,hm (by omega) (by omega) h.nums,fun i x hx=>⟨hm (by omega) (by omega) (h.item i x hx).1,(h.item i x hx).2⟩,fun i v x hv hx=>hm (by omega) (by omega) (h.copy i v x hv hx),fun x hx=>hm (by omega) (by omega) (h.done x hx),fun j y hy=>((h.side j y hy).grow (by omega) hg hrow hnew).set (a:=⟨hb,2,none⟩) (fun e=>by have:=hr0.symm.trans e;omega) _⟩
 exact Own1.set ⟨by rw [hN];exact hk,fun b hb2=>by cases hb2;show (if g = g then 1 else ρ g) = 1;rw [if_pos rfl]⟩ (a:=⟨hb,2,none⟩) (fun e=>by have:(0:Nat) = 1:=hr0.symm.trans e;omega) _
theorem Mid.growWas {row:Option Nat} {g cap N:Nat} {WV':List Value} (h:Mid w base hb ρ cnt tot vf vw vk vn FV WV F ws K A) (hg:w.grownBy w' row) (hrow:∀ b,row = some b->ρ b = 4) (hnew:row = some g\/g = w.heap.size)
 (hN:WV'.length = N) (hk:w'.ownsRow base 27 1 (.slice (some ⟨g,0,none⟩) N cap) N WV') :
 Mid (w'.setCell ⟨hb,3,none⟩ (.slice (some ⟨g,0,none⟩) N cap)) base hb (fun q=>if q = g then 4 else ρ q) cnt tot vf (.slice (some ⟨g,0,none⟩) N cap) vk vn FV WV' F ws K A:=by
 have hr0:(fun q=>if q = g then 4 else ρ q) hb = 0:=((grow_role hg hrow hnew hb h.row.lt (by rw [h.rol];omega)).2).trans h.rol
 have hm:∀ {r:Nat} {e:TypeId} {u:Value} {xs:List Value},r ≠ 0->r ≠ 4->Own1 w base ρ r e u xs->Own1 (w'.setCell ⟨hb,3,none⟩ (.slice (some ⟨g,0,none⟩) N cap)) base (fun q=>if q = g then 4 else ρ q) r e u xs:=fun hr h1 ho=>
  (ho.grow h1 hg hrow hnew).set (a:=⟨hb,3,none⟩) (fun e=>hr (by rw [<- e];exact hr0)) _
 refine ⟨(h.row.grow (by rw [h.rol];omega) hg hrow hnew).put 3 _,hr0,h.low,hm (by omega) (by omega) h.fresh,?_,hm (by omega) (by omega) h.kept,hm (by omega) (by omega) h.nums,fun i x hx=>⟨hm (by omega) (by omega) (h.item i x hx).1,(h.item i x hx).2⟩,fun i v x hv hx=>hm (by omega) (by omega) (h.copy i v x hv hx),fun x hx=>hm (by omega) (by omega) (h.done x hx),fun j y hy=>((h.side j y hy).grow (by omega) hg hrow hnew).set (a:=⟨hb,3,none⟩) (fun e=>by have:=hr0.symm.trans e;omega) _⟩
 exact Own1.set ⟨by rw [hN];exact hk,fun b hb2=>by cases hb2;show (if g = g then 4 else ρ g) = 4;rw [if_pos rfl]⟩ (a:=⟨hb,3,none⟩) (fun e=>by have:(0:Nat) = 4:=hr0.symm.trans e;omega) _
theorem Mid.core {v v':Value} {xs:List Int} (h:Mid w base hb ρ cnt tot vf vw vk vn (F.map (·.1) ++ [v]) (ws ++ [v']) F ws K A) (hl:ws.length = F.length) (hx:IsBytes xs) (hv:Own1 w base ρ (10 + F.length) 5 v (xs.map (Value.int .u8)))
 (hv':Own1 w base ρ 9 5 v' (xs.map (Value.int .u8))):Core w base hb ρ cnt tot vf vw vk vn (F ++ [(v,xs)]) (ws ++ [v']) K A where
 row:=h.row
 rol:=h.rol
 low:=h.low
 fresh:=by rw [List.map_append];exact h.fresh
 was:=h.was
 wlen:=by rw [List.length_append,List.length_append,hl];rfl
 kept:=h.kept
 nums:=h.nums
 item:=fun i x hxi=>by
  by_cases hi:i < F.length
  ·rw [List.getElem?_append_left hi] at hxi;exact h.item i x hxi
  ·rw [List.getElem?_append_right (by omega)] at hxi
   have hi2:i = F.length:=by
    rcases Nat.lt_or_ge F.length i with h2 | h2
    ·rw [List.getElem?_eq_none (by simp;omega)] at hxi;cases hxi
    ·omega
   subst hi2
   simp at hxi
   subst hxi
   exact ⟨hv,hx⟩
 copy:=fun i u x hu hxi=>by
  by_cases hi:i < F.length
  ·rw [List.getElem?_append_left hi] at hxi
   rw [List.getElem?_append_left (by omega)] at hu
   exact h.copy i u x hu hxi
  ·rw [List.getElem?_append_right (by omega)] at hxi hu
   have hi2:i = F.length:=by
    rcases Nat.lt_or_ge F.length i with h2 | h2
    ·rw [List.getElem?_eq_none (by simp;omega)] at hxi;cases hxi
    ·omega
   subst hi2
   rw [hl] at hu
   simp at hxi hu
   subst hxi hu
   exact hv'
 done:=h.done
 side:=h.side
theorem Core.mid (h:Core w base hb ρ cnt tot vf vw vk vn F ws K A):Mid w base hb ρ cnt tot vf vw vk vn (F.map (·.1)) ws F ws K A:=⟨h.row,h.rol,h.low,h.fresh,h.was,h.kept,h.nums,h.item,h.copy,h.done,h.side⟩
end
def BGood (w:World) (base hb:Nat) (cnt tot:Int) (k:Nat) (A:Nat->Option Obj):Prop:=
 ∃ ρ vf vw vk vn F ws K,Core w base hb ρ cnt tot vf vw vk vn F ws K A/\F.length <= 2/\(∀ x ∈ F,x.2.length <= 1000000000)/\K.length <= k/\(∀ x ∈ K,x.2.1 <= 1000000/\x.2.2 <= 1000000000000)
theorem ownsRow_base {w:World} {base base':Nat} {e:TypeId} {v:Value} {n:Nat} {xs:List Value} (h:w.ownsRow base' e 1 v n xs) (hb:base <= base'):w.ownsRow base e 1 v n xs:=by
 obtain ⟨hl,hz | ⟨g,cap,cur,rfl,hb',rest⟩⟩:=h
 ·exact ⟨hl,Or.inl hz⟩
 ·exact ⟨hl,Or.inr ⟨g,cap,cur,rfl,by omega,rest⟩⟩
theorem own_form {w:World} {base:Nat} {e:TypeId} {v:Value} {n:Nat} {xs:List Value} (h:w.ownsRow base e 1 v n xs):∃ a c,v = .slice a n c:=by
 rcases h.2 with ⟨rfl,h0⟩ | ⟨g,c,cur,rfl,_⟩
 ·exact ⟨none,0,by rw [h0]⟩
 ·exact ⟨_,_,rfl⟩
theorem ownb_of (base hb:Nat) (ρ:Nat->Nat) (cnt tot:Int) (vf vw vk vn:Value) (F:List (Value × List Int)) (ws:List Value) (K:List (Value × Nat × Nat)) (v:Value) (xs:List Int) (kk:Nat) {A:Nat->Option Obj} (w:World)
 (hF:F.length <= 2) (hFl:∀ x ∈ F,x.2.length <= 1000000000) (hK:K.length <= kk) (hkk:kk <= 90000) (hKl:∀ x ∈ K,x.2.1 <= 1000000/\x.2.2 <= 1000000000000) (hcnt:0 <= cnt/\cnt <= 1000000000) (htot:0 <= tot/\tot <= 500000000000)
 (hx:IsBytes xs) (hxl:xs.length <= 1000000000) (h:Core w base hb ρ cnt tot vf vw vk vn F ws K A) (hv:Own1 w base ρ (10 + F.length) 5 v (xs.map (Value.int .u8))) :
 Calls Tryz.prog 34 #[.pointer (some ⟨hb,0,none⟩),v] w fun e w'=>e = .returned (.bool true)/\Below base w w'/\BGood w' base hb (cnt + 1) (tot + xs.length) (kk + 6) A:=by
 obtain ⟨av,cv,hvf,_,_,_⟩:=hv.open
 rw [List.length_map] at hvf
 obtain ⟨m,hm⟩:∃ m,m = xs.length:=⟨_,rfl⟩
 rw [<- hm] at hvf hxl ⊢
 subst hvf
 obtain ⟨n,hn⟩:∃ n,n = F.length:=⟨_,rfl⟩
 rw [<- hn] at hv hF
 obtain ⟨c1,hc1⟩:∃ c1,cnt + 1 = c1:=⟨_,rfl⟩
 obtain ⟨t1,ht1⟩:∃ t1,tot + (m:Int) = t1:=⟨_,rfl⟩
 rw [hc1,ht1]
 have hwl:=h.wlen
 have hM:=(h.mid.count c1).total t1
 have hbz:base <= w.heap.size:=Nat.le_trans h.low (Nat.le_of_lt h.row.lt)
 have hr0:=h.row
 have q0:=hr0.cell 0
 have f0:=hr0.free 0
 have hr1:=hr0.put 0 (.int .i64 c1)
 have q1:=hr1.cell 1
 have f1:=hr1.free 1
 have hr2:=hr1.put 1 (.int .i64 t1)
 have q2:=hr2.cell 2
 simp only [List.set_cons_zero,List.set_cons_succ,List.getElem?_cons_zero,List.getElem?_cons_succ] at q0 q1 q2
 obtain ⟨W2,hW2⟩:∃ W2,W2 = (w.setCell ⟨hb,0,none⟩ (.int .i64 c1)).setCell ⟨hb,1,none⟩ (.int .i64 t1):=⟨_,rfl⟩
 have hs2:W2.heap.size = w.heap.size:=by rw [hW2];simp
 have hset:∀ (i:Nat) (x:Value) {w0:World} {u:Value} {zs:List Value},Own1 w0 base ρ (10 + n) 5 u zs->Own1 (w0.setCell ⟨hb,i,none⟩ x) base ρ (10 + n) 5 u zs:=fun i x {w0 u zs} ho=>ho.set (a:=⟨hb,i,none⟩) (by show ρ hb ≠ _;rw [h.rol];omega) x
 have hv2:Own1 W2 base ρ (10 + n) 5 (.slice av m cv) (xs.map (Value.int .u8)):=by rw [hW2];exact hset 1 _ (hset 0 _ hv)
 have hB2:Below base w W2:=by rw [hW2];exact ((Below.refl base w).setCell h.low _).setCell h.low _
 rw [<- hW2] at hM
 have hMa:=hM.alloc (.cells #[.slice av m cv] 27)
 have hva:=hv2.alloc (.cells #[.slice av m cv] 27)
 have hBa:=hB2.alloc (by rw [hs2];exact hbz) (.cells #[.slice av m cv] 27)
 have hko:=hMa.fresh.1
 rw [List.length_map,<- hn] at hko
 have hnw:=cell_one_new W2 (.slice av m cv) 27
 rw [hs2] at hnw
 have hon:∀ u ∈ [Value.slice av m cv],u.oneCell' = true:=fun u hu=>by simp at hu;subst hu;rfl
 have hm3:n + 1 <= maxLen:=by unfold maxLen;omega
 have hm4:(n + 1) * 24 <= 140737488355328:=by omega
 have hm5:base <= (W2.alloc (.cells #[.slice av m cv] 27)).heap.size:=by simp;omega
 obtain ⟨i1,hi1,hy0,hy1,hy2⟩:=info_parts info_bytes
 have HM:=Lib.hid hMa
 have HV:=Lib.hid hva
 have HB:=Lib.hid hBa
 have HKO:=Lib.hid hko
 have HN:=Lib.hid hn
 have HF:=Lib.hid hF
 have HFL:=Lib.hid hFl
 have HK:=Lib.hid hK
 have HKK:=Lib.hid hkk
 have HKL:=Lib.hid hKl
 have HT:=Lib.hid htot
 have HT1:=Lib.hid ht1
 have HX:=Lib.hid hx
 have HXL:=Lib.hid hxl
 have HMM:=Lib.hid hm
 have HWL:=Lib.hid hwl
 clear hMa hva hBa hko hn hF hFl hK hkk hKl hx hm hwl hM hv2 hB2 hset hr0 hr1 hr2 hv h
 subst hW2
 go_enter Tryz.func34,Tryz.ntmps34
 go_wp2_with
  (at_builtin
   refine wpList_append_lies _ rfl (.tmp 26) (.tmp 28) 28 rfl base 27 i1 (.slice none 0 0) 1 24 Tryz.underlying28 hi1 hy0 hy1 hy2 rfl (by decide) vf n _ rfl HKO.out ⟨w.heap.size,0,none⟩ 1 1 [Value.slice av m cv] rfl rfl hnw hon (by decide) hm3 hm4 hm5 _ rfl ?_
   intro g3 cap3 w3 hown hgrow hnew hlt3
   have hrow:∀ b,Value.ownBlock vf = some b->ρ b = 1:=fun b hb2=>HM.out.fresh.2 b hb2
   have hl1:(F.map (·.1) ++ [Value.slice av m cv]).length = n + 1:=by rw [List.length_append,List.length_map,<- HN.out];rfl
   have hM3:=HM.out.growFresh hgrow hrow hnew hl1 hown
   have hv3:=(HV.out.grow (show 10 + n ≠ 1 by omega) hgrow hrow hnew).set (a:=⟨hb,2,none⟩) (by rw [hM3.rol];omega) (.slice (some ⟨g3,0,none⟩) (n + 1) cap3)
   have r3:=HM.out.row.grow (by rw [HM.out.rol];omega) hgrow hrow hnew
   clear q0 f0 q1 f1 q2
   have q2:=r3.cell 2
   have f2:=r3.free 2
   simp only [List.getElem?_cons_zero,List.getElem?_cons_succ] at q2
   have hB3:=(Below.grown HB.out hgrow hm5 (fun b hb2=>(HKO.out.lt b hb2).1)).setCell (p:=⟨hb,2,none⟩) HM.out.low (.slice (some ⟨g3,0,none⟩) (n + 1) cap3)
   have HM3:=Lib.hid hM3
   have HV3:=Lib.hid hv3
   have HB3:=Lib.hid hB3
   clear hown hgrow hnew hlt3 hrow hl1 hM3 hv3 r3 hB3 hnw)
 clear q2 f2
 generalize (w3.setCell ⟨hb,2,none⟩ (.slice (some ⟨g3,0,none⟩) (n + 1) cap3)) = w4 at HM3 HV3 HB3 ⊢
 generalize (fun q=>if q = g3 then 1 else ρ q) = ρ4 at HM3 HV3
 have hcd:Calm w4 w4.drew:=(Calm.refl w4).drew
 have hM4:=HM3.out.calm hcd
 have hv4:=HV3.out.same hcd.heap
 have hB4:=HB3.out.drew
 have q3:=HM3.out.row.cell 3
 simp only [List.getElem?_cons_zero,List.getElem?_cons_succ] at q3
 have hh4:Held w4.drew (.slice av m cv) xs:=held_of_own hv4.1 HX.out (by simp)
 have hbz4:base <= w4.drew.heap.size:=Nat.le_trans hM4.low (Nat.le_of_lt hM4.row.lt)
 have HM4:=Lib.hid hM4
 have HV4:=Lib.hid hv4
 have HB4:=Lib.hid hB4
 have HH4:=Lib.hid hh4
 have HBZ4:=Lib.hid hbz4
 clear hcd hM4 hv4 hB4 hh4 hbz4 HM HV HB HKO hm5
 go_region_law
  (first
    | (refine step_append_lies _ rfl (.tmp 36) (.tmp 39) 28 rfl base 27 i1 (.slice none 0 0) 1 24 Tryz.underlying28 hi1 hy0 hy1 hy2 rfl (by decide) vw n _ rfl HKO5.out ⟨w5.heap.size, 0, none⟩ 1 1 [Value.slice a5 m c5] rfl rfl hnw5 hon5 (by decide) hm3 hm4 hm6 _ rfl ?_
       intro g6 cap6 w6 hown hgrow hnew hlt6
       have hrow:∀ b,Value.ownBlock vw = some b->(fun q=>if w4.drew.heap.size <= q then 9 else ρ4 q) b = 4:=fun b hb2=>HM5.out.was.2 b hb2
       have hl1:(ws ++ [Value.slice a5 m c5]).length = n + 1:=by rw [List.length_append,HWL.out,<- HN.out];rfl
       have hM6:=HM5.out.growWas hgrow hrow hnew hl1 hown
       have hv6:=(HV5.out.grow (show 10 + n ≠ 4 by omega) hgrow hrow hnew).set (a:=⟨hb,3,none⟩) (by rw [hM6.rol];omega) (.slice (some ⟨g6,0,none⟩) (n + 1) cap6)
       have hc6:=(HC5.out.grow (show 9 ≠ 4 by omega) hgrow hrow hnew).set (a:=⟨hb,3,none⟩) (by rw [hM6.rol];omega) (.slice (some ⟨g6,0,none⟩) (n + 1) cap6)
       have r6:=HM5.out.row.grow (by rw [HM5.out.rol];omega) hgrow hrow hnew
       clear q3a q3b
       have q3:=r6.cell 3
       have f3:=r6.free 3
       have q2:=hM6.row.cell 2
       simp only [List.getElem?_cons_zero,List.getElem?_cons_succ] at q3 q2
       have hB6:=(Below.grown HB5.out hgrow hm6 (fun b hb2=>(HKO5.out.lt b hb2).1)).setCell (p:=⟨hb,3,none⟩) HM5.out.low (.slice (some ⟨g6,0,none⟩) (n + 1) cap6)
       have hC6:=hM6.core (by rw [HWL.out]) HX.out (by rw [<- HN.out];exact hv6) hc6
       have HC6:=Lib.hid hC6
       have HB6:=Lib.hid hB6
       clear hown hgrow hnew hlt6 hrow hl1 hM6 hv6 hc6 r6 hB6 hC6)
    | (go_simp
       go_at_call 11
       refine (copy_of _ xs _ HH4.out (by rw [<- HMM.out];have:=HXL.out;omega)).mono ?_
       rintro e w5 ⟨v',rfl,hown5,hB5⟩
       obtain ⟨a5,c5,rfl⟩:=own_form hown5
       rw [<- HMM.out] at hown5
       try rw [<- HMM.out]
       have hM5a:=HM4.out.news hB5
       have hv5a:Own1 w5 base (fun q=>if w4.drew.heap.size <= q then 9 else ρ4 q) (10 + n) 5 (.slice av m cv) (xs.map (Value.int .u8)):=HV4.out.move fun q hq hr=>⟨hB5.block q hq,by
        show (if w4.drew.heap.size <= q then 9 else ρ4 q) = 10 + n
        rw [if_neg (by omega)];exact hr⟩
       have hc5a:Own1 w5 base (fun q=>if w4.drew.heap.size <= q then 9 else ρ4 q) 9 5 (.slice a5 m c5) (xs.map (Value.int .u8)):=⟨by
        rw [List.length_map,<- HMM.out];exact ownsRow_base hown5 HBZ4.out,fun b hb2=>by
        have:=(hown5.lt b hb2).1
        show (if w4.drew.heap.size <= b then 9 else ρ4 b) = 9
        rw [if_pos this]⟩
       have hs5:=hB5.size
       have hbz5:base <= w5.heap.size:=Nat.le_trans HBZ4.out hs5
       have q3a:=hM5a.row.cell 3
       have hM5:=hM5a.alloc (.cells #[.slice a5 m c5] 27)
       have q3b:=hM5.row.cell 3
       simp only [List.getElem?_cons_zero,List.getElem?_cons_succ] at q3a q3b
       have hv5:=hv5a.alloc (.cells #[.slice a5 m c5] 27)
       have hc5:=hc5a.alloc (.cells #[.slice a5 m c5] 27)
       have hko5:=hM5.was.1
       rw [HWL.out,<- HN.out] at hko5
       have hnw5:=cell_one_new w5 (.slice a5 m c5) 27
       have hon5:∀ u ∈ [Value.slice a5 m c5],u.oneCell' = true:=fun u hu=>by simp at hu;subst hu;rfl
       have hm6:base <= (w5.alloc (.cells #[.slice a5 m c5] 27)).heap.size:=by simp;omega
       have hB5w:=(HB4.out.trans (hB5.mono HBZ4.out)).alloc hbz5 (.cells #[.slice a5 m c5] 27)
       have HM5:=Lib.hid hM5
       have HV5:=Lib.hid hv5
       have HC5:=Lib.hid hc5
       have HKO5:=Lib.hid hko5
       have HB5:=Lib.hid hB5w
       clear hM5a hv5a hc5a hM5 hv5 hc5 hko5 hB5w hs5 hbz5 hown5 hB5))
 all_goals
  generalize (w6.setCell ⟨hb,3,none⟩ (.slice (some ⟨g6,0,none⟩) (n + 1) cap6)) = w7 at HC6 HB6 q2 ⊢
  have hFb:∀ x ∈ F ++ [(Value.slice av m cv,xs)],x.2.length <= 1000000000:=by
   intro x hx
   rcases List.mem_append.1 hx with hx | hx
   ·exact HFL.out x hx
   ·obtain rfl:x = (Value.slice av m cv,xs):=by simpa using hx
    show xs.length <= _
    rw [<- HMM.out];exact HXL.out
  have hFlen:(F ++ [(Value.slice av m cv,xs)]).length = n + 1:=by rw [List.length_append,<- HN.out];rfl
  have ht1b:0 <= t1/\t1 <= 1000000000000:=by have:=HT.out;have:=HT1.out;have:=HXL.out;omega
  have HFB:=Lib.hid hFb
  have HFLEN:=Lib.hid hFlen
  have HTB:=Lib.hid ht1b
  clear hFb hFlen ht1b
  by_cases h3:n = 2
  ·have i1:(3:Int) <= ((n + 1:Nat):Int):=by omega
   have i2:(3:Int) <= (n:Int) + 1:=by omega
   clear h3
   go_wp2_with fail
   refine (write_of base hb _ c1 t1 _ _ vk vn _ _ K _ (by rw [HFLEN.out];have:=HF.out;omega) HFB.out (by have:=HK.out;have:=HKK.out;omega) HTB.out HKL.out HC6.out).mono ?_
   rintro e w8 ⟨rfl,hB8,ρ8,vk8,vn8,K8,hC8,hK8,hKb8⟩
   have HC8:=Lib.hid hC8
   have HB8:=Lib.hid (HB6.out.trans hB8)
   have HK8:=Lib.hid hK8
   have HKB8:=Lib.hid hKb8
   clear hC8 hB8 hK8 hKb8
   go_wp2_with fail
   refine (holds_of base hb ρ8 c1 t1 _ _ vk8 vn8 [] [] K8 _ (by decide) (by rw [HK8.out,HFLEN.out];have:=HK.out;have:=HKK.out;have:=HF.out;omega) HKB8.out HC8.out).mono ?_
   rintro e w9 ⟨rfl,hCa⟩
   go_wp2
   go_ret
   exact ⟨rfl,HB8.out.trans (hCa.below base),ρ8,_,_,vk8,vn8,[],[],K8,HC8.out.calm hCa,by decide,fun x hx=>(by cases hx),by rw [HK8.out,HFLEN.out];have:=HK.out;have:=HF.out;omega,HKB8.out⟩
  ·have i1:((n + 1:Nat):Int) < 3:=by have:=HF.out;omega
   have i2:(n:Int) + 1 < 3:=by have:=HF.out;omega
   have i3:¬ ((3:Int) <= (n:Int) + 1):=by omega
   have HH3:=Lib.hid h3
   clear h3
   go_wp2_with fail
   refine (holds_of base hb _ c1 t1 _ _ vk vn _ _ K _ (by rw [HFLEN.out];have:=HF.out;omega) (by have:=HK.out;have:=HKK.out;omega) HKL.out HC6.out).mono ?_
   rintro e w9 ⟨rfl,hCa⟩
   go_wp2
   go_ret
   exact ⟨rfl,HB6.out.trans (hCa.below base),_,_,_,vk,vn,_,_,K,HC6.out.calm hCa,by rw [HFLEN.out];have:=HF.out;have:=HH3.out;omega,HFB.out,by have:=HK.out;omega,HKL.out⟩
section
variable {w w':World} {base hb:Nat} {ρ ρ':Nat->Nat} {cnt tot:Int} {vf vw vk vn:Value} {F:List (Value × List Int)} {ws:List Value} {K:List (Value × Nat × Nat)} {A A':Nat->Option Obj}
theorem Core.shift (h:Core w base hb ρ cnt tot vf vw vk vn F ws K A) (hF:F.length <= 2) (hf:∀ q,q < w.heap.size->ρ q < 1000->w'.heap[q]? = w.heap[q]?/\ρ' q = ρ q) (hs:∀ j y,A' j = some y->KeepB w' ρ' (1000 + j) j y):Core w' base hb ρ' cnt tot vf vw vk vn F ws K A':=by
 have hm:∀ {r:Nat} {e:TypeId} {u:Value} {xs:List Value},r < 1000->Own1 w base ρ r e u xs->Own1 w' base ρ' r e u xs:=fun hr ho=>ho.move fun q hq hq'=>⟨(hf q hq (by omega)).1,(hf q hq (by omega)).2.trans hq'⟩
 have hlt:∀ (i:Nat) (x:Value × List Int),F[i]? = some x->i < 2:=fun i x hx=>by
  rcases Nat.lt_or_ge i F.length with h | h
  ·omega
  ·rw [List.getElem?_eq_none h] at hx;cases hx
 have hb0:=hf hb h.row.lt (by rw [h.rol];omega)
 exact { row := hb0.1.trans h.row, rol := hb0.2.trans h.rol, low := h.low, fresh := hm (by omega) h.fresh, was := hm (by omega) h.was, wlen := h.wlen, kept := hm (by omega) h.kept, nums := hm (by omega) h.nums,
         item:=fun i x hx=>⟨hm (by have:=hlt i x hx;omega) (h.item i x hx).1,(h.item i x hx).2⟩,copy:=fun i v x hv hx=>hm (by omega) (h.copy i v x hv hx),done:=fun x hx=>hm (by omega) (h.done x hx),side:=hs }
end
def relab (P:Nat->Nat) (v:Value) (i:Nat):Nat->Nat:=fun q=>if v.ownBlock = some q then i else P q
structure BMine (P:Nat->Nat) (i:Nat) (base hb:Nat) (cnt tot:Int) (k:Nat) (w:World):Prop where
 at':∃ ρ vf vw vk vn F ws K,Core w base hb ρ cnt tot vf vw vk vn F ws K (fun _=>none)/\F.length <= 2/\(∀ x ∈ F,x.2.length <= 1000000000)/\K.length <= k/\(∀ x ∈ K,x.2.1 <= 1000000/\x.2.2 <= 1000000000000)/\∀ q,q < w.heap.size->P q ≠ i->1000 <= ρ q
theorem BMine.work {P:Nat->Nat} {i j:Nat} (hij:i ≠ j) {base hb:Nat} {cnt tot:Int} {k:Nat} {w w':World} (h:BMine P i base hb cnt tot k w) (hW:Work P j w w') (m:Nat):BMine (grown P w.heap.size m) i base hb cnt tot k w':=by
 obtain ⟨ρ,vf,vw,vk,vn,F,ws,K,hC,h1,h2,h3,h4,h5⟩:=h.at'
 refine ⟨fun q=>if q < w.heap.size then ρ q else 1000,vf,vw,vk,vn,F,ws,K,hC.shift h1 (fun q hq hr=>⟨hW.keep q hq ?_,if_pos hq⟩) (fun j y hy=>nomatch hy),h1,h2,h3,h4,fun q _ hP=>?_⟩
 ·intro hPj
  have:=h5 q hq (by omega)
  omega
 ·show 1000 <= (if q < w.heap.size then ρ q else 1000)
  by_cases hlt:q < w.heap.size
  ·rw [if_pos hlt]
   unfold grown at hP
   rw [if_pos hlt] at hP
   exact h5 q hlt hP
  ·rw [if_neg hlt]
   omega
theorem BMine.relab {P:Nat->Nat} {i m:Nat} {v:Value} (hv:∀ b,v.ownBlock = some b->P b ≠ i) {base hb:Nat} {cnt tot:Int} {k:Nat} {w:World} (h:BMine P i base hb cnt tot k w):BMine (relab P v m) i base hb cnt tot k w:=by
 obtain ⟨ρ,vf,vw,vk,vn,F,ws,K,hC,h1,h2,h3,h4,h5⟩:=h.at'
 refine ⟨ρ,vf,vw,vk,vn,F,ws,K,hC,h1,h2,h3,h4,fun q hq hP=>h5 q hq fun e=>?_⟩
 unfold Go.Proofs.YtdepknffpnnmmaaGreat.relab at hP
 by_cases hvq:v.ownBlock = some q
 ·exact hv q hvq e
 ·rw [if_neg hvq] at hP
  exact hP e
theorem BMine.begin {P:Nat->Nat} {i:Nat} (w:World) (base hb:Nat) (hlow:base <= hb) (h:Row w hb 83 [.int .i64 0,.int .i64 0,.slice none 0 0,.slice none 0 0,.slice none 0 0,.slice none 0 0,.bool false]) (hP:P hb = i):BMine P i base hb 0 0 0 w:=
 ⟨fun q=>if P q = i then 0 else 1000,_,_,_,_,[],[],[],{ row:=h,rol:=if_pos hP,low:=hlow,fresh:=Own1.nil _ _ _ _ _,was:=Own1.nil _ _ _ _ _,wlen:=rfl,kept:=Own1.nil _ _ _ _ _,nums:=Own1.nil _ _ _ _ _,item:=fun i x hx=>(by cases hx),copy:=fun i v x hv hx=>(by cases hx),done:=fun x hx=>(by cases hx),side:=fun j y hy=>nomatch hy },
  by decide,fun x hx=>(by cases hx),Nat.le_refl _,fun x hx=>(by cases hx),fun q _ hq=>by
   show 1000 <= (if P q = i then 0 else 1000)
   rw [if_neg hq]
   omega⟩
theorem bown_mine {P:Nat->Nat} {i:Nat} (base hb:Nat) (cnt tot:Int) (k:Nat) (v:Value) (xs:List Int) (w:World) (h:BMine P i base hb cnt tot k w) (hk:k <= 90000) (hcnt:0 <= cnt/\cnt <= 1000000000) (htot:0 <= tot/\tot <= 500000000000)
 (hx:IsBytes xs) (hxl:xs.length <= 1000000000) (hv:w.ownsRow base 5 1 v xs.length (xs.map (Value.int .u8))) (hP:∀ b,v.ownBlock = some b->P b ≠ i) :
 Calls Tryz.prog 34 #[.pointer (some ⟨hb,0,none⟩),v] w fun e w'=>e = .returned (.bool true)/\BMine (grown (Go.Proofs.YtdepknffpnnmmaaGreat.relab P v i) w.heap.size i) i base hb (cnt + 1) (tot + xs.length) (k + 6) w'/\Work (Go.Proofs.YtdepknffpnnmmaaGreat.relab P v i) i w w':=by
 obtain ⟨ρ,vf,vw,vk,vn,F,ws,K,hC,h1,h2,h3,h4,h5⟩:=h.at'
 obtain ⟨P',hP'⟩:∃ z,z = Go.Proofs.YtdepknffpnnmmaaGreat.relab P v i:=⟨_,rfl⟩
 have hb1:∀ b,v.ownBlock = some b->P' b = i:=fun b hb=>by rw [hP'];unfold Go.Proofs.YtdepknffpnnmmaaGreat.relab;rw [if_pos hb]
 have hb2:∀ q,P q = i->P' q = i:=fun q hq=>by
  rw [hP']
  unfold Go.Proofs.YtdepknffpnnmmaaGreat.relab
  by_cases hvq:v.ownBlock = some q
  ·rw [if_pos hvq]
  ·rw [if_neg hvq];exact hq
 rw [<- hP']
 have hC2:=hC.shift (w':=w) (ρ':=fun q=>if P' q ≠ i then 1000 + q else if v.ownBlock = some q then 10 + F.length else ρ q) (A':=fun q=>if q < w.heap.size/\P' q ≠ i then w.heap[q]? else none) h1
  (fun q hq hr => ⟨rfl, by
    have hPi:P q = i:=by
     by_cases e:P q = i
     ·exact e
     ·have:=h5 q hq e;omega
    show (if P' q ≠ i then 1000 + q else if v.ownBlock = some q then 10 + F.length else ρ q) = ρ q
    rw [if_neg (fun e=>e (hb2 q hPi)),if_neg (fun e=>hP q e hPi)]⟩)
  (fun j y hy => by
    by_cases hj:j < w.heap.size/\P' j ≠ i
    ·have hy2:(if j < w.heap.size/\P' j ≠ i then w.heap[j]? else none) = some y:=hy
     rw [if_pos hj] at hy2
     exact ⟨hy2,by
      show (if P' j ≠ i then 1000 + j else if v.ownBlock = some j then 10 + F.length else ρ j) = 1000 + j
      rw [if_pos hj.2]⟩
    ·have hy2:(if j < w.heap.size/\P' j ≠ i then w.heap[j]? else none) = some y:=hy
     rw [if_neg hj] at hy2
     cases hy2)
 refine (ownb_of base hb _ cnt tot vf vw vk vn F ws K v xs k w h1 h2 h3 hk h4 hcnt htot hx hxl hC2 ⟨by rw [List.length_map];exact hv,fun b hb=>by
  show (if P' b ≠ i then 1000 + b else if v.ownBlock = some b then 10 + F.length else ρ b) = _
  rw [if_neg (fun e=>e (hb1 b hb)),if_pos hb]⟩).mono ?_
 rintro e w' ⟨he,hB,ρ',vf',vw',vk',vn',F',ws',K',hC',g1,g2,g3,g4⟩
 have hside:∀ q,q < w.heap.size->P' q ≠ i->KeepB w' ρ' (1000 + q) q (w.heap[q]?.getD (.cells #[] 0 (0,0)))/\w'.heap[q]? = w.heap[q]?:=fun q hq hPq=>by
  have hs:=hC'.side q (w.heap[q]?.getD (.cells #[] 0 (0,0))) (by
   show (if q < w.heap.size/\P' q ≠ i then w.heap[q]? else none) = _
   rw [if_pos ⟨hq,hPq⟩,Array.getElem?_eq_getElem hq]
   rfl)
  refine ⟨hs,hs.1.trans ?_⟩
  rw [Array.getElem?_eq_getElem hq]
  rfl
 refine ⟨he,⟨fun q=>if q < w.heap.size then ρ' q else if P' q = i\/w.heap.size <= q then ρ' q else 1000,vf',vw',vk',vn',F',ws',K',hC'.shift g1 (fun q hq hr=>⟨rfl,?_⟩) (fun j y hy=>nomatch hy),g1,g2,g3,g4,fun q hq hPq=>?_⟩,⟨hB.os,hB.tape,hB.output,hB.size,fun q hq hPq=>(hside q hq hPq).2⟩⟩
 ·show (if q < w.heap.size then ρ' q else if P' q = i\/w.heap.size <= q then ρ' q else 1000) = ρ' q
  by_cases hlt:q < w.heap.size
  ·rw [if_pos hlt]
  ·rw [if_neg hlt,if_pos (Or.inr (by omega))]
 ·unfold grown at hPq
  by_cases hlt:q < w.heap.size
  ·rw [if_pos hlt] at hPq
   show 1000 <= (if q < w.heap.size then ρ' q else if P' q = i\/w.heap.size <= q then ρ' q else 1000)
   rw [if_pos hlt,(hside q hlt hPq).1.2]
   omega
  ·rw [if_neg hlt] at hPq
   exact absurd rfl hPq
theorem bdone_good (base hb:Nat) (ρ:Nat->Nat) (cnt tot:Int) (k:Nat) (vf vw vk vn:Value) (F:List (Value × List Int)) (ws:List Value) (K:List (Value × Nat × Nat)) (A:Nat->Option Obj) (w:World) (hC:Core w base hb ρ cnt tot vf vw vk vn F ws K A) (h1:F.length <= 2) (h2:∀ x ∈ F,x.2.length <= 1000000000) (h3:K.length <= k) (h4:∀ x ∈ K,x.2.1 <= 1000000/\x.2.2 <= 1000000000000) (hk:k <= 90000) (htot:0 <= tot/\tot <= 500000000000) :
 Calls Tryz.prog 36 #[.pointer (some ⟨hb,0,none⟩)] w fun e w'=>e = .returned (.bool true)/\Below base w w'/\∀ j y,A j = some y->w'.heap[j]? = some y:=by
 have HC:=Lib.hid hC
 clear hC
 go_enter Tryz.func36,Tryz.ntmps36
 go_wp2_with fail
 refine (write_of base hb ρ cnt tot vf vw vk vn F ws K _ (by omega) h2 (by omega) ⟨htot.1,by omega⟩ h4 HC.out).mono ?_
 rintro e w8 ⟨rfl,hB8,ρ8,vk8,vn8,K8,hC8,hK8,hKb8⟩
 have HC8:=Lib.hid hC8
 have HB8:=Lib.hid hB8
 have HKB8:=Lib.hid hKb8
 clear hC8 hB8 hKb8
 go_wp2_with fail
 refine (holds_of base hb ρ8 cnt tot _ _ vk8 vn8 [] [] K8 _ (by decide) (by rw [hK8];omega) HKB8.out HC8.out).mono ?_
 rintro e w9 ⟨rfl,hCa⟩
 go_wp2
 go_ret
 exact ⟨rfl,HB8.out.trans (hCa.below base),fun j y hy=>by rw [hCa.heap];exact (HC8.out.side j y hy).1⟩
theorem bdone_mine {P:Nat->Nat} {i:Nat} (base hb:Nat) (cnt tot:Int) (k:Nat) (w:World) (h:BMine P i base hb cnt tot k w) (hk:k <= 90000) (htot:0 <= tot/\tot <= 500000000000) :
 Calls Tryz.prog 36 #[.pointer (some ⟨hb,0,none⟩)] w fun e w'=>e = .returned (.bool true)/\Work P i w w':=by
 obtain ⟨ρ,vf,vw,vk,vn,F,ws,K,hC,h1,h2,h3,h4,h5⟩:=h.at'
 have hC2:=hC.shift (w':=w) (ρ':=fun q=>if P q ≠ i then 1000 + q else ρ q) (A':=fun q=>if q < w.heap.size/\P q ≠ i then w.heap[q]? else none) h1
  (fun q hq hr => ⟨rfl, by
    have hPi:P q = i:=by
     by_cases e:P q = i
     ·exact e
     ·have:=h5 q hq e;omega
    show (if P q ≠ i then 1000 + q else ρ q) = ρ q
    rw [if_neg (fun e=>e hPi)]⟩)
  (fun j y hy => by
    have hy2:(if j < w.heap.size/\P j ≠ i then w.heap[j]? else none) = some y:=hy
    by_cases hj:j < w.heap.size/\P j ≠ i
    ·rw [if_pos hj] at hy2
     exact ⟨hy2,by
      show (if P j ≠ i then 1000 + j else ρ j) = 1000 + j
      rw [if_pos hj.2]⟩
    ·rw [if_neg hj] at hy2
     cases hy2)
 refine (bdone_good base hb _ cnt tot k vf vw vk vn F ws K _ w hC2 h1 h2 h3 h4 hk htot).mono ?_
 rintro e w' ⟨he,hB,hs⟩
 refine ⟨he,⟨hB.os,hB.tape,hB.output,hB.size,fun q hq hPq=>?_⟩⟩
 rw [Array.getElem?_eq_getElem hq]
 exact hs q _ (by
  show (if q < w.heap.size/\P q ≠ i then w.heap[q]? else none) = _
  rw [if_pos ⟨hq,hPq⟩,Array.getElem?_eq_getElem hq])
end Go.Proofs.YtdepknffpnnmmaaGreat
