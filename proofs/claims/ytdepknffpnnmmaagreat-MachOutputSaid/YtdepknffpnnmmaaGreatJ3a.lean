import Derived.Test.YtdepknffpnnmmaaGreatMachE
import Derived.WalkSpells
import Derived.WalkLawsBesides
import Derived.Laws.AppendOwnNone
import Derived.Laws.OwnMore
import Derived.SizedLaws
import Derived.Lib.SliceRun
import Derived.Test.YtdepknffpnnmmaaGreatJ0a
import Derived.Deep.RegionHeld3
import Derived.Deep.Cut
import Derived.Test.YtdepknffpnnmmaaGreatJ2a
set_option maxRecDepth 100000
set_option maxHeartbeats 16000000
namespace Go.Proofs.YtdepknffpnnmmaaGreat
open Go.RowKit
set_option linter.unusedVariables false
structure Ins where
 op:Int
 nar:Bool
 reg:Bool
 size:Int
 dst:Int
 src:Int
 off:Int
 imm:Int
def Ins.cs (i:Ins):List Value:=insc i.op i.nar i.reg i.size i.dst i.src i.off i.imm
def Ins.right (i:Ins):Int:=rightc (formedv i.op i.nar i.reg i.size) (usesD i.op) (usesS i.op i.reg) (usesO i.op i.nar) (usesI i.op i.nar i.reg) (immFitsv i.op i.nar i.imm) (isRegv i.dst (writesDstv i.op)) (isRegv i.src (writesSrcv i.op i.imm)) i.dst i.src i.off i.imm
def Reads (w:World) (size:Nat) (v:Value) (n:Nat) (cs:List Value):Prop:=
 cs.length = n * size/\(∀ u ∈ cs,u.oneCell' = true)/\((n = 0/\∃ a cap,v = .slice a 0 cap/\cap <= maxLen)\/(0 < n/\∃ b off cap,v = .slice (some ⟨b,off,none⟩) n cap/\b < w.heap.size/\cap <= maxLen/\n <= cap/\∀ j u,cs[j]? = some u->w.cell? ⟨b,off + j,none⟩ = some u))
theorem Reads.below {w w':World} {size:Nat} {v:Value} {n:Nat} {cs:List Value} {B:Nat} (h:Reads w size v n cs) (hb:Below B w w') (hB:w.heap.size <= B):Reads w' size v n cs:=by
 obtain ⟨hl,h1,h | ⟨hp,b,off,cap,rfl,hlt,hm,hc,hcell⟩⟩:=h
 ·exact ⟨hl,h1,Or.inl h⟩
 ·exact ⟨hl,h1,Or.inr ⟨hp,b,off,cap,rfl,Nat.lt_of_lt_of_le hlt hb.size,hm,hc,fun j u hj=>(hb.cell (p:=⟨b,off + j,none⟩) (show b < B by omega)).trans (hcell j u hj)⟩⟩
theorem reads_own {w:World} {base size n:Nat} {e:TypeId} {v:Value} {cs:List Value} (h:w.ownsRow base e size v n cs) (h1:∀ u ∈ cs,u.oneCell' = true) (hs:0 < size):Reads w size v n cs:=by
 have h0:=h
 obtain ⟨hl,⟨rfl,rfl⟩ | ⟨g,cap,cur,rfl,hb,hg,hc,hm,hz,ht⟩⟩:=h
 ·exact ⟨hl,h1,Or.inl ⟨rfl,_,_,rfl,Nat.zero_le _⟩⟩
 ·by_cases hn:n = 0
  ·subst hn
   exact ⟨hl,h1,Or.inl ⟨rfl,_,_,rfl,hm⟩⟩
  ·refine ⟨hl,h1,Or.inr ⟨by omega,g,0,cap,rfl,lt_of_block hg,hm,hc,fun j u hj=>?_⟩⟩
   have hjl:j < n * size:=by
    by_cases hh:j < cs.length
    ·omega
    ·rw [List.getElem?_eq_none (by omega)] at hj;cases hj
   rw [Nat.zero_add,h0.cellAt j hjl]
   exact hj
theorem Ins.cs_len (i:Ins):i.cs.length = 8:=rfl
theorem Ins.cs_one (i:Ins):∀ u ∈ i.cs,u.oneCell' = true:=by
 intro u hu
 simp only [Ins.cs,insc,List.mem_cons,List.not_mem_nil,or_false] at hu
 rcases hu with rfl | rfl | rfl | rfl | rfl | rfl | rfl | rfl <;> rfl
def codec (l:List Ins):List Value:=l.flatMap Ins.cs
theorem codec_len (l:List Ins):(codec l).length = l.length * 8:=by
 induction l with
 | nil=>rfl
 | cons x l ih=>unfold codec at ih ⊢;rw [List.flatMap_cons,List.length_append,ih,Ins.cs_len,List.length_cons];omega
theorem codec_one (l:List Ins):∀ u ∈ codec l,u.oneCell' = true:=by
 intro u hu
 obtain ⟨x,_,hx⟩:=List.mem_flatMap.1 hu
 exact x.cs_one u hx
theorem codec_get (l:List Ins):∀ i (h:i < l.length) j,j < 8->(codec l)[i * 8 + j]? = (l[i].cs)[j]?:=by
 induction l with
 | nil=>intro i h;cases h
 | cons x l ih =>
   intro i h j hj
   have hc:codec (x :: l) = x.cs ++ codec l:=by unfold codec;rw [List.flatMap_cons]
   rw [hc]
   cases i with
   | zero=>rw [List.getElem?_append_left (by rw [Ins.cs_len];omega),Nat.zero_mul,Nat.zero_add];rfl
   | succ i =>
     rw [List.getElem?_append_right (by rw [Ins.cs_len];omega),Ins.cs_len,show (i + 1) * 8 + j - 8 = i * 8 + j by omega]
     exact ih i (by simpa using h) j hj
def Coded (w:World) (v:Value) (l:List Ins):Prop:=Reads w 8 v l.length (codec l)
theorem Coded.below {w w':World} {v:Value} {l:List Ins} {B:Nat} (h:Coded w v l) (hb:Below B w w') (hB:w.heap.size <= B):Coded w' v l:=Reads.below h hb hB
theorem Coded.open {w:World} {v:Value} {l:List Ins} (h:Coded w v l):∃ a cap,v = .slice a l.length cap/\∀ i (h:i < l.length),∃ b off,a = some ⟨b,off,none⟩/\b < w.heap.size /\
 ∀ j,j < 8->w.cell? ⟨b,off + i * 8 + j,none⟩ = (l[i].cs)[j]?:=by
 obtain ⟨hl,h1,⟨hz,a,cap,rfl,hm⟩ | ⟨hp,b,off,cap,rfl,hlt,hm,hc,hcell⟩⟩:=h
 ·exact ⟨a,cap,by rw [hz],fun i hi=>absurd hi (by omega)⟩
 ·refine ⟨_,cap,rfl,fun i hi=>⟨b,off,rfl,hlt,fun j hj=>?_⟩⟩
  have hg:=codec_get l i hi j hj
  have hjl:j < (l[i].cs).length:=by rw [Ins.cs_len];exact hj
  rw [List.getElem?_eq_getElem hjl] at hg ⊢
  have:=hcell _ _ hg
  rw [<- Nat.add_assoc] at this
  exact this
def AllRight (l:List Ins):Prop:=l.length <= 4096/\∀ i (h:i < l.length),l[i].right = 0
theorem check_of (v:Value) (l:List Ins) (hl:l.length <= 4611686018427387903) (w:World) (h:Coded w v l) :
 Calls Tryz.prog 65 #[v] w fun e w'=>∃ at' er,e = .returned (.tuple #[.int .i64 at',.int .i64 er])/\(er = 0 ↔ AllRight l)/\Below w.heap.size w w':=by
 obtain ⟨a,cap,rfl,hc⟩:=h.open
 obtain ⟨n,hn⟩:∃ n,n = l.length:=⟨_,rfl⟩
 rw [<- hn] at hl ⊢
 have HC:=Lib.hid hc
 have HN:=Lib.hid hn
 clear hc hn h
 go_enter Tryz.func65,Tryz.ntmps65
 go_wp2
 go_loopw [9] (fun s wr=>∃ i:Nat,i <= n/\s = .int .i64 i/\Below w.heap.size w wr/\i <= 4096/\∀ k (h:k < l.length),k < i->l[k].right = 0) (fun s _=>n - (intOf s).toNat)
 case atStart=>exact ⟨0,Nat.zero_le _,rfl,Below.refl _ _,by decide,fun k _ hk=>absurd hk (by omega)⟩
 case round=>
  obtain ⟨i,hi,rfl,hB,hi4,hr⟩:=hrel
  have HB:=Lib.hid hB
  have HR:=Lib.hid hr
  clear hB hr
  by_cases hlt:i < n
  ·obtain ⟨b,off,rfl,hb,hcell⟩:=HC.out i (by rw [<- HN.out];exact hlt)
   obtain ⟨x,hx⟩:∃ x,x = l[i]'(by rw [<- HN.out];exact hlt):=⟨_,rfl⟩
   rw [<- hx] at hcell
   have hcw:∀ j,j < 8->wr.cell? ⟨b,off + i * 8 + j,none⟩ = (x.cs)[j]?:=fun j hj=>(HB.out.cell (p:=⟨b,off + i * 8 + j,none⟩) hb).trans (hcell j hj)
   have e0:=hcw 0 (by decide)
   have e1:=hcw 1 (by decide)
   have e2:=hcw 2 (by decide)
   have e3:=hcw 3 (by decide)
   have e4:=hcw 4 (by decide)
   have e5:=hcw 5 (by decide)
   have e6:=hcw 6 (by decide)
   have e7:=hcw 7 (by decide)
   obtain ⟨op,nar,reg,size,dst,src,of,imm⟩:=x
   simp only [Ins.cs,insc,List.getElem?_cons_zero,List.getElem?_cons_succ,Nat.add_zero] at e0 e1 e2 e3 e4 e5 e6 e7
   have HX:=Lib.hid hx
   clear hcell hcw hx
   have hj1:(0:Int) <= (i:Int):=by omega
   have hj3:(i:Int) < n:=by omega
   by_cases h4:i = 4096
   ·have h5:((i:Int) == 4096) = true:=by simp [h4]
    have H4:=Lib.hid h4
    clear h4
    have HB2:=Lib.hid (HB.out.alloc HB.out.size (.cells #[.int .i64 op,.bool nar,.bool reg,.int .i64 size,.int .i64 dst,.int .i64 src,.int .i64 of,.int .i64 imm] 25))
    go_wp2
    exact bodyPost_ret (v:=.tuple #[.int .i64 i,.int .i64 25]) (by simp [results,Tryz.results65,go_sem]) rfl ⟨_,_,rfl,⟨fun h=>absurd h (by decide),fun h=>absurd h.1 (by have:=HN.out;have:=H4.out;omega)⟩,HB2.out⟩
   ·have h5:((i:Int) == 4096) = false:=by simp;omega
    have H4:=Lib.hid h4
    clear h4
    have HB2:=Lib.hid (HB.out.alloc HB.out.size (.cells #[.int .i64 op,.bool nar,.bool reg,.int .i64 size,.int .i64 dst,.int .i64 src,.int .i64 of,.int .i64 imm] 25))
    have hri:=fun w=>right_of op nar reg size dst src of imm w
    have hxr:(l[i]'(by rw [<- HN.out];exact hlt)).right = rightc (formedv op nar reg size) (usesD op) (usesS op reg) (usesO op nar) (usesI op nar reg) (immFitsv op nar imm) (isRegv dst (writesDstv op)) (isRegv src (writesSrcv op imm)) dst src of imm:=by rw [<- HX.out];rfl
    obtain ⟨R,hR⟩:∃ R,rightc (formedv op nar reg size) (usesD op) (usesS op reg) (usesO op nar) (usesI op nar reg) (immFitsv op nar imm) (isRegv dst (writesDstv op)) (isRegv src (writesSrcv op imm)) dst src of imm = R:=⟨_,rfl⟩
    rw [hR] at hri hxr
    have HRI:=Lib.hid hri
    have HXR:=Lib.hid hxr
    clear hri hxr hR
    go_wp2_with fail
    refine (HRI.out _).mono ?_
    rintro e w2 ⟨rfl,hB⟩
    have HB3:=Lib.hid (HB2.out.trans (hB.mono HB2.out.size))
    clear hB e0 e1 e2 e3 e4 e5 e6 e7
    by_cases hz:R = 0
    ·have h6:(R != 0) = false:=by simp [hz]
     have HZ:=Lib.hid hz
     clear hz
     go_wp2
     go_roundw
     case rel=>
      exact ⟨i + 1,hlt,by go_num,HB3.out,by have:=H4.out;have:=HB3.out;omega,fun k hk hki=>by
       by_cases hke:k = i
       ·subst hke
        rw [HXR.out,HZ.out]
       ·exact HR.out k hk (by omega)⟩
     case measure=>simp [intOf];omega
    ·have h6:(R != 0) = true:=by simp [hz]
     have HZ:=Lib.hid hz
     clear hz
     go_wp2
     exact bodyPost_ret (v:=.tuple #[.int .i64 i,.int .i64 R]) (by simp [results,Tryz.results65,go_sem]) rfl ⟨_,_,rfl,⟨fun h=>absurd h HZ.out,fun h=>by
      have:=h.2 i (by rw [<- HN.out];exact hlt)
      rw [HXR.out] at this
      exact this⟩,HB3.out⟩
  ·obtain rfl:i = n:=by omega
   go_wp2
   exact bodyPost_ret (v:=.tuple #[.int .i64 0,.int .i64 0]) (by simp [results,Tryz.results65,go_sem]) rfl ⟨_,_,rfl,⟨fun _=>⟨by rw [<- HN.out];exact hi4,fun k hk=>HR.out k hk (by rw [HN.out];exact hk)⟩,fun _=>rfl⟩,HB.out⟩
set_option linter.unusedSimpArgs false
def wideop (op:Int):Bool:=op == 20 || op == 21
theorem wide_told (op:Int) (w:World):Calls Tryz.prog 66 #[.int .i64 op] w (Told w (.bool (wideop op))):=by
 have hc:op = 20\/op = 21\/(op ≠ 20/\op ≠ 21):=by omega
 rcases hc with rfl | rfl | ⟨h0,h1⟩
 ·rw [show wideop 20 = true by decide]
  go_enter Tryz.func66,Tryz.ntmps66
  go_wp2
  go_ret
  exact ⟨rfl,rfl⟩
 ·rw [show wideop 21 = true by decide]
  go_enter Tryz.func66,Tryz.ntmps66
  go_wp2
  go_ret
  exact ⟨rfl,rfl⟩
 ·rw [show wideop op = false by simp [wideop,h0,h1]]
  have t0:(op == 20) = false:=by simpa using h0
  have t1:(op == 21) = false:=by simpa using h1
  go_enter Tryz.func66,Tryz.ntmps66
  go_wp2
  go_ret
  exact ⟨rfl,rfl⟩
def unitAt (l:List Ins):Nat->Nat
 | 0=>0
 | k + 1=>unitAt l k + (if wideop ((l.map Ins.op).getD k 0) then 2 else 1)
theorem unitAt_le (l:List Ins):∀ k,unitAt l k <= 2 * k
 | 0=>Nat.le_refl _
 | k + 1=>by have:=unitAt_le l k;unfold unitAt;split <;> omega
def ztab (n:Nat) (f:Nat->Int):List Value:=(List.range n).map fun i=>.int .i64 (f i)
theorem ztab_succ (n:Nat) (f:Nat->Int):ztab n f ++ [.int .i64 (f n)] = ztab (n + 1) f:=by simp [ztab,List.range_succ]
theorem ztab_get {n i:Nat} (f:Nat->Int) (h:i < n):(ztab n f)[i]? = some (.int .i64 (f i)):=by simp [ztab,h]
theorem info_i64:(Tryz.prog.info? 3).map (fun i=>(i.zero,i.size,i.bytes)) = some (some (.int .i64 0),1,8):=by kernel_rfl
theorem info_split {P:Program} {e:TypeId} {z:Value} {s b:Nat} (h:(P.info? e).map (fun i=>(i.zero,i.size,i.bytes)) = some (some z,s,b)):∃ i,P.info? e = some i/\i.zero = some z/\i.size = s/\i.bytes = b:=by
 cases hi:P.info? e with
 | none=>rw [hi] at h;cases h
 | some i=>rw [hi] at h;simp at h;exact ⟨i,rfl,h.1,h.2.1,h.2.2⟩
theorem own_stays {w w':World} {base B:Nat} {e:TypeId} {s:Nat} {v:Value} {n:Nat} {xs:List Value} (h:w.ownsRow base e s v n xs) (hb:Below B w w') (hB:w.heap.size <= B):w'.ownsRow base e s v n xs:=by
 rcases h with ⟨hl,hz | ⟨g',cap',cur,rfl,hb',hgg,rest⟩⟩
 ·exact ⟨hl,Or.inl hz⟩
 ·exact ⟨hl,Or.inr ⟨g',cap',cur,rfl,hb',by rw [hb.block g' (Nat.lt_of_lt_of_le (Array.getElem?_eq_some_iff.1 hgg).1 hB)];exact hgg,rest⟩⟩
theorem units_of (v:Value) (l:List Ins) (hl:l.length <= 4096) (w:World) (h:Coded w v l) :
 Calls Tryz.prog 46 #[v] w fun e w'=>∃ v',e = .returned v'/\w'.ownsRow w.heap.size 3 1 v' (l.length + 1) (ztab (l.length + 1) fun k=>unitAt l k)/\Below w.heap.size w w':=by
 obtain ⟨i0,hi0,hz0,hz1,hz2⟩:=info_split info_i64
 obtain ⟨a,cap,rfl,hc⟩:=h.open
 obtain ⟨n,hn⟩:∃ n,n = l.length:=⟨_,rfl⟩
 rw [<- hn] at hl ⊢
 have HC:=Lib.hid hc
 have HN:=Lib.hid hn
 clear hc hn h
 have ho0:=Lib.hid (World.ownsRow_lit (e:=3) (size:=1) (base:=w.heap.size) w #[.int .i64 0] 1 (Nat.le_refl _) (by decide) rfl)
 have hB0:=Lib.hid ((Below.refl w.heap.size w).alloc (Nat.le_refl _) (.cells #[.int .i64 0] 3))
 go_enter Tryz.func46,Tryz.ntmps46
 go_wp2
 go_loopw [3,4,10] (fun s3 s4 s wr=>∃ i:Nat,i <= n/\s = .int .i64 i/\s4 = .int .i64 (unitAt l i:Nat)/\wr.ownsRow w.heap.size 3 1 s3 (i + 1) (ztab (i + 1) fun k=>unitAt l k)/\Below w.heap.size w wr) (fun _ _ s _=>n - (intOf s).toNat)
 case atStart=>exact ⟨0,Nat.zero_le _,rfl,rfl,ho0.out,hB0.out⟩
 case round=>
  obtain ⟨i,hi,rfl,rfl,hO,hB⟩:=hrel
  have HB:=Lib.hid hB
  have HO:=Lib.hid hO
  clear hB hO
  by_cases hlt:i < n
  ·obtain ⟨b,off,rfl,hb,hcell⟩:=HC.out i (by rw [<- HN.out];exact hlt)
   obtain ⟨x,hx⟩:∃ x,x = l[i]'(by rw [<- HN.out];exact hlt):=⟨_,rfl⟩
   rw [<- hx] at hcell
   have hcw:∀ j,j < 8->wr.cell? ⟨b,off + i * 8 + j,none⟩ = (x.cs)[j]?:=fun j hj=>(HB.out.cell (p:=⟨b,off + i * 8 + j,none⟩) hb).trans (hcell j hj)
   have e0:=hcw 0 (by decide)
   have e1:=hcw 1 (by decide)
   have e2:=hcw 2 (by decide)
   have e3:=hcw 3 (by decide)
   have e4:=hcw 4 (by decide)
   have e5:=hcw 5 (by decide)
   have e6:=hcw 6 (by decide)
   have e7:=hcw 7 (by decide)
   have hun:unitAt l (i + 1) = unitAt l i + (if wideop x.op then 2 else 1):=by
    have:(l.map Ins.op).getD i 0 = x.op:=by rw [hx];simp [List.getD,show i < l.length by rw [<- HN.out];exact hlt]
    show unitAt l i + _ = _
    rw [this]
   have hul:=unitAt_le l i
   obtain ⟨op,nar,reg,size,dst,src,of,imm⟩:=x
   simp only [Ins.cs,insc,List.getElem?_cons_zero,List.getElem?_cons_succ,Nat.add_zero] at e0 e1 e2 e3 e4 e5 e6 e7
   obtain ⟨U,hU⟩:∃ U,U = unitAt l i:=⟨_,rfl⟩
   rw [<- hU] at hun hul
   have HU:=Lib.hid hU
   have HUN:=Lib.hid hun
   clear hcell hcw hx hun
   rw [<- hU]
   clear hU
   have hj1:(0:Int) <= (i:Int):=by omega
   have hj3:(i:Int) < n:=by omega
   go_wp2_with fail
   refine (wide_told _ _).mono ?_
   rintro e w2 ⟨rfl,rfl⟩
   have OB:=fun (m:Int)=>Obj.cells #[.int .i64 m] 3
   have hbb:Below w.heap.size w (wr.alloc (.cells #[.int .i64 op,.bool nar,.bool reg,.int .i64 size,.int .i64 dst,.int .i64 src,.int .i64 of,.int .i64 imm] 25)):=HB.out.alloc HB.out.size _
   have hoo:=own_stays HO.out ((Below.refl wr.heap.size wr).alloc (Nat.le_refl _) (.cells #[.int .i64 op,.bool nar,.bool reg,.int .i64 size,.int .i64 dst,.int .i64 src,.int .i64 of,.int .i64 imm] 25)) (Nat.le_refl _)
   have HBB:=Lib.hid hbb
   have HOO:=Lib.hid hoo
   clear hbb hoo OB
   obtain ⟨d,hd⟩:∃ d,wideop op = d:=⟨_,rfl⟩
   rw [hd]
   have HU2:=HUN.out
   simp only [hd] at HU2
   have HUM:=Lib.hid HU2
   clear HU2 hd HUN e0 e1 e2 e3 e4 e5 e6 e7
   generalize wr.alloc (.cells #[.int .i64 op,.bool nar,.bool reg,.int .i64 size,.int .i64 dst,.int .i64 src,.int .i64 of,.int .i64 imm] 25) = w2 at HBB HOO ⊢
   cases d
   ·have hm:(((U:Int) + 1):Int) = ((unitAt l (i + 1):Nat):Int):=by have:=HUM.out;simp only [Bool.false_eq_true,if_true,if_false] at this;omega
    have HM:=Lib.hid hm
    clear hm
    have hbc:=HBB.out.alloc HBB.out.size (.cells #[.int .i64 ((U:Int) + 1)] 3)
    have hoc:=own_stays HOO.out ((Below.refl w2.heap.size w2).alloc (Nat.le_refl _) (.cells #[.int .i64 ((U:Int) + 1)] 3)) (Nat.le_refl _)
    have hcn:(w2.alloc (.cells #[.int .i64 ((U:Int) + 1)] 3)).cell? ⟨w2.heap.size,0,none⟩ = some (.int .i64 ((U:Int) + 1)):=by rw [(Row.made w2 [.int .i64 ((U:Int) + 1)] 3).cell];rfl
    have hnews:∀ (j:Nat) (u:Value),[(.int .i64 ((U:Int) + 1):Value)][j]? = some u->(w2.alloc (.cells #[.int .i64 ((U:Int) + 1)] 3)).cell? ((⟨w2.heap.size,0,none⟩:Addr).add j) = some u:=by
     intro j u hu
     have hj:j = 0:=by cases j with
      | zero=>rfl
      | succ j=>simp at hu
     subst hj
     simp at hu
     rw [<- hu]
     exact hcn
    have hone:∀ u ∈ [(.int .i64 ((U:Int) + 1):Value)],u.oneCell' = true:=by
     intro u hu
     simp at hu
     subst hu
     rfl
    have HBC:=Lib.hid hbc
    have HOC:=Lib.hid hoc
    have hm3:w.heap.size <= (w2.alloc (.cells #[.int .i64 ((U:Int) + 1)] 3)).heap.size:=hbc.size
    have HM3:=Lib.hid hm3
    clear hbc hoc hm3 hcn
    have hk1:i + 1 + 1 <= maxLen:=by unfold maxLen;omega
    have hk2:(i + 1 + 1) * 8 <= 140737488355328:=by omega
    go_wp2_with (at_builtin;refine wpList_append_own _ rfl (.tmp 21) (.tmp 23) 23 rfl w.heap.size 3 i0 (.int .i64 0) 1 8 Tryz.underlying23 hi0 hz0 hz1 hz2 rfl (by decide) u3 (i + 1) _ rfl HOC.out ⟨w2.heap.size,0,none⟩ 1 1 [.int .i64 ((U:Int) + 1)] rfl rfl hnews hone hk1 hk2 HM3.out ?_;intro v1 w3 hown hgrow _)
    have hB2:Below w.heap.size w w3:=Below.grown HBC.out hgrow HM3.out (fun j hj=>(HOC.out.lt j hj).1)
    have hown2:w3.ownsRow w.heap.size 3 1 v1 (i + 1 + 1) (ztab (i + 1 + 1) fun k=>unitAt l k):=by
     rw [<- ztab_succ,<- HM.out]
     exact hown
    have HO2:=Lib.hid hown2
    have HB2:=Lib.hid hB2
    clear hown hgrow hnews hone hown2 hB2
    go_wp2
    go_roundw
    case rel=>exact ⟨i + 1,hlt,by go_num,by rw [<- HM.out],HO2.out,HB2.out⟩
    case measure=>simp [intOf];omega
   ·have hm:(((U:Int) + 1 + 1):Int) = ((unitAt l (i + 1):Nat):Int):=by have:=HUM.out;simp only [Bool.false_eq_true,if_true,if_false] at this;omega
    have HM:=Lib.hid hm
    clear hm
    have hbc:=HBB.out.alloc HBB.out.size (.cells #[.int .i64 ((U:Int) + 1 + 1)] 3)
    have hoc:=own_stays HOO.out ((Below.refl w2.heap.size w2).alloc (Nat.le_refl _) (.cells #[.int .i64 ((U:Int) + 1 + 1)] 3)) (Nat.le_refl _)
    have hcn:(w2.alloc (.cells #[.int .i64 ((U:Int) + 1 + 1)] 3)).cell? ⟨w2.heap.size,0,none⟩ = some (.int .i64 ((U:Int) + 1 + 1)):=by rw [(Row.made w2 [.int .i64 ((U:Int) + 1 + 1)] 3).cell];rfl
    have hnews:∀ (j:Nat) (u:Value),[(.int .i64 ((U:Int) + 1 + 1):Value)][j]? = some u->(w2.alloc (.cells #[.int .i64 ((U:Int) + 1 + 1)] 3)).cell? ((⟨w2.heap.size,0,none⟩:Addr).add j) = some u:=by
     intro j u hu
     have hj:j = 0:=by cases j with
      | zero=>rfl
      | succ j=>simp at hu
     subst hj
     simp at hu
     rw [<- hu]
     exact hcn
    have hone:∀ u ∈ [(.int .i64 ((U:Int) + 1 + 1):Value)],u.oneCell' = true:=by
     intro u hu
     simp at hu
     subst hu
     rfl
    have HBC:=Lib.hid hbc
    have HOC:=Lib.hid hoc
    have hm3:w.heap.size <= (w2.alloc (.cells #[.int .i64 ((U:Int) + 1 + 1)] 3)).heap.size:=hbc.size
    have HM3:=Lib.hid hm3
    clear hbc hoc hm3 hcn
    have hk1:i + 1 + 1 <= maxLen:=by unfold maxLen;omega
    have hk2:(i + 1 + 1) * 8 <= 140737488355328:=by omega
    go_wp2_with (at_builtin;refine wpList_append_own _ rfl (.tmp 21) (.tmp 23) 23 rfl w.heap.size 3 i0 (.int .i64 0) 1 8 Tryz.underlying23 hi0 hz0 hz1 hz2 rfl (by decide) u3 (i + 1) _ rfl HOC.out ⟨w2.heap.size,0,none⟩ 1 1 [.int .i64 ((U:Int) + 1 + 1)] rfl rfl hnews hone hk1 hk2 HM3.out ?_;intro v1 w3 hown hgrow _)
    have hB2:Below w.heap.size w w3:=Below.grown HBC.out hgrow HM3.out (fun j hj=>(HOC.out.lt j hj).1)
    have hown2:w3.ownsRow w.heap.size 3 1 v1 (i + 1 + 1) (ztab (i + 1 + 1) fun k=>unitAt l k):=by
     rw [<- ztab_succ,<- HM.out]
     exact hown
    have HO2:=Lib.hid hown2
    have HB2:=Lib.hid hB2
    clear hown hgrow hnews hone hown2 hB2
    go_wp2
    go_roundw
    case rel=>exact ⟨i + 1,hlt,by go_num,by rw [<- HM.out],HO2.out,HB2.out⟩
    case measure=>simp [intOf];omega
  ·obtain rfl:i = n:=by omega
   go_wp2
   go_ret
   exact ⟨_,rfl,HO.out,HB.out⟩
theorem info_byte:(Tryz.prog.info? 5).map (fun i=>(i.zero,i.size,i.bytes)) = some (some (.int .u8 0),1,1):=by kernel_rfl
theorem clone_byte (v:Value) (n:Nat) (cs:List Value) (w:World) (h:Reads w 1 v n cs) (hl:n * 1 <= 140737488355328) :
 Calls Tryz.prog 47 #[v] w fun e w'=>∃ v',e = .returned v'/\w'.ownsRow w.heap.size 5 1 v' n cs/\Below w.heap.size w w':=by
 obtain ⟨i0,hi0,hz0,hz1,hz2⟩:=info_split info_byte
 have qT:∀ (w:World) (a:Option Addr) (n c n' c':Nat),(binOp .eql 27 (.slice a n c) (.slice none n' c')).run Tryz.prog w = .ok (.bool a.isNone) w:=fun w a n c n' c'=>Lib.run_eql_slice_nil w _ _ a n c n' c' Tryz.underlying27
 obtain ⟨hcl,h1,h⟩:=h
 have ho0:=Lib.hid (World.ownsRow_lit (e:=5) (size:=1) (base:=w.heap.size) w #[] 0 (Nat.le_refl _) (by decide) rfl)
 have hB0:=Lib.hid ((Below.refl w.heap.size w).alloc (Nat.le_refl _) (.cells #[] 5))
 obtain ⟨a,cap,rfl,hnone,hnews⟩:∃ a cap,v = .slice a n cap/\(a = none->n = 0)/\∀ ad,a = some ad->∀ j u,cs[j]? = some u->w.cell? (ad.add j) = some u:=by
  rcases h with ⟨rfl,a,cap,rfl,_⟩ | ⟨hp,b,off,cap,rfl,hlt,hm,hc,hcell⟩
  ·have:cs = []:=List.length_eq_zero_iff.1 (by simpa using hcl)
   subst this
   exact ⟨a,cap,rfl,fun _=>rfl,fun _ _ j u hj=>by cases hj⟩
  ·refine ⟨_,cap,rfl,(fun h=>by cases h),fun ad had j u hj=>?_⟩
   cases had
   have hplain:(⟨b,off,none⟩:Addr).add j = ⟨b,off + j,none⟩:=by unfold Addr.add;split <;> simp_all
   rw [hplain]
   exact hcell j u hj
 clear h
 cases a with
 | none =>
   obtain rfl:=hnone rfl
   have:cs = []:=List.length_eq_zero_iff.1 (by simpa using hcl)
   subst this
   clear ho0 hB0
   go_enter Tryz.func47,Tryz.ntmps47
   go_wp2
   go_ret
   exact ⟨_,rfl,World.ownsRow_nil _ _ _ _,Below.refl _ _⟩
 | some ad =>
   have hn2:∀ j u,cs[j]? = some u->(w.alloc (.cells #[] 5)).cell? (ad.add j) = some u:=fun j u hj=>
    (((Below.refl w.heap.size w).alloc (Nat.le_refl _) (.cells #[] 5)).cell (p:=ad.add j) (World.block_lt_of_cell? _ _ (hnews ad rfl j u hj))).trans (hnews ad rfl j u hj)
   clear hnews hnone
   have hm1:0 + n <= maxLen:=by unfold maxLen;omega
   have hm2:(0 + n) * 1 <= 140737488355328:=by omega
   have hm3:w.heap.size <= (w.alloc (.cells #[] 5)).heap.size:=by simp
   go_enter Tryz.func47,Tryz.ntmps47
   go_wp2_with (at_builtin;refine wpList_append_own _ rfl (.tmp 5) (.tmp 6) 27 rfl w.heap.size 5 i0 (.int .u8 0) 1 1 Tryz.underlying27 hi0 hz0 hz1 hz2 rfl (by decide) (.slice (some ⟨w.heap.size,0,none⟩) 0 0) 0 _ rfl ho0.out ad n cap cs rfl hcl hn2 h1 hm1 hm2 hm3 ?_;intro v1 w1 hown hgrow _)
   have hB:=Below.grown hB0.out hgrow hm3 (fun k hk=>(ho0.out.lt k hk).1)
   have HO:=Lib.hid (show w1.ownsRow w.heap.size 5 1 v1 n cs by simpa using hown)
   clear hown hgrow
   go_wp2
   go_ret
   exact ⟨_,rfl,HO.out,hB⟩
theorem info_int:(Tryz.prog.info? 3).map (fun i=>(i.zero,i.size,i.bytes)) = some (some (.int .i64 0),1,8):=by kernel_rfl
theorem clone_int (v:Value) (n:Nat) (cs:List Value) (w:World) (h:Reads w 1 v n cs) (hl:n * 8 <= 140737488355328) :
 Calls Tryz.prog 52 #[v] w fun e w'=>∃ v',e = .returned v'/\w'.ownsRow w.heap.size 3 1 v' n cs/\Below w.heap.size w w':=by
 obtain ⟨i0,hi0,hz0,hz1,hz2⟩:=info_split info_int
 have qT:∀ (w:World) (a:Option Addr) (n c n' c':Nat),(binOp .eql 23 (.slice a n c) (.slice none n' c')).run Tryz.prog w = .ok (.bool a.isNone) w:=fun w a n c n' c'=>Lib.run_eql_slice_nil w _ _ a n c n' c' Tryz.underlying23
 obtain ⟨hcl,h1,h⟩:=h
 have ho0:=Lib.hid (World.ownsRow_lit (e:=3) (size:=1) (base:=w.heap.size) w #[] 0 (Nat.le_refl _) (by decide) rfl)
 have hB0:=Lib.hid ((Below.refl w.heap.size w).alloc (Nat.le_refl _) (.cells #[] 3))
 obtain ⟨a,cap,rfl,hnone,hnews⟩:∃ a cap,v = .slice a n cap/\(a = none->n = 0)/\∀ ad,a = some ad->∀ j u,cs[j]? = some u->w.cell? (ad.add j) = some u:=by
  rcases h with ⟨rfl,a,cap,rfl,_⟩ | ⟨hp,b,off,cap,rfl,hlt,hm,hc,hcell⟩
  ·have:cs = []:=List.length_eq_zero_iff.1 (by simpa using hcl)
   subst this
   exact ⟨a,cap,rfl,fun _=>rfl,fun _ _ j u hj=>by cases hj⟩
  ·refine ⟨_,cap,rfl,(fun h=>by cases h),fun ad had j u hj=>?_⟩
   cases had
   have hplain:(⟨b,off,none⟩:Addr).add j = ⟨b,off + j,none⟩:=by unfold Addr.add;split <;> simp_all
   rw [hplain]
   exact hcell j u hj
 clear h
 cases a with
 | none =>
   obtain rfl:=hnone rfl
   have:cs = []:=List.length_eq_zero_iff.1 (by simpa using hcl)
   subst this
   clear ho0 hB0
   go_enter Tryz.func52,Tryz.ntmps52
   go_wp2
   go_ret
   exact ⟨_,rfl,World.ownsRow_nil _ _ _ _,Below.refl _ _⟩
 | some ad =>
   have hn2:∀ j u,cs[j]? = some u->(w.alloc (.cells #[] 3)).cell? (ad.add j) = some u:=fun j u hj=>
    (((Below.refl w.heap.size w).alloc (Nat.le_refl _) (.cells #[] 3)).cell (p:=ad.add j) (World.block_lt_of_cell? _ _ (hnews ad rfl j u hj))).trans (hnews ad rfl j u hj)
   clear hnews hnone
   have hm1:0 + n <= maxLen:=by unfold maxLen;omega
   have hm2:(0 + n) * 8 <= 140737488355328:=by omega
   have hm3:w.heap.size <= (w.alloc (.cells #[] 3)).heap.size:=by simp
   go_enter Tryz.func52,Tryz.ntmps52
   go_wp2_with (at_builtin;refine wpList_append_own _ rfl (.tmp 5) (.tmp 6) 23 rfl w.heap.size 3 i0 (.int .i64 0) 1 8 Tryz.underlying23 hi0 hz0 hz1 hz2 rfl (by decide) (.slice (some ⟨w.heap.size,0,none⟩) 0 0) 0 _ rfl ho0.out ad n cap cs rfl hcl hn2 h1 hm1 hm2 hm3 ?_;intro v1 w1 hown hgrow _)
   have hB:=Below.grown hB0.out hgrow hm3 (fun k hk=>(ho0.out.lt k hk).1)
   have HO:=Lib.hid (show w1.ownsRow w.heap.size 3 1 v1 n cs by simpa using hown)
   clear hown hgrow
   go_wp2
   go_ret
   exact ⟨_,rfl,HO.out,hB⟩
theorem info_ins:(Tryz.prog.info? 25).map (fun i=>(i.zero,i.size,i.bytes)) = some (some (.agg #[.int .i64 0,.bool false,.bool false,.int .i64 0,.int .i64 0,.int .i64 0,.int .i64 0,.int .i64 0]),8,56):=by kernel_rfl
theorem clone_ins (v:Value) (n:Nat) (cs:List Value) (w:World) (h:Reads w 8 v n cs) (hl:n * 56 <= 140737488355328) :
 Calls Tryz.prog 45 #[v] w fun e w'=>∃ v',e = .returned v'/\w'.ownsRow w.heap.size 25 8 v' n cs/\Below w.heap.size w w':=by
 obtain ⟨i0,hi0,hz0,hz1,hz2⟩:=info_split info_ins
 have qT:∀ (w:World) (a:Option Addr) (n c n' c':Nat),(binOp .eql 22 (.slice a n c) (.slice none n' c')).run Tryz.prog w = .ok (.bool a.isNone) w:=fun w a n c n' c'=>Lib.run_eql_slice_nil w _ _ a n c n' c' Tryz.underlying22
 obtain ⟨hcl,h1,h⟩:=h
 have ho0:=Lib.hid (World.ownsRow_lit (e:=25) (size:=8) (base:=w.heap.size) w #[] 0 (Nat.le_refl _) (by decide) rfl)
 have hB0:=Lib.hid ((Below.refl w.heap.size w).alloc (Nat.le_refl _) (.cells #[] 25))
 obtain ⟨a,cap,rfl,hnone,hnews⟩:∃ a cap,v = .slice a n cap/\(a = none->n = 0)/\∀ ad,a = some ad->∀ j u,cs[j]? = some u->w.cell? (ad.add j) = some u:=by
  rcases h with ⟨rfl,a,cap,rfl,_⟩ | ⟨hp,b,off,cap,rfl,hlt,hm,hc,hcell⟩
  ·have:cs = []:=List.length_eq_zero_iff.1 (by simpa using hcl)
   subst this
   exact ⟨a,cap,rfl,fun _=>rfl,fun _ _ j u hj=>by cases hj⟩
  ·refine ⟨_,cap,rfl,(fun h=>by cases h),fun ad had j u hj=>?_⟩
   cases had
   have hplain:(⟨b,off,none⟩:Addr).add j = ⟨b,off + j,none⟩:=by unfold Addr.add;split <;> simp_all
   rw [hplain]
   exact hcell j u hj
 clear h
 cases a with
 | none =>
   obtain rfl:=hnone rfl
   have:cs = []:=List.length_eq_zero_iff.1 (by simpa using hcl)
   subst this
   clear ho0 hB0
   go_enter Tryz.func45,Tryz.ntmps45
   go_wp2
   go_ret
   exact ⟨_,rfl,World.ownsRow_nil _ _ _ _,Below.refl _ _⟩
 | some ad =>
   have hn2:∀ j u,cs[j]? = some u->(w.alloc (.cells #[] 25)).cell? (ad.add j) = some u:=fun j u hj=>
    (((Below.refl w.heap.size w).alloc (Nat.le_refl _) (.cells #[] 25)).cell (p:=ad.add j) (World.block_lt_of_cell? _ _ (hnews ad rfl j u hj))).trans (hnews ad rfl j u hj)
   clear hnews hnone
   have hm1:0 + n <= maxLen:=by unfold maxLen;omega
   have hm2:(0 + n) * 56 <= 140737488355328:=by omega
   have hm3:w.heap.size <= (w.alloc (.cells #[] 25)).heap.size:=by simp
   go_enter Tryz.func45,Tryz.ntmps45
   go_wp2_with (at_builtin;refine wpList_append_own _ rfl (.tmp 5) (.tmp 6) 22 rfl w.heap.size 25 i0 (.agg #[.int .i64 0,.bool false,.bool false,.int .i64 0,.int .i64 0,.int .i64 0,.int .i64 0,.int .i64 0]) 8 56 Tryz.underlying22 hi0 hz0 hz1 hz2 rfl (by decide) (.slice (some ⟨w.heap.size,0,none⟩) 0 0) 0 _ rfl ho0.out ad n cap cs rfl hcl hn2 h1 hm1 hm2 hm3 ?_;intro v1 w1 hown hgrow _)
   have hB:=Below.grown hB0.out hgrow hm3 (fun k hk=>(ho0.out.lt k hk).1)
   have HO:=Lib.hid (show w1.ownsRow w.heap.size 25 8 v1 n cs by simpa using hown)
   clear hown hgrow
   go_wp2
   go_ret
   exact ⟨_,rfl,HO.out,hB⟩
theorem info_tab:(Tryz.prog.info? 101).map (fun i=>(i.zero,i.size,i.bytes)) = some (some (.agg #[.int .i64 0,.int .i64 0]),2,16):=by kernel_rfl
theorem clone_tab (v:Value) (n:Nat) (cs:List Value) (w:World) (h:Reads w 2 v n cs) (hl:n * 16 <= 140737488355328) :
 Calls Tryz.prog 49 #[v] w fun e w'=>∃ v',e = .returned v'/\w'.ownsRow w.heap.size 101 2 v' n cs/\Below w.heap.size w w':=by
 obtain ⟨i0,hi0,hz0,hz1,hz2⟩:=info_split info_tab
 have qT:∀ (w:World) (a:Option Addr) (n c n' c':Nat),(binOp .eql 42 (.slice a n c) (.slice none n' c')).run Tryz.prog w = .ok (.bool a.isNone) w:=fun w a n c n' c'=>Lib.run_eql_slice_nil w _ _ a n c n' c' Tryz.underlying42
 obtain ⟨hcl,h1,h⟩:=h
 have ho0:=Lib.hid (World.ownsRow_lit (e:=101) (size:=2) (base:=w.heap.size) w #[] 0 (Nat.le_refl _) (by decide) rfl)
 have hB0:=Lib.hid ((Below.refl w.heap.size w).alloc (Nat.le_refl _) (.cells #[] 101))
 obtain ⟨a,cap,rfl,hnone,hnews⟩:∃ a cap,v = .slice a n cap/\(a = none->n = 0)/\∀ ad,a = some ad->∀ j u,cs[j]? = some u->w.cell? (ad.add j) = some u:=by
  rcases h with ⟨rfl,a,cap,rfl,_⟩ | ⟨hp,b,off,cap,rfl,hlt,hm,hc,hcell⟩
  ·have:cs = []:=List.length_eq_zero_iff.1 (by simpa using hcl)
   subst this
   exact ⟨a,cap,rfl,fun _=>rfl,fun _ _ j u hj=>by cases hj⟩
  ·refine ⟨_,cap,rfl,(fun h=>by cases h),fun ad had j u hj=>?_⟩
   cases had
   have hplain:(⟨b,off,none⟩:Addr).add j = ⟨b,off + j,none⟩:=by unfold Addr.add;split <;> simp_all
   rw [hplain]
   exact hcell j u hj
 clear h
 cases a with
 | none =>
   obtain rfl:=hnone rfl
   have:cs = []:=List.length_eq_zero_iff.1 (by simpa using hcl)
   subst this
   clear ho0 hB0
   go_enter Tryz.func49,Tryz.ntmps49
   go_wp2
   go_ret
   exact ⟨_,rfl,World.ownsRow_nil _ _ _ _,Below.refl _ _⟩
 | some ad =>
   have hn2:∀ j u,cs[j]? = some u->(w.alloc (.cells #[] 101)).cell? (ad.add j) = some u:=fun j u hj=>
    (((Below.refl w.heap.size w).alloc (Nat.le_refl _) (.cells #[] 101)).cell (p:=ad.add j) (World.block_lt_of_cell? _ _ (hnews ad rfl j u hj))).trans (hnews ad rfl j u hj)
   clear hnews hnone
   have hm1:0 + n <= maxLen:=by unfold maxLen;omega
   have hm2:(0 + n) * 16 <= 140737488355328:=by omega
   have hm3:w.heap.size <= (w.alloc (.cells #[] 101)).heap.size:=by simp
   go_enter Tryz.func49,Tryz.ntmps49
   go_wp2_with (at_builtin;refine wpList_append_own _ rfl (.tmp 5) (.tmp 6) 42 rfl w.heap.size 101 i0 (.agg #[.int .i64 0,.int .i64 0]) 2 16 Tryz.underlying42 hi0 hz0 hz1 hz2 rfl (by decide) (.slice (some ⟨w.heap.size,0,none⟩) 0 0) 0 _ rfl ho0.out ad n cap cs rfl hcl hn2 h1 hm1 hm2 hm3 ?_;intro v1 w1 hown hgrow _)
   have hB:=Below.grown hB0.out hgrow hm3 (fun k hk=>(ho0.out.lt k hk).1)
   have HO:=Lib.hid (show w1.ownsRow w.heap.size 101 2 v1 n cs by simpa using hown)
   clear hown hgrow
   go_wp2
   go_ret
   exact ⟨_,rfl,HO.out,hB⟩
def tabc (ts:List (Int × Int)):List Value:=ts.flatMap fun t=>[.int .i64 t.1,.int .i64 t.2]
theorem tabc_get (ts:List (Int × Int)):∀ i (h:i < ts.length),(tabc ts)[i * 2]? = some (.int .i64 ts[i].1)/\(tabc ts)[i * 2 + 1]? = some (.int .i64 ts[i].2):=by
 induction ts with
 | nil=>intro i h;cases h
 | cons t ts ih =>
   intro i h
   cases i with
   | zero=>exact ⟨rfl,rfl⟩
   | succ i =>
     have:=ih i (by simpa using h)
     refine ⟨?_,?_⟩
     ·show (tabc (t :: ts))[(i + 1) * 2]? = _
      rw [show (i + 1) * 2 = i * 2 + 2 by omega]
      exact this.1
     ·show (tabc (t :: ts))[(i + 1) * 2 + 1]? = _
      rw [show (i + 1) * 2 + 1 = i * 2 + 1 + 2 by omega]
      exact this.2
def Tabs (w:World) (v:Value) (ts:List (Int × Int)):Prop:=Reads w 2 v ts.length (tabc ts)
theorem Tabs.open {w:World} {v:Value} {ts:List (Int × Int)} (h:Tabs w v ts):∃ a cap,v = .slice a ts.length cap/\∀ i (h:i < ts.length),∃ b off,a = some ⟨b,off,none⟩/\b < w.heap.size /\
 w.cell? ⟨b,off + i * 2,none⟩ = some (.int .i64 ts[i].1)/\w.cell? ⟨b,off + i * 2 + 1,none⟩ = some (.int .i64 ts[i].2):=by
 obtain ⟨hl,h1,⟨hz,a,cap,rfl,hm⟩ | ⟨hp,b,off,cap,rfl,hlt,hm,hc,hcell⟩⟩:=h
 ·exact ⟨a,cap,by rw [hz],fun i hi=>absurd hi (by omega)⟩
 ·exact ⟨_,cap,rfl,fun i hi=>⟨b,off,rfl,hlt,by have:=hcell _ _ (tabc_get ts i hi).1;exact this,by have:=hcell _ _ (tabc_get ts i hi).2;rw [<- Nat.add_assoc] at this;exact this⟩⟩
structure Prg where
 lo:Int
 hi:Int
 data:List Int
 tabs:List (Int × Int)
 code:List Ins
def prgc (lo hi:Int) (dv tv cv:Value):List Value:=[.int .i64 lo,.int .i64 hi,dv,tv,cv]
theorem prg_row {w:World} {b:Nat} {e:TypeId} {lo hi:Int} {dv tv cv:Value} (h:Row w b e (prgc lo hi dv tv cv)) :
 w.cell? ⟨b,0,none⟩ = some (.int .i64 lo)/\w.cell? ⟨b,1,none⟩ = some (.int .i64 hi)/\w.cell? ⟨b,2,none⟩ = some dv/\w.cell? ⟨b,3,none⟩ = some tv/\w.cell? ⟨b,4,none⟩ = some cv:=
 ⟨by rw [h.cell];rfl,by rw [h.cell];rfl,by rw [h.cell];rfl,by rw [h.cell];rfl,by rw [h.cell];rfl⟩
def TabOK (t:Int × Int):Prop:=1 <= t.1/\t.1 <= 64/\1 <= t.2/\t.2 <= 64
def Prg.made (p:Prg):Prop:=(0 <= p.lo/\p.lo <= p.hi/\p.hi <= 65535/\p.data.length <= 4096/\p.tabs.length <= 8/\0 < p.code.length)/\(∀ i (h:i < p.tabs.length),TabOK p.tabs[i])/\AllRight p.code /\
 ∀ i (h:i < p.code.length),p.code[i].op = 21->p.code[i].imm <= p.data.length
def Asked (w:World) (MP:Prop):Ending->World->Prop:=fun e w'=>∃ d:Bool,e = .returned (.bool d)/\(d = true ↔ MP)/\Below w.heap.size w w'
theorem Asked.no {w w':World} {MP:Prop} (h:¬ MP) (hB:Below w.heap.size w w'):Asked w MP (.returned (.bool false)) w':=⟨false,rfl,⟨fun h=>(by cases h),fun h'=>absurd h' h⟩,hB⟩
theorem Asked.yes {w w':World} {MP:Prop} (h:MP) (hB:Below w.heap.size w w'):Asked w MP (.returned (.bool true)) w':=⟨true,rfl,⟨fun _=>h,fun _=>rfl⟩,hB⟩
theorem made_of (p:Prg) (da ta ca:Option Addr) (dc tc cc:Nat) (hld:p.data.length <= 4611686018427387903) (hlt:p.tabs.length <= 4611686018427387903) (hlc:p.code.length <= 4611686018427387903) (w:World)
 (ht:Tabs w (.slice ta p.tabs.length tc) p.tabs) (hc:Coded w (.slice ca p.code.length cc) p.code) :
 Calls Tryz.prog 43 #[.agg #[.int .i64 p.lo,.int .i64 p.hi,.slice da p.data.length dc,.slice ta p.tabs.length tc,.slice ca p.code.length cc]] w (Asked w p.made):=by
 obtain ⟨lo,hi,data,tabs,code⟩:=p
 simp only at ht hc hld hlt hlc ⊢
 obtain ⟨a1,c1,hv1,ht1⟩:=ht.open
 obtain ⟨rfl,_,rfl⟩:ta = a1/\tabs.length = tabs.length/\tc = c1:=by simpa using hv1
 obtain ⟨a2,c2,hv2,hc1⟩:=hc.open
 obtain ⟨rfl,_,rfl⟩:ca = a2/\code.length = code.length/\cc = c2:=by simpa using hv2
 obtain ⟨nd,hnd⟩:∃ n,n = data.length:=⟨_,rfl⟩
 obtain ⟨nt,hnt⟩:∃ n,n = tabs.length:=⟨_,rfl⟩
 obtain ⟨nc,hnc⟩:∃ n,n = code.length:=⟨_,rfl⟩
 rw [<- hnd] at hld
 rw [<- hnt] at hlt
 rw [<- hnc] at hlc
 simp only [<- hnd,<- hnt,<- hnc]
 have hch:=fun w' (h:Coded w' (.slice ca nc cc) code)=>check_of (.slice ca nc cc) code (by rw [<- hnc];exact hlc) w' h
 rw [<- hnc] at hc
 have hr0:Row (w.alloc (.cells #[.int .i64 lo,.int .i64 hi,.slice da nd dc,.slice ta nt tc,.slice ca nc cc] 44)) w.heap.size 44 (prgc lo hi (.slice da nd dc) (.slice ta nt tc) (.slice ca nc cc)):=Row.made w (prgc lo hi (.slice da nd dc) (.slice ta nt tc) (.slice ca nc cc)) _
 have hB0:=(Below.refl w.heap.size w).alloc (Nat.le_refl _) (.cells #[.int .i64 lo,.int .i64 hi,.slice da nd dc,.slice ta nt tc,.slice ca nc cc] 44)
 have HND:=Lib.hid hnd
 have HNT:=Lib.hid hnt
 have HNC:=Lib.hid hnc
 have HT:=Lib.hid ht1
 have HC:=Lib.hid hc1
 have HCD:=Lib.hid hc
 have HCH:=Lib.hid hch
 have HR0:=Lib.hid hr0
 have HB0:=Lib.hid hB0
 have HM:=Lib.hid (show (Prg.mk lo hi data tabs code).made ↔ ((0 <= lo/\lo <= hi/\hi <= 65535/\nd <= 4096/\nt <= 8/\0 < nc)/\(∀ i (h:i < tabs.length),TabOK tabs[i])/\AllRight code/\∀ i (h:i < code.length),code[i].op = 21->code[i].imm <= nd) by rw [hnd,hnt,hnc];exact Iff.rfl)
 generalize (Prg.mk lo hi data tabs code).made = MP at HM ⊢
 clear hv1 hv2 hnd hnt hnc ht ht1 hc hc1 hch hr0 hB0
 by_cases hg:0 <= lo/\lo <= hi/\hi <= 65535/\nd <= 4096/\nt <= 8/\0 < nc
 ·have t1:decide (lo < 0) = false:=by simp;omega
  have t2:decide (hi < lo) = false:=by simp;omega
  have t3:decide (65535 < hi) = false:=by simp;omega
  have t4:decide ((4096:Int) < (nd:Int)) = false:=by simp;omega
  have t5:decide ((8:Int) < (nt:Int)) = false:=by simp;omega
  have t6:((nc:Int) == 0) = false:=by simp;omega
  have HG:=Lib.hid hg
  clear hg
  go_enter Tryz.func43,Tryz.ntmps43
  go_wp2
  go_loopw [45] (fun s wr=>∃ i:Nat,i <= nt/\s = .int .i64 i/\Below w.heap.size w wr/\Row wr w.heap.size 44 (prgc lo hi (.slice da nd dc) (.slice ta nt tc) (.slice ca nc cc))/\∀ k (h:k < tabs.length),k < i->TabOK tabs[k]) (fun s _=>nt - (intOf s).toNat)
  case atStart=>exact ⟨0,Nat.zero_le _,rfl,HB0.out,HR0.out,fun k _ hk=>absurd hk (by omega)⟩
  case round=>
   obtain ⟨i,hi',rfl,hB,hR,hT⟩:=hrel
   have HB:=Lib.hid hB
   have HR:=Lib.hid hR
   have HTB:=Lib.hid hT
   clear hB hR hT
   by_cases hlt':i < nt
   ·obtain ⟨b,off,rfl,hb,e0',e1'⟩:=HT.out i (by rw [<- HNT.out];exact hlt')
    obtain ⟨R,hRR⟩:∃ R,R = (tabs[i]'(by rw [<- HNT.out];exact hlt')).1:=⟨_,rfl⟩
    obtain ⟨C,hCC⟩:∃ C,C = (tabs[i]'(by rw [<- HNT.out];exact hlt')).2:=⟨_,rfl⟩
    rw [<- hRR] at e0'
    rw [<- hCC] at e1'
    have e0:wr.cell? ⟨b,off + i * 2,none⟩ = some (.int .i64 R):=(HB.out.cell (p:=⟨b,off + i * 2,none⟩) hb).trans e0'
    have e1:wr.cell? ⟨b,off + i * 2 + 1,none⟩ = some (.int .i64 C):=(HB.out.cell (p:=⟨b,off + i * 2 + 1,none⟩) hb).trans e1'
    have hok:TabOK (tabs[i]'(by rw [<- HNT.out];exact hlt')) ↔ (1 <= R/\R <= 64/\1 <= C/\C <= 64):=by rw [hRR,hCC];exact Iff.rfl
    have HOK:=Lib.hid hok
    have HBX:=Lib.hid (HB.out.alloc HB.out.size (.cells #[.int .i64 R,.int .i64 C] 101))
    have HRX:=Lib.hid (HR.out.alloc (.cells #[.int .i64 R,.int .i64 C] 101))
    clear e0' e1' hRR hCC hok
    have hj1:(0:Int) <= (i:Int):=by omega
    have hj3:(i:Int) < nt:=by omega
    obtain ⟨b1,u1⟩:∃ d,decide (R < 1) = d:=⟨_,rfl⟩
    obtain ⟨b2,u2⟩:∃ d,decide (64 < R) = d:=⟨_,rfl⟩
    obtain ⟨b3,u3⟩:∃ d,decide (C < 1) = d:=⟨_,rfl⟩
    obtain ⟨b4,u4⟩:∃ d,decide (64 < C) = d:=⟨_,rfl⟩
    have hcs:(b1 = false/\b2 = false/\b3 = false/\b4 = false/\1 <= R/\R <= 64/\1 <= C/\C <= 64)\/((b1 = true\/(b1 = false/\b2 = true)\/(b1 = false/\b2 = false/\b3 = true)\/(b1 = false/\b2 = false/\b3 = false/\b4 = true))/\¬ (1 <= R/\R <= 64/\1 <= C/\C <= 64)):=by
     rw [<- u1,<- u2,<- u3,<- u4]
     simp only [decide_eq_true_eq,decide_eq_false_iff_not]
     omega
    rcases hcs with ⟨rfl,rfl,rfl,rfl,hcs⟩ | ⟨hcs,hno⟩
    ·have HO:=Lib.hid (HOK.out.2 hcs)
     clear hcs
     go_wp2
     go_roundw
     case rel=>
      exact ⟨i + 1,hlt',by go_num,HBX.out,HRX.out,fun k hk hki=>by
       by_cases hke:k = i
       ·subst hke;exact HO.out
       ·exact HTB.out k hk (by omega)⟩
     case measure=>simp [intOf];omega
    ·have HNO:=Lib.hid (show ¬ MP from fun h=>hno (HOK.out.1 ((HM.out.1 h).2.1 i (by rw [<- HNT.out];exact hlt'))))
     clear hno
     rcases hcs with rfl | ⟨rfl,rfl⟩ | ⟨rfl,rfl,rfl⟩ | ⟨rfl,rfl,rfl,rfl⟩
     all_goals
      go_wp2
      exact bodyPost_ret (v:=.bool false) (by simp [results,Tryz.results43,go_sem]) rfl (Asked.no HNO.out HBX.out)
   ·obtain rfl:i = nt:=by omega
    obtain ⟨c0,c1,c2,c3,c4⟩:=prg_row HR.out
    go_wp2_with fail
    refine (HCH.out _ (HCD.out.below HB.out (Nat.le_refl _))).mono ?_
    rintro e w2 ⟨at',er,rfl,hiff,hB2⟩
    have HIFF:=Lib.hid hiff
    have HR2:=Lib.hid (HR.out.below hB2 HR.out.lt)
    have HB2:=Lib.hid (HB.out.trans (hB2.mono HB.out.size))
    clear hB2 hiff c0 c1 c2 c3 c4
    obtain ⟨c0,c1,c2,c3,c4⟩:=prg_row HR2.out
    by_cases hz:er = 0
    ·have hne:(er != 0) = false:=by simp [hz]
     have HAR:=Lib.hid (HIFF.out.1 hz)
     clear hz
     go_wp2
     clear c0 c1 c2 c3 c4
     go_loopw [79] (fun s wr=>∃ j:Nat,j <= nc/\s = .int .i64 j/\Below w.heap.size w wr/\Row wr w.heap.size 44 (prgc lo hi (.slice da nd dc) (.slice ta i tc) (.slice ca nc cc))/\∀ k (h:k < code.length),k < j->code[k].op = 21->code[k].imm <= nd) (fun s _=>nc - (intOf s).toNat)
     case atStart=>exact ⟨0,Nat.zero_le _,rfl,HB2.out,HR2.out,fun k _ hk=>absurd hk (by omega)⟩
     case round=>
      obtain ⟨j,hj',rfl,hB,hR,hD⟩:=hrel
      have HB3:=Lib.hid hB
      have HR3:=Lib.hid hR
      have HD3:=Lib.hid hD
      clear hB hR hD
      by_cases hltj:j < nc
      ·obtain ⟨b,off,rfl,hb,hcell⟩:=HC.out j (by rw [<- HNC.out];exact hltj)
       obtain ⟨x,hx⟩:∃ x,x = code[j]'(by rw [<- HNC.out];exact hltj):=⟨_,rfl⟩
       rw [<- hx] at hcell
       have hcw:∀ jj,jj < 8->wr.cell? ⟨b,off + j * 8 + jj,none⟩ = (x.cs)[jj]?:=fun jj hjj=>(HB3.out.cell (p:=⟨b,off + j * 8 + jj,none⟩) hb).trans (hcell jj hjj)
       have e0:=hcw 0 (by decide)
       have e1:=hcw 1 (by decide)
       have e2:=hcw 2 (by decide)
       have e3:=hcw 3 (by decide)
       have e4:=hcw 4 (by decide)
       have e5:=hcw 5 (by decide)
       have e6:=hcw 6 (by decide)
       have e7:=hcw 7 (by decide)
       have hxo:(code[j]'(by rw [<- HNC.out];exact hltj)).op = x.op:=by rw [hx]
       have hxi:(code[j]'(by rw [<- HNC.out];exact hltj)).imm = x.imm:=by rw [hx]
       obtain ⟨op,nar,reg,size,dst,src,of,imm⟩:=x
       simp only [Ins.cs,insc,List.getElem?_cons_zero,List.getElem?_cons_succ,Nat.add_zero] at e0 e1 e2 e3 e4 e5 e6 e7
       simp only at hxo hxi
       have HXO:=Lib.hid hxo
       have HXI:=Lib.hid hxi
       have HBX:=Lib.hid (HB3.out.alloc HB3.out.size (.cells #[.int .i64 op,.bool nar,.bool reg,.int .i64 size,.int .i64 dst,.int .i64 src,.int .i64 of,.int .i64 imm] 25))
       have HRX:=Lib.hid (HR3.out.alloc (.cells #[.int .i64 op,.bool nar,.bool reg,.int .i64 size,.int .i64 dst,.int .i64 src,.int .i64 of,.int .i64 imm] 25))
       have c2:=(prg_row HR3.out).2.2.1
       have hlw:=HR3.out.lt
       clear hcell hcw hx hxo hxi
       have hj1:(0:Int) <= (j:Int):=by omega
       have hj3:(j:Int) < nc:=by omega
       by_cases ho:op = 21
       ·have ho1:(op == 21) = true:=by simp [ho]
        have HO:=Lib.hid ho
        clear ho
        by_cases hi3:imm <= nd
        ·have hi4:decide ((nd:Int) < imm) = false:=by simp;omega
         have HI:=Lib.hid hi3
         clear hi3
         go_wp2
         go_roundw
         case rel=>
          exact ⟨j + 1,hltj,by go_num,HBX.out,HRX.out,fun k hk hki hop=>by
           by_cases hke:k = j
           ·subst hke;rw [HXI.out];exact HI.out
           ·exact HD3.out k hk (by omega) hop⟩
         case measure=>simp [intOf];omega
        ·have hi4:decide ((nd:Int) < imm) = true:=by simp;omega
         have HNO:=Lib.hid (show ¬ MP from fun h=>hi3 (by
          have:=(HM.out.1 h).2.2.2 j (by rw [<- HNC.out];exact hltj) (by rw [HXO.out];exact HO.out)
          rw [HXI.out] at this
          exact this))
         clear hi3
         go_wp2
         exact bodyPost_ret (v:=.bool false) (by simp [results,Tryz.results43,go_sem]) rfl (Asked.no HNO.out HBX.out)
       ·have ho1:(op == 21) = false:=by simp [ho]
        have HO:=Lib.hid ho
        clear ho
        go_wp2
        go_roundw
        case rel=>
         exact ⟨j + 1,hltj,by go_num,HBX.out,HRX.out,fun k hk hki hop=>by
          by_cases hke:k = j
          ·subst hke;rw [HXO.out] at hop;exact absurd hop HO.out
          ·exact HD3.out k hk (by omega) hop⟩
        case measure=>simp [intOf];omega
      ·obtain rfl:j = nc:=by omega
       have HYES:=Lib.hid (show MP from HM.out.2 ⟨HG.out,fun k hk=>HTB.out k hk (by rw [HNT.out];exact hk),HAR.out,fun k hk hop=>HD3.out k hk (by rw [HNC.out];exact hk) hop⟩)
       go_wp2
       exact bodyPost_ret (v:=.bool true) (by simp [results,Tryz.results43,go_sem]) rfl (Asked.yes HYES.out HB3.out)
    ·have hne:(er != 0) = true:=by simp [hz]
     have HNO:=Lib.hid (show ¬ MP from fun h=>hz (HIFF.out.2 (HM.out.1 h).2.2.1))
     clear hz
     go_wp2
     exact bodyPost_ret (v:=.bool false) (by simp [results,Tryz.results43,go_sem]) rfl (Asked.no HNO.out HB2.out)
 ·have hbad:lo < 0\/(0 <= lo/\hi < lo)\/(0 <= lo/\lo <= hi/\65535 < hi)\/(0 <= lo/\lo <= hi/\hi <= 65535/\4096 < nd)\/(0 <= lo/\lo <= hi/\hi <= 65535/\nd <= 4096/\8 < nt)\/(0 <= lo/\lo <= hi/\hi <= 65535/\nd <= 4096/\nt <= 8/\nc = 0):=by omega
  have HNO:=Lib.hid (show ¬ MP from fun h=>hg (HM.out.1 h).1)
  clear hg
  obtain ⟨b1,t1⟩:∃ d,decide (lo < 0) = d:=⟨_,rfl⟩
  obtain ⟨b2,t2⟩:∃ d,decide (hi < lo) = d:=⟨_,rfl⟩
  obtain ⟨b3,t3⟩:∃ d,decide (65535 < hi) = d:=⟨_,rfl⟩
  obtain ⟨b4,t4⟩:∃ d,decide ((4096:Int) < (nd:Int)) = d:=⟨_,rfl⟩
  obtain ⟨b5,t5⟩:∃ d,decide ((8:Int) < (nt:Int)) = d:=⟨_,rfl⟩
  obtain ⟨b6,t6⟩:∃ d,((nc:Int) == 0) = d:=⟨_,rfl⟩
  have hcases:b1 = true\/(b1 = false/\b2 = true)\/(b1 = false/\b2 = false/\b3 = true)\/(b1 = false/\b2 = false/\b3 = false/\b4 = true)\/(b1 = false/\b2 = false/\b3 = false/\b4 = false/\b5 = true)\/(b1 = false/\b2 = false/\b3 = false/\b4 = false/\b5 = false/\b6 = true):=by
   rw [<- t1,<- t2,<- t3,<- t4,<- t5,<- t6]
   simp only [decide_eq_true_eq,decide_eq_false_iff_not,beq_iff_eq]
   omega
  clear hbad
  rcases hcases with rfl | ⟨rfl,rfl⟩ | ⟨rfl,rfl,rfl⟩ | ⟨rfl,rfl,rfl,rfl⟩ | ⟨rfl,rfl,rfl,rfl,rfl⟩ | ⟨rfl,rfl,rfl,rfl,rfl,rfl⟩
  all_goals
   go_enter Tryz.func43,Tryz.ntmps43
   go_wp2
   exact bodyPost_ret (v:=.bool false) (by simp [results,Tryz.results43,go_sem]) rfl (Asked.no HNO.out HB0.out)
structure Rowed (w:World) (v:Value) (vals:List Value) (rows:List (List Int)):Prop where
 reads:Reads w 1 v rows.length vals
 held:∀ i (h:i < rows.length),∃ u,vals[i]? = some u/\Held w u rows[i]
theorem Rowed.below {w w':World} {v:Value} {vals:List Value} {rows:List (List Int)} {B:Nat} (h:Rowed w v vals rows) (hb:Below B w w') (hB:w.heap.size <= B):Rowed w' v vals rows:=
 ⟨h.reads.below hb hB,fun i hi=>let ⟨u,hu,hh⟩:=h.held i hi;⟨u,hu,hh.below hb hB⟩⟩
theorem Rowed.open {w:World} {v:Value} {vals:List Value} {rows:List (List Int)} (h:Rowed w v vals rows):∃ a cap,v = .slice a rows.length cap/\∀ i (h:i < rows.length),∃ b off u,a = some ⟨b,off,none⟩/\b < w.heap.size /\
 vals[i]? = some u/\w.cell? ⟨b,off + i,none⟩ = some u/\Held w u rows[i]:=by
 obtain ⟨⟨hl,h1,⟨hz,a,cap,rfl,hm⟩ | ⟨hp,b,off,cap,rfl,hlt,hm,hc,hcell⟩⟩,hh⟩:=h
 ·exact ⟨a,cap,by rw [hz],fun i hi=>absurd hi (by omega)⟩
 ·refine ⟨_,cap,rfl,fun i hi=>?_⟩
  obtain ⟨u,hu,hhu⟩:=hh i hi
  exact ⟨b,off,u,rfl,hlt,hu,hcell i u hu,hhu⟩
theorem held_slice {w:World} {v:Value} {xs:List Int} (h:Held w v xs):∃ a cap,v = .slice a xs.length cap:=by
 obtain ⟨_,⟨rfl,rfl | ⟨a,cap,rfl,_⟩⟩ | ⟨hp,b,off,cap,rfl,_⟩⟩:=h
 ·exact ⟨_,_,rfl⟩
 ·exact ⟨_,_,rfl⟩
 ·exact ⟨_,_,rfl⟩
def inpc (xv tv:Value):List Value:=[xv,tv]
theorem inp_row {w:World} {b:Nat} {e:TypeId} {xv tv:Value} (h:Row w b e (inpc xv tv)):w.cell? ⟨b,0,none⟩ = some xv/\w.cell? ⟨b,1,none⟩ = some tv:=
 ⟨by rw [h.cell];rfl,by rw [h.cell];rfl⟩
theorem row_two (w:World) (o:Obj) (cs:List Value) (e:TypeId):Row ((w.alloc o).alloc (.cells cs.toArray e)) (w.heap.size + 1) e cs:=by
 have:=Row.made (w.alloc o) cs e
 simpa using this
def fitsP (lo hi:Int) (tabs:List (Int × Int)) (nx:Nat) (rows:List (List Int)):Prop:=
 (lo <= nx/\nx <= hi/\rows.length = tabs.length)/\∀ i (h:i < tabs.length) (h':i < rows.length),(rows[i].length:Int) = tabs[i].1 * tabs[i].2
theorem fits_of (lo hi:Int) (tabs:List (Int × Int)) (dv cv:Value) (ta xa ra:Option Addr) (tc xc rc nx:Nat) (vals:List Value) (rows:List (List Int))
 (hlt:tabs.length <= 4611686018427387903) (hrl:rows.length <= 4611686018427387903) (hxl:nx <= 4611686018427387903) (hok:∀ i (h:i < tabs.length),TabOK tabs[i]) (w:World)
 (ht:Tabs w (.slice ta tabs.length tc) tabs) (hr:Rowed w (.slice ra rows.length rc) vals rows) :
 Calls Tryz.prog 44 #[.agg #[.int .i64 lo,.int .i64 hi,dv,.slice ta tabs.length tc,cv],.agg #[.slice xa nx xc,.slice ra rows.length rc]] w (Asked w (fitsP lo hi tabs nx rows)):=by
 obtain ⟨a1,c1,hv1,ht1⟩:=ht.open
 obtain ⟨rfl,_,rfl⟩:ta = a1/\tabs.length = tabs.length/\tc = c1:=by simpa using hv1
 obtain ⟨a2,c2,hv2,hr1⟩:=hr.open
 obtain ⟨rfl,_,rfl⟩:ra = a2/\rows.length = rows.length/\rc = c2:=by simpa using hv2
 have hM:fitsP lo hi tabs nx rows ↔ ((lo <= nx/\nx <= hi/\rows.length = tabs.length)/\∀ i (h:i < tabs.length) (h':i < rows.length),(rows[i].length:Int) = tabs[i].1 * tabs[i].2):=Iff.rfl
 generalize fitsP lo hi tabs nx rows = MP at hM ⊢
 obtain ⟨nt,hnt⟩:∃ n,n = tabs.length:=⟨_,rfl⟩
 obtain ⟨nr,hnr⟩:∃ n,n = rows.length:=⟨_,rfl⟩
 rw [<- hnt] at hlt
 rw [<- hnr] at hrl
 simp only [<- hnt,<- hnr]
 have hM2:MP ↔ ((lo <= nx/\nx <= hi/\nr = nt)/\∀ i (h:i < tabs.length) (h':i < rows.length),(rows[i].length:Int) = tabs[i].1 * tabs[i].2):=by rw [hnt,hnr];exact hM
 have hr0:Row ((w.alloc (.cells #[.int .i64 lo,.int .i64 hi,dv,.slice ta nt tc,cv] 44)).alloc (.cells #[.slice xa nx xc,.slice ra nr rc] 46)) w.heap.size 44 (prgc lo hi dv (.slice ta nt tc) cv):=(Row.made w (prgc lo hi dv (.slice ta nt tc) cv) _).alloc _
 have hr2:Row ((w.alloc (.cells #[.int .i64 lo,.int .i64 hi,dv,.slice ta nt tc,cv] 44)).alloc (.cells #[.slice xa nx xc,.slice ra nr rc] 46)) (w.heap.size + 1) 46 (inpc (.slice xa nx xc) (.slice ra nr rc)):=row_two w _ (inpc (.slice xa nx xc) (.slice ra nr rc)) _
 have hB0:=((Below.refl w.heap.size w).alloc (Nat.le_refl _) (.cells #[.int .i64 lo,.int .i64 hi,dv,.slice ta nt tc,cv] 44)).alloc (by simp) (.cells #[.slice xa nx xc,.slice ra nr rc] 46)
 have HNT:=Lib.hid hnt
 have HNR:=Lib.hid hnr
 have HT:=Lib.hid ht1
 have HV:=Lib.hid hr1
 have HR0:=Lib.hid hr0
 have HR1:=Lib.hid hr2
 have HB0:=Lib.hid hB0
 have HM:=Lib.hid hM2
 have HOK:=Lib.hid hok
 clear hv1 hv2 hnt hnr ht ht1 hr hr1 hr0 hr2 hB0 hM hM2 hok
 by_cases hg:lo <= nx/\nx <= hi/\nr = nt
 ·obtain ⟨g1,g2,rfl⟩:=hg
  have t1:decide ((nx:Int) < lo) = false:=by simp;omega
  have t2:decide (hi < (nx:Int)) = false:=by simp;omega
  have t3:((nr:Int) != nr) = false:=by simp
  have HG:=Lib.hid (And.intro g1 g2)
  clear g1 g2
  go_enter Tryz.func44,Tryz.ntmps44
  go_wp2
  go_loopw [33] (fun s wr=>∃ i:Nat,i <= nr/\s = .int .i64 i/\Below w.heap.size w wr/\Row wr w.heap.size 44 (prgc lo hi dv (.slice ta nr tc) cv)/\Row wr (w.heap.size + 1) 46 (inpc (.slice xa nx xc) (.slice ra nr rc)) /\
   ∀ k (h:k < tabs.length) (h':k < rows.length),k < i->(rows[k].length:Int) = tabs[k].1 * tabs[k].2) (fun s _=>nr - (intOf s).toNat)
  case atStart=>exact ⟨0,Nat.zero_le _,rfl,HB0.out,HR0.out,HR1.out,fun k _ _ hk=>absurd hk (by omega)⟩
  case round=>
   obtain ⟨i,hi',rfl,hB,hR,hR',hT⟩:=hrel
   have HB:=Lib.hid hB
   have HR:=Lib.hid hR
   have HR':=Lib.hid hR'
   have HTB:=Lib.hid hT
   clear hB hR hR' hT
   by_cases hlt':i < nr
   ·obtain ⟨b,off,rfl,hb,e0',e1'⟩:=HT.out i (by rw [<- HNT.out];exact hlt')
    obtain ⟨b2,off2,u,rfl,hb2,hu,e2',hH⟩:=HV.out i (by rw [<- HNR.out];exact hlt')
    obtain ⟨ua,uc,rfl⟩:=held_slice hH
    obtain ⟨R,hRR⟩:∃ R,R = (tabs[i]'(by rw [<- HNT.out];exact hlt')).1:=⟨_,rfl⟩
    obtain ⟨C,hCC⟩:∃ C,C = (tabs[i]'(by rw [<- HNT.out];exact hlt')).2:=⟨_,rfl⟩
    obtain ⟨L,hLL⟩:∃ L,L = (rows[i]'(by rw [<- HNR.out];exact hlt')).length:=⟨_,rfl⟩
    rw [<- hRR] at e0'
    rw [<- hCC] at e1'
    rw [<- hLL] at e2'
    have hto:=HOK.out i (by rw [<- HNT.out];exact hlt')
    unfold TabOK at hto
    rw [<- hRR,<- hCC] at hto
    have hRC:0 <= R * C/\R * C <= 4096:=by
     obtain ⟨q1,q2,q3,q4⟩:=hto
     have h1:R * C <= 64 * C:=Int.mul_le_mul_of_nonneg_right q2 (by omega)
     have h2:0 <= R * C:=Int.mul_nonneg (by omega) (by omega)
     exact ⟨h2,by omega⟩
    have hwr:wrap64 (R * C) = R * C:=by unfold wrap64;omega
    have e0:wr.cell? ⟨b,off + i * 2,none⟩ = some (.int .i64 R):=(HB.out.cell (p:=⟨b,off + i * 2,none⟩) hb).trans e0'
    have e1:wr.cell? ⟨b,off + i * 2 + 1,none⟩ = some (.int .i64 C):=(HB.out.cell (p:=⟨b,off + i * 2 + 1,none⟩) hb).trans e1'
    have e2:wr.cell? ⟨b2,off2 + i,none⟩ = some (.slice ua L uc):=(HB.out.cell (p:=⟨b2,off2 + i,none⟩) hb2).trans e2'
    obtain ⟨c0,c1⟩:=inp_row HR'.out
    have hl1:=HR'.out.lt
    have hl2:b2 < wr.heap.size:=Nat.lt_of_lt_of_le hb2 HB.out.size
    have HBX:=Lib.hid (HB.out.alloc HB.out.size (.cells #[.int .i64 R,.int .i64 C] 101))
    have HRX:=Lib.hid (HR.out.alloc (.cells #[.int .i64 R,.int .i64 C] 101))
    have HRY:=Lib.hid (HR'.out.alloc (.cells #[.int .i64 R,.int .i64 C] 101))
    have HEQ:=Lib.hid (show ((rows[i]'(by rw [<- HNR.out];exact hlt')).length:Int) = (tabs[i]'(by rw [<- HNT.out];exact hlt')).1 * (tabs[i]'(by rw [<- HNT.out];exact hlt')).2 ↔ (L:Int) = R * C by rw [hRR,hCC,hLL])
    clear e0' e1' e2' hRR hCC hLL hto hRC hH hu
    have hj1:(0:Int) <= (i:Int):=by omega
    have hj3:(i:Int) < nr:=by omega
    by_cases hq:(L:Int) = R * C
    ·have hq1:((L:Int) != R * C) = false:=by simp [hq]
     have HQ:=Lib.hid hq
     clear hq
     go_wp2_with fail
     go_quiet (fail)
     go_wp2
     go_roundw
     case rel=>
      exact ⟨i + 1,hlt',by go_num,bdrewN HBX.out _,HRX.out.drewN _,HRY.out.drewN _,fun k hk hk' hki=>by
       by_cases hke:k = i
       ·subst hke;exact HEQ.out.2 HQ.out
       ·exact HTB.out k hk hk' (by omega)⟩
     case measure=>simp [intOf];omega
    ·have hq1:((L:Int) != R * C) = true:=by simp [hq]
     have HNO:=Lib.hid (show ¬ MP from fun h=>hq (HEQ.out.1 ((HM.out.1 h).2 i (by rw [<- HNT.out];exact hlt') (by rw [<- HNR.out];exact hlt'))))
     clear hq
     go_wp2_with fail
     go_quiet (fail)
     go_wp2
     exact bodyPost_ret (v:=.bool false) (by simp [results,Tryz.results44,go_sem]) rfl (Asked.no HNO.out (bdrewN HBX.out _))
   ·obtain rfl:i = nr:=by omega
    have HYES:=Lib.hid (show MP from HM.out.2 ⟨⟨HG.out.1,HG.out.2,by first | rfl | trivial⟩,fun k hk hk'=>HTB.out k hk hk' (by rw [HNT.out];exact hk)⟩)
    go_wp2
    exact bodyPost_ret (v:=.bool true) (by simp [results,Tryz.results44,go_sem]) rfl (Asked.yes HYES.out HB.out)
 ·have HNO:=Lib.hid (show ¬ MP from fun h=>hg (HM.out.1 h).1)
  obtain ⟨b1,t1⟩:∃ d,decide ((nx:Int) < lo) = d:=⟨_,rfl⟩
  obtain ⟨b2,t2⟩:∃ d,decide (hi < (nx:Int)) = d:=⟨_,rfl⟩
  obtain ⟨b3,t3⟩:∃ d,((nr:Int) != nt) = d:=⟨_,rfl⟩
  have hcases:b1 = true\/(b1 = false/\b2 = true)\/(b1 = false/\b2 = false/\b3 = true):=by
   rw [<- t1,<- t2,<- t3]
   simp only [decide_eq_true_eq,decide_eq_false_iff_not,bne_iff_ne,ne_eq]
   omega
  clear hg
  rcases hcases with rfl | ⟨rfl,rfl⟩ | ⟨rfl,rfl,rfl⟩
  all_goals
   go_enter Tryz.func44,Tryz.ntmps44
   go_wp2
   exact bodyPost_ret (v:=.bool false) (by simp [results,Tryz.results44,go_sem]) rfl (Asked.no HNO.out HB0.out)
def OwnS (w:World) (base:Nat) (ρ:Nat->Nat) (r:Nat) (e:TypeId) (size:Nat) (v:Value) (n:Nat) (xs:List Value):Prop:=
 w.ownsRow base e size v n xs/\∀ b,v.ownBlock = some b->ρ b = r
theorem ownsRow_stayS {w w':World} {base size:Nat} {e:TypeId} {v:Value} {n:Nat} {xs:List Value} (h:w.ownsRow base e size v n xs) (hk:∀ b,v.ownBlock = some b->w'.heap[b]? = w.heap[b]?):w'.ownsRow base e size v n xs:=by
 obtain ⟨hl,hz | ⟨g,cap,cur,rfl,hb,hg,rest⟩⟩:=h
 ·exact ⟨hl,Or.inl hz⟩
 ·exact ⟨hl,Or.inr ⟨g,cap,cur,rfl,hb,by rw [hk g rfl];exact hg,rest⟩⟩
theorem OwnS.move {w w':World} {base size n:Nat} {ρ ρ':Nat->Nat} {r r':Nat} {e:TypeId} {v:Value} {xs:List Value} (h:OwnS w base ρ r e size v n xs)
 (hf:∀ q,q < w.heap.size->ρ q = r->w'.heap[q]? = w.heap[q]?/\ρ' q = r'):OwnS w' base ρ' r' e size v n xs:=by
 have hlt:=h.1.lt
 exact ⟨ownsRow_stayS h.1 fun b hb=>(hf b (hlt b hb).2 (h.2 b hb)).1,fun b hb=>(hf b (hlt b hb).2 (h.2 b hb)).2⟩
theorem OwnS.below {w w':World} {base size n:Nat} {ρ:Nat->Nat} {r:Nat} {e:TypeId} {v:Value} {xs:List Value} (h:OwnS w base ρ r e size v n xs) (hb:Below w.heap.size w w'):OwnS w' base ρ r e size v n xs:=
 h.move fun q hq hr=>⟨hb.block q hq,hr⟩
def newRole (ρ:Nat->Nat) (s r:Nat):Nat->Nat:=fun b=>if s <= b then r else ρ b
theorem OwnS.role {w w':World} {base size n:Nat} {ρ:Nat->Nat} {r:Nat} {e:TypeId} {v:Value} {xs:List Value} (h:OwnS w base ρ r e size v n xs) (hb:Below w.heap.size w w') (r':Nat):OwnS w' base (newRole ρ w.heap.size r') r e size v n xs:=
 h.move fun q hq hr=>⟨hb.block q hq,by unfold newRole;rw [if_neg (by omega)];exact hr⟩
theorem own_new {w w':World} {base size n:Nat} {e:TypeId} {v:Value} {xs:List Value} (h:w'.ownsRow w.heap.size e size v n xs) (hB:base <= w.heap.size) (ρ:Nat->Nat) (r:Nat):OwnS w' base (newRole ρ w.heap.size r) r e size v n xs:=
 ⟨by
  obtain ⟨hl,hz | ⟨g,cap,cur,hv,hb,rest⟩⟩:=h
  ·exact ⟨hl,Or.inl hz⟩
  ·exact ⟨hl,Or.inr ⟨g,cap,cur,hv,Nat.le_trans hB hb,rest⟩⟩,fun b hb=>by unfold newRole;rw [if_pos (h.lt b hb).1]⟩
def u8s (xs:List Int):List Value:=xs.map (Value.int .u8)
theorem u8s_one (xs:List Int):∀ u ∈ u8s xs,u.oneCell' = true:=by
 intro u hu
 obtain ⟨x,_,rfl⟩:=List.mem_map.1 hu
 rfl
theorem reads_held {w:World} {v:Value} {xs:List Int} (h:Held w v xs):Reads w 1 v xs.length (u8s xs):=by
 refine ⟨by simp [u8s],u8s_one xs,?_⟩
 obtain ⟨_,⟨rfl,rfl | ⟨a,cap,rfl,hc⟩⟩ | ⟨hp,b,off,cap,rfl,hc,hm,hlt,hcell⟩⟩:=h
 ·exact Or.inl ⟨rfl,_,_,rfl,by decide⟩
 ·exact Or.inl ⟨rfl,_,_,rfl,hc⟩
 ·refine Or.inr ⟨hp,b,off,cap,rfl,hlt,hm,hc,fun j u hj=>?_⟩
  have hjl:j < xs.length:=by
   by_cases hh:j < xs.length
   ·exact hh
   ·rw [List.getElem?_eq_none (by simp [u8s];omega)] at hj;cases hj
  rw [hcell j hjl]
  simp [u8s,hjl] at hj
  simp [List.getD,hjl,hj]
structure CopS (w wr:World) (ρ ρ':Nat->Nat) (r i:Nat) (s3:Value) (vals':List Value) (rows:List (List Int)):Prop where
 bel:Below w.heap.size w wr
 role:∀ b,b < w.heap.size->ρ' b = ρ b
 list:OwnS wr w.heap.size ρ' r 27 1 s3 i vals'
 item:∀ k (h:k < rows.length),k < i->∃ u,vals'[k]? = some u/\OwnS wr w.heap.size ρ' (r + 1 + k) 5 1 u rows[k].length (u8s rows[k])
theorem CopS.begin (w:World) (ρ:Nat->Nat) (r:Nat) (rows:List (List Int)):CopS w w ρ ρ r 0 (.slice none 0 0) [] rows:=
 ⟨Below.refl _ _,fun _ _=>rfl,⟨World.ownsRow_nil _ _ _ _,fun b hb=>by cases hb⟩,fun k _ hk=>absurd hk (by omega)⟩
theorem CopS.clone {w wr w1:World} {ρ ρ':Nat->Nat} {r i:Nat} {s3:Value} {vals':List Value} {rows:List (List Int)} (h:CopS w wr ρ ρ' r i s3 vals' rows) (hB:Below wr.heap.size wr w1) :
 CopS w w1 ρ (newRole ρ' wr.heap.size (r + 1 + i)) r i s3 vals' rows:=
 ⟨h.bel.trans (hB.mono h.bel.size),fun b hb=>by unfold newRole;rw [if_neg (by have:=h.bel.size;omega)];exact h.role b hb,h.list.role hB _,fun k hk hki=>by
  obtain ⟨u,hu,ho⟩:=h.item k hk hki
  exact ⟨u,hu,ho.role hB _⟩⟩
theorem CopS.alloc {w wr:World} {ρ ρ':Nat->Nat} {r i:Nat} {s3:Value} {vals':List Value} {rows:List (List Int)} (h:CopS w wr ρ ρ' r i s3 vals' rows) (o:Obj):CopS w (wr.alloc o) ρ ρ' r i s3 vals' rows:=
 have hB:=(Below.refl wr.heap.size wr).alloc (Nat.le_refl _) o
 ⟨h.bel.trans (hB.mono h.bel.size),h.role,h.list.below hB,fun k hk hki=>by
  obtain ⟨u,hu,ho⟩:=h.item k hk hki
  exact ⟨u,hu,ho.below hB⟩⟩
theorem CopS.append {w wr w2:World} {ρ ρ':Nat->Nat} {r i:Nat} {s3 v1:Value} {vals':List Value} {rows:List (List Int)} (h:CopS w wr ρ ρ' r i s3 vals' rows) (hi:i < rows.length)
 (h1:OwnS wr w.heap.size ρ' (r + 1 + i) 5 1 v1 rows[i].length (u8s rows[i])) {g cap:Nat}
 (hown:w2.ownsRow w.heap.size 27 1 (.slice (some ⟨g,0,none⟩) (i + 1) cap) (i + 1) (vals' ++ [v1])) (hgrow:wr.grownBy w2 s3.ownBlock) (hnew:s3.ownBlock = some g\/g = wr.heap.size) :
 CopS w w2 ρ (fun b=>if b = g then r else ρ' b) r (i + 1) (.slice (some ⟨g,0,none⟩) (i + 1) cap) (vals' ++ [v1]) rows:=by
 have hl:=h.list.1.1
 have hstay:∀ {k:Nat} {u:Value} {n:Nat} {xs:List Value},OwnS wr w.heap.size ρ' (r + 1 + k) 5 1 u n xs->OwnS w2 w.heap.size (fun b=>if b = g then r else ρ' b) (r + 1 + k) 5 1 u n xs:=by
  intro k u n xs ho
  refine ho.move fun q hq hr=>?_
  have hne:s3.ownBlock ≠ some q:=fun hc=>by
   have:=h.list.2 q hc
   omega
  refine ⟨hgrow.block q hq (Ne.symm hne),?_⟩
  show (if q = g then r else ρ' q) = _
  rw [if_neg fun hc=>?_]
  ·exact hr
  ·subst hc
   rcases hnew with hn | hn
   ·exact hne hn
   ·omega
 refine ⟨Below.grown h.bel hgrow h.bel.size fun b hb=>(h.list.1.lt b hb).1,fun b hb=>?_,⟨hown,fun b hb=>by cases hb;exact if_pos rfl⟩,fun k hk hki=>?_⟩
 ·show (if b = g then r else ρ' b) = _
  have:b ≠ g:=by
   have:=(hown.lt g rfl).1
   omega
  rw [if_neg this]
  exact h.role b hb
 ·by_cases hke:k = i
  ·subst hke
   exact ⟨v1,by rw [List.getElem?_append_right (by omega),show k - vals'.length = 0 by omega];rfl,hstay h1⟩
  ·obtain ⟨u,hu,ho⟩:=h.item k hk (by omega)
   exact ⟨u,by rw [List.getElem?_append_left (by omega)];exact hu,hstay ho⟩
theorem info_sb:(Tryz.prog.info? 27).map (fun i=>(i.zero,i.size,i.bytes)) = some (some (.slice none 0 0),1,24):=by kernel_rfl
theorem copies_of (v:Value) (vals:List Value) (rows:List (List Int)) (hl:rows.length <= 1000000) (hb:∀ i (h:i < rows.length),rows[i].length <= 140737488355328) (w:World) (h:Rowed w v vals rows) (ρ:Nat->Nat) (r:Nat) :
 Calls Tryz.prog 48 #[v] w fun e w'=>∃ v' vals' ρ',e = .returned v'/\CopS w w' ρ ρ' r rows.length v' vals' rows:=by
 obtain ⟨i0,hi0,hz0,hz1,hz2⟩:=info_split info_sb
 obtain ⟨a,cap,rfl,hc⟩:=h.open
 obtain ⟨n,hn⟩:∃ n,n = rows.length:=⟨_,rfl⟩
 rw [<- hn] at hl ⊢
 have HC:=Lib.hid hc
 have HN:=Lib.hid hn
 have HLB:=Lib.hid hb
 clear hc hn h hb
 go_enter Tryz.func48,Tryz.ntmps48
 go_wp2
 go_loopw [3,8] (fun s3 s wr=>∃ (i:Nat) (vals':List Value) (ρ':Nat->Nat),i <= n/\s = .int .i64 i/\CopS w wr ρ ρ' r i s3 vals' rows) (fun _ s _=>n - (intOf s).toNat)
 case atStart=>exact ⟨0,[],ρ,Nat.zero_le _,rfl,CopS.begin w ρ r rows⟩
 case round=>
  obtain ⟨i,vals',ρ',hi,rfl,hS⟩:=hrel
  have HS:=Lib.hid hS
  clear hS
  by_cases hlt:i < n
  ·obtain ⟨b,off,u,rfl,hb,hu,e0',hH⟩:=HC.out i (by rw [<- HN.out];exact hlt)
   have e0:wr.cell? ⟨b,off + i,none⟩ = some u:=(HS.out.bel.cell (p:=⟨b,off + i,none⟩) hb).trans e0'
   have hcl:=fun w' (h:Reads w' 1 u (rows[i]'(by rw [<- HN.out];exact hlt)).length (u8s (rows[i]'(by rw [<- HN.out];exact hlt))))=>clone_byte u _ _ w' h (by have:=HLB.out i (by rw [<- HN.out];exact hlt);omega)
   have hrd:=(reads_held hH).below HS.out.bel (Nat.le_refl _)
   have HCL:=Lib.hid hcl
   have HRD:=Lib.hid hrd
   clear hcl hrd e0' hH hu
   have hj1:(0:Int) <= (i:Int):=by omega
   have hj3:(i:Int) < n:=by omega
   go_wp2_with fail
   refine (HCL.out _ HRD.out).mono ?_
   rintro e w1 ⟨v1,rfl,hown1,hB1⟩
   obtain ⟨a1,n1,c1,rfl⟩:∃ a1 n1 c1,v1 = .slice a1 n1 c1:=by rcases hown1.2 with ⟨rfl,_⟩ | ⟨g,c,cur,rfl,_⟩ <;> exact ⟨_,_,_,rfl⟩
   have hS1:=HS.out.clone hB1
   have hO1:=own_new (base:=w.heap.size) hown1 HS.out.bel.size ρ' (r + 1 + i)
   have hS2:=hS1.alloc (.cells #[.slice a1 n1 c1] 27)
   have hO2:=hO1.below ((Below.refl w1.heap.size w1).alloc (Nat.le_refl _) (.cells #[.slice a1 n1 c1] 27))
   have hnews:∀ (j:Nat) (x:Value),[Value.slice a1 n1 c1][j]? = some x->(w1.alloc (.cells #[.slice a1 n1 c1] 27)).cell? ((⟨w1.heap.size,0,none⟩:Addr).add j) = some x:=by
    intro j x hx
    have hj:j = 0:=by cases j with
     | zero=>rfl
     | succ j=>simp at hx
    subst hj
    simp at hx
    rw [<- hx]
    show (w1.alloc (.cells #[.slice a1 n1 c1] 27)).cell? ⟨w1.heap.size,0,none⟩ = _
    rw [(Row.made w1 [.slice a1 n1 c1] 27).cell]
    rfl
   have hone:∀ x ∈ [Value.slice a1 n1 c1],x.oneCell' = true:=by
    intro x hx
    simp at hx
    subst hx
    rfl
   have HS2:=Lib.hid hS2
   have HO2:=Lib.hid hO2
   have HLT:=Lib.hid (show i < rows.length by rw [<- HN.out];exact hlt)
   have hm1:i + 1 <= maxLen:=by unfold maxLen;omega
   have hm2:(i + 1) * 24 <= 140737488355328:=by omega
   have hm3:w.heap.size <= (w1.alloc (.cells #[.slice a1 n1 c1] 27)).heap.size:=hS2.bel.size
   have HM3:=Lib.hid hm3
   clear hS1 hO1 hS2 hO2 hown1 hB1 hm3 e0
   go_wp2_with (at_builtin;refine wpList_append_keep rfl (.tmp 12) (.tmp 15) 28 rfl w.heap.size 27 i0 (.slice none 0 0) 24 Tryz.underlying28 hi0 hz0 hz1 hz2 rfl _ i _ rfl HS2.out.list.1 ⟨w1.heap.size,0,none⟩ 1 1 [.slice a1 n1 c1] rfl rfl hnews hone (by decide) hm1 hm2 HM3.out ?_;intro g2 cap2 w2 hown hgrow hnew hlt2 hkeep)
   have HS3:=Lib.hid (HS2.out.append HLT.out HO2.out hown hgrow hnew)
   clear hown hgrow hnew hlt2 hkeep hnews hone
   go_wp2
   go_roundw
   case rel=>exact ⟨i + 1,_,_,hlt,by go_num,HS3.out⟩
   case measure=>simp [intOf];omega
  ·obtain rfl:i = n:=by omega
   go_wp2
   go_ret
   exact ⟨_,_,_,rfl,HS.out⟩
def mrow (st:List Value) (xv tv dv zv cv uv bg:Value) (rg:List Value) (sv:Value) (at' steps:Int) (done:Bool):List Value:=
 st ++ ([xv,tv,dv,zv,cv,uv,bg] ++ (rg ++ [sv,.int .i64 at',.int .i64 steps,.bool done]))
def zslot:List Value:=[.int .i64 0,.int .i64 0,.int .i64 0,.int .i64 0,.int .u8 0,.int .u8 0,.int .u8 0,.int .u8 0,.int .u8 0,.int .u8 0,.int .u8 0,.int .u8 0,.int .i64 0]
def zstack:List Value:=(List.replicate 32 zslot).flatten
def zregs:List Value:=List.replicate 44 (.int .i64 0)
def nils:Value:=.slice none 0 0
theorem built_new (ca ua:Option Addr) (cn cc un uc:Nat) (mb:Option Nat) :
 Tryz.prog.built 99 [(1,.slice ca cn cc),(2,.slice ua un uc),(3,.map mb)] = some (mrow zstack nils nils nils nils (.slice ca cn cc) (.slice ua un uc) (.map mb) zregs nils 0 0 false).toArray:=by
 kernel_rfl
theorem cells_new (cv uv bg:Value):((Tryz.zeroCells99.setIfInBounds 420 cv).setIfInBounds 421 uv).setIfInBounds 422 bg = (mrow zstack nils nils nils nils cv uv bg zregs nils 0 0 false).toArray:=by
 kernel_rfl
theorem run_new (ca ua:Option Addr) (cn cc un uc:Nat) (mb:Option Nat) (w:World) :
 (Instr.build 99 #[(1,.slice ca cn cc),(2,.slice ua un uc),(3,.map mb)]).run Tryz.prog w = .ok (.agg (mrow zstack nils nils nils nils (.slice ca cn cc) (.slice ua un uc) (.map mb) zregs nils 0 0 false).toArray) w:=
 run_build w _ _ _ (built_new ca ua cn cc un uc mb)
structure NB (b:Nat) (w:World) (lo hi:Int) (dv tv cv xv rv:Value) (w':World):Prop where
 rp:Row w' b 44 (prgc lo hi dv tv cv)
 ri:Row w' (b + 1) 46 (inpc xv rv)
 bel:Below b w w'
theorem NB.below {b:Nat} {w w1 w2:World} {lo hi:Int} {dv tv cv xv rv:Value} (h:NB b w lo hi dv tv cv xv rv w1) (hB:Below w1.heap.size w1 w2):NB b w lo hi dv tv cv xv rv w2:=
 ⟨h.rp.below hB h.rp.lt,h.ri.below hB h.ri.lt,h.bel.trans (hB.mono (Nat.le_of_lt h.rp.lt))⟩
theorem NB.k4 {b:Nat} {w w1:World} {lo hi:Int} {dv tv cv xv rv:Value} (h:NB b w lo hi dv tv cv xv rv w1):w1.cell? ⟨b,4,none⟩ = some cv/\NB b w lo hi dv tv cv xv rv w1:=⟨(prg_row h.rp).2.2.2.2,h⟩
theorem NB.n4 {b:Nat} {w w1 w2:World} {lo hi:Int} {dv tv cv xv rv:Value} (h:w1.cell? ⟨b,4,none⟩ = some cv/\NB b w lo hi dv tv cv xv rv w1) (hB:Below w1.heap.size w1 w2):w2.cell? ⟨b,4,none⟩ = some cv/\NB b w lo hi dv tv cv xv rv w2:=(h.2.below hB).k4
theorem own_slice {w:World} {base size n:Nat} {e:TypeId} {v:Value} {xs:List Value} (h:w.ownsRow base e size v n xs):∃ a c,v = .slice a n c:=by
 rcases h.2 with ⟨rfl,rfl⟩ | ⟨g,c,cur,rfl,_⟩
 ·exact ⟨_,_,rfl⟩
 ·exact ⟨_,_,rfl⟩
structure MapS (w:World) (base:Nat) (ρ:Nat->Nat) (r mb:Nat) (es:Array MapEntry) (c:Nat):Prop where
 at':w.heap[mb]? = some (.map es c)
 le:base <= mb
 role:ρ mb = r
theorem MapS.lt {w:World} {base:Nat} {ρ:Nat->Nat} {r mb:Nat} {es:Array MapEntry} {c:Nat} (h:MapS w base ρ r mb es c):mb < w.heap.size:=(Array.getElem?_eq_some_iff.1 h.at').1
theorem MapS.next {w w':World} {base:Nat} {ρ:Nat->Nat} {r mb:Nat} {es:Array MapEntry} {c:Nat} (h:MapS w base ρ r mb es c) (hb:Below w.heap.size w w') (r':Nat):MapS w' base (newRole ρ w.heap.size r') r mb es c:=
 ⟨(hb.block mb h.lt).trans h.at',h.le,by unfold newRole;rw [if_neg (by have:=h.lt;omega)];exact h.role⟩
theorem MapS.made (w:World) (base:Nat) (hb:base <= w.heap.size) (ρ:Nat->Nat) (r:Nat):MapS (w.alloc (.map #[] 0)) base (newRole ρ w.heap.size r) r w.heap.size #[] 0:=
 ⟨heap_alloc_new w _,hb,by unfold newRole;rw [if_pos (Nat.le_refl _)]⟩
theorem newRole_lt {ρ:Nat->Nat} {s r b q:Nat} (h:b <= s) (hq:q < b):newRole ρ s r q = ρ q:=by unfold newRole;rw [if_neg (by omega)]
theorem OwnS.next {w w':World} {base size n:Nat} {ρ ρ':Nat->Nat} {r:Nat} {e:TypeId} {v:Value} {xs:List Value} (h:OwnS w base ρ r e size v n xs) (hb:Below w.heap.size w w') (ha:∀ q,q < w.heap.size->ρ' q = ρ q):OwnS w' base ρ' r e size v n xs:=
 h.move fun q hq hr=>⟨hb.block q hq,(ha q hq).trans hr⟩
theorem OwnS.set {w:World} {base size n:Nat} {ρ:Nat->Nat} {r:Nat} {e:TypeId} {v:Value} {xs:List Value} (h:OwnS w base ρ r e size v n xs) (a:Addr) (x:Value) (hr:ρ a.block ≠ r):OwnS (w.setCell a x) base ρ r e size v n xs:=
 h.move fun q hq hqr=>⟨Below.heap_setCell _ _ _ _ (fun hc=>hr (by rw [<- hc];exact hqr)),hqr⟩
theorem MapS.next2 {w w':World} {base:Nat} {ρ ρ':Nat->Nat} {r mb:Nat} {es:Array MapEntry} {c:Nat} (h:MapS w base ρ r mb es c) (hb:Below w.heap.size w w') (ha:∀ q,q < w.heap.size->ρ' q = ρ q):MapS w' base ρ' r mb es c:=
 ⟨(hb.block mb h.lt).trans h.at',h.le,(ha mb h.lt).trans h.role⟩
theorem MapS.set {w:World} {base:Nat} {ρ:Nat->Nat} {r mb:Nat} {es:Array MapEntry} {c:Nat} (h:MapS w base ρ r mb es c) (a:Addr) (x:Value) (hr:ρ a.block ≠ r):MapS (w.setCell a x) base ρ r mb es c:=
 ⟨(Below.heap_setCell _ _ _ _ (fun hc=>hr (by rw [<- hc];exact h.role))).trans h.at',h.le,h.role⟩
structure MB (b:Nat) (w:World) (ρ:Nat->Nat) (lo hi:Int) (dv tv cv xv rv:Value) (nc:Nat) (code:List Ins) (ρ':Nat->Nat) (bx mb:Nat) (es:Array MapEntry) (ec:Nat) (cs:List Value) (cv' uv':Value) (wx:World):Prop where
 nb:NB b w lo hi dv tv cv xv rv wx
 box:Row wx bx 99 cs
 codeS:OwnS wx b ρ' 5 25 8 cv' nc (codec code)
 unitsS:OwnS wx b ρ' 6 3 1 uv' (nc + 1) (ztab (nc + 1) fun k=>unitAt code k)
 begin':MapS wx (b + 2) ρ' 8 mb es ec
 le:b + 2 <= bx
 rb:ρ' bx = 0
 rr:∀ q,q < b->ρ' q = ρ q
theorem MB.next {b:Nat} {w:World} {ρ:Nat->Nat} {lo hi:Int} {dv tv cv xv rv:Value} {nc:Nat} {code:List Ins} {ρ1 ρ2:Nat->Nat} {bx mb:Nat} {es:Array MapEntry} {ec:Nat} {cs:List Value} {cv' uv':Value} {w1 w2:World}
 (h:MB b w ρ lo hi dv tv cv xv rv nc code ρ1 bx mb es ec cs cv' uv' w1) (hb:Below w1.heap.size w1 w2) (ha:∀ q,q < w1.heap.size->ρ2 q = ρ1 q):MB b w ρ lo hi dv tv cv xv rv nc code ρ2 bx mb es ec cs cv' uv' w2:=
 ⟨h.nb.below hb,h.box.below hb h.box.lt,h.codeS.next hb ha,h.unitsS.next hb ha,h.begin'.next2 hb ha,h.le,(ha bx h.box.lt).trans h.rb,fun q hq=>(ha q (by have:=h.nb.rp.lt;omega)).trans (h.rr q hq)⟩
theorem MB.set {b:Nat} {w:World} {ρ:Nat->Nat} {lo hi:Int} {dv tv cv xv rv:Value} {nc:Nat} {code:List Ins} {ρ1:Nat->Nat} {bx mb:Nat} {es:Array MapEntry} {ec:Nat} {cs:List Value} {cv' uv':Value} {w1:World}
 (h:MB b w ρ lo hi dv tv cv xv rv nc code ρ1 bx mb es ec cs cv' uv' w1) (i:Nat) (x:Value):MB b w ρ lo hi dv tv cv xv rv nc code ρ1 bx mb es ec (cs.set i x) cv' uv' (w1.setCell ⟨bx,i,none⟩ x):=
 have hle:=h.le
 ⟨⟨h.nb.rp.other _ _ (by show b ≠ bx; omega), h.nb.ri.other _ _ (by show b + 1 ≠ bx; omega), h.nb.bel.setCell (by show b ≤ bx; omega) _⟩, h.box.put i x, h.codeS.set _ _ (by show ρ1 bx ≠ 5; rw [h.rb]; decide), h.unitsS.set _ _ (by show ρ1 bx ≠ 6; rw [h.rb]; decide),
   h.begin'.set _ _ (by show ρ1 bx ≠ 8;rw [h.rb];decide),h.le,h.rb,h.rr⟩
theorem NB.setx {b:Nat} {w w1:World} {lo hi:Int} {dv tv cv xv rv:Value} (h:NB b w lo hi dv tv cv xv rv w1) {bx:Nat} (hx:b + 2 <= bx) (i:Nat) (x:Value):NB b w lo hi dv tv cv xv rv (w1.setCell ⟨bx,i,none⟩ x):=
 ⟨h.rp.other _ _ (by show b ≠ bx;omega),h.ri.other _ _ (by show b + 1 ≠ bx;omega),h.bel.setCell (by show b <= bx;omega) _⟩
structure TabS (w:World) (base:Nat) (ρ:Nat->Nat) (tv':Value) (vals':List Value) (rows:List (List Int)):Prop where
 list:OwnS w base ρ 10 27 1 tv' rows.length vals'
 item:∀ k (h:k < rows.length),∃ u,vals'[k]? = some u/\OwnS w base ρ (11 + k) 5 1 u rows[k].length (u8s rows[k])
theorem TabS.next {w w':World} {base:Nat} {ρ ρ':Nat->Nat} {tv':Value} {vals':List Value} {rows:List (List Int)} (h:TabS w base ρ tv' vals' rows) (hb:Below w.heap.size w w') (ha:∀ q,q < w.heap.size->ρ' q = ρ q):TabS w' base ρ' tv' vals' rows:=
 ⟨h.list.next hb ha,fun k hk=>let ⟨u,hu,ho⟩:=h.item k hk;⟨u,hu,ho.next hb ha⟩⟩
theorem TabS.set {w:World} {base:Nat} {ρ:Nat->Nat} {tv':Value} {vals':List Value} {rows:List (List Int)} (h:TabS w base ρ tv' vals' rows) (a:Addr) (x:Value) (hr:ρ a.block < 10):TabS (w.setCell a x) base ρ tv' vals' rows:=
 ⟨h.list.set a x (by omega),fun k hk=>let ⟨u,hu,ho⟩:=h.item k hk;⟨u,hu,ho.set a x (by omega)⟩⟩
theorem OwnS.low {w:World} {base base' size n:Nat} {ρ:Nat->Nat} {r:Nat} {e:TypeId} {v:Value} {xs:List Value} (h:OwnS w base ρ r e size v n xs) (hb:base' <= base):OwnS w base' ρ r e size v n xs:=
 ⟨by
  obtain ⟨⟨hl,hz | ⟨g,cap,cur,hv,hb',rest⟩⟩,_⟩:=h
  ·exact ⟨hl,Or.inl hz⟩
  ·exact ⟨hl,Or.inr ⟨g,cap,cur,hv,Nat.le_trans hb hb',rest⟩⟩,h.2⟩
theorem tabs_of {w wT:World} {base:Nat} {ρ ρ':Nat->Nat} {tv':Value} {vals':List Value} {rows:List (List Int)} (h:CopS w wT ρ ρ' 10 rows.length tv' vals' rows) (hb:base <= w.heap.size):TabS wT base ρ' tv' vals' rows:=
 ⟨h.list.low hb,fun k hk=>let ⟨u,hu,ho⟩:=h.item k hk hk;⟨u,hu,ho.low hb⟩⟩
theorem NB.n01 {b:Nat} {w w1 w2:World} {lo hi:Int} {dv tv cv xv rv:Value} (h:w1.cell? ⟨b + 1,0,none⟩ = some xv/\w1.cell? ⟨b + 1,1,none⟩ = some rv/\NB b w lo hi dv tv cv xv rv w1) (hB:Below w1.heap.size w1 w2) :
 w2.cell? ⟨b + 1,0,none⟩ = some xv/\w2.cell? ⟨b + 1,1,none⟩ = some rv/\NB b w lo hi dv tv cv xv rv w2:=⟨(inp_row (h.2.2.below hB).ri).1,(inp_row (h.2.2.below hB).ri).2,h.2.2.below hB⟩
theorem NB.s01 {b:Nat} {w w1:World} {lo hi:Int} {dv tv cv xv rv:Value} (h:w1.cell? ⟨b + 1,0,none⟩ = some xv/\w1.cell? ⟨b + 1,1,none⟩ = some rv/\NB b w lo hi dv tv cv xv rv w1) {bx:Nat} (hx:b + 2 <= bx) (i:Nat) (x:Value) :
 (w1.setCell ⟨bx,i,none⟩ x).cell? ⟨b + 1,0,none⟩ = some xv/\(w1.setCell ⟨bx,i,none⟩ x).cell? ⟨b + 1,1,none⟩ = some rv/\NB b w lo hi dv tv cv xv rv (w1.setCell ⟨bx,i,none⟩ x):=⟨(inp_row (h.2.2.setx hx i x).ri).1,(inp_row (h.2.2.setx hx i x).ri).2,h.2.2.setx hx i x⟩
theorem NB.n23 {b:Nat} {w w1 w2:World} {lo hi:Int} {dv tv cv xv rv:Value} (h:w1.cell? ⟨b,2,none⟩ = some dv/\w1.cell? ⟨b,3,none⟩ = some tv/\NB b w lo hi dv tv cv xv rv w1) (hB:Below w1.heap.size w1 w2) :
 w2.cell? ⟨b,2,none⟩ = some dv/\w2.cell? ⟨b,3,none⟩ = some tv/\NB b w lo hi dv tv cv xv rv w2:=⟨(prg_row (h.2.2.below hB).rp).2.2.1,(prg_row (h.2.2.below hB).rp).2.2.2.1,h.2.2.below hB⟩
theorem NB.s23 {b:Nat} {w w1:World} {lo hi:Int} {dv tv cv xv rv:Value} (h:w1.cell? ⟨b,2,none⟩ = some dv/\w1.cell? ⟨b,3,none⟩ = some tv/\NB b w lo hi dv tv cv xv rv w1) {bx:Nat} (hx:b + 2 <= bx) (i:Nat) (x:Value) :
 (w1.setCell ⟨bx,i,none⟩ x).cell? ⟨b,2,none⟩ = some dv/\(w1.setCell ⟨bx,i,none⟩ x).cell? ⟨b,3,none⟩ = some tv/\NB b w lo hi dv tv cv xv rv (w1.setCell ⟨bx,i,none⟩ x):=⟨(prg_row (h.2.2.setx hx i x).rp).2.2.1,(prg_row (h.2.2.setx hx i x).rp).2.2.2.1,h.2.2.setx hx i x⟩
theorem newRole_same {ρ:Nat->Nat} {s r:Nat}:∀ q,q < s->newRole ρ s r q = ρ q:=fun q hq=>by unfold newRole;rw [if_neg (by omega)]
theorem below_map (w:World) (o:Obj):Below w.heap.size w (w.alloc o):=(Below.refl _ _).alloc (Nat.le_refl _) _
theorem m5_a {b:Nat} {w v0 wC wU:World} {ρ:Nat->Nat} {lo hi:Int} {dv tv cv xv rv:Value} {nc:Nat} {code:List Ins} {cv' uv':Value} (h:NB b w lo hi dv tv cv xv rv v0)
 (hbC:Below (v0.alloc (.map #[] 0)).heap.size (v0.alloc (.map #[] 0)) wC) (hC:wC.ownsRow (v0.alloc (.map #[] 0)).heap.size 25 8 cv' nc (codec code)) (hbU:Below wC.heap.size wC wU) (hU:wU.ownsRow wC.heap.size 3 1 uv' (nc + 1) (ztab (nc + 1) fun k=>unitAt code k)) :
 ∃ ρ',MB b w ρ lo hi dv tv cv xv rv nc code ρ' wU.heap.size v0.heap.size #[] 0 (mrow zstack nils nils nils nils cv' uv' (.map (some v0.heap.size)) zregs nils 0 0 false) cv' uv' (wU.alloc (.cells (mrow zstack nils nils nils nils cv' uv' (.map (some v0.heap.size)) zregs nils 0 0 false).toArray 99)):=by
 have s0:b <= v0.heap.size:=Nat.le_of_lt h.rp.lt
 have n0:=h
 have m0:=MapS.made v0 (b + 2) n0.ri.lt ρ 8
 have n1:=n0.below (below_map v0 (.map #[] 0))
 have s1:b <= (v0.alloc (.map #[] 0)).heap.size:=Nat.le_of_lt n1.rp.lt
 have m1:=m0.next hbC 5
 have c1:=own_new (base:=b) hC s1 (newRole ρ v0.heap.size 8) 5
 have n2:=n1.below hbC
 have s2:b <= wC.heap.size:=Nat.le_of_lt n2.rp.lt
 have m2:=m1.next hbU 6
 have c2:=c1.role hbU 6
 have u2:=own_new (base:=b) hU s2 (newRole (newRole ρ v0.heap.size 8) (v0.alloc (.map #[] 0)).heap.size 5) 6
 have n3:=n2.below hbU
 have s3:b <= wU.heap.size:=Nat.le_of_lt n3.rp.lt
 exact ⟨(newRole (newRole (newRole (newRole ρ v0.heap.size 8) (v0.alloc (.map #[] 0)).heap.size 5) wC.heap.size 6) wU.heap.size 0),n3.below (below_map wU (.cells (mrow zstack nils nils nils nils cv' uv' (.map (some v0.heap.size)) zregs nils 0 0 false).toArray 99)),Row.made _ _ _,c2.role (below_map wU (.cells (mrow zstack nils nils nils nils cv' uv' (.map (some v0.heap.size)) zregs nils 0 0 false).toArray 99)) 0,u2.role (below_map wU (.cells (mrow zstack nils nils nils nils cv' uv' (.map (some v0.heap.size)) zregs nils 0 0 false).toArray 99)) 0,m2.next (below_map wU (.cells (mrow zstack nils nils nils nils cv' uv' (.map (some v0.heap.size)) zregs nils 0 0 false).toArray 99)) 0,n3.ri.lt,by unfold newRole;rw [if_pos (Nat.le_refl _)],fun q hq=>by rw [newRole_lt s3 hq,newRole_lt s2 hq,newRole_lt s1 hq,newRole_lt s0 hq]⟩
theorem m5_b {b:Nat} {w v0 wC wU:World} {ρ:Nat->Nat} {lo hi:Int} {dv tv cv xv rv:Value} {nc:Nat} {code:List Ins} {cv' uv':Value} (h:NB b w lo hi dv tv cv xv rv v0)
 (hbC:Below v0.heap.size v0 wC) (hC:wC.ownsRow v0.heap.size 25 8 cv' nc (codec code)) (hbU:Below (wC.alloc (.map #[] 0)).heap.size (wC.alloc (.map #[] 0)) wU) (hU:wU.ownsRow (wC.alloc (.map #[] 0)).heap.size 3 1 uv' (nc + 1) (ztab (nc + 1) fun k=>unitAt code k)) :
 ∃ ρ',MB b w ρ lo hi dv tv cv xv rv nc code ρ' wU.heap.size wC.heap.size #[] 0 (mrow zstack nils nils nils nils cv' uv' (.map (some wC.heap.size)) zregs nils 0 0 false) cv' uv' (wU.alloc (.cells (mrow zstack nils nils nils nils cv' uv' (.map (some wC.heap.size)) zregs nils 0 0 false).toArray 99)):=by
 have s0:b <= v0.heap.size:=Nat.le_of_lt h.rp.lt
 have n0:=h
 have c0:=own_new (base:=b) hC s0 ρ 5
 have n1:=n0.below hbC
 have s1:b <= wC.heap.size:=Nat.le_of_lt n1.rp.lt
 have c1:=c0.role (below_map wC (.map #[] 0)) 8
 have m1:=MapS.made wC (b + 2) n1.ri.lt (newRole ρ v0.heap.size 5) 8
 have n2:=n1.below (below_map wC (.map #[] 0))
 have s2:b <= (wC.alloc (.map #[] 0)).heap.size:=Nat.le_of_lt n2.rp.lt
 have c2:=c1.role hbU 6
 have m2:=m1.next hbU 6
 have u2:=own_new (base:=b) hU s2 (newRole (newRole ρ v0.heap.size 5) wC.heap.size 8) 6
 have n3:=n2.below hbU
 have s3:b <= wU.heap.size:=Nat.le_of_lt n3.rp.lt
 exact ⟨(newRole (newRole (newRole (newRole ρ v0.heap.size 5) wC.heap.size 8) (wC.alloc (.map #[] 0)).heap.size 6) wU.heap.size 0),n3.below (below_map wU (.cells (mrow zstack nils nils nils nils cv' uv' (.map (some wC.heap.size)) zregs nils 0 0 false).toArray 99)),Row.made _ _ _,c2.role (below_map wU (.cells (mrow zstack nils nils nils nils cv' uv' (.map (some wC.heap.size)) zregs nils 0 0 false).toArray 99)) 0,u2.role (below_map wU (.cells (mrow zstack nils nils nils nils cv' uv' (.map (some wC.heap.size)) zregs nils 0 0 false).toArray 99)) 0,m2.next (below_map wU (.cells (mrow zstack nils nils nils nils cv' uv' (.map (some wC.heap.size)) zregs nils 0 0 false).toArray 99)) 0,n3.ri.lt,by unfold newRole;rw [if_pos (Nat.le_refl _)],fun q hq=>by rw [newRole_lt s3 hq,newRole_lt s2 hq,newRole_lt s1 hq,newRole_lt s0 hq]⟩
theorem m5_c {b:Nat} {w v0 wC wU:World} {ρ:Nat->Nat} {lo hi:Int} {dv tv cv xv rv:Value} {nc:Nat} {code:List Ins} {cv' uv':Value} (h:NB b w lo hi dv tv cv xv rv v0)
 (hbC:Below v0.heap.size v0 wC) (hC:wC.ownsRow v0.heap.size 25 8 cv' nc (codec code)) (hbU:Below wC.heap.size wC wU) (hU:wU.ownsRow wC.heap.size 3 1 uv' (nc + 1) (ztab (nc + 1) fun k=>unitAt code k)) :
 ∃ ρ',MB b w ρ lo hi dv tv cv xv rv nc code ρ' (wU.alloc (.map #[] 0)).heap.size wU.heap.size #[] 0 (mrow zstack nils nils nils nils cv' uv' (.map (some wU.heap.size)) zregs nils 0 0 false) cv' uv' ((wU.alloc (.map #[] 0)).alloc (.cells (mrow zstack nils nils nils nils cv' uv' (.map (some wU.heap.size)) zregs nils 0 0 false).toArray 99)):=by
 have s0:b <= v0.heap.size:=Nat.le_of_lt h.rp.lt
 have n0:=h
 have c0:=own_new (base:=b) hC s0 ρ 5
 have n1:=n0.below hbC
 have s1:b <= wC.heap.size:=Nat.le_of_lt n1.rp.lt
 have c1:=c0.role hbU 6
 have u1:=own_new (base:=b) hU s1 (newRole ρ v0.heap.size 5) 6
 have n2:=n1.below hbU
 have s2:b <= wU.heap.size:=Nat.le_of_lt n2.rp.lt
 have c2:=c1.role (below_map wU (.map #[] 0)) 8
 have u2:=u1.role (below_map wU (.map #[] 0)) 8
 have m2:=MapS.made wU (b + 2) n2.ri.lt (newRole (newRole ρ v0.heap.size 5) wC.heap.size 6) 8
 have n3:=n2.below (below_map wU (.map #[] 0))
 have s3:b <= (wU.alloc (.map #[] 0)).heap.size:=Nat.le_of_lt n3.rp.lt
 exact ⟨(newRole (newRole (newRole (newRole ρ v0.heap.size 5) wC.heap.size 6) wU.heap.size 8) (wU.alloc (.map #[] 0)).heap.size 0),n3.below (below_map (wU.alloc (.map #[] 0)) (.cells (mrow zstack nils nils nils nils cv' uv' (.map (some wU.heap.size)) zregs nils 0 0 false).toArray 99)),Row.made _ _ _,c2.role (below_map (wU.alloc (.map #[] 0)) (.cells (mrow zstack nils nils nils nils cv' uv' (.map (some wU.heap.size)) zregs nils 0 0 false).toArray 99)) 0,u2.role (below_map (wU.alloc (.map #[] 0)) (.cells (mrow zstack nils nils nils nils cv' uv' (.map (some wU.heap.size)) zregs nils 0 0 false).toArray 99)) 0,m2.next (below_map (wU.alloc (.map #[] 0)) (.cells (mrow zstack nils nils nils nils cv' uv' (.map (some wU.heap.size)) zregs nils 0 0 false).toArray 99)) 0,n3.ri.lt,by unfold newRole;rw [if_pos (Nat.le_refl _)],fun q hq=>by rw [newRole_lt s3 hq,newRole_lt s2 hq,newRole_lt s1 hq,newRole_lt s0 hq]⟩
def putMap (w:World) (mb:Nat) (o:Obj):World:={ w with heap:=w.heap.setIfInBounds mb o }
theorem putMap_other (w:World) (mb:Nat) (o:Obj) {q:Nat} (h:q ≠ mb):(putMap w mb o).heap[q]? = w.heap[q]?:=by simp [putMap,Ne.symm h]
theorem putMap_at {w:World} {mb:Nat} (o:Obj) (h:mb < w.heap.size):(putMap w mb o).heap[mb]? = some o:=by simp [putMap,h]
theorem below_putm {B:Nat} {w0 w:World} (h:Below B w0 w) {mb:Nat} (hm:B <= mb) (o:Obj):Below B w0 (putMap w mb o):=
 ⟨h.os,h.tape,h.output,by have:=h.size;simpa [putMap] using this,fun k hk=>(putMap_other w mb o (by omega)).trans (h.block k hk)⟩
theorem row_putm {w:World} {b:Nat} {e:TypeId} {cs:List Value} (h:Row w b e cs) {mb:Nat} (hne:b ≠ mb) (o:Obj):Row (putMap w mb o) b e cs:=by unfold Row at h ⊢;rw [putMap_other w mb o hne];exact h
theorem OwnS.putm {w:World} {base size n:Nat} {ρ:Nat->Nat} {r:Nat} {e:TypeId} {v:Value} {xs:List Value} (h:OwnS w base ρ r e size v n xs) {mb:Nat} (hr:ρ mb ≠ r) (o:Obj):OwnS (putMap w mb o) base ρ r e size v n xs:=
 h.move fun q hq hqr=>⟨putMap_other w mb o (fun hc=>hr (by rw [<- hc];exact hqr)),hqr⟩
theorem TabS.putm {w:World} {base:Nat} {ρ:Nat->Nat} {tv':Value} {vals':List Value} {rows:List (List Int)} (h:TabS w base ρ tv' vals' rows) {mb:Nat} (hr:ρ mb < 10) (o:Obj):TabS (putMap w mb o) base ρ tv' vals' rows:=
 ⟨h.list.putm (by omega) o,fun k hk=>let ⟨u,hu,ho⟩:=h.item k hk;⟨u,hu,ho.putm (by omega) o⟩⟩
theorem MB.putm {b:Nat} {w:World} {ρ:Nat->Nat} {lo hi:Int} {dv tv cv xv rv:Value} {nc:Nat} {code:List Ins} {ρ1:Nat->Nat} {bx mb:Nat} {es:Array MapEntry} {ec:Nat} {cs:List Value} {cv' uv':Value} {w1:World}
 (h:MB b w ρ lo hi dv tv cv xv rv nc code ρ1 bx mb es ec cs cv' uv' w1) (es':Array MapEntry) (ec':Nat):MB b w ρ lo hi dv tv cv xv rv nc code ρ1 bx mb es' ec' cs cv' uv' (putMap w1 mb (.map es' ec')):=
 have hm:=h.begin'.le
 have hr:=h.begin'.role
 ⟨⟨row_putm h.nb.rp (by omega) _, row_putm h.nb.ri (by omega) _, below_putm h.nb.bel (by omega) _⟩, row_putm h.box (fun hc => by have := h.rb; rw [hc, hr] at this; cases this) _, h.codeS.putm (by rw [hr]; decide) _, h.unitsS.putm (by rw [hr]; decide) _,
   ⟨putMap_at _ h.begin'.lt,hm,hr⟩,h.le,h.rb,h.rr⟩
def bents (code:List Ins) (i:Nat):Array MapEntry:=((List.range i).map fun k=>{ key:=.int .i64 (unitAt code k:Nat),val:=.int .i64 (k:Nat),born:=k }).toArray
theorem bents_push (code:List Ins) (i:Nat):(bents code i).push { key:=.int .i64 (unitAt code i:Nat),val:=.int .i64 (i:Nat),born:=i } = bents code (i + 1):=by
 simp [bents,List.range_succ]
theorem unitAt_lt (l:List Ins) (i:Nat):∀ j,i < j->unitAt l i < unitAt l j:=by
 intro j
 induction j with
 | zero=>intro h;omega
 | succ j ih =>
   intro h
   have hs:unitAt l j < unitAt l (j + 1):=by
    show _ < unitAt l j + _
    split <;> omega
   by_cases hj:i = j
   ·subst hj;exact hs
   ·exact Nat.lt_trans (ih (by omega)) hs
theorem find_none (u:Int):∀ (l:List MapEntry) (i:Nat),(∀ e ∈ l,∃ x:Int,e.key = .int .i64 x/\x ≠ u)->Instr.findNow (.int .i64) (.int .i64 u) l i = some none
 | [],_,_=>rfl
 | e :: l, i, h => by
   obtain ⟨x,hx,hne⟩:=h e (List.mem_cons_self ..)
   have hq:Instr.sameNow (.int .i64) (.int .i64 u) e.key = some false:=by
    rw [hx]
    show (if IntKind.i64 = IntKind.i64 then some (u == x) else none) = _
    rw [if_pos rfl]
    have:(u == x) = false:=by simp;exact fun hc=>hne hc.symm
    rw [this]
   show (match Instr.sameNow (.int .i64) (.int .i64 u) e.key with
    | some true=>some (some (i,e.val))
    | some false=>Instr.findNow (.int .i64) (.int .i64 u) l (i + 1)
    | none=>none) = _
   rw [hq]
   exact find_none u l (i + 1) fun e he=>h e (List.mem_cons_of_mem _ he)
theorem find_new (code:List Ins) (i:Nat):Instr.findNow (.int .i64) (.int .i64 (unitAt code i:Nat)) (bents code i).toList 0 = some none:=by
 apply find_none
 intro e he
 simp only [bents,List.mem_map,List.mem_range] at he
 obtain ⟨k,hk,rfl⟩:=he
 exact ⟨_,rfl,by have:=unitAt_lt code k i hk;omega⟩
theorem run_put_at {P:Program} {t kt et:TypeId} (hm:P.underlying t = some (.map kt et)) (hk:P.underlying kt = some (.int .i64)) (w:World) (mb:Nat) (es:Array MapEntry) (c:Nat) (h1:w.heap[mb]? = some (.map es c)) (k:Int) (v:Value)
 (hf:Instr.findNow (.int .i64) (.int .i64 k) es.toList 0 = some none) :
 (Instr.mapUpdate t (.map (some mb)) (.int .i64 k) v).run P w = .ok () (putMap w mb (.map (es.push { key:=.int .i64 k,val:=v,born:=c }) (c + 1))):=by
 simp [Instr.mapUpdate,run_underlying hm,MapKept.run_getObj_map h1,check_int hk,MapKept.run_findKey hk hf,MapKept.run_setObj_map _ h1,Result.andThen]
 rfl
theorem own_some {w:World} {base size n:Nat} {e:TypeId} {v:Value} {xs:List Value} (h:w.ownsRow base e size v n xs) (hn:0 < n):∃ g c,v = .slice (some ⟨g,0,none⟩) n c:=by
 rcases h.2 with ⟨rfl,rfl⟩ | ⟨g,c,cur,rfl,_⟩
 ·omega
 ·exact ⟨_,_,rfl⟩
theorem zstack_len:zstack.length = 416:=by kernel_rfl
theorem mrow_set0 {st rg:List Value} (hs:st.length = 416) (xv tv dv zv cv uv bg sv:Value) (at' steps:Int) (done:Bool) (v:Value):(mrow st xv tv dv zv cv uv bg rg sv at' steps done).set 416 v = mrow st v tv dv zv cv uv bg rg sv at' steps done:=by
 unfold mrow;rw [List.set_append_right _ _ (by omega),hs];rfl
theorem mrow_set1 {st rg:List Value} (hs:st.length = 416) (xv tv dv zv cv uv bg sv:Value) (at' steps:Int) (done:Bool) (v:Value):(mrow st xv tv dv zv cv uv bg rg sv at' steps done).set 417 v = mrow st xv v dv zv cv uv bg rg sv at' steps done:=by
 unfold mrow;rw [List.set_append_right _ _ (by omega),hs];rfl
theorem mrow_set2 {st rg:List Value} (hs:st.length = 416) (xv tv dv zv cv uv bg sv:Value) (at' steps:Int) (done:Bool) (v:Value):(mrow st xv tv dv zv cv uv bg rg sv at' steps done).set 418 v = mrow st xv tv v zv cv uv bg rg sv at' steps done:=by
 unfold mrow;rw [List.set_append_right _ _ (by omega),hs];rfl
theorem mrow_set3 {st rg:List Value} (hs:st.length = 416) (xv tv dv zv cv uv bg sv:Value) (at' steps:Int) (done:Bool) (v:Value):(mrow st xv tv dv zv cv uv bg rg sv at' steps done).set 419 v = mrow st xv tv dv v cv uv bg rg sv at' steps done:=by
 unfold mrow;rw [List.set_append_right _ _ (by omega),hs];rfl
theorem mrow_heads {w:World} {b:Nat} {e:TypeId} {st rg:List Value} {xv tv dv zv cv uv bg sv:Value} {at' steps:Int} {done:Bool} (hs:st.length = 416) (h:Row w b e (mrow st xv tv dv zv cv uv bg rg sv at' steps done)) :
 w.cell? ⟨b,416,none⟩ = some xv/\w.cell? ⟨b,417,none⟩ = some tv/\w.cell? ⟨b,418,none⟩ = some dv/\w.cell? ⟨b,419,none⟩ = some zv/\w.cell? ⟨b,420,none⟩ = some cv/\w.cell? ⟨b,421,none⟩ = some uv/\w.cell? ⟨b,422,none⟩ = some bg:=by
 unfold mrow at h
 refine ⟨?_,?_,?_,?_,?_,?_,?_⟩ <;> (rw [h.cell,List.getElem?_append_right (by omega),hs];rfl)
theorem zregs_len:zregs.length = 44:=by kernel_rfl
theorem mrow_rset {st rg:List Value} (hs:st.length = 416) (hr:rg.length = 44) (xv tv dv zv cv uv bg sv:Value) (at' steps:Int) (done:Bool) (k:Nat) (hk:k < 44) (v:Value) :
 (mrow st xv tv dv zv cv uv bg rg sv at' steps done).set (423 + k) v = mrow st xv tv dv zv cv uv bg (rg.set k v) sv at' steps done:=by
 unfold mrow
 rw [List.set_append_right _ _ (by omega),hs,show 423 + k - 416 = 7 + k by omega,List.set_append_right _ _ (by simp),show 7 + k - [xv,tv,dv,zv,cv,uv,bg].length = k by simp,List.set_append_left _ _ (by omega)]
theorem mrow_reg {w:World} {b:Nat} {e:TypeId} {st rg:List Value} {xv tv dv zv cv uv bg sv:Value} {at' steps:Int} {done:Bool} (hs:st.length = 416) (hr:rg.length = 44) (h:Row w b e (mrow st xv tv dv zv cv uv bg rg sv at' steps done)) (k:Nat) (hk:k < 44) :
 w.cell? ⟨b,423 + k,none⟩ = rg[k]?:=by
 unfold mrow at h
 rw [h.cell,List.getElem?_append_right (by omega),hs,show 423 + k - 416 = 7 + k by omega,List.getElem?_append_right (by simp),show 7 + k - [xv,tv,dv,zv,cv,uv,bg].length = k by simp,List.getElem?_append_left (by omega)]
def regset (rg:List Value) (r:Nat) (k t o x:Value):List Value:=(((rg.set (4 * r) k).set (4 * r + 1) t).set (4 * r + 2) o).set (4 * r + 3) x
theorem regset_len (rg:List Value) (r:Nat) (k t o x:Value):(regset rg r k t o x).length = rg.length:=by simp [regset]
theorem MB.reg {b:Nat} {w:World} {ρ:Nat->Nat} {lo hi:Int} {dv tv cv xv rv:Value} {nc:Nat} {code:List Ins} {ρ1:Nat->Nat} {bx mb:Nat} {es:Array MapEntry} {ec:Nat} {st rg:List Value} {x1 t1 d1 z1 cv' uv' bg sv:Value} {at' steps:Int} {done:Bool} {w1:World}
 (hs:st.length = 416) (hr:rg.length = 44) (h:MB b w ρ lo hi dv tv cv xv rv nc code ρ1 bx mb es ec (mrow st x1 t1 d1 z1 cv' uv' bg rg sv at' steps done) cv' uv' w1) (r:Nat) (hr11:r < 11) (k t o x:Value) :
 MB b w ρ lo hi dv tv cv xv rv nc code ρ1 bx mb es ec (mrow st x1 t1 d1 z1 cv' uv' bg (regset rg r k t o x) sv at' steps done) cv' uv' ((((w1.setCell ⟨bx,423 + 4 * r,none⟩ k).setCell ⟨bx,423 + (4 * r + 1),none⟩ t).setCell ⟨bx,423 + (4 * r + 2),none⟩ o).setCell ⟨bx,423 + (4 * r + 3),none⟩ x):=by
 have h4:=(((h.set (423 + 4 * r) k).set (423 + (4 * r + 1)) t).set (423 + (4 * r + 2)) o).set (423 + (4 * r + 3)) x
 rw [mrow_rset hs hr _ _ _ _ _ _ _ _ _ _ _ _ (by omega),mrow_rset hs (by simp [hr]) _ _ _ _ _ _ _ _ _ _ _ _ (by omega),mrow_rset hs (by simp [hr]) _ _ _ _ _ _ _ _ _ _ _ _ (by omega),mrow_rset hs (by simp [hr]) _ _ _ _ _ _ _ _ _ _ _ _ (by omega)] at h4
 exact h4
theorem OwnS.set4 {w:World} {base size n:Nat} {ρ:Nat->Nat} {r:Nat} {e:TypeId} {v:Value} {xs:List Value} (h:OwnS w base ρ r e size v n xs) {bx:Nat} (hr:ρ bx ≠ r) (i0 i1 i2 i3:Nat) (x0 x1 x2 x3:Value) :
 OwnS ((((w.setCell ⟨bx,i0,none⟩ x0).setCell ⟨bx,i1,none⟩ x1).setCell ⟨bx,i2,none⟩ x2).setCell ⟨bx,i3,none⟩ x3) base ρ r e size v n xs:=(((h.set _ _ hr).set _ _ hr).set _ _ hr).set _ _ hr
theorem TabS.set4 {w:World} {base:Nat} {ρ:Nat->Nat} {tv':Value} {vals':List Value} {rows:List (List Int)} (h:TabS w base ρ tv' vals' rows) {bx:Nat} (hr:ρ bx < 10) (i0 i1 i2 i3:Nat) (x0 x1 x2 x3:Value) :
 TabS ((((w.setCell ⟨bx,i0,none⟩ x0).setCell ⟨bx,i1,none⟩ x1).setCell ⟨bx,i2,none⟩ x2).setCell ⟨bx,i3,none⟩ x3) base ρ tv' vals' rows:=(((h.set _ _ hr).set _ _ hr).set _ _ hr).set _ _ hr
theorem mnumber_of (x:Int) (w:World):Calls Tryz.prog 50 #[.int .i64 x] w (Ret w (.agg #[.int .i64 1,.int .i64 0,.int .i64 0,.int .i64 x])):=by
 go_enter Tryz.func50,Tryz.ntmps50
 go_wp2
 exact bodyPost_ret (v:=.agg #[.int .i64 1,.int .i64 0,.int .i64 0,.int .i64 x]) (by simp [results,Tryz.results50,go_sem]) rfl ⟨rfl,(Below.refl _ _).alloc (Nat.le_refl _) _⟩
def regc (l:List Val):List Value:=l.flatMap Val.cs
theorem regc_cons (v:Val) (l:List Val):regc (v :: l) = v.cs ++ regc l:=by unfold regc;rw [List.flatMap_cons]
theorem regc_len (l:List Val):(regc l).length = l.length * 4:=by
 induction l with
 | nil=>rfl
 | cons v l ih=>rw [regc_cons,List.length_append,ih];show 4 + _ = _;rw [List.length_cons];omega
theorem regc_get (l:List Val):∀ i (h:i < l.length) j,j < 4->(regc l)[i * 4 + j]? = (l[i].cs)[j]?:=by
 induction l with
 | nil=>intro i h;cases h
 | cons v l ih =>
   intro i h j hj
   rw [regc_cons]
   cases i with
   | zero=>rw [List.getElem?_append_left (by show _ < 4;omega),Nat.zero_mul,Nat.zero_add];rfl
   | succ i =>
     rw [List.getElem?_append_right (by show 4 <= _;omega)]
     show (regc l)[(i + 1) * 4 + j - 4]? = _
     rw [show (i + 1) * 4 + j - 4 = i * 4 + j by omega]
     exact ih i (by simpa using h) j hj
theorem regset_app (a c:List Value) (r:Nat) (v:Val) (k t o x:Value) (ha:a.length = 4 * r) :
 regset (a ++ v.cs ++ c) r k t o x = a ++ [k,t,o,x] ++ c:=by
 unfold regset
 have e:∀ (j:Nat) (p:List Value) (u:Value),p.length = 4->j < 4->(a ++ p ++ c).set (4 * r + j) u = a ++ p.set j u ++ c:=by
  intro j p u hp hj
  rw [List.append_assoc,List.set_append_right _ _ (by omega),ha,show 4 * r + j - 4 * r = j by omega,List.set_append_left _ _ (by omega),<- List.append_assoc]
 have e0:=e 0 v.cs k rfl (by decide)
 rw [Nat.add_zero] at e0
 rw [e0,e 1 _ t rfl (by decide),e 2 _ o rfl (by decide),e 3 _ x rfl (by decide)]
 rfl
theorem regc_app (l m:List Val):regc (l ++ m) = regc l ++ regc m:=by unfold regc;rw [List.flatMap_append]
theorem regc_set (l:List Val) (r:Nat) (h:r < l.length) (v:Val):regset (regc l) r (.int .i64 v.k) (.int .i64 v.t) (.int .i64 v.o) (.int .i64 v.x) = regc (l.set r v):=by
 have hl:l = l.take r ++ [l[r]] ++ l.drop (r + 1):=by simp
 have hs:l.set r v = l.take r ++ [v] ++ l.drop (r + 1):=by
  rw [List.set_eq_take_append_cons_drop,if_pos h,List.append_assoc];rfl
 rw [hs,regc_app,regc_app]
 conv=>lhs;rw [hl,regc_app,regc_app]
 have h1:∀ u:Val,regc [u] = u.cs:=fun u=>by unfold regc;simp
 rw [h1,h1]
 exact regset_app _ _ r _ _ _ _ _ (by rw [regc_len,List.length_take];omega)
structure Slot where
 p:Val
 b:List Int
 m:Int
def Slot.cs (s:Slot):List Value:=s.p.cs ++ (s.b.map (Value.int .u8) ++ [.int .i64 s.m])
def stc (l:List Slot):List Value:=l.flatMap Slot.cs
def noslot:Slot:=⟨noval,[0,0,0,0,0,0,0,0],0⟩
def SlotsOK (l:List Slot):Prop:=l.length = 32/\∀ x ∈ l,x.b.length = 8
theorem Slot.len {s:Slot} (h:s.b.length = 8):s.cs.length = 13:=by unfold Slot.cs Val.cs;simp [h]
theorem stc_cons (x:Slot) (l:List Slot):stc (x :: l) = x.cs ++ stc l:=by unfold stc;rw [List.flatMap_cons]
theorem stc_len:∀ (l:List Slot),(∀ x ∈ l,x.b.length = 8)->(stc l).length = l.length * 13
 | [],_=>rfl
 | x :: l,h=>by rw [stc_cons,List.length_append,Slot.len (h x (List.mem_cons_self ..)),stc_len l (fun y hy=>h y (List.mem_cons_of_mem _ hy)),List.length_cons];omega
theorem SlotsOK.len {l:List Slot} (h:SlotsOK l):(stc l).length = 416:=by rw [stc_len l h.2,h.1]
theorem slots_zero:SlotsOK (List.replicate 32 noslot):=⟨by simp,fun x hx=>by rw [List.eq_of_mem_replicate hx];rfl⟩
theorem stc_get:∀ (l:List Slot),(∀ x ∈ l,x.b.length = 8)->∀ i (h:i < l.length) j,j < 13->(stc l)[i * 13 + j]? = (l[i].cs)[j]?
 | [],_,i,h,_,_=>absurd h (by simp)
 | x :: l, hw, i, h, j, hj => by
   have hx:=Slot.len (hw x (List.mem_cons_self ..))
   rw [stc_cons]
   cases i with
   | zero=>rw [List.getElem?_append_left (by omega),Nat.zero_mul,Nat.zero_add];rfl
   | succ i =>
     rw [List.getElem?_append_right (by omega),hx,show (i + 1) * 13 + j - 13 = i * 13 + j by omega]
     exact stc_get l (fun y hy=>hw y (List.mem_cons_of_mem _ hy)) i (by simpa using h) j hj
theorem stc_set:∀ (l:List Slot),(∀ x ∈ l,x.b.length = 8)->∀ i (h:i < l.length) j,j < 13->∀ (v:Value) (x':Slot),(l[i].cs).set j v = x'.cs->(stc l).set (i * 13 + j) v = stc (l.set i x')
 | [],_,i,h,_,_,_,_,_=>absurd h (by simp)
 | x :: l, hw, i, h, j, hj, v, x', he => by
   have hx:=Slot.len (hw x (List.mem_cons_self ..))
   rw [stc_cons]
   cases i with
   | zero=>rw [List.set_append_left _ _ (by omega),Nat.zero_mul,Nat.zero_add,List.set_cons_zero,stc_cons];exact congrArg (· ++ stc l) he
   | succ i =>
     rw [List.set_append_right _ _ (by omega),hx,show (i + 1) * 13 + j - 13 = i * 13 + j by omega,List.set_cons_succ,stc_cons]
     exact congrArg (x.cs ++ ·) (stc_set l (fun y hy=>hw y (List.mem_cons_of_mem _ hy)) i (by simpa using h) j hj v x' he)
theorem SlotsOK.set {l:List Slot} (h:SlotsOK l) (i:Nat) {x:Slot} (hx:x.b.length = 8):SlotsOK (l.set i x):=
 ⟨by rw [List.length_set]; exact h.1, fun y hy => by
   rcases List.mem_or_eq_of_mem_set hy with h' | h'
   ·exact h.2 y h'
   ·rw [h'];exact hx⟩
structure Mst where
 sl:List Slot
 rg:List Val
 ctx:List Int
 rows:List (List Int)
 sent:List Int
 at':Nat
 steps:Int
 done:Bool
abbrev Mst.st (s:Mst):List Value:=stc s.sl
structure Mfix where
 data:List Int
 tabs:List (Int × Int)
 code:List Ins
structure Mvals where
 ρ:Nat->Nat
 mb:Nat
 xv:Value
 tv:Value
 dv:Value
 zv:Value
 cv:Value
 uv:Value
 sv:Value
 vals:List Value
def i64s (xs:List Int):List Value:=xs.map (Value.int .i64)
def cellsM (s:Mst) (v:Mvals):List Value:=mrow s.st v.xv v.tv v.dv v.zv v.cv v.uv (.map (some v.mb)) (regc s.rg) v.sv s.at' s.steps s.done
structure MS (base:Nat) (w0:World) (fx:Mfix) (s:Mst) (bx:Nat) (v:Mvals) (w:World):Prop where
 bel:Below base w0 w
 box:Row w bx 99 (cellsM s v)
 le:base <= bx
 rb:v.ρ bx = 0
 codeS:OwnS w base v.ρ 5 25 8 v.cv fx.code.length (codec fx.code)
 unitsS:OwnS w base v.ρ 6 3 1 v.uv (fx.code.length + 1) (ztab (fx.code.length + 1) fun k=>unitAt fx.code k)
 begin':MapS w base v.ρ 8 v.mb (bents fx.code fx.code.length) fx.code.length
 ctxS:OwnS w base v.ρ 1 5 1 v.xv s.ctx.length (u8s s.ctx)
 tabS:TabS w base v.ρ v.tv v.vals s.rows
 dataS:OwnS w base v.ρ 3 5 1 v.dv fx.data.length (u8s fx.data)
 sizeS:OwnS w base v.ρ 4 101 2 v.zv fx.tabs.length (tabc fx.tabs)
 sentS:OwnS w base v.ρ 7 3 1 v.sv s.sent.length (i64s s.sent)
 slw:SlotsOK s.sl
 rgl:s.rg.length = 11
theorem MS.stl {base:Nat} {w0:World} {fx:Mfix} {s:Mst} {bx:Nat} {v:Mvals} {w:World} (h:MS base w0 fx s bx v w):s.st.length = 416:=h.slw.len
theorem Mod.bel {w w':World} {bx base:Nat} (h:Mod w w' bx) {w0:World} (hb:Below base w0 w) (hB:base <= bx) (hx:bx < w.heap.size):Below base w0 w':=
 ⟨h.os.trans hb.os,h.tape.trans hb.tape,h.output.trans hb.output,Nat.le_trans hb.size h.size,fun k hk=>(h.block k (by omega) (by omega)).trans (hb.block k hk)⟩
theorem OwnS.mod {w w':World} {base size n:Nat} {ρ:Nat->Nat} {r bx:Nat} {e:TypeId} {v:Value} {xs:List Value} (h:OwnS w base ρ r e size v n xs) (hm:Mod w w' bx) (hr:ρ bx ≠ r):OwnS w' base ρ r e size v n xs:=
 h.move fun q hq hqr=>⟨hm.block q hq (fun hc=>hr (by rw [<- hc];exact hqr)),hqr⟩
theorem MapS.mod {w w':World} {base:Nat} {ρ:Nat->Nat} {r mb bx:Nat} {es:Array MapEntry} {c:Nat} (h:MapS w base ρ r mb es c) (hm:Mod w w' bx) (hr:ρ bx ≠ r):MapS w' base ρ r mb es c:=
 ⟨(hm.block mb h.lt (fun hc=>hr (by rw [<- hc];exact h.role))).trans h.at',h.le,h.role⟩
theorem TabS.mod {w w':World} {base:Nat} {ρ:Nat->Nat} {bx:Nat} {tv':Value} {vals':List Value} {rows:List (List Int)} (h:TabS w base ρ tv' vals' rows) (hm:Mod w w' bx) (hr:ρ bx < 10):TabS w' base ρ tv' vals' rows:=
 ⟨h.list.mod hm (by omega),fun k hk=>let ⟨u,hu,ho⟩:=h.item k hk;⟨u,hu,ho.mod hm (by omega)⟩⟩
theorem MS.mod {base:Nat} {w0:World} {fx:Mfix} {s:Mst} {bx:Nat} {v:Mvals} {w w':World} (h:MS base w0 fx s bx v w) (hm:Mod w w' bx) (sl:List Slot) (rg:List Val) (at':Nat) (steps:Int) (done:Bool)
 (hst:SlotsOK sl) (hrg:rg.length = 11) (hr:Row w' bx 99 (cellsM { s with sl:=sl,rg:=rg,at':=at',steps:=steps,done:=done } v)) :
 MS base w0 fx { s with sl:=sl,rg:=rg,at':=at',steps:=steps,done:=done } bx v w':=
 have h0:=h.rb
 ⟨hm.bel h.bel h.le h.box.lt,hr,h.le,h.rb,h.codeS.mod hm (by omega),h.unitsS.mod hm (by omega),h.begin'.mod hm (by omega),h.ctxS.mod hm (by omega),h.tabS.mod hm (by omega),h.dataS.mod hm (by omega),h.sizeS.mod hm (by omega),h.sentS.mod hm (by omega),hst,hrg⟩
theorem MS.same {base:Nat} {w0:World} {fx:Mfix} {s:Mst} {bx:Nat} {v:Mvals} {w w':World} (h:MS base w0 fx s bx v w) (hm:Mod w w' bx) (hr:Row w' bx 99 (cellsM s v)):MS base w0 fx s bx v w':=
 h.mod hm s.sl s.rg s.at' s.steps s.done h.slw h.rgl hr
theorem MS.next {base:Nat} {w0:World} {fx:Mfix} {s:Mst} {bx:Nat} {v:Mvals} {w w':World} (h:MS base w0 fx s bx v w) (hb:Below w.heap.size w w'):MS base w0 fx s bx v w':=
 h.same (Mod.of_below hb bx) (h.box.below hb h.box.lt)
theorem MS.reg {base:Nat} {w0:World} {fx:Mfix} {s:Mst} {bx:Nat} {v:Mvals} {w:World} (h:MS base w0 fx s bx v w) (r:Nat) (hr:r < 11) :
 w.cell? ⟨bx,423 + r * 4,none⟩ = some (.int .i64 (s.rg[r]'(by rw [h.rgl];exact hr)).k)/\w.cell? ⟨bx,423 + r * 4 + 1,none⟩ = some (.int .i64 (s.rg[r]'(by rw [h.rgl];exact hr)).t) /\
 w.cell? ⟨bx,423 + r * 4 + 2,none⟩ = some (.int .i64 (s.rg[r]'(by rw [h.rgl];exact hr)).o)/\w.cell? ⟨bx,423 + r * 4 + 3,none⟩ = some (.int .i64 (s.rg[r]'(by rw [h.rgl];exact hr)).x):=by
 have hl:(regc s.rg).length = 44:=by rw [regc_len,h.rgl]
 have hb:=h.box
 unfold cellsM at hb
 have hg:=regc_get s.rg r (by rw [h.rgl];exact hr)
 refine ⟨?_,?_,?_,?_⟩
 ·exact (mrow_reg h.stl hl hb (r * 4) (by omega)).trans (hg 0 (by decide))
 ·exact (mrow_reg h.stl hl hb (r * 4 + 1) (by omega)).trans (hg 1 (by decide))
 ·exact (mrow_reg h.stl hl hb (r * 4 + 2) (by omega)).trans (hg 2 (by decide))
 ·exact (mrow_reg h.stl hl hb (r * 4 + 3) (by omega)).trans (hg 3 (by decide))
theorem MS.box9 {base:Nat} {w0:World} {fx:Mfix} {s:Mst} {bx:Nat} {v:Mvals} {w:World} (h:MS base w0 fx s bx v w) (o:Obj):MS base w0 fx s bx { v with ρ:=newRole v.ρ w.heap.size 9 } (w.alloc o):=
 have hb:=(Below.refl w.heap.size w).alloc (Nat.le_refl _) o
 have hs:∀ q,q < w.heap.size->newRole v.ρ w.heap.size 9 q = v.ρ q:=newRole_same
 have hle:=h.le
 have hlt:=h.box.lt
 ⟨h.bel.trans (hb.mono (by omega)),h.box.below hb h.box.lt,h.le,(hs bx h.box.lt).trans h.rb,h.codeS.next hb hs,h.unitsS.next hb hs,h.begin'.next2 hb hs,h.ctxS.next hb hs,h.tabS.next hb hs,h.dataS.next hb hs,h.sizeS.next hb hs,h.sentS.next hb hs,h.slw,h.rgl⟩
def Fix9 (r:Nat):Prop:=r = 9\/(3 <= r/\r <= 6)\/r = 8
theorem fix_nine {r:Nat} (h:r = 9):Fix9 r:=Or.inl h
def Fr9 (ρ:Nat->Nat) (w w':World):Prop:=∀ k,k < w.heap.size->Fix9 (ρ k)->w'.heap[k]? = w.heap[k]?
theorem Fr9.of_mod {ρ:Nat->Nat} {w w':World} {bx:Nat} (h:Mod w w' bx) (hr:ρ bx = 0):Fr9 ρ w w':=fun k hk h9=>h.block k hk (fun hc=>by rw [hc,hr] at h9;unfold Fix9 at h9;omega)
theorem MS.regC {base:Nat} {w0:World} {fx:Mfix} {s:Mst} {bx:Nat} {v:Mvals} {w:World} (h:MS base w0 fx s bx v w) (r:Nat) (hr:r < 11):RegC (cellsM s v) r (s.rg[r]'(by rw [h.rgl];exact hr)):=by
 obtain ⟨h0,h1,h2,h3⟩:=h.reg r hr
 rw [h.box.cell] at h0 h1 h2 h3
 exact ⟨h0,h1,h2,h3⟩
theorem MS.len {base:Nat} {w0:World} {fx:Mfix} {s:Mst} {bx:Nat} {v:Mvals} {w:World} (h:MS base w0 fx s bx v w):(cellsM s v).length = 471:=by
 have hl:(regc s.rg).length = 44:=by rw [regc_len,h.rgl]
 unfold cellsM mrow
 simp only [List.length_append,List.length_cons,List.length_nil,hl,h.stl]
theorem MS.set4 {base:Nat} {w0:World} {fx:Mfix} {s:Mst} {bx:Nat} {v:Mvals} {w:World} (h:MS base w0 fx s bx v w) (d:Nat) (hd:d < 11) (u:Val) :
 set4 (cellsM s v) (423 + d * 4) (.int .i64 u.k) (.int .i64 u.t) (.int .i64 u.o) (.int .i64 u.x) = cellsM { s with rg:=s.rg.set d u } v:=by
 have hl:(regc s.rg).length = 44:=by rw [regc_len,h.rgl]
 unfold Proofs.YtdepknffpnnmmaaGreat.set4 cellsM
 simp only [Nat.add_assoc]
 rw [mrow_rset h.stl hl _ _ _ _ _ _ _ _ _ _ _ _ (by omega),mrow_rset h.stl (by simp [hl]) _ _ _ _ _ _ _ _ _ _ _ _ (by omega),mrow_rset h.stl (by simp [hl]) _ _ _ _ _ _ _ _ _ _ _ _ (by omega),mrow_rset h.stl (by simp [hl]) _ _ _ _ _ _ _ _ _ _ _ _ (by omega)]
 have:=regc_set s.rg d (by rw [h.rgl];exact hd) u
 unfold regset at this
 rw [Nat.mul_comm 4 d] at this
 rw [this]
def Ins.agg (i:Ins):Value:=.agg #[.int .i64 i.op,.bool i.nar,.bool i.reg,.int .i64 i.size,.int .i64 i.dst,.int .i64 i.src,.int .i64 i.off,.int .i64 i.imm]
def DoR (F:FuncId) (fx:Mfix) (s:Mst) (i:Ins) (by' er:Int) (s1:Mst):Prop:=
 ∀ (base : Nat) (w0 : World) (bx : Nat) (v : Mvals) (w : World), MS base w0 fx s bx v w → Calls Tryz.prog F #[.pointer (some ⟨bx, 0, none⟩), i.agg] w fun e w' =>
   e = .returned (.tuple #[.int .i64 by',.int .i64 er])/\∃ v',MS base w0 fx s1 bx v' w'/\Fr9 v.ρ w w'/\∀ k,k < w.heap.size->v'.ρ k = v.ρ k
theorem do_set {F:FuncId} {fx:Mfix} {s:Mst} {i:Ins} {by' er:Int} (d:Nat) (hd:d < 11) (u:Val)
 (h : ∀ (bx : Nat) (cs : List Value) (w : World), cs.length = 471 → (∀ r (hr : r < 11) (hl : s.rg.length = 11), RegC cs r (s.rg[r]'(by rw [hl]; exact hr))) → s.rg.length = 11 → Row w bx 99 cs →
   Calls Tryz.prog F #[.pointer (some ⟨bx,0,none⟩),i.agg] w (Wrote w bx (Proofs.YtdepknffpnnmmaaGreat.set4 cs (423 + d * 4) (.int .i64 u.k) (.int .i64 u.t) (.int .i64 u.o) (.int .i64 u.x)) by' er)) :
 DoR F fx s i by' er { s with rg:=s.rg.set d u }:=by
 intro base w0 bx v w hM
 refine (h bx (cellsM s v) w hM.len (fun r hr hl=>hM.regC r hr) hM.rgl hM.box).mono ?_
 rintro e w' ⟨rfl,hm,hr⟩
 refine ⟨rfl,v,?_,Fr9.of_mod hm hM.rb,fun _ _=>rfl⟩
 rw [hM.set4 d hd u] at hr
 exact hM.mod hm s.sl (s.rg.set d u) s.at' s.steps s.done hM.slw (by rw [List.length_set];exact hM.rgl) hr
theorem do_same {F:FuncId} {fx:Mfix} {s:Mst} {i:Ins} {by' er:Int}
 (h : ∀ (bx : Nat) (cs : List Value) (w : World), cs.length = 471 → (∀ r (hr : r < 11) (hl : s.rg.length = 11), RegC cs r (s.rg[r]'(by rw [hl]; exact hr))) → s.rg.length = 11 → Row w bx 99 cs →
   Calls Tryz.prog F #[.pointer (some ⟨bx,0,none⟩),i.agg] w (Wrote w bx cs by' er)) :
 DoR F fx s i by' er s:=by
 intro base w0 bx v w hM
 refine (h bx (cellsM s v) w hM.len (fun r hr hl=>hM.regC r hr) hM.rgl hM.box).mono ?_
 rintro e w' ⟨rfl,hm,hr⟩
 exact ⟨rfl,v,hM.same hm hr,Fr9.of_mod hm hM.rb,fun _ _=>rfl⟩
theorem do_done {F:FuncId} {fx:Mfix} {s:Mst} {i:Ins} {by' er:Int}
 (h : ∀ (bx : Nat) (cs : List Value) (w : World), cs.length = 471 → (∀ r (hr : r < 11) (hl : s.rg.length = 11), RegC cs r (s.rg[r]'(by rw [hl]; exact hr))) → s.rg.length = 11 → Row w bx 99 cs →
   Calls Tryz.prog F #[.pointer (some ⟨bx,0,none⟩),i.agg] w (Wrote w bx (cs.set 470 (.bool true)) by' er)) :
 DoR F fx s i by' er { s with done:=true }:=by
 intro base w0 bx v w hM
 refine (h bx (cellsM s v) w hM.len (fun r hr hl=>hM.regC r hr) hM.rgl hM.box).mono ?_
 rintro e w' ⟨rfl,hm,hr⟩
 refine ⟨rfl,v,?_,Fr9.of_mod hm hM.rb,fun _ _=>rfl⟩
 have hl:(regc s.rg).length = 44:=by rw [regc_len,hM.rgl]
 have hc:(cellsM s v).set 470 (.bool true) = cellsM { s with done:=true } v:=by
  unfold cellsM mrow
  rw [List.set_append_right _ _ (by rw [hM.stl];decide),hM.stl,List.set_append_right _ _ (by simp),List.set_append_right _ _ (by simp [hl])]
  simp [hl]
 rw [hc] at hr
 exact hM.mod hm s.sl s.rg s.at' s.steps true hM.slw hM.rgl hr
theorem mrow_tail {w:World} {b:Nat} {e:TypeId} {st rg:List Value} {xv tv dv zv cv uv bg sv:Value} {at' steps:Int} {done:Bool} (hs:st.length = 416) (hl:rg.length = 44) (h:Row w b e (mrow st xv tv dv zv cv uv bg rg sv at' steps done)) :
 w.cell? ⟨b,467,none⟩ = some sv/\w.cell? ⟨b,468,none⟩ = some (.int .i64 at')/\w.cell? ⟨b,469,none⟩ = some (.int .i64 steps)/\w.cell? ⟨b,470,none⟩ = some (.bool done):=by
 unfold mrow at h
 refine ⟨?_,?_,?_,?_⟩ <;> (rw [h.cell,List.getElem?_append_right (by omega),hs,List.getElem?_append_right (by simp),List.getElem?_append_right (by simp [hl])];simp [hl])
theorem mrow_setat {st rg:List Value} (hs:st.length = 416) (hl:rg.length = 44) (xv tv dv zv cv uv bg sv:Value) (at' steps:Int) (done:Bool) (x:Int):(mrow st xv tv dv zv cv uv bg rg sv at' steps done).set 468 (.int .i64 x) = mrow st xv tv dv zv cv uv bg rg sv x steps done:=by
 unfold mrow
 rw [List.set_append_right _ _ (by rw [hs];decide),hs,List.set_append_right _ _ (by simp),List.set_append_right _ _ (by simp [hl])]
 simp [hl]
theorem mrow_setsteps {st rg:List Value} (hs:st.length = 416) (hl:rg.length = 44) (xv tv dv zv cv uv bg sv:Value) (at' steps:Int) (done:Bool) (x:Int):(mrow st xv tv dv zv cv uv bg rg sv at' steps done).set 469 (.int .i64 x) = mrow st xv tv dv zv cv uv bg rg sv at' x done:=by
 unfold mrow
 rw [List.set_append_right _ _ (by rw [hs];decide),hs,List.set_append_right _ _ (by simp),List.set_append_right _ _ (by simp [hl])]
 simp [hl]
section
variable {base:Nat} {w0:World} {fx:Mfix} {s:Mst} {bx:Nat} {v:Mvals} {w:World}
theorem MS.rl (h:MS base w0 fx s bx v w):(regc s.rg).length = 44:=by rw [regc_len,h.rgl]
theorem MS.tail (h:MS base w0 fx s bx v w):w.cell? ⟨bx,467,none⟩ = some v.sv/\w.cell? ⟨bx,468,none⟩ = some (.int .i64 s.at')/\w.cell? ⟨bx,469,none⟩ = some (.int .i64 s.steps)/\w.cell? ⟨bx,470,none⟩ = some (.bool s.done):=mrow_tail h.stl h.rl h.box
theorem MS.heads (h:MS base w0 fx s bx v w):w.cell? ⟨bx,416,none⟩ = some v.xv/\w.cell? ⟨bx,417,none⟩ = some v.tv/\w.cell? ⟨bx,418,none⟩ = some v.dv/\w.cell? ⟨bx,419,none⟩ = some v.zv/\w.cell? ⟨bx,420,none⟩ = some v.cv/\w.cell? ⟨bx,421,none⟩ = some v.uv/\w.cell? ⟨bx,422,none⟩ = some (.map (some v.mb)):=mrow_heads h.stl h.box
theorem MS.setAt (h:MS base w0 fx s bx v w) (x:Nat):MS base w0 fx { s with at':=x } bx v (w.setCell ⟨bx,468,none⟩ (.int .i64 x)):=by
 have hr:=h.box.put 468 (.int .i64 x)
 unfold cellsM at hr
 rw [mrow_setat h.stl h.rl] at hr
 exact h.mod ((Mod.refl w bx).set 468 _) s.sl s.rg x s.steps s.done h.slw h.rgl hr
theorem MS.setSteps (h:MS base w0 fx s bx v w) (x:Int):MS base w0 fx { s with steps:=x } bx v (w.setCell ⟨bx,469,none⟩ (.int .i64 x)):=by
 have hr:=h.box.put 469 (.int .i64 x)
 unfold cellsM at hr
 rw [mrow_setsteps h.stl h.rl] at hr
 exact h.mod ((Mod.refl w bx).set 469 _) s.sl s.rg s.at' x s.done h.slw h.rgl hr
theorem MS.codeAt (h:MS base w0 fx s bx v w) (k:Nat) (hk:k < fx.code.length):∃ g c,v.cv = .slice (some ⟨g,0,none⟩) fx.code.length c/\∀ j,j < 8->w.cell? ⟨g,k * 8 + j,none⟩ = ((fx.code[k]).cs)[j]?:=by
 obtain ⟨g,c,hv⟩:=own_some h.codeS.1 (by omega)
 refine ⟨g,c,hv,fun j hj=>?_⟩
 have hh:=h.codeS.1
 rw [hv] at hh
 rw [hh.cellAt (k * 8 + j) (by omega)]
 exact codec_get _ k hk j hj
theorem MS.unitsAt (h:MS base w0 fx s bx v w) (k:Nat) (hk:k <= fx.code.length):∃ g c,v.uv = .slice (some ⟨g,0,none⟩) (fx.code.length + 1) c/\w.cell? ⟨g,k,none⟩ = some (.int .i64 (unitAt fx.code k:Nat)):=by
 obtain ⟨g,c,hv⟩:=own_some h.unitsS.1 (by omega)
 refine ⟨g,c,hv,?_⟩
 have hh:=h.unitsS.1
 rw [hv] at hh
 rw [hh.cellAt k (by omega),ztab_get _ (by omega)]
end
end Go.Proofs.YtdepknffpnnmmaaGreat
