import Derived.Test.YtjacnhnaoenelaaGreatQMachE
import Derived.Lib.SliceRun
import Derived.Test.YtjacnhnaoenelaaGreatQJ2a
set_option maxRecDepth 100000
set_option maxHeartbeats 16000000
namespace Go.Proofs.YtjacnhnaoenelaaGreat
open Lib (hid)
open Go.Proofs.Tryz
open Go.RowKit
set_option linter.unusedVariables false
structure Ins where
 op:Int
 Ad:Bool
 reg:Bool
 size:Int
 dst:Int
 src:Int
 off:Int
 Aa:Int
def Ins.cs (i:Ins):List Value:=Ed i.op i.Ad i.reg i.size i.dst i.src i.off i.Aa
def Ins.right (i:Ins):Int:=Ry (Cb i.op i.Ad i.reg i.size) (Dx i.op) (Dy i.op i.reg) (D5 i.op i.Ad) (Dt i.op i.Ad i.reg) (Bv i.op i.Ad i.Aa) (En i.dst (Fb i.op)) (En i.src (Du i.op i.Aa)) i.dst i.src i.off i.Aa
def Reads (w:World) (size:Nat) (v:Value) (n:Nat) (cs:List Value):Prop:=
 cs.length = n * size/\(∀ u ∈ cs,u.oneCell' = true)/\((n = 0/\∃ a cap,v = .slice a 0 cap/\cap <= maxLen)\/(0 < n/\∃ b off cap,v = .slice (some ⟨b,off,none⟩) n cap/\b < w.heap.size/\cap <= maxLen/\n <= cap/\∀ j u,cs[j]? = some u->w.cell? ⟨b,off + j,none⟩ = some u))
theorem Reads.below {w w':World} {size:Nat} {v:Value} {n:Nat} {cs:List Value} {B:Nat} (h:Reads w size v n cs) (hb:Below B w w') (hB:w.heap.size <= B):Reads w' size v n cs:=by
 obtain ⟨hl,h1,h | ⟨hp,b,off,cap,rfl,hlt,hm,hc,hcell⟩⟩:=h
 ·exact ⟨hl,h1,Or.inl h⟩
 ·exact ⟨hl,h1,Or.inr ⟨hp,b,off,cap,rfl,Nat.lt_of_lt_of_le hlt hb.size,hm,hc,fun j u hj=>(hb.cell (p:=⟨b,off + j,none⟩) (show b < B by omega)).trans (hcell j u hj)⟩⟩
theorem Gl {w:World} {base size n:Nat} {e:TypeId} {v:Value} {cs:List Value} (h:w.ownsRow base e size v n cs) (h1:∀ u ∈ cs,u.oneCell' = true) (hs:0 < size):Reads w size v n cs:=by
 have h0:=h;obtain ⟨hl,⟨rfl,rfl⟩ | ⟨g,cap,cur,rfl,hb,hg,hc,hm,hz,ht⟩⟩:=h
 ·exact ⟨hl,h1,Or.inl ⟨rfl,_,_,rfl,Nat.zero_le _⟩⟩
 ·by_cases hn:n = 0
  ·subst hn;exact ⟨hl,h1,Or.inl ⟨rfl,_,_,rfl,hm⟩⟩
  ·refine ⟨hl,h1,Or.inr ⟨by omega,g,0,cap,rfl,lt_of_block hg,hm,hc,fun j u hj=>?_⟩⟩
   have hjl:j < n * size:=by
    by_cases hh:j < cs.length
    ·omega
    ·rw [List.getElem?_eq_none (by omega)] at hj;cases hj
   rw [Nat.zero_add,h0.cellAt j hjl];exact hj
theorem Ins.jq (i:Ins):i.cs.length = 8:=rfl
theorem Ins.Awl (i:Ins):∀ u ∈ i.cs,u.oneCell' = true:=by
 intro u hu;simp only [Ins.cs,Ed,List.mem_cons,List.not_mem_nil,or_false] at hu
 rcases hu with rfl | rfl | rfl | rfl | rfl | rfl | rfl | rfl <;> rfl
def Dj (l:List Ins):List Value:=l.flatMap Ins.cs
theorem G5 (l:List Ins):(Dj l).length = l.length * 8:=by
 induction l with
 | nil=>rfl
 | cons x l ih=>unfold Dj at ih ⊢;rw [List.flatMap_cons,List.length_append,ih,Ins.jq,List.length_cons];omega
theorem Ut (l:List Ins):∀ u ∈ Dj l,u.oneCell' = true:=by
 intro u hu;obtain ⟨x,_,hx⟩:=List.mem_flatMap.1 hu;exact x.Awl u hx
theorem I5 (l:List Ins):∀ i (h:i < l.length) j,j < 8->(Dj l)[i * 8 + j]? = (l[i].cs)[j]?:=by
 induction l with
 | nil=>intro i h;cases h
 | cons x l ih =>
   intro i h j hj;have hc:Dj (x :: l) = x.cs ++ Dj l:=by unfold Dj;rw [List.flatMap_cons]
   rw [hc]
   cases i with
   | zero=>rw [List.getElem?_append_left (by rw [Ins.jq];omega),Nat.zero_mul,Nat.zero_add];rfl
   | succ i =>
     rw [List.getElem?_append_right (by rw [Ins.jq];omega),Ins.jq,show (i + 1) * 8 + j - 8 = i * 8 + j by omega];exact ih i (by simpa using h) j hj
def Fa (w:World) (v:Value) (l:List Ins):Prop:=Reads w 8 v l.length (Dj l)
theorem Fa.below {w w':World} {v:Value} {l:List Ins} {B:Nat} (h:Fa w v l) (hb:Below B w w') (hB:w.heap.size <= B):Fa w' v l:=Reads.below h hb hB
theorem Fa.open {w:World} {v:Value} {l:List Ins} (h:Fa w v l):∃ a cap,v = .slice a l.length cap/\∀ i (h:i < l.length),∃ b off,a = some ⟨b,off,none⟩/\b < w.heap.size /\
 ∀ j,j < 8->w.cell? ⟨b,off + i * 8 + j,none⟩ = (l[i].cs)[j]?:=by
 obtain ⟨hl,h1,⟨hz,a,cap,rfl,hm⟩ | ⟨hp,b,off,cap,rfl,hlt,hm,hc,hcell⟩⟩:=h
 ·exact ⟨a,cap,by rw [hz],fun i hi=>absurd hi (by omega)⟩
 ·refine ⟨_,cap,rfl,fun i hi=>⟨b,off,rfl,hlt,fun j hj=>?_⟩⟩;have hg:=I5 l i hi j hj;have hjl:j < (l[i].cs).length:=by rw [Ins.jq];exact hj
  rw [List.getElem?_eq_getElem hjl] at hg ⊢;have:=hcell _ _ hg;rw [<- Nat.add_assoc] at this;exact this
def jr (l:List Ins):Prop:=l.length <= 4096/\∀ i (h:i < l.length),l[i].right = 0
theorem Ap1 (v:Value) (l:List Ins) (hl:l.length <= 4611686018427387903) (w:World) (h:Fa w v l) :
 Calls prog 50 #[v] w fun e w'=>∃ at' er,e = .returned (.tuple #[.int .i64 at',.int .i64 er])/\(er = 0 ↔ jr l)/\Below w.heap.size w w':=by
 obtain ⟨a,cap,rfl,hc⟩:=h.open;obtain ⟨n,hn⟩:∃ n,n = l.length:=⟨_,rfl⟩;rw [<- hn] at hl ⊢;have HC:=hid hc;have HN:=hid hn;clear hc hn h;go_enter func50,ntmps50;go_wp2
 go_loopw [9] (fun s wr=>∃ i:Nat,i <= n/\s = .int .i64 i/\Below w.heap.size w wr/\i <= 4096/\∀ k (h:k < l.length),k < i->l[k].right = 0) (fun s _=>n - (intOf s).toNat)
 case atStart=>exact ⟨0,Nat.zero_le _,rfl,Below.refl _ _,by decide,fun k _ hk=>absurd hk (by omega)⟩
 case round=>
  obtain ⟨i,hi,rfl,hB,hi4,hr⟩:=hrel;have HB:=hid hB;have HR:=hid hr;clear hB hr
  by_cases hlt:i < n
  ·obtain ⟨b,off,rfl,hb,hcell⟩:=HC.out i (by rw [<- HN.out];exact hlt);obtain ⟨x,hx⟩:∃ x,x = l[i]'(by rw [<- HN.out];exact hlt):=⟨_,rfl⟩;rw [<- hx] at hcell;have hcw:∀ j,j < 8->wr.cell? ⟨b,off + i * 8 + j,none⟩ = (x.cs)[j]?:=fun j hj=>(HB.out.cell (p:=⟨b,off + i * 8 + j,none⟩) hb).trans (hcell j hj);have e0:=hcw 0 (by decide);have e1:=hcw 1 (by decide);have e2:=hcw 2 (by decide);have e3:=hcw 3 (by decide);have e4:=hcw 4 (by decide);have e5:=hcw 5 (by decide);have e6:=hcw 6 (by decide);have e7:=hcw 7 (by decide);obtain ⟨op,Ad,reg,size,dst,src,of,Aa⟩:=x;simp only [Ins.cs,Ed,List.getElem?_cons_zero,List.getElem?_cons_succ,Nat.add_zero] at e0 e1 e2 e3 e4 e5 e6 e7;have HX:=hid hx;clear hcell hcw hx;have hj1:(0:Int) <= (i:Int):=by omega
   have hj3:(i:Int) < n:=by omega
   by_cases h4:i = 4096
   ·have h5:((i:Int) == 4096) = true:=by simp [h4]
    have H4:=hid h4;clear h4;have HB2:=hid (HB.out.alloc HB.out.size (.cells #[.int .i64 op,.bool Ad,.bool reg,.int .i64 size,.int .i64 dst,.int .i64 src,.int .i64 of,.int .i64 Aa] 70));go_wp2;exact bodyPost_ret (v:=.tuple #[.int .i64 i,.int .i64 25]) (by simp [results,results50,go_sem]) rfl ⟨_,_,rfl,⟨fun h=>absurd h (by decide),fun h=>absurd h.1 (by have:=HN.out;have:=H4.out;omega)⟩,HB2.out⟩
   ·have h5:((i:Int) == 4096) = false:=by simp;omega
    have H4:=hid h4;clear h4;have HB2:=hid (HB.out.alloc HB.out.size (.cells #[.int .i64 op,.bool Ad,.bool reg,.int .i64 size,.int .i64 dst,.int .i64 src,.int .i64 of,.int .i64 Aa] 70));have hri:=fun w=>Ao9 op Ad reg size dst src of Aa w;have hxr:(l[i]'(by rw [<- HN.out];exact hlt)).right = Ry (Cb op Ad reg size) (Dx op) (Dy op reg) (D5 op Ad) (Dt op Ad reg) (Bv op Ad Aa) (En dst (Fb op)) (En src (Du op Aa)) dst src of Aa:=by rw [<- HX.out];rfl
    obtain ⟨R,hR⟩:∃ R,Ry (Cb op Ad reg size) (Dx op) (Dy op reg) (D5 op Ad) (Dt op Ad reg) (Bv op Ad Aa) (En dst (Fb op)) (En src (Du op Aa)) dst src of Aa = R:=⟨_,rfl⟩;rw [hR] at hri hxr;have HRI:=hid hri;have HXR:=hid hxr;clear hri hxr hR;go_wp2_with fail;refine (HRI.out _).mono ?_;rintro e w2 ⟨rfl,hB⟩;have HB3:=hid (HB2.out.trans (hB.mono HB2.out.size));clear hB e0 e1 e2 e3 e4 e5 e6 e7
    by_cases hz:R = 0
    ·have h6:(R != 0) = false:=by simp [hz]
     have HZ:=hid hz;clear hz;go_wp2
     go_roundw
     case rel=>
      exact ⟨i + 1,hlt,by go_num,HB3.out,by have:=H4.out;have:=HB3.out;omega,fun k hk hki=>by
       by_cases hke:k = i
       ·subst hke;rw [HXR.out,HZ.out]
       ·exact HR.out k hk (by omega)⟩
     case measure=>simp [intOf];omega
    ·have h6:(R != 0) = true:=by simp [hz]
     have HZ:=hid hz;clear hz;go_wp2
     exact bodyPost_ret (v:=.tuple #[.int .i64 i,.int .i64 R]) (by simp [results,results50,go_sem]) rfl ⟨_,_,rfl,⟨fun h=>absurd h HZ.out,fun h=>by
      have:=h.2 i (by rw [<- HN.out];exact hlt);rw [HXR.out] at this;exact this⟩,HB3.out⟩
  ·obtain rfl:i = n:=by omega
   go_wp2;exact bodyPost_ret (v:=.tuple #[.int .i64 0,.int .i64 0]) (by simp [results,results50,go_sem]) rfl ⟨_,_,rfl,⟨fun _=>⟨by rw [<- HN.out];exact hi4,fun k hk=>HR.out k hk (by rw [HN.out];exact hk)⟩,fun _=>rfl⟩,HB.out⟩
set_option linter.unusedSimpArgs false
def S9 (op:Int):Bool:=op == 20 || op == 21
theorem Am3 (op:Int) (w:World):Calls prog 51 #[.int .i64 op] w (Told w (.bool (S9 op))):=by
 have hc:op = 20\/op = 21\/(op ≠ 20/\op ≠ 21):=by omega
 rcases hc with rfl | rfl | ⟨h0,h1⟩
 ·rw [show S9 20 = true by decide];go_enter func51,ntmps51;go_wp2;go_ret
  exact ⟨rfl,rfl⟩
 ·rw [show S9 21 = true by decide];go_enter func51,ntmps51;go_wp2;go_ret
  exact ⟨rfl,rfl⟩
 ·rw [show S9 op = false by simp [S9,h0,h1]];have t0:(op == 20) = false:=by simpa using h0
  have t1:(op == 21) = false:=by simpa using h1
  go_enter func51,ntmps51;go_wp2;go_ret
  exact ⟨rfl,rfl⟩
def Bl (l:List Ins):Nat->Nat
 | 0=>0
 | k + 1=>Bl l k + (if S9 ((l.map Ins.op).getD k 0) then 2 else 1)
theorem Yg (l:List Ins):∀ k,Bl l k <= 2 * k
 | 0=>Nat.le_refl _
 | k + 1=>by have:=Yg l k;unfold Bl;split <;> omega
def Ws (n:Nat) (f:Nat->Int):List Value:=(List.range n).map fun i=>.int .i64 (f i)
theorem Aax (n:Nat) (f:Nat->Int):Ws n f ++ [.int .i64 (f n)] = Ws (n + 1) f:=by simp [Ws,List.range_succ]
theorem Aem {n i:Nat} (f:Nat->Int) (h:i < n):(Ws n f)[i]? = some (.int .i64 (f i)):=by simp [Ws,h]
theorem Ap2:(prog.info? 3).map (fun i=>(i.zero,i.size,i.bytes)) = some (some (.int .i64 0),1,8):=by kernel_rfl
theorem Gx {P:Program} {e:TypeId} {z:Value} {s b:Nat} (h:(P.info? e).map (fun i=>(i.zero,i.size,i.bytes)) = some (some z,s,b)):∃ i,P.info? e = some i/\i.zero = some z/\i.size = s/\i.bytes = b:=by
 cases hi:P.info? e with
 | none=>rw [hi] at h;cases h
 | some i=>rw [hi] at h;simp at h;exact ⟨i,rfl,h.1,h.2.1,h.2.2⟩
theorem Dn {w w':World} {base B:Nat} {e:TypeId} {s:Nat} {v:Value} {n:Nat} {xs:List Value} (h:w.ownsRow base e s v n xs) (hb:Below B w w') (hB:w.heap.size <= B):w'.ownsRow base e s v n xs:=by
 rcases h with ⟨hl,hz | ⟨g',cap',cur,rfl,hb',hgg,rest⟩⟩
 ·exact ⟨hl,Or.inl hz⟩
 ·exact ⟨hl,Or.inr ⟨g',cap',cur,rfl,hb',by rw [hb.block g' (Nat.lt_of_lt_of_le (Array.getElem?_eq_some_iff.1 hgg).1 hB)];exact hgg,rest⟩⟩
theorem Ap3 (v:Value) (l:List Ins) (hl:l.length <= 4096) (w:World) (h:Fa w v l) :
 Calls prog 31 #[v] w fun e w'=>∃ v',e = .returned v'/\w'.ownsRow w.heap.size 3 1 v' (l.length + 1) (Ws (l.length + 1) fun k=>Bl l k)/\Below w.heap.size w w':=by
 obtain ⟨i0,hi0,hz0,hz1,hz2⟩:=Gx Ap2;obtain ⟨a,cap,rfl,hc⟩:=h.open;obtain ⟨n,hn⟩:∃ n,n = l.length:=⟨_,rfl⟩;rw [<- hn] at hl ⊢;have HC:=hid hc;have HN:=hid hn;clear hc hn h;have ho0:=hid (World.ownsRow_lit (e:=3) (size:=1) (base:=w.heap.size) w #[.int .i64 0] 1 nl (by decide) rfl);have hB0:=hid ((Below.refl w.heap.size w).alloc nl (.cells #[.int .i64 0] 3));go_enter func31,ntmps31;go_wp2
 go_loopw [3,4,10] (fun s3 s4 s wr=>∃ i:Nat,i <= n/\s = .int .i64 i/\s4 = .int .i64 (Bl l i:Nat)/\wr.ownsRow w.heap.size 3 1 s3 (i + 1) (Ws (i + 1) fun k=>Bl l k)/\Below w.heap.size w wr) (fun _ _ s _=>n - (intOf s).toNat)
 case atStart=>exact ⟨0,Nat.zero_le _,rfl,rfl,ho0.out,hB0.out⟩
 case round=>
  obtain ⟨i,hi,rfl,rfl,hO,hB⟩:=hrel;have HB:=hid hB;have HO:=hid hO;clear hB hO
  by_cases hlt:i < n
  ·obtain ⟨b,off,rfl,hb,hcell⟩:=HC.out i (by rw [<- HN.out];exact hlt);obtain ⟨x,hx⟩:∃ x,x = l[i]'(by rw [<- HN.out];exact hlt):=⟨_,rfl⟩;rw [<- hx] at hcell;have hcw:∀ j,j < 8->wr.cell? ⟨b,off + i * 8 + j,none⟩ = (x.cs)[j]?:=fun j hj=>(HB.out.cell (p:=⟨b,off + i * 8 + j,none⟩) hb).trans (hcell j hj);have e0:=hcw 0 (by decide);have e1:=hcw 1 (by decide);have e2:=hcw 2 (by decide);have e3:=hcw 3 (by decide);have e4:=hcw 4 (by decide);have e5:=hcw 5 (by decide);have e6:=hcw 6 (by decide);have e7:=hcw 7 (by decide)
   have hun:Bl l (i + 1) = Bl l i + (if S9 x.op then 2 else 1):=by
    have:(l.map Ins.op).getD i 0 = x.op:=by rw [hx];simp [List.getD,show i < l.length by rw [<- HN.out];exact hlt]
    show Bl l i + _ = _;rw [this]
   have hul:=Yg l i;obtain ⟨op,Ad,reg,size,dst,src,of,Aa⟩:=x;simp only [Ins.cs,Ed,List.getElem?_cons_zero,List.getElem?_cons_succ,Nat.add_zero] at e0 e1 e2 e3 e4 e5 e6 e7;obtain ⟨U,hU⟩:∃ U,U = Bl l i:=⟨_,rfl⟩;rw [<- hU] at hun hul;have HU:=hid hU;have HUN:=hid hun;clear hcell hcw hx hun;rw [<- hU];clear hU;have hj1:(0:Int) <= (i:Int):=by omega
   have hj3:(i:Int) < n:=by omega
   go_wp2_with fail;refine (Am3 _ _).mono ?_;rintro e w2 ⟨rfl,rfl⟩;have OB:=fun (m:Int)=>Obj.cells #[.int .i64 m] 3;have hbb:Below w.heap.size w (wr.alloc (.cells #[.int .i64 op,.bool Ad,.bool reg,.int .i64 size,.int .i64 dst,.int .i64 src,.int .i64 of,.int .i64 Aa] 70)):=HB.out.alloc HB.out.size _;have hoo:=Dn HO.out ((Below.refl wr.heap.size wr).alloc nl (.cells #[.int .i64 op,.bool Ad,.bool reg,.int .i64 size,.int .i64 dst,.int .i64 src,.int .i64 of,.int .i64 Aa] 70)) nl;have HBB:=hid hbb;have HOO:=hid hoo;clear hbb hoo OB;obtain ⟨d,hd⟩:∃ d,S9 op = d:=⟨_,rfl⟩;rw [hd];have Ze:=HUN.out;simp only [hd] at Ze;have HUM:=hid Ze;clear Ze hd HUN e0 e1 e2 e3 e4 e5 e6 e7;generalize wr.alloc (.cells #[.int .i64 op,.bool Ad,.bool reg,.int .i64 size,.int .i64 dst,.int .i64 src,.int .i64 of,.int .i64 Aa] 70) = w2 at HBB HOO ⊢
   cases d
   ·have hm:(((U:Int) + 1):Int) = ((Bl l (i + 1):Nat):Int):=by have:=HUM.out;simp only [Bool.false_eq_true,if_true,if_false] at this;omega
    have HM:=hid hm;clear hm;have hbc:=HBB.out.alloc HBB.out.size (.cells #[.int .i64 ((U:Int) + 1)] 3);have hoc:=Dn HOO.out ((Below.refl w2.heap.size w2).alloc nl (.cells #[.int .i64 ((U:Int) + 1)] 3)) nl;have hcn:(w2.alloc (.cells #[.int .i64 ((U:Int) + 1)] 3)).cell? ⟨w2.heap.size,0,none⟩ = some (.int .i64 ((U:Int) + 1)):=by rw [(Row.made w2 [.int .i64 ((U:Int) + 1)] 3).cell];rfl
    have hnews:∀ (j:Nat) (u:Value),[(.int .i64 ((U:Int) + 1):Value)][j]? = some u->(w2.alloc (.cells #[.int .i64 ((U:Int) + 1)] 3)).cell? ((⟨w2.heap.size,0,none⟩:Addr).add j) = some u:=by
     intro j u hu
     have hj:j = 0:=by cases j with
      | zero=>rfl
      | succ j=>simp at hu
     subst hj;simp at hu;rw [<- hu];exact hcn
    have hone:∀ u ∈ [(.int .i64 ((U:Int) + 1):Value)],u.oneCell' = true:=by
     intro u hu;simp at hu;subst hu;rfl
    have HBC:=hid hbc;have HOC:=hid hoc;have Lp:w.heap.size <= (w2.alloc (.cells #[.int .i64 ((U:Int) + 1)] 3)).heap.size:=hbc.size;have Ru:=hid Lp;clear hbc hoc Lp hcn;have hk1:i + 1 + 1 <= maxLen:=by unfold maxLen;omega
    have hk2:(i + 1 + 1) * 8 <= 140737488355328:=by omega
    go_wp2_with (at_builtin;refine wpList_append_own _ rfl (.tmp 21) (.tmp 23) 50 rfl w.heap.size 3 i0 (.int .i64 0) 1 8 underlying50 hi0 hz0 hz1 hz2 rfl (by decide) u3 (i + 1) _ rfl HOC.out ⟨w2.heap.size,0,none⟩ 1 1 [.int .i64 ((U:Int) + 1)] rfl rfl hnews hone hk1 hk2 Ru.out ?_;intro v1 w3 hown hgrow _);have hB2:Below w.heap.size w w3:=Below.grown HBC.out hgrow Ru.out (fun j hj=>(HOC.out.lt j hj).1)
    have hown2:w3.ownsRow w.heap.size 3 1 v1 (i + 1 + 1) (Ws (i + 1 + 1) fun k=>Bl l k):=by
     rw [<- Aax,<- HM.out];exact hown
    have HO2:=hid hown2;have HB2:=hid hB2;clear hown hgrow hnews hone hown2 hB2;go_wp2
    go_roundw
    case rel=>exact ⟨i + 1,hlt,by go_num,by rw [<- HM.out],HO2.out,HB2.out⟩
    case measure=>simp [intOf];omega
   ·have hm:(((U:Int) + 1 + 1):Int) = ((Bl l (i + 1):Nat):Int):=by have:=HUM.out;simp only [Bool.false_eq_true,if_true,if_false] at this;omega
    have HM:=hid hm;clear hm;have hbc:=HBB.out.alloc HBB.out.size (.cells #[.int .i64 ((U:Int) + 1 + 1)] 3);have hoc:=Dn HOO.out ((Below.refl w2.heap.size w2).alloc nl (.cells #[.int .i64 ((U:Int) + 1 + 1)] 3)) nl;have hcn:(w2.alloc (.cells #[.int .i64 ((U:Int) + 1 + 1)] 3)).cell? ⟨w2.heap.size,0,none⟩ = some (.int .i64 ((U:Int) + 1 + 1)):=by rw [(Row.made w2 [.int .i64 ((U:Int) + 1 + 1)] 3).cell];rfl
    have hnews:∀ (j:Nat) (u:Value),[(.int .i64 ((U:Int) + 1 + 1):Value)][j]? = some u->(w2.alloc (.cells #[.int .i64 ((U:Int) + 1 + 1)] 3)).cell? ((⟨w2.heap.size,0,none⟩:Addr).add j) = some u:=by
     intro j u hu
     have hj:j = 0:=by cases j with
      | zero=>rfl
      | succ j=>simp at hu
     subst hj;simp at hu;rw [<- hu];exact hcn
    have hone:∀ u ∈ [(.int .i64 ((U:Int) + 1 + 1):Value)],u.oneCell' = true:=by
     intro u hu;simp at hu;subst hu;rfl
    have HBC:=hid hbc;have HOC:=hid hoc;have Lp:w.heap.size <= (w2.alloc (.cells #[.int .i64 ((U:Int) + 1 + 1)] 3)).heap.size:=hbc.size;have Ru:=hid Lp;clear hbc hoc Lp hcn;have hk1:i + 1 + 1 <= maxLen:=by unfold maxLen;omega
    have hk2:(i + 1 + 1) * 8 <= 140737488355328:=by omega
    go_wp2_with (at_builtin;refine wpList_append_own _ rfl (.tmp 21) (.tmp 23) 50 rfl w.heap.size 3 i0 (.int .i64 0) 1 8 underlying50 hi0 hz0 hz1 hz2 rfl (by decide) u3 (i + 1) _ rfl HOC.out ⟨w2.heap.size,0,none⟩ 1 1 [.int .i64 ((U:Int) + 1 + 1)] rfl rfl hnews hone hk1 hk2 Ru.out ?_;intro v1 w3 hown hgrow _);have hB2:Below w.heap.size w w3:=Below.grown HBC.out hgrow Ru.out (fun j hj=>(HOC.out.lt j hj).1)
    have hown2:w3.ownsRow w.heap.size 3 1 v1 (i + 1 + 1) (Ws (i + 1 + 1) fun k=>Bl l k):=by
     rw [<- Aax,<- HM.out];exact hown
    have HO2:=hid hown2;have HB2:=hid hB2;clear hown hgrow hnews hone hown2 hB2;go_wp2
    go_roundw
    case rel=>exact ⟨i + 1,hlt,by go_num,by rw [<- HM.out],HO2.out,HB2.out⟩
    case measure=>simp [intOf];omega
  ·obtain rfl:i = n:=by omega
   go_wp2;go_ret
   exact ⟨_,rfl,HO.out,HB.out⟩
theorem Am4:(prog.info? 5).map (fun i=>(i.zero,i.size,i.bytes)) = some (some (.int .u8 0),1,1):=by kernel_rfl
theorem Iw (v:Value) (n:Nat) (cs:List Value) (w:World) (h:Reads w 1 v n cs) (hl:n * 1 <= 140737488355328) :
 Calls prog 32 #[v] w fun e w'=>∃ v',e = .returned v'/\w'.ownsRow w.heap.size 5 1 v' n cs/\Below w.heap.size w w':=by
 obtain ⟨i0,hi0,hz0,hz1,hz2⟩:=Gx Am4;have qT:∀ (w:World) (a:Option Addr) (n c n' c':Nat),(binOp .eql 22 (.slice a n c) (.slice none n' c')).run prog w = .ok (.bool a.isNone) w:=fun w a n c n' c'=>Lib.run_eql_slice_nil w _ _ a n c n' c' underlying22;obtain ⟨hcl,h1,h⟩:=h;have ho0:=hid (World.ownsRow_lit (e:=5) (size:=1) (base:=w.heap.size) w #[] 0 nl (by decide) rfl);have hB0:=hid ((Below.refl w.heap.size w).alloc nl (.cells #[] 5))
 obtain ⟨a,cap,rfl,hnone,hnews⟩:∃ a cap,v = .slice a n cap/\(a = none->n = 0)/\∀ ad,a = some ad->∀ j u,cs[j]? = some u->w.cell? (ad.add j) = some u:=by
  rcases h with ⟨rfl,a,cap,rfl,_⟩ | ⟨hp,b,off,cap,rfl,hlt,hm,hc,hcell⟩
  ·have:cs = []:=List.length_eq_zero_iff.1 (by simpa using hcl);subst this;exact ⟨a,cap,rfl,fun _=>rfl,fun _ _ j u hj=>by cases hj⟩
  ·refine ⟨_,cap,rfl,(fun h=>by cases h),fun ad had j u hj=>?_⟩
   cases had
   have hplain:(⟨b,off,none⟩:Addr).add j = ⟨b,off + j,none⟩:=by unfold Addr.add;split <;> simp_all
   rw [hplain];exact hcell j u hj
 clear h
 cases a with
 | none =>
   obtain rfl:=hnone rfl;have:cs = []:=List.length_eq_zero_iff.1 (by simpa using hcl);subst this;clear ho0 hB0;go_enter func32,ntmps32;go_wp2;go_ret
   exact ⟨_,rfl,World.ownsRow_nil _ _ _ _,Below.refl _ _⟩
 | some ad =>
   have hn2:∀ j u,cs[j]? = some u->(w.alloc (.cells #[] 5)).cell? (ad.add j) = some u:=fun j u hj=>
    (((Below.refl w.heap.size w).alloc nl (.cells #[] 5)).cell (p:=ad.add j) (World.block_lt_of_cell? _ _ (hnews ad rfl j u hj))).trans (hnews ad rfl j u hj)
   clear hnews hnone;have hm1:0 + n <= maxLen:=by unfold maxLen;omega
   have hm2:(0 + n) * 1 <= 140737488355328:=by omega
   have Lp:w.heap.size <= (w.alloc (.cells #[] 5)).heap.size:=by simp
   go_enter func32,ntmps32;go_wp2_with (at_builtin;refine wpList_append_own _ rfl (.tmp 5) (.tmp 6) 22 rfl w.heap.size 5 i0 (.int .u8 0) 1 1 underlying22 hi0 hz0 hz1 hz2 rfl (by decide) (.slice (some ⟨w.heap.size,0,none⟩) 0 0) 0 _ rfl ho0.out ad n cap cs rfl hcl hn2 h1 hm1 hm2 Lp ?_;intro v1 w1 hown hgrow _);have hB:=Below.grown hB0.out hgrow Lp (fun k hk=>(ho0.out.lt k hk).1);have HO:=hid (show w1.ownsRow w.heap.size 5 1 v1 n cs by simpa using hown);clear hown hgrow;go_wp2;go_ret
   exact ⟨_,rfl,HO.out,hB⟩
theorem Ap4:(prog.info? 3).map (fun i=>(i.zero,i.size,i.bytes)) = some (some (.int .i64 0),1,8):=by kernel_rfl
theorem Yh (v:Value) (n:Nat) (cs:List Value) (w:World) (h:Reads w 1 v n cs) (hl:n * 8 <= 140737488355328) :
 Calls prog 43 #[v] w fun e w'=>∃ v',e = .returned v'/\w'.ownsRow w.heap.size 3 1 v' n cs/\Below w.heap.size w w':=by
 obtain ⟨i0,hi0,hz0,hz1,hz2⟩:=Gx Ap4;have qT:∀ (w:World) (a:Option Addr) (n c n' c':Nat),(binOp .eql 50 (.slice a n c) (.slice none n' c')).run prog w = .ok (.bool a.isNone) w:=fun w a n c n' c'=>Lib.run_eql_slice_nil w _ _ a n c n' c' underlying50;obtain ⟨hcl,h1,h⟩:=h;have ho0:=hid (World.ownsRow_lit (e:=3) (size:=1) (base:=w.heap.size) w #[] 0 nl (by decide) rfl);have hB0:=hid ((Below.refl w.heap.size w).alloc nl (.cells #[] 3))
 obtain ⟨a,cap,rfl,hnone,hnews⟩:∃ a cap,v = .slice a n cap/\(a = none->n = 0)/\∀ ad,a = some ad->∀ j u,cs[j]? = some u->w.cell? (ad.add j) = some u:=by
  rcases h with ⟨rfl,a,cap,rfl,_⟩ | ⟨hp,b,off,cap,rfl,hlt,hm,hc,hcell⟩
  ·have:cs = []:=List.length_eq_zero_iff.1 (by simpa using hcl);subst this;exact ⟨a,cap,rfl,fun _=>rfl,fun _ _ j u hj=>by cases hj⟩
  ·refine ⟨_,cap,rfl,(fun h=>by cases h),fun ad had j u hj=>?_⟩
   cases had
   have hplain:(⟨b,off,none⟩:Addr).add j = ⟨b,off + j,none⟩:=by unfold Addr.add;split <;> simp_all
   rw [hplain];exact hcell j u hj
 clear h
 cases a with
 | none =>
   obtain rfl:=hnone rfl;have:cs = []:=List.length_eq_zero_iff.1 (by simpa using hcl);subst this;clear ho0 hB0;go_enter func43,ntmps43;go_wp2;go_ret
   exact ⟨_,rfl,World.ownsRow_nil _ _ _ _,Below.refl _ _⟩
 | some ad =>
   have hn2:∀ j u,cs[j]? = some u->(w.alloc (.cells #[] 3)).cell? (ad.add j) = some u:=fun j u hj=>
    (((Below.refl w.heap.size w).alloc nl (.cells #[] 3)).cell (p:=ad.add j) (World.block_lt_of_cell? _ _ (hnews ad rfl j u hj))).trans (hnews ad rfl j u hj)
   clear hnews hnone;have hm1:0 + n <= maxLen:=by unfold maxLen;omega
   have hm2:(0 + n) * 8 <= 140737488355328:=by omega
   have Lp:w.heap.size <= (w.alloc (.cells #[] 3)).heap.size:=by simp
   go_enter func43,ntmps43;go_wp2_with (at_builtin;refine wpList_append_own _ rfl (.tmp 5) (.tmp 6) 50 rfl w.heap.size 3 i0 (.int .i64 0) 1 8 underlying50 hi0 hz0 hz1 hz2 rfl (by decide) (.slice (some ⟨w.heap.size,0,none⟩) 0 0) 0 _ rfl ho0.out ad n cap cs rfl hcl hn2 h1 hm1 hm2 Lp ?_;intro v1 w1 hown hgrow _);have hB:=Below.grown hB0.out hgrow Lp (fun k hk=>(ho0.out.lt k hk).1);have HO:=hid (show w1.ownsRow w.heap.size 3 1 v1 n cs by simpa using hown);clear hown hgrow;go_wp2;go_ret
   exact ⟨_,rfl,HO.out,hB⟩
theorem Aen:(prog.info? 70).map (fun i=>(i.zero,i.size,i.bytes)) = some (some (.agg #[.int .i64 0,.bool false,.bool false,.int .i64 0,.int .i64 0,.int .i64 0,.int .i64 0,.int .i64 0]),8,56):=by kernel_rfl
theorem Am5 (v:Value) (n:Nat) (cs:List Value) (w:World) (h:Reads w 8 v n cs) (hl:n * 56 <= 140737488355328) :
 Calls prog 30 #[v] w fun e w'=>∃ v',e = .returned v'/\w'.ownsRow w.heap.size 70 8 v' n cs/\Below w.heap.size w w':=by
 obtain ⟨i0,hi0,hz0,hz1,hz2⟩:=Gx Aen;have qT:∀ (w:World) (a:Option Addr) (n c n' c':Nat),(binOp .eql 24 (.slice a n c) (.slice none n' c')).run prog w = .ok (.bool a.isNone) w:=fun w a n c n' c'=>Lib.run_eql_slice_nil w _ _ a n c n' c' underlying24;obtain ⟨hcl,h1,h⟩:=h;have ho0:=hid (World.ownsRow_lit (e:=70) (size:=8) (base:=w.heap.size) w #[] 0 nl (by decide) rfl);have hB0:=hid ((Below.refl w.heap.size w).alloc nl (.cells #[] 70))
 obtain ⟨a,cap,rfl,hnone,hnews⟩:∃ a cap,v = .slice a n cap/\(a = none->n = 0)/\∀ ad,a = some ad->∀ j u,cs[j]? = some u->w.cell? (ad.add j) = some u:=by
  rcases h with ⟨rfl,a,cap,rfl,_⟩ | ⟨hp,b,off,cap,rfl,hlt,hm,hc,hcell⟩
  ·have:cs = []:=List.length_eq_zero_iff.1 (by simpa using hcl);subst this;exact ⟨a,cap,rfl,fun _=>rfl,fun _ _ j u hj=>by cases hj⟩
  ·refine ⟨_,cap,rfl,(fun h=>by cases h),fun ad had j u hj=>?_⟩
   cases had
   have hplain:(⟨b,off,none⟩:Addr).add j = ⟨b,off + j,none⟩:=by unfold Addr.add;split <;> simp_all
   rw [hplain];exact hcell j u hj
 clear h
 cases a with
 | none =>
   obtain rfl:=hnone rfl;have:cs = []:=List.length_eq_zero_iff.1 (by simpa using hcl);subst this;clear ho0 hB0;go_enter func30,ntmps30;go_wp2;go_ret
   exact ⟨_,rfl,World.ownsRow_nil _ _ _ _,Below.refl _ _⟩
 | some ad =>
   have hn2:∀ j u,cs[j]? = some u->(w.alloc (.cells #[] 70)).cell? (ad.add j) = some u:=fun j u hj=>
    (((Below.refl w.heap.size w).alloc nl (.cells #[] 70)).cell (p:=ad.add j) (World.block_lt_of_cell? _ _ (hnews ad rfl j u hj))).trans (hnews ad rfl j u hj)
   clear hnews hnone;have hm1:0 + n <= maxLen:=by unfold maxLen;omega
   have hm2:(0 + n) * 56 <= 140737488355328:=by omega
   have Lp:w.heap.size <= (w.alloc (.cells #[] 70)).heap.size:=by simp
   go_enter func30,ntmps30;go_wp2_with (at_builtin;refine wpList_append_own _ rfl (.tmp 5) (.tmp 6) 24 rfl w.heap.size 70 i0 (.agg #[.int .i64 0,.bool false,.bool false,.int .i64 0,.int .i64 0,.int .i64 0,.int .i64 0,.int .i64 0]) 8 56 underlying24 hi0 hz0 hz1 hz2 rfl (by decide) (.slice (some ⟨w.heap.size,0,none⟩) 0 0) 0 _ rfl ho0.out ad n cap cs rfl hcl hn2 h1 hm1 hm2 Lp ?_;intro v1 w1 hown hgrow _);have hB:=Below.grown hB0.out hgrow Lp (fun k hk=>(ho0.out.lt k hk).1);have HO:=hid (show w1.ownsRow w.heap.size 70 8 v1 n cs by simpa using hown);clear hown hgrow;go_wp2;go_ret
   exact ⟨_,rfl,HO.out,hB⟩
theorem Aeo:(prog.info? 89).map (fun i=>(i.zero,i.size,i.bytes)) = some (some (.agg #[.int .i64 0,.int .i64 0]),2,16):=by kernel_rfl
theorem Am6 (v:Value) (n:Nat) (cs:List Value) (w:World) (h:Reads w 2 v n cs) (hl:n * 16 <= 140737488355328) :
 Calls prog 34 #[v] w fun e w'=>∃ v',e = .returned v'/\w'.ownsRow w.heap.size 89 2 v' n cs/\Below w.heap.size w w':=by
 obtain ⟨i0,hi0,hz0,hz1,hz2⟩:=Gx Aeo;have qT:∀ (w:World) (a:Option Addr) (n c n' c':Nat),(binOp .eql 23 (.slice a n c) (.slice none n' c')).run prog w = .ok (.bool a.isNone) w:=fun w a n c n' c'=>Lib.run_eql_slice_nil w _ _ a n c n' c' underlying23;obtain ⟨hcl,h1,h⟩:=h;have ho0:=hid (World.ownsRow_lit (e:=89) (size:=2) (base:=w.heap.size) w #[] 0 nl (by decide) rfl);have hB0:=hid ((Below.refl w.heap.size w).alloc nl (.cells #[] 89))
 obtain ⟨a,cap,rfl,hnone,hnews⟩:∃ a cap,v = .slice a n cap/\(a = none->n = 0)/\∀ ad,a = some ad->∀ j u,cs[j]? = some u->w.cell? (ad.add j) = some u:=by
  rcases h with ⟨rfl,a,cap,rfl,_⟩ | ⟨hp,b,off,cap,rfl,hlt,hm,hc,hcell⟩
  ·have:cs = []:=List.length_eq_zero_iff.1 (by simpa using hcl);subst this;exact ⟨a,cap,rfl,fun _=>rfl,fun _ _ j u hj=>by cases hj⟩
  ·refine ⟨_,cap,rfl,(fun h=>by cases h),fun ad had j u hj=>?_⟩
   cases had
   have hplain:(⟨b,off,none⟩:Addr).add j = ⟨b,off + j,none⟩:=by unfold Addr.add;split <;> simp_all
   rw [hplain];exact hcell j u hj
 clear h
 cases a with
 | none =>
   obtain rfl:=hnone rfl;have:cs = []:=List.length_eq_zero_iff.1 (by simpa using hcl);subst this;clear ho0 hB0;go_enter func34,ntmps34;go_wp2;go_ret
   exact ⟨_,rfl,World.ownsRow_nil _ _ _ _,Below.refl _ _⟩
 | some ad =>
   have hn2:∀ j u,cs[j]? = some u->(w.alloc (.cells #[] 89)).cell? (ad.add j) = some u:=fun j u hj=>
    (((Below.refl w.heap.size w).alloc nl (.cells #[] 89)).cell (p:=ad.add j) (World.block_lt_of_cell? _ _ (hnews ad rfl j u hj))).trans (hnews ad rfl j u hj)
   clear hnews hnone;have hm1:0 + n <= maxLen:=by unfold maxLen;omega
   have hm2:(0 + n) * 16 <= 140737488355328:=by omega
   have Lp:w.heap.size <= (w.alloc (.cells #[] 89)).heap.size:=by simp
   go_enter func34,ntmps34;go_wp2_with (at_builtin;refine wpList_append_own _ rfl (.tmp 5) (.tmp 6) 23 rfl w.heap.size 89 i0 (.agg #[.int .i64 0,.int .i64 0]) 2 16 underlying23 hi0 hz0 hz1 hz2 rfl (by decide) (.slice (some ⟨w.heap.size,0,none⟩) 0 0) 0 _ rfl ho0.out ad n cap cs rfl hcl hn2 h1 hm1 hm2 Lp ?_;intro v1 w1 hown hgrow _);have hB:=Below.grown hB0.out hgrow Lp (fun k hk=>(ho0.out.lt k hk).1);have HO:=hid (show w1.ownsRow w.heap.size 89 2 v1 n cs by simpa using hown);clear hown hgrow;go_wp2;go_ret
   exact ⟨_,rfl,HO.out,hB⟩
def Va (ts:List (Int × Int)):List Value:=ts.flatMap fun t=>[.int .i64 t.1,.int .i64 t.2]
theorem Wu (ts:List (Int × Int)):∀ i (h:i < ts.length),(Va ts)[i * 2]? = some (.int .i64 ts[i].1)/\(Va ts)[i * 2 + 1]? = some (.int .i64 ts[i].2):=by
 induction ts with
 | nil=>intro i h;cases h
 | cons t ts ih =>
   intro i h
   cases i with
   | zero=>exact ⟨rfl,rfl⟩
   | succ i =>
     have:=ih i (by simpa using h);refine ⟨?_,?_⟩
     ·show (Va (t :: ts))[(i + 1) * 2]? = _;rw [show (i + 1) * 2 = i * 2 + 2 by omega];exact this.1
     ·show (Va (t :: ts))[(i + 1) * 2 + 1]? = _;rw [show (i + 1) * 2 + 1 = i * 2 + 1 + 2 by omega];exact this.2
def Tabs (w:World) (v:Value) (ts:List (Int × Int)):Prop:=Reads w 2 v ts.length (Va ts)
theorem Tabs.open {w:World} {v:Value} {ts:List (Int × Int)} (h:Tabs w v ts):∃ a cap,v = .slice a ts.length cap/\∀ i (h:i < ts.length),∃ b off,a = some ⟨b,off,none⟩/\b < w.heap.size /\
 w.cell? ⟨b,off + i * 2,none⟩ = some (.int .i64 ts[i].1)/\w.cell? ⟨b,off + i * 2 + 1,none⟩ = some (.int .i64 ts[i].2):=by
 obtain ⟨hl,h1,⟨hz,a,cap,rfl,hm⟩ | ⟨hp,b,off,cap,rfl,hlt,hm,hc,hcell⟩⟩:=h
 ·exact ⟨a,cap,by rw [hz],fun i hi=>absurd hi (by omega)⟩
 ·exact ⟨_,cap,rfl,fun i hi=>⟨b,off,rfl,hlt,by have:=hcell _ _ (Wu ts i hi).1;exact this,by have:=hcell _ _ (Wu ts i hi).2;rw [<- Nat.add_assoc] at this;exact this⟩⟩
structure Vo where
 lo:Int
 hi:Int
 data:List Int
 tabs:List (Int × Int)
 code:List Ins
def Yi (lo hi:Int) (dv tv cv:Value):List Value:=[.int .i64 lo,.int .i64 hi,dv,tv,cv]
theorem Iq {w:World} {b:Nat} {e:TypeId} {lo hi:Int} {dv tv cv:Value} (h:Row w b e (Yi lo hi dv tv cv)) :
 w.cell? ⟨b,0,none⟩ = some (.int .i64 lo)/\w.cell? ⟨b,1,none⟩ = some (.int .i64 hi)/\w.cell? ⟨b,2,none⟩ = some dv/\w.cell? ⟨b,3,none⟩ = some tv/\w.cell? ⟨b,4,none⟩ = some cv:=
 ⟨by rw [h.cell];rfl,by rw [h.cell];rfl,by rw [h.cell];rfl,by rw [h.cell];rfl,by rw [h.cell];rfl⟩
def jv (t:Int × Int):Prop:=1 <= t.1/\t.1 <= 64/\1 <= t.2/\t.2 <= 64
def Vo.made (p:Vo):Prop:=(0 <= p.lo/\p.lo <= p.hi/\p.hi <= 65535/\p.data.length <= 4096/\p.tabs.length <= 8/\0 < p.code.length)/\(∀ i (h:i < p.tabs.length),jv p.tabs[i])/\jr p.code /\
 ∀ i (h:i < p.code.length),p.code[i].op = 21->p.code[i].Aa <= p.data.length
def Asked (w:World) (MP:Prop):Ending->World->Prop:=fun e w'=>∃ d:Bool,e = .returned (.bool d)/\(d = true ↔ MP)/\Below w.heap.size w w'
theorem Asked.no {w w':World} {MP:Prop} (h:¬ MP) (hB:Below w.heap.size w w'):Asked w MP (.returned (.bool false)) w':=⟨false,rfl,⟨fun h=>(by cases h),fun h'=>absurd h' h⟩,hB⟩
theorem Asked.yes {w w':World} {MP:Prop} (h:MP) (hB:Below w.heap.size w w'):Asked w MP (.returned (.bool true)) w':=⟨true,rfl,⟨fun _=>h,fun _=>rfl⟩,hB⟩
theorem Acb (p:Vo) (da ta ca:Option Addr) (dc tc cc:Nat) (hld:p.data.length <= 4611686018427387903) (hlt:p.tabs.length <= 4611686018427387903) (hlc:p.code.length <= 4611686018427387903) (w:World)
 (ht:Tabs w (.slice ta p.tabs.length tc) p.tabs) (hc:Fa w (.slice ca p.code.length cc) p.code) :
 Calls prog 28 #[.agg #[.int .i64 p.lo,.int .i64 p.hi,.slice da p.data.length dc,.slice ta p.tabs.length tc,.slice ca p.code.length cc]] w (Asked w p.made):=by
 obtain ⟨lo,hi,data,tabs,code⟩:=p;simp only at ht hc hld hlt hlc ⊢;obtain ⟨a1,c1,hv1,ht1⟩:=ht.open;obtain ⟨rfl,_,rfl⟩:ta = a1/\tabs.length = tabs.length/\tc = c1:=by simpa using hv1
 obtain ⟨a2,c2,hv2,hc1⟩:=hc.open;obtain ⟨rfl,_,rfl⟩:ca = a2/\code.length = code.length/\cc = c2:=by simpa using hv2
 obtain ⟨nd,hnd⟩:∃ n,n = data.length:=⟨_,rfl⟩;obtain ⟨nt,hnt⟩:∃ n,n = tabs.length:=⟨_,rfl⟩;obtain ⟨nc,hnc⟩:∃ n,n = code.length:=⟨_,rfl⟩;rw [<- hnd] at hld;rw [<- hnt] at hlt;rw [<- hnc] at hlc;simp only [<- hnd,<- hnt,<- hnc];have hch:=fun w' (h:Fa w' (.slice ca nc cc) code)=>Ap1 (.slice ca nc cc) code (by rw [<- hnc];exact hlc) w' h;rw [<- hnc] at hc;have hr0:Row (w.alloc (.cells #[.int .i64 lo,.int .i64 hi,.slice da nd dc,.slice ta nt tc,.slice ca nc cc] 26)) w.heap.size 26 (Yi lo hi (.slice da nd dc) (.slice ta nt tc) (.slice ca nc cc)):=Row.made w (Yi lo hi (.slice da nd dc) (.slice ta nt tc) (.slice ca nc cc)) _;have hB0:=(Below.refl w.heap.size w).alloc nl (.cells #[.int .i64 lo,.int .i64 hi,.slice da nd dc,.slice ta nt tc,.slice ca nc cc] 26);have HND:=hid hnd;have Yj:=hid hnt;have HNC:=hid hnc;have HT:=hid ht1;have HC:=hid hc1;have HCD:=hid hc;have HCH:=hid hch;have HR0:=hid hr0;have HB0:=hid hB0;have HM:=hid (show (Vo.mk lo hi data tabs code).made ↔ ((0 <= lo/\lo <= hi/\hi <= 65535/\nd <= 4096/\nt <= 8/\0 < nc)/\(∀ i (h:i < tabs.length),jv tabs[i])/\jr code/\∀ i (h:i < code.length),code[i].op = 21->code[i].Aa <= nd) by rw [hnd,hnt,hnc];exact Iff.rfl);generalize (Vo.mk lo hi data tabs code).made = MP at HM ⊢;clear hv1 hv2 hnd hnt hnc ht ht1 hc hc1 hch hr0 hB0
 by_cases hg:0 <= lo/\lo <= hi/\hi <= 65535/\nd <= 4096/\nt <= 8/\0 < nc
 ·have t1:decide (lo < 0) = false:=by simp;omega
  have t2:decide (hi < lo) = false:=by simp;omega
  have t3:decide (65535 < hi) = false:=by simp;omega
  have t4:decide ((4096:Int) < (nd:Int)) = false:=by simp;omega
  have t5:decide ((8:Int) < (nt:Int)) = false:=by simp;omega
  have t6:((nc:Int) == 0) = false:=by simp;omega
  have HG:=hid hg;clear hg;go_enter func28,ntmps28;go_wp2
  go_loopw [45] (fun s wr=>∃ i:Nat,i <= nt/\s = .int .i64 i/\Below w.heap.size w wr/\Row wr w.heap.size 26 (Yi lo hi (.slice da nd dc) (.slice ta nt tc) (.slice ca nc cc))/\∀ k (h:k < tabs.length),k < i->jv tabs[k]) (fun s _=>nt - (intOf s).toNat)
  case atStart=>exact ⟨0,Nat.zero_le _,rfl,HB0.out,HR0.out,fun k _ hk=>absurd hk (by omega)⟩
  case round=>
   obtain ⟨i,hi',rfl,hB,hR,hT⟩:=hrel;have HB:=hid hB;have HR:=hid hR;have HTB:=hid hT;clear hB hR hT
   by_cases hlt':i < nt
   ·obtain ⟨b,off,rfl,hb,e0',e1'⟩:=HT.out i (by rw [<- Yj.out];exact hlt');obtain ⟨R,hRR⟩:∃ R,R = (tabs[i]'(by rw [<- Yj.out];exact hlt')).1:=⟨_,rfl⟩;obtain ⟨C,hCC⟩:∃ C,C = (tabs[i]'(by rw [<- Yj.out];exact hlt')).2:=⟨_,rfl⟩;rw [<- hRR] at e0';rw [<- hCC] at e1';have e0:wr.cell? ⟨b,off + i * 2,none⟩ = some (.int .i64 R):=(HB.out.cell (p:=⟨b,off + i * 2,none⟩) hb).trans e0';have e1:wr.cell? ⟨b,off + i * 2 + 1,none⟩ = some (.int .i64 C):=(HB.out.cell (p:=⟨b,off + i * 2 + 1,none⟩) hb).trans e1';have hok:jv (tabs[i]'(by rw [<- Yj.out];exact hlt')) ↔ (1 <= R/\R <= 64/\1 <= C/\C <= 64):=by rw [hRR,hCC];exact Iff.rfl
    have HOK:=hid hok;have HBX:=hid (HB.out.alloc HB.out.size (.cells #[.int .i64 R,.int .i64 C] 89));have HRX:=hid (HR.out.alloc (.cells #[.int .i64 R,.int .i64 C] 89));clear e0' e1' hRR hCC hok;have hj1:(0:Int) <= (i:Int):=by omega
    have hj3:(i:Int) < nt:=by omega
    obtain ⟨b1,u1⟩:∃ d,decide (R < 1) = d:=⟨_,rfl⟩;obtain ⟨b2,u2⟩:∃ d,decide (64 < R) = d:=⟨_,rfl⟩;obtain ⟨b3,u3⟩:∃ d,decide (C < 1) = d:=⟨_,rfl⟩;obtain ⟨b4,u4⟩:∃ d,decide (64 < C) = d:=⟨_,rfl⟩
    have hcs:(b1 = false/\b2 = false/\b3 = false/\b4 = false/\1 <= R/\R <= 64/\1 <= C/\C <= 64)\/((b1 = true\/(b1 = false/\b2 = true)\/(b1 = false/\b2 = false/\b3 = true)\/(b1 = false/\b2 = false/\b3 = false/\b4 = true))/\¬ (1 <= R/\R <= 64/\1 <= C/\C <= 64)):=by
     rw [<- u1,<- u2,<- u3,<- u4];simp only [decide_eq_true_eq,decide_eq_false_iff_not];omega
    rcases hcs with ⟨rfl,rfl,rfl,rfl,hcs⟩ | ⟨hcs,hno⟩
    ·have HO:=hid (HOK.out.2 hcs);clear hcs;go_wp2
     go_roundw
     case rel=>
      exact ⟨i + 1,hlt',by go_num,HBX.out,HRX.out,fun k hk hki=>by
       by_cases hke:k = i
       ·subst hke;exact HO.out
       ·exact HTB.out k hk (by omega)⟩
     case measure=>simp [intOf];omega
    ·have Zr:=hid (show ¬ MP from fun h=>hno (HOK.out.1 ((HM.out.1 h).2.1 i (by rw [<- Yj.out];exact hlt'))));clear hno
     rcases hcs with rfl | ⟨rfl,rfl⟩ | ⟨rfl,rfl,rfl⟩ | ⟨rfl,rfl,rfl,rfl⟩
     all_goals
      go_wp2;exact bodyPost_ret (v:=.bool false) (by simp [results,results28,go_sem]) rfl (Asked.no Zr.out HBX.out)
   ·obtain rfl:i = nt:=by omega
    obtain ⟨c0,c1,c2,c3,c4⟩:=Iq HR.out;go_wp2_with fail;refine (HCH.out _ (HCD.out.below HB.out nl)).mono ?_;rintro e w2 ⟨at',er,rfl,hiff,hB2⟩;have Ax3:=hid hiff;have HR2:=hid (HR.out.below hB2 HR.out.lt);have HB2:=hid (HB.out.trans (hB2.mono HB.out.size));clear hB2 hiff c0 c1 c2 c3 c4;obtain ⟨c0,c1,c2,c3,c4⟩:=Iq HR2.out
    by_cases hz:er = 0
    ·have hne:(er != 0) = false:=by simp [hz]
     have HAR:=hid (Ax3.out.1 hz);clear hz;go_wp2;clear c0 c1 c2 c3 c4
     go_loopw [79] (fun s wr=>∃ j:Nat,j <= nc/\s = .int .i64 j/\Below w.heap.size w wr/\Row wr w.heap.size 26 (Yi lo hi (.slice da nd dc) (.slice ta i tc) (.slice ca nc cc))/\∀ k (h:k < code.length),k < j->code[k].op = 21->code[k].Aa <= nd) (fun s _=>nc - (intOf s).toNat)
     case atStart=>exact ⟨0,Nat.zero_le _,rfl,HB2.out,HR2.out,fun k _ hk=>absurd hk (by omega)⟩
     case round=>
      obtain ⟨j,hj',rfl,hB,hR,hD⟩:=hrel;have HB3:=hid hB;have HR3:=hid hR;have HD3:=hid hD;clear hB hR hD
      by_cases Ah7:j < nc
      ·obtain ⟨b,off,rfl,hb,hcell⟩:=HC.out j (by rw [<- HNC.out];exact Ah7);obtain ⟨x,hx⟩:∃ x,x = code[j]'(by rw [<- HNC.out];exact Ah7):=⟨_,rfl⟩;rw [<- hx] at hcell;have hcw:∀ jj,jj < 8->wr.cell? ⟨b,off + j * 8 + jj,none⟩ = (x.cs)[jj]?:=fun jj hjj=>(HB3.out.cell (p:=⟨b,off + j * 8 + jj,none⟩) hb).trans (hcell jj hjj);have e0:=hcw 0 (by decide);have e1:=hcw 1 (by decide);have e2:=hcw 2 (by decide);have e3:=hcw 3 (by decide);have e4:=hcw 4 (by decide);have e5:=hcw 5 (by decide);have e6:=hcw 6 (by decide);have e7:=hcw 7 (by decide);have hxo:(code[j]'(by rw [<- HNC.out];exact Ah7)).op = x.op:=by rw [hx]
       have hxi:(code[j]'(by rw [<- HNC.out];exact Ah7)).Aa = x.Aa:=by rw [hx]
       obtain ⟨op,Ad,reg,size,dst,src,of,Aa⟩:=x;simp only [Ins.cs,Ed,List.getElem?_cons_zero,List.getElem?_cons_succ,Nat.add_zero] at e0 e1 e2 e3 e4 e5 e6 e7;simp only at hxo hxi;have HXO:=hid hxo;have HXI:=hid hxi;have HBX:=hid (HB3.out.alloc HB3.out.size (.cells #[.int .i64 op,.bool Ad,.bool reg,.int .i64 size,.int .i64 dst,.int .i64 src,.int .i64 of,.int .i64 Aa] 70));have HRX:=hid (HR3.out.alloc (.cells #[.int .i64 op,.bool Ad,.bool reg,.int .i64 size,.int .i64 dst,.int .i64 src,.int .i64 of,.int .i64 Aa] 70));have c2:=(Iq HR3.out).2.2.1;have hlw:=HR3.out.lt;clear hcell hcw hx hxo hxi;have hj1:(0:Int) <= (j:Int):=by omega
       have hj3:(j:Int) < nc:=by omega
       by_cases ho:op = 21
       ·have ho1:(op == 21) = true:=by simp [ho]
        have HO:=hid ho;clear ho
        by_cases hi3:Aa <= nd
        ·have hi4:decide ((nd:Int) < Aa) = false:=by simp;omega
         have HI:=hid hi3;clear hi3;go_wp2
         go_roundw
         case rel=>
          exact ⟨j + 1,Ah7,by go_num,HBX.out,HRX.out,fun k hk hki hop=>by
           by_cases hke:k = j
           ·subst hke;rw [HXI.out];exact HI.out
           ·exact HD3.out k hk (by omega) hop⟩
         case measure=>simp [intOf];omega
        ·have hi4:decide ((nd:Int) < Aa) = true:=by simp;omega
         have Zr:=hid (show ¬ MP from fun h=>hi3 (by
          have:=(HM.out.1 h).2.2.2 j (by rw [<- HNC.out];exact Ah7) (by rw [HXO.out];exact HO.out);rw [HXI.out] at this;exact this))
         clear hi3;go_wp2;exact bodyPost_ret (v:=.bool false) (by simp [results,results28,go_sem]) rfl (Asked.no Zr.out HBX.out)
       ·have ho1:(op == 21) = false:=by simp [ho]
        have HO:=hid ho;clear ho;go_wp2
        go_roundw
        case rel=>
         exact ⟨j + 1,Ah7,by go_num,HBX.out,HRX.out,fun k hk hki hop=>by
          by_cases hke:k = j
          ·subst hke;rw [HXO.out] at hop;exact absurd hop HO.out
          ·exact HD3.out k hk (by omega) hop⟩
        case measure=>simp [intOf];omega
      ·obtain rfl:j = nc:=by omega
       have Awm:=hid (show MP from HM.out.2 ⟨HG.out,fun k hk=>HTB.out k hk (by rw [Yj.out];exact hk),HAR.out,fun k hk hop=>HD3.out k hk (by rw [HNC.out];exact hk) hop⟩);go_wp2;exact bodyPost_ret (v:=.bool true) (by simp [results,results28,go_sem]) rfl (Asked.yes Awm.out HB3.out)
    ·have hne:(er != 0) = true:=by simp [hz]
     have Zr:=hid (show ¬ MP from fun h=>hz (Ax3.out.2 (HM.out.1 h).2.2.1));clear hz;go_wp2;exact bodyPost_ret (v:=.bool false) (by simp [results,results28,go_sem]) rfl (Asked.no Zr.out HB2.out)
 ·have hbad:lo < 0\/(0 <= lo/\hi < lo)\/(0 <= lo/\lo <= hi/\65535 < hi)\/(0 <= lo/\lo <= hi/\hi <= 65535/\4096 < nd)\/(0 <= lo/\lo <= hi/\hi <= 65535/\nd <= 4096/\8 < nt)\/(0 <= lo/\lo <= hi/\hi <= 65535/\nd <= 4096/\nt <= 8/\nc = 0):=by omega
  have Zr:=hid (show ¬ MP from fun h=>hg (HM.out.1 h).1);clear hg;obtain ⟨b1,t1⟩:∃ d,decide (lo < 0) = d:=⟨_,rfl⟩;obtain ⟨b2,t2⟩:∃ d,decide (hi < lo) = d:=⟨_,rfl⟩;obtain ⟨b3,t3⟩:∃ d,decide (65535 < hi) = d:=⟨_,rfl⟩;obtain ⟨b4,t4⟩:∃ d,decide ((4096:Int) < (nd:Int)) = d:=⟨_,rfl⟩;obtain ⟨b5,t5⟩:∃ d,decide ((8:Int) < (nt:Int)) = d:=⟨_,rfl⟩;obtain ⟨b6,t6⟩:∃ d,((nc:Int) == 0) = d:=⟨_,rfl⟩
  have hcases:b1 = true\/(b1 = false/\b2 = true)\/(b1 = false/\b2 = false/\b3 = true)\/(b1 = false/\b2 = false/\b3 = false/\b4 = true)\/(b1 = false/\b2 = false/\b3 = false/\b4 = false/\b5 = true)\/(b1 = false/\b2 = false/\b3 = false/\b4 = false/\b5 = false/\b6 = true):=by
   rw [<- t1,<- t2,<- t3,<- t4,<- t5,<- t6];simp only [decide_eq_true_eq,decide_eq_false_iff_not,beq_iff_eq];omega
  clear hbad
  rcases hcases with rfl | ⟨rfl,rfl⟩ | ⟨rfl,rfl,rfl⟩ | ⟨rfl,rfl,rfl,rfl⟩ | ⟨rfl,rfl,rfl,rfl,rfl⟩ | ⟨rfl,rfl,rfl,rfl,rfl,rfl⟩
  all_goals
   go_enter func28,ntmps28;go_wp2;exact bodyPost_ret (v:=.bool false) (by simp [results,results28,go_sem]) rfl (Asked.no Zr.out HB0.out)
structure Es (w:World) (v:Value) (vals:List Value) (rows:List (List Int)):Prop where
 reads:Reads w 1 v rows.length vals
 held:∀ i (h:i < rows.length),∃ u,vals[i]? = some u/\Held w u rows[i]
theorem Es.below {w w':World} {v:Value} {vals:List Value} {rows:List (List Int)} {B:Nat} (h:Es w v vals rows) (hb:Below B w w') (hB:w.heap.size <= B):Es w' v vals rows:=
 ⟨h.reads.below hb hB,fun i hi=>let ⟨u,hu,hh⟩:=h.held i hi;⟨u,hu,hh.below hb hB⟩⟩
theorem Es.open {w:World} {v:Value} {vals:List Value} {rows:List (List Int)} (h:Es w v vals rows):∃ a cap,v = .slice a rows.length cap/\∀ i (h:i < rows.length),∃ b off u,a = some ⟨b,off,none⟩/\b < w.heap.size /\
 vals[i]? = some u/\w.cell? ⟨b,off + i,none⟩ = some u/\Held w u rows[i]:=by
 obtain ⟨⟨hl,h1,⟨hz,a,cap,rfl,hm⟩ | ⟨hp,b,off,cap,rfl,hlt,hm,hc,hcell⟩⟩,hh⟩:=h
 ·exact ⟨a,cap,by rw [hz],fun i hi=>absurd hi (by omega)⟩
 ·refine ⟨_,cap,rfl,fun i hi=>?_⟩;obtain ⟨u,hu,hhu⟩:=hh i hi;exact ⟨b,off,u,rfl,hlt,hu,hcell i u hu,hhu⟩
theorem Gy {w:World} {v:Value} {xs:List Int} (h:Held w v xs):∃ a cap,v = .slice a xs.length cap:=by
 obtain ⟨_,⟨rfl,rfl | ⟨a,cap,rfl,_⟩⟩ | ⟨hp,b,off,cap,rfl,_⟩⟩:=h
 ·exact ⟨_,_,rfl⟩
 ·exact ⟨_,_,rfl⟩
 ·exact ⟨_,_,rfl⟩
def Acd (xv tv:Value):List Value:=[xv,tv]
theorem Jk {w:World} {b:Nat} {e:TypeId} {xv tv:Value} (h:Row w b e (Acd xv tv)):w.cell? ⟨b,0,none⟩ = some xv/\w.cell? ⟨b,1,none⟩ = some tv:=
 ⟨by rw [h.cell];rfl,by rw [h.cell];rfl⟩
theorem Ace (w:World) (o:Obj) (cs:List Value) (e:TypeId):Row ((w.alloc o).alloc (.cells cs.toArray e)) (w.heap.size + 1) e cs:=by
 have:=Row.made (w.alloc o) cs e;simpa using this
def Tc (lo hi:Int) (tabs:List (Int × Int)) (nx:Nat) (rows:List (List Int)):Prop:=
 (lo <= nx/\nx <= hi/\rows.length = tabs.length)/\∀ i (h:i < tabs.length) (h':i < rows.length),(rows[i].length:Int) = tabs[i].1 * tabs[i].2
theorem Akp (lo hi:Int) (tabs:List (Int × Int)) (dv cv:Value) (ta xa ra:Option Addr) (tc xc rc nx:Nat) (vals:List Value) (rows:List (List Int))
 (hlt:tabs.length <= 4611686018427387903) (hrl:rows.length <= 4611686018427387903) (hxl:nx <= 4611686018427387903) (hok:∀ i (h:i < tabs.length),jv tabs[i]) (w:World)
 (ht:Tabs w (.slice ta tabs.length tc) tabs) (hr:Es w (.slice ra rows.length rc) vals rows) :
 Calls prog 29 #[.agg #[.int .i64 lo,.int .i64 hi,dv,.slice ta tabs.length tc,cv],.agg #[.slice xa nx xc,.slice ra rows.length rc]] w (Asked w (Tc lo hi tabs nx rows)):=by
 obtain ⟨a1,c1,hv1,ht1⟩:=ht.open;obtain ⟨rfl,_,rfl⟩:ta = a1/\tabs.length = tabs.length/\tc = c1:=by simpa using hv1
 obtain ⟨a2,c2,hv2,hr1⟩:=hr.open;obtain ⟨rfl,_,rfl⟩:ra = a2/\rows.length = rows.length/\rc = c2:=by simpa using hv2
 have hM:Tc lo hi tabs nx rows ↔ ((lo <= nx/\nx <= hi/\rows.length = tabs.length)/\∀ i (h:i < tabs.length) (h':i < rows.length),(rows[i].length:Int) = tabs[i].1 * tabs[i].2):=Iff.rfl;generalize Tc lo hi tabs nx rows = MP at hM ⊢;obtain ⟨nt,hnt⟩:∃ n,n = tabs.length:=⟨_,rfl⟩;obtain ⟨nr,hnr⟩:∃ n,n = rows.length:=⟨_,rfl⟩;rw [<- hnt] at hlt;rw [<- hnr] at hrl;simp only [<- hnt,<- hnr];have hM2:MP ↔ ((lo <= nx/\nx <= hi/\nr = nt)/\∀ i (h:i < tabs.length) (h':i < rows.length),(rows[i].length:Int) = tabs[i].1 * tabs[i].2):=by rw [hnt,hnr];exact hM
 have hr0:Row ((w.alloc (.cells #[.int .i64 lo,.int .i64 hi,dv,.slice ta nt tc,cv] 26)).alloc (.cells #[.slice xa nx xc,.slice ra nr rc] 29)) w.heap.size 26 (Yi lo hi dv (.slice ta nt tc) cv):=(Row.made w (Yi lo hi dv (.slice ta nt tc) cv) _).alloc _;have hr2:Row ((w.alloc (.cells #[.int .i64 lo,.int .i64 hi,dv,.slice ta nt tc,cv] 26)).alloc (.cells #[.slice xa nx xc,.slice ra nr rc] 29)) (w.heap.size + 1) 29 (Acd (.slice xa nx xc) (.slice ra nr rc)):=Ace w _ (Acd (.slice xa nx xc) (.slice ra nr rc)) _;have hB0:=((Below.refl w.heap.size w).alloc nl (.cells #[.int .i64 lo,.int .i64 hi,dv,.slice ta nt tc,cv] 26)).alloc (by simp) (.cells #[.slice xa nx xc,.slice ra nr rc] 29);have Yj:=hid hnt;have HNR:=hid hnr;have HT:=hid ht1;have HV:=hid hr1;have HR0:=hid hr0;have HR1:=hid hr2;have HB0:=hid hB0;have HM:=hid hM2;have HOK:=hid hok;clear hv1 hv2 hnt hnr ht ht1 hr hr1 hr0 hr2 hB0 hM hM2 hok
 by_cases hg:lo <= nx/\nx <= hi/\nr = nt
 ·obtain ⟨g1,g2,rfl⟩:=hg;have t1:decide ((nx:Int) < lo) = false:=by simp;omega
  have t2:decide (hi < (nx:Int)) = false:=by simp;omega
  have t3:((nr:Int) != nr) = false:=by simp
  have HG:=hid (And.intro g1 g2);clear g1 g2;go_enter func29,ntmps29;go_wp2
  go_loopw [33] (fun s wr=>∃ i:Nat,i <= nr/\s = .int .i64 i/\Below w.heap.size w wr/\Row wr w.heap.size 26 (Yi lo hi dv (.slice ta nr tc) cv)/\Row wr (w.heap.size + 1) 29 (Acd (.slice xa nx xc) (.slice ra nr rc)) /\
   ∀ k (h:k < tabs.length) (h':k < rows.length),k < i->(rows[k].length:Int) = tabs[k].1 * tabs[k].2) (fun s _=>nr - (intOf s).toNat)
  case atStart=>exact ⟨0,Nat.zero_le _,rfl,HB0.out,HR0.out,HR1.out,fun k _ _ hk=>absurd hk (by omega)⟩
  case round=>
   obtain ⟨i,hi',rfl,hB,hR,hR',hT⟩:=hrel;have HB:=hid hB;have HR:=hid hR;have HR':=hid hR';have HTB:=hid hT;clear hB hR hR' hT
   by_cases hlt':i < nr
   ·obtain ⟨b,off,rfl,hb,e0',e1'⟩:=HT.out i (by rw [<- Yj.out];exact hlt');obtain ⟨b2,off2,u,rfl,hb2,hu,e2',hH⟩:=HV.out i (by rw [<- HNR.out];exact hlt');obtain ⟨ua,uc,rfl⟩:=Gy hH;obtain ⟨R,hRR⟩:∃ R,R = (tabs[i]'(by rw [<- Yj.out];exact hlt')).1:=⟨_,rfl⟩;obtain ⟨C,hCC⟩:∃ C,C = (tabs[i]'(by rw [<- Yj.out];exact hlt')).2:=⟨_,rfl⟩;obtain ⟨L,hLL⟩:∃ L,L = (rows[i]'(by rw [<- HNR.out];exact hlt')).length:=⟨_,rfl⟩;rw [<- hRR] at e0';rw [<- hCC] at e1';rw [<- hLL] at e2';have hto:=HOK.out i (by rw [<- Yj.out];exact hlt');unfold jv at hto;rw [<- hRR,<- hCC] at hto
    have hRC:0 <= R * C/\R * C <= 4096:=by
     obtain ⟨q1,q2,q3,q4⟩:=hto;have h1:R * C <= 64 * C:=Int.mul_le_mul_of_nonneg_right q2 (by omega);have h2:0 <= R * C:=Int.mul_nonneg (by omega) (by omega);exact ⟨h2,by omega⟩
    have hwr:wrap64 (R * C) = R * C:=by unfold wrap64;omega
    have e0:wr.cell? ⟨b,off + i * 2,none⟩ = some (.int .i64 R):=(HB.out.cell (p:=⟨b,off + i * 2,none⟩) hb).trans e0';have e1:wr.cell? ⟨b,off + i * 2 + 1,none⟩ = some (.int .i64 C):=(HB.out.cell (p:=⟨b,off + i * 2 + 1,none⟩) hb).trans e1';have e2:wr.cell? ⟨b2,off2 + i,none⟩ = some (.slice ua L uc):=(HB.out.cell (p:=⟨b2,off2 + i,none⟩) hb2).trans e2';obtain ⟨c0,c1⟩:=Jk HR'.out;have hl1:=HR'.out.lt;have hl2:b2 < wr.heap.size:=Nat.lt_of_lt_of_le hb2 HB.out.size;have HBX:=hid (HB.out.alloc HB.out.size (.cells #[.int .i64 R,.int .i64 C] 89));have HRX:=hid (HR.out.alloc (.cells #[.int .i64 R,.int .i64 C] 89));have HRY:=hid (HR'.out.alloc (.cells #[.int .i64 R,.int .i64 C] 89));have Ns:=hid (show ((rows[i]'(by rw [<- HNR.out];exact hlt')).length:Int) = (tabs[i]'(by rw [<- Yj.out];exact hlt')).1 * (tabs[i]'(by rw [<- Yj.out];exact hlt')).2 ↔ (L:Int) = R * C by rw [hRR,hCC,hLL]);clear e0' e1' e2' hRR hCC hLL hto hRC hH hu;have hj1:(0:Int) <= (i:Int):=by omega
    have hj3:(i:Int) < nr:=by omega
    by_cases hq:(L:Int) = R * C
    ·have hq1:((L:Int) != R * C) = false:=by simp [hq]
     have HQ:=hid hq;clear hq;go_wp2_with fail
     go_quiet (fail)
     go_wp2
     go_roundw
     case rel=>
      exact ⟨i + 1,hlt',by go_num,Ih HBX.out _,HRX.out.drewN _,HRY.out.drewN _,fun k hk hk' hki=>by
       by_cases hke:k = i
       ·subst hke;exact Ns.out.2 HQ.out
       ·exact HTB.out k hk hk' (by omega)⟩
     case measure=>simp [intOf];omega
    ·have hq1:((L:Int) != R * C) = true:=by simp [hq]
     have Zr:=hid (show ¬ MP from fun h=>hq (Ns.out.1 ((HM.out.1 h).2 i (by rw [<- Yj.out];exact hlt') (by rw [<- HNR.out];exact hlt'))));clear hq;go_wp2_with fail
     go_quiet (fail)
     go_wp2;exact bodyPost_ret (v:=.bool false) (by simp [results,results29,go_sem]) rfl (Asked.no Zr.out (Ih HBX.out _))
   ·obtain rfl:i = nr:=by omega
    have Awm:=hid (show MP from HM.out.2 ⟨⟨HG.out.1,HG.out.2,by first | rfl | trivial⟩,fun k hk hk'=>HTB.out k hk hk' (by rw [Yj.out];exact hk)⟩);go_wp2;exact bodyPost_ret (v:=.bool true) (by simp [results,results29,go_sem]) rfl (Asked.yes Awm.out HB.out)
 ·have Zr:=hid (show ¬ MP from fun h=>hg (HM.out.1 h).1);obtain ⟨b1,t1⟩:∃ d,decide ((nx:Int) < lo) = d:=⟨_,rfl⟩;obtain ⟨b2,t2⟩:∃ d,decide (hi < (nx:Int)) = d:=⟨_,rfl⟩;obtain ⟨b3,t3⟩:∃ d,((nr:Int) != nt) = d:=⟨_,rfl⟩
  have hcases:b1 = true\/(b1 = false/\b2 = true)\/(b1 = false/\b2 = false/\b3 = true):=by
   rw [<- t1,<- t2,<- t3];simp only [decide_eq_true_eq,decide_eq_false_iff_not,bne_iff_ne,ne_eq];omega
  clear hg
  rcases hcases with rfl | ⟨rfl,rfl⟩ | ⟨rfl,rfl,rfl⟩
  all_goals
   go_enter func29,ntmps29;go_wp2;exact bodyPost_ret (v:=.bool false) (by simp [results,results29,go_sem]) rfl (Asked.no Zr.out HB0.out)
def Bf (w:World) (base:Nat) (ρ:Nat->Nat) (r:Nat) (e:TypeId) (size:Nat) (v:Value) (n:Nat) (xs:List Value):Prop:=
 w.ownsRow base e size v n xs/\∀ b,v.ownBlock = some b->ρ b = r
theorem Em {w w':World} {base size:Nat} {e:TypeId} {v:Value} {n:Nat} {xs:List Value} (h:w.ownsRow base e size v n xs) (hk:∀ b,v.ownBlock = some b->w'.heap[b]? = w.heap[b]?):w'.ownsRow base e size v n xs:=by
 obtain ⟨hl,hz | ⟨g,cap,cur,rfl,hb,hg,rest⟩⟩:=h
 ·exact ⟨hl,Or.inl hz⟩
 ·exact ⟨hl,Or.inr ⟨g,cap,cur,rfl,hb,by rw [hk g rfl];exact hg,rest⟩⟩
theorem Bf.move {w w':World} {base size n:Nat} {ρ ρ':Nat->Nat} {r r':Nat} {e:TypeId} {v:Value} {xs:List Value} (h:Bf w base ρ r e size v n xs)
 (hf:∀ q,q < w.heap.size->ρ q = r->w'.heap[q]? = w.heap[q]?/\ρ' q = r'):Bf w' base ρ' r' e size v n xs:=by
 have hlt:=h.1.lt;exact ⟨Em h.1 fun b hb=>(hf b (hlt b hb).2 (h.2 b hb)).1,fun b hb=>(hf b (hlt b hb).2 (h.2 b hb)).2⟩
theorem Bf.below {w w':World} {base size n:Nat} {ρ:Nat->Nat} {r:Nat} {e:TypeId} {v:Value} {xs:List Value} (h:Bf w base ρ r e size v n xs) (hb:Below w.heap.size w w'):Bf w' base ρ r e size v n xs:=
 h.move fun q hq hr=>⟨hb.block q hq,hr⟩
def Aj (ρ:Nat->Nat) (s r:Nat):Nat->Nat:=fun b=>if s <= b then r else ρ b
theorem Bf.role {w w':World} {base size n:Nat} {ρ:Nat->Nat} {r:Nat} {e:TypeId} {v:Value} {xs:List Value} (h:Bf w base ρ r e size v n xs) (hb:Below w.heap.size w w') (r':Nat):Bf w' base (Aj ρ w.heap.size r') r e size v n xs:=
 h.move fun q hq hr=>⟨hb.block q hq,by unfold Aj;rw [if_neg (by omega)];exact hr⟩
theorem Jl {w w':World} {base size n:Nat} {e:TypeId} {v:Value} {xs:List Value} (h:w'.ownsRow w.heap.size e size v n xs) (hB:base <= w.heap.size) (ρ:Nat->Nat) (r:Nat):Bf w' base (Aj ρ w.heap.size r) r e size v n xs:=
 ⟨by
  obtain ⟨hl,hz | ⟨g,cap,cur,hv,hb,rest⟩⟩:=h
  ·exact ⟨hl,Or.inl hz⟩
  ·exact ⟨hl,Or.inr ⟨g,cap,cur,hv,Nat.le_trans hB hb,rest⟩⟩,fun b hb=>by unfold Aj;rw [if_pos (h.lt b hb).1]⟩
def Gp (xs:List Int):List Value:=xs.map (Value.int .u8)
theorem Ot (xs:List Int):∀ u ∈ Gp xs,u.oneCell' = true:=by
 intro u hu;obtain ⟨x,_,rfl⟩:=List.mem_map.1 hu;rfl
theorem reads_held {w:World} {v:Value} {xs:List Int} (h:Held w v xs):Reads w 1 v xs.length (Gp xs):=by
 refine ⟨by simp [Gp],Ot xs,?_⟩;obtain ⟨_,⟨rfl,rfl | ⟨a,cap,rfl,hc⟩⟩ | ⟨hp,b,off,cap,rfl,hc,hm,hlt,hcell⟩⟩:=h
 ·exact Or.inl ⟨rfl,_,_,rfl,by decide⟩
 ·exact Or.inl ⟨rfl,_,_,rfl,hc⟩
 ·refine Or.inr ⟨hp,b,off,cap,rfl,hlt,hm,hc,fun j u hj=>?_⟩
  have hjl:j < xs.length:=by
   by_cases hh:j < xs.length
   ·exact hh
   ·rw [List.getElem?_eq_none (by simp [Gp];omega)] at hj;cases hj
  rw [hcell j hjl];simp [Gp,hjl] at hj;simp [List.getD,hjl,hj]
structure O4 (w wr:World) (ρ ρ':Nat->Nat) (r i:Nat) (s3:Value) (vals':List Value) (rows:List (List Int)):Prop where
 bel:Below w.heap.size w wr
 role:∀ b,b < w.heap.size->ρ' b = ρ b
 list:Bf wr w.heap.size ρ' r 22 1 s3 i vals'
 item:∀ k (h:k < rows.length),k < i->∃ u,vals'[k]? = some u/\Bf wr w.heap.size ρ' (r + 1 + k) 5 1 u rows[k].length (Gp rows[k])
theorem O4.begin (w:World) (ρ:Nat->Nat) (r:Nat) (rows:List (List Int)):O4 w w ρ ρ r 0 (.slice none 0 0) [] rows:=
 ⟨Below.refl _ _,fun _ _=>rfl,⟨World.ownsRow_nil _ _ _ _,fun b hb=>by cases hb⟩,fun k _ hk=>absurd hk (by omega)⟩
theorem O4.clone {w wr w1:World} {ρ ρ':Nat->Nat} {r i:Nat} {s3:Value} {vals':List Value} {rows:List (List Int)} (h:O4 w wr ρ ρ' r i s3 vals' rows) (hB:Below wr.heap.size wr w1) :
 O4 w w1 ρ (Aj ρ' wr.heap.size (r + 1 + i)) r i s3 vals' rows:=
 ⟨h.bel.trans (hB.mono h.bel.size),fun b hb=>by unfold Aj;rw [if_neg (by have:=h.bel.size;omega)];exact h.role b hb,h.list.role hB _,fun k hk hki=>by
  obtain ⟨u,hu,ho⟩:=h.item k hk hki;exact ⟨u,hu,ho.role hB _⟩⟩
theorem O4.alloc {w wr:World} {ρ ρ':Nat->Nat} {r i:Nat} {s3:Value} {vals':List Value} {rows:List (List Int)} (h:O4 w wr ρ ρ' r i s3 vals' rows) (o:Obj):O4 w (wr.alloc o) ρ ρ' r i s3 vals' rows:=
 have hB:=(Below.refl wr.heap.size wr).alloc nl o
 ⟨h.bel.trans (hB.mono h.bel.size),h.role,h.list.below hB,fun k hk hki=>by
  obtain ⟨u,hu,ho⟩:=h.item k hk hki;exact ⟨u,hu,ho.below hB⟩⟩
theorem O4.append {w wr w2:World} {ρ ρ':Nat->Nat} {r i:Nat} {s3 v1:Value} {vals':List Value} {rows:List (List Int)} (h:O4 w wr ρ ρ' r i s3 vals' rows) (hi:i < rows.length)
 (h1:Bf wr w.heap.size ρ' (r + 1 + i) 5 1 v1 rows[i].length (Gp rows[i])) {g cap:Nat}
 (hown:w2.ownsRow w.heap.size 22 1 (.slice (some ⟨g,0,none⟩) (i + 1) cap) (i + 1) (vals' ++ [v1])) (hgrow:wr.grownBy w2 s3.ownBlock) (hnew:s3.ownBlock = some g\/g = wr.heap.size) :
 O4 w w2 ρ (fun b=>if b = g then r else ρ' b) r (i + 1) (.slice (some ⟨g,0,none⟩) (i + 1) cap) (vals' ++ [v1]) rows:=by
 have hl:=h.list.1.1
 have Avd:∀ {k:Nat} {u:Value} {n:Nat} {xs:List Value},Bf wr w.heap.size ρ' (r + 1 + k) 5 1 u n xs->Bf w2 w.heap.size (fun b=>if b = g then r else ρ' b) (r + 1 + k) 5 1 u n xs:=by
  intro k u n xs ho;refine ho.move fun q hq hr=>?_
  have hne:s3.ownBlock ≠ some q:=fun hc=>by
   have:=h.list.2 q hc;omega
  refine ⟨hgrow.block q hq (Ne.symm hne),?_⟩;show (if q = g then r else ρ' q) = _;rw [if_neg fun hc=>?_]
  ·exact hr
  ·subst hc
   rcases hnew with hn | hn
   ·exact hne hn
   ·omega
 refine ⟨Below.grown h.bel hgrow h.bel.size fun b hb=>(h.list.1.lt b hb).1,fun b hb=>?_,⟨hown,fun b hb=>by cases hb;exact if_pos rfl⟩,fun k hk hki=>?_⟩
 ·show (if b = g then r else ρ' b) = _
  have:b ≠ g:=by
   have:=(hown.lt g rfl).1;omega
  rw [if_neg this];exact h.role b hb
 ·by_cases hke:k = i
  ·subst hke;exact ⟨v1,by rw [List.getElem?_append_right (by omega),show k - vals'.length = 0 by omega];rfl,Avd h1⟩
  ·obtain ⟨u,hu,ho⟩:=h.item k hk (by omega);exact ⟨u,by rw [List.getElem?_append_left (by omega)];exact hu,Avd ho⟩
theorem Akq:(prog.info? 22).map (fun i=>(i.zero,i.size,i.bytes)) = some (some (.slice none 0 0),1,24):=by kernel_rfl
theorem Uu (v:Value) (vals:List Value) (rows:List (List Int)) (hl:rows.length <= 1000000) (hb:∀ i (h:i < rows.length),rows[i].length <= 140737488355328) (w:World) (h:Es w v vals rows) (ρ:Nat->Nat) (r:Nat) :
 Calls prog 33 #[v] w fun e w'=>∃ v' vals' ρ',e = .returned v'/\O4 w w' ρ ρ' r rows.length v' vals' rows:=by
 obtain ⟨i0,hi0,hz0,hz1,hz2⟩:=Gx Akq;obtain ⟨a,cap,rfl,hc⟩:=h.open;obtain ⟨n,hn⟩:∃ n,n = rows.length:=⟨_,rfl⟩;rw [<- hn] at hl ⊢;have HC:=hid hc;have HN:=hid hn;have HLB:=hid hb;clear hc hn h hb;go_enter func33,ntmps33;go_wp2
 go_loopw [3,8] (fun s3 s wr=>∃ (i:Nat) (vals':List Value) (ρ':Nat->Nat),i <= n/\s = .int .i64 i/\O4 w wr ρ ρ' r i s3 vals' rows) (fun _ s _=>n - (intOf s).toNat)
 case atStart=>exact ⟨0,[],ρ,Nat.zero_le _,rfl,O4.begin w ρ r rows⟩
 case round=>
  obtain ⟨i,vals',ρ',hi,rfl,hS⟩:=hrel;have HS:=hid hS;clear hS
  by_cases hlt:i < n
  ·obtain ⟨b,off,u,rfl,hb,hu,e0',hH⟩:=HC.out i (by rw [<- HN.out];exact hlt);have e0:wr.cell? ⟨b,off + i,none⟩ = some u:=(HS.out.bel.cell (p:=⟨b,off + i,none⟩) hb).trans e0';have hcl:=fun w' (h:Reads w' 1 u (rows[i]'(by rw [<- HN.out];exact hlt)).length (Gp (rows[i]'(by rw [<- HN.out];exact hlt))))=>Iw u _ _ w' h (by have:=HLB.out i (by rw [<- HN.out];exact hlt);omega);have hrd:=(reads_held hH).below HS.out.bel nl;have HCL:=hid hcl;have HRD:=hid hrd;clear hcl hrd e0' hH hu;have hj1:(0:Int) <= (i:Int):=by omega
   have hj3:(i:Int) < n:=by omega
   go_wp2_with fail;refine (HCL.out _ HRD.out).mono ?_;rintro e w1 ⟨v1,rfl,hown1,hB1⟩;obtain ⟨a1,n1,c1,rfl⟩:∃ a1 n1 c1,v1 = .slice a1 n1 c1:=by rcases hown1.2 with ⟨rfl,_⟩ | ⟨g,c,cur,rfl,_⟩ <;> exact ⟨_,_,_,rfl⟩
   have hS1:=HS.out.clone hB1;have hO1:=Jl (base:=w.heap.size) hown1 HS.out.bel.size ρ' (r + 1 + i);have hS2:=hS1.alloc (.cells #[.slice a1 n1 c1] 22);have hO2:=hO1.below ((Below.refl w1.heap.size w1).alloc nl (.cells #[.slice a1 n1 c1] 22))
   have hnews:∀ (j:Nat) (x:Value),[Value.slice a1 n1 c1][j]? = some x->(w1.alloc (.cells #[.slice a1 n1 c1] 22)).cell? ((⟨w1.heap.size,0,none⟩:Addr).add j) = some x:=by
    intro j x hx
    have hj:j = 0:=by cases j with
     | zero=>rfl
     | succ j=>simp at hx
    subst hj;simp at hx;rw [<- hx];show (w1.alloc (.cells #[.slice a1 n1 c1] 22)).cell? ⟨w1.heap.size,0,none⟩ = _;rw [(Row.made w1 [.slice a1 n1 c1] 22).cell];rfl
   have hone:∀ x ∈ [Value.slice a1 n1 c1],x.oneCell' = true:=by
    intro x hx;simp at hx;subst hx;rfl
   have HS2:=hid hS2;have HO2:=hid hO2;have J8:=hid (show i < rows.length by rw [<- HN.out];exact hlt);have hm1:i + 1 <= maxLen:=by unfold maxLen;omega
   have hm2:(i + 1) * 24 <= 140737488355328:=by omega
   have Lp:w.heap.size <= (w1.alloc (.cells #[.slice a1 n1 c1] 22)).heap.size:=hS2.bel.size;have Ru:=hid Lp;clear hS1 hO1 hS2 hO2 hown1 hB1 Lp e0;go_wp2_with (at_builtin;refine Hg rfl (.tmp 12) (.tmp 15) 27 rfl w.heap.size 22 i0 (.slice none 0 0) 24 underlying27 hi0 hz0 hz1 hz2 rfl _ i _ rfl HS2.out.list.1 ⟨w1.heap.size,0,none⟩ 1 1 [.slice a1 n1 c1] rfl rfl hnews hone (by decide) hm1 hm2 Ru.out ?_;intro g2 cap2 w2 hown hgrow hnew hlt2 hkeep);have HS3:=hid (HS2.out.append J8.out HO2.out hown hgrow hnew);clear hown hgrow hnew hlt2 hkeep hnews hone;go_wp2
   go_roundw
   case rel=>exact ⟨i + 1,_,_,hlt,by go_num,HS3.out⟩
   case measure=>simp [intOf];omega
  ·obtain rfl:i = n:=by omega
   go_wp2;go_ret
   exact ⟨_,_,_,rfl,HS.out⟩
def mrow (st:List Value) (xv tv dv zv cv uv bg:Value) (rg:List Value) (sv:Value) (at' steps:Int) (done:Bool):List Value:=
 st ++ ([xv,tv,dv,zv,cv,uv,bg] ++ (rg ++ [sv,.int .i64 at',.int .i64 steps,.bool done]))
def zslot:List Value:=[.int .i64 0,.int .i64 0,.int .i64 0,.int .i64 0,.int .u8 0,.int .u8 0,.int .u8 0,.int .u8 0,.int .u8 0,.int .u8 0,.int .u8 0,.int .u8 0,.int .i64 0]
def Ez:List Value:=(List.replicate 32 zslot).flatten
def G6:List Value:=List.replicate 44 (.int .i64 0)
def Bd:Value:=.slice none 0 0
theorem Am7 (ca ua:Option Addr) (cn cc un uc:Nat) (mb:Option Nat) :
 prog.built 87 [(1,.slice ca cn cc),(2,.slice ua un uc),(3,.map mb)] = some (mrow Ez Bd Bd Bd Bd (.slice ca cn cc) (.slice ua un uc) (.map mb) G6 Bd 0 0 false).toArray:=by
 kernel_rfl
theorem Am8 (cv uv bg:Value):((Tryz.zeroCells87.setIfInBounds 420 cv).setIfInBounds 421 uv).setIfInBounds 422 bg = (mrow Ez Bd Bd Bd Bd cv uv bg G6 Bd 0 0 false).toArray:=by
 kernel_rfl
theorem Atv (ca ua:Option Addr) (cn cc un uc:Nat) (mb:Option Nat) (w:World) :
 (Instr.build 87 #[(1,.slice ca cn cc),(2,.slice ua un uc),(3,.map mb)]).run prog w = .ok (.agg (mrow Ez Bd Bd Bd Bd (.slice ca cn cc) (.slice ua un uc) (.map mb) G6 Bd 0 0 false).toArray) w:=
 run_build w _ _ _ (Am7 ca ua cn cc un uc mb)
structure NB (b:Nat) (w:World) (lo hi:Int) (dv tv cv xv rv:Value) (w':World):Prop where
 rp:Row w' b 26 (Yi lo hi dv tv cv)
 ri:Row w' (b + 1) 29 (Acd xv rv)
 bel:Below b w w'
theorem NB.below {b:Nat} {w w1 w2:World} {lo hi:Int} {dv tv cv xv rv:Value} (h:NB b w lo hi dv tv cv xv rv w1) (hB:Below w1.heap.size w1 w2):NB b w lo hi dv tv cv xv rv w2:=
 ⟨h.rp.below hB h.rp.lt,h.ri.below hB h.ri.lt,h.bel.trans (hB.mono (Nat.le_of_lt h.rp.lt))⟩
theorem NB.k4 {b:Nat} {w w1:World} {lo hi:Int} {dv tv cv xv rv:Value} (h:NB b w lo hi dv tv cv xv rv w1):w1.cell? ⟨b,4,none⟩ = some cv/\NB b w lo hi dv tv cv xv rv w1:=⟨(Iq h.rp).2.2.2.2,h⟩
theorem NB.n4 {b:Nat} {w w1 w2:World} {lo hi:Int} {dv tv cv xv rv:Value} (h:w1.cell? ⟨b,4,none⟩ = some cv/\NB b w lo hi dv tv cv xv rv w1) (hB:Below w1.heap.size w1 w2):w2.cell? ⟨b,4,none⟩ = some cv/\NB b w lo hi dv tv cv xv rv w2:=(h.2.below hB).k4
theorem Ai {w:World} {base size n:Nat} {e:TypeId} {v:Value} {xs:List Value} (h:w.ownsRow base e size v n xs):∃ a c,v = .slice a n c:=by
 rcases h.2 with ⟨rfl,rfl⟩ | ⟨g,c,cur,rfl,_⟩
 ·exact ⟨_,_,rfl⟩
 ·exact ⟨_,_,rfl⟩
structure O5 (w:World) (base:Nat) (ρ:Nat->Nat) (r mb:Nat) (es:Array MapEntry) (c:Nat):Prop where
 at':w.heap[mb]? = some (.map es c)
 le:base <= mb
 role:ρ mb = r
theorem O5.lt {w:World} {base:Nat} {ρ:Nat->Nat} {r mb:Nat} {es:Array MapEntry} {c:Nat} (h:O5 w base ρ r mb es c):mb < w.heap.size:=(Array.getElem?_eq_some_iff.1 h.at').1
theorem O5.next {w w':World} {base:Nat} {ρ:Nat->Nat} {r mb:Nat} {es:Array MapEntry} {c:Nat} (h:O5 w base ρ r mb es c) (hb:Below w.heap.size w w') (r':Nat):O5 w' base (Aj ρ w.heap.size r') r mb es c:=
 ⟨(hb.block mb h.lt).trans h.at',h.le,by unfold Aj;rw [if_neg (by have:=h.lt;omega)];exact h.role⟩
theorem O5.made (w:World) (base:Nat) (hb:base <= w.heap.size) (ρ:Nat->Nat) (r:Nat):O5 (w.alloc (.map #[] 0)) base (Aj ρ w.heap.size r) r w.heap.size #[] 0:=
 ⟨heap_alloc_new w _,hb,by unfold Aj;rw [if_pos nl]⟩
theorem F7 {ρ:Nat->Nat} {s r b q:Nat} (h:b <= s) (hq:q < b):Aj ρ s r q = ρ q:=by unfold Aj;rw [if_neg (by omega)]
theorem Bf.next {w w':World} {base size n:Nat} {ρ ρ':Nat->Nat} {r:Nat} {e:TypeId} {v:Value} {xs:List Value} (h:Bf w base ρ r e size v n xs) (hb:Below w.heap.size w w') (ha:∀ q,q < w.heap.size->ρ' q = ρ q):Bf w' base ρ' r e size v n xs:=
 h.move fun q hq hr=>⟨hb.block q hq,(ha q hq).trans hr⟩
theorem Bf.set {w:World} {base size n:Nat} {ρ:Nat->Nat} {r:Nat} {e:TypeId} {v:Value} {xs:List Value} (h:Bf w base ρ r e size v n xs) (a:Addr) (x:Value) (hr:ρ a.block ≠ r):Bf (w.setCell a x) base ρ r e size v n xs:=
 h.move fun q hq hqr=>⟨Below.heap_setCell _ _ _ _ (fun hc=>hr (by rw [<- hc];exact hqr)),hqr⟩
theorem O5.Akr {w w':World} {base:Nat} {ρ ρ':Nat->Nat} {r mb:Nat} {es:Array MapEntry} {c:Nat} (h:O5 w base ρ r mb es c) (hb:Below w.heap.size w w') (ha:∀ q,q < w.heap.size->ρ' q = ρ q):O5 w' base ρ' r mb es c:=
 ⟨(hb.block mb h.lt).trans h.at',h.le,(ha mb h.lt).trans h.role⟩
theorem O5.set {w:World} {base:Nat} {ρ:Nat->Nat} {r mb:Nat} {es:Array MapEntry} {c:Nat} (h:O5 w base ρ r mb es c) (a:Addr) (x:Value) (hr:ρ a.block ≠ r):O5 (w.setCell a x) base ρ r mb es c:=
 ⟨(Below.heap_setCell _ _ _ _ (fun hc=>hr (by rw [<- hc];exact h.role))).trans h.at',h.le,h.role⟩
structure MB (b:Nat) (w:World) (ρ:Nat->Nat) (lo hi:Int) (dv tv cv xv rv:Value) (nc:Nat) (code:List Ins) (ρ':Nat->Nat) (bx mb:Nat) (es:Array MapEntry) (ec:Nat) (cs:List Value) (cv' uv':Value) (wx:World):Prop where
 nb:NB b w lo hi dv tv cv xv rv wx
 box:Row wx bx 87 cs
 Io:Bf wx b ρ' 5 70 8 cv' nc (Dj code)
 Gq:Bf wx b ρ' 6 3 1 uv' (nc + 1) (Ws (nc + 1) fun k=>Bl code k)
 begin':O5 wx (b + 2) ρ' 8 mb es ec
 le:b + 2 <= bx
 rb:ρ' bx = 0
 rr:∀ q,q < b->ρ' q = ρ q
theorem MB.next {b:Nat} {w:World} {ρ:Nat->Nat} {lo hi:Int} {dv tv cv xv rv:Value} {nc:Nat} {code:List Ins} {ρ1 ρ2:Nat->Nat} {bx mb:Nat} {es:Array MapEntry} {ec:Nat} {cs:List Value} {cv' uv':Value} {w1 w2:World}
 (h:MB b w ρ lo hi dv tv cv xv rv nc code ρ1 bx mb es ec cs cv' uv' w1) (hb:Below w1.heap.size w1 w2) (ha:∀ q,q < w1.heap.size->ρ2 q = ρ1 q):MB b w ρ lo hi dv tv cv xv rv nc code ρ2 bx mb es ec cs cv' uv' w2:=
 ⟨h.nb.below hb,h.box.below hb h.box.lt,h.Io.next hb ha,h.Gq.next hb ha,h.begin'.Akr hb ha,h.le,(ha bx h.box.lt).trans h.rb,fun q hq=>(ha q (by have:=h.nb.rp.lt;omega)).trans (h.rr q hq)⟩
theorem MB.set {b:Nat} {w:World} {ρ:Nat->Nat} {lo hi:Int} {dv tv cv xv rv:Value} {nc:Nat} {code:List Ins} {ρ1:Nat->Nat} {bx mb:Nat} {es:Array MapEntry} {ec:Nat} {cs:List Value} {cv' uv':Value} {w1:World}
 (h:MB b w ρ lo hi dv tv cv xv rv nc code ρ1 bx mb es ec cs cv' uv' w1) (i:Nat) (x:Value):MB b w ρ lo hi dv tv cv xv rv nc code ρ1 bx mb es ec (cs.set i x) cv' uv' (w1.setCell ⟨bx,i,none⟩ x):=
 have hle:=h.le
 ⟨⟨h.nb.rp.other _ _ (by show b ≠ bx; omega), h.nb.ri.other _ _ (by show b + 1 ≠ bx; omega), h.nb.bel.setCell (by show b ≤ bx; omega) _⟩, h.box.put i x, h.Io.set _ _ (by show ρ1 bx ≠ 5; rw [h.rb]; decide), h.Gq.set _ _ (by show ρ1 bx ≠ 6; rw [h.rb]; decide),
   h.begin'.set _ _ (by show ρ1 bx ≠ 8;rw [h.rb];decide),h.le,h.rb,h.rr⟩
theorem NB.Am9 {b:Nat} {w w1:World} {lo hi:Int} {dv tv cv xv rv:Value} (h:NB b w lo hi dv tv cv xv rv w1) {bx:Nat} (hx:b + 2 <= bx) (i:Nat) (x:Value):NB b w lo hi dv tv cv xv rv (w1.setCell ⟨bx,i,none⟩ x):=
 ⟨h.rp.other _ _ (by show b ≠ bx;omega),h.ri.other _ _ (by show b + 1 ≠ bx;omega),h.bel.setCell (by show b <= bx;omega) _⟩
structure F9 (w:World) (base:Nat) (ρ:Nat->Nat) (tv':Value) (vals':List Value) (rows:List (List Int)):Prop where
 list:Bf w base ρ 10 22 1 tv' rows.length vals'
 item:∀ k (h:k < rows.length),∃ u,vals'[k]? = some u/\Bf w base ρ (11 + k) 5 1 u rows[k].length (Gp rows[k])
theorem F9.next {w w':World} {base:Nat} {ρ ρ':Nat->Nat} {tv':Value} {vals':List Value} {rows:List (List Int)} (h:F9 w base ρ tv' vals' rows) (hb:Below w.heap.size w w') (ha:∀ q,q < w.heap.size->ρ' q = ρ q):F9 w' base ρ' tv' vals' rows:=
 ⟨h.list.next hb ha,fun k hk=>let ⟨u,hu,ho⟩:=h.item k hk;⟨u,hu,ho.next hb ha⟩⟩
theorem F9.set {w:World} {base:Nat} {ρ:Nat->Nat} {tv':Value} {vals':List Value} {rows:List (List Int)} (h:F9 w base ρ tv' vals' rows) (a:Addr) (x:Value) (hr:ρ a.block < 10):F9 (w.setCell a x) base ρ tv' vals' rows:=
 ⟨h.list.set a x (by omega),fun k hk=>let ⟨u,hu,ho⟩:=h.item k hk;⟨u,hu,ho.set a x (by omega)⟩⟩
theorem Bf.low {w:World} {base base' size n:Nat} {ρ:Nat->Nat} {r:Nat} {e:TypeId} {v:Value} {xs:List Value} (h:Bf w base ρ r e size v n xs) (hb:base' <= base):Bf w base' ρ r e size v n xs:=
 ⟨by
  obtain ⟨⟨hl,hz | ⟨g,cap,cur,hv,hb',rest⟩⟩,_⟩:=h
  ·exact ⟨hl,Or.inl hz⟩
  ·exact ⟨hl,Or.inr ⟨g,cap,cur,hv,Nat.le_trans hb hb',rest⟩⟩,h.2⟩
theorem Atw {w wT:World} {base:Nat} {ρ ρ':Nat->Nat} {tv':Value} {vals':List Value} {rows:List (List Int)} (h:O4 w wT ρ ρ' 10 rows.length tv' vals' rows) (hb:base <= w.heap.size):F9 wT base ρ' tv' vals' rows:=
 ⟨h.list.low hb,fun k hk=>let ⟨u,hu,ho⟩:=h.item k hk hk;⟨u,hu,ho.low hb⟩⟩
theorem NB.n01 {b:Nat} {w w1 w2:World} {lo hi:Int} {dv tv cv xv rv:Value} (h:w1.cell? ⟨b + 1,0,none⟩ = some xv/\w1.cell? ⟨b + 1,1,none⟩ = some rv/\NB b w lo hi dv tv cv xv rv w1) (hB:Below w1.heap.size w1 w2) :
 w2.cell? ⟨b + 1,0,none⟩ = some xv/\w2.cell? ⟨b + 1,1,none⟩ = some rv/\NB b w lo hi dv tv cv xv rv w2:=⟨(Jk (h.2.2.below hB).ri).1,(Jk (h.2.2.below hB).ri).2,h.2.2.below hB⟩
theorem NB.s01 {b:Nat} {w w1:World} {lo hi:Int} {dv tv cv xv rv:Value} (h:w1.cell? ⟨b + 1,0,none⟩ = some xv/\w1.cell? ⟨b + 1,1,none⟩ = some rv/\NB b w lo hi dv tv cv xv rv w1) {bx:Nat} (hx:b + 2 <= bx) (i:Nat) (x:Value) :
 (w1.setCell ⟨bx,i,none⟩ x).cell? ⟨b + 1,0,none⟩ = some xv/\(w1.setCell ⟨bx,i,none⟩ x).cell? ⟨b + 1,1,none⟩ = some rv/\NB b w lo hi dv tv cv xv rv (w1.setCell ⟨bx,i,none⟩ x):=⟨(Jk (h.2.2.Am9 hx i x).ri).1,(Jk (h.2.2.Am9 hx i x).ri).2,h.2.2.Am9 hx i x⟩
theorem NB.n23 {b:Nat} {w w1 w2:World} {lo hi:Int} {dv tv cv xv rv:Value} (h:w1.cell? ⟨b,2,none⟩ = some dv/\w1.cell? ⟨b,3,none⟩ = some tv/\NB b w lo hi dv tv cv xv rv w1) (hB:Below w1.heap.size w1 w2) :
 w2.cell? ⟨b,2,none⟩ = some dv/\w2.cell? ⟨b,3,none⟩ = some tv/\NB b w lo hi dv tv cv xv rv w2:=⟨(Iq (h.2.2.below hB).rp).2.2.1,(Iq (h.2.2.below hB).rp).2.2.2.1,h.2.2.below hB⟩
theorem NB.s23 {b:Nat} {w w1:World} {lo hi:Int} {dv tv cv xv rv:Value} (h:w1.cell? ⟨b,2,none⟩ = some dv/\w1.cell? ⟨b,3,none⟩ = some tv/\NB b w lo hi dv tv cv xv rv w1) {bx:Nat} (hx:b + 2 <= bx) (i:Nat) (x:Value) :
 (w1.setCell ⟨bx,i,none⟩ x).cell? ⟨b,2,none⟩ = some dv/\(w1.setCell ⟨bx,i,none⟩ x).cell? ⟨b,3,none⟩ = some tv/\NB b w lo hi dv tv cv xv rv (w1.setCell ⟨bx,i,none⟩ x):=⟨(Iq (h.2.2.Am9 hx i x).rp).2.2.1,(Iq (h.2.2.Am9 hx i x).rp).2.2.2.1,h.2.2.Am9 hx i x⟩
theorem Bo {ρ:Nat->Nat} {s r:Nat}:∀ q,q < s->Aj ρ s r q = ρ q:=fun q hq=>by unfold Aj;rw [if_neg (by omega)]
theorem Ae (w:World) (o:Obj):Below w.heap.size w (w.alloc o):=(Below.refl _ _).alloc nl _
theorem Azz {b:Nat} {w v0 wC wU:World} {ρ:Nat->Nat} {lo hi:Int} {dv tv cv xv rv:Value} {nc:Nat} {code:List Ins} {cv' uv':Value} (h:NB b w lo hi dv tv cv xv rv v0)
 (hbC:Below (v0.alloc (.map #[] 0)).heap.size (v0.alloc (.map #[] 0)) wC) (hC:wC.ownsRow (v0.alloc (.map #[] 0)).heap.size 70 8 cv' nc (Dj code)) (hbU:Below wC.heap.size wC wU) (hU:wU.ownsRow wC.heap.size 3 1 uv' (nc + 1) (Ws (nc + 1) fun k=>Bl code k)) :
 ∃ ρ',MB b w ρ lo hi dv tv cv xv rv nc code ρ' wU.heap.size v0.heap.size #[] 0 (mrow Ez Bd Bd Bd Bd cv' uv' (.map (some v0.heap.size)) G6 Bd 0 0 false) cv' uv' (wU.alloc (.cells (mrow Ez Bd Bd Bd Bd cv' uv' (.map (some v0.heap.size)) G6 Bd 0 0 false).toArray 87)):=by
 have s0:b <= v0.heap.size:=Nat.le_of_lt h.rp.lt;have n0:=h;have m0:=O5.made v0 (b + 2) n0.ri.lt ρ 8;have n1:=n0.below (Ae v0 (.map #[] 0));have s1:b <= (v0.alloc (.map #[] 0)).heap.size:=Nat.le_of_lt n1.rp.lt;have m1:=m0.next hbC 5;have c1:=Jl (base:=b) hC s1 (Aj ρ v0.heap.size 8) 5;have n2:=n1.below hbC;have s2:b <= wC.heap.size:=Nat.le_of_lt n2.rp.lt;have m2:=m1.next hbU 6;have c2:=c1.role hbU 6;have u2:=Jl (base:=b) hU s2 (Aj (Aj ρ v0.heap.size 8) (v0.alloc (.map #[] 0)).heap.size 5) 6;have n3:=n2.below hbU;have s3:b <= wU.heap.size:=Nat.le_of_lt n3.rp.lt;exact ⟨(Aj (Aj (Aj (Aj ρ v0.heap.size 8) (v0.alloc (.map #[] 0)).heap.size 5) wC.heap.size 6) wU.heap.size 0),n3.below (Ae wU (.cells (mrow Ez Bd Bd Bd Bd cv' uv' (.map (some v0.heap.size)) G6 Bd 0 0 false).toArray 87)),Row.made _ _ _,c2.role (Ae wU (.cells (mrow Ez Bd Bd Bd Bd cv' uv' (.map (some v0.heap.size)) G6 Bd 0 0 false).toArray 87)) 0,u2.role (Ae wU (.cells (mrow Ez Bd Bd Bd Bd cv' uv' (.map (some v0.heap.size)) G6 Bd 0 0 false).toArray 87)) 0,m2.next (Ae wU (.cells (mrow Ez Bd Bd Bd Bd cv' uv' (.map (some v0.heap.size)) G6 Bd 0 0 false).toArray 87)) 0,n3.ri.lt,by unfold Aj;rw [if_pos nl],fun q hq=>by rw [F7 s3 hq,F7 s2 hq,F7 s1 hq,F7 s0 hq]⟩
theorem Az0 {b:Nat} {w v0 wC wU:World} {ρ:Nat->Nat} {lo hi:Int} {dv tv cv xv rv:Value} {nc:Nat} {code:List Ins} {cv' uv':Value} (h:NB b w lo hi dv tv cv xv rv v0)
 (hbC:Below v0.heap.size v0 wC) (hC:wC.ownsRow v0.heap.size 70 8 cv' nc (Dj code)) (hbU:Below (wC.alloc (.map #[] 0)).heap.size (wC.alloc (.map #[] 0)) wU) (hU:wU.ownsRow (wC.alloc (.map #[] 0)).heap.size 3 1 uv' (nc + 1) (Ws (nc + 1) fun k=>Bl code k)) :
 ∃ ρ',MB b w ρ lo hi dv tv cv xv rv nc code ρ' wU.heap.size wC.heap.size #[] 0 (mrow Ez Bd Bd Bd Bd cv' uv' (.map (some wC.heap.size)) G6 Bd 0 0 false) cv' uv' (wU.alloc (.cells (mrow Ez Bd Bd Bd Bd cv' uv' (.map (some wC.heap.size)) G6 Bd 0 0 false).toArray 87)):=by
 have s0:b <= v0.heap.size:=Nat.le_of_lt h.rp.lt;have n0:=h;have c0:=Jl (base:=b) hC s0 ρ 5;have n1:=n0.below hbC;have s1:b <= wC.heap.size:=Nat.le_of_lt n1.rp.lt;have c1:=c0.role (Ae wC (.map #[] 0)) 8;have m1:=O5.made wC (b + 2) n1.ri.lt (Aj ρ v0.heap.size 5) 8;have n2:=n1.below (Ae wC (.map #[] 0));have s2:b <= (wC.alloc (.map #[] 0)).heap.size:=Nat.le_of_lt n2.rp.lt;have c2:=c1.role hbU 6;have m2:=m1.next hbU 6;have u2:=Jl (base:=b) hU s2 (Aj (Aj ρ v0.heap.size 5) wC.heap.size 8) 6;have n3:=n2.below hbU;have s3:b <= wU.heap.size:=Nat.le_of_lt n3.rp.lt;exact ⟨(Aj (Aj (Aj (Aj ρ v0.heap.size 5) wC.heap.size 8) (wC.alloc (.map #[] 0)).heap.size 6) wU.heap.size 0),n3.below (Ae wU (.cells (mrow Ez Bd Bd Bd Bd cv' uv' (.map (some wC.heap.size)) G6 Bd 0 0 false).toArray 87)),Row.made _ _ _,c2.role (Ae wU (.cells (mrow Ez Bd Bd Bd Bd cv' uv' (.map (some wC.heap.size)) G6 Bd 0 0 false).toArray 87)) 0,u2.role (Ae wU (.cells (mrow Ez Bd Bd Bd Bd cv' uv' (.map (some wC.heap.size)) G6 Bd 0 0 false).toArray 87)) 0,m2.next (Ae wU (.cells (mrow Ez Bd Bd Bd Bd cv' uv' (.map (some wC.heap.size)) G6 Bd 0 0 false).toArray 87)) 0,n3.ri.lt,by unfold Aj;rw [if_pos nl],fun q hq=>by rw [F7 s3 hq,F7 s2 hq,F7 s1 hq,F7 s0 hq]⟩
theorem Az1 {b:Nat} {w v0 wC wU:World} {ρ:Nat->Nat} {lo hi:Int} {dv tv cv xv rv:Value} {nc:Nat} {code:List Ins} {cv' uv':Value} (h:NB b w lo hi dv tv cv xv rv v0)
 (hbC:Below v0.heap.size v0 wC) (hC:wC.ownsRow v0.heap.size 70 8 cv' nc (Dj code)) (hbU:Below wC.heap.size wC wU) (hU:wU.ownsRow wC.heap.size 3 1 uv' (nc + 1) (Ws (nc + 1) fun k=>Bl code k)) :
 ∃ ρ',MB b w ρ lo hi dv tv cv xv rv nc code ρ' (wU.alloc (.map #[] 0)).heap.size wU.heap.size #[] 0 (mrow Ez Bd Bd Bd Bd cv' uv' (.map (some wU.heap.size)) G6 Bd 0 0 false) cv' uv' ((wU.alloc (.map #[] 0)).alloc (.cells (mrow Ez Bd Bd Bd Bd cv' uv' (.map (some wU.heap.size)) G6 Bd 0 0 false).toArray 87)):=by
 have s0:b <= v0.heap.size:=Nat.le_of_lt h.rp.lt;have n0:=h;have c0:=Jl (base:=b) hC s0 ρ 5;have n1:=n0.below hbC;have s1:b <= wC.heap.size:=Nat.le_of_lt n1.rp.lt;have c1:=c0.role hbU 6;have u1:=Jl (base:=b) hU s1 (Aj ρ v0.heap.size 5) 6;have n2:=n1.below hbU;have s2:b <= wU.heap.size:=Nat.le_of_lt n2.rp.lt;have c2:=c1.role (Ae wU (.map #[] 0)) 8;have u2:=u1.role (Ae wU (.map #[] 0)) 8;have m2:=O5.made wU (b + 2) n2.ri.lt (Aj (Aj ρ v0.heap.size 5) wC.heap.size 6) 8;have n3:=n2.below (Ae wU (.map #[] 0));have s3:b <= (wU.alloc (.map #[] 0)).heap.size:=Nat.le_of_lt n3.rp.lt;exact ⟨(Aj (Aj (Aj (Aj ρ v0.heap.size 5) wC.heap.size 6) wU.heap.size 8) (wU.alloc (.map #[] 0)).heap.size 0),n3.below (Ae (wU.alloc (.map #[] 0)) (.cells (mrow Ez Bd Bd Bd Bd cv' uv' (.map (some wU.heap.size)) G6 Bd 0 0 false).toArray 87)),Row.made _ _ _,c2.role (Ae (wU.alloc (.map #[] 0)) (.cells (mrow Ez Bd Bd Bd Bd cv' uv' (.map (some wU.heap.size)) G6 Bd 0 0 false).toArray 87)) 0,u2.role (Ae (wU.alloc (.map #[] 0)) (.cells (mrow Ez Bd Bd Bd Bd cv' uv' (.map (some wU.heap.size)) G6 Bd 0 0 false).toArray 87)) 0,m2.next (Ae (wU.alloc (.map #[] 0)) (.cells (mrow Ez Bd Bd Bd Bd cv' uv' (.map (some wU.heap.size)) G6 Bd 0 0 false).toArray 87)) 0,n3.ri.lt,by unfold Aj;rw [if_pos nl],fun q hq=>by rw [F7 s3 hq,F7 s2 hq,F7 s1 hq,F7 s0 hq]⟩
def Nv (w:World) (mb:Nat) (o:Obj):World:={ w with heap:=w.heap.setIfInBounds mb o }
theorem Qq (w:World) (mb:Nat) (o:Obj) {q:Nat} (h:q ≠ mb):(Nv w mb o).heap[q]? = w.heap[q]?:=by simp [Nv,Ne.symm h]
theorem Ana {w:World} {mb:Nat} (o:Obj) (h:mb < w.heap.size):(Nv w mb o).heap[mb]? = some o:=by simp [Nv,h]
theorem Ah8 {B:Nat} {w0 w:World} (h:Below B w0 w) {mb:Nat} (hm:B <= mb) (o:Obj):Below B w0 (Nv w mb o):=
 ⟨h.os,h.tape,h.output,by have:=h.size;simpa [Nv] using this,fun k hk=>(Qq w mb o (by omega)).trans (h.block k hk)⟩
theorem jw {w:World} {b:Nat} {e:TypeId} {cs:List Value} (h:Row w b e cs) {mb:Nat} (hne:b ≠ mb) (o:Obj):Row (Nv w mb o) b e cs:=by unfold Row at h ⊢;rw [Qq w mb o hne];exact h
theorem Bf.jy {w:World} {base size n:Nat} {ρ:Nat->Nat} {r:Nat} {e:TypeId} {v:Value} {xs:List Value} (h:Bf w base ρ r e size v n xs) {mb:Nat} (hr:ρ mb ≠ r) (o:Obj):Bf (Nv w mb o) base ρ r e size v n xs:=
 h.move fun q hq hqr=>⟨Qq w mb o (fun hc=>hr (by rw [<- hc];exact hqr)),hqr⟩
theorem F9.jy {w:World} {base:Nat} {ρ:Nat->Nat} {tv':Value} {vals':List Value} {rows:List (List Int)} (h:F9 w base ρ tv' vals' rows) {mb:Nat} (hr:ρ mb < 10) (o:Obj):F9 (Nv w mb o) base ρ tv' vals' rows:=
 ⟨h.list.jy (by omega) o,fun k hk=>let ⟨u,hu,ho⟩:=h.item k hk;⟨u,hu,ho.jy (by omega) o⟩⟩
theorem MB.jy {b:Nat} {w:World} {ρ:Nat->Nat} {lo hi:Int} {dv tv cv xv rv:Value} {nc:Nat} {code:List Ins} {ρ1:Nat->Nat} {bx mb:Nat} {es:Array MapEntry} {ec:Nat} {cs:List Value} {cv' uv':Value} {w1:World}
 (h:MB b w ρ lo hi dv tv cv xv rv nc code ρ1 bx mb es ec cs cv' uv' w1) (es':Array MapEntry) (ec':Nat):MB b w ρ lo hi dv tv cv xv rv nc code ρ1 bx mb es' ec' cs cv' uv' (Nv w1 mb (.map es' ec')):=
 have hm:=h.begin'.le;have hr:=h.begin'.role
 ⟨⟨jw h.nb.rp (by omega) _, jw h.nb.ri (by omega) _, Ah8 h.nb.bel (by omega) _⟩, jw h.box (fun hc => by have := h.rb; rw [hc, hr] at this; cases this) _, h.Io.jy (by rw [hr]; decide) _, h.Gq.jy (by rw [hr]; decide) _,
   ⟨Ana _ h.begin'.lt,hm,hr⟩,h.le,h.rb,h.rr⟩
def Le (code:List Ins) (i:Nat):Array MapEntry:=((List.range i).map fun k=>{ key:=.int .i64 (Bl code k:Nat),val:=.int .i64 (k:Nat),born:=k }).toArray
theorem Ah9 (code:List Ins) (i:Nat):(Le code i).push { key:=.int .i64 (Bl code i:Nat),val:=.int .i64 (i:Nat),born:=i } = Le code (i + 1):=by
 simp [Le,List.range_succ]
theorem Uw (l:List Ins) (i:Nat):∀ j,i < j->Bl l i < Bl l j:=by
 intro j
 induction j with
 | zero=>intro h;omega
 | succ j ih =>
   intro h
   have hs:Bl l j < Bl l (j + 1):=by
    show _ < Bl l j + _
    split <;> omega
   by_cases hj:i = j
   ·subst hj;exact hs
   ·exact Nat.lt_trans (ih (by omega)) hs
theorem Yk (u:Int):∀ (l:List MapEntry) (i:Nat),(∀ e ∈ l,∃ x:Int,e.key = .int .i64 x/\x ≠ u)->Instr.findNow (.int .i64) (.int .i64 u) l i = some none
 | [],_,_=>rfl
 | e :: l, i, h => by
   obtain ⟨x,hx,hne⟩:=h e (List.mem_cons_self ..)
   have hq:Instr.sameNow (.int .i64) (.int .i64 u) e.key = some false:=by
    rw [hx];show (if IntKind.i64 = IntKind.i64 then some (u == x) else none) = _;rw [if_pos rfl];have:(u == x) = false:=by simp;exact fun hc=>hne hc.symm
    rw [this]
   show (match Instr.sameNow (.int .i64) (.int .i64 u) e.key with
    | some true=>some (some (i,e.val))
    | some false=>Instr.findNow (.int .i64) (.int .i64 u) l (i + 1)
    | none=>none) = _
   rw [hq];exact Yk u l (i + 1) fun e he=>h e (List.mem_cons_of_mem _ he)
theorem Ap5 (code:List Ins) (i:Nat):Instr.findNow (.int .i64) (.int .i64 (Bl code i:Nat)) (Le code i).toList 0 = some none:=by
 apply Yk
 intro e he;simp only [Le,List.mem_map,List.mem_range] at he;obtain ⟨k,hk,rfl⟩:=he;exact ⟨_,rfl,by have:=Uw code k i hk;omega⟩
theorem Aia {P:Program} {t kt et:TypeId} (hm:P.underlying t = some (.map kt et)) (hk:P.underlying kt = some (.int .i64)) (w:World) (mb:Nat) (es:Array MapEntry) (c:Nat) (h1:w.heap[mb]? = some (.map es c)) (k:Int) (v:Value)
 (hf:Instr.findNow (.int .i64) (.int .i64 k) es.toList 0 = some none) :
 (Instr.mapUpdate t (.map (some mb)) (.int .i64 k) v).run P w = .ok () (Nv w mb (.map (es.push { key:=.int .i64 k,val:=v,born:=c }) (c + 1))):=by
 simp [Instr.mapUpdate,run_underlying hm,MapKept.run_getObj_map h1,Ug hk,MapKept.run_findKey hk hf,MapKept.run_setObj_map _ h1,Result.andThen];rfl
theorem Td {w:World} {base size n:Nat} {e:TypeId} {v:Value} {xs:List Value} (h:w.ownsRow base e size v n xs) (hn:0 < n):∃ g c,v = .slice (some ⟨g,0,none⟩) n c:=by
 rcases h.2 with ⟨rfl,rfl⟩ | ⟨g,c,cur,rfl,_⟩
 ·omega
 ·exact ⟨_,_,rfl⟩
theorem Et:Ez.length = 416:=by kernel_rfl
theorem Anb {st rg:List Value} (hs:st.length = 416) (xv tv dv zv cv uv bg sv:Value) (at' steps:Int) (done:Bool) (v:Value):(mrow st xv tv dv zv cv uv bg rg sv at' steps done).set 416 v = mrow st v tv dv zv cv uv bg rg sv at' steps done:=by
 unfold mrow;rw [List.set_append_right _ _ (by omega),hs];rfl
theorem Anc {st rg:List Value} (hs:st.length = 416) (xv tv dv zv cv uv bg sv:Value) (at' steps:Int) (done:Bool) (v:Value):(mrow st xv tv dv zv cv uv bg rg sv at' steps done).set 417 v = mrow st xv v dv zv cv uv bg rg sv at' steps done:=by
 unfold mrow;rw [List.set_append_right _ _ (by omega),hs];rfl
theorem Ane {st rg:List Value} (hs:st.length = 416) (xv tv dv zv cv uv bg sv:Value) (at' steps:Int) (done:Bool) (v:Value):(mrow st xv tv dv zv cv uv bg rg sv at' steps done).set 418 v = mrow st xv tv v zv cv uv bg rg sv at' steps done:=by
 unfold mrow;rw [List.set_append_right _ _ (by omega),hs];rfl
theorem Anf {st rg:List Value} (hs:st.length = 416) (xv tv dv zv cv uv bg sv:Value) (at' steps:Int) (done:Bool) (v:Value):(mrow st xv tv dv zv cv uv bg rg sv at' steps done).set 419 v = mrow st xv tv dv v cv uv bg rg sv at' steps done:=by
 unfold mrow;rw [List.set_append_right _ _ (by omega),hs];rfl
theorem Nw {w:World} {b:Nat} {e:TypeId} {st rg:List Value} {xv tv dv zv cv uv bg sv:Value} {at' steps:Int} {done:Bool} (hs:st.length = 416) (h:Row w b e (mrow st xv tv dv zv cv uv bg rg sv at' steps done)) :
 w.cell? ⟨b,416,none⟩ = some xv/\w.cell? ⟨b,417,none⟩ = some tv/\w.cell? ⟨b,418,none⟩ = some dv/\w.cell? ⟨b,419,none⟩ = some zv/\w.cell? ⟨b,420,none⟩ = some cv/\w.cell? ⟨b,421,none⟩ = some uv/\w.cell? ⟨b,422,none⟩ = some bg:=by
 unfold mrow at h;refine ⟨?_,?_,?_,?_,?_,?_,?_⟩ <;> (rw [h.cell,List.getElem?_append_right (by omega),hs];rfl)
theorem Np:G6.length = 44:=by kernel_rfl
theorem I7 {st rg:List Value} (hs:st.length = 416) (hr:rg.length = 44) (xv tv dv zv cv uv bg sv:Value) (at' steps:Int) (done:Bool) (k:Nat) (hk:k < 44) (v:Value) :
 (mrow st xv tv dv zv cv uv bg rg sv at' steps done).set (423 + k) v = mrow st xv tv dv zv cv uv bg (rg.set k v) sv at' steps done:=by
 unfold mrow;rw [List.set_append_right _ _ (by omega),hs,show 423 + k - 416 = 7 + k by omega,List.set_append_right _ _ (by simp),show 7 + k - [xv,tv,dv,zv,cv,uv,bg].length = k by simp,List.set_append_left _ _ (by omega)]
theorem Lh {w:World} {b:Nat} {e:TypeId} {st rg:List Value} {xv tv dv zv cv uv bg sv:Value} {at' steps:Int} {done:Bool} (hs:st.length = 416) (hr:rg.length = 44) (h:Row w b e (mrow st xv tv dv zv cv uv bg rg sv at' steps done)) (k:Nat) (hk:k < 44) :
 w.cell? ⟨b,423 + k,none⟩ = rg[k]?:=by
 unfold mrow at h;rw [h.cell,List.getElem?_append_right (by omega),hs,show 423 + k - 416 = 7 + k by omega,List.getElem?_append_right (by simp),show 7 + k - [xv,tv,dv,zv,cv,uv,bg].length = k by simp,List.getElem?_append_left (by omega)]
def O6 (rg:List Value) (r:Nat) (k t o x:Value):List Value:=(((rg.set (4 * r) k).set (4 * r + 1) t).set (4 * r + 2) o).set (4 * r + 3) x
theorem Ko (rg:List Value) (r:Nat) (k t o x:Value):(O6 rg r k t o x).length = rg.length:=by simp [O6]
theorem MB.reg {b:Nat} {w:World} {ρ:Nat->Nat} {lo hi:Int} {dv tv cv xv rv:Value} {nc:Nat} {code:List Ins} {ρ1:Nat->Nat} {bx mb:Nat} {es:Array MapEntry} {ec:Nat} {st rg:List Value} {x1 t1 d1 z1 cv' uv' bg sv:Value} {at' steps:Int} {done:Bool} {w1:World}
 (hs:st.length = 416) (hr:rg.length = 44) (h:MB b w ρ lo hi dv tv cv xv rv nc code ρ1 bx mb es ec (mrow st x1 t1 d1 z1 cv' uv' bg rg sv at' steps done) cv' uv' w1) (r:Nat) (Atx:r < 11) (k t o x:Value) :
 MB b w ρ lo hi dv tv cv xv rv nc code ρ1 bx mb es ec (mrow st x1 t1 d1 z1 cv' uv' bg (O6 rg r k t o x) sv at' steps done) cv' uv' ((((w1.setCell ⟨bx,423 + 4 * r,none⟩ k).setCell ⟨bx,423 + (4 * r + 1),none⟩ t).setCell ⟨bx,423 + (4 * r + 2),none⟩ o).setCell ⟨bx,423 + (4 * r + 3),none⟩ x):=by
 have h4:=(((h.set (423 + 4 * r) k).set (423 + (4 * r + 1)) t).set (423 + (4 * r + 2)) o).set (423 + (4 * r + 3)) x;rw [I7 hs hr _ _ _ _ _ _ _ _ _ _ _ _ (by omega),I7 hs (by simp [hr]) _ _ _ _ _ _ _ _ _ _ _ _ (by omega),I7 hs (by simp [hr]) _ _ _ _ _ _ _ _ _ _ _ _ (by omega),I7 hs (by simp [hr]) _ _ _ _ _ _ _ _ _ _ _ _ (by omega)] at h4;exact h4
theorem Bf.D9 {w:World} {base size n:Nat} {ρ:Nat->Nat} {r:Nat} {e:TypeId} {v:Value} {xs:List Value} (h:Bf w base ρ r e size v n xs) {bx:Nat} (hr:ρ bx ≠ r) (i0 i1 i2 i3:Nat) (x0 x1 x2 x3:Value) :
 Bf ((((w.setCell ⟨bx,i0,none⟩ x0).setCell ⟨bx,i1,none⟩ x1).setCell ⟨bx,i2,none⟩ x2).setCell ⟨bx,i3,none⟩ x3) base ρ r e size v n xs:=(((h.set _ _ hr).set _ _ hr).set _ _ hr).set _ _ hr
theorem F9.D9 {w:World} {base:Nat} {ρ:Nat->Nat} {tv':Value} {vals':List Value} {rows:List (List Int)} (h:F9 w base ρ tv' vals' rows) {bx:Nat} (hr:ρ bx < 10) (i0 i1 i2 i3:Nat) (x0 x1 x2 x3:Value) :
 F9 ((((w.setCell ⟨bx,i0,none⟩ x0).setCell ⟨bx,i1,none⟩ x1).setCell ⟨bx,i2,none⟩ x2).setCell ⟨bx,i3,none⟩ x3) base ρ tv' vals' rows:=(((h.set _ _ hr).set _ _ hr).set _ _ hr).set _ _ hr
theorem Aib (x:Int) (w:World):Calls prog 35 #[.int .i64 x] w (Ol w (.agg #[.int .i64 1,.int .i64 0,.int .i64 0,.int .i64 x])):=by
 go_enter func35,ntmps35;go_wp2;exact bodyPost_ret (v:=.agg #[.int .i64 1,.int .i64 0,.int .i64 0,.int .i64 x]) (by simp [results,results35,go_sem]) rfl ⟨rfl,(Below.refl _ _).alloc nl _⟩
def Ei (l:List Val):List Value:=l.flatMap Val.cs
theorem Aay (v:Val) (l:List Val):Ei (v :: l) = v.cs ++ Ei l:=by unfold Ei;rw [List.flatMap_cons]
theorem Jm (l:List Val):(Ei l).length = l.length * 4:=by
 induction l with
 | nil=>rfl
 | cons v l ih=>rw [Aay,List.length_append,ih];show 4 + _ = _;rw [List.length_cons];omega
theorem Aep (l:List Val):∀ i (h:i < l.length) j,j < 4->(Ei l)[i * 4 + j]? = (l[i].cs)[j]?:=by
 induction l with
 | nil=>intro i h;cases h
 | cons v l ih =>
   intro i h j hj;rw [Aay]
   cases i with
   | zero=>rw [List.getElem?_append_left (by show _ < 4;omega),Nat.zero_mul,Nat.zero_add];rfl
   | succ i =>
     rw [List.getElem?_append_right (by show 4 <= _;omega)];show (Ei l)[(i + 1) * 4 + j - 4]? = _;rw [show (i + 1) * 4 + j - 4 = i * 4 + j by omega];exact ih i (by simpa using h) j hj
theorem Aic (a c:List Value) (r:Nat) (v:Val) (k t o x:Value) (ha:a.length = 4 * r) :
 O6 (a ++ v.cs ++ c) r k t o x = a ++ [k,t,o,x] ++ c:=by
 unfold O6
 have e:∀ (j:Nat) (p:List Value) (u:Value),p.length = 4->j < 4->(a ++ p ++ c).set (4 * r + j) u = a ++ p.set j u ++ c:=by
  intro j p u hp hj;rw [List.append_assoc,List.set_append_right _ _ (by omega),ha,show 4 * r + j - 4 * r = j by omega,List.set_append_left _ _ (by omega),<- List.append_assoc]
 have e0:=e 0 v.cs k rfl (by decide);rw [Nat.add_zero] at e0;rw [e0,e 1 _ t rfl (by decide),e 2 _ o rfl (by decide),e 3 _ x rfl (by decide)];rfl
theorem Wv (l m:List Val):Ei (l ++ m) = Ei l ++ Ei m:=by unfold Ei;rw [List.flatMap_append]
theorem Ap6 (l:List Val) (r:Nat) (h:r < l.length) (v:Val):O6 (Ei l) r (.int .i64 v.k) (.int .i64 v.t) (.int .i64 v.o) (.int .i64 v.x) = Ei (l.set r v):=by
 have hl:l = l.take r ++ [l[r]] ++ l.drop (r + 1):=by simp
 have hs:l.set r v = l.take r ++ [v] ++ l.drop (r + 1):=by
  rw [List.set_eq_take_append_cons_drop,if_pos h,List.append_assoc];rfl
 rw [hs,Wv,Wv]
 conv=>lhs;rw [hl,Wv,Wv]
 have h1:∀ u:Val,Ei [u] = u.cs:=fun u=>by unfold Ei;simp
 rw [h1,h1];exact Aic _ _ r _ _ _ _ _ (by rw [Jm,List.length_take];omega)
structure Slot where
 p:Val
 b:List Int
 m:Int
def Slot.cs (s:Slot):List Value:=s.p.cs ++ (s.b.map (Value.int .u8) ++ [.int .i64 s.m])
def Rw (l:List Slot):List Value:=l.flatMap Slot.cs
def Cc:Slot:=⟨I4,[0,0,0,0,0,0,0,0],0⟩
def Gu (l:List Slot):Prop:=l.length = 32/\∀ x ∈ l,x.b.length = 8
theorem Slot.len {s:Slot} (h:s.b.length = 8):s.cs.length = 13:=by unfold Slot.cs Val.cs;simp [h]
theorem Tf (x:Slot) (l:List Slot):Rw (x :: l) = x.cs ++ Rw l:=by unfold Rw;rw [List.flatMap_cons]
theorem Aks:∀ (l:List Slot),(∀ x ∈ l,x.b.length = 8)->(Rw l).length = l.length * 13
 | [],_=>rfl
 | x :: l,h=>by rw [Tf,List.length_append,Slot.len (h x (List.mem_cons_self ..)),Aks l (fun y hy=>h y (List.mem_cons_of_mem _ hy)),List.length_cons];omega
theorem Gu.len {l:List Slot} (h:Gu l):(Rw l).length = 416:=by rw [Aks l h.2,h.1]
theorem Vp:Gu (List.replicate 32 Cc):=⟨by simp,fun x hx=>by rw [List.eq_of_mem_replicate hx];rfl⟩
theorem Acf:∀ (l:List Slot),(∀ x ∈ l,x.b.length = 8)->∀ i (h:i < l.length) j,j < 13->(Rw l)[i * 13 + j]? = (l[i].cs)[j]?
 | [],_,i,h,_,_=>absurd h (by simp)
 | x :: l, hw, i, h, j, hj => by
   have hx:=Slot.len (hw x (List.mem_cons_self ..));rw [Tf]
   cases i with
   | zero=>rw [List.getElem?_append_left (by omega),Nat.zero_mul,Nat.zero_add];rfl
   | succ i =>
     rw [List.getElem?_append_right (by omega),hx,show (i + 1) * 13 + j - 13 = i * 13 + j by omega];exact Acf l (fun y hy=>hw y (List.mem_cons_of_mem _ hy)) i (by simpa using h) j hj
theorem Akt:∀ (l:List Slot),(∀ x ∈ l,x.b.length = 8)->∀ i (h:i < l.length) j,j < 13->∀ (v:Value) (x':Slot),(l[i].cs).set j v = x'.cs->(Rw l).set (i * 13 + j) v = Rw (l.set i x')
 | [],_,i,h,_,_,_,_,_=>absurd h (by simp)
 | x :: l, hw, i, h, j, hj, v, x', he => by
   have hx:=Slot.len (hw x (List.mem_cons_self ..));rw [Tf]
   cases i with
   | zero=>rw [List.set_append_left _ _ (by omega),Nat.zero_mul,Nat.zero_add,List.set_cons_zero,Tf];exact congrArg (· ++ Rw l) he
   | succ i =>
     rw [List.set_append_right _ _ (by omega),hx,show (i + 1) * 13 + j - 13 = i * 13 + j by omega,List.set_cons_succ,Tf];exact congrArg (x.cs ++ ·) (Akt l (fun y hy=>hw y (List.mem_cons_of_mem _ hy)) i (by simpa using h) j hj v x' he)
theorem Gu.set {l:List Slot} (h:Gu l) (i:Nat) {x:Slot} (hx:x.b.length = 8):Gu (l.set i x):=
 ⟨by rw [List.length_set]; exact h.1, fun y hy => by
   rcases List.mem_or_eq_of_mem_set hy with h' | h'
   ·exact h.2 y h'
   ·rw [h'];exact hx⟩
structure Mst where
 sl:List Slot
 rg:List Val
 ctx:List Int
 rows:List (List Int)
 sent:List Int
 at':Nat
 steps:Int
 done:Bool
abbrev Mst.st (s:Mst):List Value:=Rw s.sl
structure Ak where
 data:List Int
 tabs:List (Int × Int)
 code:List Ins
structure Bc where
 ρ:Nat->Nat
 mb:Nat
 xv:Value
 tv:Value
 dv:Value
 zv:Value
 cv:Value
 uv:Value
 sv:Value
 vals:List Value
def Jb (xs:List Int):List Value:=xs.map (Value.int .i64)
def Aw (s:Mst) (v:Bc):List Value:=mrow s.st v.xv v.tv v.dv v.zv v.cv v.uv (.map (some v.mb)) (Ei s.rg) v.sv s.at' s.steps s.done
structure MS (base:Nat) (w0:World) (fx:Ak) (s:Mst) (bx:Nat) (v:Bc) (w:World):Prop where
 bel:Below base w0 w
 box:Row w bx 87 (Aw s v)
 le:base <= bx
 rb:v.ρ bx = 0
 Io:Bf w base v.ρ 5 70 8 v.cv fx.code.length (Dj fx.code)
 Gq:Bf w base v.ρ 6 3 1 v.uv (fx.code.length + 1) (Ws (fx.code.length + 1) fun k=>Bl fx.code k)
 begin':O5 w base v.ρ 8 v.mb (Le fx.code fx.code.length) fx.code.length
 Qr:Bf w base v.ρ 1 5 1 v.xv s.ctx.length (Gp s.ctx)
 Oo:F9 w base v.ρ v.tv v.vals s.rows
 L8:Bf w base v.ρ 3 5 1 v.dv fx.data.length (Gp fx.data)
 L9:Bf w base v.ρ 4 89 2 v.zv fx.tabs.length (Va fx.tabs)
 Jo:Bf w base v.ρ 7 3 1 v.sv s.sent.length (Jb s.sent)
 Xx:Gu s.sl
 Oj:s.rg.length = 11
theorem MS.lq {base:Nat} {w0:World} {fx:Ak} {s:Mst} {bx:Nat} {v:Bc} {w:World} (h:MS base w0 fx s bx v w):s.st.length = 416:=h.Xx.len
theorem Mod.bel {w w':World} {bx base:Nat} (h:Mod w w' bx) {w0:World} (hb:Below base w0 w) (hB:base <= bx) (hx:bx < w.heap.size):Below base w0 w':=
 ⟨h.os.trans hb.os,h.tape.trans hb.tape,h.output.trans hb.output,Nat.le_trans hb.size h.size,fun k hk=>(h.block k (by omega) (by omega)).trans (hb.block k hk)⟩
theorem Bf.mod {w w':World} {base size n:Nat} {ρ:Nat->Nat} {r bx:Nat} {e:TypeId} {v:Value} {xs:List Value} (h:Bf w base ρ r e size v n xs) (hm:Mod w w' bx) (hr:ρ bx ≠ r):Bf w' base ρ r e size v n xs:=
 h.move fun q hq hqr=>⟨hm.block q hq (fun hc=>hr (by rw [<- hc];exact hqr)),hqr⟩
theorem O5.mod {w w':World} {base:Nat} {ρ:Nat->Nat} {r mb bx:Nat} {es:Array MapEntry} {c:Nat} (h:O5 w base ρ r mb es c) (hm:Mod w w' bx) (hr:ρ bx ≠ r):O5 w' base ρ r mb es c:=
 ⟨(hm.block mb h.lt (fun hc=>hr (by rw [<- hc];exact h.role))).trans h.at',h.le,h.role⟩
theorem F9.mod {w w':World} {base:Nat} {ρ:Nat->Nat} {bx:Nat} {tv':Value} {vals':List Value} {rows:List (List Int)} (h:F9 w base ρ tv' vals' rows) (hm:Mod w w' bx) (hr:ρ bx < 10):F9 w' base ρ tv' vals' rows:=
 ⟨h.list.mod hm (by omega),fun k hk=>let ⟨u,hu,ho⟩:=h.item k hk;⟨u,hu,ho.mod hm (by omega)⟩⟩
theorem MS.mod {base:Nat} {w0:World} {fx:Ak} {s:Mst} {bx:Nat} {v:Bc} {w w':World} (h:MS base w0 fx s bx v w) (hm:Mod w w' bx) (sl:List Slot) (rg:List Val) (at':Nat) (steps:Int) (done:Bool)
 (hst:Gu sl) (hrg:rg.length = 11) (hr:Row w' bx 87 (Aw { s with sl:=sl,rg:=rg,at':=at',steps:=steps,done:=done } v)) :
 MS base w0 fx { s with sl:=sl,rg:=rg,at':=at',steps:=steps,done:=done } bx v w':=
 have h0:=h.rb
 ⟨hm.bel h.bel h.le h.box.lt,hr,h.le,h.rb,h.Io.mod hm (by omega),h.Gq.mod hm (by omega),h.begin'.mod hm (by omega),h.Qr.mod hm (by omega),h.Oo.mod hm (by omega),h.L8.mod hm (by omega),h.L9.mod hm (by omega),h.Jo.mod hm (by omega),hst,hrg⟩
theorem MS.same {base:Nat} {w0:World} {fx:Ak} {s:Mst} {bx:Nat} {v:Bc} {w w':World} (h:MS base w0 fx s bx v w) (hm:Mod w w' bx) (hr:Row w' bx 87 (Aw s v)):MS base w0 fx s bx v w':=
 h.mod hm s.sl s.rg s.at' s.steps s.done h.Xx h.Oj hr
theorem MS.next {base:Nat} {w0:World} {fx:Ak} {s:Mst} {bx:Nat} {v:Bc} {w w':World} (h:MS base w0 fx s bx v w) (hb:Below w.heap.size w w'):MS base w0 fx s bx v w':=
 h.same (Mod.of_below hb bx) (h.box.below hb h.box.lt)
theorem MS.reg {base:Nat} {w0:World} {fx:Ak} {s:Mst} {bx:Nat} {v:Bc} {w:World} (h:MS base w0 fx s bx v w) (r:Nat) (hr:r < 11) :
 w.cell? ⟨bx,423 + r * 4,none⟩ = some (.int .i64 (s.rg[r]'(by rw [h.Oj];exact hr)).k)/\w.cell? ⟨bx,423 + r * 4 + 1,none⟩ = some (.int .i64 (s.rg[r]'(by rw [h.Oj];exact hr)).t) /\
 w.cell? ⟨bx,423 + r * 4 + 2,none⟩ = some (.int .i64 (s.rg[r]'(by rw [h.Oj];exact hr)).o)/\w.cell? ⟨bx,423 + r * 4 + 3,none⟩ = some (.int .i64 (s.rg[r]'(by rw [h.Oj];exact hr)).x):=by
 have hl:(Ei s.rg).length = 44:=by rw [Jm,h.Oj]
 have hb:=h.box;unfold Aw at hb;have hg:=Aep s.rg r (by rw [h.Oj];exact hr);refine ⟨?_,?_,?_,?_⟩
 ·exact (Lh h.lq hl hb (r * 4) (by omega)).trans (hg 0 (by decide))
 ·exact (Lh h.lq hl hb (r * 4 + 1) (by omega)).trans (hg 1 (by decide))
 ·exact (Lh h.lq hl hb (r * 4 + 2) (by omega)).trans (hg 2 (by decide))
 ·exact (Lh h.lq hl hb (r * 4 + 3) (by omega)).trans (hg 3 (by decide))
theorem MS.Awn {base:Nat} {w0:World} {fx:Ak} {s:Mst} {bx:Nat} {v:Bc} {w:World} (h:MS base w0 fx s bx v w) (o:Obj):MS base w0 fx s bx { v with ρ:=Aj v.ρ w.heap.size 9 } (w.alloc o):=
 have hb:=(Below.refl w.heap.size w).alloc nl o;have hs:∀ q,q < w.heap.size->Aj v.ρ w.heap.size 9 q = v.ρ q:=Bo;have hle:=h.le;have hlt:=h.box.lt
 ⟨h.bel.trans (hb.mono (by omega)),h.box.below hb h.box.lt,h.le,(hs bx h.box.lt).trans h.rb,h.Io.next hb hs,h.Gq.next hb hs,h.begin'.Akr hb hs,h.Qr.next hb hs,h.Oo.next hb hs,h.L8.next hb hs,h.L9.next hb hs,h.Jo.next hb hs,h.Xx,h.Oj⟩
def Qs (r:Nat):Prop:=r = 9\/(3 <= r/\r <= 6)\/r = 8
theorem Ny {r:Nat} (h:r = 9):Qs r:=Or.inl h
def Jd (ρ:Nat->Nat) (w w':World):Prop:=∀ k,k < w.heap.size->Qs (ρ k)->w'.heap[k]? = w.heap[k]?
theorem Jd.Eu {ρ:Nat->Nat} {w w':World} {bx:Nat} (h:Mod w w' bx) (hr:ρ bx = 0):Jd ρ w w':=fun k hk h9=>h.block k hk (fun hc=>by rw [hc,hr] at h9;unfold Qs at h9;omega)
theorem MS.lu {base:Nat} {w0:World} {fx:Ak} {s:Mst} {bx:Nat} {v:Bc} {w:World} (h:MS base w0 fx s bx v w) (r:Nat) (hr:r < 11):Ie (Aw s v) r (s.rg[r]'(by rw [h.Oj];exact hr)):=by
 obtain ⟨h0,h1,h2,h3⟩:=h.reg r hr;rw [h.box.cell] at h0 h1 h2 h3;exact ⟨h0,h1,h2,h3⟩
theorem MS.len {base:Nat} {w0:World} {fx:Ak} {s:Mst} {bx:Nat} {v:Bc} {w:World} (h:MS base w0 fx s bx v w):(Aw s v).length = 471:=by
 have hl:(Ei s.rg).length = 44:=by rw [Jm,h.Oj]
 unfold Aw mrow;simp only [List.length_append,List.length_cons,List.length_nil,hl,h.lq]
theorem MS.D9 {base:Nat} {w0:World} {fx:Ak} {s:Mst} {bx:Nat} {v:Bc} {w:World} (h:MS base w0 fx s bx v w) (d:Nat) (hd:d < 11) (u:Val) :
 D9 (Aw s v) (423 + d * 4) (.int .i64 u.k) (.int .i64 u.t) (.int .i64 u.o) (.int .i64 u.x) = Aw { s with rg:=s.rg.set d u } v:=by
 have hl:(Ei s.rg).length = 44:=by rw [Jm,h.Oj]
 unfold Proofs.YtjacnhnaoenelaaGreat.D9 Aw;simp only [Nat.add_assoc];rw [I7 h.lq hl _ _ _ _ _ _ _ _ _ _ _ _ (by omega),I7 h.lq (by simp [hl]) _ _ _ _ _ _ _ _ _ _ _ _ (by omega),I7 h.lq (by simp [hl]) _ _ _ _ _ _ _ _ _ _ _ _ (by omega),I7 h.lq (by simp [hl]) _ _ _ _ _ _ _ _ _ _ _ _ (by omega)];have:=Ap6 s.rg d (by rw [h.Oj];exact hd) u;unfold O6 at this;rw [Nat.mul_comm 4 d] at this;rw [this]
def Ins.agg (i:Ins):Value:=.agg #[.int .i64 i.op,.bool i.Ad,.bool i.reg,.int .i64 i.size,.int .i64 i.dst,.int .i64 i.src,.int .i64 i.off,.int .i64 i.Aa]
def DoR (F:FuncId) (fx:Ak) (s:Mst) (i:Ins) (by' er:Int) (s1:Mst):Prop:=
 ∀ (base : Nat) (w0 : World) (bx : Nat) (v : Bc) (w : World), MS base w0 fx s bx v w → Calls prog F #[.pointer (some ⟨bx, 0, none⟩), i.agg] w fun e w' =>
   e = .returned (.tuple #[.int .i64 by',.int .i64 er])/\∃ v',MS base w0 fx s1 bx v' w'/\Jd v.ρ w w'/\∀ k,k < w.heap.size->v'.ρ k = v.ρ k
theorem l7 {F:FuncId} {fx:Ak} {s:Mst} {i:Ins} {by' er:Int} (d:Nat) (hd:d < 11) (u:Val)
 (h : ∀ (bx : Nat) (cs : List Value) (w : World), cs.length = 471 → (∀ r (hr : r < 11) (hl : s.rg.length = 11), Ie cs r (s.rg[r]'(by rw [hl]; exact hr))) → s.rg.length = 11 → Row w bx 87 cs →
   Calls prog F #[.pointer (some ⟨bx,0,none⟩),i.agg] w (Wrote w bx (Proofs.YtjacnhnaoenelaaGreat.D9 cs (423 + d * 4) (.int .i64 u.k) (.int .i64 u.t) (.int .i64 u.o) (.int .i64 u.x)) by' er)) :
 DoR F fx s i by' er { s with rg:=s.rg.set d u }:=by
 intro base w0 bx v w hM;refine (h bx (Aw s v) w hM.len (fun r hr hl=>hM.lu r hr) hM.Oj hM.box).mono ?_;rintro e w' ⟨rfl,hm,hr⟩;refine ⟨rfl,v,?_,Jd.Eu hm hM.rb,fun _ _=>rfl⟩;rw [hM.D9 d hd u] at hr;exact hM.mod hm s.sl (s.rg.set d u) s.at' s.steps s.done hM.Xx (by rw [List.length_set];exact hM.Oj) hr
theorem Qu {F:FuncId} {fx:Ak} {s:Mst} {i:Ins} {by' er:Int}
 (h : ∀ (bx : Nat) (cs : List Value) (w : World), cs.length = 471 → (∀ r (hr : r < 11) (hl : s.rg.length = 11), Ie cs r (s.rg[r]'(by rw [hl]; exact hr))) → s.rg.length = 11 → Row w bx 87 cs →
   Calls prog F #[.pointer (some ⟨bx,0,none⟩),i.agg] w (Wrote w bx cs by' er)) :
 DoR F fx s i by' er s:=by
 intro base w0 bx v w hM;refine (h bx (Aw s v) w hM.len (fun r hr hl=>hM.lu r hr) hM.Oj hM.box).mono ?_;rintro e w' ⟨rfl,hm,hr⟩;exact ⟨rfl,v,hM.same hm hr,Jd.Eu hm hM.rb,fun _ _=>rfl⟩
theorem do_done {F:FuncId} {fx:Ak} {s:Mst} {i:Ins} {by' er:Int}
 (h : ∀ (bx : Nat) (cs : List Value) (w : World), cs.length = 471 → (∀ r (hr : r < 11) (hl : s.rg.length = 11), Ie cs r (s.rg[r]'(by rw [hl]; exact hr))) → s.rg.length = 11 → Row w bx 87 cs →
   Calls prog F #[.pointer (some ⟨bx,0,none⟩),i.agg] w (Wrote w bx (cs.set 470 (.bool true)) by' er)) :
 DoR F fx s i by' er { s with done:=true }:=by
 intro base w0 bx v w hM;refine (h bx (Aw s v) w hM.len (fun r hr hl=>hM.lu r hr) hM.Oj hM.box).mono ?_;rintro e w' ⟨rfl,hm,hr⟩;refine ⟨rfl,v,?_,Jd.Eu hm hM.rb,fun _ _=>rfl⟩;have hl:(Ei s.rg).length = 44:=by rw [Jm,hM.Oj]
 have hc:(Aw s v).set 470 (.bool true) = Aw { s with done:=true } v:=by
  unfold Aw mrow;rw [List.set_append_right _ _ (by rw [hM.lq];decide),hM.lq,List.set_append_right _ _ (by simp),List.set_append_right _ _ (by simp [hl])];simp [hl]
 rw [hc] at hr;exact hM.mod hm s.sl s.rg s.at' s.steps true hM.Xx hM.Oj hr
theorem Ang {w:World} {b:Nat} {e:TypeId} {st rg:List Value} {xv tv dv zv cv uv bg sv:Value} {at' steps:Int} {done:Bool} (hs:st.length = 416) (hl:rg.length = 44) (h:Row w b e (mrow st xv tv dv zv cv uv bg rg sv at' steps done)) :
 w.cell? ⟨b,467,none⟩ = some sv/\w.cell? ⟨b,468,none⟩ = some (.int .i64 at')/\w.cell? ⟨b,469,none⟩ = some (.int .i64 steps)/\w.cell? ⟨b,470,none⟩ = some (.bool done):=by
 unfold mrow at h;refine ⟨?_,?_,?_,?_⟩ <;> (rw [h.cell,List.getElem?_append_right (by omega),hs,List.getElem?_append_right (by simp),List.getElem?_append_right (by simp [hl])];simp [hl])
theorem Aid {st rg:List Value} (hs:st.length = 416) (hl:rg.length = 44) (xv tv dv zv cv uv bg sv:Value) (at' steps:Int) (done:Bool) (x:Int):(mrow st xv tv dv zv cv uv bg rg sv at' steps done).set 468 (.int .i64 x) = mrow st xv tv dv zv cv uv bg rg sv x steps done:=by
 unfold mrow;rw [List.set_append_right _ _ (by rw [hs];decide),hs,List.set_append_right _ _ (by simp),List.set_append_right _ _ (by simp [hl])];simp [hl]
theorem zo {st rg:List Value} (hs:st.length = 416) (hl:rg.length = 44) (xv tv dv zv cv uv bg sv:Value) (at' steps:Int) (done:Bool) (x:Int):(mrow st xv tv dv zv cv uv bg rg sv at' steps done).set 469 (.int .i64 x) = mrow st xv tv dv zv cv uv bg rg sv at' x done:=by
 unfold mrow;rw [List.set_append_right _ _ (by rw [hs];decide),hs,List.set_append_right _ _ (by simp),List.set_append_right _ _ (by simp [hl])];simp [hl]
section
variable {base:Nat} {w0:World} {fx:Ak} {s:Mst} {bx:Nat} {v:Bc} {w:World}
theorem MS.rl (h:MS base w0 fx s bx v w):(Ei s.rg).length = 44:=by rw [Jm,h.Oj]
theorem MS.tail (h:MS base w0 fx s bx v w):w.cell? ⟨bx,467,none⟩ = some v.sv/\w.cell? ⟨bx,468,none⟩ = some (.int .i64 s.at')/\w.cell? ⟨bx,469,none⟩ = some (.int .i64 s.steps)/\w.cell? ⟨bx,470,none⟩ = some (.bool s.done):=Ang h.lq h.rl h.box
theorem MS.heads (h:MS base w0 fx s bx v w):w.cell? ⟨bx,416,none⟩ = some v.xv/\w.cell? ⟨bx,417,none⟩ = some v.tv/\w.cell? ⟨bx,418,none⟩ = some v.dv/\w.cell? ⟨bx,419,none⟩ = some v.zv/\w.cell? ⟨bx,420,none⟩ = some v.cv/\w.cell? ⟨bx,421,none⟩ = some v.uv/\w.cell? ⟨bx,422,none⟩ = some (.map (some v.mb)):=Nw h.lq h.box
theorem MS.setAt (h:MS base w0 fx s bx v w) (x:Nat):MS base w0 fx { s with at':=x } bx v (w.setCell ⟨bx,468,none⟩ (.int .i64 x)):=by
 have hr:=h.box.put 468 (.int .i64 x);unfold Aw at hr;rw [Aid h.lq h.rl] at hr;exact h.mod ((Mod.refl w bx).set 468 _) s.sl s.rg x s.steps s.done h.Xx h.Oj hr
theorem MS.Aeq (h:MS base w0 fx s bx v w) (x:Int):MS base w0 fx { s with steps:=x } bx v (w.setCell ⟨bx,469,none⟩ (.int .i64 x)):=by
 have hr:=h.box.put 469 (.int .i64 x);unfold Aw at hr;rw [zo h.lq h.rl] at hr;exact h.mod ((Mod.refl w bx).set 469 _) s.sl s.rg s.at' x s.done h.Xx h.Oj hr
theorem MS.Ap7 (h:MS base w0 fx s bx v w) (k:Nat) (hk:k < fx.code.length):∃ g c,v.cv = .slice (some ⟨g,0,none⟩) fx.code.length c/\∀ j,j < 8->w.cell? ⟨g,k * 8 + j,none⟩ = ((fx.code[k]).cs)[j]?:=by
 obtain ⟨g,c,hv⟩:=Td h.Io.1 (by omega);refine ⟨g,c,hv,fun j hj=>?_⟩;have hh:=h.Io.1;rw [hv] at hh;rw [hh.cellAt (k * 8 + j) (by omega)];exact I5 _ k hk j hj
theorem MS.Aty (h:MS base w0 fx s bx v w) (k:Nat) (hk:k <= fx.code.length):∃ g c,v.uv = .slice (some ⟨g,0,none⟩) (fx.code.length + 1) c/\w.cell? ⟨g,k,none⟩ = some (.int .i64 (Bl fx.code k:Nat)):=by
 obtain ⟨g,c,hv⟩:=Td h.Gq.1 (by omega);refine ⟨g,c,hv,?_⟩;have hh:=h.Gq.1;rw [hv] at hh;rw [hh.cellAt k (by omega),Aem _ (by omega)]
end
end Go.Proofs.YtjacnhnaoenelaaGreat
