import Derived.Test.YtjacnhnaoenelaaGreatQMachAA
import Derived.Deep.LoopGhost
import Derived.Deep.DeepCutAuto
set_option maxRecDepth 100000
set_option maxHeartbeats 16000000
namespace Go.Proofs.YtjacnhnaoenelaaGreat
open Lib (hid)
open Go.Proofs.Tryz
open Go.RowKit
set_option linter.unusedVariables false
set_option linter.unusedSimpArgs false
structure Gf (fx:Ak) (p:Val):Prop where
 kind:2 <= p.k/\p.k <= 5
 off : -1048576 <= p.x/\p.x <= 1048576
 row:p.k = 5->0 <= p.t/\p.t < fx.tabs.length/\0 <= p.o/\p.o < (fx.tabs.getD p.t.toNat (0,0)).1
section
variable {base:Nat} {w0:World} {fx:Ak} {s:Mst} {bx:Nat} {v:Bc} {w:World}
theorem MS.Aik (h:MS base w0 fx s bx v w) (k:Nat) (hk:k < fx.tabs.length):∃ g c,v.zv = .slice (some ⟨g,0,none⟩) fx.tabs.length c/\g < w.heap.size/\w.cell? ⟨g,k * 2,none⟩ = some (.int .i64 (fx.tabs.getD k (0,0)).1)/\w.cell? ⟨g,k * 2 + 1,none⟩ = some (.int .i64 (fx.tabs.getD k (0,0)).2):=by
 obtain ⟨g,c,hv⟩:=Td h.L9.1 (by omega);have hh:=h.L9.1;rw [hv] at hh;have hd:fx.tabs.getD k (0,0) = fx.tabs[k]:=by simp [List.getD,hk]
 have hc:w.cell? ⟨g,k * 2,none⟩ = some (.int .i64 (fx.tabs.getD k (0,0)).1):=by
  rw [hh.cellAt (k * 2) (by omega),hd];exact (Wu fx.tabs k hk).1
 refine ⟨g,c,hv,World.block_lt_of_cell? w _ hc,hc,?_⟩;rw [hh.cellAt (k * 2 + 1) (by omega),hd];exact (Wu fx.tabs k hk).2
end
theorem Ail {base:Nat} {w0:World} {fx:Ak} {s:Mst} {bx:Nat} {v:Bc} (p:Val) (hp:Gf fx p) (w:World) (h:MS base w0 fx s bx v w) :
 Calls prog 102 #[.pointer (some ⟨bx,0,none⟩),p.agg] w (Ol w (.int .i64 (Xc fx s p))):=by
 obtain ⟨h0,h1,h2,h3,h4,h5,h6⟩:=h.heads;have hlt:=h.box.lt;obtain ⟨k,t,o,x⟩:=p;obtain ⟨hk1,hk2⟩:=hp.kind;have hrow:=hp.row;simp only at hk1 hk2 hrow;unfold Xc Val.agg;simp only
 by_cases e2:k = 2
 ·subst e2;go_enter func102,ntmps102;go_wp2;exact bodyPost_ret (v:=.int .i64 256) (by simp [results,results102,go_sem]) rfl ⟨rfl,(Below.refl _ _).alloc nl _⟩
 ·rw [if_neg e2];have q2:(k == 2) = false:=by simpa using e2
  by_cases e3:k = 3
  ·subst e3;obtain ⟨xa,xc,hxv⟩:=Ai h.Qr.1;rw [hxv] at h0;generalize s.ctx.length = nx at h0 ⊢;clear h hp;go_enter func102,ntmps102;go_wp2;exact bodyPost_ret (v:=.int .i64 nx) (by simp [results,results102,go_sem]) rfl ⟨rfl,(Below.refl _ _).alloc nl _⟩
  ·rw [if_neg e3];have q3:(k == 3) = false:=by simpa using e3
   by_cases e4:k = 4
   ·subst e4;obtain ⟨xa,xc,hxv⟩:=Ai h.L8.1;rw [hxv] at h2;generalize fx.data.length = nx at h2 ⊢;clear h hp hrow;go_enter func102,ntmps102;go_wp2;exact bodyPost_ret (v:=.int .i64 nx) (by simp [results,results102,go_sem]) rfl ⟨rfl,(Below.refl _ _).alloc nl _⟩
   ·rw [if_neg e4];have q4:(k == 4) = false:=by simpa using e4
    obtain ⟨r1,r2,r3,r4⟩:=hrow (by omega);obtain ⟨tn,rfl⟩:∃ n:Nat,t = n:=⟨t.toNat,by omega⟩;obtain ⟨g,c,hz,hg,_,hc⟩:=h.Aik tn (by omega);rw [hz] at h3;simp only [Int.toNat_natCast] at r4 hc ⊢;generalize (fx.tabs.getD tn (0,0)).2 = wide at hc ⊢;have hi2:(tn:Int) < (fx.tabs.length:Int):=r2;generalize fx.tabs.length = nt at h3 hi2;clear h hp hrow r4 r2 r1;have hi1:(0:Int) <= (tn:Int):=by omega
    go_enter func102,ntmps102;go_wp2_with fail
    go_region
    go_wp2;exact bodyPost_ret (v:=.int .i64 wide) (by simp [results,results102,go_sem]) rfl ⟨rfl,((Below.refl _ _).alloc nl _).drew⟩
theorem Uy {base:Nat} {w0:World} {fx:Ak} {s:Mst} {bx:Nat} {v:Bc} (p:Val) (hp:Gf fx p) (a n:Int) (ha : -1099511627776 <= a/\a <= 1099511627776) (hn : -1099511627776 <= n/\n <= 1099511627776) (w:World) (h:MS base w0 fx s bx v w) :
 Calls prog 73 #[.pointer (some ⟨bx,0,none⟩),p.agg,.int .i64 a,.int .i64 n] w (Ol w (.bool (Dh fx s p a n))):=by
 have hL:=Ail p hp (w.alloc (.cells #[.int .i64 p.k,.int .i64 p.t,.int .i64 p.o,.int .i64 p.x] 57)) (h.next (Ae w _));obtain ⟨k,t,o,x⟩:=p;unfold Dh;generalize Xc fx s ⟨k,t,o,x⟩ = L at hL ⊢;have HL:=hid hL;clear hL h hp;unfold Val.agg at HL ⊢;simp only at HL ⊢;have hw:wrap64 (a + n) = a + n:=by unfold wrap64;omega
 clear ha hn;have hB:=Ae w (.cells #[.int .i64 k,.int .i64 t,.int .i64 o,.int .i64 x] 57)
 cases q0:decide (0 <= a) with
 | false =>
   simp only [Bool.false_and];go_enter func73,ntmps73;go_wp2;exact bodyPost_ret (v:=.bool false) (by simp [results,results73,go_sem]) rfl ⟨rfl,hB⟩
 | true =>
   simp only [Bool.true_and];go_enter func73,ntmps73;go_wp2_with (go_at_call 102;refine (HL.out).mono ?_;rintro e w' ⟨rfl,hb⟩);exact bodyPost_ret (v:=.bool (decide (a + n <= L))) (by simp [results,results73,go_sem]) rfl ⟨rfl,hB.trans (hb.mono (by simp))⟩
section
variable {base:Nat} {w0:World} {fx:Ak} {s:Mst} {bx:Nat} {v:Bc} {w:World}
theorem At7 {w:World} {b:Nat} {e:TypeId} {st rg:List Value} {xv tv dv zv cv uv bg sv:Value} {at' steps:Int} {done:Bool} (hs:st.length = 416) (h:Row w b e (mrow st xv tv dv zv cv uv bg rg sv at' steps done)) (i:Nat) (hi:i < 416):w.cell? ⟨b,i,none⟩ = st[i]?:=by
 unfold mrow at h;rw [h.cell,List.getElem?_append_left (by omega)]
theorem MS.Vq (h:MS base w0 fx s bx v w) (q:Nat) (hq:q < 32) (j:Nat) (hj:j < 13):w.cell? ⟨bx,q * 13 + j,none⟩ = ((s.sl.getD q Cc).cs)[j]?:=by
 have hl:=h.Xx;rw [At7 h.lq h.box (q * 13 + j) (by omega)];have:s.sl.getD q Cc = s.sl[q]'(by rw [hl.1];exact hq):=by simp [List.getD,hl.1,hq]
 rw [this];exact Acf s.sl hl.2 q (by rw [hl.1];exact hq) j hj
theorem Gu.at {l:List Slot} (h:Gu l) (q:Nat) (hq:q < 32):(l.getD q Cc).b.length = 8:=by
 rw [show l.getD q Cc = l[q]'(by rw [h.1];exact hq) by simp [List.getD,h.1,hq]];exact h.2 _ (List.getElem_mem _)
theorem MS.Zz (h:MS base w0 fx s bx v w) (q:Nat) (hq:q < 32):w.cell? ⟨bx,q * 13,none⟩ = some (.int .i64 (s.sl.getD q Cc).p.k)/\w.cell? ⟨bx,q * 13 + 1,none⟩ = some (.int .i64 (s.sl.getD q Cc).p.t)/\w.cell? ⟨bx,q * 13 + 2,none⟩ = some (.int .i64 (s.sl.getD q Cc).p.o)/\w.cell? ⟨bx,q * 13 + 3,none⟩ = some (.int .i64 (s.sl.getD q Cc).p.x):=
 ⟨h.Vq q hq 0 (by decide),h.Vq q hq 1 (by decide),h.Vq q hq 2 (by decide),h.Vq q hq 3 (by decide)⟩
theorem Slot.At8 {S:Slot} (h:S.b.length = 8):S.cs[12]? = some (.int .i64 S.m):=by
 unfold Slot.cs;rw [List.getElem?_append_right (show S.p.cs.length <= 12 by show 4 <= 12;omega),show 12 - S.p.cs.length = 8 from rfl,List.getElem?_append_right (by rw [List.length_map,h];omega),List.length_map,h];rfl
theorem Slot.byte_at {S:Slot} (h:S.b.length = 8) (j:Nat) (hj:j < 8):S.cs[4 + j]? = some (.int .u8 (S.b.getD j 0)):=by
 unfold Slot.cs;rw [List.getElem?_append_right (show S.p.cs.length <= 4 + j by show 4 <= 4 + j;omega),show 4 + j - S.p.cs.length = j by show 4 + j - 4 = j;omega,List.getElem?_append_left (by rw [List.length_map,h];exact hj),List.getElem?_map,List.getElem?_eq_getElem (by omega)];simp [List.getD,h,hj]
theorem MS.Ae1 (h:MS base w0 fx s bx v w) (q:Nat) (hq:q < 32):w.cell? ⟨bx,q * 13 + 12,none⟩ = some (.int .i64 (s.sl.getD q Cc).m):=by
 rw [h.Vq q hq 12 (by decide)];exact Slot.At8 (h.Xx.at q hq)
theorem MS.Ae2 (h:MS base w0 fx s bx v w) (q:Nat) (hq:q < 32) (j:Nat) (hj:j < 8):w.cell? ⟨bx,q * 13 + 4 + j,none⟩ = some (.int .u8 ((s.sl.getD q Cc).b.getD j 0)):=by
 rw [Nat.add_assoc,h.Vq q hq (4 + j) (by omega)];exact Slot.byte_at (h.Xx.at q hq) j hj
end
def og (sl:List Slot) (at' j:Nat):Bool:=(List.range j).any fun i=>!Aci (F6 sl (at' + i)).m ((at' + i) % 8)
theorem Anl (sl:List Slot) (at' j:Nat):og sl at' (j + 1) = (og sl at' j || !Aci (F6 sl (at' + j)).m ((at' + j) % 8)):=by
 unfold og;rw [List.range_succ,List.any_append];simp
theorem Anm {sl:List Slot} {at' n j:Nat} (hj:j < n) (hk:(F6 sl (at' + j)).p.k ≠ 0):ng sl at' n = 80:=by
 unfold ng;rw [if_pos];rw [List.any_eq_true];exact ⟨j,List.mem_range.2 hj,by simpa using hk⟩
theorem Ann {sl:List Slot} {at' n:Nat} (h:∀ i,i < n->(F6 sl (at' + i)).p.k = 0):ng sl at' n = if og sl at' n then 82 else 0:=by
 unfold ng;rw [if_neg]
 ·rfl
 ·rw [List.any_eq_true];rintro ⟨i,hi,hk⟩;have:=h i (List.mem_range.1 hi);simp [this] at hk
theorem Ano (m:Nat) (h:m < 1099511627776):wrap64 ((m:Int) / 8) = ((m / 8:Nat):Int):=by unfold wrap64;omega
theorem add1 (m:Nat) (h:m < 4611686018427387904):wrap64 ((m:Int) + 1) = ((m + 1:Nat):Int):=by unfold wrap64;omega
theorem and1 (b:Int):bits .and .i64 b 1 = b % 2:=by
 have h:=Qd b 1 (by decide);have e:(2:Int) ^ 1 = 2:=rfl;rw [e] at h;exact h
theorem Aqn (m:Int) (hm:0 <= m) (j:Nat):(bits .and .i64 (m / 2 ^ j) 1 == 0) = !Aci m j:=by
 rw [and1];unfold Aci;obtain ⟨n,rfl⟩:∃ n:Nat,m = n:=⟨m.toNat,by omega⟩;rw [Int.toNat_natCast];have e:((n:Int) / 2 ^ j) = ((n / 2 ^ j:Nat):Int):=by push_cast;rfl
 rw [e];generalize n / 2 ^ j = q;have h2:q % 2 = 0\/q % 2 = 1:=by omega
 rcases h2 with h2 | h2
 ·rw [h2];have:((q:Int) % 2) = 0:=by omega
  rw [this];rfl
 ·rw [h2];have:((q:Int) % 2) = 1:=by omega
  rw [this];rfl
theorem Tn {base:Nat} {w0:World} {fx:Ak} {s:Mst} {bx:Nat} {v:Bc} (p:Val) (at' n:Nat) (hin:p.k = 2->at' + n <= 256) (hat:at' <= 1099511627776) (hn:n <= 1099511627776) (hm:∀ x ∈ s.sl,0 <= x.m/\x.m <= 255) (w:World) (h:MS base w0 fx s bx v w) :
 Calls prog 74 #[.pointer (some ⟨bx,0,none⟩),p.agg,.int .i64 at',.int .i64 n] w (Ol w (.int .i64 (Gs s p at' n))):=by
 have hlt:=h.box.lt;have hB:=Ae w (.cells #[.int .i64 p.k,.int .i64 p.t,.int .i64 p.o,.int .i64 p.x] 57);obtain ⟨k,t,o,x⟩:=p;unfold Gs Val.agg;simp only [Int.toNat_natCast] at hB hin ⊢
 by_cases e2:k = 2
 ·subst e2;rw [if_neg (by decide)]
  by_cases hn0:n = 0
  ·subst hn0;have q0:(((0:Nat):Int) == 0) = true:=rfl;go_enter func74,ntmps74;go_wp2;exact bodyPost_ret (v:=.int .i64 0) (by simp [results,results74,go_sem]) rfl ⟨rfl,hB⟩
  ·have q0:((n:Int) == 0) = false:=by simp;omega
   have H:=hid h;have HIN:=hid (hin rfl);have hwn:wrap64 ((at':Int) + (n:Int)) = ((at' + n:Nat):Int):=by unfold wrap64;omega
   clear h hin;obtain ⟨E,hE⟩:∃ E,E = at' + n:=⟨_,rfl⟩;rw [<- hE] at hwn;have HE:=hid hE;clear hE hat hn hn0;go_enter func74,ntmps74;go_wp2
   go_loopg [8,9,10,11] n (fun g s8 s9 s10 s11 wr=>∃ (j m:Nat) (ev:Int),j <= n/\g = n - j/\m = at' + j/\s10 = .int .i64 m/\s9 = .int .i64 ev/\ev = (if og s.sl at' j then 82 else 0)/\(∀ i,i < j->(F6 s.sl (at' + i)).p.k = 0)/\wr = (w.alloc (.cells #[.int .i64 2,.int .i64 t,.int .i64 o,.int .i64 x] 57)))
   case atStart=>exact ⟨0,at',0,Nat.zero_le _,rfl,rfl,rfl,rfl,rfl,fun i hi=>absurd hi (by omega),rfl⟩
   case round=>
    obtain ⟨j,m,ev,hj,rfl,hmj,rfl,rfl,hev,hz,rfl⟩:=hrel;have HZ:=hid hz;have HEV:=hid hev;clear hz hev
    by_cases hlt2:j < n
    ·have HJ:=hid (And.intro hlt2 hmj);have hq:m / 8 < 32:=by have:=HIN.out;omega
     have hp:=(H.out.Zz (m / 8) hq).1;have hmk:=H.out.Ae1 (m / 8) hq;obtain ⟨S,hS⟩:∃ S,S = s.sl.getD (m / 8) Cc:=⟨_,rfl⟩;rw [<- hS] at hp hmk;obtain ⟨pk,hpk⟩:∃ pk,pk = S.p.k:=⟨_,rfl⟩;obtain ⟨mk,Anp⟩:∃ mk,mk = S.m:=⟨_,rfl⟩;rw [<- hpk] at hp;rw [<- Anp] at hmk;have HS:=hid (And.intro hS (And.intro hpk Anp));have hj0:m < E:=by have:=HE.out;omega
     have hj1:decide (m < E) = true:=by simpa using hj0
     obtain ⟨Q,hQ⟩:∃ Q,Q = m / 8:=⟨_,rfl⟩;rw [<- hQ] at hp hmk;have hw8:wrap64 ((m:Int) / 8) = (Q:Int):=by rw [hQ];exact Ano m (by clear hwn;have:=HIN.out;omega)
     have hq1:(0:Int) <= (Q:Int):=Int.natCast_nonneg _;have hq2:(Q:Int) < 32:=by rw [hQ];exact Int.ofNat_lt.2 hq
     have HQ:=hid hQ;clear hS hmj hj hlt2 hpk Anp hq hQ
     by_cases zy:pk = 0
     ·subst zy;obtain ⟨u,hu⟩:∃ u,(bits .and .i64 (mk / 2 ^ (m % 8)) 1 == 0) = u:=⟨_,rfl⟩;have HU:=hid hu
      have hnext:(∀ i,i < j + 1->(F6 s.sl (at' + i)).p.k = 0)/\og s.sl at' (j + 1) = (og s.sl at' j || u):=by
       obtain ⟨hS,hpk,Anp⟩:=HS.out;have hSF:F6 s.sl (at' + j) = S:=by unfold F6;rw [<- HJ.out.2];exact hS.symm
       refine ⟨fun i hi=>?_,?_⟩
       ·by_cases hij:i < j
        ·exact HZ.out i hij
        ·obtain rfl:i = j:=by omega
         rw [hSF];exact hpk.symm
       ·have hm0 : 0 ≤ mk := by
         rw [Anp,hS];have hl:=H.out.Xx.1;have hq:m / 8 < s.sl.length:=by rw [hl];have:=HIN.out;have:=HJ.out;omega
         rw [show s.sl.getD (m / 8) Cc = s.sl[m / 8] by simp [List.getD,hq]];exact (hm _ (List.getElem_mem hq)).1
        rw [Anl,<- hu,Aqn mk hm0,hSF,<- HJ.out.2,Anp]
      have HN:=hid hnext;clear hnext;have hw1:wrap64 ((m:Int) + 1) = ((m + 1:Nat):Int):=add1 m (by clear hwn hw8;have:=HIN.out;have:=HE.out;omega)
      cases u
      ·go_wp2
       go_roundg (n - (j + 1))
       case measure=>have:=HJ.out.1;omega
       case rel=>exact ⟨j + 1,m + 1,ev,HJ.out.1,rfl,by rw [HJ.out.2];rfl,by rw [hw1],rfl,by rw [HN.out.2,HEV.out,Bool.or_false],HN.out.1,rfl⟩
      ·go_wp2
       go_roundg (n - (j + 1))
       case measure=>have:=HJ.out.1;omega
       case rel=>exact ⟨j + 1,m + 1,82,HJ.out.1,rfl,by rw [HJ.out.2];rfl,by rw [hw1],rfl,by rw [HN.out.2,Bool.or_true];rfl,HN.out.1,rfl⟩
     ·have A2a:(pk != 0) = true:=by simpa using zy
      go_wp2
      exact bodyPost_ret (v:=.int .i64 80) (by simp [results,results74,go_sem]) rfl ⟨by rw [Anm HJ.out.1 (by
       obtain ⟨hS,hpk,_⟩:=HS.out;unfold F6;rw [<- HJ.out.2,<- hS,<- hpk];exact zy)],hB⟩
    ·have hj0:¬ m < E:=by have:=HE.out;omega
     have hj1:decide (m < E) = false:=by simpa using hj0
     have hjn:j = n:=by omega
     have HJ:=hid hjn;clear hmj hj hjn hlt2;go_wp2;obtain rfl:=HJ.out;exact bodyPost_ret (v:=.int .i64 ev) (by simp [results,results74,go_sem]) rfl ⟨by rw [Ann HZ.out,HEV.out],hB⟩
 ·rw [if_pos e2];have q2:(k != 2) = true:=by simpa using e2
  clear h hin;go_enter func74,ntmps74;go_wp2;exact bodyPost_ret (v:=.int .i64 0) (by simp [results,results74,go_sem]) rfl ⟨rfl,hB⟩
def Ym (a:Option Addr) (cap l:Nat):Option Addr:=if cap = l then a else a.map (·.add (l * 1))
theorem Vr (a:Option Addr) (len cap l n:Nat) (h:l + n <= cap) (w:World) :
 (Instr.slice 22 (.slice a len cap) (some (.int .i64 l)) (some (.int .i64 ((l + n:Nat):Int))) none).run prog w = .ok (.slice (Ym a cap l) n (cap - l)) w:=by
 rw [Apn a len cap l (l + n) (by omega) h w,Nat.add_sub_cancel_left];rfl
theorem Xe (a n:Nat) (h:a + n < 4611686018427387904):wrap64 ((a:Int) + (n:Int)) = ((a + n:Nat):Int):=by unfold wrap64;omega
theorem Aa0 {base:Nat} {w0:World} {fx:Ak} {s:Mst} {bx:Nat} {v:Bc} (t o x:Int) (a n len cap:Nat) (ad:Option Addr) (hv:v.xv = .slice ad len cap) (han:a + n <= cap) (hc:a + n < 4611686018427387904) (w:World) (h:MS base w0 fx s bx v w) :
 Calls prog 105 #[.pointer (some ⟨bx,0,none⟩),.agg #[.int .i64 3,.int .i64 t,.int .i64 o,.int .i64 x],.int .i64 a,.int .i64 n] w (Ol w (.slice (Ym ad cap a) n (cap - a))):=by
 have h0:=h.heads.1;rw [hv] at h0;have hlt:=h.box.lt;have hs:=fun w=>Vr ad len cap a n han w;have hw:=Xe a n hc;generalize a + n = an at hs hw;clear h hv han hc;go_enter func105,ntmps105;go_wp2;exact bodyPost_ret (v:=.slice (Ym ad cap a) n (cap - a)) (by simp [results,results105,go_sem]) rfl ⟨rfl,(Below.refl _ _).alloc nl _⟩
theorem Aim {base:Nat} {w0:World} {fx:Ak} {s:Mst} {bx:Nat} {v:Bc} (t o x:Int) (a n len cap:Nat) (ad:Option Addr) (hv:v.dv = .slice ad len cap) (han:a + n <= cap) (hc:a + n < 4611686018427387904) (w:World) (h:MS base w0 fx s bx v w) :
 Calls prog 105 #[.pointer (some ⟨bx,0,none⟩),.agg #[.int .i64 4,.int .i64 t,.int .i64 o,.int .i64 x],.int .i64 a,.int .i64 n] w (Ol w (.slice (Ym ad cap a) n (cap - a))):=by
 have h0:=h.heads.2.2.1;rw [hv] at h0;have hlt:=h.box.lt;have hs:=fun w=>Vr ad len cap a n han w;have hw:=Xe a n hc;generalize a + n = an at hs hw;clear h hv han hc;go_enter func105,ntmps105;go_wp2;exact bodyPost_ret (v:=.slice (Ym ad cap a) n (cap - a)) (by simp [results,results105,go_sem]) rfl ⟨rfl,(Below.refl _ _).alloc nl _⟩
theorem MS.Aky {base:Nat} {w0:World} {fx:Ak} {s:Mst} {bx:Nat} {v:Bc} {w:World} (h:MS base w0 fx s bx v w) (k:Nat) (hk:k < s.rows.length):∃ g c u,v.tv = .slice (some ⟨g,0,none⟩) s.rows.length c/\g < w.heap.size/\w.cell? ⟨g,k,none⟩ = some u/\v.vals[k]? = some u/\Bf w base v.ρ (11 + k) 5 1 u s.rows[k].length (Gp s.rows[k]):=by
 obtain ⟨g,c,hv⟩:=Td h.Oo.list.1 (by omega);obtain ⟨u,hu,ho⟩:=h.Oo.item k hk;have hh:=h.Oo.list.1;rw [hv] at hh;have hc:w.cell? ⟨g,k,none⟩ = some u:=by rw [hh.cellAt k (by omega)];exact hu
 exact ⟨g,c,u,hv,World.block_lt_of_cell? w _ hc,hc,hu,ho⟩
theorem Aqo (o a wd:Nat) (ho:o <= 64) (hw:wd <= 64) (ha:a <= 1099511627776):wrap64 ((o:Int) * (wd:Int)) = ((o * wd:Nat):Int)/\wrap64 (((o * wd:Nat):Int) + (a:Int)) = ((o * wd + a:Nat):Int):=by
 have h:o * wd <= 64 * 64:=Nat.mul_le_mul ho hw;have e:(o:Int) * (wd:Int) = ((o * wd:Nat):Int):=by push_cast;rfl
 rw [e];generalize o * wd = q at h ⊢;constructor <;> (unfold wrap64;omega)
theorem Aa1 {base:Nat} {w0:World} {fx:Ak} {s:Mst} {bx:Nat} {v:Bc} (t o a n len cap wd:Nat) (x:Int) (ad:Option Addr) (ht:t < fx.tabs.length) (htr:t < s.rows.length) (hv:v.vals[t]? = some (.slice ad len cap)) (hwd:(fx.tabs.getD t (0,0)).2 = wd) (ho:o <= 64) (hw64:wd <= 64)
 (han:o * wd + a + n <= cap) (hc:o * wd + a + n < 1099511627776) (w:World) (h:MS base w0 fx s bx v w) :
 Calls prog 105 #[.pointer (some ⟨bx,0,none⟩),.agg #[.int .i64 5,.int .i64 t,.int .i64 o,.int .i64 x],.int .i64 a,.int .i64 n] w (Ol w (.slice (Ym ad cap (o * wd + a)) n (cap - (o * wd + a)))):=by
 obtain ⟨_,h1,_,h3,_⟩:=h.heads;obtain ⟨gz,cz,hz,hgz,_,hcz⟩:=h.Aik t ht;obtain ⟨gt,ct,u,htv,hgt,hct,hvu,hown⟩:=h.Aky t htr;rw [hz] at h3;rw [htv] at h1;rw [hv] at hvu;rw [<- Option.some.inj hvu] at hct;rw [hwd] at hcz;have hlt:=h.box.lt;obtain ⟨e1,e2⟩:=Aqo o a wd ho hw64 (by omega);have hs:=fun w=>Vr ad len cap (o * wd + a) n han w;have e3:=Xe (o * wd + a) n (by clear e1 e2;omega);generalize o * wd + a + n = an at hs e3;generalize o * wd + a = fr at hs e2 e3 ⊢;generalize o * wd = ow at e1 e2;have hi1:(0:Int) <= (t:Int):=by omega
 have hi2:(t:Int) < (fx.tabs.length:Int):=Int.ofNat_lt.2 ht;have hi3:(t:Int) < (s.rows.length:Int):=Int.ofNat_lt.2 htr;generalize fx.tabs.length = nt at h3 hi2;generalize s.rows.length = nr at h1 hi3;clear h hv han hc hvu hown ht htr ho hw64 hwd hz htv;go_enter func105,ntmps105;go_wp2_with fail
 go_region
 go_wp2_with fail
 go_region
 go_wp2;exact bodyPost_ret (v:=.slice (Ym ad cap fr) n (cap - fr)) (by simp [results,results105,go_sem]) rfl ⟨rfl,(((Below.refl _ _).alloc nl _).drew).drew⟩
structure J4 (fx:Ak) (s:Mst):Prop where
 slots:∀ x ∈ s.sl,Ah x.b/\0 <= x.m/\x.m <= 255
 ctx:Ah s.ctx
 Zt:s.ctx.length <= 65535
 data:Ah fx.data
 Vj:fx.data.length <= 4096
 Md:s.rows.length = fx.tabs.length
 tabs:∀ k,k < fx.tabs.length->1 <= (fx.tabs.getD k (0,0)).1/\(fx.tabs.getD k (0,0)).1 <= 64/\1 <= (fx.tabs.getD k (0,0)).2/\(fx.tabs.getD k (0,0)).2 <= 64
 rows:∀ k (h:k < s.rows.length),Ah s.rows[k]/\(s.rows[k].length:Int) = (fx.tabs.getD k (0,0)).1 * (fx.tabs.getD k (0,0)).2
theorem Yn {w:World} {base:Nat} {ρ:Nat->Nat} {r len cap l n:Nat} {ad:Option Addr} {xs:List Int} (h:Bf w base ρ r 5 1 (.slice ad len cap) len (Gp xs)) (hx:xs.length = len) (hln:l + n <= len) :
 Reads w 1 (.slice (Ym ad cap l) n (cap - l)) n (Gp ((xs.drop l).take n))/\l + n <= cap:=by
 have h0:=h.1;have hl:((xs.drop l).take n).length = n:=by rw [List.length_take,List.length_drop];omega
 obtain ⟨hlen,⟨hz,hn0⟩ | ⟨g,cap',cur,hv,hb,hg,hnc,hcm,hcs,ht⟩⟩:=h0
 ·obtain ⟨rfl,rfl,rfl⟩:ad = none/\len = 0/\cap = 0:=by injection hz with h1 h2 h3;exact ⟨h1,h2,h3⟩
  obtain rfl:l = 0:=by omega
  obtain rfl:n = 0:=by omega
  exact ⟨⟨by unfold Gp;rw [List.length_map,hl,Nat.mul_one],Ot _,Or.inl ⟨rfl,_,_,rfl,by decide⟩⟩,by omega⟩
 ·obtain ⟨rfl,_,rfl⟩:ad = some ⟨g,0,none⟩/\len = len/\cap = cap':=by injection hv with h1 h2 h3;exact ⟨h1,rfl,h3⟩
  have hc1:l + n <= cap:=by omega
  refine ⟨⟨by unfold Gp;rw [List.length_map,hl,Nat.mul_one],Ot _,?_⟩,hc1⟩
  by_cases hn:n = 0
  ·subst hn;exact Or.inl ⟨rfl,_,_,rfl,by omega⟩
  ·refine Or.inr ⟨by omega,g,l,cap - l,?_,lt_of_block hg,by omega,by omega,fun j u hj=>?_⟩
   ·unfold Ym;rw [if_neg (by omega)];show Value.slice (some (Addr.add ⟨g,0,none⟩ (l * 1))) n (cap - l) = _;rw [show Addr.add ⟨g,0,none⟩ (l * 1) = ⟨g,l,none⟩ by unfold Addr.add;simp;exact fun e=>e.symm]
   ·have hjn : j < n := by
     by_cases hh:j < n
     ·exact hh
     ·rw [List.getElem?_eq_none (by unfold Gp;rw [List.length_map,hl];omega)] at hj;cases hj
    rw [h.1.cellAt (l + j) (by omega)];unfold Gp at hj ⊢;rw [List.getElem?_map,List.getElem?_take,if_pos hjn,List.getElem?_drop] at hj;rw [List.getElem?_map];exact hj
def oh (w:World) (xs:List Int):Ending->World->Prop:=fun e w'=>∃ vC,e = .returned vC/\w'.ownsRow w.heap.size 5 1 vC xs.length (Gp xs)/\Below w.heap.size w w'
section
variable {base:Nat} {w0:World} {fx:Ak} {s:Mst} {bx:Nat} {v:Bc}
theorem Yo (p:Val) (hp:Gf fx p) (hk:p.k ≠ 2) (hm:J4 fx s) (a n:Nat) (hin:Dh fx s p a n = true) (w:World) (h:MS base w0 fx s bx v w) :
 ∃ ad cp,Calls prog 105 #[.pointer (some ⟨bx,0,none⟩),p.agg,.int .i64 a,.int .i64 n] w (Ol w (.slice ad n cp))/\(∀ w',MS base w0 fx s bx v w'->Reads w' 1 (.slice ad n cp) n (Gp (D7 fx s p a n)))/\(D7 fx s p a n).length = n/\n <= 65535:=by
 obtain ⟨k,t,o,x⟩:=p;have hk1:=hp.kind;have hrow:=hp.row;simp only at hk hk1 hrow;unfold Dh Xc at hin;simp only [Bool.and_eq_true,decide_eq_true_eq] at hin;rw [if_neg hk] at hin;unfold D7 Val.agg;simp only [Int.toNat_natCast];rw [if_neg hk]
 by_cases h3:k = 3
 ·subst h3;rw [if_pos rfl] at hin;rw [if_pos rfl];obtain ⟨ad,cap,hv⟩:=Ai h.Qr.1;have hle:a + n <= s.ctx.length:=by omega
  have hxl:=hm.Zt;have ho:=h.Qr;rw [hv] at ho;have hr:=fun w' (h':MS base w0 fx s bx v w')=>Yn (l:=a) (n:=n) (by have:=h'.Qr;rw [hv] at this;exact this) rfl hle;exact ⟨_,_,Aa0 t o x a n s.ctx.length cap ad hv (hr w h).2 (by omega) w h,fun w' h'=>(hr w' h').1,by rw [List.length_take,List.length_drop];omega,by omega⟩
 ·rw [if_neg h3] at hin;rw [if_neg h3]
  by_cases h4:k = 4
  ·subst h4;rw [if_pos rfl] at hin;rw [if_pos rfl];obtain ⟨ad,cap,hv⟩:=Ai h.L8.1;have hle:a + n <= fx.data.length:=by omega
   have hxl:=hm.Vj;have hr:=fun w' (h':MS base w0 fx s bx v w')=>Yn (l:=a) (n:=n) (by have:=h'.L8;rw [hv] at this;exact this) rfl hle;exact ⟨_,_,Aim t o x a n fx.data.length cap ad hv (hr w h).2 (by omega) w h,fun w' h'=>(hr w' h').1,by rw [List.length_take,List.length_drop];omega,by omega⟩
  ·rw [if_neg h4] at hin;rw [if_neg h4];obtain rfl:k = 5:=by omega
   obtain ⟨r1,r2,r3,r4⟩:=hrow rfl;obtain ⟨tn,rfl⟩:∃ q:Nat,t = q:=⟨t.toNat,by omega⟩;obtain ⟨on,rfl⟩:∃ q:Nat,o = q:=⟨o.toNat,by omega⟩;simp only [Int.toNat_natCast] at r4 hin;have htl:tn < fx.tabs.length:=by omega
   have hrl:tn < s.rows.length:=by rw [hm.Md];exact htl
   obtain ⟨q1,q2,q3,q4⟩:=hm.tabs tn htl;obtain ⟨hb,hlen⟩:=hm.rows tn hrl;obtain ⟨wd,hwd⟩:∃ q:Nat,(fx.tabs.getD tn (0,0)).2 = q:=⟨(fx.tabs.getD tn (0,0)).2.toNat,by omega⟩;rw [hwd] at hin q3 q4 hlen;obtain ⟨rw',hrw⟩:∃ q:Nat,(fx.tabs.getD tn (0,0)).1 = q:=⟨(fx.tabs.getD tn (0,0)).1.toNat,by omega⟩;rw [hrw] at r4 q1 q2 hlen
   have hL : s.rows[tn].length = rw' * wd := by have : ((s.rows[tn].length : Nat) : Int) = ((rw' * wd : Nat) : Int) := by rw [hlen]; push_cast; rfl
                                                exact_mod_cast this
   have hmul:(on + 1) * wd <= rw' * wd:=Nat.mul_le_mul_right _ (by omega);have Ax9:rw' * wd <= 64 * 64:=Nat.mul_le_mul (by omega) (by omega);have Avg:(on + 1) * wd = on * wd + wd:=Nat.succ_mul on wd;have hle:on * wd + a + n <= s.rows[tn].length:=by omega
   obtain ⟨_,_,u,_,_,_,hvu,hown⟩:=h.Aky tn hrl;obtain ⟨ad,cap,rfl⟩:=Ai hown.1
   have hr:=fun w' (h':MS base w0 fx s bx v w')=>Yn (l:=on * wd + a) (n:=n) (by
    obtain ⟨_,_,u',_,_,_,Aya,hown'⟩:=h'.Aky tn hrl;rw [hvu] at Aya;rw [<- Option.some.inj Aya] at hown';exact hown') rfl hle
   have hfr:Zh fx ⟨5,tn,on,x⟩ a = on * wd + a:=by
    unfold Zh;simp only [Int.toNat_natCast];rw [hwd];have:(on:Int) * (wd:Int) + (a:Int) = ((on * wd + a:Nat):Int):=by push_cast;rfl
    rw [this,Int.toNat_natCast]
   have hro:rowOf s ⟨5,tn,on,x⟩ = s.rows[tn]:=by unfold rowOf;simp [List.getD,hrl]
   rw [hfr,hro];exact ⟨_,_,Aa1 tn on a n s.rows[tn].length cap wd x ad htl hrl hvu hwd (by omega) (by omega) (hr w h).2 (by omega) w h,fun w' h'=>(hr w' h').1,by rw [List.length_take,List.length_drop];omega,by omega⟩
end
theorem Tq {w:World} {base base' size n:Nat} {e:TypeId} {v:Value} {xs:List Value} (h:w.ownsRow base e size v n xs) (hb:base' <= base):w.ownsRow base' e size v n xs:=by
 obtain ⟨hl,hz | ⟨g,cap,cur,hv,hb',rest⟩⟩:=h
 ·exact ⟨hl,Or.inl hz⟩
 ·exact ⟨hl,Or.inr ⟨g,cap,cur,hv,Nat.le_trans hb hb',rest⟩⟩
theorem Zj (w:World) (o:Obj):(w.alloc o).heap.size = w.heap.size + 1:=by simp
theorem oq (sl:List Slot) (a n:Nat):(Qw sl a n).length = n:=by simp [Qw]
theorem Aqp {w w':World} {b n:Nat} {g:Nat->Int} (hR:Row w' b 5 (Dv n g)) (hb:w.heap.size <= b) (hn:n <= maxLen):w'.ownsRow w.heap.size 5 1 (.slice (some ⟨b,0,none⟩) n n) n (Dv n g):=by
 have hl:(Dv n g).length = n:=by simp [Dv]
 refine ⟨by rw [hl,Nat.mul_one],Or.inr ⟨b,n,_,rfl,hb,hR,Nat.le_refl _,hn,by simp [hl],?_⟩⟩;show List.take (n * 1) (Dv n g) = Dv n g;rw [Nat.mul_one,List.take_of_length_le (by omega)]
section
variable {base:Nat} {w0:World} {fx:Ak} {s:Mst} {bx:Nat} {v:Bc}
theorem Aqq (p:Val) (hp:Gf fx p) (hk:p.k ≠ 2) (hm:J4 fx s) (a n:Nat) (hin:Dh fx s p a n = true) (w:World) (h:MS base w0 fx s bx v w) :
 Calls prog 104 #[.pointer (some ⟨bx,0,none⟩),p.agg,.int .i64 a,.int .i64 n] w (oh w (D7 fx s p a n)):=by
 have h1:=h.next (Ae w (.cells #[.int .i64 p.k,.int .i64 p.t,.int .i64 p.o,.int .i64 p.x] 57));obtain ⟨ad,cp,hpc,hrd,hl,hn⟩:=Yo p hp hk hm a n hin _ h1;have HPC:=hid hpc;have HRD:=hid hrd;have H1:=hid h1;have hB:=Ae w (.cells #[.int .i64 p.k,.int .i64 p.t,.int .i64 p.o,.int .i64 p.x] 57);have q2:(p.k != 2) = true:=by simpa using hk
 unfold oh;rw [hl];generalize D7 fx s p a n = xs at *;obtain ⟨k,t,o,x⟩:=p;have HN:=hid hn;clear h h1 hpc hrd hin hp hm hk hl hn;unfold Val.agg at HPC ⊢;simp only at HPC q2 hB H1 ⊢;go_enter func104,ntmps104
 go_wp2_with (first
  | (go_at_call 105;refine (HPC.out).mono ?_;rintro e w' ⟨rfl,hb⟩)
  | (go_at_call 32;refine (Iw _ n (Gp xs) _ (HRD.out _ (H1.out.next hb)) (by have:=HN.out;omega)).mono ?_;rintro e wC ⟨vC,rfl,hown,hbC⟩;obtain ⟨aC,kC,rfl⟩:=Ai hown))
 have hsz:=hb.size;have hsz2:w.heap.size <= w'.heap.size:=by simp at hsz;omega
 exact bodyPost_ret (v:=.slice aC n kC) (by simp [results,results104,go_sem]) rfl ⟨_,rfl,Tq hown hsz2,(hB.trans (hb.mono (by simp))).trans (hbC.mono hsz2)⟩
theorem Aio (p:Val) (hk:p.k = 2) (hm:∀ x ∈ s.sl,Ah x.b) (a n:Nat) (hin:a + n <= 256) (w:World) (h:MS base w0 fx s bx v w) :
 Calls prog 104 #[.pointer (some ⟨bx,0,none⟩),p.agg,.int .i64 a,.int .i64 n] w (oh w (Qw s.sl a n)):=by
 have hlt:=h.box.lt;have hmk:=Qe n (by omega);have hB:=Ae w (.cells #[.int .i64 p.k,.int .i64 p.t,.int .i64 p.o,.int .i64 p.x] 57);obtain ⟨k,t,o,x⟩:=p;simp only at hk hB;subst hk;have H:=hid h;have HIN:=hid hin;have HM:=hid hm;have HB:=hid hB;clear h hin hm hB;unfold Val.agg;simp only;go_enter func104,ntmps104;go_wp2
 go_loopg [10,24] n (fun g s10 s24 wr=>∃ i:Nat,i <= n/\g = n - i/\s24 = .int .i64 i/\Row wr (w.heap.size + 1) 5 (Dv n fun j=>if j < i then (F6 s.sl (a + j)).b.getD ((a + j) % 8) 0 else 0)/\Below w.heap.size w wr/\(∀ q,q < w.heap.size->wr.heap[q]? = w.heap[q]?))
 case atStart=>
  have hr:=Rz (w.alloc (.cells #[.int .i64 2,.int .i64 t,.int .i64 o,.int .i64 x] 57)) n 5 fun j=>(F6 s.sl (a + j)).b.getD ((a + j) % 8) 0;rw [Zj] at hr;have hb2:=HB.out.alloc (by rw [Zj];omega) (.cells (Dv n fun _=>0).toArray 5);exact ⟨0,Nat.zero_le _,rfl,rfl,hr,hb2,fun q hq=>hb2.block q hq⟩
 case round=>
  obtain ⟨i,hi,rfl,rfl,hR,hBr,hst⟩:=hrel
  by_cases hlt2:i < n
  ·have hj0:decide (i < n) = true:=by simpa using hlt2
   have hmi:a + i < 256:=by have:=HIN.out;omega
   have hM:=H.out.next (hBr.mono nl);have hc:=hM.Ae2 ((a + i) / 8) (by omega) ((a + i) % 8) (Nat.mod_lt _ (by decide));have hwa:=Xe a i (by omega);have hw8:=Ano (a + i) (by clear hwa;omega);have hq2:(((a + i) / 8:Nat):Int) < 32:=by clear hwa hw8;omega
   have hfr:=hR.free i;have hci:=(hR.cell i).trans (Hr _ hlt2);obtain ⟨m,hm⟩:∃ m,m = a + i:=⟨_,rfl⟩;rw [<- hm] at hc hwa hw8 hq2;obtain ⟨y,hy⟩:∃ y,y = (s.sl.getD (m / 8) Cc).b.getD (m % 8) 0:=⟨_,rfl⟩;rw [<- hy] at hc;obtain ⟨Q,hQ⟩:∃ Q,Q = m / 8:=⟨_,rfl⟩;rw [<- hQ] at hc hw8 hq2;have hq1:(0:Int) <= (Q:Int):=Int.natCast_nonneg _;have hw1:=add1 i (by clear hwa hw8;omega);have HH:=hid (And.intro hm (And.intro hy hQ));have HR:=hid hR;have HBR:=hid (And.intro hBr hst);have HI:=hid hlt2;have Az8:bx < wr.heap.size:=hM.box.lt;clear hm hy hQ hR hBr hst hM hi hmi hlt2;go_wp2_with fail
   go_roundg (n - (i + 1))
   case measure=>have:=HI.out;omega
   case rel=>
    obtain ⟨hm,hy,hQ⟩:=HH.out;refine ⟨i + 1,HI.out,rfl,by rw [hw1],Ape HR.out (by rw [hy];unfold F6;rw [<- hm]),HBR.out.1.setCell (by show w.heap.size <= w.heap.size + 1;omega) _,fun q hq=>(Below.heap_setCell _ _ _ _ (by show q ≠ w.heap.size + 1;omega)).trans (HBR.out.2 q hq)⟩
  ·obtain rfl:i = n:=by omega
   have hj0:decide (i < i) = false:=by simp
   have HR:=hid hR;have HBR:=hid hBr;clear hR hBr hst;go_wp2;have hr:=X9 HR.out
   exact bodyPost_ret (v:=.slice (some ⟨w.heap.size + 1,0,none⟩) i i) (by simp [results,results104,go_sem]) rfl ⟨_,rfl,by
    have ho:=Aqp (w:=w) hr (by omega) (by have:=HIN.out;exact Nat.le_trans (show i <= 256 by omega) (by decide));rw [oq];exact (show Dv i (fun j=>(F6 s.sl (a + j)).b.getD ((a + j) % 8) 0) = Gp (Qw s.sl a i) by unfold Dv Gp Qw;rw [List.map_map];rfl) ▸ ho,HBR.out⟩
end
section
variable {base:Nat} {w0:World} {fx:Ak} {s:Mst} {bx:Nat} {v:Bc}
theorem Fe {fx:Ak} {s:Mst} {p:Val} {a n:Int} (h:Dh fx s p a n = true):0 <= a/\a + n <= Xc fx s p:=by
 unfold Dh at h;simpa using h
theorem Ae3 (p:Val) (hp:Gf fx p) (hm:J4 fx s) (a n:Nat) (hin:Dh fx s p a n = true) (w:World) (h:MS base w0 fx s bx v w) :
 Calls prog 104 #[.pointer (some ⟨bx,0,none⟩),p.agg,.int .i64 a,.int .i64 n] w (oh w (D7 fx s p a n)):=by
 by_cases hk:p.k = 2
 ·have h1:=(Fe hin).2;unfold Xc at h1;rw [if_pos hk] at h1;have e:D7 fx s p a n = Qw s.sl a n:=by unfold D7;rw [if_pos hk,Int.toNat_natCast,Int.toNat_natCast]
  rw [e];exact Aio p hk (fun x hx=>(hm.slots x hx).1) a n (by omega) w h
 ·exact Aqq p hp hk hm a n hin w h
theorem Qy {xs:List Int} (h:Ah xs) (l n:Nat):Ah ((xs.drop l).take n):=fun x hx=>h x (List.mem_of_mem_drop (List.mem_of_mem_take hx))
theorem Acj {xs:List Int} (h:Ah xs) (i:Nat):0 <= xs.getD i 0/\xs.getD i 0 <= 255:=h.at' i
theorem Ae4 {s:Mst} (hs:∀ x ∈ s.sl,Ah x.b) (i:Nat):Ah (F6 s.sl i).b:=by
 unfold F6
 by_cases h:i / 8 < s.sl.length
 ·rw [show s.sl.getD (i / 8) Cc = s.sl[i / 8] by simp [List.getD,h]];exact hs _ (List.getElem_mem h)
 ·rw [show s.sl.getD (i / 8) Cc = Cc by simp [List.getD,h]];intro x hx;simp [Cc] at hx;omega
theorem Fz {fx:Ak} {s:Mst} (hm:J4 fx s) (p:Val) (a n:Int):Ah (D7 fx s p a n):=by
 unfold D7
 split
 ·intro x hx;unfold Qw at hx;obtain ⟨i,_,rfl⟩:=List.mem_map.1 hx;exact Acj (Ae4 (fun x hx=>(hm.slots x hx).1) _) _
 ·split
  ·exact Qy hm.ctx _ _
  ·split
   ·exact Qy hm.data _ _
   ·refine Qy ?_ _ _;unfold rowOf
    by_cases h:p.t.toNat < s.rows.length
    ·rw [show s.rows.getD p.t.toNat [] = s.rows[p.t.toNat] by simp [List.getD,h]];exact (hm.rows _ h).1
    ·rw [show s.rows.getD p.t.toNat [] = [] by simp [List.getD,h]];exact Ah.nil
theorem Akz (p:Val) (hp:Gf fx p) (hm:J4 fx s) (a n:Nat) (sg:Bool) (hin:Dh fx s p a n = true) (w:World) (h:MS base w0 fx s bx v w) :
 Calls prog 75 #[.pointer (some ⟨bx,0,none⟩),p.agg,.int .i64 a,.int .i64 n,.bool sg] w (Ol w (.int .i64 (Vl sg (D7 fx s p a n)))):=by
 have hrd:=Ae3 p hp hm a n hin (w.alloc (.cells #[.int .i64 p.k,.int .i64 p.t,.int .i64 p.o,.int .i64 p.x] 57)) (h.next (Ae w _));have hbs:=Fz hm p a n;have hB:=Ae w (.cells #[.int .i64 p.k,.int .i64 p.t,.int .i64 p.o,.int .i64 p.x] 57);generalize D7 fx s p a n = xs at *;have HRD:=hid hrd;have HBS:=hid hbs;obtain ⟨k,t,o,x⟩:=p;clear h hrd hbs hin hp hm;unfold Val.agg at HRD ⊢;simp only at HRD hB ⊢;go_enter func75,ntmps75
 go_wp2_with (first
  | (go_at_call 104;refine (HRD.out).mono ?_;rintro e w' ⟨vC,rfl,hown,hb⟩;obtain ⟨aC,kC,rfl⟩:=Ai hown;have C9:=Dq hown HBS.out rfl)
  | (go_at_call 103;refine (Av0 _ sg xs _ C9).mono ?_;rintro e wG ⟨rfl,rfl⟩))
 exact bodyPost_ret (v:=.int .i64 (Vl sg xs)) (by simp [results,results75,go_sem]) rfl ⟨rfl,hB.trans (hb.mono (by simp))⟩
end
theorem ou (q off j:Nat):Addr.add ⟨q,off,none⟩ j = ⟨q,off + j,none⟩:=by unfold Addr.add;simp
section
variable {base:Nat} {w0:World} {fx:Ak} {s:Mst} {bx:Nat} {v:Bc}
def Ayb (w:World):Ending->World->Prop:=fun e w'=>e = .returned (.tuple #[])/\Below w.heap.size w w'
theorem oz (k t o x a:Int) (hk:(k != 2) = true) (n g fr cp:Nat) (sa:Option Addr) (sc:Nat) (b:List Int) (hbn:b.length = n) (hn:0 < n) (w:World)
 (hpc:∀ w',Below w.heap.size w w'->Calls prog 105 #[.pointer (some ⟨bx,0,none⟩),.agg #[.int .i64 k,.int .i64 t,.int .i64 o,.int .i64 x],.int .i64 a,.int .i64 n] w' (Ol w' (.slice (some ⟨g,fr,none⟩) n cp)))
 (cur:List Value) (hg:Row w g 5 cur) (hfit:fr + n <= cur.length) (hsrc:Reads w 1 (.slice sa n sc) n (Gp b)) :
 Calls prog 76 #[.pointer (some ⟨bx,0,none⟩),.agg #[.int .i64 k,.int .i64 t,.int .i64 o,.int .i64 x],.int .i64 a,.slice sa n sc] w fun e w'=>e = .returned (.tuple #[])/\Row w' g 5 (splice cur fr (Gp b))/\Mod w w' g:=by
 have hB:=Ae w (.cells #[.int .i64 k,.int .i64 t,.int .i64 o,.int .i64 x] 57);have HPC:=hid (hpc _ hB);have hcs:(Gp b).length = n:=by unfold Gp;rw [List.length_map,hbn]
 have hn1:(Gp b).length = Nat.min n n:=by rw [hcs];exact (Nat.min_self n).symm
 have hon:=Ot b;have hsz:(prog.info? 5).map (·.size) = some 1:=by kernel_rfl
 have Avh:fr + (Gp b).length <= cur.length:=by rw [hcs];exact hfit
 have Az9:=hid hsrc;have HB:=hid hB;have HG:=hid hg;have HF:=hid (And.intro Avh hn1);have HN:=hid hn;clear hpc hg hsrc hfit Avh hcs hbn hB hn1 hn;go_enter func76,ntmps76
 go_wp2_with (first
  | (go_at_call 105; refine (HPC.out).mono ?_; rintro e w1 ⟨rfl, hb⟩
     have hG1:w1.heap[g]? = some (.cells cur.toArray 5 (0,0)):=(HG.out.below HB.out HG.out.lt).below hb (HG.out.below HB.out HG.out.lt).lt
     have hpos:∃ ad,sa = some ad/\∀ j v,(Gp b)[j]? = some v->w1.cell? (ad.add j) = some v:=(by
      have hr:=(Reads.below Az9.out HB.out nl).below hb nl;obtain ⟨_,_,⟨h0,_⟩ | ⟨_,q,off,cap,hv,hlt,_,_,hc⟩⟩:=hr
      ·have:=HN.out;omega
      ·refine ⟨⟨q,off,none⟩,by injection hv,fun j u hj=>?_⟩;rw [ou];exact hc j u hj)
     have HG1:=hid hG1;have Aqr:=hid hpos;have HB1:=hid hb;clear hG1 hpos hb)
  | ((with_reducible refine Ya (o:=⟨some 21,_,_,_,_,_⟩) rfl (.tmp 19) (.tmp 20) 22 22 rfl 5 underlying22 hsz (some ⟨g,fr,none⟩) sa n cp n sc ?_ ?_ g fr cur 5 HG1.out (Gp b) HF.out.2 (fun _=>⟨rfl,Aqr.out⟩) HF.out.1 hon ?_);rfl;rfl;intro w2 hg2 hO2 hB2))
 have hm1:Mod w w1 g:=Mod.of_below (HB.out.trans (HB1.out.mono (by simp))) g;have hm2:Mod w1 w2 g:=⟨hB2.os,hB2.tape,hB2.output,hB2.size,fun q _ hq=>hO2 q hq⟩;exact bodyPost_ret (v:=.tuple #[]) (by simp [results,results76,go_sem]) rfl ⟨rfl,hg2.out,hm1.trans hm2⟩
end
theorem Uz (xs:List Int):(Gp xs).length = xs.length:=by simp [Gp]
theorem Anq {xs b:List Int} {fr:Nat} (h:fr + b.length <= xs.length):(Jp xs fr b).length = xs.length:=by
 unfold Jp;simp only [List.length_append,List.length_take,List.length_drop];omega
theorem Ae5 {X Y cs:List Value} {fr:Nat} (h:fr + cs.length <= X.length):splice (X ++ Y) fr cs = splice X fr cs ++ Y:=by
 unfold splice;rw [List.take_append_of_le_length (by omega),List.drop_append_of_le_length (by omega)];simp [List.append_assoc]
theorem Aip (xs b:List Int) (fr:Nat):splice (Gp xs) fr (Gp b) = Gp (Jp xs fr b):=by
 unfold splice Jp Gp;simp only [List.length_map,List.map_append,List.map_take,List.map_drop,List.append_assoc]
theorem Ae6 {w:World} {base:Nat} {ρ:Nat->Nat} {r:Nat} {vv:Value} {xs:List Int} (h:Bf w base ρ r 5 1 vv xs.length (Gp xs)) (hp:0 < xs.length) :
 ∃ g cap cur, vv = .slice (some ⟨g, 0, none⟩) xs.length cap ∧ ρ g = r ∧ base ≤ g ∧ Row w g 5 cur ∧ cur.length = cap ∧ xs.length ≤ cap ∧
   ∀ (w':World) (fr:Nat) (b:List Int),fr + b.length <= xs.length->Row w' g 5 (splice cur fr (Gp b))->Bf w' base ρ r 5 1 vv (Jp xs fr b).length (Gp (Jp xs fr b)):=by
 obtain ⟨⟨hlen,⟨_,h0⟩ | ⟨g,cap,cur,rfl,hb,hg,hnc,hcm,hcs,ht⟩⟩,h2⟩:=h
 ·omega
 ·refine ⟨g,cap,cur.toList,rfl,h2 g rfl,hb,hg,by rw [Array.length_toList,hcs,Nat.mul_one],hnc,fun w' fr b hfr hr=>?_⟩;have hl:=Anq hfr
  have e:cur.toList = Gp xs ++ cur.toList.drop xs.length:=by
   have:=List.take_append_drop (xs.length * 1) cur.toList;rw [ht,Nat.mul_one] at this;exact this.symm
  have hsp:splice cur.toList fr (Gp b) = Gp (Jp xs fr b) ++ cur.toList.drop xs.length:=by
   conv=>lhs;rw [e]
   rw [Ae5 (by rw [Uz,Uz];exact hfr),Aip]
  have hcl:cur.toList.length = cap:=by rw [Array.length_toList,hcs,Nat.mul_one]
  refine ⟨⟨by rw [Uz,Nat.mul_one],Or.inr ⟨g,cap,(splice cur.toList fr (Gp b)).toArray,by rw [hl],hb,hr,by rw [hl];exact hnc,hcm,?_,?_⟩⟩,fun q hq=>h2 q hq⟩
  ·rw [List.size_toArray,hsp,List.length_append,Uz,hl,List.length_drop,hcl,Nat.mul_one];omega
  ·show List.take _ (splice cur.toList fr (Gp b)) = _;rw [hsp,Nat.mul_one,List.take_append_of_le_length (by rw [Uz];exact Nat.le_refl _),List.take_of_length_le (by rw [Uz];exact Nat.le_refl _)]
section
variable {base:Nat} {w0:World} {fx:Ak} {s:Mst} {bx:Nat} {v:Bc} {w w':World} {g:Nat}
theorem Mod.Ayc (h:Mod w w' g) (hb:Below base w0 w) (hB:base <= g) (hgl:g < w.heap.size):Below base w0 w':=
 ⟨h.os.trans hb.os,h.tape.trans hb.tape,h.output.trans hb.output,Nat.le_trans hb.size h.size,fun k hk=>(h.block k (by omega) (by omega)).trans (hb.block k hk)⟩
theorem Row.Aqs {b:Nat} {e:TypeId} {cs:List Value} (h:Row w b e cs) (hm:Mod w w' g) (hne:b ≠ g):Row w' b e cs:=(hm.block b h.lt hne).trans h
theorem MS.Aws (h:MS base w0 fx s bx v w) (hm:Mod w w' g) (hB:base <= g) (hgl:g < w.heap.size) (hr:v.ρ g = 1) (c:List Int) (ho:Bf w' base v.ρ 1 5 1 v.xv c.length (Gp c)):MS base w0 fx { s with ctx:=c } bx v w':=
 have hne:bx ≠ g:=fun hc=>by have:=h.rb;rw [hc,hr] at this;cases this
 ⟨hm.Ayc h.bel hB hgl,h.box.Aqs hm hne,h.le,h.rb,h.Io.mod hm (by omega),h.Gq.mod hm (by omega),h.begin'.mod hm (by omega),ho,h.Oo.mod hm (by omega),h.L8.mod hm (by omega),h.L9.mod hm (by omega),h.Jo.mod hm (by omega),h.Xx,h.Oj⟩
theorem MS.Awt (h:MS base w0 fx s bx v w) (hm:Mod w w' g) (hB:base <= g) (hgl:g < w.heap.size) (t:Nat) (ht:t < s.rows.length) (hr:v.ρ g = 11 + t) (c:List Int) (u:Value) (hu:v.vals[t]? = some u) (ho:Bf w' base v.ρ (11 + t) 5 1 u c.length (Gp c)):MS base w0 fx { s with rows:=s.rows.set t c } bx v w':=
 have hne:bx ≠ g:=fun hc=>by have:=h.rb;rw [hc,hr] at this;omega
 ⟨hm.Ayc h.bel hB hgl,h.box.Aqs hm hne,h.le,h.rb,h.Io.mod hm (by omega),h.Gq.mod hm (by omega),h.begin'.mod hm (by omega),h.Qr.mod hm (by omega),
  ⟨by rw [List.length_set]; exact h.Oo.list.mod hm (by omega), fun k hk => by
    rw [List.length_set] at hk
    by_cases hkt:k = t
    ·subst hkt;exact ⟨u,hu,by rw [List.getElem_set_self];exact ho⟩
    ·obtain ⟨u',hu',ho'⟩:=h.Oo.item k hk;exact ⟨u',hu',by rw [List.getElem_set_ne (Ne.symm hkt)];exact ho'.mod hm (by omega)⟩⟩,
  h.L8.mod hm (by omega),h.L9.mod hm (by omega),h.Jo.mod hm (by omega),h.Xx,h.Oj⟩
theorem Jd.Aqs (hm:Mod w w' g) (hr:¬ Qs (v.ρ g)):Jd v.ρ w w':=fun k hk h9=>hm.block k hk (fun hc=>hr (by rw [<- hc];exact h9))
end
def Wrt (base:Nat) (w0:World) (fx:Ak) (s':Mst) (bx:Nat) (v:Bc) (w:World):Ending->World->Prop:=fun e w'=>e = .returned (.tuple #[])/\MS base w0 fx s' bx v w'/\Jd v.ρ w w'/\w.heap.size <= w'.heap.size
section
variable {base:Nat} {w0:World} {fx:Ak} {s:Mst} {bx:Nat} {v:Bc}
theorem Anr (t o x:Int) (a:Nat) (b:List Int) (hn:0 < b.length) (hin:a + b.length <= s.ctx.length) (hl:s.ctx.length <= 65535) (sa:Option Addr) (sc:Nat) (w:World) (h:MS base w0 fx s bx v w) (hsrc:Reads w 1 (.slice sa b.length sc) b.length (Gp b)) :
 Calls prog 76 #[.pointer (some ⟨bx,0,none⟩),.agg #[.int .i64 3,.int .i64 t,.int .i64 o,.int .i64 x],.int .i64 a,.slice sa b.length sc] w (Wrt base w0 fx { s with ctx:=Jp s.ctx a b } bx v w):=by
 obtain ⟨g,cap,cur,hv,hr,hB,hrow,hcl,hle,hnew⟩:=Ae6 h.Qr (by omega)
 have hsub:Ym (some ⟨g,0,none⟩) cap a = some ⟨g,a,none⟩:=by
  unfold Ym;rw [if_neg (by omega),Option.map_some,ou,Nat.zero_add,Nat.mul_one]
 refine (oz 3 t o x a rfl b.length g a (cap - a) sa sc b rfl hn w (fun w' hb=>?_) cur hrow (by omega) hsrc).mono ?_
 ·have hp:=Aa0 t o x a b.length s.ctx.length cap (some ⟨g,0,none⟩) hv (by omega) (by omega) w' (h.next hb);rw [hsub] at hp;exact hp
 ·rintro e w' ⟨rfl,hr',hm⟩;exact ⟨rfl,h.Aws hm hB hrow.lt hr _ (hnew w' a b hin hr'),Jd.Aqs hm (by unfold Qs;omega),hm.size⟩
theorem Ant (t o a wd:Nat) (x:Int) (b:List Int) (hn:0 < b.length) (ht:t < fx.tabs.length) (htr:t < s.rows.length) (hwd:(fx.tabs.getD t (0,0)).2 = wd) (ho:o <= 64) (hw64:wd <= 64)
 (hin:o * wd + a + b.length <= s.rows[t].length) (hl:s.rows[t].length <= 65535) (sa:Option Addr) (sc:Nat) (w:World) (h:MS base w0 fx s bx v w) (hsrc:Reads w 1 (.slice sa b.length sc) b.length (Gp b)) :
 Calls prog 76 #[.pointer (some ⟨bx,0,none⟩),.agg #[.int .i64 5,.int .i64 t,.int .i64 o,.int .i64 x],.int .i64 a,.slice sa b.length sc] w (Wrt base w0 fx { s with rows:=s.rows.set t (Jp s.rows[t] (o * wd + a) b) } bx v w):=by
 obtain ⟨_,_,u,_,_,_,hvu,hown⟩:=h.Aky t htr;obtain ⟨g,cap,cur,hv,hr,hB,hrow,hcl,hle,hnew⟩:=Ae6 hown (by omega)
 have hsub:Ym (some ⟨g,0,none⟩) cap (o * wd + a) = some ⟨g,o * wd + a,none⟩:=by
  unfold Ym;rw [if_neg (by omega),Option.map_some,ou,Nat.zero_add,Nat.mul_one]
 refine (oz 5 t o x a rfl b.length g (o * wd + a) (cap - (o * wd + a)) sa sc b rfl hn w (fun w' hb=>?_) cur hrow (by omega) hsrc).mono ?_
 ·have hp:=Aa1 t o a b.length s.rows[t].length cap wd x (some ⟨g,0,none⟩) ht htr (by rw [hvu,hv]) hwd ho hw64 (by omega) (by omega) w' (h.next hb);rw [hsub] at hp;exact hp
 ·rintro e w' ⟨rfl,hr',hm⟩;exact ⟨rfl,h.Awt hm hB hrow.lt t htr hr _ u hvu (hnew w' (o * wd + a) b hin hr'),Jd.Aqs hm (by unfold Qs;omega),hm.size⟩
end
theorem Aiq {st rg:List Value} (hs:st.length = 416) (xv tv dv zv cv uv bg sv:Value) (at' steps:Int) (done:Bool) (i:Nat) (hi:i < 416) (x:Value):(mrow st xv tv dv zv cv uv bg rg sv at' steps done).set i x = mrow (st.set i x) xv tv dv zv cv uv bg rg sv at' steps done:=by
 unfold mrow;rw [List.set_append_left _ _ (by omega)]
section
variable {base:Nat} {w0:World} {fx:Ak} {s:Mst} {bx:Nat} {v:Bc} {w:World} {sl:List Slot} {Q:Nat} {x:Slot}
theorem MS.Jv (h:MS base w0 fx { s with sl:=sl.set Q x } bx v w) (hQ:Q < sl.length) (j:Nat) (hj:j < 13) (val:Value) (x':Slot) (he:x.cs.set j val = x'.cs) (hb:x'.b.length = 8):MS base w0 fx { s with sl:=sl.set Q x' } bx v (w.setCell ⟨bx,Q * 13 + j,none⟩ val):=by
 have hl:=h.Xx;have hQ2:Q < (sl.set Q x).length:=by rw [List.length_set];exact hQ
 have h32:(sl.set Q x).length = 32:=hl.1;have hr:=h.box.put (Q * 13 + j) val;unfold Aw at hr;rw [Aiq h.lq _ _ _ _ _ _ _ _ _ _ _ (Q * 13 + j) (by omega)] at hr
 have e:(Rw (sl.set Q x)).set (Q * 13 + j) val = Rw (sl.set Q x'):=by
  rw [Akt (sl.set Q x) hl.2 Q hQ2 j hj val x' (by rw [List.getElem_set_self];exact he),List.set_set]
 have hr':Row (w.setCell ⟨bx,Q * 13 + j,none⟩ val) bx 87 (Aw { s with sl:=sl.set Q x' } v):=by
  unfold Aw;rw [show ({ s with sl:=sl.set Q x' }:Mst).st = (Rw (sl.set Q x)).set (Q * 13 + j) val from e.symm];exact hr
 exact h.mod ((Mod.refl w bx).set _ _) (sl.set Q x') s.rg s.at' s.steps s.done ⟨by rw [List.length_set];rw [List.length_set] at h32;exact h32,fun y hy=>by
  rcases List.mem_or_eq_of_mem_set hy with h' | h'
  ·by_cases hx:y = x
   ·subst hx;exact hl.2 y (List.mem_set hQ y)
   ·obtain ⟨i,hi,rfl⟩:=List.mem_iff_getElem.1 h'
    by_cases hiq:i = Q
    ·subst hiq;obtain ⟨i',hi',he'⟩:=List.mem_iff_getElem.1 hy
     by_cases hii:i' = i
     ·subst hii;rw [List.getElem_set_self] at he';rw [<- he'];exact hb
     ·rw [List.getElem_set_ne (Ne.symm hii)] at he'
      have:=hl.2 (sl[i']'(by rw [List.length_set] at hi';exact hi')) (by
       rw [List.mem_iff_getElem];exact ⟨i',by rw [List.length_set] at hi' ⊢;exact hi',by rw [List.getElem_set_ne (Ne.symm hii)]⟩)
      rw [he'] at this;exact this
    ·exact hl.2 _ (by
      rw [List.mem_iff_getElem];exact ⟨i,by rw [List.length_set];exact hi,by rw [List.getElem_set_ne (Ne.symm hiq)]⟩)
  ·rw [h'];exact hb⟩ h.Oj hr'
theorem MS.o8 (h:MS base w0 fx s bx v w) (hQ:Q < s.sl.length):MS base w0 fx { s with sl:=s.sl.set Q (s.sl.getD Q Cc) } bx v w:=by
 have e:s.sl.set Q (s.sl.getD Q Cc) = s.sl:=by
  rw [show s.sl.getD Q Cc = s.sl[Q] by simp [List.getD,hQ]];simp
 rw [e];exact h
end
theorem Slot.Aqt {x:Slot} (h:x.b.length = 8) (R:Nat) (hR:R < 8) (c:Int):x.cs.set (4 + R) (.int .u8 c) = (Slot.mk x.p (x.b.set R c) x.m).cs:=by
 unfold Slot.cs;rw [List.set_append_right _ _ (show x.p.cs.length <= 4 + R by show 4 <= 4 + R;omega),show 4 + R - x.p.cs.length = R by show 4 + R - 4 = R;omega,List.set_append_left _ _ (by rw [List.length_map,h];exact hR),List.map_set]
theorem Slot.Aqu {x:Slot} (h:x.b.length = 8) (m:Int):x.cs.set 12 (.int .i64 m) = (Slot.mk x.p x.b m).cs:=by
 unfold Slot.cs;rw [List.set_append_right _ _ (show x.p.cs.length <= 12 by show 4 <= 12;omega),show 12 - x.p.cs.length = 8 from rfl,List.set_append_right _ _ (by rw [List.length_map,h];omega),List.length_map,h];rfl
theorem o9:∀ (b:List Int) (sl:List Slot) (a:Nat) (c:Int),wrF sl a (b ++ [c]) = wr1 (wrF sl a b) (a + b.length) c
 | [],sl,a,c=>rfl
 | x :: b, sl, a, c => by
   show wrF (wr1 sl a x) (a + 1) (b ++ [c]) = _;rw [o9 b (wr1 sl a x) (a + 1) c,List.length_cons,show a + 1 + b.length = a + (b.length + 1) by omega];rfl
theorem MS.Aqv {base:Nat} {w0:World} {fx:Ak} {s:Mst} {bx:Nat} {v:Bc} {w:World} {Q:Nat} (h:MS base w0 fx s bx v w) (hQ:Q < 32):∃ k t o x b0 b1 b2 b3 b4 b5 b6 b7 m,s.sl.getD Q Cc = ⟨⟨k,t,o,x⟩,[b0,b1,b2,b3,b4,b5,b6,b7],m⟩/\(w.cell? ⟨bx,Q * 13,none⟩ = some (.int .i64 k)/\w.cell? ⟨bx,Q * 13 + 1,none⟩ = some (.int .i64 t)/\w.cell? ⟨bx,Q * 13 + 2,none⟩ = some (.int .i64 o)/\w.cell? ⟨bx,Q * 13 + 3,none⟩ = some (.int .i64 x)/\w.cell? ⟨bx,Q * 13 + 4,none⟩ = some (.int .u8 b0)/\w.cell? ⟨bx,Q * 13 + 5,none⟩ = some (.int .u8 b1)/\w.cell? ⟨bx,Q * 13 + 6,none⟩ = some (.int .u8 b2)/\w.cell? ⟨bx,Q * 13 + 7,none⟩ = some (.int .u8 b3)/\w.cell? ⟨bx,Q * 13 + 8,none⟩ = some (.int .u8 b4)/\w.cell? ⟨bx,Q * 13 + 9,none⟩ = some (.int .u8 b5)/\w.cell? ⟨bx,Q * 13 + 10,none⟩ = some (.int .u8 b6)/\w.cell? ⟨bx,Q * 13 + 11,none⟩ = some (.int .u8 b7)/\w.cell? ⟨bx,Q * 13 + 12,none⟩ = some (.int .i64 m))/\w.frozen? ⟨bx,Q * 13,none⟩ = false/\w.frozen? ⟨bx,Q * 13 + 1,none⟩ = false/\w.frozen? ⟨bx,Q * 13 + 2,none⟩ = false/\w.frozen? ⟨bx,Q * 13 + 3,none⟩ = false/\w.frozen? ⟨bx,Q * 13 + 4,none⟩ = false/\w.frozen? ⟨bx,Q * 13 + 5,none⟩ = false/\w.frozen? ⟨bx,Q * 13 + 6,none⟩ = false/\w.frozen? ⟨bx,Q * 13 + 7,none⟩ = false/\w.frozen? ⟨bx,Q * 13 + 8,none⟩ = false/\w.frozen? ⟨bx,Q * 13 + 9,none⟩ = false/\w.frozen? ⟨bx,Q * 13 + 10,none⟩ = false/\w.frozen? ⟨bx,Q * 13 + 11,none⟩ = false/\w.frozen? ⟨bx,Q * 13 + 12,none⟩ = false:=by
 have h8:=h.Xx.at Q hQ;have hc:=fun j hj=>h.Vq Q hQ j hj;generalize s.sl.getD Q Cc = X at h8 hc ⊢;obtain ⟨⟨k,t,o,x⟩,b,m⟩:=X;simp only at h8
 match b,h8 with
 | [b0, b1, b2, b3, b4, b5, b6, b7], _ =>
   exact ⟨k,t,o,x,b0,b1,b2,b3,b4,b5,b6,b7,m,rfl,⟨hc 0 (by decide),hc 1 (by decide),hc 2 (by decide),hc 3 (by decide),hc 4 (by decide),hc 5 (by decide),hc 6 (by decide),hc 7 (by decide),hc 8 (by decide),hc 9 (by decide),hc 10 (by decide),hc 11 (by decide),hc 12 (by decide)⟩,h.box.free _,h.box.free _,h.box.free _,h.box.free _,h.box.free _,h.box.free _,h.box.free _,h.box.free _,h.box.free _,h.box.free _,h.box.free _,h.box.free _,h.box.free _⟩
theorem MS.zeroS {base:Nat} {w0:World} {fx:Ak} {s:Mst} {bx:Nat} {v:Bc} {w:World} {sl:List Slot} {Q:Nat} {k t o x b0 b1 b2 b3 b4 b5 b6 b7 m:Int} (h:MS base w0 fx { s with sl:=sl.set Q ⟨⟨k,t,o,x⟩,[b0,b1,b2,b3,b4,b5,b6,b7],m⟩ } bx v w) (hQ:Q < sl.length):MS base w0 fx { s with sl:=sl.set Q Cc } bx v (((((((((((((w.setCell ⟨bx,Q * 13,none⟩ (.int .i64 0)).setCell ⟨bx,Q * 13 + 1,none⟩ (.int .i64 0)).setCell ⟨bx,Q * 13 + 2,none⟩ (.int .i64 0)).setCell ⟨bx,Q * 13 + 3,none⟩ (.int .i64 0)).setCell ⟨bx,Q * 13 + 4,none⟩ (.int .u8 0)).setCell ⟨bx,Q * 13 + 5,none⟩ (.int .u8 0)).setCell ⟨bx,Q * 13 + 6,none⟩ (.int .u8 0)).setCell ⟨bx,Q * 13 + 7,none⟩ (.int .u8 0)).setCell ⟨bx,Q * 13 + 8,none⟩ (.int .u8 0)).setCell ⟨bx,Q * 13 + 9,none⟩ (.int .u8 0)).setCell ⟨bx,Q * 13 + 10,none⟩ (.int .u8 0)).setCell ⟨bx,Q * 13 + 11,none⟩ (.int .u8 0)).setCell ⟨bx,Q * 13 + 12,none⟩ (.int .i64 0)):=
 (((((((((((((h.Jv hQ 0 (by decide) _ ⟨⟨0,t,o,x⟩,[b0,b1,b2,b3,b4,b5,b6,b7],m⟩ rfl rfl).Jv hQ 1 (by decide) _ ⟨⟨0,0,o,x⟩,[b0,b1,b2,b3,b4,b5,b6,b7],m⟩ rfl rfl).Jv hQ 2 (by decide) _ ⟨⟨0,0,0,x⟩,[b0,b1,b2,b3,b4,b5,b6,b7],m⟩ rfl rfl).Jv hQ 3 (by decide) _ ⟨⟨0,0,0,0⟩,[b0,b1,b2,b3,b4,b5,b6,b7],m⟩ rfl rfl).Jv hQ 4 (by decide) _ ⟨⟨0,0,0,0⟩,[0,b1,b2,b3,b4,b5,b6,b7],m⟩ rfl rfl).Jv hQ 5 (by decide) _ ⟨⟨0,0,0,0⟩,[0,0,b2,b3,b4,b5,b6,b7],m⟩ rfl rfl).Jv hQ 6 (by decide) _ ⟨⟨0,0,0,0⟩,[0,0,0,b3,b4,b5,b6,b7],m⟩ rfl rfl).Jv hQ 7 (by decide) _ ⟨⟨0,0,0,0⟩,[0,0,0,0,b4,b5,b6,b7],m⟩ rfl rfl).Jv hQ 8 (by decide) _ ⟨⟨0,0,0,0⟩,[0,0,0,0,0,b5,b6,b7],m⟩ rfl rfl).Jv hQ 9 (by decide) _ ⟨⟨0,0,0,0⟩,[0,0,0,0,0,0,b6,b7],m⟩ rfl rfl).Jv hQ 10 (by decide) _ ⟨⟨0,0,0,0⟩,[0,0,0,0,0,0,0,b7],m⟩ rfl rfl).Jv hQ 11 (by decide) _ ⟨⟨0,0,0,0⟩,[0,0,0,0,0,0,0,0],m⟩ rfl rfl).Jv hQ 12 (by decide) _ ⟨⟨0,0,0,0⟩,[0,0,0,0,0,0,0,0],0⟩ rfl rfl)
theorem Ae7:∀ x:Fin 256,∀ r:Fin 8,x.val ||| 2 ^ r.val = if x.val / 2 ^ r.val % 2 == 1 then x.val else x.val + 2 ^ r.val:=by decide +kernel
theorem or_bit (m:Int) (hm:0 <= m/\m <= 255) (r:Nat) (hr:r < 8):bits .or .i64 m (wrap64 (2 ^ r)) = if Aci m r then m else m + 2 ^ r:=by
 obtain ⟨n,rfl⟩:∃ n:Nat,m = n:=⟨m.toNat,by omega⟩;have h2:(2:Nat) ^ r <= 2 ^ 7:=Nat.pow_le_pow_right (by decide) (by omega);have e:((2:Int) ^ r) = ((2 ^ r:Nat):Int):=by push_cast;rfl
 have h:=Ae7 ⟨n,by omega⟩ ⟨r,hr⟩;simp only at h;unfold Aci;rw [Int.toNat_natCast,e];generalize 2 ^ r = q at h h2 ⊢;have hw:wrap64 (q:Int) = (q:Int):=by unfold wrap64;omega
 rw [hw]
 have hb:bits .or .i64 (n:Int) (q:Int) = ((n ||| q:Nat):Int):=by
  have hlt:n ||| q < 256:=Nat.or_lt_two_pow (n:=8) (by omega) (by omega);have ux:un (n:Int) = n:=by unfold un;omega
  have uy:un (q:Int) = q:=by unfold un;omega
  rw [Agb,ux,uy];generalize n ||| q = z at hlt ⊢;unfold wrap64;omega
 rw [hb,h]
 split <;> simp
theorem Ae8 {sl:List Slot} (h:∀ y ∈ sl,0 <= y.m/\y.m <= 255) (i:Nat) (c:Int):∀ y ∈ wr1 sl i c,0 <= y.m/\y.m <= 255:=by
 intro y hy;unfold wr1 at hy;simp only at hy
 rcases List.mem_or_eq_of_mem_set hy with h' | h'
 ·exact h y h'
 ·rw [h'];simp only;obtain ⟨Y,hY⟩:∃ Y,Y = (if (F6 sl i).p.k ≠ 0 then Cc else F6 sl i):=⟨_,rfl⟩;rw [<- hY]
  have hm:0 <= Y.m/\Y.m <= 255:=by
   rw [hY]
   split
   ·exact ⟨by decide,by decide⟩
   ·unfold F6
    by_cases hi:i / 8 < sl.length
    ·rw [show sl.getD (i / 8) Cc = sl[i / 8] by simp [List.getD,hi]];exact h _ (List.getElem_mem hi)
    ·rw [show sl.getD (i / 8) Cc = Cc by simp [List.getD,hi]];exact ⟨by decide,by decide⟩
  have hr:=Nat.mod_lt i (show 0 < 8 by decide);obtain ⟨n,hn⟩:∃ n:Nat,Y.m = n:=⟨Y.m.toNat,by omega⟩;rw [hn] at hm ⊢;have hs:=Ae7 ⟨n,by omega⟩ ⟨i % 8,hr⟩;simp only at hs;unfold Aci;rw [Int.toNat_natCast];have hlt:n ||| 2 ^ (i % 8) < 256:=Nat.or_lt_two_pow (n:=8) (by omega) (Nat.lt_of_le_of_lt (Nat.pow_le_pow_right (by decide) (show i % 8 <= 7 by omega)) (by decide));rw [hs] at hlt
  split
  ·rename_i hb;rw [if_pos hb] at hlt;omega
  ·rename_i hb;rw [if_neg hb] at hlt;have e:((n:Int) + 2 ^ (i % 8)) = ((n + 2 ^ (i % 8):Nat):Int):=by push_cast;rfl
   rw [e];generalize 2 ^ (i % 8) = q at hlt ⊢;omega
theorem Air:prog.built 61 [] = some #[.int .i64 0,.int .i64 0,.int .i64 0,.int .i64 0,.int .u8 0,.int .u8 0,.int .u8 0,.int .u8 0,.int .u8 0,.int .u8 0,.int .u8 0,.int .u8 0,.int .i64 0]:=by kernel_rfl
theorem Aqw (w:World):(Instr.build 61 #[]).run prog w = .ok (.agg #[.int .i64 0,.int .i64 0,.int .i64 0,.int .i64 0,.int .u8 0,.int .u8 0,.int .u8 0,.int .u8 0,.int .u8 0,.int .u8 0,.int .u8 0,.int .u8 0,.int .i64 0]) w:=run_build w _ _ _ Air
section
variable {base:Nat} {w0:World} {fx:Ak} {s:Mst} {bx:Nat} {v:Bc}
theorem Zk (t o x:Int) (a n:Nat) (b:List Int) (hbn:b.length = n) (hin:a + n <= 256) (sa:Option Addr) (sc:Nat) (hm:∀ y ∈ s.sl,0 <= y.m/\y.m <= 255) (w:World) (h:MS base w0 fx s bx v w) (hsrc:Reads w 1 (.slice sa n sc) n (Gp b)) (hne:∀ q off,sa = some ⟨q,off,none⟩->q ≠ bx) :
 Calls prog 76 #[.pointer (some ⟨bx,0,none⟩),.agg #[.int .i64 2,.int .i64 t,.int .i64 o,.int .i64 x],.int .i64 a,.slice sa n sc] w (Wrt base w0 fx { s with sl:=wrF s.sl a b } bx v w):=by
 have hlt:=h.box.lt;have hsl:=Aqw;have hB:=Ae w (.cells #[.int .i64 2,.int .i64 t,.int .i64 o,.int .i64 x] 57);have H:=hid (h.next hB);have HB:=hid hB;have HM:=hid hm;have HIN:=hid hin;have HBN:=hid hbn
 obtain ⟨q,off,hsa,hql,hcell⟩:∃ q off,(0 < n->sa = some ⟨q,off,none⟩)/\(0 < n->q < w.heap.size/\q ≠ bx)/\∀ i,i < n->w.cell? ⟨q,off + i,none⟩ = some (.int .u8 (b.getD i 0)):=by
  obtain ⟨_,_,⟨h0,_⟩ | ⟨_,q,off,cap,hv,hlt,_,_,hc⟩⟩:=hsrc
  ·exact ⟨0,0,fun h=>by omega,fun h=>by omega,fun i hi=>by omega⟩
  ·have hs:sa = some ⟨q,off,none⟩:=by injection hv
   refine ⟨q,off,fun _=>hs,fun _=>⟨hlt,hne q off hs⟩,fun i hi=>hc i _ ?_⟩;unfold Gp;rw [List.getElem?_map,List.getElem?_eq_getElem (by omega)];simp [List.getD,hbn,hi]
 have HQ:=hid (And.intro hsa (And.intro hql hcell));clear h hm hin hbn hsrc hne hsa hql hcell hB;go_enter func76,ntmps76;go_wp2
 go_loopg [8,9,10,24] n (fun g s8 s9 s10 s24 wr=>∃ i:Nat,i <= n/\g = n - i/\s24 = .int .i64 i/\MS base w0 fx { s with sl:=wrF s.sl a (b.take i) } bx v wr/\Mod w wr bx/\∀ y ∈ wrF s.sl a (b.take i),0 <= y.m/\y.m <= 255)
 case atStart=>exact ⟨0,Nat.zero_le _,rfl,rfl,H.out,Mod.of_below HB.out bx,HM.out⟩
 case round=>
  obtain ⟨i,hi,rfl,rfl,hM,hmod,Ayd⟩:=hrel;have Aye:=hid Ayd;clear Ayd
  by_cases hlt2:i < n
  ·have hj0:decide (i < n) = true:=by simpa using hlt2
   obtain ⟨hsa,hql,hcell⟩:=HQ.out;obtain rfl:=hsa (by omega);have hcb:=hcell i hlt2;have hq:=hql (by omega)
   have hcw:wr.cell? ⟨q,off + i,none⟩ = some (.int .u8 (b.getD i 0)):=by
    rw [<- hcb];exact World.cell?_of_block (hmod.block q hq.1 hq.2)
   obtain ⟨c,hc⟩:∃ c,c = b.getD i 0:=⟨_,rfl⟩;rw [<- hc] at hcw;obtain ⟨sl,Anu⟩:∃ sl,sl = wrF s.sl a (b.take i):=⟨_,rfl⟩;rw [<- Anu] at hM;have hmi:a + i < 256:=by have:=HIN.out;omega
   obtain ⟨m,hm⟩:∃ m,m = a + i:=⟨_,rfl⟩;obtain ⟨Q,hQ⟩:∃ Q,Q = m / 8:=⟨_,rfl⟩;have Ack:Q < 32:=by omega
   have hQs:Q < sl.length:=by have:=hM.Xx.1;show Q < sl.length;exact this ▸ Ack
   have hp:=(hM.Zz Q Ack).1;simp only at hp;obtain ⟨X,hX⟩:∃ X,X = sl.getD Q Cc:=⟨_,rfl⟩;obtain ⟨pk,hpk⟩:∃ pk,pk = X.p.k:=⟨_,rfl⟩;rw [<- hX,<- hpk] at hp;have hwa:=Xe a i (by omega);rw [<- hm] at hwa;have hw8:=Ano m (by clear hwa;omega);rw [<- hQ] at hw8;have hq1:(0:Int) <= (Q:Int):=Int.natCast_nonneg _;have hq2:(Q:Int) < 32:=Int.ofNat_lt.2 Ack;have hw1:=add1 i (by clear hwa hw8;omega);have Az8:bx < wr.heap.size:=hM.box.lt;have Awu:q < wr.heap.size:=Nat.lt_of_lt_of_le hq.1 hmod.size;have HMS:=hid (And.intro hM hmod);have HH:=hid (And.intro hm (And.intro hQ (And.intro hX (And.intro hpk (And.intro hc Anu)))));have HI:=hid (And.intro hlt2 (And.intro Ack hQs));clear hm hQ hX hpk hc Anu hM hmod Ack hQs hsa hql hcell hcb hq hmi hi;go_upto_if 42 with fail
   go_cut [] (fun wx=>MS base w0 fx { s with sl:=sl.set Q (if pk ≠ 0 then Cc else X) } bx v wx/\Mod w wx bx)
   case first=>
    by_cases zy:pk = 0
    ·have q0:(pk != 0) = false:=by simpa using zy
     try simp only [q0]
     have HP0:=hid zy;clear zy;go_wp2_with fail;go_meet
     case rel=>
      rw [if_neg (fun h=>h HP0.out),HH.out.2.2.1];exact ⟨HMS.out.1.o8 (by exact HI.out.2.2),HMS.out.2⟩
    ·have q0:(pk != 0) = true:=by simpa using zy
     try simp only [q0]
     have HP0:=hid zy;obtain ⟨ck,ct,co,cx,b0,b1,b2,b3,b4,b5,b6,b7,cm,hXX,⟨_,_,_,_,_,_,_,_,_,_,_,_,_⟩,_,_,_,_,_,_,_,_,_,_,_,_,_⟩:=HMS.out.1.Aqv HI.out.2.1;have HXX:=hid hXX;clear zy hXX hp;go_wp2_with fail;go_meet
     case rel=>
      rw [if_pos HP0.out];have h0:=HMS.out.1.o8 (Q:=Q) HI.out.2.2;rw [HXX.out] at h0;have h1:=h0.zeroS HI.out.2.2;refine ⟨h1,?_⟩;have hmd:=HMS.out.2;exact ((((((((((((hmd.set _ _).set _ _).set _ _).set _ _).set _ _).set _ _).set _ _).set _ _).set _ _).set _ _).set _ _).set _ _).set _ _
   case rest=>
    obtain ⟨hM2,Avi⟩:=hcut;obtain ⟨Y,hY⟩:∃ Y,Y = (if pk ≠ 0 then Cc else X):=⟨_,rfl⟩;rw [<- hY] at hM2;have h8:Y.b.length = 8:=hM2.Xx.2 Y (List.mem_set HI.out.2.2 Y);have hYQ:(sl.set Q Y).getD Q Cc = Y:=by simp [List.getD,HI.out.2.2]
    have hby:=hM2.Ae2 Q HI.out.2.1 (m % 8) (Nat.mod_lt _ (by decide));simp only [hYQ] at hby;have hfb:=hM2.box.free (Q * 13 + 4 + m % 8);have A2b:bx < wc.heap.size:=hM2.box.lt;have HM2:=hid (And.intro hM2 Avi);have HY:=hid (And.intro hY (And.intro h8 hYQ));clear hY h8 hYQ hM2 Avi hp hcw;go_upto_region 9 with fail
    go_cut [] (fun wx=>MS base w0 fx { s with sl:=sl.set Q ⟨Y.p,Y.b.set (m % 8) c,Y.m⟩ } bx v wx/\Mod w wx bx)
    case first=>
     go_wp2_with fail;go_meet
     case rel=>
      have h1:=HM2.out.1.Jv HI.out.2.2 (4 + m % 8) (by have:=Nat.mod_lt m (show 0 < 8 by decide);omega) (.int .u8 c) ⟨Y.p,Y.b.set (m % 8) c,Y.m⟩ (Slot.Aqt HY.out.2.1 (m % 8) (Nat.mod_lt _ (by decide)) c) (by rw [List.length_set];exact HY.out.2.1);rw [<- Nat.add_assoc] at h1;exact ⟨h1,HM2.out.2.set _ _⟩
    case rest=>
     obtain ⟨hM3,Avj⟩:=hcut;have hmk:=hM3.Ae1 Q HI.out.2.1;rw [show (sl.set Q ⟨Y.p,Y.b.set (m % 8) c,Y.m⟩).getD Q Cc = ⟨Y.p,Y.b.set (m % 8) c,Y.m⟩ by simp [List.getD,HI.out.2.2]] at hmk;simp only at hmk;obtain ⟨ym,hym⟩:∃ ym,ym = Y.m:=⟨_,rfl⟩;rw [<- hym] at hmk;have hfm:=hM3.box.free (Q * 13 + 12);have A2c:bx < wc.heap.size:=hM3.box.lt;have Ru:=hid (And.intro hM3 Avj);have HYM:=hid hym;clear hM3 Avj hym hby hfb HM2;go_upto_region 10 with fail
     go_region
     go_wp2
     go_roundg (n - (i + 1))
     case measure=>have:=HI.out.1;omega
     case rel=>
      obtain ⟨hm,hQ,hX,hpk,hc,Anu⟩:=HH.out;have A0a:∀ y ∈ sl,0 <= y.m/\y.m <= 255:=by rw [Anu];exact Aye.out
      have hYm:0 <= Y.m/\Y.m <= 255:=by
       rw [HY.out.1]
       split
       ·exact ⟨by decide,by decide⟩
       ·rw [hX,show sl.getD Q Cc = sl[Q]'(HI.out.2.2) by simp [List.getD,HI.out.2.2]];exact A0a _ (List.getElem_mem _)
      have hr8:=Nat.mod_lt m (show 0 < 8 by decide);have h1:=(Ru.out.1.Jv HI.out.2.2 12 (by decide) (.int .i64 (bits .or .i64 ym (wrap64 (2 ^ (m % 8))))) ⟨Y.p,Y.b.set (m % 8) c,bits .or .i64 ym (wrap64 (2 ^ (m % 8)))⟩ (Slot.Aqu (by show (Y.b.set _ _).length = 8;rw [List.length_set];exact HY.out.2.1) _) (by show (Y.b.set _ _).length = 8;rw [List.length_set];exact HY.out.2.1)).next (Below.refl _ _).drew
      have hwr:sl.set Q ⟨Y.p,Y.b.set (m % 8) c,bits .or .i64 ym (wrap64 (2 ^ (m % 8)))⟩ = wrF s.sl a (b.take (i + 1)):=by
       rw [take_snoc b i (by rw [HBN.out];exact HI.out.1),o9,<- Anu,List.length_take,HBN.out,Nat.min_eq_left (Nat.le_of_lt HI.out.1),<- hm,<- hc];unfold wr1 F6;simp only;rw [<- hQ,<- hX,<- hpk,<- HY.out.1,HYM.out,or_bit Y.m hYm (m % 8) hr8]
      rw [hwr] at h1;refine ⟨i + 1,HI.out.1,rfl,by first | rw [hw1] | rfl,h1,(Ru.out.2.set _ _).below (Below.refl _ _).drew,?_⟩;rw [take_snoc b i (by rw [HBN.out];exact HI.out.1),o9];exact Ae8 Aye.out _ _
  ·have hj0:decide (i < n) = false:=by simpa using hlt2
   obtain rfl:i = n:=by omega
   have HMS:=hid (And.intro hM hmod);clear hM hmod;go_wp2;have h1:=HMS.out.1;rw [List.take_of_length_le (by rw [HBN.out];exact Nat.le_refl _)] at h1;exact bodyPost_ret (v:=.tuple #[]) (by simp [results,results76,go_sem]) rfl ⟨rfl,h1,Jd.Eu HMS.out.2 H.out.rb,HMS.out.2.size⟩
end
section
variable {base:Nat} {w0:World} {fx:Ak} {s:Mst} {bx:Nat} {v:Bc}
theorem Yp (p:Val) (hp:Gf fx p) (hk4:p.k ≠ 4) (hm:J4 fx s) (a n:Nat) (b:List Int) (hbn:b.length = n) (hn:0 < n) (hin:Dh fx s p a n = true) (sa:Option Addr) (sc:Nat) (w:World) (h:MS base w0 fx s bx v w)
 (hsrc:Reads w 1 (.slice sa n sc) n (Gp b)) (hne:∀ q off,sa = some ⟨q,off,none⟩->q ≠ bx) :
 Calls prog 76 #[.pointer (some ⟨bx,0,none⟩),p.agg,.int .i64 a,.slice sa n sc] w (Wrt base w0 fx (Gn fx s p a b) bx v w):=by
 subst hbn;obtain ⟨k,t,o,x⟩:=p;have hk1:=hp.kind;have hrow:=hp.row;simp only at hk4 hk1 hrow;have hw:=(Fe hin).2;unfold Xc at hw;unfold Gn Val.agg;simp only [Int.toNat_natCast]
 by_cases h2:k = 2
 ·subst h2;rw [if_pos rfl] at hw;rw [if_pos rfl];exact Zk t o x a b.length b rfl (by omega) sa sc (fun y hy=>(hm.slots y hy).2) w h hsrc hne
 ·rw [if_neg h2] at hw;rw [if_neg h2]
  by_cases h3:k = 3
  ·subst h3;rw [if_pos rfl] at hw;rw [if_pos rfl];exact Anr t o x a b hn (by omega) hm.Zt sa sc w h hsrc
  ·rw [if_neg h3,if_neg hk4] at hw;rw [if_neg h3];obtain rfl:k = 5:=by omega
   obtain ⟨r1,r2,r3,r4⟩:=hrow rfl;obtain ⟨tn,rfl⟩:∃ q:Nat,t = q:=⟨t.toNat,by omega⟩;obtain ⟨on,rfl⟩:∃ q:Nat,o = q:=⟨o.toNat,by omega⟩;simp only [Int.toNat_natCast] at r4 hw ⊢;have htl:tn < fx.tabs.length:=by omega
   have hrl:tn < s.rows.length:=by rw [hm.Md];exact htl
   obtain ⟨q1,q2,q3,q4⟩:=hm.tabs tn htl;obtain ⟨hb,hlen⟩:=hm.rows tn hrl;obtain ⟨wd,hwd⟩:∃ q:Nat,(fx.tabs.getD tn (0,0)).2 = q:=⟨(fx.tabs.getD tn (0,0)).2.toNat,by omega⟩;rw [hwd] at hw q3 q4 hlen;obtain ⟨rw',hrw⟩:∃ q:Nat,(fx.tabs.getD tn (0,0)).1 = q:=⟨(fx.tabs.getD tn (0,0)).1.toNat,by omega⟩;rw [hrw] at r4 q1 q2 hlen
   have hL:s.rows[tn].length = rw' * wd:=by
    have:((s.rows[tn].length:Nat):Int) = ((rw' * wd:Nat):Int):=by rw [hlen];push_cast;rfl
    exact_mod_cast this
   have hmul:(on + 1) * wd <= rw' * wd:=Nat.mul_le_mul_right _ (by omega);have Ax9:rw' * wd <= 64 * 64:=Nat.mul_le_mul (by omega) (by omega);have Avg:(on + 1) * wd = on * wd + wd:=Nat.succ_mul on wd
   have hfr:Zh fx ⟨5,tn,on,x⟩ a = on * wd + a:=by
    unfold Zh;simp only [Int.toNat_natCast];rw [hwd];have:(on:Int) * (wd:Int) + (a:Int) = ((on * wd + a:Nat):Int):=by push_cast;rfl
    rw [this,Int.toNat_natCast]
   have hro:rowOf s ⟨5,tn,on,x⟩ = s.rows[tn]:=by unfold rowOf;simp [List.getD,hrl]
   rw [hfr,hro];exact Ant tn on a wd x b hn htl hrl hwd (by omega) (by omega) (by omega) (by omega) sa sc w h hsrc
def v9 (v:Bc) (w:World):Bc:={ v with ρ:=Aj v.ρ w.heap.size 9 }
theorem MS.nine {w:World} (h:MS base w0 fx s bx v w):MS base w0 fx s bx (v9 v w) w:=
 have hb:=Below.refl w.heap.size w;have hs:∀ q,q < w.heap.size->Aj v.ρ w.heap.size 9 q = v.ρ q:=Bo
 ⟨h.bel,h.box,h.le,(hs bx h.box.lt).trans h.rb,h.Io.next hb hs,h.Gq.next hb hs,h.begin'.Akr hb hs,h.Qr.next hb hs,h.Oo.next hb hs,h.L8.next hb hs,h.L9.next hb hs,h.Jo.next hb hs,h.Xx,h.Oj⟩
theorem Tt {w:World} {q:Nat} (h:w.heap.size <= q):(v9 v w).ρ q = 9:=by unfold v9 Aj;simp [h]
theorem Js {w:World}:∀ q,q < w.heap.size->(v9 v w).ρ q = v.ρ q:=Bo
theorem pq {w:World} {b k:Nat} {x:Int} (hR:Row w b 5 (Dv k fun i=>x / 2 ^ (8 * i) % 256)) (hk:k <= 8):Reads w 1 (.slice (some ⟨b,0,none⟩) k k) k (Gp (Wq k x)):=by
 have h:=reads_held (Al1 hR hk);rw [G9] at h;exact h
end
theorem Mod.new {w w1:World} {bx q:Nat} (h:Mod w w1 bx) (hq:w.heap.size <= q) (i:Nat) (x:Value):Mod w (w1.setCell ⟨q,i,none⟩ x) bx:=
 ⟨h.os,h.tape,h.output,by rw [World.size_setCell];exact h.size,fun k hk hne=>by rw [Below.heap_setCell _ _ _ _ (by show k ≠ q;omega)];exact h.block k hk hne⟩
theorem Acl {st rg:List Value} (hs:st.length = 416) (hl:rg.length = 44) (xv tv dv zv cv uv bg sv:Value) (at' steps:Int) (done:Bool) (x:Value):(mrow st xv tv dv zv cv uv bg rg sv at' steps done).set 467 x = mrow st xv tv dv zv cv uv bg rg x at' steps done:=by
 unfold mrow;rw [List.set_append_right _ _ (by rw [hs];decide),hs,List.set_append_right _ _ (by simp),List.set_append_right _ _ (by simp [hl])];simp [hl]
section
variable {base:Nat} {w0:World} {fx:Ak} {s:Mst} {bx:Nat} {v:Bc}
theorem MS.At9 {w w1:World} {sent':List Int} {nv:Value} (h:MS base w0 fx s bx v w) (hown:w1.ownsRow base 3 1 nv sent'.length (Jb sent')) (hgrow:w.grownBy w1 v.sv.ownBlock) (hr:∀ g,nv.ownBlock = some g->v.ρ g = 7) :
 MS base w0 fx { s with sent:=sent' } bx { v with sv:=nv } (w1.setCell ⟨bx,467,none⟩ nv):=by
 have hlt:=h.box.lt;have hle:base <= w.heap.size:=Nat.le_trans h.le (Nat.le_of_lt hlt);have hsb:∀ g,v.sv.ownBlock = some g->v.ρ g = 7:=h.Jo.2;have hf1:∀ q,q < w.heap.size->v.ρ q ≠ 7->w1.heap[q]? = w.heap[q]?:=fun q hq h7=>hgrow.block q hq (fun hc=>h7 (hsb q hc.symm))
 have hf:∀ q,q < w.heap.size->v.ρ q ≠ 7->v.ρ q ≠ 0->(w1.setCell ⟨bx,467,none⟩ nv).heap[q]? = w.heap[q]?:=fun q hq h7 h0=>by
  rw [Below.heap_setCell _ _ _ _ (by show q ≠ bx;intro hc;rw [hc,h.rb] at h0;exact h0 rfl)];exact hf1 q hq h7
 have hbel:Below base w0 (w1.setCell ⟨bx,467,none⟩ nv):=
  (Below.grown h.bel hgrow hle (fun g hg=>(h.Jo.1.lt g hg).1)).setCell h.le nv
 have hbox:Row (w1.setCell ⟨bx,467,none⟩ nv) bx 87 (Aw { s with sent:=sent' } { v with sv:=nv }):=by
  have hr1:Row w1 bx 87 (Aw s v):=by
   have hb:=h.box;unfold Row at hb ⊢;rw [hf1 bx hlt (by rw [h.rb];decide)];exact hb
  have h2:=hr1.put 467 nv;have hl:(Ei s.rg).length = 44:=by rw [Jm,h.Oj]
  have he:(Aw s v).set 467 nv = Aw { s with sent:=sent' } { v with sv:=nv }:=by
   unfold Aw;exact Acl h.lq hl _ _ _ _ _ _ _ _ _ _ _ _
  rw [he] at h2;exact h2
 have Ayf:Bf (w1.setCell ⟨bx,467,none⟩ nv) base v.ρ 7 3 1 nv sent'.length (Jb sent'):=by
  refine ⟨Em hown (fun g hg=>?_),hr⟩;rw [Below.heap_setCell _ _ _ _ (by show g ≠ bx;intro hc;have:=hr g hg;rw [hc,h.rb] at this;cases this)]
 have mv:∀ {r size n:Nat} {e:TypeId} {u:Value} {xs:List Value},r ≠ 7->r ≠ 0->Bf w base v.ρ r e size u n xs->Bf (w1.setCell ⟨bx,467,none⟩ nv) base v.ρ r e size u n xs:=
  fun h7 h0 ho=>ho.move fun q hq hqr=>⟨hf q hq (by rw [hqr];exact h7) (by rw [hqr];exact h0),hqr⟩
 exact ⟨hbel,hbox,h.le,h.rb,mv (by decide) (by decide) h.Io,mv (by decide) (by decide) h.Gq,
  ⟨(hf _ h.begin'.lt (by rw [h.begin'.role];decide) (by rw [h.begin'.role];decide)).trans h.begin'.at',h.begin'.le,h.begin'.role⟩,
  mv (by decide) (by decide) h.Qr,⟨mv (by decide) (by decide) h.Oo.list,fun k hk=>let ⟨u,hu,ho⟩:=h.Oo.item k hk;⟨u,hu,mv (by omega) (by omega) ho⟩⟩,
  mv (by decide) (by decide) h.L8,mv (by decide) (by decide) h.L9,Ayf,h.Xx,h.Oj⟩
def v7 (v:Bc) (w:World):Bc:={ v with ρ:=Aj v.ρ w.heap.size 7 }
theorem MS.seven {w:World} (h:MS base w0 fx s bx v w):MS base w0 fx s bx (v7 v w) w:=
 have hb:=Below.refl w.heap.size w;have hs:∀ q,q < w.heap.size->Aj v.ρ w.heap.size 7 q = v.ρ q:=Bo
 ⟨h.bel,h.box,h.le,(hs bx h.box.lt).trans h.rb,h.Io.next hb hs,h.Gq.next hb hs,h.begin'.Akr hb hs,h.Qr.next hb hs,h.Oo.next hb hs,h.L8.next hb hs,h.L9.next hb hs,h.Jo.next hb hs,h.Xx,h.Oj⟩
theorem Anv {w:World} {q:Nat} (h:w.heap.size <= q):(v7 v w).ρ q = 7:=by unfold v7 Aj;simp [h]
theorem Aa2 {w:World}:∀ q,q < w.heap.size->(v7 v w).ρ q = v.ρ q:=Bo
end
theorem Awv (a b:Int):(Sz 8 false a b).1 = bits .or .i64 a b:=by
 rw [Agb];have e:Sz 8 false a b = Df 8 a b:=by unfold Sz;rw [if_neg (by decide)]
 rw [e,Aav];show wrap64 ((Rq 64 (un a) (un b):Nat):Int) = _;unfold Rq;rfl
theorem Aua (a b:Int):(Sz 9 false a b).1 = bits .and .i64 a b:=by
 rw [Aj1];have e:Sz 9 false a b = Df 9 a b:=by unfold Sz;rw [if_neg (by decide)]
 rw [e,jk];show wrap64 ((Jw 64 (un a) (un b):Nat):Int) = _;unfold Jw;rfl
theorem Aub (a b:Int):(Sz 10 false a b).1 = bits .xor .i64 a b:=by
 rw [As8];have e:Sz 10 false a b = Df 10 a b:=by unfold Sz;rw [if_neg (by decide)]
 rw [e,jl];show wrap64 ((Jy 64 (un a) (un b):Nat):Int) = _;unfold Jy;rfl
def Kinds (Aa:Int):Prop:=Aa = 0\/Aa = 1\/Aa = 64\/Aa = 65\/Aa = 80\/Aa = 81\/Aa = 160\/Aa = 161\/Aa = 225\/Aa = 241
section
variable {s:Mst} {bx:Nat}
theorem Aqx (op:Int) (Ad reg:Bool) (size d off Aa:Int) (r:Nat) (hr:r < 11) (k t o x k0 t0 o0 x0 old:Int) (hp:s.rg[r]? = some ⟨k,t,o,x⟩) (hp0:s.rg[0]? = some ⟨k0,t0,o0,x0⟩) (Ae9:Kinds Aa) (hx0:Ey x0)
 (cs:List Value) (hu:Ie cs r ⟨k,t,o,x⟩) (hu0:Ie cs 0 ⟨k0,t0,o0,x0⟩) (w:World) (h:Row w bx 87 cs) :
 Calls prog 78 #[.pointer (some ⟨bx,0,none⟩),.agg #[.int .i64 op,.bool Ad,.bool reg,.int .i64 size,.int .i64 d,.int .i64 r,.int .i64 off,.int .i64 Aa],.int .i64 old] w (Ol w (.int .i64 (Yl s ⟨op,Ad,reg,size,d,r,off,Aa⟩ old))):=by
 have hpr:s.reg r = ⟨k,t,o,x⟩:=by unfold Mst.reg;rw [Int.toNat_natCast,hp];rfl
 have Aqy:s.reg 0 = ⟨k0,t0,o0,x0⟩:=by unfold Mst.reg;rw [show (0:Int).toNat = 0 from rfl,hp0];rfl
 obtain ⟨_,_,_,c3⟩:=hu.row h;obtain ⟨_,_,_,z3⟩:=hu0.row h;simp only [Nat.zero_mul,Nat.add_zero] at c3 z3;have hlt:=h.lt;have hj1:(0:Int) <= (r:Int):=Int.natCast_nonneg _;have hj2:(r:Int) < 11:=by omega
 obtain ⟨M,hM⟩:∃ M,M = Yl s ⟨op,Ad,reg,size,d,r,off,Aa⟩ old:=⟨_,rfl⟩;rw [<- hM];unfold Yl at hM;simp only [hpr,Aqy,Awv,Aua,Aub] at hM;have HM:=hid hM;have HX:=hid hx0;clear hM hpr Aqy hp hp0 hu hu0 h hx0;unfold Kinds at Ae9
 rcases Ae9 with rfl | rfl | rfl | rfl | rfl | rfl | rfl | rfl | rfl | rfl
 ·have e:M = wrap64 (old + x):=by rw [HM.out,if_pos (by decide)]
  go_enter func78,ntmps78;go_upto_region 1 with fail
  go_region
  go_wp2;exact bodyPost_ret (v:=.int .i64 _) (by simp [results,results78,go_sem,e]) rfl ⟨rfl,((Below.refl _ _).alloc nl _).drew⟩
 ·have e:M = wrap64 (old + x):=by rw [HM.out,if_pos (by decide)]
  go_enter func78,ntmps78;go_upto_region 1 with fail
  go_region
  go_wp2;exact bodyPost_ret (v:=.int .i64 _) (by simp [results,results78,go_sem,e]) rfl ⟨rfl,((Below.refl _ _).alloc nl _).drew⟩
 ·have e:M = bits .or .i64 old x:=by rw [HM.out,if_neg (by decide),if_pos (by decide)]
  go_enter func78,ntmps78;go_upto_region 1 with fail
  go_region
  go_wp2;exact bodyPost_ret (v:=.int .i64 _) (by simp [results,results78,go_sem,e]) rfl ⟨rfl,((Below.refl _ _).alloc nl _).drew⟩
 ·have e:M = bits .or .i64 old x:=by rw [HM.out,if_neg (by decide),if_pos (by decide)]
  go_enter func78,ntmps78;go_upto_region 1 with fail
  go_region
  go_wp2;exact bodyPost_ret (v:=.int .i64 _) (by simp [results,results78,go_sem,e]) rfl ⟨rfl,((Below.refl _ _).alloc nl _).drew⟩
 ·have e:M = bits .and .i64 old x:=by rw [HM.out,if_neg (by decide),if_neg (by decide),if_pos (by decide)]
  go_enter func78,ntmps78;go_upto_region 1 with fail
  go_region
  go_wp2;exact bodyPost_ret (v:=.int .i64 _) (by simp [results,results78,go_sem,e]) rfl ⟨rfl,((Below.refl _ _).alloc nl _).drew⟩
 ·have e:M = bits .and .i64 old x:=by rw [HM.out,if_neg (by decide),if_neg (by decide),if_pos (by decide)]
  go_enter func78,ntmps78;go_upto_region 1 with fail
  go_region
  go_wp2;exact bodyPost_ret (v:=.int .i64 _) (by simp [results,results78,go_sem,e]) rfl ⟨rfl,((Below.refl _ _).alloc nl _).drew⟩
 ·have e:M = bits .xor .i64 old x:=by rw [HM.out,if_neg (by decide),if_neg (by decide),if_neg (by decide),if_pos (by decide)]
  go_enter func78,ntmps78;go_upto_region 1 with fail
  go_region
  go_wp2;exact bodyPost_ret (v:=.int .i64 _) (by simp [results,results78,go_sem,e]) rfl ⟨rfl,((Below.refl _ _).alloc nl _).drew⟩
 ·have e:M = bits .xor .i64 old x:=by rw [HM.out,if_neg (by decide),if_neg (by decide),if_neg (by decide),if_pos (by decide)]
  go_enter func78,ntmps78;go_upto_region 1 with fail
  go_region
  go_wp2;exact bodyPost_ret (v:=.int .i64 _) (by simp [results,results78,go_sem,e]) rfl ⟨rfl,((Below.refl _ _).alloc nl _).drew⟩
 ·have e:M = x:=by rw [HM.out,if_neg (by decide),if_neg (by decide),if_neg (by decide),if_neg (by decide),if_neg (fun h=>absurd h.1 (by decide))]
  cases q0:(size == 4)
  all_goals
   go_enter func78,ntmps78;go_upto_region 1 with fail
   go_region
   go_wp2;exact bodyPost_ret (v:=.int .i64 _) (by simp [results,results78,go_sem,e]) rfl ⟨rfl,((Below.refl _ _).alloc nl _).drew⟩
 ·obtain ⟨R,hR⟩:∃ R,R = (if size = 4 then x0 % 4294967296 else x0):=⟨_,rfl⟩;have e0:=HM.out;rw [<- hR,if_neg (by decide),if_neg (by decide),if_neg (by decide),if_neg (by decide)] at e0;have HE0:=hid e0;clear e0
  cases q0:(size == 4)
  ·have e1:R = x0:=by rw [hR,if_neg (by simpa using q0)]
   subst e1
   cases q1:(old != R)
   ·have e:M = x:=by rw [HE0.out,if_neg (fun h=>h.2 (by simpa using q1))]
    clear hR;go_enter func78,ntmps78;go_upto_region 1 with fail
    go_region
    go_wp2;exact bodyPost_ret (v:=.int .i64 _) (by simp [results,results78,go_sem,e]) rfl ⟨rfl,((Below.refl _ _).alloc nl _).drew⟩
   ·have e:M = old:=by rw [HE0.out,if_pos ⟨rfl,by simpa using q1⟩]
    clear hR;go_enter func78,ntmps78;go_upto_region 1 with fail
    go_region
    go_wp2;exact bodyPost_ret (v:=.int .i64 _) (by simp [results,results78,go_sem,e]) rfl ⟨rfl,((Below.refl _ _).alloc nl _).drew⟩
  ·have e1:R = x0 % 4294967296:=by rw [hR,if_pos (by simpa using q0)]
   subst e1
   cases q1:(old != x0 % 4294967296)
   ·have e:M = x:=by rw [HE0.out,if_neg (fun h=>h.2 (by simpa using q1))]
    clear hR;go_enter func78,ntmps78;go_upto_region 1 with fail
    go_region
    go_wp2;exact bodyPost_ret (v:=.int .i64 _) (by simp [results,results78,go_sem,e]) rfl ⟨rfl,((Below.refl _ _).alloc nl _).drew⟩
   ·have e:M = old:=by rw [HE0.out,if_pos ⟨rfl,by simpa using q1⟩]
    clear hR;go_enter func78,ntmps78;go_upto_region 1 with fail
    go_region
    go_wp2;exact bodyPost_ret (v:=.int .i64 _) (by simp [results,results78,go_sem,e]) rfl ⟨rfl,((Below.refl _ _).alloc nl _).drew⟩
end
end Go.Proofs.YtjacnhnaoenelaaGreat
