import Derived.Test.YtjacnhnaoenelaaGreatQJ5a
import Derived.Deep.CutBlock
set_option maxRecDepth 100000
set_option maxHeartbeats 16000000
namespace Go.Proofs.YtjacnhnaoenelaaGreat
open Lib (hid)
open Go.Proofs.Tryz
open Go.RowKit
set_option linter.unusedVariables false
set_option linter.unusedSimpArgs false
def Xg (a:Int) (v:Val):Bool:=!((a == 1 || a == 4) && !(v.k == 1)) && !(a == 4 && (decide (v.x < 0) || decide (65535 < v.x)))
def Ip (a:Int):Bool:=a == 2 || a == 3
def Oc (fx:Ak) (s:Mst) (a:Int) (v:Val) (n:Int):Bool:=!(Ip a) || Jr fx s v n (a == 3)
def yw (ar:List Int) (n:Int) (k:Nat):List Int:=(List.range 6).map fun i=>if 1 <= i/\i <= k/\Ip (ar.getD (i - 1) 0) = true then n else 0
def O9 (l:List Int):List Value:=l.map (Value.int .i64)
theorem Aui (ar:List Int) (n:Int) (k:Nat):(yw ar n k).length = 6:=by simp [yw]
theorem Ard (ar:List Int) (n:Int):yw ar n 0 = [0,0,0,0,0,0]:=by
 unfold yw
 apply List.ext_getElem
 ·simp
 ·intro i h1 h2;have hi:i < 6:=by simpa using h1
  simp only [List.getElem_map,List.getElem_range];rw [if_neg (by omega)];have hc:i = 0\/i = 1\/i = 2\/i = 3\/i = 4\/i = 5:=by omega
  rcases hc with rfl | rfl | rfl | rfl | rfl | rfl <;> rfl
theorem Aw1 (ar:List Int) (n:Int) (k:Nat) (h:Ip (ar.getD k 0) = false):yw ar n (k + 1) = yw ar n k:=by
 unfold yw
 apply List.map_congr_left
 intro i hi
 by_cases he:i = k + 1
 ·subst he;rw [if_neg (by rintro ⟨_,_,h'⟩;rw [show k + 1 - 1 = k by omega,h] at h';cases h'),if_neg (by rintro ⟨_,h',_⟩;omega)]
 ·by_cases hc:1 <= i/\i <= k/\Ip (ar.getD (i - 1) 0) = true
  ·rw [if_pos hc,if_pos ⟨hc.1,by omega,hc.2.2⟩]
  ·rw [if_neg hc,if_neg (by rintro ⟨h1,h2,h3⟩;exact hc ⟨h1,by omega,h3⟩)]
theorem Auj (ar:List Int) (n:Int) (k:Nat) (hk:k < 5) (h:Ip (ar.getD k 0) = true):yw ar n (k + 1) = (yw ar n k).set (k + 1) n:=by
 unfold yw
 apply List.ext_getElem
 ·simp
 ·intro i h1 h2;have hi:i < 6:=by simpa using h1
  rw [List.getElem_set];simp only [List.getElem_map,List.getElem_range]
  by_cases he:k + 1 = i
  ·subst he;rw [if_pos rfl,if_pos ⟨by omega,by omega,by rw [show k + 1 - 1 = k by omega];exact h⟩]
  ·rw [if_neg he]
   by_cases hc:1 <= i/\i <= k/\Ip (ar.getD (i - 1) 0) = true
   ·rw [if_pos hc,if_pos ⟨hc.1,by omega,hc.2.2⟩]
   ·rw [if_neg hc,if_neg (by rintro ⟨h1,h2,h3⟩;exact hc ⟨h1,by omega,h3⟩)]
structure KA (w:World) (tb:Nat) (sz:List Int) (wx:World):Prop where
 bel:Below w.heap.size w wx
 box:Row wx tb 127 (O9 sz)
 lt:w.heap.size <= tb
 len:sz.length = 6
theorem KA.next {w wx w':World} {tb:Nat} {sz:List Int} (h:KA w tb sz wx) (hb:Below wx.heap.size wx w'):KA w tb sz w':=⟨h.bel.trans (hb.mono h.bel.size),h.box.below hb h.box.lt,h.lt,h.len⟩
theorem KA.set {w wx:World} {tb:Nat} {sz:List Int} (h:KA w tb sz wx) (i:Nat) (x:Int):KA w tb (sz.set i x) (wx.setCell ⟨tb,i,none⟩ (.int .i64 x)):=by
 refine ⟨⟨h.bel.os,h.bel.tape,h.bel.output,by rw [World.size_setCell];exact h.bel.size,fun k hk=>by rw [Below.heap_setCell _ _ _ _ (by show k ≠ tb;have:=h.lt;omega)];exact h.bel.block k hk⟩,?_,h.lt,by rw [List.length_set];exact h.len⟩;have:=h.box.put i (.int .i64 x);unfold O9 at this ⊢;rw [List.map_set];exact this
theorem KA.six {w wx:World} {tb:Nat} {sz:List Int} (h:KA w tb sz wx):(wx.cell? ⟨tb,0,none⟩ = some (.int .i64 (sz.getD 0 0))/\wx.cell? ⟨tb,1,none⟩ = some (.int .i64 (sz.getD 1 0))/\wx.cell? ⟨tb,2,none⟩ = some (.int .i64 (sz.getD 2 0))/\wx.cell? ⟨tb,3,none⟩ = some (.int .i64 (sz.getD 3 0))/\wx.cell? ⟨tb,4,none⟩ = some (.int .i64 (sz.getD 4 0))/\wx.cell? ⟨tb,5,none⟩ = some (.int .i64 (sz.getD 5 0)))/\wx.frozen? ⟨tb,0,none⟩ = false/\wx.frozen? ⟨tb,1,none⟩ = false/\wx.frozen? ⟨tb,2,none⟩ = false/\wx.frozen? ⟨tb,3,none⟩ = false/\wx.frozen? ⟨tb,4,none⟩ = false/\wx.frozen? ⟨tb,5,none⟩ = false:=by
 have hc:∀ i,i < 6->wx.cell? ⟨tb,i,none⟩ = some (.int .i64 (sz.getD i 0)):=fun i hi=>by
  rw [h.box.cell];unfold O9;rw [List.getElem?_map,List.getElem?_eq_getElem (by rw [h.len];exact hi),List.getD_eq_getElem?_getD,List.getElem?_eq_getElem (by rw [h.len];exact hi)];rfl
 exact ⟨⟨hc 0 (by decide),hc 1 (by decide),hc 2 (by decide),hc 3 (by decide),hc 4 (by decide),hc 5 (by decide)⟩,h.box.free _,h.box.free _,h.box.free _,h.box.free _,h.box.free _,h.box.free _⟩
theorem An2 (sz:List Int) (i:Nat):sz.set i (sz.getD i 0) = sz:=by
 apply List.ext_getElem
 ·simp
 ·intro j h1 h2;rw [List.getElem_set]
  split
  ·rename_i h;subst h;rw [List.getD_eq_getElem?_getD,List.getElem?_eq_getElem h2];rfl
  ·rfl
theorem KA.Arf {w wx:World} {tb:Nat} {sz:List Int} (h:KA w tb sz wx):KA w tb sz ((((((wx.setCell ⟨tb,0,none⟩ (.int .i64 (sz.getD 0 0))).setCell ⟨tb,1,none⟩ (.int .i64 (sz.getD 1 0))).setCell ⟨tb,2,none⟩ (.int .i64 (sz.getD 2 0))).setCell ⟨tb,3,none⟩ (.int .i64 (sz.getD 3 0))).setCell ⟨tb,4,none⟩ (.int .i64 (sz.getD 4 0))).setCell ⟨tb,5,none⟩ (.int .i64 (sz.getD 5 0))):=by
 have h0:=(((((h.set 0 (sz.getD 0 0)).set 1 (sz.getD 1 0)).set 2 (sz.getD 2 0)).set 3 (sz.getD 3 0)).set 4 (sz.getD 4 0)).set 5 (sz.getD 5 0);simp only [An2] at h0;exact h0
structure KV (w:World) (tb:Nat) (sz:List Int) (q:Nat) (vs:List Value) (wx:World):Prop where
 ka:KA w tb sz wx
 v:Row wx q 57 vs
theorem KV.k {w wx:World} {tb q:Nat} {sz:List Int} {a b c d:Value} (h:KV w tb sz q [a,b,c,d] wx):(wx.cell? ⟨q,0,none⟩ = some a/\wx.cell? ⟨q,1,none⟩ = some b/\wx.cell? ⟨q,2,none⟩ = some c/\wx.cell? ⟨q,3,none⟩ = some d)/\KV w tb sz q [a,b,c,d] wx:=⟨h.v.four.1,h⟩
theorem KV.next {w wx w':World} {tb q:Nat} {sz:List Int} {vs:List Value} (h:KV w tb sz q vs wx) (hb:Below wx.heap.size wx w'):KV w tb sz q vs w':=⟨h.ka.next hb,h.v.below hb h.v.lt⟩
theorem KV.n {w wx w':World} {tb q:Nat} {sz:List Int} {a b c d:Value} (h:(wx.cell? ⟨q,0,none⟩ = some a/\wx.cell? ⟨q,1,none⟩ = some b/\wx.cell? ⟨q,2,none⟩ = some c/\wx.cell? ⟨q,3,none⟩ = some d)/\KV w tb sz q [a,b,c,d] wx) (hb:Below wx.heap.size wx w') :
 (w'.cell? ⟨q,0,none⟩ = some a/\w'.cell? ⟨q,1,none⟩ = some b/\w'.cell? ⟨q,2,none⟩ = some c/\w'.cell? ⟨q,3,none⟩ = some d)/\KV w tb sz q [a,b,c,d] w':=(h.2.next hb).k
theorem Afh {sz:List Int} (h:sz.length = 6):∃ z0 z1 z2 z3 z4 z5,sz = [z0,z1,z2,z3,z4,z5]:=by
 obtain ⟨z0,t,rfl⟩:∃ z t,sz = z :: t:=by cases sz with | nil=>simp at h | cons z t=>exact ⟨z,t,rfl⟩
 obtain ⟨z1,t,rfl⟩:∃ z t',t = z :: t':=by cases t with | nil=>simp at h | cons z t=>exact ⟨z,t,rfl⟩
 obtain ⟨z2,t,rfl⟩:∃ z t',t = z :: t':=by cases t with | nil=>simp at h | cons z t=>exact ⟨z,t,rfl⟩
 obtain ⟨z3,t,rfl⟩:∃ z t',t = z :: t':=by cases t with | nil=>simp at h | cons z t=>exact ⟨z,t,rfl⟩
 obtain ⟨z4,t,rfl⟩:∃ z t',t = z :: t':=by cases t with | nil=>simp at h | cons z t=>exact ⟨z,t,rfl⟩
 obtain ⟨z5,t,rfl⟩:∃ z t',t = z :: t':=by cases t with | nil=>simp at h | cons z t=>exact ⟨z,t,rfl⟩
 have:t = []:=by simpa using h
 subst this;exact ⟨z0,z1,z2,z3,z4,z5,rfl⟩
section
variable {fx:Ak} {s:Mst} {a uk ut uo ux n:Int} {G X:Bool}
theorem Aw2 (hp:Ip a = true) (hG:G = (decide (2 <= uk) && Dh fx s ⟨uk,ut,uo,ux⟩ ux n)) (hf:G = false):¬ Oc fx s a ⟨uk,ut,uo,ux⟩ n = true:=by
 intro h;unfold Oc Jr at h;rw [hp] at h;simp only [Bool.not_true,Bool.false_or] at h;rw [<- hG,hf,Bool.false_and] at h
 cases h
theorem Ak5 (hp:Ip a = true) (hX:X = (if (a == 3) = true then uk != 4 else Gs s ⟨uk,ut,uo,ux⟩ ux n == 0)) (hf:X = false):¬ Oc fx s a ⟨uk,ut,uo,ux⟩ n = true:=by
 intro h;unfold Oc Jr at h;rw [hp] at h;simp only [Bool.not_true,Bool.false_or] at h;rw [<- hX,hf,Bool.and_false] at h
 cases h
theorem Ak6 (hp:Ip a = true) (hG:G = (decide (2 <= uk) && Dh fx s ⟨uk,ut,uo,ux⟩ ux n)) (hg:G = true) (hX:X = (if (a == 3) = true then uk != 4 else Gs s ⟨uk,ut,uo,ux⟩ ux n == 0)) (hx:X = true):Oc fx s a ⟨uk,ut,uo,ux⟩ n = true:=by
 unfold Oc Jr;rw [hp];simp only [Bool.not_true,Bool.false_or];rw [<- hX,<- hG,hg,hx];rfl
end
def Aw3 (w:World) (fx:Ak) (s:Mst) (ar:List Int) (P:Nat):Ending->World->Prop:=fun e w'=>Below w.heap.size w w'/\∃ (sz:List Int) (ok:Bool),sz.length = 6 /\
 e = .returned (.tuple #[.agg #[.int .i64 (sz.getD 0 0),.int .i64 (sz.getD 1 0),.int .i64 (sz.getD 2 0),.int .i64 (sz.getD 3 0),.int .i64 (sz.getD 4 0),.int .i64 (sz.getD 5 0)],.bool ok]) /\
 (ok = true ↔ (∀ k,k < 5->Xg (ar.getD k 0) (s.reg (k + 1:Nat)) = true)/\∀ k,k < 5->Oc fx s (ar.getD k 0) (s.reg (k + 1:Nat)) (s.reg (P + 1:Nat)).x = true)/\(ok = true->sz = yw ar (s.reg (P + 1:Nat)).x 5)
section
variable {base:Nat} {w0:World} {fx:Ak} {s:Mst} {bx:Nat} {v:Bc}
theorem Arh (ar:List Int) (hal:ar.length = 5) (P:Nat) (hP:P < 5) (hP4:∀ k,k < 5->Ip (ar.getD k 0) = true->k < P/\ar.getD P 0 = 4/\∀ j,k < j->j < P->ar.getD j 0 ≠ 4)
 (hok:∀ d,d < 11->2 <= (s.reg (d:Nat)).k->Gf fx (s.reg (d:Nat))) (hx:∀ d:Nat,d < 11->Ey (s.reg d).x) (hmask:∀ y ∈ s.sl,0 <= y.m/\y.m <= 255)
 (g:Nat) (w:World) (hM:MS base w0 fx s bx v w) (hA:Row w g 3 (O9 ar)) :
 Calls prog 82 #[.pointer (some ⟨bx,0,none⟩),.slice (some ⟨g,0,none⟩) 5 5] w (Aw3 w fx s ar P):=by
 have HM:=hid hM;have HAR:=hid hA;have HP:=hid (And.intro hP hP4);have HOK:=hid (And.intro hok (And.intro hx hmask));have Jc:=hid hal
 have hget:∀ k,k < 5->∀ wx,Below w.heap.size w wx->wx.cell? ⟨g,k,none⟩ = some (.int .i64 (ar.getD k 0)):=fun k hk wx hb=>by
  rw [(hA.below hb hA.lt).cell];unfold O9;rw [List.getElem?_map,List.getElem?_eq_getElem (by omega),List.getD_eq_getElem?_getD,List.getElem?_eq_getElem (by omega)];rfl
 have Ayi:∀ d,d < 11->∀ wx,Below w.heap.size w wx->wx.cell? ⟨bx,423 + d * 4,none⟩ = some (.int .i64 (s.reg (d:Nat)).k)/\wx.cell? ⟨bx,423 + d * 4 + 1,none⟩ = some (.int .i64 (s.reg (d:Nat)).t)/\wx.cell? ⟨bx,423 + d * 4 + 2,none⟩ = some (.int .i64 (s.reg (d:Nat)).o)/\wx.cell? ⟨bx,423 + d * 4 + 3,none⟩ = some (.int .i64 (s.reg (d:Nat)).x):=fun d hd wx hb=>by
  have h:=(hM.lu d hd).row (hM.box.below hb hM.box.lt);rw [show s.reg (d:Nat) = s.rg[d]'(by rw [hM.Oj];exact hd) from s.Ir d (by rw [hM.Oj];exact hd)];exact h
 have Aw4:=hid hget;have Aw5:=hid Ayi;have J8:=hid (And.intro hM.box.lt hA.lt);clear hM hA hP hP4 hok hx hmask hal hget Ayi;go_enter func82,ntmps82;go_upto_region 1 with fail;obtain ⟨tb,htb⟩:∃ tb,tb = w.heap.size:=⟨_,rfl⟩;have hK0:KA w tb [0,0,0,0,0,0] (w.alloc (.cells #[.int .i64 0,.int .i64 0,.int .i64 0,.int .i64 0,.int .i64 0,.int .i64 0] 127)):=⟨Ae w _,by rw [htb];exact Row.made w (O9 [0,0,0,0,0,0]) _,by omega,rfl⟩;have HK:=hid hK0;clear hK0;rw [<- htb];generalize World.alloc _ _ = w1 at HK ⊢;clear htb
 iterate 1
  go_wp2_with fail
  go_loopg [16] 5 (fun gh s16 wr=>∃ k:Nat,k <= 5/\gh = 5 - k/\s16 = .int .i64 k/\(∀ i,i < k->Xg (ar.getD i 0) (s.reg (i + 1:Nat)) = true)/\KA w tb ([0,0,0,0,0,0]) wr)
  case atStart=>exact ⟨0,by decide,rfl,rfl,fun i hi=>absurd hi (by omega),HK.out⟩
  case round=>
   obtain ⟨k,hk,rfl,rfl,hall,hK⟩:=hrel;have HK:=hid hK;have Afi:=hid hall;clear hK hall
   by_cases hk5:k < 5
   ·have hj:decide ((k:Int) < 5) = true:=by simp;omega
    have hwk:wrap64 ((k:Int) + 1) = ((k + 1:Nat):Int):=by unfold wrap64;omega
    obtain ⟨d,hd⟩:∃ d,k + 1 = d:=⟨_,rfl⟩;rw [hd] at hwk;have hkd:(k:Int) + 1 = (d:Int):=by omega
    have hwd:wrap64 (d:Int) = (d:Int):=by unfold wrap64;omega
    have hd1:(0:Int) <= (d:Int):=Int.natCast_nonneg _;have hd2:(d:Int) < 11:=by omega
    have hk1:(0:Int) <= (k:Int):=Int.natCast_nonneg _;have hk2:(k:Int) < 5:=by omega
    have hca:=Aw4.out k hk5 wr HK.out.bel;obtain ⟨a,ha⟩:∃ a,ar.getD k 0 = a:=⟨_,rfl⟩;rw [ha] at hca;obtain ⟨c0,c1,c2,c3⟩:=Aw5.out d (by omega) wr HK.out.bel;obtain ⟨⟨uk,ut,uo,ux⟩,hu⟩:∃ u,s.reg (d:Nat) = u:=⟨_,rfl⟩;rw [hu] at c0 c1 c2 c3;simp only at c0 c1 c2 c3;have Lj:=hid (And.intro hk5 (And.intro hd (And.intro ha hu)));clear hk hk5 hd ha hu;go_upto_region 4 with fail
    go_cut [8] from 21 to 27 (fun s8 wx=>∃ q,s8 = .pointer (some ⟨q,0,none⟩)/\Row wx q 57 [.int .i64 uk,.int .i64 ut,.int .i64 uo,.int .i64 ux]/\KA w tb ([0,0,0,0,0,0]) wx)
    case first=>
     go_wp2_with fail;go_meet
     case rel=>exact ⟨_,rfl,Row.made wr [.int .i64 uk,.int .i64 ut,.int .i64 uo,.int .i64 ux] _,HK.out.next (Ae wr _)⟩
    case rest=>
     obtain ⟨q,rfl,hV,hK⟩:=hcut;have HV:=hid hV;have HK2:=hid hK;clear hV hK hca c0 c1 c2 c3 HK hd1 hd2 hk1 hk2;obtain ⟨w4,rfl⟩:∃ w4,w4 = wc:=⟨_,rfl⟩;go_upto_region 5 with fail
     go_cut [52] from 28 to 51 (fun s52 wx=>s52 = .bool (!(Xg a ⟨uk,ut,uo,ux⟩))/\KA w tb ([0,0,0,0,0,0]) wx)
     case first=>
      obtain ⟨⟨c0,c1,c2,c3⟩,_⟩:=HV.out.four;obtain ⟨L1,hL1⟩:∃ L:Bool,decide (ux < 0) = L:=⟨_,rfl⟩;obtain ⟨L2,hL2⟩:∃ L:Bool,decide (65535 < ux) = L:=⟨_,rfl⟩;obtain ⟨N,hN⟩:∃ N:Bool,(uk == 1) = N:=⟨_,rfl⟩;have hnum:Xg a ⟨uk,ut,uo,ux⟩ = (!((a == 1 || a == 4) && !N) && !(a == 4 && (L1 || L2))):=by rw [<- hL1,<- hL2,<- hN];rfl
      have Ari:=hid hnum;clear hnum
      cases q1:(a == 1)
      all_goals
       cases q4:(a == 4)
       all_goals
        rw [q1,q4] at Ari
        cases N
        all_goals
         cases L1
         all_goals
          go_wp2_with (go_at_call 67;refine (Af _ _ _ _ _).mono ?_;rintro e w' ⟨he,hb⟩;rw [hN] at he;subst he;have hVn:=HV.out.below hb HV.out.lt;obtain ⟨⟨_,_,_,_⟩,_⟩:=hVn.four);go_meet
          case rel=>first | exact ⟨by rw [Ari.out];rfl,HK2.out⟩ | exact ⟨by rw [Ari.out];rfl,HK2.out.next hb⟩ | exact ⟨by rw [Ari.out];simp,HK2.out⟩ | exact ⟨by rw [Ari.out];simp,HK2.out.next hb⟩
     case rest=>
      obtain ⟨rfl,hK⟩:=hcut;have HK3:=hid hK;clear hK HK2 HV
      cases hn:Xg a ⟨uk,ut,uo,ux⟩ with
      | true =>
        go_wp2_with fail
        go_roundg (5 - d)
        case measure=>have:=Lj.out;omega
        case rel => exact ⟨d, by have := Lj.out; omega, rfl, by first | rfl | exact congrArg (Value.int .i64) hwd, fun i hi => by
          obtain ⟨e1,e2,e3,e4⟩:=Lj.out
          by_cases hik:i = k
          ·subst hik;rw [e3,e2,e4];exact hn
          ·exact Afi.out i (by omega),HK3.out⟩
      | false =>
        obtain ⟨⟨d0,d1,d2,d3,d4,d5⟩,_,_,_,_,_,_⟩:=HK3.out.six;go_wp2_with fail;have hp6:=HK3.out.Arf;simp only [List.getD_cons_zero,List.getD_cons_succ] at hp6;have HP6:=hid hp6;clear hp6;generalize World.setCell _ _ _ = w9 at HP6 ⊢;obtain ⟨⟨f0,f1,f2,f3,f4,f5⟩,_⟩:=HP6.out.six
        exact bodyPost_ret (v := .tuple #[.agg #[.int .i64 (([0, 0, 0, 0, 0, 0] : List Int).getD 0 0), .int .i64 (([0, 0, 0, 0, 0, 0] : List Int).getD 1 0), .int .i64 (([0, 0, 0, 0, 0, 0] : List Int).getD 2 0), .int .i64 (([0, 0, 0, 0, 0, 0] : List Int).getD 3 0), .int .i64 (([0, 0, 0, 0, 0, 0] : List Int).getD 4 0), .int .i64 (([0, 0, 0, 0, 0, 0] : List Int).getD 5 0)], .bool false]) (by simp [results, results82, go_sem, f0, f1, f2, f3, f4, f5]) rfl ⟨HP6.out.bel, [0, 0, 0, 0, 0, 0], false, HP6.out.len, rfl, ⟨fun h => (by cases h), by
              intro h;have:=h.1 k Lj.out.1;rw [Lj.out.2.2.1,Lj.out.2.1,Lj.out.2.2.2,hn] at this
              cases this⟩,fun h=>(by cases h)⟩
   ·have hj:decide ((k:Int) < 5) = false:=by simp;omega
    have Avl:Hid (∀ i,i < 5->Xg (ar.getD i 0) (s.reg (i + 1:Nat)) = true):=hid (fun i hi=>Afi.out i (by omega));clear hk hk5 Afi;go_wp2_with fail;obtain ⟨n,hn⟩:∃ n,(s.reg (P + 1:Nat)).x = n:=⟨_,rfl⟩;have HN:=hid hn;clear hn
    go_loopg [57] 5 (fun gh s57 wr=>∃ k:Nat,k <= 5/\gh = 5 - k/\s57 = .int .i64 k/\(∀ i,i < k->Oc fx s (ar.getD i 0) (s.reg (i + 1:Nat)) n = true)/\KA w tb (yw ar n k) wr)
    case atStart=>exact ⟨0,by decide,rfl,rfl,fun i hi=>absurd hi (by omega),by rw [Ard];exact HK.out⟩
    case round=>
     obtain ⟨k,hk,rfl,rfl,hall,hK⟩:=hrel;have HK:=hid hK;have Afi:=hid hall;clear hK hall
     by_cases hk5:k < 5
     ·have hj:decide ((k:Int) < 5) = true:=by simp;omega
      have hwk:wrap64 ((k:Int) + 1) = ((k + 1:Nat):Int):=by unfold wrap64;omega
      obtain ⟨d,hd⟩:∃ d,k + 1 = d:=⟨_,rfl⟩;rw [hd] at hwk;have hkd:(k:Int) + 1 = (d:Int):=by omega
      have hwd:wrap64 (d:Int) = (d:Int):=by unfold wrap64;omega
      have hk1:(0:Int) <= (k:Int):=Int.natCast_nonneg _;have hk2:(k:Int) < 5:=by omega
      have hca:=Aw4.out k hk5 wr HK.out.bel;obtain ⟨a,ha⟩:∃ a,ar.getD k 0 = a:=⟨_,rfl⟩;rw [ha] at hca;obtain ⟨⟨uk,ut,uo,ux⟩,hu⟩:∃ u,s.reg (d:Nat) = u:=⟨_,rfl⟩;have Lj:=hid (And.intro hk5 (And.intro hd (And.intro ha hu)));clear hk hk5 hd ha hu;go_upto_region 11 with fail;clear hca
      cases hp:Ip a with
      | false =>
        have q2:(a == 2) = false:=by unfold Ip at hp;simp at hp;simp;exact hp.1
        have q3:(a == 3) = false:=by unfold Ip at hp;simp at hp;simp;exact hp.2
        have q2':(a != 2) = true:=by simpa using q2
        have q3':(a != 3) = true:=by simpa using q3
        go_wp2_with fail
        go_roundg (5 - d)
        case measure=>have:=Lj.out;omega
        case rel => exact ⟨d, by have := Lj.out; omega, rfl, by first | rfl | exact congrArg (Value.int .i64) hwd, fun i hi => by
          obtain ⟨e1,e2,e3,e4⟩:=Lj.out
          by_cases hik:i = k
          ·subst hik;unfold Oc;rw [e3,hp];rfl
          ·exact Afi.out i (by omega),by
          rw [<- Lj.out.2.1,Aw1 ar n k (by rw [Lj.out.2.2.1];exact hp)];exact HK.out⟩
      | true =>
        obtain ⟨hkP,hP4,hPn⟩:=HP.out.2 k Lj.out.1 (by rw [Lj.out.2.2.1];exact hp);have HPP:=hid (And.intro hkP (And.intro hP4 hPn));clear hkP hP4 hPn;obtain ⟨T,hT⟩:∃ T:Bool,(a == 3) = T:=⟨_,rfl⟩
        have hq:(a == 2) = !T:=by
         unfold Ip at hp;rw [<- hT]
         cases h2:(a == 2) with
         | false =>
           rw [h2,Bool.false_or] at hp;rw [hp];rfl
         | true =>
           rw [show a = 2 by simpa using h2];rfl
        have hq2:(a != 2) = T:=by show (!(a == 2)) = T;rw [hq];simp
        have hq3:(a != 3) = !T:=by show (!(a == 3)) = !T;rw [hT]
        go_cut [67] from 62 to 66 (fun s67 wx=>s67 = .bool false/\KA w tb (yw ar n k) wx)
        case first=>
         cases T
         all_goals
          go_wp2_with fail;go_meet
          case rel=>exact ⟨rfl,HK.out⟩
        case rest=>
         obtain ⟨rfl,hK⟩:=hcut;have HK:=hid hK;have HT:=hid hT;clear hK hq hq2 hq3 hT;go_wp2_with fail
         go_loopg [11] (P - d) (fun gh s11 wi=>∃ j:Nat,d <= j/\j <= P/\gh = P - j/\s11 = .int .i64 j/\KA w tb (yw ar n k) wi)
         case atStart=>exact ⟨d,Nat.le_refl _,by have:=HPP.out.1;have:=Lj.out.2.1;omega,rfl,by first | rfl | exact congrArg (Value.int .i64) hwd,HK.out⟩
         case round=>
          obtain ⟨j,hj1,hj2,rfl,rfl,hK⟩:=hrel;have HKj:=hid hK;have hj5:(j:Int) < 5:=by have:=HP.out.1;omega
          have hj0:(0:Int) <= (j:Int):=Int.natCast_nonneg _;have hcj:=Aw4.out j (by omega) wr hK.bel;obtain ⟨c,hc⟩:∃ c,ar.getD j 0 = c:=⟨_,rfl⟩;rw [hc] at hcj
          by_cases hjP:j = P
          ·have qc:(c != 4) = false:=by rw [<- hc,hjP,HPP.out.2.1];rfl
           have HJP:=hid hjP;clear hj1 hj2 hK hc hjP;go_upto_region 15 with fail;clear hcj hj5 hj0 qc;obtain ⟨dp,hdp⟩:∃ dp,P + 1 = dp:=⟨_,rfl⟩;have hjd:(j:Int) + 1 = (dp:Int):=by have:=HJP.out;omega
           have hwp:wrap64 (dp:Int) = (dp:Int):=by have:=HP.out.1;unfold wrap64;omega
           have A0b:(0:Int) <= (dp:Int):=Int.natCast_nonneg _;have A0c:(dp:Int) < 11:=by have:=HP.out.1;omega
           have hd0:(0:Int) <= (d:Int):=Int.natCast_nonneg _;have hd1:(d:Int) < 11:=by have:=Lj.out;omega
           obtain ⟨c0,c1,c2,c3⟩:=Aw5.out d (by have:=Lj.out;omega) wr HKj.out.bel;rw [Lj.out.2.2.2] at c0 c1 c2 c3;simp only at c0 c1 c2 c3;have e3:=(Aw5.out dp (by have:=HP.out.1;omega) wr HKj.out.bel).2.2.2;rw [<- hdp,HN.out,hdp] at e3;have Auk:=J8.out.1;have hsz0:=HKj.out.bel.size;clear hdp;obtain ⟨w15,rfl⟩:∃ w15,w15 = wr:=⟨_,rfl⟩
           go_cut [12,13] from 77 to 91 (fun s12 s13 wx=>∃ q,s12 = .pointer (some ⟨q,0,none⟩)/\s13 = .int .i64 n/\Row wx q 57 [.int .i64 uk,.int .i64 ut,.int .i64 uo,.int .i64 ux]/\KA w tb (yw ar n k) wx/\tb ≠ q)
           case first=>
            have hltx:bx < w15.heap.size:=by omega
            go_region
            go_wp2_with fail;go_meet
            case rel=>
             have An3:=HKj.out.box.lt;have hm:=Row.made w15 [.int .i64 uk,.int .i64 ut,.int .i64 uo,.int .i64 ux] 57;exact ⟨_,rfl,rfl,hm.below (Below.refl _ _).drew hm.lt,(HKj.out.next (Ae w15 _)).next (Below.refl _ _).drew,by omega⟩
           case rest=>
            obtain ⟨q,rfl,rfl,hV,hK,hne⟩:=hcut;have HV:=hid hV;have HK5:=hid (And.intro hK hne);clear hV hK hne c0 c1 c2 c3 e3 hjd hwp A0b A0c HKj HK Auk hsz0;obtain ⟨w16,rfl⟩:∃ w16,w16 = wc:=⟨_,rfl⟩
            have hdc:w16.cell? ⟨tb,d,none⟩ = some (.int .i64 ((yw ar n k).getD d 0)):=by
             have hd6:d < 6:=by have:=Lj.out;omega
             rw [HK5.out.1.box.cell];unfold O9;rw [List.getElem?_map,List.getElem?_eq_getElem (by rw [HK5.out.1.len];exact hd6),List.getD_eq_getElem?_getD,List.getElem?_eq_getElem (by rw [HK5.out.1.len];exact hd6)];rfl
            have hdf:w16.frozen? ⟨tb,d,none⟩ = false:=HK5.out.1.box.free _;have hd6:(d:Int) < 6:=by have:=Lj.out;omega
            go_upto_region 16 with fail
            go_cut [] from 92 to 95 (fun wx=>Row wx q 57 [.int .i64 uk,.int .i64 ut,.int .i64 uo,.int .i64 ux]/\KA w tb (yw ar n (k + 1)) wx)
            case first=>
             obtain ⟨zd,hzd⟩:∃ z,(yw ar n k).getD d 0 = z:=⟨_,rfl⟩;rw [hzd] at hdc;clear hzd;go_wp2_with fail;go_meet
             case rel=>
              refine ⟨HV.out.other _ _ (Ne.symm HK5.out.2),?_⟩;rw [Auj ar n k Lj.out.1 (by rw [Lj.out.2.2.1];exact hp),Lj.out.2.1];exact HK5.out.1.set d n
            case rest=>
             obtain ⟨hV,hK⟩:=hcut;obtain ⟨zz,hzz⟩:∃ zz,zz = yw ar n (k + 1):=⟨_,rfl⟩;rw [<- hzz] at hK;have HZZ:=hid hzz;have HKV:=hid (KV.mk hK hV);clear hV hK hzz hdc hdf hd6 HV HK5 hd0 hd1;obtain ⟨w17,rfl⟩:∃ w17,w17 = wc:=⟨_,rfl⟩;obtain ⟨G,hG⟩:∃ G:Bool,G = (decide (2 <= uk) && Dh fx s ⟨uk,ut,uo,ux⟩ ux n):=⟨_,rfl⟩;have HG:=hid hG
             have HNR:Hid (0 <= n/\n <= 65535):=hid (by
              have h:=Avl.out P HP.out.1;rw [HPP.out.2.1] at h;unfold Xg at h;rw [HN.out] at h;simp at h;omega)
             have HPK:Hid (2 <= uk->Gf fx ⟨uk,ut,uo,ux⟩):=hid (fun h2=>by
              have h:=HOK.out.1 d (by have:=Lj.out;omega);rw [Lj.out.2.2.2] at h;exact h h2)
             clear hG;go_upto_region 17 with fail
             go_cut [96] from 97 to 110 (fun s96 wx=>s96 = .bool (!G)/\KV w tb zz q [.int .i64 uk,.int .i64 ut,.int .i64 uo,.int .i64 ux] wx)
             case first=>
              have hks:=(HKV.out.next (Below.refl _ _).drew).k
              cases q0:decide (2 <= uk) with
              | false =>
                have hGf:G = false:=by rw [HG.out,q0];rfl
                refine wp_region_held_drew (S:=(fun w'=>(w'.cell? ⟨q,0,none⟩ = some (.int .i64 uk)/\w'.cell? ⟨q,1,none⟩ = some (.int .i64 ut)/\w'.cell? ⟨q,2,none⟩ = some (.int .i64 uo)/\w'.cell? ⟨q,3,none⟩ = some (.int .i64 ux))/\KV w tb zz q [.int .i64 uk,.int .i64 ut,.int .i64 uo,.int .i64 ux] w')) (by kernel_rfl) ?_ (fun hHeld=>?_)
                ·(try dsimp only);exact hks
                refine wpAnyH_take (i:=0) (oi:=⟨some 97,_,_,_,_,_⟩) (v:=?_) rfl (by kernel_rfl) (by kernel_rfl) (by kernel_rfl) (fun _ _ _ h=>h) (Or.inl ⟨by kernel_rfl,?_⟩) (by assumption) ?_
                rotate_left
                ·intro w hSw;(try dsimp only at hSw);go_simp;(try with_reducible rfl)
                try simp only [Act.put,List.setIfInBounds_toArray,List.set_cons_zero,List.set_cons_succ]
                refine wpAnyH_ready (rs:=[1]) (by kernel_rfl) (by simp) ?_;refine AllReadyH.cons (o:=_) rfl (fun K hK=>?_) AllReadyH.nil;go_simp;go_at_call 72;refine (Ce _ _ _ _ _).mono ?_;rintro e w' ⟨he,hb⟩;rw [q0] at he;subst he;refine hK.out _ _ ?_ (fun hHeld=>?_)
                ·(try dsimp only);exact KV.n (by with_reducible assumption) hb
                clear hK K
                try simp only [Act.put,List.setIfInBounds_toArray,List.set_cons_zero,List.set_cons_succ]
                refine wpAnyH_take (i:=2) (oi:=⟨some 99,_,_,_,_,_⟩) (v:=?_) rfl (by kernel_rfl) (by kernel_rfl) (by kernel_rfl) (fun _ _ _ h=>h) (Or.inl ⟨by kernel_rfl,?_⟩) (by assumption) ?_
                rotate_left
                ·intro w hSw;(try dsimp only at hSw);go_simp;(try with_reducible rfl)
                try simp only [Act.put,List.setIfInBounds_toArray,List.set_cons_zero,List.set_cons_succ]
                refine wpAnyH_take (i:=3) (oi:=⟨some 100,_,_,_,_,_⟩) (v:=?_) rfl (by kernel_rfl) (by kernel_rfl) (by kernel_rfl) (fun _ _ _ h=>h) (Or.inl ⟨by kernel_rfl,?_⟩) (by assumption) ?_
                rotate_left
                ·intro w hSw;(try dsimp only at hSw);go_simp;(try with_reducible rfl)
                try simp only [Act.put,List.setIfInBounds_toArray,List.set_cons_zero,List.set_cons_succ]
                refine wpAnyH_take (i:=4) (oi:=⟨some 101,_,_,_,_,_⟩) (v:=undef) rfl (by kernel_rfl) (by kernel_rfl) (by kernel_rfl) (fun _ _ _ h=>h) (Or.inr ⟨by kernel_rfl,rfl⟩) (by assumption) ?_
                try simp only [Act.put,List.setIfInBounds_toArray,List.set_cons_zero,List.set_cons_succ]
                refine wpAnyH_take (i:=5) (oi:=⟨some 102,_,_,_,_,_⟩) (v:=undef) rfl (by kernel_rfl) (by kernel_rfl) (by kernel_rfl) (fun _ _ _ h=>h) (Or.inr ⟨by kernel_rfl,rfl⟩) (by assumption) ?_
                try simp only [Act.put,List.setIfInBounds_toArray,List.set_cons_zero,List.set_cons_succ]
                refine wpAnyH_take (i:=6) (oi:=⟨some 103,_,_,_,_,_⟩) (v:=undef) rfl (by kernel_rfl) (by kernel_rfl) (by kernel_rfl) (fun _ _ _ h=>h) (Or.inr ⟨by kernel_rfl,rfl⟩) (by assumption) ?_
                try simp only [Act.put,List.setIfInBounds_toArray,List.set_cons_zero,List.set_cons_succ]
                refine wpAnyH_take (i:=7) (oi:=⟨some 104,_,_,_,_,_⟩) (v:=undef) rfl (by kernel_rfl) (by kernel_rfl) (by kernel_rfl) (fun _ _ _ h=>h) (Or.inr ⟨by kernel_rfl,rfl⟩) (by assumption) ?_
                try simp only [Act.put,List.setIfInBounds_toArray,List.set_cons_zero,List.set_cons_succ]
                refine wpAnyH_take (i:=8) (oi:=⟨some 105,_,_,_,_,_⟩) (v:=undef) rfl (by kernel_rfl) (by kernel_rfl) (by kernel_rfl) (fun _ _ _ h=>h) (Or.inr ⟨by kernel_rfl,rfl⟩) (by assumption) ?_
                try simp only [Act.put,List.setIfInBounds_toArray,List.set_cons_zero,List.set_cons_succ]
                refine wpAnyH_take (i:=9) (oi:=⟨some 106,_,_,_,_,_⟩) (v:=undef) rfl (by kernel_rfl) (by kernel_rfl) (by kernel_rfl) (fun _ _ _ h=>h) (Or.inr ⟨by kernel_rfl,rfl⟩) (by assumption) ?_
                try simp only [Act.put,List.setIfInBounds_toArray,List.set_cons_zero,List.set_cons_succ]
                refine wpAnyH_take (i:=10) (oi:=⟨some 107,_,_,_,_,_⟩) (v:=undef) rfl (by kernel_rfl) (by kernel_rfl) (by kernel_rfl) (fun _ _ _ h=>h) (Or.inr ⟨by kernel_rfl,rfl⟩) (by assumption) ?_
                try simp only [Act.put,List.setIfInBounds_toArray,List.set_cons_zero,List.set_cons_succ]
                refine wpAnyH_take (i:=11) (oi:=⟨some 108,_,_,_,_,_⟩) (v:=undef) rfl (by kernel_rfl) (by kernel_rfl) (by kernel_rfl) (fun _ _ _ h=>h) (Or.inr ⟨by kernel_rfl,rfl⟩) (by assumption) ?_
                try simp only [Act.put,List.setIfInBounds_toArray,List.set_cons_zero,List.set_cons_succ]
                refine wpAnyH_take (i:=12) (oi:=⟨some 109,_,_,_,_,_⟩) (v:=undef) rfl (by kernel_rfl) (by kernel_rfl) (by kernel_rfl) (fun _ _ _ h=>h) (Or.inr ⟨by kernel_rfl,rfl⟩) (by assumption) ?_
                try simp only [Act.put,List.setIfInBounds_toArray,List.set_cons_zero,List.set_cons_succ]
                refine wpAnyH_take (i:=13) (oi:=⟨some 110,_,_,_,_,_⟩) (v:=?_) rfl (by kernel_rfl) (by kernel_rfl) (by kernel_rfl) (fun _ _ _ h=>h) (Or.inl ⟨by kernel_rfl,?_⟩) (by assumption) ?_
                rotate_left
                ·intro w hSw;(try dsimp only at hSw);go_simp;(try with_reducible rfl)
                try simp only [Act.put,List.setIfInBounds_toArray,List.set_cons_zero,List.set_cons_succ]
                refine wpAnyH_take (i:=14) (oi:=⟨some 96,_,_,_,_,_⟩) (v:=?_) rfl (by kernel_rfl) (by kernel_rfl) (by kernel_rfl) (fun _ _ _ h=>h) (Or.inl ⟨by kernel_rfl,?_⟩) (by assumption) ?_
                rotate_left
                ·intro w hSw;(try dsimp only at hSw);go_simp;(try with_reducible rfl)
                try simp only [Act.put,List.setIfInBounds_toArray,List.set_cons_zero,List.set_cons_succ]
                refine wpAnyH_done (by kernel_rfl) ?_ _;have hF:=hHeld.2;clear hks;go_wp2_with fail;go_meet
                case rel=>exact ⟨by rw [hGf];rfl,hF⟩
              | true =>
                have h2:2 <= uk:=by simpa using q0
                have HPO:=hid (HPK.out h2);obtain ⟨W,hW⟩:∃ W:Bool,Dh fx s ⟨uk,ut,uo,ux⟩ ux n = W:=⟨_,rfl⟩;have hGw:G = W:=by rw [HG.out,q0,hW];rfl
                have HWI:=hid (fun (w':World) (hb':Below w.heap.size w w')=>Uy ⟨uk,ut,uo,ux⟩ HPO.out ux n (by have:=HPO.out.off;simp only at this;omega) (by have:=HNR.out;omega) w' (HM.out.next hb'));rw [hW] at HWI;unfold Val.agg at HWI;simp only at HWI;clear hW h2;refine wp_region_held_drew (S:=(fun w'=>(w'.cell? ⟨q,0,none⟩ = some (.int .i64 uk)/\w'.cell? ⟨q,1,none⟩ = some (.int .i64 ut)/\w'.cell? ⟨q,2,none⟩ = some (.int .i64 uo)/\w'.cell? ⟨q,3,none⟩ = some (.int .i64 ux))/\KV w tb zz q [.int .i64 uk,.int .i64 ut,.int .i64 uo,.int .i64 ux] w')) (by kernel_rfl) ?_ (fun hHeld=>?_)
                ·(try dsimp only);exact hks
                refine wpAnyH_take (i:=0) (oi:=⟨some 97,_,_,_,_,_⟩) (v:=?_) rfl (by kernel_rfl) (by kernel_rfl) (by kernel_rfl) (fun _ _ _ h=>h) (Or.inl ⟨by kernel_rfl,?_⟩) (by assumption) ?_
                rotate_left
                ·intro w hSw;(try dsimp only at hSw);go_simp;(try with_reducible rfl)
                try simp only [Act.put,List.setIfInBounds_toArray,List.set_cons_zero,List.set_cons_succ]
                refine wpAnyH_ready (rs:=[1]) (by kernel_rfl) (by simp) ?_;refine AllReadyH.cons (o:=_) rfl (fun K hK=>?_) AllReadyH.nil;go_simp;go_at_call 72;refine (Ce _ _ _ _ _).mono ?_;rintro e w' ⟨he,hb⟩;rw [q0] at he;subst he;have hbw:=(KV.n (by with_reducible assumption) hb).2.ka.bel;refine hK.out _ _ ?_ (fun hHeld=>?_)
                ·(try dsimp only);exact KV.n (by with_reducible assumption) hb
                clear hK K
                try simp only [Act.put,List.setIfInBounds_toArray,List.set_cons_zero,List.set_cons_succ]
                refine wpAnyH_take (i:=2) (oi:=⟨some 99,_,_,_,_,_⟩) (v:=?_) rfl (by kernel_rfl) (by kernel_rfl) (by kernel_rfl) (fun _ _ _ h=>h) (Or.inl ⟨by kernel_rfl,?_⟩) (by assumption) ?_
                rotate_left
                ·intro w hSw;(try dsimp only at hSw);go_simp;(try with_reducible rfl)
                try simp only [Act.put,List.setIfInBounds_toArray,List.set_cons_zero,List.set_cons_succ]
                refine wpAnyH_take (i:=3) (oi:=⟨some 100,_,_,_,_,_⟩) (v:=?_) rfl (by kernel_rfl) (by kernel_rfl) (by kernel_rfl) (fun _ _ _ h=>h) (Or.inl ⟨by kernel_rfl,?_⟩) (by assumption) ?_
                rotate_left
                ·intro w hSw;(try dsimp only at hSw);go_simp;(try with_reducible rfl)
                try simp only [Act.put,List.setIfInBounds_toArray,List.set_cons_zero,List.set_cons_succ]
                refine wpAnyH_take (i:=4) (oi:=⟨some 101,_,_,_,_,_⟩) (v:=?_) rfl (by kernel_rfl) (by kernel_rfl) (by kernel_rfl) (fun _ _ _ h=>h) (Or.inl ⟨by kernel_rfl,?_⟩) (by assumption) ?_
                rotate_left
                ·intro w hSw;(try dsimp only at hSw);go_simp;(try with_reducible rfl)
                try simp only [Act.put,List.setIfInBounds_toArray,List.set_cons_zero,List.set_cons_succ]
                refine wpAnyH_take (i:=5) (oi:=⟨some 102,_,_,_,_,_⟩) (v:=?_) rfl (by kernel_rfl) (by kernel_rfl) (by kernel_rfl) (fun _ _ _ h=>h) (Or.inl ⟨by kernel_rfl,?_⟩) (by assumption) ?_
                rotate_left
                ·intro w hSw;(try dsimp only at hSw);go_simp;(try with_reducible rfl)
                try simp only [Act.put,List.setIfInBounds_toArray,List.set_cons_zero,List.set_cons_succ]
                refine wpAnyH_take (i:=6) (oi:=⟨some 103,_,_,_,_,_⟩) (v:=?_) rfl (by kernel_rfl) (by kernel_rfl) (by kernel_rfl) (fun _ _ _ h=>h) (Or.inl ⟨by kernel_rfl,?_⟩) (by assumption) ?_
                rotate_left
                ·intro w hSw;(try dsimp only at hSw);go_simp;(try with_reducible rfl)
                try simp only [Act.put,List.setIfInBounds_toArray,List.set_cons_zero,List.set_cons_succ]
                refine wpAnyH_take (i:=7) (oi:=⟨some 104,_,_,_,_,_⟩) (v:=?_) rfl (by kernel_rfl) (by kernel_rfl) (by kernel_rfl) (fun _ _ _ h=>h) (Or.inl ⟨by kernel_rfl,?_⟩) (by assumption) ?_
                rotate_left
                ·intro w hSw;(try dsimp only at hSw);go_simp;(try with_reducible rfl)
                try simp only [Act.put,List.setIfInBounds_toArray,List.set_cons_zero,List.set_cons_succ]
                refine wpAnyH_take (i:=8) (oi:=⟨some 105,_,_,_,_,_⟩) (v:=?_) rfl (by kernel_rfl) (by kernel_rfl) (by kernel_rfl) (fun _ _ _ h=>h) (Or.inl ⟨by kernel_rfl,?_⟩) (by assumption) ?_
                rotate_left
                ·intro w hSw;(try dsimp only at hSw);go_simp;(try with_reducible rfl)
                try simp only [Act.put,List.setIfInBounds_toArray,List.set_cons_zero,List.set_cons_succ]
                refine wpAnyH_take (i:=9) (oi:=⟨some 106,_,_,_,_,_⟩) (v:=?_) rfl (by kernel_rfl) (by kernel_rfl) (by kernel_rfl) (fun _ _ _ h=>h) (Or.inl ⟨by kernel_rfl,?_⟩) (by assumption) ?_
                rotate_left
                ·intro w hSw;(try dsimp only at hSw);go_simp;(try with_reducible rfl)
                try simp only [Act.put,List.setIfInBounds_toArray,List.set_cons_zero,List.set_cons_succ]
                refine wpAnyH_take (i:=10) (oi:=⟨some 107,_,_,_,_,_⟩) (v:=?_) rfl (by kernel_rfl) (by kernel_rfl) (by kernel_rfl) (fun _ _ _ h=>h) (Or.inl ⟨by kernel_rfl,?_⟩) (by assumption) ?_
                rotate_left
                ·intro w hSw;(try dsimp only at hSw);go_simp;(try with_reducible rfl)
                try simp only [Act.put,List.setIfInBounds_toArray,List.set_cons_zero,List.set_cons_succ]
                refine wpAnyH_ready (rs:=[11]) (by kernel_rfl) (by simp) ?_;refine AllReadyH.cons (o:=_) rfl (fun K hK=>?_) AllReadyH.nil;go_simp;go_at_call 73;refine (HWI.out _ hbw).mono ?_;rintro e w'' ⟨he,hb⟩;subst he;refine hK.out _ _ ?_ (fun hHeld=>?_)
                ·(try dsimp only);exact KV.n (by with_reducible assumption) hb
                clear hK K
                try simp only [Act.put,List.setIfInBounds_toArray,List.set_cons_zero,List.set_cons_succ]
                refine wpAnyH_take (i:=12) (oi:=⟨some 109,_,_,_,_,_⟩) (v:=?_) rfl (by kernel_rfl) (by kernel_rfl) (by kernel_rfl) (fun _ _ _ h=>h) (Or.inl ⟨by kernel_rfl,?_⟩) (by assumption) ?_
                rotate_left
                ·intro w hSw;(try dsimp only at hSw);go_simp;(try with_reducible rfl)
                try simp only [Act.put,List.setIfInBounds_toArray,List.set_cons_zero,List.set_cons_succ]
                refine wpAnyH_take (i:=13) (oi:=⟨some 110,_,_,_,_,_⟩) (v:=?_) rfl (by kernel_rfl) (by kernel_rfl) (by kernel_rfl) (fun _ _ _ h=>h) (Or.inl ⟨by kernel_rfl,?_⟩) (by assumption) ?_
                rotate_left
                ·intro w hSw;(try dsimp only at hSw);go_simp;(try with_reducible rfl)
                try simp only [Act.put,List.setIfInBounds_toArray,List.set_cons_zero,List.set_cons_succ]
                refine wpAnyH_take (i:=14) (oi:=⟨some 96,_,_,_,_,_⟩) (v:=?_) rfl (by kernel_rfl) (by kernel_rfl) (by kernel_rfl) (fun _ _ _ h=>h) (Or.inl ⟨by kernel_rfl,?_⟩) (by assumption) ?_
                rotate_left
                ·intro w hSw;(try dsimp only at hSw);go_simp;(try with_reducible rfl)
                try simp only [Act.put,List.setIfInBounds_toArray,List.set_cons_zero,List.set_cons_succ]
                refine wpAnyH_done (by kernel_rfl) ?_ _;have hF:=hHeld.2;clear hks;go_wp2_with fail;go_meet
                case rel=>exact ⟨by first | (rw [hGw];done) | (rw [hGw];rfl),hF⟩
             case rest=>
              obtain ⟨rfl,yx⟩:=hcut;have HKV:=hid yx;clear yx;obtain ⟨X,hX⟩:∃ X:Bool,X = (if (a == 3) = true then uk != 4 else Gs s ⟨uk,ut,uo,ux⟩ ux n == 0):=⟨_,rfl⟩;have HX:=hid hX;clear hX
              cases hGG:G with
              | false =>
                obtain ⟨z0,z1,z2,z3,z4,z5,hz⟩:=Afh (HKV.out.ka).len;have HKZ:=hid (show KA w tb [z0,z1,z2,z3,z4,z5] _ by rw [<- hz];exact HKV.out.ka);clear hz;obtain ⟨⟨d0,d1,d2,d3,d4,d5⟩,_,_,_,_,_,_⟩:=HKZ.out.six;simp only [List.getD_cons_zero,List.getD_cons_succ] at d0 d1 d2 d3 d4 d5;go_wp2_with fail;have hp6:=HKZ.out.Arf;simp only [List.getD_cons_zero,List.getD_cons_succ] at hp6;have HP6:=hid hp6;clear hp6;generalize World.setCell _ _ _ = w9 at HP6 ⊢;obtain ⟨⟨f0,f1,f2,f3,f4,f5⟩,_⟩:=HP6.out.six;simp only [List.getD_cons_zero,List.getD_cons_succ] at f0 f1 f2 f3 f4 f5;exact bodyPost_ret (v:=.tuple #[.agg #[.int .i64 z0,.int .i64 z1,.int .i64 z2,.int .i64 z3,.int .i64 z4,.int .i64 z5],.bool false]) (by simp [results,results82,go_sem,f0,f1,f2,f3,f4,f5]) rfl ⟨HP6.out.bel,[z0,z1,z2,z3,z4,z5],false,rfl,rfl,⟨fun h=>(by cases h),fun h=>absurd (h.2 k Lj.out.1) (by rw [Lj.out.2.2.1,Lj.out.2.1,Lj.out.2.2.2,HN.out];exact Aw2 hp HG.out hGG)⟩,fun h=>(by cases h)⟩
              | true =>
                have hT3:=HT.out
                cases T with
                | true =>
                  obtain ⟨⟨v0,v1,v2,v3⟩,_⟩:=HKV.out.v.four
                  cases q4:(uk == 4) with
                  | true =>
                    have hXf:X = false:=by rw [HX.out,if_pos HT.out];show (!(uk == 4)) = false;rw [q4];rfl
                    obtain ⟨z0,z1,z2,z3,z4,z5,hz⟩:=Afh (HKV.out.ka).len;have HKZ:=hid (show KA w tb [z0,z1,z2,z3,z4,z5] _ by rw [<- hz];exact HKV.out.ka);clear hz;obtain ⟨⟨d0,d1,d2,d3,d4,d5⟩,_,_,_,_,_,_⟩:=HKZ.out.six;simp only [List.getD_cons_zero,List.getD_cons_succ] at d0 d1 d2 d3 d4 d5;go_wp2_with fail;have hp6:=HKZ.out.Arf;simp only [List.getD_cons_zero,List.getD_cons_succ] at hp6;have HP6:=hid hp6;clear hp6;generalize World.setCell _ _ _ = w9 at HP6 ⊢;obtain ⟨⟨f0,f1,f2,f3,f4,f5⟩,_⟩:=HP6.out.six;simp only [List.getD_cons_zero,List.getD_cons_succ] at f0 f1 f2 f3 f4 f5;exact bodyPost_ret (v:=.tuple #[.agg #[.int .i64 z0,.int .i64 z1,.int .i64 z2,.int .i64 z3,.int .i64 z4,.int .i64 z5],.bool false]) (by simp [results,results82,go_sem,f0,f1,f2,f3,f4,f5]) rfl ⟨HP6.out.bel,[z0,z1,z2,z3,z4,z5],false,rfl,rfl,⟨fun h=>(by cases h),fun h=>absurd (h.2 k Lj.out.1) (by rw [Lj.out.2.2.1,Lj.out.2.1,Lj.out.2.2.2,HN.out];exact Ak5 hp HX.out hXf)⟩,fun h=>(by cases h)⟩
                  | false =>
                    have hXt:X = true:=by rw [HX.out,if_pos HT.out];show (!(uk == 4)) = true;rw [q4];rfl
                    go_wp2_with fail
                    go_roundg (5 - d)
                    case measure=>have:=Lj.out;omega
                    case rel => exact ⟨d, by have := Lj.out; omega, rfl, by first | rfl | exact congrArg (Value.int .i64) hwd, fun i hi => by
                      by_cases hik:i = k
                      ·subst hik;rw [Lj.out.2.2.1,Lj.out.2.1,Lj.out.2.2.2];exact Ak6 hp HG.out hGG HX.out hXt
                      ·exact Afi.out i (by have:=Lj.out;omega),by
                      rw [<- Lj.out.2.1,<- HZZ.out];exact HKV.out.ka⟩
                | false =>
                  have Aw6:=HG.out;rw [hGG] at Aw6;have hgg:=Aw6.symm;clear Aw6;rw [Bool.and_eq_true] at hgg;obtain ⟨hk2,hwn⟩:=hgg;obtain ⟨hA0,hA1⟩:=Fe hwn;obtain ⟨An,hAn⟩:∃ An:Nat,ux = An:=⟨ux.toNat,by omega⟩;obtain ⟨nn,hnn⟩:∃ nn:Nat,n = nn:=⟨n.toNat,by have:=HNR.out;omega⟩;have hoff:=(HPK.out (by simpa using hk2)).off;simp only at hoff
                  have hin:uk = 2->An + nn <= 256:=fun h2=>by
                   unfold Xc at hA1;rw [if_pos (show (⟨uk,ut,uo,ux⟩:Val).k = 2 from h2)] at hA1;omega
                  have HRD:=hid (fun (w':World) (hb':Below w.heap.size w w')=>Tn ⟨uk,ut,uo,ux⟩ An nn hin (by omega) (by have:=HNR.out;omega) HOK.out.2.2 w' (HM.out.next hb'));rw [<- hAn,<- hnn] at HRD;unfold Val.agg at HRD;simp only at HRD;obtain ⟨er,her⟩:∃ er,er = Gs s ⟨uk,ut,uo,ux⟩ ux n:=⟨_,rfl⟩;rw [<- her] at HRD;have HER:=hid her;clear her hk2 hwn hA0 hA1 hoff hin hAn hnn;go_upto_region 22 with fail
                  go_cut [119] from 120 to 128 (fun A0d wx=>A0d = .bool (er != 0)/\KV w tb zz q [.int .i64 uk,.int .i64 ut,.int .i64 uo,.int .i64 ux] wx)
                  case first=>
                   have hks:=(HKV.out.next (Below.refl _ _).drew).k;have hbw:=hks.2.ka.bel
                   go_region_held3 (fun w'=>(w'.cell? ⟨q,0,none⟩ = some (.int .i64 uk)/\w'.cell? ⟨q,1,none⟩ = some (.int .i64 ut)/\w'.cell? ⟨q,2,none⟩ = some (.int .i64 uo)/\w'.cell? ⟨q,3,none⟩ = some (.int .i64 ux))/\KV w tb zz q [.int .i64 uk,.int .i64 ut,.int .i64 uo,.int .i64 ux] w')
                    (first
                      | with_reducible assumption
                      | with_reducible exact KV.n (by with_reducible assumption) hb
                      | fail "none")
                    ((go_at_call 74;refine (HRD.out _ hbw).mono ?_;rintro e w' ⟨rfl,hb⟩))
                   rename_i C9;go_wp2_with fail;go_meet
                   case rel=>exact ⟨rfl,C9.2⟩
                  case rest=>
                   obtain ⟨rfl,Ayj⟩:=hcut;have Aw7:=hid Ayj;clear Ayj HKV HRD
                   by_cases he0:er = 0
                   ·have q0:(er != 0) = false:=by simpa using he0
                    have hXt:X = true:=by rw [HX.out,if_neg (by rw [HT.out];decide),<- HER.out,he0];rfl
                    clear he0;go_wp2_with fail
                    go_roundg (5 - d)
                    case measure=>have:=Lj.out;omega
                    case rel => exact ⟨d, by have := Lj.out; omega, rfl, by first | rfl | exact congrArg (Value.int .i64) hwd, fun i hi => by
                      by_cases hik:i = k
                      ·subst hik;rw [Lj.out.2.2.1,Lj.out.2.1,Lj.out.2.2.2];exact Ak6 hp HG.out hGG HX.out hXt
                      ·exact Afi.out i (by have:=Lj.out;omega),by
                      rw [<- Lj.out.2.1,<- HZZ.out];exact Aw7.out.ka⟩
                   ·have q0:(er != 0) = true:=by simpa using he0
                    have hXf:X = false:=by rw [HX.out,if_neg (by rw [HT.out];decide),<- HER.out];simpa using he0
                    clear he0;obtain ⟨z0,z1,z2,z3,z4,z5,hz⟩:=Afh (Aw7.out.ka).len;have HKZ:=hid (show KA w tb [z0,z1,z2,z3,z4,z5] _ by rw [<- hz];exact Aw7.out.ka);clear hz;obtain ⟨⟨d0,d1,d2,d3,d4,d5⟩,_,_,_,_,_,_⟩:=HKZ.out.six;simp only [List.getD_cons_zero,List.getD_cons_succ] at d0 d1 d2 d3 d4 d5;go_wp2_with fail;have hp6:=HKZ.out.Arf;simp only [List.getD_cons_zero,List.getD_cons_succ] at hp6;have HP6:=hid hp6;clear hp6;generalize World.setCell _ _ _ = w9 at HP6 ⊢;obtain ⟨⟨f0,f1,f2,f3,f4,f5⟩,_⟩:=HP6.out.six;simp only [List.getD_cons_zero,List.getD_cons_succ] at f0 f1 f2 f3 f4 f5;exact bodyPost_ret (v:=.tuple #[.agg #[.int .i64 z0,.int .i64 z1,.int .i64 z2,.int .i64 z3,.int .i64 z4,.int .i64 z5],.bool false]) (by simp [results,results82,go_sem,f0,f1,f2,f3,f4,f5]) rfl ⟨HP6.out.bel,[z0,z1,z2,z3,z4,z5],false,rfl,rfl,⟨fun h=>(by cases h),fun h=>absurd (h.2 k Lj.out.1) (by rw [Lj.out.2.2.1,Lj.out.2.1,Lj.out.2.2.2,HN.out];exact Ak5 hp HX.out hXf)⟩,fun h=>(by cases h)⟩
          ·have qc : (c != 4) = true := by
            have h:=HPP.out.2.2 j (by have:=Lj.out.2.1;omega) (by omega);rw [hc] at h;simpa using h
           obtain ⟨dj,hdj⟩:∃ dj,j + 1 = dj:=⟨_,rfl⟩;have hjd:(j:Int) + 1 = (dj:Int):=by omega
           have hwj:wrap64 (dj:Int) = (dj:Int):=by unfold wrap64;omega
           have HJJ:=hid (And.intro hdj (And.intro hj1 (And.intro hj2 hjP)));clear hdj hj1 hj2 hjP hK hc;go_wp2_with fail
           go_roundg (P - dj)
           case measure=>have:=HJJ.out;omega
           case rel=>exact ⟨dj,by have:=HJJ.out;omega,by have:=HJJ.out;omega,rfl,by first | rfl | exact congrArg (Value.int .i64) hwj,HKj.out⟩
     ·have hj:decide ((k:Int) < 5) = false:=by simp;omega
      have HK5:=hid (show k = 5 by omega);clear hk hk5;obtain ⟨z0,z1,z2,z3,z4,z5,hz⟩:=Afh (Aui ar n k);have HKZ:=hid (show KA w tb [z0,z1,z2,z3,z4,z5] wr by rw [<- hz];exact HK.out);have HZ:=hid hz;clear hz;obtain ⟨⟨d0,d1,d2,d3,d4,d5⟩,_,_,_,_,_,_⟩:=HKZ.out.six;simp only [List.getD_cons_zero,List.getD_cons_succ] at d0 d1 d2 d3 d4 d5;go_wp2_with fail;have hp6:=HKZ.out.Arf;simp only [List.getD_cons_zero,List.getD_cons_succ] at hp6;have HP6:=hid hp6;clear hp6;generalize World.setCell _ _ _ = w9 at HP6 ⊢;obtain ⟨⟨f0,f1,f2,f3,f4,f5⟩,_⟩:=HP6.out.six;simp only [List.getD_cons_zero,List.getD_cons_succ] at f0 f1 f2 f3 f4 f5;exact bodyPost_ret (v:=.tuple #[.agg #[.int .i64 z0,.int .i64 z1,.int .i64 z2,.int .i64 z3,.int .i64 z4,.int .i64 z5],.bool true]) (by simp [results,results82,go_sem,f0,f1,f2,f3,f4,f5]) rfl ⟨HP6.out.bel,[z0,z1,z2,z3,z4,z5],true,rfl,rfl,⟨fun _=>⟨Avl.out,fun i hi=>by rw [HN.out];exact Afi.out i (by have:=HK5.out;omega)⟩,fun _=>rfl⟩,fun _=>by rw [HN.out,<- HZ.out,HK5.out]⟩
end
end Go.Proofs.YtjacnhnaoenelaaGreat
