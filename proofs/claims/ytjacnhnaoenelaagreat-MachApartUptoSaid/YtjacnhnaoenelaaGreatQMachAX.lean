import Derived.Test.YtjacnhnaoenelaaGreatQMachAS
set_option maxRecDepth 100000
set_option maxHeartbeats 3200000
namespace Go.Proofs.YtjacnhnaoenelaaGreat
open Lib (hid)
open Go.Proofs.Tryz
open Go.RowKit
set_option linter.unusedVariables false
set_option linter.unusedSimpArgs false
theorem Aa7 (xs:List Int) (a:Nat):Jp xs a [] = xs:=by
 unfold Jp;rw [List.append_nil,List.length_nil,Nat.add_zero,List.take_append_drop]
theorem Aaa (l:List (List Int)) (i:Nat):l.set i (l.getD i []) = l:=by
 by_cases h:i < l.length
 ·rw [show l.getD i [] = l[i] by simp [List.getD,h],List.set_getElem_self]
 ·rw [List.set_eq_of_length_le (by omega)]
theorem Ai0 {fx:Ak} {s:Mst} {p:Val} (a:Int):Gn fx s p a [] = s:=by
 unfold Gn
 by_cases h2:p.k = 2
 ·rw [if_pos h2];rfl
 ·rw [if_neg h2]
  by_cases h3:p.k = 3
  ·rw [if_pos h3,Aa7]
  ·rw [if_neg h3,Aa7];unfold rowOf;rw [Aaa]
structure KY (w1 w':World):Prop where
 bel:Below w1.heap.size w1 w'
theorem KY.next {w1 w w':World} (h:KY w1 w) (hb:Below w.heap.size w w'):KY w1 w':=⟨h.bel.trans (hb.mono h.bel.size)⟩
theorem KY.n {bx i:Nat} {a b c d:Value} {w1 w w':World} (hx:bx < w1.heap.size) (h:(w.cell? ⟨bx,i,none⟩ = some a/\w.cell? ⟨bx,i + 1,none⟩ = some b/\w.cell? ⟨bx,i + 2,none⟩ = some c/\w.cell? ⟨bx,i + 3,none⟩ = some d)/\KY w1 w) (hb:Below w.heap.size w w'):(w'.cell? ⟨bx,i,none⟩ = some a/\w'.cell? ⟨bx,i + 1,none⟩ = some b/\w'.cell? ⟨bx,i + 2,none⟩ = some c/\w'.cell? ⟨bx,i + 3,none⟩ = some d)/\KY w1 w':=by
 obtain ⟨⟨a1,a2,a3,a4⟩,a6⟩:=h;have hl:bx < w.heap.size:=Nat.lt_of_lt_of_le hx a6.bel.size;exact ⟨⟨(hb.cell (p:=⟨bx,i,none⟩) hl).trans a1,(hb.cell (p:=⟨bx,i + 1,none⟩) hl).trans a2,(hb.cell (p:=⟨bx,i + 2,none⟩) hl).trans a3,(hb.cell (p:=⟨bx,i + 3,none⟩) hl).trans a4⟩,a6.next hb⟩
section
variable {base:Nat} {w0:World} {fx:Ak} {s:Mst} {bx:Nat} {v:Bc}
theorem Arj (r:Nat) (hr:r < 11) (p:Val) (hp:s.rg[r]? = some p) (hok:Gf fx p) (hm:J4 fx s) (n:Nat) (hin:Dh fx s p p.x n = true) (w:World) (h:MS base w0 fx s bx v w) :
 Calls prog 84 #[.pointer (some ⟨bx,0,none⟩),.int .i64 r,.int .i64 n] w (oh w (D7 fx s p p.x n)):=by
 have hu:Ie (Aw s v) r p:=by
  have:=h.lu r hr;rw [List.getElem?_eq_getElem (by rw [h.Oj];exact hr)] at hp;rw [Option.some.inj hp] at this;exact this
 obtain ⟨k,t,o,x⟩:=p;have hx0:=(Fe hin).1;simp only at hx0 hin;obtain ⟨a,rfl⟩:∃ a:Nat,x = a:=⟨x.toNat,by omega⟩;have HRD:=hid (fun (w':World) (hb:KY w w')=>Ae3 ⟨k,t,o,a⟩ hok hm a n hin w' (h.next hb.bel));have hbs:=Fz hm ⟨k,t,o,a⟩ a n;simp only at hbs ⊢;generalize D7 fx s ⟨k,t,o,a⟩ a n = xs at *;have HBS:=hid hbs;have hlt:=h.box.lt;obtain ⟨v0,v1,v2,v3⟩:=hu.row h.box;simp only at v0 v1 v2 v3;have hi1:(0:Int) <= (r:Int):=Int.natCast_nonneg _;have hi2:(r:Int) < 11:=by omega
 unfold Val.agg at HRD;simp only at HRD;clear hu hok hm hin h hbs hp hx0;go_enter func84,ntmps84;go_upto_region 1 with fail;have hks:(w.drew.cell? ⟨bx,423 + r * 4,none⟩ = some (.int .i64 k)/\w.drew.cell? ⟨bx,423 + r * 4 + 1,none⟩ = some (.int .i64 t)/\w.drew.cell? ⟨bx,423 + r * 4 + 2,none⟩ = some (.int .i64 o)/\w.drew.cell? ⟨bx,423 + r * 4 + 3,none⟩ = some (.int .i64 a))/\KY w w.drew:=⟨⟨v0,v1,v2,v3⟩,⟨(Below.refl _ _).drew⟩⟩
 go_region_held3 (fun w'=>(w'.cell? ⟨bx,423 + r * 4,none⟩ = some (.int .i64 k)/\w'.cell? ⟨bx,423 + r * 4 + 1,none⟩ = some (.int .i64 t)/\w'.cell? ⟨bx,423 + r * 4 + 2,none⟩ = some (.int .i64 o)/\w'.cell? ⟨bx,423 + r * 4 + 3,none⟩ = some (.int .i64 a))/\KY w w')
  (first
    | with_reducible assumption
    | with_reducible exact KY.n hlt (by with_reducible assumption) hb
    | fail "none")
  ((go_at_call 104;refine (HRD.out _ (by with_reducible exact hks.2)).mono ?_;rintro e w' ⟨vC,rfl,hown,hb⟩;obtain ⟨aC,kC,rfl⟩:=Ai hown))
 go_wp2_with fail;exact bodyPost_ret (v:=.slice aC _ kC) (by simp [results,results84,go_sem]) rfl ⟨_,rfl,Tq hown (by simp),((Below.refl _ _).drew).trans (hb.mono (by simp))⟩
theorem Afj (p:Val) (hp:Gf fx p) (hk:p.k ≠ 2) (hm:J4 fx s) (a:Nat) (hin:Dh fx s p a 0 = true) (sa:Option Addr) (sc:Nat) (w:World) (h:MS base w0 fx s bx v w) :
 Calls prog 76 #[.pointer (some ⟨bx,0,none⟩),p.agg,.int .i64 a,.slice sa 0 sc] w (Ayb w):=by
 have h1:=h.next (Ae w (.cells #[.int .i64 p.k,.int .i64 p.t,.int .i64 p.o,.int .i64 p.x] 57));obtain ⟨ad,cp,hpc,_⟩:=Yo p hp hk hm a 0 hin _ h1;have HPC:=hid hpc;have hB:=Ae w (.cells #[.int .i64 p.k,.int .i64 p.t,.int .i64 p.o,.int .i64 p.x] 57);have q2:(p.k != 2) = true:=by simpa using hk
 have hsz:(prog.info? 5).map (·.size) = some 1:=by kernel_rfl
 obtain ⟨k,t,o,x⟩:=p;clear h h1 hpc hin hp hm hk;unfold Val.agg at HPC ⊢;simp only [Int.natCast_zero,Int.ofNat_zero] at HPC q2 hB ⊢;have HB:=hid hB;clear hB;go_enter func76,ntmps76
 go_wp2_with (first
  | (go_at_call 105;refine (HPC.out).mono ?_;rintro e w1 ⟨rfl,hb⟩)
  | (with_reducible refine wpList_copy_nothing (o:=⟨some 21,_,_,_,_,_⟩) rfl (.tmp 19) (.tmp 20) 22 22 rfl 5 underlying22 hsz ad sa 0 cp 0 sc rfl rfl rfl ?_))
 exact bodyPost_ret (v:=.tuple #[]) (by simp [results,results76,go_sem]) rfl ⟨rfl,HB.out.trans (hb.mono (by simp))⟩
theorem qo (p:Val) (hp:Gf fx p) (hk4:p.k ≠ 4) (hm:J4 fx s) (a n:Nat) (b:List Int) (hbn:b.length = n) (hin:Dh fx s p a n = true) (sa:Option Addr) (sc:Nat) (w:World) (h:MS base w0 fx s bx v w)
 (hsrc:Reads w 1 (.slice sa n sc) n (Gp b)) (hne:∀ q off,sa = some ⟨q,off,none⟩->q ≠ bx) :
 Calls prog 76 #[.pointer (some ⟨bx,0,none⟩),p.agg,.int .i64 a,.slice sa n sc] w (Wrt base w0 fx (Gn fx s p a b) bx v w):=by
 by_cases hn:0 < n
 ·exact Yp p hp hk4 hm a n b hbn hn hin sa sc w h hsrc hne
 ·obtain rfl:n = 0:=by omega
  obtain rfl:b = []:=List.length_eq_zero_iff.1 hbn
  by_cases h2:p.k = 2
  ·obtain ⟨k,t,o,x⟩:=p;simp only at h2;subst h2;have hw:=(Fe hin).2;unfold Xc at hw;rw [if_pos rfl] at hw;unfold Gn Val.agg;simp only [Int.toNat_natCast];rw [if_pos trivial];exact Zk t o x a 0 [] rfl (by omega) sa sc (fun y hy=>(hm.slots y hy).2) w h hsrc hne
  ·rw [Ai0];refine (Afj p hp h2 hm a hin sa sc w h).mono ?_;rintro e w' ⟨rfl,hb⟩;exact ⟨rfl,h.next hb,fun q hq _=>hb.block q hq,hb.size⟩
theorem MS.Xh {w:World} (h:MS base w0 fx s bx v w) (p:Val) (hp:Gf fx p) (hm:J4 fx s) (n:Nat) (hin:Dh fx s p p.x n = true):(D7 fx s p p.x n).length = n:=by
 by_cases hk:p.k = 2
 ·unfold D7;rw [if_pos hk,oq,Int.toNat_natCast]
 ·have hx:=(Fe hin).1;have e:p.x = (p.x.toNat:Int):=by omega
  rw [e] at hin ⊢;obtain ⟨_,_,_,_,hl,_⟩:=Yo p hp hk hm p.x.toNat n hin w h;exact hl
theorem Py (hG:Good fx s) (r:Nat) (hr:r < 11) (n:Nat) (hk:2 <= (s.reg r).k) (hin:Dh fx s (s.reg r) (s.reg r).x n = true) (w:World) (h:MS base w0 fx s bx v w) :
 Calls prog 84 #[.pointer (some ⟨bx,0,none⟩),.int .i64 r,.int .i64 n] w (oh w (D7 fx s (s.reg r) (s.reg r).x n)):=by
 have hl:r < s.rg.length:=by rw [h.Oj];exact hr
 refine Arj r hr (s.reg r) ?_ ((F8 hG.regs r).ptr hk) hG.mem n hin w h;rw [s.Ir r hl,List.getElem?_eq_getElem hl]
end
theorem I9 {fx:Ak} {s:Mst} {p:Val} {n:Int} {wr:Bool} (h:Jr fx s p n wr = true):2 <= p.k/\Dh fx s p p.x n = true/\(wr = true->p.k ≠ 4):=by
 unfold Jr at h;simp only [Bool.and_eq_true,decide_eq_true_eq] at h;refine ⟨h.1.1,h.1.2,fun hw=>?_⟩;rw [hw,if_pos rfl] at h;simpa using h.2
theorem Q8 {p:Val} (h:Xd p = true):p.k = 1/\0 <= p.x/\p.x <= 65535:=by
 unfold Xd at h;simp only [Bool.and_eq_true,decide_eq_true_eq,beq_iff_eq] at h;exact ⟨h.1.1,h.1.2,h.2⟩
theorem Ak7 {fx:Ak} {s:Mst} {id:Int} (hi:id = 1\/id = 5) (h:Hq fx s id = true):∃ n:Nat,(s.reg 2).x = n/\n <= 65535/\2 <= (s.reg 1).k/\Dh fx s (s.reg 1) (s.reg 1).x n = true:=by
 unfold Hq at h;rw [if_pos hi] at h;simp only [Bool.and_eq_true] at h;obtain ⟨_,h0,h1⟩:=Q8 h.1.1;obtain ⟨h2,h3,_⟩:=I9 h.2;have e:(s.reg 2).x = ((s.reg 2).x.toNat:Int):=by omega
 rw [e] at h3;exact ⟨_,e,by omega,h2,h3⟩
theorem Ak8 {fx:Ak} {s:Mst} {id:Int} (hi:id = 2\/id = 4) (h:Hq fx s id = true):∃ n:Nat,(s.reg 3).x = n/\n <= 65535/\2 <= (s.reg 1).k/\Dh fx s (s.reg 1) (s.reg 1).x n = true/\2 <= (s.reg 2).k/\Dh fx s (s.reg 2) (s.reg 2).x n = true/\(id = 2->(s.reg 1).k ≠ 4):=by
 unfold Hq at h;rw [if_neg (by omega)] at h
 rcases hi with rfl | rfl
 ·rw [if_pos rfl] at h;simp only [Bool.and_eq_true] at h;obtain ⟨_,h0,h1⟩:=Q8 h.1.1;obtain ⟨h2,h3,h4⟩:=I9 h.1.2;obtain ⟨h5,h6,_⟩:=I9 h.2;have e:(s.reg 3).x = ((s.reg 3).x.toNat:Int):=by omega
  rw [e] at h3 h6;exact ⟨_,e,by omega,h2,h3,h5,h6,fun _=>h4 rfl⟩
 ·rw [if_neg (by decide),if_neg (by decide),if_pos rfl] at h;simp only [Bool.and_eq_true] at h;obtain ⟨_,h0,h1⟩:=Q8 h.1.1;obtain ⟨h2,h3,_⟩:=I9 h.1.2;obtain ⟨h5,h6,_⟩:=I9 h.2;have e:(s.reg 3).x = ((s.reg 3).x.toNat:Int):=by omega
  rw [e] at h3 h6;exact ⟨_,e,by omega,h2,h3,h5,h6,fun hc=>absurd hc (by decide)⟩
theorem Aw8 {fx:Ak} {s:Mst} (h:Hq fx s 3 = true):∃ n:Nat,(s.reg 3).x = n/\n <= 65535/\2 <= (s.reg 1).k/\Dh fx s (s.reg 1) (s.reg 1).x n = true/\(s.reg 1).k ≠ 4:=by
 unfold Hq at h;rw [if_neg (by decide),if_neg (by decide),if_pos rfl] at h;simp only [Bool.and_eq_true] at h;obtain ⟨_,h0,h1⟩:=Q8 h.1.2;obtain ⟨h2,h3,h4⟩:=I9 h.2;have e:(s.reg 3).x = ((s.reg 3).x.toNat:Int):=by omega
 rw [e] at h3;exact ⟨_,e,by omega,h2,h3,h4 rfl⟩
theorem szA (ar:List Int) (n:Int) (a1 a2:Bool) (h0:Ip (ar.getD 0 0) = a1) (h1:Ip (ar.getD 1 0) = a2) (h2:Ip (ar.getD 2 0) = false) (h3:Ip (ar.getD 3 0) = false) (h4:Ip (ar.getD 4 0) = false):yw ar n 5 = [0,if a1 = true then n else 0,if a2 = true then n else 0,0,0,0]:=by
 rw [List.getD_eq_getElem?_getD] at h0 h1 h2 h3 h4;unfold yw;simp [List.range_succ,h0,h1,h2,h3,h4]
structure KW (w:World) (bx tb q9:Nat) (cs sz:List Value) (w':World):Prop where
 mod:Mod w w' bx
 Ar:Row w' bx 87 cs
 box:Row w' tb 127 sz
 q:∃ X:Int,Row w' q9 57 [.int .i64 1,.int .i64 0,.int .i64 0,.int .i64 X]
 nb:bx ≠ q9
 nt:tb ≠ q9
 nn:w.heap.size <= q9
 tn:w.heap.size <= tb
section
variable {w wx w':World} {bx tb q9:Nat} {cs sz:List Value}
theorem KW.next (h:KW w bx tb q9 cs sz wx) (hb:Below wx.heap.size wx w'):KW w bx tb q9 cs sz w':=⟨h.mod.below hb,h.Ar.below hb h.Ar.lt,h.box.below hb h.box.lt,h.q.elim fun X hX=>⟨X,hX.below hb hX.lt⟩,h.nb,h.nt,h.nn,h.tn⟩
theorem KW.set (h:KW w bx tb q9 cs sz wx) (X:Int):KW w bx tb q9 cs sz (wx.setCell ⟨q9,3,none⟩ (.int .i64 X)):=⟨h.mod.new h.nn 3 _,h.Ar.other _ _ h.nb,h.box.other _ _ h.nt,h.q.elim fun Y hY=>⟨X,hY.put 3 _⟩,h.nb,h.nt,h.nn,h.tn⟩
theorem KW.cells (h:KW w bx tb q9 cs sz wx):(∃ c,wx.cell? ⟨q9,3,none⟩ = some c)/\wx.frozen? ⟨q9,3,none⟩ = false:=h.q.elim fun X hX=>⟨⟨_,hX.four.1.2.2.2⟩,hX.four.2.2.2.2⟩
theorem KW.fin {base:Nat} {w0:World} {fx:Ak} {s:Mst} {v:Bc} (hM:MS base w0 fx s bx v w) (h:KW w bx tb q9 (Aw s v) sz wx) (X:Int):MS base w0 fx s bx v (wx.setCell ⟨q9,3,none⟩ (.int .i64 X))/\Row (wx.setCell ⟨q9,3,none⟩ (.int .i64 X)) q9 57 [.int .i64 1,.int .i64 0,.int .i64 0,.int .i64 X]/\Jd v.ρ w (wx.setCell ⟨q9,3,none⟩ (.int .i64 X))/\w.heap.size <= (wx.setCell ⟨q9,3,none⟩ (.int .i64 X)).heap.size:=
 ⟨hM.same (h.set X).mod (h.set X).Ar,h.q.elim fun Y hY=>hY.put 3 _,Jd.Eu (h.set X).mod hM.rb,(h.set X).mod.size⟩
theorem KW.k {a b c d e f:Int} (h:KW w bx tb q9 cs [.int .i64 a,.int .i64 b,.int .i64 c,.int .i64 d,.int .i64 e,.int .i64 f] wx):wx.cell? ⟨tb,1,none⟩ = some (.int .i64 b)/\wx.cell? ⟨tb,2,none⟩ = some (.int .i64 c)/\KW w bx tb q9 cs [.int .i64 a,.int .i64 b,.int .i64 c,.int .i64 d,.int .i64 e,.int .i64 f] wx:=⟨by rw [h.box.cell];rfl,by rw [h.box.cell];rfl,h⟩
theorem KW.n {a b c d e f:Int} (h:wx.cell? ⟨tb,1,none⟩ = some (.int .i64 b)/\wx.cell? ⟨tb,2,none⟩ = some (.int .i64 c)/\KW w bx tb q9 cs [.int .i64 a,.int .i64 b,.int .i64 c,.int .i64 d,.int .i64 e,.int .i64 f] wx) (hb:Below wx.heap.size wx w'):w'.cell? ⟨tb,1,none⟩ = some (.int .i64 b)/\w'.cell? ⟨tb,2,none⟩ = some (.int .i64 c)/\KW w bx tb q9 cs [.int .i64 a,.int .i64 b,.int .i64 c,.int .i64 d,.int .i64 e,.int .i64 f] w':=(h.2.2.next hb).k
theorem KW.s {a b c d e f:Int} (h:wx.cell? ⟨tb,1,none⟩ = some (.int .i64 b)/\wx.cell? ⟨tb,2,none⟩ = some (.int .i64 c)/\KW w bx tb q9 cs [.int .i64 a,.int .i64 b,.int .i64 c,.int .i64 d,.int .i64 e,.int .i64 f] wx) (X:Int):(wx.setCell ⟨q9,3,none⟩ (.int .i64 X)).cell? ⟨tb,1,none⟩ = some (.int .i64 b)/\(wx.setCell ⟨q9,3,none⟩ (.int .i64 X)).cell? ⟨tb,2,none⟩ = some (.int .i64 c)/\KW w bx tb q9 cs [.int .i64 a,.int .i64 b,.int .i64 c,.int .i64 d,.int .i64 e,.int .i64 f] (wx.setCell ⟨q9,3,none⟩ (.int .i64 X)):=(h.2.2.set X).k
end
theorem Aa8 (fx:Ak) (s:Mst) (p:Val) (a:Int) (b:List Int):(Gn fx s p a b).rg = s.rg:=by
 unfold Gn
 split
 ·rfl
 ·split <;> rfl
section
variable {base:Nat} {w0:World} {fx:Ak} {s:Mst} {bx:Nat} {v:Bc} {w w5 wB wW:World}
theorem MS.Aul (h:MS base w0 fx s bx v w) {k t o x:Int} (hr:s.reg 1 = ⟨k,t,o,x⟩):w.cell? ⟨bx,427,none⟩ = some (.int .i64 k)/\w.cell? ⟨bx,428,none⟩ = some (.int .i64 t)/\w.cell? ⟨bx,429,none⟩ = some (.int .i64 o)/\w.cell? ⟨bx,430,none⟩ = some (.int .i64 x):=by
 have hc:=(h.lu 1 (by decide)).row h.box;rw [<- s.Ir 1 (by rw [h.Oj];decide),show s.reg ((1:Nat):Int) = ⟨k,t,o,x⟩ from hr] at hc;exact hc
theorem An4 {base n sz cap:Nat} {e:TypeId} {ad:Option Addr} {xs:List Value} (h:w.ownsRow base e sz (.slice ad n cap) n xs) (hb:bx < base):∀ q off,ad = some ⟨q,off,none⟩->q ≠ bx:=by
 intro q off hq
 rcases h with ⟨_,⟨h1,_⟩ | ⟨g,cap',cur,h1,hg,_⟩⟩
 ·injection h1 with e1 _ _;rw [e1] at hq
  cases hq
 ·injection h1 with e1 _ _;rw [e1] at hq;injection hq with e2;injection e2 with e3 _ _;omega
def KT (w5 w':World):Prop:=w5.heap.size <= w'.heap.size
def S5 (bx tb:Nat) (k t o x n:Int) (w5 w':World):Prop:=(w'.cell? ⟨bx,427,none⟩ = some (.int .i64 k)/\w'.cell? ⟨bx,428,none⟩ = some (.int .i64 t)/\w'.cell? ⟨bx,429,none⟩ = some (.int .i64 o)/\w'.cell? ⟨bx,430,none⟩ = some (.int .i64 x))/\w'.cell? ⟨tb,2,none⟩ = some (.int .i64 n)/\KT w5 w'
theorem S5.next {tb:Nat} {k t o x n:Int} (h:S5 bx tb k t o x n w5 w) (hb:Below w.heap.size w wB) (h1:bx < w5.heap.size) (h2:tb < w5.heap.size):S5 bx tb k t o x n w5 wB:=by
 obtain ⟨⟨a1,a2,a3,a4⟩,a5,a6⟩:=h;have hl1:bx < w.heap.size:=Nat.lt_of_lt_of_le h1 a6;have hl2:tb < w.heap.size:=Nat.lt_of_lt_of_le h2 a6;exact ⟨⟨(hb.cell (p:=⟨bx,427,none⟩) hl1).trans a1,(hb.cell (p:=⟨bx,428,none⟩) hl1).trans a2,(hb.cell (p:=⟨bx,429,none⟩) hl1).trans a3,(hb.cell (p:=⟨bx,430,none⟩) hl1).trans a4⟩,(hb.cell (p:=⟨tb,2,none⟩) hl2).trans a5,Nat.le_trans a6 hb.size⟩
theorem Afk {tb i:Nat} {c:Value} (hF:Jd (v9 v w).ρ wB wW) (ht:w.heap.size <= tb) (hl:tb < wB.heap.size) (hc:wB.cell? ⟨tb,i,none⟩ = some c):wW.cell? ⟨tb,i,none⟩ = some c:=by
 have hh:=hF tb hl (Ny (Tt ht));exact (World.cell?_of_block (w:=wB) hh).trans hc
theorem Aa9 {q:Nat} {e:TypeId} {cs:List Value} (hM:MS base w0 fx s bx v w) (hq:w.heap.size <= q) (hr:Row wB q e cs) (hm:Mod w wB bx) (hF:Jd (v9 v w).ρ wB wW) (hs:wB.heap.size <= wW.heap.size):Row wW q e cs/\Jd v.ρ w wW/\w.heap.size <= wW.heap.size:=
 ⟨(hF q hr.lt (Ny (Tt hq))).trans hr,fun k hk h9=>(hF k (Nat.lt_of_lt_of_le hk hm.size) (by rw [Js k hk];exact h9)).trans (Jd.Eu hm hM.rb k hk h9),Nat.le_trans hm.size hs⟩
end
theorem Afl (n:Nat) (c:Int):Gp (List.replicate n c) = Dv n fun _=>c:=by
 unfold Gp Dv;rw [List.map_replicate,List.map_const',List.length_range]
theorem An5 {w:World} {b n:Nat} {c:Int} (hR:Row w b 5 (Dv n fun _=>c)) (hn:n <= maxLen):Reads w 1 (.slice (some ⟨b,0,none⟩) n n) n (Gp (List.replicate n c)):=by
 rw [Afl];have hl:(Dv n fun _=>c).length = n:=by simp [Dv]
 have h1:w.ownsRow 0 5 1 (.slice (some ⟨b,0,none⟩) n n) n (Dv n fun _=>c):=by
  refine ⟨by rw [hl,Nat.mul_one],Or.inr ⟨b,n,_,rfl,Nat.zero_le _,hR,Nat.le_refl _,hn,by simp [hl],?_⟩⟩;show List.take (n * 1) (Dv n fun _=>c) = _;rw [Nat.mul_one,List.take_of_length_le (by omega)]
 exact Gl h1 (fun u hu=>by rw [<- Afl] at hu;exact Ot _ u hu) (by decide)
end Go.Proofs.YtjacnhnaoenelaaGreat
