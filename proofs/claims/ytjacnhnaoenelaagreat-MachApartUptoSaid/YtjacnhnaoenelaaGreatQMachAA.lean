import Derived.Test.YtjacnhnaoenelaaGreatQJ3b
set_option maxRecDepth 100000
set_option maxHeartbeats 8000000
namespace Go.Proofs.YtjacnhnaoenelaaGreat
open Lib (hid)
open Go.Proofs.Tryz
open Go.RowKit
set_option linter.unusedVariables false
set_option linter.unusedSimpArgs false
theorem Ce (k t o x:Int) (w:World):Calls prog 72 #[.agg #[.int .i64 k,.int .i64 t,.int .i64 o,.int .i64 x]] w (Ol w (.bool (decide (2 <= k)))):=by
 go_enter func72,ntmps72;go_wp2;exact bodyPost_ret (v:=.bool (decide (2 <= k))) (by simp [results,results72,go_sem]) rfl ⟨rfl,(Below.refl _ _).alloc nl _⟩
theorem Tm (k t o x k2 t2 o2 x2:Int) (w:World):Calls prog 80 #[.agg #[.int .i64 k,.int .i64 t,.int .i64 o,.int .i64 x],.agg #[.int .i64 k2,.int .i64 t2,.int .i64 o2,.int .i64 x2]] w (Ol w (.bool (Ii ⟨k,t,o,x⟩ ⟨k2,t2,o2,x2⟩))):=by
 unfold Ii;simp only
 cases h1:(k == k2) with
 | false =>
   simp only [Bool.false_and];go_enter func80,ntmps80;go_wp2;exact bodyPost_ret (v:=.bool false) (by simp [results,results80,go_sem]) rfl ⟨rfl,((Below.refl _ _).alloc nl _).alloc (by simp) _⟩
 | true =>
   cases h2:decide (2 <= k) with
   | false =>
     simp only [Bool.false_and,Bool.true_and];go_enter func80,ntmps80;go_wp2;exact bodyPost_ret (v:=.bool false) (by simp [results,results80,go_sem]) rfl ⟨rfl,((Below.refl _ _).alloc nl _).alloc (by simp) _⟩
   | true =>
     simp only [Bool.true_and];go_enter func80,ntmps80;go_wp2;exact bodyPost_ret (v:=.bool (decide (k <= 4))) (by simp [results,results80,go_sem]) rfl ⟨rfl,((Below.refl _ _).alloc nl _).alloc (by simp) _⟩
theorem Akx (w:World) (a b:List Value) (e:TypeId):Row ((w.alloc (.cells a.toArray e)).alloc (.cells b.toArray e)) w.heap.size e a/\Row ((w.alloc (.cells a.toArray e)).alloc (.cells b.toArray e)) (w.heap.size + 1) e b/\Below w.heap.size w ((w.alloc (.cells a.toArray e)).alloc (.cells b.toArray e)):=
 ⟨(Row.made w a e).alloc _,As6 w _ b e,((Below.refl _ _).alloc nl _).alloc (by simp) _⟩
theorem ni (k t o x n:Int) (hx : -1048576 <= x/\x <= 1048576) (w:World) :
 Calls prog 98 #[.agg #[.int .i64 k,.int .i64 t,.int .i64 o,.int .i64 x],.int .i64 n] w (Ol w (.tuple #[(Qv ⟨k,t,o,x⟩ n).1.agg,.int .i64 (Qv ⟨k,t,o,x⟩ n).2])):=by
 have hB:=fun a b=>(Akx w a b 57).2.2;unfold Qv Val.agg;simp only
 by_cases hc:n < -2097152\/2097152 < n\/x + n < -1048576\/1048576 < x + n
 ·rw [if_pos hc];simp only
  by_cases h1:n < -2097152
  ·have q1:=decide_eq_true h1;clear hc hx;go_enter func98,ntmps98;go_wp2;exact bodyPost_ret (v:=.tuple #[.agg #[.int .i64 k,.int .i64 t,.int .i64 o,.int .i64 x],.int .i64 85]) (by simp [results,results98,go_sem]) rfl ⟨rfl,hB [.int .i64 k,.int .i64 t,.int .i64 o,.int .i64 x] [.int .i64 k,.int .i64 t,.int .i64 o,.int .i64 x]⟩
  ·have q1:=decide_eq_false h1
   by_cases h2:2097152 < n
   ·have q2:=decide_eq_true h2;clear hc hx;go_enter func98,ntmps98;go_wp2;exact bodyPost_ret (v:=.tuple #[.agg #[.int .i64 k,.int .i64 t,.int .i64 o,.int .i64 x],.int .i64 85]) (by simp [results,results98,go_sem]) rfl ⟨rfl,hB [.int .i64 k,.int .i64 t,.int .i64 o,.int .i64 x] [.int .i64 k,.int .i64 t,.int .i64 o,.int .i64 x]⟩
   ·have q2:=decide_eq_false h2;have hw:wrap64 (x + n) = x + n:=by unfold wrap64;omega
    by_cases h3:x + n < -1048576
    ·have q3:=decide_eq_true h3;clear hc hx;go_enter func98,ntmps98;go_wp2;exact bodyPost_ret (v:=.tuple #[.agg #[.int .i64 k,.int .i64 t,.int .i64 o,.int .i64 x],.int .i64 85]) (by simp [results,results98,go_sem]) rfl ⟨rfl,hB [.int .i64 k,.int .i64 t,.int .i64 o,.int .i64 x] [.int .i64 k,.int .i64 t,.int .i64 o,.int .i64 x]⟩
    ·have q3:=decide_eq_false h3;have q4:decide (1048576 < x + n) = true:=by simp;omega
     clear hc hx;go_enter func98,ntmps98;go_wp2;exact bodyPost_ret (v:=.tuple #[.agg #[.int .i64 k,.int .i64 t,.int .i64 o,.int .i64 x],.int .i64 85]) (by simp [results,results98,go_sem]) rfl ⟨rfl,hB [.int .i64 k,.int .i64 t,.int .i64 o,.int .i64 x] [.int .i64 k,.int .i64 t,.int .i64 o,.int .i64 x]⟩
 ·rw [if_neg hc];simp only;have q1:decide (n < -2097152) = false:=by simp;omega
  have q2:decide (2097152 < n) = false:=by simp;omega
  have q3:decide (x + n < -1048576) = false:=by simp;omega
  have q4:decide (1048576 < x + n) = false:=by simp;omega
  have hw:wrap64 (x + n) = x + n:=by unfold wrap64;omega
  clear hc hx;go_enter func98,ntmps98;go_wp2;exact bodyPost_ret (v:=.tuple #[.agg #[.int .i64 k,.int .i64 t,.int .i64 o,.int .i64 (x + n)],.int .i64 0]) (by simp [results,results98,go_sem]) rfl ⟨rfl,hB [.int .i64 k,.int .i64 t,.int .i64 o,.int .i64 (x + n)] [.int .i64 k,.int .i64 t,.int .i64 o,.int .i64 (x + n)]⟩
structure F3 (w:World) (a b r:List Value) (w1:World):Prop where
 ra:Row w1 w.heap.size 57 a
 rb:Row w1 (w.heap.size + 1) 57 b
 rr:Row w1 (w.heap.size + 2) 57 r
 bel:Below w.heap.size w w1
theorem F3.made (w:World) (a b r:List Value):F3 w a b r (((w.alloc (.cells a.toArray 57)).alloc (.cells b.toArray 57)).alloc (.cells r.toArray 57)):=by
 obtain ⟨h1,h2,h3⟩:=Akx w a b 57;refine ⟨h1.alloc _,h2.alloc _,?_,h3.alloc (by simp;omega) _⟩;have h:=Row.made ((w.alloc (.cells a.toArray 57)).alloc (.cells b.toArray 57)) r 57;rw [show ((w.alloc (.cells a.toArray 57)).alloc (.cells b.toArray 57)).heap.size = w.heap.size + 2 by simp] at h;exact h
theorem F3.next {w w1 w2:World} {a b r:List Value} (h:F3 w a b r w1) (hb:Below w1.heap.size w1 w2):F3 w a b r w2:=
 ⟨h.ra.below hb h.ra.lt,h.rb.below hb h.rb.lt,h.rr.below hb h.rr.lt,h.bel.trans (hb.mono h.bel.size)⟩
theorem F3.Hw {w w1:World} {a b:List Value} {y0 y1 y2 y3:Value} (h:F3 w a b [y0,y1,y2,y3] w1) (x0 x1 x2 x3:Value) :
 F3 w a b [x0,x1,x2,x3] ((((w1.setCell ⟨w.heap.size + 2,0,none⟩ x0).setCell ⟨w.heap.size + 2,1,none⟩ x1).setCell ⟨w.heap.size + 2,2,none⟩ x2).setCell ⟨w.heap.size + 2,3,none⟩ x3):=
 ⟨h.ra.Nq (by omega) x0 x1 x2 x3,h.rb.Nq (by omega) x0 x1 x2 x3,h.rr.Wi x0 x1 x2 x3,by
  have:=Wj (b:=w.heap.size + 2) h.bel (by omega) 0 x0 x1 x2 x3;simpa using this⟩
theorem Aqe (op k t o x k2 t2 o2 x2:Int) (h1:(op == 1) = true) (h2:decide (2 <= k) = true) (h3:(k2 == 1) = true) (V:Val) (g:Int) (hmv:∀ w',Calls prog 98 #[.agg #[.int .i64 k,.int .i64 t,.int .i64 o,.int .i64 x],.int .i64 x2] w' (Ol w' (.tuple #[.agg #[.int .i64 V.k,.int .i64 V.t,.int .i64 V.o,.int .i64 V.x],.int .i64 g]))) (w:World) :
 Calls prog 69 #[.int .i64 op,.agg #[.int .i64 k,.int .i64 t,.int .i64 o,.int .i64 x],.agg #[.int .i64 k2,.int .i64 t2,.int .i64 o2,.int .i64 x2]] w (Ol w (.tuple #[.agg #[.int .i64 V.k,.int .i64 V.t,.int .i64 V.o,.int .i64 V.x],.int .i64 g])):=by
 have hF:=F3.made w [.int .i64 k,.int .i64 t,.int .i64 o,.int .i64 x] [.int .i64 k2,.int .i64 t2,.int .i64 o2,.int .i64 x2] [.int .i64 0,.int .i64 0,.int .i64 0,.int .i64 0];have hB3:=fun a b r=>(F3.made w a b r).bel;have HMV:=hid hmv;clear hmv;go_enter func69,ntmps69
 go_wp2_with (first
  | ((first | (go_at_call 72;refine (Ce _ _ _ _ _).mono ?_) | (go_at_call 67;refine (Af _ _ _ _ _).mono ?_) | (go_at_call 98;refine (HMV.out _).mono ?_) | (go_at_call 80;refine (Jc.out _).mono ?_) | (go_at_call 35;refine (Gh _ _).mono ?_));rintro e w' ⟨rfl,hb⟩;have hF:=hF.next hb;obtain ⟨⟨_,_,_,_⟩,_⟩:=hF.ra.four;obtain ⟨⟨_,_,_,_⟩,_⟩:=hF.rb.four;obtain ⟨⟨_,_,_,_⟩,_,_,_,_⟩:=hF.rr.four))
 have hF2:=hF.Hw (.int .i64 V.k) (.int .i64 V.t) (.int .i64 V.o) (.int .i64 V.x);obtain ⟨⟨d0,d1,d2,d3⟩,_⟩:=hF2.rr.four;generalize World.setCell _ _ _ = wF at hF2 d0 d1 d2 d3 ⊢;exact bodyPost_ret (v:=.tuple #[.agg #[.int .i64 V.k,.int .i64 V.t,.int .i64 V.o,.int .i64 V.x],.int .i64 g]) (by simp [results,results69,go_sem,d0,d1,d2,d3]) rfl ⟨rfl,hF2.bel⟩
theorem Aqf (op k t o x k2 t2 o2 x2:Int) (h1:(op == 1) = true) (h2:decide (2 <= k) = false) (h3:(k == 1) = true) (h4:decide (2 <= k2) = true) (V:Val) (g:Int) (hmv:∀ w',Calls prog 98 #[.agg #[.int .i64 k2,.int .i64 t2,.int .i64 o2,.int .i64 x2],.int .i64 x] w' (Ol w' (.tuple #[.agg #[.int .i64 V.k,.int .i64 V.t,.int .i64 V.o,.int .i64 V.x],.int .i64 g]))) (w:World) :
 Calls prog 69 #[.int .i64 op,.agg #[.int .i64 k,.int .i64 t,.int .i64 o,.int .i64 x],.agg #[.int .i64 k2,.int .i64 t2,.int .i64 o2,.int .i64 x2]] w (Ol w (.tuple #[.agg #[.int .i64 V.k,.int .i64 V.t,.int .i64 V.o,.int .i64 V.x],.int .i64 g])):=by
 have hF:=F3.made w [.int .i64 k,.int .i64 t,.int .i64 o,.int .i64 x] [.int .i64 k2,.int .i64 t2,.int .i64 o2,.int .i64 x2] [.int .i64 0,.int .i64 0,.int .i64 0,.int .i64 0];have hB3:=fun a b r=>(F3.made w a b r).bel;have HMV:=hid hmv;clear hmv;go_enter func69,ntmps69
 go_wp2_with (first
  | ((first | (go_at_call 72;refine (Ce _ _ _ _ _).mono ?_) | (go_at_call 67;refine (Af _ _ _ _ _).mono ?_) | (go_at_call 98;refine (HMV.out _).mono ?_) | (go_at_call 80;refine (Jc.out _).mono ?_) | (go_at_call 35;refine (Gh _ _).mono ?_));rintro e w' ⟨rfl,hb⟩;have hF:=hF.next hb;obtain ⟨⟨_,_,_,_⟩,_⟩:=hF.ra.four;obtain ⟨⟨_,_,_,_⟩,_⟩:=hF.rb.four;obtain ⟨⟨_,_,_,_⟩,_,_,_,_⟩:=hF.rr.four))
 have hF2:=hF.Hw (.int .i64 V.k) (.int .i64 V.t) (.int .i64 V.o) (.int .i64 V.x);obtain ⟨⟨d0,d1,d2,d3⟩,_⟩:=hF2.rr.four;generalize World.setCell _ _ _ = wF at hF2 d0 d1 d2 d3 ⊢;exact bodyPost_ret (v:=.tuple #[.agg #[.int .i64 V.k,.int .i64 V.t,.int .i64 V.o,.int .i64 V.x],.int .i64 g]) (by simp [results,results69,go_sem,d0,d1,d2,d3]) rfl ⟨rfl,hF2.bel⟩
theorem Aqg (op k t o x k2 t2 o2 x2:Int) (h1:(op == 1) = true) (h0:(op == 2) = false) (hn:(decide (2 <= k) && (k2 == 1)) = false) (hm:((k == 1) && decide (2 <= k2)) = false) (w:World) :
 Calls prog 69 #[.int .i64 op,.agg #[.int .i64 k,.int .i64 t,.int .i64 o,.int .i64 x],.agg #[.int .i64 k2,.int .i64 t2,.int .i64 o2,.int .i64 x2]] w (Ol w (.tuple #[.agg #[.int .i64 k,.int .i64 t,.int .i64 o,.int .i64 x],.int .i64 80])):=by
 have hF:=F3.made w [.int .i64 k,.int .i64 t,.int .i64 o,.int .i64 x] [.int .i64 k2,.int .i64 t2,.int .i64 o2,.int .i64 x2] [.int .i64 0,.int .i64 0,.int .i64 0,.int .i64 0];have hB3:=fun a b r=>(F3.made w a b r).bel
 cases h2:decide (2 <= k) with
 | true =>
   have h3:(k2 == 1) = false:=by rw [h2] at hn;simpa using hn
   have h4:(k == 1) = false:=by simp at h2 ⊢;omega
   clear hn hm;go_enter func69,ntmps69
   go_wp2_with (first
    | ((first | (go_at_call 72;refine (Ce _ _ _ _ _).mono ?_) | (go_at_call 67;refine (Af _ _ _ _ _).mono ?_) | (go_at_call 98;refine (HMV.out _).mono ?_) | (go_at_call 80;refine (Jc.out _).mono ?_) | (go_at_call 35;refine (Gh _ _).mono ?_));rintro e w' ⟨rfl,hb⟩;have hF:=hF.next hb;obtain ⟨⟨_,_,_,_⟩,_⟩:=hF.ra.four;obtain ⟨⟨_,_,_,_⟩,_⟩:=hF.rb.four;obtain ⟨⟨_,_,_,_⟩,_,_,_,_⟩:=hF.rr.four))
   have hF2:=hF.Hw (.int .i64 k) (.int .i64 t) (.int .i64 o) (.int .i64 x);obtain ⟨⟨d0,d1,d2,d3⟩,_⟩:=hF2.rr.four;generalize World.setCell _ _ _ = wF at hF2 d0 d1 d2 d3 ⊢;exact bodyPost_ret (v:=.tuple #[.agg #[.int .i64 k,.int .i64 t,.int .i64 o,.int .i64 x],.int .i64 80]) (by simp [results,results69,go_sem,d0,d1,d2,d3]) rfl ⟨rfl,hF2.bel⟩
 | false =>
   cases h3:(k == 1) with
   | true =>
     have h4:decide (2 <= k2) = false:=by rw [h3] at hm;simpa using hm
     clear hn hm;go_enter func69,ntmps69
     go_wp2_with (first
      | ((first | (go_at_call 72;refine (Ce _ _ _ _ _).mono ?_) | (go_at_call 67;refine (Af _ _ _ _ _).mono ?_) | (go_at_call 98;refine (HMV.out _).mono ?_) | (go_at_call 80;refine (Jc.out _).mono ?_) | (go_at_call 35;refine (Gh _ _).mono ?_));rintro e w' ⟨rfl,hb⟩;have hF:=hF.next hb;obtain ⟨⟨_,_,_,_⟩,_⟩:=hF.ra.four;obtain ⟨⟨_,_,_,_⟩,_⟩:=hF.rb.four;obtain ⟨⟨_,_,_,_⟩,_,_,_,_⟩:=hF.rr.four))
     have hF2:=hF.Hw (.int .i64 k) (.int .i64 t) (.int .i64 o) (.int .i64 x);obtain ⟨⟨d0,d1,d2,d3⟩,_⟩:=hF2.rr.four;generalize World.setCell _ _ _ = wF at hF2 d0 d1 d2 d3 ⊢;exact bodyPost_ret (v:=.tuple #[.agg #[.int .i64 k,.int .i64 t,.int .i64 o,.int .i64 x],.int .i64 80]) (by simp [results,results69,go_sem,d0,d1,d2,d3]) rfl ⟨rfl,hF2.bel⟩
   | false =>
     clear hn hm;go_enter func69,ntmps69
     go_wp2_with (first
      | ((first | (go_at_call 72;refine (Ce _ _ _ _ _).mono ?_) | (go_at_call 67;refine (Af _ _ _ _ _).mono ?_) | (go_at_call 98;refine (HMV.out _).mono ?_) | (go_at_call 80;refine (Jc.out _).mono ?_) | (go_at_call 35;refine (Gh _ _).mono ?_));rintro e w' ⟨rfl,hb⟩;have hF:=hF.next hb;obtain ⟨⟨_,_,_,_⟩,_⟩:=hF.ra.four;obtain ⟨⟨_,_,_,_⟩,_⟩:=hF.rb.four;obtain ⟨⟨_,_,_,_⟩,_,_,_,_⟩:=hF.rr.four))
     have hF2:=hF.Hw (.int .i64 k) (.int .i64 t) (.int .i64 o) (.int .i64 x);obtain ⟨⟨d0,d1,d2,d3⟩,_⟩:=hF2.rr.four;generalize World.setCell _ _ _ = wF at hF2 d0 d1 d2 d3 ⊢;exact bodyPost_ret (v:=.tuple #[.agg #[.int .i64 k,.int .i64 t,.int .i64 o,.int .i64 x],.int .i64 80]) (by simp [results,results69,go_sem,d0,d1,d2,d3]) rfl ⟨rfl,hF2.bel⟩
theorem Aqh (op k t o x k2 t2 o2 x2:Int) (h1:(op == 1) = false) (h0:(op == 2) = true) (h2:decide (2 <= k) = true) (h3:(k2 == 1) = true) (h4:decide (x2 < -2097152) = true) (w:World) :
 Calls prog 69 #[.int .i64 op,.agg #[.int .i64 k,.int .i64 t,.int .i64 o,.int .i64 x],.agg #[.int .i64 k2,.int .i64 t2,.int .i64 o2,.int .i64 x2]] w (Ol w (.tuple #[.agg #[.int .i64 k,.int .i64 t,.int .i64 o,.int .i64 x],.int .i64 85])):=by
 have hF:=F3.made w [.int .i64 k,.int .i64 t,.int .i64 o,.int .i64 x] [.int .i64 k2,.int .i64 t2,.int .i64 o2,.int .i64 x2] [.int .i64 0,.int .i64 0,.int .i64 0,.int .i64 0];have hB3:=fun a b r=>(F3.made w a b r).bel;go_enter func69,ntmps69
 go_wp2_with (first
  | ((first | (go_at_call 72;refine (Ce _ _ _ _ _).mono ?_) | (go_at_call 67;refine (Af _ _ _ _ _).mono ?_) | (go_at_call 98;refine (HMV.out _).mono ?_) | (go_at_call 80;refine (Jc.out _).mono ?_) | (go_at_call 35;refine (Gh _ _).mono ?_));rintro e w' ⟨rfl,hb⟩;have hF:=hF.next hb;obtain ⟨⟨_,_,_,_⟩,_⟩:=hF.ra.four;obtain ⟨⟨_,_,_,_⟩,_⟩:=hF.rb.four;obtain ⟨⟨_,_,_,_⟩,_,_,_,_⟩:=hF.rr.four))
 have hF2:=hF.Hw (.int .i64 k) (.int .i64 t) (.int .i64 o) (.int .i64 x);obtain ⟨⟨d0,d1,d2,d3⟩,_⟩:=hF2.rr.four;generalize World.setCell _ _ _ = wF at hF2 d0 d1 d2 d3 ⊢;exact bodyPost_ret (v:=.tuple #[.agg #[.int .i64 k,.int .i64 t,.int .i64 o,.int .i64 x],.int .i64 85]) (by simp [results,results69,go_sem,d0,d1,d2,d3]) rfl ⟨rfl,hF2.bel⟩
theorem Aqi (op k t o x k2 t2 o2 x2:Int) (h1:(op == 1) = false) (h0:(op == 2) = true) (h2:decide (2 <= k) = true) (h3:(k2 == 1) = true) (h4:decide (x2 < -2097152) = false) (y:Int) (hy:wrap64 (-x2) = y) (V:Val) (g:Int) (hmv:∀ w',Calls prog 98 #[.agg #[.int .i64 k,.int .i64 t,.int .i64 o,.int .i64 x],.int .i64 y] w' (Ol w' (.tuple #[.agg #[.int .i64 V.k,.int .i64 V.t,.int .i64 V.o,.int .i64 V.x],.int .i64 g]))) (w:World) :
 Calls prog 69 #[.int .i64 op,.agg #[.int .i64 k,.int .i64 t,.int .i64 o,.int .i64 x],.agg #[.int .i64 k2,.int .i64 t2,.int .i64 o2,.int .i64 x2]] w (Ol w (.tuple #[.agg #[.int .i64 V.k,.int .i64 V.t,.int .i64 V.o,.int .i64 V.x],.int .i64 g])):=by
 have hF:=F3.made w [.int .i64 k,.int .i64 t,.int .i64 o,.int .i64 x] [.int .i64 k2,.int .i64 t2,.int .i64 o2,.int .i64 x2] [.int .i64 0,.int .i64 0,.int .i64 0,.int .i64 0];have hB3:=fun a b r=>(F3.made w a b r).bel;have HMV:=hid hmv;clear hmv;go_enter func69,ntmps69
 go_wp2_with (first
  | ((first | (go_at_call 72;refine (Ce _ _ _ _ _).mono ?_) | (go_at_call 67;refine (Af _ _ _ _ _).mono ?_) | (go_at_call 98;refine (HMV.out _).mono ?_) | (go_at_call 80;refine (Jc.out _).mono ?_) | (go_at_call 35;refine (Gh _ _).mono ?_));rintro e w' ⟨rfl,hb⟩;have hF:=hF.next hb;obtain ⟨⟨_,_,_,_⟩,_⟩:=hF.ra.four;obtain ⟨⟨_,_,_,_⟩,_⟩:=hF.rb.four;obtain ⟨⟨_,_,_,_⟩,_,_,_,_⟩:=hF.rr.four))
 have hF2:=hF.Hw (.int .i64 V.k) (.int .i64 V.t) (.int .i64 V.o) (.int .i64 V.x);obtain ⟨⟨d0,d1,d2,d3⟩,_⟩:=hF2.rr.four;generalize World.setCell _ _ _ = wF at hF2 d0 d1 d2 d3 ⊢;exact bodyPost_ret (v:=.tuple #[.agg #[.int .i64 V.k,.int .i64 V.t,.int .i64 V.o,.int .i64 V.x],.int .i64 g]) (by simp [results,results69,go_sem,d0,d1,d2,d3]) rfl ⟨rfl,hF2.bel⟩
theorem Aqj (op k t o x k2 t2 o2 x2:Int) (h1:(op == 1) = false) (h0:(op == 2) = true) (hn:(decide (2 <= k) && (k2 == 1)) = false) (y:Int) (hy:wrap64 (x - x2) = y) (hal:∀ w',Calls prog 80 #[.agg #[.int .i64 k,.int .i64 t,.int .i64 o,.int .i64 x],.agg #[.int .i64 k2,.int .i64 t2,.int .i64 o2,.int .i64 x2]] w' (Ol w' (.bool true))) (w:World) :
 Calls prog 69 #[.int .i64 op,.agg #[.int .i64 k,.int .i64 t,.int .i64 o,.int .i64 x],.agg #[.int .i64 k2,.int .i64 t2,.int .i64 o2,.int .i64 x2]] w (Ol w (.tuple #[.agg #[.int .i64 1,.int .i64 0,.int .i64 0,.int .i64 y],.int .i64 0])):=by
 have hF:=F3.made w [.int .i64 k,.int .i64 t,.int .i64 o,.int .i64 x] [.int .i64 k2,.int .i64 t2,.int .i64 o2,.int .i64 x2] [.int .i64 0,.int .i64 0,.int .i64 0,.int .i64 0];have hB3:=fun a b r=>(F3.made w a b r).bel;have Jc:=hid hal;clear hal
 cases h2:decide (2 <= k) with
 | true =>
   have h3:(k2 == 1) = false:=by rw [h2] at hn;simpa using hn
   clear hn;go_enter func69,ntmps69
   go_wp2_with (first
    | ((first | (go_at_call 72;refine (Ce _ _ _ _ _).mono ?_) | (go_at_call 67;refine (Af _ _ _ _ _).mono ?_) | (go_at_call 98;refine (HMV.out _).mono ?_) | (go_at_call 80;refine (Jc.out _).mono ?_) | (go_at_call 35;refine (Gh _ _).mono ?_));rintro e w' ⟨rfl,hb⟩;have hF:=hF.next hb;obtain ⟨⟨_,_,_,_⟩,_⟩:=hF.ra.four;obtain ⟨⟨_,_,_,_⟩,_⟩:=hF.rb.four;obtain ⟨⟨_,_,_,_⟩,_,_,_,_⟩:=hF.rr.four))
   have hF2:=hF.Hw (.int .i64 1) (.int .i64 0) (.int .i64 0) (.int .i64 y);obtain ⟨⟨d0,d1,d2,d3⟩,_⟩:=hF2.rr.four;generalize World.setCell _ _ _ = wF at hF2 d0 d1 d2 d3 ⊢;exact bodyPost_ret (v:=.tuple #[.agg #[.int .i64 1,.int .i64 0,.int .i64 0,.int .i64 y],.int .i64 0]) (by simp [results,results69,go_sem,d0,d1,d2,d3]) rfl ⟨rfl,hF2.bel⟩
 | false =>
   clear hn;go_enter func69,ntmps69
   go_wp2_with (first
    | ((first | (go_at_call 72;refine (Ce _ _ _ _ _).mono ?_) | (go_at_call 67;refine (Af _ _ _ _ _).mono ?_) | (go_at_call 98;refine (HMV.out _).mono ?_) | (go_at_call 80;refine (Jc.out _).mono ?_) | (go_at_call 35;refine (Gh _ _).mono ?_));rintro e w' ⟨rfl,hb⟩;have hF:=hF.next hb;obtain ⟨⟨_,_,_,_⟩,_⟩:=hF.ra.four;obtain ⟨⟨_,_,_,_⟩,_⟩:=hF.rb.four;obtain ⟨⟨_,_,_,_⟩,_,_,_,_⟩:=hF.rr.four))
   have hF2:=hF.Hw (.int .i64 1) (.int .i64 0) (.int .i64 0) (.int .i64 y);obtain ⟨⟨d0,d1,d2,d3⟩,_⟩:=hF2.rr.four;generalize World.setCell _ _ _ = wF at hF2 d0 d1 d2 d3 ⊢;exact bodyPost_ret (v:=.tuple #[.agg #[.int .i64 1,.int .i64 0,.int .i64 0,.int .i64 y],.int .i64 0]) (by simp [results,results69,go_sem,d0,d1,d2,d3]) rfl ⟨rfl,hF2.bel⟩
theorem Aqk (op k t o x k2 t2 o2 x2:Int) (h1:(op == 1) = false) (h0:(op == 2) = true) (hn:(decide (2 <= k) && (k2 == 1)) = false) (hal:∀ w',Calls prog 80 #[.agg #[.int .i64 k,.int .i64 t,.int .i64 o,.int .i64 x],.agg #[.int .i64 k2,.int .i64 t2,.int .i64 o2,.int .i64 x2]] w' (Ol w' (.bool false))) (w:World) :
 Calls prog 69 #[.int .i64 op,.agg #[.int .i64 k,.int .i64 t,.int .i64 o,.int .i64 x],.agg #[.int .i64 k2,.int .i64 t2,.int .i64 o2,.int .i64 x2]] w (Ol w (.tuple #[.agg #[.int .i64 k,.int .i64 t,.int .i64 o,.int .i64 x],.int .i64 80])):=by
 have hF:=F3.made w [.int .i64 k,.int .i64 t,.int .i64 o,.int .i64 x] [.int .i64 k2,.int .i64 t2,.int .i64 o2,.int .i64 x2] [.int .i64 0,.int .i64 0,.int .i64 0,.int .i64 0];have hB3:=fun a b r=>(F3.made w a b r).bel;have Jc:=hid hal;clear hal
 cases h2:decide (2 <= k) with
 | true =>
   have h3:(k2 == 1) = false:=by rw [h2] at hn;simpa using hn
   clear hn;go_enter func69,ntmps69
   go_wp2_with (first
    | ((first | (go_at_call 72;refine (Ce _ _ _ _ _).mono ?_) | (go_at_call 67;refine (Af _ _ _ _ _).mono ?_) | (go_at_call 98;refine (HMV.out _).mono ?_) | (go_at_call 80;refine (Jc.out _).mono ?_) | (go_at_call 35;refine (Gh _ _).mono ?_));rintro e w' ⟨rfl,hb⟩;have hF:=hF.next hb;obtain ⟨⟨_,_,_,_⟩,_⟩:=hF.ra.four;obtain ⟨⟨_,_,_,_⟩,_⟩:=hF.rb.four;obtain ⟨⟨_,_,_,_⟩,_,_,_,_⟩:=hF.rr.four))
   have hF2:=hF.Hw (.int .i64 k) (.int .i64 t) (.int .i64 o) (.int .i64 x);obtain ⟨⟨d0,d1,d2,d3⟩,_⟩:=hF2.rr.four;generalize World.setCell _ _ _ = wF at hF2 d0 d1 d2 d3 ⊢;exact bodyPost_ret (v:=.tuple #[.agg #[.int .i64 k,.int .i64 t,.int .i64 o,.int .i64 x],.int .i64 80]) (by simp [results,results69,go_sem,d0,d1,d2,d3]) rfl ⟨rfl,hF2.bel⟩
 | false =>
   clear hn;go_enter func69,ntmps69
   go_wp2_with (first
    | ((first | (go_at_call 72;refine (Ce _ _ _ _ _).mono ?_) | (go_at_call 67;refine (Af _ _ _ _ _).mono ?_) | (go_at_call 98;refine (HMV.out _).mono ?_) | (go_at_call 80;refine (Jc.out _).mono ?_) | (go_at_call 35;refine (Gh _ _).mono ?_));rintro e w' ⟨rfl,hb⟩;have hF:=hF.next hb;obtain ⟨⟨_,_,_,_⟩,_⟩:=hF.ra.four;obtain ⟨⟨_,_,_,_⟩,_⟩:=hF.rb.four;obtain ⟨⟨_,_,_,_⟩,_,_,_,_⟩:=hF.rr.four))
   have hF2:=hF.Hw (.int .i64 k) (.int .i64 t) (.int .i64 o) (.int .i64 x);obtain ⟨⟨d0,d1,d2,d3⟩,_⟩:=hF2.rr.four;generalize World.setCell _ _ _ = wF at hF2 d0 d1 d2 d3 ⊢;exact bodyPost_ret (v:=.tuple #[.agg #[.int .i64 k,.int .i64 t,.int .i64 o,.int .i64 x],.int .i64 80]) (by simp [results,results69,go_sem,d0,d1,d2,d3]) rfl ⟨rfl,hF2.bel⟩
theorem Aql (op k t o x k2 t2 o2 x2:Int) (h1:(op == 1) = false) (h0:(op == 2) = false) (w:World) :
 Calls prog 69 #[.int .i64 op,.agg #[.int .i64 k,.int .i64 t,.int .i64 o,.int .i64 x],.agg #[.int .i64 k2,.int .i64 t2,.int .i64 o2,.int .i64 x2]] w (Ol w (.tuple #[.agg #[.int .i64 k,.int .i64 t,.int .i64 o,.int .i64 x],.int .i64 80])):=by
 have hF:=F3.made w [.int .i64 k,.int .i64 t,.int .i64 o,.int .i64 x] [.int .i64 k2,.int .i64 t2,.int .i64 o2,.int .i64 x2] [.int .i64 0,.int .i64 0,.int .i64 0,.int .i64 0];have hB3:=fun a b r=>(F3.made w a b r).bel;go_enter func69,ntmps69;go_wp2_with fail;exact bodyPost_ret (v:=.tuple #[.agg #[.int .i64 k,.int .i64 t,.int .i64 o,.int .i64 x],.int .i64 80]) (by simp [results,results69,go_sem]) rfl ⟨rfl,hB3 [.int .i64 k,.int .i64 t,.int .i64 o,.int .i64 x] [.int .i64 k2,.int .i64 t2,.int .i64 o2,.int .i64 x2] [.int .i64 k,.int .i64 t,.int .i64 o,.int .i64 x]⟩
theorem At6 (op:Int) (a b:Val) (hx:2 <= a.k->-1048576 <= a.x/\a.x <= 1048576) (hx2:2 <= b.k->-1048576 <= b.x/\b.x <= 1048576) (hi:Ey a.x/\Ey b.x) (w:World) :
 Calls prog 69 #[.int .i64 op,a.agg,b.agg] w (Ol w (.tuple #[.agg #[.int .i64 (sumF op a b).1.k,.int .i64 (sumF op a b).1.t,.int .i64 (sumF op a b).1.o,.int .i64 (sumF op a b).1.x],.int .i64 (sumF op a b).2])):=by
 obtain ⟨k,t,o,x⟩:=a;obtain ⟨k2,t2,o2,x2⟩:=b;simp only [Ey] at hx hx2 hi;unfold Val.agg;simp only;unfold sumF;simp only
 by_cases h1:op = 1
 ·have q1:(op == 1) = true:=by simpa using h1
  have q0:(op == 2) = false:=by simp;omega
  by_cases h2:2 <= k/\k2 = 1
  ·rw [if_pos ⟨h1,h2.1,h2.2⟩];exact Aqe op k t o x k2 t2 o2 x2 q1 (decide_eq_true h2.1) (by simpa using h2.2) _ _ (fun w'=>ni k t o x x2 (hx h2.1) w') w
  ·rw [if_neg (fun h=>h2 ⟨h.2.1,h.2.2⟩)]
   by_cases h3:k = 1/\2 <= k2
   ·rw [if_pos ⟨h1,h3.1,h3.2⟩];exact Aqf op k t o x k2 t2 o2 x2 q1 (by simp;omega) (by simpa using h3.1) (decide_eq_true h3.2) _ _ (fun w'=>ni k2 t2 o2 x2 x (hx2 h3.2) w') w
   ·rw [if_neg (fun h=>h3 ⟨h.2.1,h.2.2⟩),if_neg (by omega),if_neg (by omega)];exact Aqg op k t o x k2 t2 o2 x2 q1 q0 (by simp;omega) (by simp;omega) w
 ·have q1:(op == 1) = false:=by simpa using h1
  rw [if_neg (fun h=>h1 h.1),if_neg (fun h=>h1 h.1)]
  by_cases h0:op = 2
  ·have q0:(op == 2) = true:=by simpa using h0
   by_cases h2:2 <= k/\k2 = 1
   ·rw [if_pos ⟨h0,h2.1,h2.2⟩]
    by_cases h4:x2 < -2097152
    ·rw [if_pos h4];exact Aqh op k t o x k2 t2 o2 x2 q1 q0 (decide_eq_true h2.1) (by simpa using h2.2) (decide_eq_true h4) w
    ·rw [if_neg h4];exact Aqi op k t o x k2 t2 o2 x2 q1 q0 (decide_eq_true h2.1) (by simpa using h2.2) (decide_eq_false h4) (-x2) (by unfold wrap64;omega) _ _ (fun w'=>ni k t o x (-x2) (hx h2.1) w') w
   ·rw [if_neg (fun h=>h2 ⟨h.2.1,h.2.2⟩)];have hn:(decide (2 <= k) && (k2 == 1)) = false:=by simp;omega
    cases hal:Ii ⟨k,t,o,x⟩ ⟨k2,t2,o2,x2⟩ with
    | true =>
      rw [if_pos ⟨h0,rfl⟩]
      have hk:2 <= k/\2 <= k2:=by
       unfold Ii at hal;simp at hal;omega
      have hx':=hx hk.1;have A19:=hx2 hk.2;exact Aqj op k t o x k2 t2 o2 x2 q1 q0 hn (x - x2) (by unfold wrap64;omega) (fun w'=>by have:=Tm k t o x k2 t2 o2 x2 w';rw [hal] at this;exact this) w
    | false =>
      rw [if_neg (fun h=>by cases h.2)];exact Aqk op k t o x k2 t2 o2 x2 q1 q0 hn (fun w'=>by have:=Tm k t o x k2 t2 o2 x2 w';rw [hal] at this;exact this) w
  ·have q0:(op == 2) = false:=by simpa using h0
   rw [if_neg (fun h=>h0 h.1),if_neg (fun h=>h0 h.1)];exact Aql op k t o x k2 t2 o2 x2 q1 q0 w
end Go.Proofs.YtjacnhnaoenelaaGreat
