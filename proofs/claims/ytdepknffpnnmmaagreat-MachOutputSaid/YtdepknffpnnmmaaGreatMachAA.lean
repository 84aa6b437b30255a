import Derived.Test.YtdepknffpnnmmaaGreatJ0a
import Derived.Test.YtdepknffpnnmmaaGreatJ3b
set_option maxRecDepth 100000
set_option maxHeartbeats 8000000
namespace Go.Proofs.YtdepknffpnnmmaaGreat
open Go.RowKit
set_option linter.unusedVariables false
set_option linter.unusedSimpArgs false
theorem pointer_of (k t o x:Int) (w:World):Calls Tryz.prog 87 #[.agg #[.int .i64 k,.int .i64 t,.int .i64 o,.int .i64 x]] w (Ret w (.bool (decide (2 <= k)))):=by
 go_enter Tryz.func87,Tryz.ntmps87
 go_wp2
 exact bodyPost_ret (v:=.bool (decide (2 <= k))) (by simp [results,Tryz.results87,go_sem]) rfl ⟨rfl,(Below.refl _ _).alloc (Nat.le_refl _) _⟩
theorem alike_of (k t o x k2 t2 o2 x2:Int) (w:World):Calls Tryz.prog 95 #[.agg #[.int .i64 k,.int .i64 t,.int .i64 o,.int .i64 x],.agg #[.int .i64 k2,.int .i64 t2,.int .i64 o2,.int .i64 x2]] w (Ret w (.bool (alikeF ⟨k,t,o,x⟩ ⟨k2,t2,o2,x2⟩))):=by
 unfold alikeF
 simp only
 cases h1:(k == k2) with
 | false =>
   simp only [Bool.false_and]
   go_enter Tryz.func95,Tryz.ntmps95
   go_wp2
   exact bodyPost_ret (v:=.bool false) (by simp [results,Tryz.results95,go_sem]) rfl ⟨rfl,((Below.refl _ _).alloc (Nat.le_refl _) _).alloc (by simp) _⟩
 | true =>
   cases h2:decide (2 <= k) with
   | false =>
     simp only [Bool.false_and,Bool.true_and]
     go_enter Tryz.func95,Tryz.ntmps95
     go_wp2
     exact bodyPost_ret (v:=.bool false) (by simp [results,Tryz.results95,go_sem]) rfl ⟨rfl,((Below.refl _ _).alloc (Nat.le_refl _) _).alloc (by simp) _⟩
   | true =>
     simp only [Bool.true_and]
     go_enter Tryz.func95,Tryz.ntmps95
     go_wp2
     exact bodyPost_ret (v:=.bool (decide (k <= 4))) (by simp [results,Tryz.results95,go_sem]) rfl ⟨rfl,((Below.refl _ _).alloc (Nat.le_refl _) _).alloc (by simp) _⟩
theorem two_box (w:World) (a b:List Value) (e:TypeId):Row ((w.alloc (.cells a.toArray e)).alloc (.cells b.toArray e)) w.heap.size e a/\Row ((w.alloc (.cells a.toArray e)).alloc (.cells b.toArray e)) (w.heap.size + 1) e b/\Below w.heap.size w ((w.alloc (.cells a.toArray e)).alloc (.cells b.toArray e)):=
 ⟨(Row.made w a e).alloc _,box2 w _ b e,((Below.refl _ _).alloc (Nat.le_refl _) _).alloc (by simp) _⟩
theorem moved_of (k t o x n:Int) (hx : -1048576 <= x/\x <= 1048576) (w:World) :
 Calls Tryz.prog 109 #[.agg #[.int .i64 k,.int .i64 t,.int .i64 o,.int .i64 x],.int .i64 n] w (Ret w (.tuple #[(movedF ⟨k,t,o,x⟩ n).1.agg,.int .i64 (movedF ⟨k,t,o,x⟩ n).2])):=by
 have hB:=fun a b=>(two_box w a b 55).2.2
 unfold movedF Val.agg
 simp only
 by_cases hc:n < -2097152\/2097152 < n\/x + n < -1048576\/1048576 < x + n
 ·rw [if_pos hc]
  simp only
  by_cases h1:n < -2097152
  ·have q1:=decide_eq_true h1
   clear hc hx
   go_enter Tryz.func109,Tryz.ntmps109
   go_wp2
   exact bodyPost_ret (v:=.tuple #[.agg #[.int .i64 k,.int .i64 t,.int .i64 o,.int .i64 x],.int .i64 85]) (by simp [results,Tryz.results109,go_sem]) rfl ⟨rfl,hB [.int .i64 k,.int .i64 t,.int .i64 o,.int .i64 x] [.int .i64 k,.int .i64 t,.int .i64 o,.int .i64 x]⟩
  ·have q1:=decide_eq_false h1
   by_cases h2:2097152 < n
   ·have q2:=decide_eq_true h2
    clear hc hx
    go_enter Tryz.func109,Tryz.ntmps109
    go_wp2
    exact bodyPost_ret (v:=.tuple #[.agg #[.int .i64 k,.int .i64 t,.int .i64 o,.int .i64 x],.int .i64 85]) (by simp [results,Tryz.results109,go_sem]) rfl ⟨rfl,hB [.int .i64 k,.int .i64 t,.int .i64 o,.int .i64 x] [.int .i64 k,.int .i64 t,.int .i64 o,.int .i64 x]⟩
   ·have q2:=decide_eq_false h2
    have hw:wrap64 (x + n) = x + n:=by unfold wrap64;omega
    by_cases h3:x + n < -1048576
    ·have q3:=decide_eq_true h3
     clear hc hx
     go_enter Tryz.func109,Tryz.ntmps109
     go_wp2
     exact bodyPost_ret (v:=.tuple #[.agg #[.int .i64 k,.int .i64 t,.int .i64 o,.int .i64 x],.int .i64 85]) (by simp [results,Tryz.results109,go_sem]) rfl ⟨rfl,hB [.int .i64 k,.int .i64 t,.int .i64 o,.int .i64 x] [.int .i64 k,.int .i64 t,.int .i64 o,.int .i64 x]⟩
    ·have q3:=decide_eq_false h3
     have q4:decide (1048576 < x + n) = true:=by simp;omega
     clear hc hx
     go_enter Tryz.func109,Tryz.ntmps109
     go_wp2
     exact bodyPost_ret (v:=.tuple #[.agg #[.int .i64 k,.int .i64 t,.int .i64 o,.int .i64 x],.int .i64 85]) (by simp [results,Tryz.results109,go_sem]) rfl ⟨rfl,hB [.int .i64 k,.int .i64 t,.int .i64 o,.int .i64 x] [.int .i64 k,.int .i64 t,.int .i64 o,.int .i64 x]⟩
 ·rw [if_neg hc]
  simp only
  have q1:decide (n < -2097152) = false:=by simp;omega
  have q2:decide (2097152 < n) = false:=by simp;omega
  have q3:decide (x + n < -1048576) = false:=by simp;omega
  have q4:decide (1048576 < x + n) = false:=by simp;omega
  have hw:wrap64 (x + n) = x + n:=by unfold wrap64;omega
  clear hc hx
  go_enter Tryz.func109,Tryz.ntmps109
  go_wp2
  exact bodyPost_ret (v:=.tuple #[.agg #[.int .i64 k,.int .i64 t,.int .i64 o,.int .i64 (x + n)],.int .i64 0]) (by simp [results,Tryz.results109,go_sem]) rfl ⟨rfl,hB [.int .i64 k,.int .i64 t,.int .i64 o,.int .i64 (x + n)] [.int .i64 k,.int .i64 t,.int .i64 o,.int .i64 (x + n)]⟩
structure F3 (w:World) (a b r:List Value) (w1:World):Prop where
 ra:Row w1 w.heap.size 55 a
 rb:Row w1 (w.heap.size + 1) 55 b
 rr:Row w1 (w.heap.size + 2) 55 r
 bel:Below w.heap.size w w1
theorem F3.made (w:World) (a b r:List Value):F3 w a b r (((w.alloc (.cells a.toArray 55)).alloc (.cells b.toArray 55)).alloc (.cells r.toArray 55)):=by
 obtain ⟨h1,h2,h3⟩:=two_box w a b 55
 refine ⟨h1.alloc _,h2.alloc _,?_,h3.alloc (by simp;omega) _⟩
 have h:=Row.made ((w.alloc (.cells a.toArray 55)).alloc (.cells b.toArray 55)) r 55
 rw [show ((w.alloc (.cells a.toArray 55)).alloc (.cells b.toArray 55)).heap.size = w.heap.size + 2 by simp] at h
 exact h
theorem F3.next {w w1 w2:World} {a b r:List Value} (h:F3 w a b r w1) (hb:Below w1.heap.size w1 w2):F3 w a b r w2:=
 ⟨h.ra.below hb h.ra.lt,h.rb.below hb h.rb.lt,h.rr.below hb h.rr.lt,h.bel.trans (hb.mono h.bel.size)⟩
theorem F3.setr {w w1:World} {a b:List Value} {y0 y1 y2 y3:Value} (h:F3 w a b [y0,y1,y2,y3] w1) (x0 x1 x2 x3:Value) :
 F3 w a b [x0,x1,x2,x3] ((((w1.setCell ⟨w.heap.size + 2,0,none⟩ x0).setCell ⟨w.heap.size + 2,1,none⟩ x1).setCell ⟨w.heap.size + 2,2,none⟩ x2).setCell ⟨w.heap.size + 2,3,none⟩ x3):=
 ⟨h.ra.put4o (by omega) x0 x1 x2 x3,h.rb.put4o (by omega) x0 x1 x2 x3,h.rr.put4 x0 x1 x2 x3,by
  have:=bel_put4 (b:=w.heap.size + 2) h.bel (by omega) 0 x0 x1 x2 x3
  simpa using this⟩
theorem sum_add1 (op k t o x k2 t2 o2 x2:Int) (h1:(op == 1) = true) (h2:decide (2 <= k) = true) (h3:(k2 == 1) = true) (V:Val) (g:Int) (hmv:∀ w',Calls Tryz.prog 109 #[.agg #[.int .i64 k,.int .i64 t,.int .i64 o,.int .i64 x],.int .i64 x2] w' (Ret w' (.tuple #[.agg #[.int .i64 V.k,.int .i64 V.t,.int .i64 V.o,.int .i64 V.x],.int .i64 g]))) (w:World) :
 Calls Tryz.prog 84 #[.int .i64 op,.agg #[.int .i64 k,.int .i64 t,.int .i64 o,.int .i64 x],.agg #[.int .i64 k2,.int .i64 t2,.int .i64 o2,.int .i64 x2]] w (Ret w (.tuple #[.agg #[.int .i64 V.k,.int .i64 V.t,.int .i64 V.o,.int .i64 V.x],.int .i64 g])):=by
 have hF:=F3.made w [.int .i64 k,.int .i64 t,.int .i64 o,.int .i64 x] [.int .i64 k2,.int .i64 t2,.int .i64 o2,.int .i64 x2] [.int .i64 0,.int .i64 0,.int .i64 0,.int .i64 0]
 have hB3:=fun a b r=>(F3.made w a b r).bel
 have HMV:=Lib.hid hmv
 clear hmv
 go_enter Tryz.func84,Tryz.ntmps84
 go_wp2_with (first
  | ((first | (go_at_call 87;refine (pointer_of _ _ _ _ _).mono ?_) | (go_at_call 82;refine (numeric_of _ _ _ _ _).mono ?_) | (go_at_call 109;refine (HMV.out _).mono ?_) | (go_at_call 95;refine (HAL.out _).mono ?_) | (go_at_call 50;refine (num_of _ _).mono ?_));rintro e w' ⟨rfl,hb⟩;have hF:=hF.next hb;obtain ⟨⟨_,_,_,_⟩,_⟩:=hF.ra.four;obtain ⟨⟨_,_,_,_⟩,_⟩:=hF.rb.four;obtain ⟨⟨_,_,_,_⟩,_,_,_,_⟩:=hF.rr.four))
 have hF2:=hF.setr (.int .i64 V.k) (.int .i64 V.t) (.int .i64 V.o) (.int .i64 V.x)
 obtain ⟨⟨d0,d1,d2,d3⟩,_⟩:=hF2.rr.four
 generalize World.setCell _ _ _ = wF at hF2 d0 d1 d2 d3 ⊢
 exact bodyPost_ret (v:=.tuple #[.agg #[.int .i64 V.k,.int .i64 V.t,.int .i64 V.o,.int .i64 V.x],.int .i64 g]) (by simp [results,Tryz.results84,go_sem,d0,d1,d2,d3]) rfl ⟨rfl,hF2.bel⟩
theorem sum_add2 (op k t o x k2 t2 o2 x2:Int) (h1:(op == 1) = true) (h2:decide (2 <= k) = false) (h3:(k == 1) = true) (h4:decide (2 <= k2) = true) (V:Val) (g:Int) (hmv:∀ w',Calls Tryz.prog 109 #[.agg #[.int .i64 k2,.int .i64 t2,.int .i64 o2,.int .i64 x2],.int .i64 x] w' (Ret w' (.tuple #[.agg #[.int .i64 V.k,.int .i64 V.t,.int .i64 V.o,.int .i64 V.x],.int .i64 g]))) (w:World) :
 Calls Tryz.prog 84 #[.int .i64 op,.agg #[.int .i64 k,.int .i64 t,.int .i64 o,.int .i64 x],.agg #[.int .i64 k2,.int .i64 t2,.int .i64 o2,.int .i64 x2]] w (Ret w (.tuple #[.agg #[.int .i64 V.k,.int .i64 V.t,.int .i64 V.o,.int .i64 V.x],.int .i64 g])):=by
 have hF:=F3.made w [.int .i64 k,.int .i64 t,.int .i64 o,.int .i64 x] [.int .i64 k2,.int .i64 t2,.int .i64 o2,.int .i64 x2] [.int .i64 0,.int .i64 0,.int .i64 0,.int .i64 0]
 have hB3:=fun a b r=>(F3.made w a b r).bel
 have HMV:=Lib.hid hmv
 clear hmv
 go_enter Tryz.func84,Tryz.ntmps84
 go_wp2_with (first
  | ((first | (go_at_call 87;refine (pointer_of _ _ _ _ _).mono ?_) | (go_at_call 82;refine (numeric_of _ _ _ _ _).mono ?_) | (go_at_call 109;refine (HMV.out _).mono ?_) | (go_at_call 95;refine (HAL.out _).mono ?_) | (go_at_call 50;refine (num_of _ _).mono ?_));rintro e w' ⟨rfl,hb⟩;have hF:=hF.next hb;obtain ⟨⟨_,_,_,_⟩,_⟩:=hF.ra.four;obtain ⟨⟨_,_,_,_⟩,_⟩:=hF.rb.four;obtain ⟨⟨_,_,_,_⟩,_,_,_,_⟩:=hF.rr.four))
 have hF2:=hF.setr (.int .i64 V.k) (.int .i64 V.t) (.int .i64 V.o) (.int .i64 V.x)
 obtain ⟨⟨d0,d1,d2,d3⟩,_⟩:=hF2.rr.four
 generalize World.setCell _ _ _ = wF at hF2 d0 d1 d2 d3 ⊢
 exact bodyPost_ret (v:=.tuple #[.agg #[.int .i64 V.k,.int .i64 V.t,.int .i64 V.o,.int .i64 V.x],.int .i64 g]) (by simp [results,Tryz.results84,go_sem,d0,d1,d2,d3]) rfl ⟨rfl,hF2.bel⟩
theorem sum_addt (op k t o x k2 t2 o2 x2:Int) (h1:(op == 1) = true) (h0:(op == 2) = false) (hn:(decide (2 <= k) && (k2 == 1)) = false) (hm:((k == 1) && decide (2 <= k2)) = false) (w:World) :
 Calls Tryz.prog 84 #[.int .i64 op,.agg #[.int .i64 k,.int .i64 t,.int .i64 o,.int .i64 x],.agg #[.int .i64 k2,.int .i64 t2,.int .i64 o2,.int .i64 x2]] w (Ret w (.tuple #[.agg #[.int .i64 k,.int .i64 t,.int .i64 o,.int .i64 x],.int .i64 80])):=by
 have hF:=F3.made w [.int .i64 k,.int .i64 t,.int .i64 o,.int .i64 x] [.int .i64 k2,.int .i64 t2,.int .i64 o2,.int .i64 x2] [.int .i64 0,.int .i64 0,.int .i64 0,.int .i64 0]
 have hB3:=fun a b r=>(F3.made w a b r).bel
 cases h2:decide (2 <= k) with
 | true =>
   have h3:(k2 == 1) = false:=by rw [h2] at hn;simpa using hn
   have h4:(k == 1) = false:=by simp at h2 ⊢;omega
   clear hn hm
   go_enter Tryz.func84,Tryz.ntmps84
   go_wp2_with (first
    | ((first | (go_at_call 87;refine (pointer_of _ _ _ _ _).mono ?_) | (go_at_call 82;refine (numeric_of _ _ _ _ _).mono ?_) | (go_at_call 109;refine (HMV.out _).mono ?_) | (go_at_call 95;refine (HAL.out _).mono ?_) | (go_at_call 50;refine (num_of _ _).mono ?_));rintro e w' ⟨rfl,hb⟩;have hF:=hF.next hb;obtain ⟨⟨_,_,_,_⟩,_⟩:=hF.ra.four;obtain ⟨⟨_,_,_,_⟩,_⟩:=hF.rb.four;obtain ⟨⟨_,_,_,_⟩,_,_,_,_⟩:=hF.rr.four))
   have hF2:=hF.setr (.int .i64 k) (.int .i64 t) (.int .i64 o) (.int .i64 x)
   obtain ⟨⟨d0,d1,d2,d3⟩,_⟩:=hF2.rr.four
   generalize World.setCell _ _ _ = wF at hF2 d0 d1 d2 d3 ⊢
   exact bodyPost_ret (v:=.tuple #[.agg #[.int .i64 k,.int .i64 t,.int .i64 o,.int .i64 x],.int .i64 80]) (by simp [results,Tryz.results84,go_sem,d0,d1,d2,d3]) rfl ⟨rfl,hF2.bel⟩
 | false =>
   cases h3:(k == 1) with
   | true =>
     have h4:decide (2 <= k2) = false:=by rw [h3] at hm;simpa using hm
     clear hn hm
     go_enter Tryz.func84,Tryz.ntmps84
     go_wp2_with (first
      | ((first | (go_at_call 87;refine (pointer_of _ _ _ _ _).mono ?_) | (go_at_call 82;refine (numeric_of _ _ _ _ _).mono ?_) | (go_at_call 109;refine (HMV.out _).mono ?_) | (go_at_call 95;refine (HAL.out _).mono ?_) | (go_at_call 50;refine (num_of _ _).mono ?_));rintro e w' ⟨rfl,hb⟩;have hF:=hF.next hb;obtain ⟨⟨_,_,_,_⟩,_⟩:=hF.ra.four;obtain ⟨⟨_,_,_,_⟩,_⟩:=hF.rb.four;obtain ⟨⟨_,_,_,_⟩,_,_,_,_⟩:=hF.rr.four))
     have hF2:=hF.setr (.int .i64 k) (.int .i64 t) (.int .i64 o) (.int .i64 x)
     obtain ⟨⟨d0,d1,d2,d3⟩,_⟩:=hF2.rr.four
     generalize World.setCell _ _ _ = wF at hF2 d0 d1 d2 d3 ⊢
     exact bodyPost_ret (v:=.tuple #[.agg #[.int .i64 k,.int .i64 t,.int .i64 o,.int .i64 x],.int .i64 80]) (by simp [results,Tryz.results84,go_sem,d0,d1,d2,d3]) rfl ⟨rfl,hF2.bel⟩
   | false =>
     clear hn hm
     go_enter Tryz.func84,Tryz.ntmps84
     go_wp2_with (first
      | ((first | (go_at_call 87;refine (pointer_of _ _ _ _ _).mono ?_) | (go_at_call 82;refine (numeric_of _ _ _ _ _).mono ?_) | (go_at_call 109;refine (HMV.out _).mono ?_) | (go_at_call 95;refine (HAL.out _).mono ?_) | (go_at_call 50;refine (num_of _ _).mono ?_));rintro e w' ⟨rfl,hb⟩;have hF:=hF.next hb;obtain ⟨⟨_,_,_,_⟩,_⟩:=hF.ra.four;obtain ⟨⟨_,_,_,_⟩,_⟩:=hF.rb.four;obtain ⟨⟨_,_,_,_⟩,_,_,_,_⟩:=hF.rr.four))
     have hF2:=hF.setr (.int .i64 k) (.int .i64 t) (.int .i64 o) (.int .i64 x)
     obtain ⟨⟨d0,d1,d2,d3⟩,_⟩:=hF2.rr.four
     generalize World.setCell _ _ _ = wF at hF2 d0 d1 d2 d3 ⊢
     exact bodyPost_ret (v:=.tuple #[.agg #[.int .i64 k,.int .i64 t,.int .i64 o,.int .i64 x],.int .i64 80]) (by simp [results,Tryz.results84,go_sem,d0,d1,d2,d3]) rfl ⟨rfl,hF2.bel⟩
theorem sum_sub1 (op k t o x k2 t2 o2 x2:Int) (h1:(op == 1) = false) (h0:(op == 2) = true) (h2:decide (2 <= k) = true) (h3:(k2 == 1) = true) (h4:decide (x2 < -2097152) = true) (w:World) :
 Calls Tryz.prog 84 #[.int .i64 op,.agg #[.int .i64 k,.int .i64 t,.int .i64 o,.int .i64 x],.agg #[.int .i64 k2,.int .i64 t2,.int .i64 o2,.int .i64 x2]] w (Ret w (.tuple #[.agg #[.int .i64 k,.int .i64 t,.int .i64 o,.int .i64 x],.int .i64 85])):=by
 have hF:=F3.made w [.int .i64 k,.int .i64 t,.int .i64 o,.int .i64 x] [.int .i64 k2,.int .i64 t2,.int .i64 o2,.int .i64 x2] [.int .i64 0,.int .i64 0,.int .i64 0,.int .i64 0]
 have hB3:=fun a b r=>(F3.made w a b r).bel
 go_enter Tryz.func84,Tryz.ntmps84
 go_wp2_with (first
  | ((first | (go_at_call 87;refine (pointer_of _ _ _ _ _).mono ?_) | (go_at_call 82;refine (numeric_of _ _ _ _ _).mono ?_) | (go_at_call 109;refine (HMV.out _).mono ?_) | (go_at_call 95;refine (HAL.out _).mono ?_) | (go_at_call 50;refine (num_of _ _).mono ?_));rintro e w' ⟨rfl,hb⟩;have hF:=hF.next hb;obtain ⟨⟨_,_,_,_⟩,_⟩:=hF.ra.four;obtain ⟨⟨_,_,_,_⟩,_⟩:=hF.rb.four;obtain ⟨⟨_,_,_,_⟩,_,_,_,_⟩:=hF.rr.four))
 have hF2:=hF.setr (.int .i64 k) (.int .i64 t) (.int .i64 o) (.int .i64 x)
 obtain ⟨⟨d0,d1,d2,d3⟩,_⟩:=hF2.rr.four
 generalize World.setCell _ _ _ = wF at hF2 d0 d1 d2 d3 ⊢
 exact bodyPost_ret (v:=.tuple #[.agg #[.int .i64 k,.int .i64 t,.int .i64 o,.int .i64 x],.int .i64 85]) (by simp [results,Tryz.results84,go_sem,d0,d1,d2,d3]) rfl ⟨rfl,hF2.bel⟩
theorem sum_sub2 (op k t o x k2 t2 o2 x2:Int) (h1:(op == 1) = false) (h0:(op == 2) = true) (h2:decide (2 <= k) = true) (h3:(k2 == 1) = true) (h4:decide (x2 < -2097152) = false) (y:Int) (hy:wrap64 (-x2) = y) (V:Val) (g:Int) (hmv:∀ w',Calls Tryz.prog 109 #[.agg #[.int .i64 k,.int .i64 t,.int .i64 o,.int .i64 x],.int .i64 y] w' (Ret w' (.tuple #[.agg #[.int .i64 V.k,.int .i64 V.t,.int .i64 V.o,.int .i64 V.x],.int .i64 g]))) (w:World) :
 Calls Tryz.prog 84 #[.int .i64 op,.agg #[.int .i64 k,.int .i64 t,.int .i64 o,.int .i64 x],.agg #[.int .i64 k2,.int .i64 t2,.int .i64 o2,.int .i64 x2]] w (Ret w (.tuple #[.agg #[.int .i64 V.k,.int .i64 V.t,.int .i64 V.o,.int .i64 V.x],.int .i64 g])):=by
 have hF:=F3.made w [.int .i64 k,.int .i64 t,.int .i64 o,.int .i64 x] [.int .i64 k2,.int .i64 t2,.int .i64 o2,.int .i64 x2] [.int .i64 0,.int .i64 0,.int .i64 0,.int .i64 0]
 have hB3:=fun a b r=>(F3.made w a b r).bel
 have HMV:=Lib.hid hmv
 clear hmv
 go_enter Tryz.func84,Tryz.ntmps84
 go_wp2_with (first
  | ((first | (go_at_call 87;refine (pointer_of _ _ _ _ _).mono ?_) | (go_at_call 82;refine (numeric_of _ _ _ _ _).mono ?_) | (go_at_call 109;refine (HMV.out _).mono ?_) | (go_at_call 95;refine (HAL.out _).mono ?_) | (go_at_call 50;refine (num_of _ _).mono ?_));rintro e w' ⟨rfl,hb⟩;have hF:=hF.next hb;obtain ⟨⟨_,_,_,_⟩,_⟩:=hF.ra.four;obtain ⟨⟨_,_,_,_⟩,_⟩:=hF.rb.four;obtain ⟨⟨_,_,_,_⟩,_,_,_,_⟩:=hF.rr.four))
 have hF2:=hF.setr (.int .i64 V.k) (.int .i64 V.t) (.int .i64 V.o) (.int .i64 V.x)
 obtain ⟨⟨d0,d1,d2,d3⟩,_⟩:=hF2.rr.four
 generalize World.setCell _ _ _ = wF at hF2 d0 d1 d2 d3 ⊢
 exact bodyPost_ret (v:=.tuple #[.agg #[.int .i64 V.k,.int .i64 V.t,.int .i64 V.o,.int .i64 V.x],.int .i64 g]) (by simp [results,Tryz.results84,go_sem,d0,d1,d2,d3]) rfl ⟨rfl,hF2.bel⟩
theorem sum_sub3 (op k t o x k2 t2 o2 x2:Int) (h1:(op == 1) = false) (h0:(op == 2) = true) (hn:(decide (2 <= k) && (k2 == 1)) = false) (y:Int) (hy:wrap64 (x - x2) = y) (hal:∀ w',Calls Tryz.prog 95 #[.agg #[.int .i64 k,.int .i64 t,.int .i64 o,.int .i64 x],.agg #[.int .i64 k2,.int .i64 t2,.int .i64 o2,.int .i64 x2]] w' (Ret w' (.bool true))) (w:World) :
 Calls Tryz.prog 84 #[.int .i64 op,.agg #[.int .i64 k,.int .i64 t,.int .i64 o,.int .i64 x],.agg #[.int .i64 k2,.int .i64 t2,.int .i64 o2,.int .i64 x2]] w (Ret w (.tuple #[.agg #[.int .i64 1,.int .i64 0,.int .i64 0,.int .i64 y],.int .i64 0])):=by
 have hF:=F3.made w [.int .i64 k,.int .i64 t,.int .i64 o,.int .i64 x] [.int .i64 k2,.int .i64 t2,.int .i64 o2,.int .i64 x2] [.int .i64 0,.int .i64 0,.int .i64 0,.int .i64 0]
 have hB3:=fun a b r=>(F3.made w a b r).bel
 have HAL:=Lib.hid hal
 clear hal
 cases h2:decide (2 <= k) with
 | true =>
   have h3:(k2 == 1) = false:=by rw [h2] at hn;simpa using hn
   clear hn
   go_enter Tryz.func84,Tryz.ntmps84
   go_wp2_with (first
    | ((first | (go_at_call 87;refine (pointer_of _ _ _ _ _).mono ?_) | (go_at_call 82;refine (numeric_of _ _ _ _ _).mono ?_) | (go_at_call 109;refine (HMV.out _).mono ?_) | (go_at_call 95;refine (HAL.out _).mono ?_) | (go_at_call 50;refine (num_of _ _).mono ?_));rintro e w' ⟨rfl,hb⟩;have hF:=hF.next hb;obtain ⟨⟨_,_,_,_⟩,_⟩:=hF.ra.four;obtain ⟨⟨_,_,_,_⟩,_⟩:=hF.rb.four;obtain ⟨⟨_,_,_,_⟩,_,_,_,_⟩:=hF.rr.four))
   have hF2:=hF.setr (.int .i64 1) (.int .i64 0) (.int .i64 0) (.int .i64 y)
   obtain ⟨⟨d0,d1,d2,d3⟩,_⟩:=hF2.rr.four
   generalize World.setCell _ _ _ = wF at hF2 d0 d1 d2 d3 ⊢
   exact bodyPost_ret (v:=.tuple #[.agg #[.int .i64 1,.int .i64 0,.int .i64 0,.int .i64 y],.int .i64 0]) (by simp [results,Tryz.results84,go_sem,d0,d1,d2,d3]) rfl ⟨rfl,hF2.bel⟩
 | false =>
   clear hn
   go_enter Tryz.func84,Tryz.ntmps84
   go_wp2_with (first
    | ((first | (go_at_call 87;refine (pointer_of _ _ _ _ _).mono ?_) | (go_at_call 82;refine (numeric_of _ _ _ _ _).mono ?_) | (go_at_call 109;refine (HMV.out _).mono ?_) | (go_at_call 95;refine (HAL.out _).mono ?_) | (go_at_call 50;refine (num_of _ _).mono ?_));rintro e w' ⟨rfl,hb⟩;have hF:=hF.next hb;obtain ⟨⟨_,_,_,_⟩,_⟩:=hF.ra.four;obtain ⟨⟨_,_,_,_⟩,_⟩:=hF.rb.four;obtain ⟨⟨_,_,_,_⟩,_,_,_,_⟩:=hF.rr.four))
   have hF2:=hF.setr (.int .i64 1) (.int .i64 0) (.int .i64 0) (.int .i64 y)
   obtain ⟨⟨d0,d1,d2,d3⟩,_⟩:=hF2.rr.four
   generalize World.setCell _ _ _ = wF at hF2 d0 d1 d2 d3 ⊢
   exact bodyPost_ret (v:=.tuple #[.agg #[.int .i64 1,.int .i64 0,.int .i64 0,.int .i64 y],.int .i64 0]) (by simp [results,Tryz.results84,go_sem,d0,d1,d2,d3]) rfl ⟨rfl,hF2.bel⟩
theorem sum_subt (op k t o x k2 t2 o2 x2:Int) (h1:(op == 1) = false) (h0:(op == 2) = true) (hn:(decide (2 <= k) && (k2 == 1)) = false) (hal:∀ w',Calls Tryz.prog 95 #[.agg #[.int .i64 k,.int .i64 t,.int .i64 o,.int .i64 x],.agg #[.int .i64 k2,.int .i64 t2,.int .i64 o2,.int .i64 x2]] w' (Ret w' (.bool false))) (w:World) :
 Calls Tryz.prog 84 #[.int .i64 op,.agg #[.int .i64 k,.int .i64 t,.int .i64 o,.int .i64 x],.agg #[.int .i64 k2,.int .i64 t2,.int .i64 o2,.int .i64 x2]] w (Ret w (.tuple #[.agg #[.int .i64 k,.int .i64 t,.int .i64 o,.int .i64 x],.int .i64 80])):=by
 have hF:=F3.made w [.int .i64 k,.int .i64 t,.int .i64 o,.int .i64 x] [.int .i64 k2,.int .i64 t2,.int .i64 o2,.int .i64 x2] [.int .i64 0,.int .i64 0,.int .i64 0,.int .i64 0]
 have hB3:=fun a b r=>(F3.made w a b r).bel
 have HAL:=Lib.hid hal
 clear hal
 cases h2:decide (2 <= k) with
 | true =>
   have h3:(k2 == 1) = false:=by rw [h2] at hn;simpa using hn
   clear hn
   go_enter Tryz.func84,Tryz.ntmps84
   go_wp2_with (first
    | ((first | (go_at_call 87;refine (pointer_of _ _ _ _ _).mono ?_) | (go_at_call 82;refine (numeric_of _ _ _ _ _).mono ?_) | (go_at_call 109;refine (HMV.out _).mono ?_) | (go_at_call 95;refine (HAL.out _).mono ?_) | (go_at_call 50;refine (num_of _ _).mono ?_));rintro e w' ⟨rfl,hb⟩;have hF:=hF.next hb;obtain ⟨⟨_,_,_,_⟩,_⟩:=hF.ra.four;obtain ⟨⟨_,_,_,_⟩,_⟩:=hF.rb.four;obtain ⟨⟨_,_,_,_⟩,_,_,_,_⟩:=hF.rr.four))
   have hF2:=hF.setr (.int .i64 k) (.int .i64 t) (.int .i64 o) (.int .i64 x)
   obtain ⟨⟨d0,d1,d2,d3⟩,_⟩:=hF2.rr.four
   generalize World.setCell _ _ _ = wF at hF2 d0 d1 d2 d3 ⊢
   exact bodyPost_ret (v:=.tuple #[.agg #[.int .i64 k,.int .i64 t,.int .i64 o,.int .i64 x],.int .i64 80]) (by simp [results,Tryz.results84,go_sem,d0,d1,d2,d3]) rfl ⟨rfl,hF2.bel⟩
 | false =>
   clear hn
   go_enter Tryz.func84,Tryz.ntmps84
   go_wp2_with (first
    | ((first | (go_at_call 87;refine (pointer_of _ _ _ _ _).mono ?_) | (go_at_call 82;refine (numeric_of _ _ _ _ _).mono ?_) | (go_at_call 109;refine (HMV.out _).mono ?_) | (go_at_call 95;refine (HAL.out _).mono ?_) | (go_at_call 50;refine (num_of _ _).mono ?_));rintro e w' ⟨rfl,hb⟩;have hF:=hF.next hb;obtain ⟨⟨_,_,_,_⟩,_⟩:=hF.ra.four;obtain ⟨⟨_,_,_,_⟩,_⟩:=hF.rb.four;obtain ⟨⟨_,_,_,_⟩,_,_,_,_⟩:=hF.rr.four))
   have hF2:=hF.setr (.int .i64 k) (.int .i64 t) (.int .i64 o) (.int .i64 x)
   obtain ⟨⟨d0,d1,d2,d3⟩,_⟩:=hF2.rr.four
   generalize World.setCell _ _ _ = wF at hF2 d0 d1 d2 d3 ⊢
   exact bodyPost_ret (v:=.tuple #[.agg #[.int .i64 k,.int .i64 t,.int .i64 o,.int .i64 x],.int .i64 80]) (by simp [results,Tryz.results84,go_sem,d0,d1,d2,d3]) rfl ⟨rfl,hF2.bel⟩
theorem sum_none (op k t o x k2 t2 o2 x2:Int) (h1:(op == 1) = false) (h0:(op == 2) = false) (w:World) :
 Calls Tryz.prog 84 #[.int .i64 op,.agg #[.int .i64 k,.int .i64 t,.int .i64 o,.int .i64 x],.agg #[.int .i64 k2,.int .i64 t2,.int .i64 o2,.int .i64 x2]] w (Ret w (.tuple #[.agg #[.int .i64 k,.int .i64 t,.int .i64 o,.int .i64 x],.int .i64 80])):=by
 have hF:=F3.made w [.int .i64 k,.int .i64 t,.int .i64 o,.int .i64 x] [.int .i64 k2,.int .i64 t2,.int .i64 o2,.int .i64 x2] [.int .i64 0,.int .i64 0,.int .i64 0,.int .i64 0]
 have hB3:=fun a b r=>(F3.made w a b r).bel
 go_enter Tryz.func84,Tryz.ntmps84
 go_wp2_with fail
 exact bodyPost_ret (v:=.tuple #[.agg #[.int .i64 k,.int .i64 t,.int .i64 o,.int .i64 x],.int .i64 80]) (by simp [results,Tryz.results84,go_sem]) rfl ⟨rfl,hB3 [.int .i64 k,.int .i64 t,.int .i64 o,.int .i64 x] [.int .i64 k2,.int .i64 t2,.int .i64 o2,.int .i64 x2] [.int .i64 k,.int .i64 t,.int .i64 o,.int .i64 x]⟩
theorem msum_of (op:Int) (a b:Val) (hx:2 <= a.k->-1048576 <= a.x/\a.x <= 1048576) (hx2:2 <= b.k->-1048576 <= b.x/\b.x <= 1048576) (hi:i64r a.x/\i64r b.x) (w:World) :
 Calls Tryz.prog 84 #[.int .i64 op,a.agg,b.agg] w (Ret w (.tuple #[.agg #[.int .i64 (sumF op a b).1.k,.int .i64 (sumF op a b).1.t,.int .i64 (sumF op a b).1.o,.int .i64 (sumF op a b).1.x],.int .i64 (sumF op a b).2])):=by
 obtain ⟨k,t,o,x⟩:=a
 obtain ⟨k2,t2,o2,x2⟩:=b
 simp only [i64r] at hx hx2 hi
 unfold Val.agg
 simp only
 unfold sumF
 simp only
 by_cases h1:op = 1
 ·have q1:(op == 1) = true:=by simpa using h1
  have q0:(op == 2) = false:=by simp;omega
  by_cases h2:2 <= k/\k2 = 1
  ·rw [if_pos ⟨h1,h2.1,h2.2⟩]
   exact sum_add1 op k t o x k2 t2 o2 x2 q1 (decide_eq_true h2.1) (by simpa using h2.2) _ _ (fun w'=>moved_of k t o x x2 (hx h2.1) w') w
  ·rw [if_neg (fun h=>h2 ⟨h.2.1,h.2.2⟩)]
   by_cases h3:k = 1/\2 <= k2
   ·rw [if_pos ⟨h1,h3.1,h3.2⟩]
    exact sum_add2 op k t o x k2 t2 o2 x2 q1 (by simp;omega) (by simpa using h3.1) (decide_eq_true h3.2) _ _ (fun w'=>moved_of k2 t2 o2 x2 x (hx2 h3.2) w') w
   ·rw [if_neg (fun h=>h3 ⟨h.2.1,h.2.2⟩),if_neg (by omega),if_neg (by omega)]
    exact sum_addt op k t o x k2 t2 o2 x2 q1 q0 (by simp;omega) (by simp;omega) w
 ·have q1:(op == 1) = false:=by simpa using h1
  rw [if_neg (fun h=>h1 h.1),if_neg (fun h=>h1 h.1)]
  by_cases h0:op = 2
  ·have q0:(op == 2) = true:=by simpa using h0
   by_cases h2:2 <= k/\k2 = 1
   ·rw [if_pos ⟨h0,h2.1,h2.2⟩]
    by_cases h4:x2 < -2097152
    ·rw [if_pos h4]
     exact sum_sub1 op k t o x k2 t2 o2 x2 q1 q0 (decide_eq_true h2.1) (by simpa using h2.2) (decide_eq_true h4) w
    ·rw [if_neg h4]
     exact sum_sub2 op k t o x k2 t2 o2 x2 q1 q0 (decide_eq_true h2.1) (by simpa using h2.2) (decide_eq_false h4) (-x2) (by unfold wrap64;omega) _ _ (fun w'=>moved_of k t o x (-x2) (hx h2.1) w') w
   ·rw [if_neg (fun h=>h2 ⟨h.2.1,h.2.2⟩)]
    have hn:(decide (2 <= k) && (k2 == 1)) = false:=by simp;omega
    cases hal:alikeF ⟨k,t,o,x⟩ ⟨k2,t2,o2,x2⟩ with
    | true =>
      rw [if_pos ⟨h0,rfl⟩]
      have hk:2 <= k/\2 <= k2:=by
       unfold alikeF at hal
       simp at hal
       omega
      have hx':=hx hk.1
      have hx2':=hx2 hk.2
      exact sum_sub3 op k t o x k2 t2 o2 x2 q1 q0 hn (x - x2) (by unfold wrap64;omega) (fun w'=>by have:=alike_of k t o x k2 t2 o2 x2 w';rw [hal] at this;exact this) w
    | false =>
      rw [if_neg (fun h=>by cases h.2)]
      exact sum_subt op k t o x k2 t2 o2 x2 q1 q0 hn (fun w'=>by have:=alike_of k t o x k2 t2 o2 x2 w';rw [hal] at this;exact this) w
  ·have q0:(op == 2) = false:=by simpa using h0
   rw [if_neg (fun h=>h0 h.1),if_neg (fun h=>h0 h.1)]
   exact sum_none op k t o x k2 t2 o2 x2 q1 q0 w
end Go.Proofs.YtdepknffpnnmmaaGreat
