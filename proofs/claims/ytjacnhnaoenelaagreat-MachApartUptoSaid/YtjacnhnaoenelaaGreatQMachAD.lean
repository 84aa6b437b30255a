import Derived.Test.YtjacnhnaoenelaaGreatQMachAA
import Derived.Test.YtjacnhnaoenelaaGreatQMachS
set_option maxRecDepth 100000
set_option maxHeartbeats 32000000
namespace Go.Proofs.YtjacnhnaoenelaaGreat
open Lib (hid)
open Go.Proofs.Tryz
open Go.RowKit
set_option linter.unusedVariables false
set_option linter.unusedSimpArgs false
inductive Rl (op:Int) (Ad reg:Bool) (off Aa:Int) (K T O A K2 T2 O2 B:Int) (by' er:Int):Prop
 | num (hv:Bool):K = 1->K2 = 1->(∀ w',Calls prog 79 #[.int .i64 op,.bool Ad,.int .i64 A,.int .i64 B] w' fun e w''=>e = .returned (.bool hv)/\Below w'.heap.size w' w'')->by' = (if hv then off else 0)->er = 0->Rl op Ad reg off Aa K T O A K2 T2 O2 B by' er
 | trap:((K == 1) && (K2 == 1)) = false->(Ad || (K == 0) || (K2 == 0)) = true->by' = 0->er = 80->Rl op Ad reg off Aa K T O A K2 T2 O2 B by' er
 | ptr (hv:Bool) (op':Int):((K == 1) && (K2 == 1)) = false->Ad = false->(K == 0) = false->(K2 == 0) = false->Ii ⟨K,T,O,A⟩ ⟨K2,T2,O2,B⟩ = true->(op != 37) = true->op' = (if decide (29 <= op) && decide (op <= 32) then op + 4 else op)->(∀ w',Calls prog 79 #[.int .i64 op',.bool false,.int .i64 A,.int .i64 B] w' fun e w''=>e = .returned (.bool hv)/\Below w'.heap.size w' w'')->by' = (if hv then off else 0)->er = 0->Rl op Ad reg off Aa K T O A K2 T2 O2 B by' er
 | row:((K == 1) && (K2 == 1)) = false->Ad = false->(K == 0) = false->(K2 == 0) = false->(Ii ⟨K,T,O,A⟩ ⟨K2,T2,O2,B⟩ && (op != 37)) = false->((K == 5) && !reg && (Aa == 0) && ((op == 27) || (op == 28))) = true->by' = (if (op == 28) then off else 0)->er = 0->Rl op Ad reg off Aa K T O A K2 T2 O2 B by' er
 | none:((K == 1) && (K2 == 1)) = false->Ad = false->(K == 0) = false->(K2 == 0) = false->(Ii ⟨K,T,O,A⟩ ⟨K2,T2,O2,B⟩ && (op != 37)) = false->((K == 5) && !reg && (Aa == 0) && ((op == 27) || (op == 28))) = false->by' = 0->er = 80->Rl op Ad reg off Aa K T O A K2 T2 O2 B by' er
theorem Afa (op:Int) (Ad reg:Bool) (size src off Aa:Int) (d:Nat) (hd:d < 11) (hop:27 <= op/\op <= 37) (bx:Nat) (cs:List Value) (hl:cs.length = 471) (k t o x k2 t2 o2 x2:Int) (hu:Ie cs d ⟨k,t,o,x⟩)
 (hs:∀ w',Row w' bx 87 cs->Calls prog 66 #[.pointer (some ⟨bx,0,none⟩),.agg #[.int .i64 op,.bool Ad,.bool reg,.int .i64 size,.int .i64 d,.int .i64 src,.int .i64 off,.int .i64 Aa]] w' (Ol w' (.agg #[.int .i64 k2,.int .i64 t2,.int .i64 o2,.int .i64 x2])))
 (by' er:Int) (hm:Rl op Ad reg off Aa k t o x k2 t2 o2 x2 by' er)
 (w:World) (h:Row w bx 87 cs) :
 Calls prog 59 #[.pointer (some ⟨bx,0,none⟩),.agg #[.int .i64 op,.bool Ad,.bool reg,.int .i64 size,.int .i64 d,.int .i64 src,.int .i64 off,.int .i64 Aa]] w (Wrote w bx cs by' er):=by
 have hj1:(0:Int) <= (d:Int):=by omega
 have hj2:(d:Int) < 11:=by omega
 have HF:=hid (FM.begin h op Ad reg size d src off Aa);have HS:=hid hs;have HOP:=hid hop;clear h hs hop;go_enter func59,ntmps59;go_upto_region 1 with fail;generalize World.alloc _ _ = w1 at HF ⊢
 go_cut [6,7] from 10 (fun s6 s7 wx=>∃ ab bb,s6 = .pointer (some ⟨ab,0,none⟩)/\s7 = .pointer (some ⟨bb,0,none⟩)/\FA w bx w.heap.size ab bb cs op Ad reg size d src off Aa [.int .i64 k,.int .i64 t,.int .i64 o,.int .i64 x] [.int .i64 k2,.int .i64 t2,.int .i64 o2,.int .i64 x2] wx)
 case first=>
  have hks:=HF.out.drew.k12 hu;have hsz:=HF.out.ins.lt;have hbs:=HF.out.Ar.lt;have hms:=HF.out.mod.size;have Zi:w1.heap.size ≠ bx:=by omega
  have N9:w1.heap.size ≠ w.heap.size:=by omega
  have hw6:w.heap.size <= w1.heap.size:=by omega
  have hn7:w1.heap.size + 1 ≠ bx:=by omega
  have hm7:w1.heap.size + 1 ≠ w.heap.size:=by omega
  have Aey:w1.heap.size ≠ w1.heap.size + 1:=by omega
  have hw7:w.heap.size <= w1.heap.size + 1:=by omega
  have HSS:=hid (fun w' (hw:((w'.cell? ⟨w.heap.size,0,none⟩ = some (.int .i64 op)/\w'.cell? ⟨w.heap.size,1,none⟩ = some (.bool Ad)/\w'.cell? ⟨w.heap.size,2,none⟩ = some (.bool reg)/\w'.cell? ⟨w.heap.size,3,none⟩ = some (.int .i64 size)/\w'.cell? ⟨w.heap.size,4,none⟩ = some (.int .i64 d)/\w'.cell? ⟨w.heap.size,5,none⟩ = some (.int .i64 src)/\w'.cell? ⟨w.heap.size,6,none⟩ = some (.int .i64 off)/\w'.cell? ⟨w.heap.size,7,none⟩ = some (.int .i64 Aa)) /\
   (w'.cell? ⟨bx,423 + d * 4,none⟩ = some (.int .i64 k)/\w'.cell? ⟨bx,423 + d * 4 + 1,none⟩ = some (.int .i64 t)/\w'.cell? ⟨bx,423 + d * 4 + 2,none⟩ = some (.int .i64 o)/\w'.cell? ⟨bx,423 + d * 4 + 3,none⟩ = some (.int .i64 x))/\FM w bx w.heap.size cs op Ad reg size d src off Aa w'))=>HS.out w' hw.2.2.Ar)
  go_region_held3 (fun w'=>((w'.cell? ⟨w.heap.size,0,none⟩ = some (.int .i64 op)/\w'.cell? ⟨w.heap.size,1,none⟩ = some (.bool Ad)/\w'.cell? ⟨w.heap.size,2,none⟩ = some (.bool reg)/\w'.cell? ⟨w.heap.size,3,none⟩ = some (.int .i64 size)/\w'.cell? ⟨w.heap.size,4,none⟩ = some (.int .i64 d)/\w'.cell? ⟨w.heap.size,5,none⟩ = some (.int .i64 src)/\w'.cell? ⟨w.heap.size,6,none⟩ = some (.int .i64 off)/\w'.cell? ⟨w.heap.size,7,none⟩ = some (.int .i64 Aa)) /\
   (w'.cell? ⟨bx,423 + d * 4,none⟩ = some (.int .i64 k)/\w'.cell? ⟨bx,423 + d * 4 + 1,none⟩ = some (.int .i64 t)/\w'.cell? ⟨bx,423 + d * 4 + 2,none⟩ = some (.int .i64 o)/\w'.cell? ⟨bx,423 + d * 4 + 3,none⟩ = some (.int .i64 x))/\FM w bx w.heap.size cs op Ad reg size d src off Aa w'))
   (first
     | with_reducible assumption
     | with_reducible exact FM.q12 hu (FM.q12 hu hS Zi N9 hw6 _ _ _ _) hn7 hm7 hw7 _ _ _ _
     | with_reducible exact FM.q12 hu (FM.q12 hu hS hn7 hm7 hw7 _ _ _ _) Zi N9 hw6 _ _ _ _
     | with_reducible exact FM.n12 hu (by with_reducible assumption) hb
     | with_reducible exact FM.n12 hu (by with_reducible assumption) ((Below.refl _ _).alloc nl _)
     | with_reducible exact FM.n12 hu hS ((Below.refl _ _).alloc nl _)
     | with_reducible exact FM.n12 hu (FM.n12 hu hS ((Below.refl _ _).alloc nl _)) ((Below.refl _ _).alloc nl _)
     | with_reducible exact FM.q12 hu hS Zi N9 hw6 _ _ _ _
     | with_reducible exact FM.q12 hu hS hn7 hm7 hw7 _ _ _ _
     | with_reducible exact FM.n12 hu (FM.q12 hu hS Zi N9 hw6 _ _ _ _) ((Below.refl _ _).alloc nl _)
     | with_reducible exact FM.n12 hu (FM.q12 hu hS hn7 hm7 hw7 _ _ _ _) ((Below.refl _ _).alloc nl _)
     | fail "none")
   (first
     | (go_at_call 66;refine (HSS.out _ (by with_reducible assumption)).mono ?_;rintro e w' ⟨rfl,hb⟩;have hS:=FM.n12 hu (by with_reducible assumption) hb;first | (with_reducible have hx:=Af7 (w1:=w1) hb;obtain ⟨_,⟨_,_,_,_⟩,_,_,_,_⟩:=hx) | (with_reducible have hx:=Af8 (w1:=w1) hb;obtain ⟨_,_,⟨⟨_,_,_,_⟩,_,_,_,_⟩,⟨_,_,_,_⟩,_,_,_,_⟩:=hx) | skip))
  all_goals
   rename_i C9;clear C9;go_wp2_with fail;go_meet
   case rel=>
    first
     | with_reducible exact ⟨_,_,rfl,rfl,X3 hS.2.2 _ _⟩
     | with_reducible exact ⟨_,_,rfl,rfl,(X3 hS.2.2 _ _).swap⟩
     | with_reducible exact ⟨_,_,rfl,rfl,X4 hS.2.2 ((made1 w1).below hb (made1 w1).lt) Zi N9 hw6 _ _ _ _ _⟩
     | with_reducible exact ⟨_,_,rfl,rfl,(X4 hS.2.2 ((made1 w1).below hb (made1 w1).lt) Zi N9 hw6 _ _ _ _ _).swap⟩
     | with_reducible exact ⟨_,_,rfl,rfl,X5 hS.2.2 ((Ig w1).below hb (Ig w1).lt) ((made2 w1).below hb (made2 w1).lt) Zi N9 hw6 hn7 hm7 hw7 Aey _ _ _ _ _ _ _ _⟩
     | with_reducible exact ⟨_,_,rfl,rfl,X5 hS.2.2 ((made2 w1).below hb (made2 w1).lt) ((Ig w1).below hb (Ig w1).lt) hn7 hm7 hw7 Zi N9 hw6 (Ne.symm Aey) _ _ _ _ _ _ _ _⟩
     | trace_state
 case rest=>
  obtain ⟨ab,bb,rfl,rfl,ny⟩:=hcut;have Ac:=ny;clear ny;clear HF hu HS;have HM:=hid hm;clear hm;obtain ⟨c0,c1,c2,c3,c4,c5,c6,c7⟩:=Ac.fm.cells;obtain ⟨⟨a0,a1,a2,a3⟩,_⟩:=Ac.ra.four;obtain ⟨⟨b0,b1,b2,b3⟩,_⟩:=Ac.rb.four;generalize k = K at *;generalize k2 = K2 at *
  rcases HM.out with ⟨hv,rfl,rfl,hh,rfl,rfl⟩ | ⟨h1,h2,rfl,rfl⟩ | ⟨hv,op',h1,rfl,hk0,Ae0,ha,h37,h5,hh,rfl,rfl⟩ | ⟨h1,rfl,hk0,Ae0,h5,h6,hby,rfl⟩ | ⟨h1,rfl,hk0,Ae0,h5,h6,rfl,rfl⟩
  ·have HH:=hid hh;clear hh HM
   cases hv with
   | true =>
     go_wp2_with (first
      | ((first | (go_at_call 67;refine (Af _ _ _ _ _).mono ?_) | (go_at_call 80;refine (Jc.out _).mono ?_) | (go_at_call 79;refine (HH.out _).mono ?_));rintro e w' ⟨rfl,hb⟩;have Ac:=Ac.next hb;obtain ⟨_,_,_,_,_,_,_,_⟩:=Ac.fm.cells;obtain ⟨⟨_,_,_,_⟩,_⟩:=Ac.ra.four;obtain ⟨⟨_,_,_,_⟩,_⟩:=Ac.rb.four))
     exact bodyPost_ret (v:=.tuple #[.int .i64 off,.int .i64 0]) (by simp [results,results59,go_sem]) rfl ⟨rfl,Ac.fm.mod,Ac.fm.Ar⟩
   | false =>
     go_wp2_with (first
      | ((first | (go_at_call 67;refine (Af _ _ _ _ _).mono ?_) | (go_at_call 80;refine (Jc.out _).mono ?_) | (go_at_call 79;refine (HH.out _).mono ?_));rintro e w' ⟨rfl,hb⟩;have Ac:=Ac.next hb;obtain ⟨_,_,_,_,_,_,_,_⟩:=Ac.fm.cells;obtain ⟨⟨_,_,_,_⟩,_⟩:=Ac.ra.four;obtain ⟨⟨_,_,_,_⟩,_⟩:=Ac.rb.four))
     exact bodyPost_ret (v:=.tuple #[.int .i64 0,.int .i64 0]) (by simp [results,results59,go_sem]) rfl ⟨rfl,Ac.fm.mod,Ac.fm.Ar⟩
  ·clear HM
   cases hk:(K == 1) with
   | true =>
     have hk2:(K2 == 1) = false:=by rw [hk] at h1;simpa using h1
     obtain rfl:K = 1:=by simpa using hk
     clear h1 hk
     cases Ad with
     | true =>
       go_wp2_with (first
        | ((first | (go_at_call 67;refine (Af _ _ _ _ _).mono ?_) | (go_at_call 80;refine (Jc.out _).mono ?_) | (go_at_call 79;refine (HH.out _).mono ?_));rintro e w' ⟨rfl,hb⟩;have Ac:=Ac.next hb;obtain ⟨_,_,_,_,_,_,_,_⟩:=Ac.fm.cells;obtain ⟨⟨_,_,_,_⟩,_⟩:=Ac.ra.four;obtain ⟨⟨_,_,_,_⟩,_⟩:=Ac.rb.four))
       exact bodyPost_ret (v:=.tuple #[.int .i64 0,.int .i64 80]) (by simp [results,results59,go_sem]) rfl ⟨rfl,Ac.fm.mod,Ac.fm.Ar⟩
     | false =>
       have Ae0:(K2 == 0) = true:=by simpa using h2
       clear h2
       go_wp2_with (first
        | ((first | (go_at_call 67;refine (Af _ _ _ _ _).mono ?_) | (go_at_call 80;refine (Jc.out _).mono ?_) | (go_at_call 79;refine (HH.out _).mono ?_));rintro e w' ⟨rfl,hb⟩;have Ac:=Ac.next hb;obtain ⟨_,_,_,_,_,_,_,_⟩:=Ac.fm.cells;obtain ⟨⟨_,_,_,_⟩,_⟩:=Ac.ra.four;obtain ⟨⟨_,_,_,_⟩,_⟩:=Ac.rb.four))
       exact bodyPost_ret (v:=.tuple #[.int .i64 0,.int .i64 80]) (by simp [results,results59,go_sem]) rfl ⟨rfl,Ac.fm.mod,Ac.fm.Ar⟩
   | false =>
     clear h1
     cases Ad with
     | true =>
       go_wp2_with (first
        | ((first | (go_at_call 67;refine (Af _ _ _ _ _).mono ?_) | (go_at_call 80;refine (Jc.out _).mono ?_) | (go_at_call 79;refine (HH.out _).mono ?_));rintro e w' ⟨rfl,hb⟩;have Ac:=Ac.next hb;obtain ⟨_,_,_,_,_,_,_,_⟩:=Ac.fm.cells;obtain ⟨⟨_,_,_,_⟩,_⟩:=Ac.ra.four;obtain ⟨⟨_,_,_,_⟩,_⟩:=Ac.rb.four))
       exact bodyPost_ret (v:=.tuple #[.int .i64 0,.int .i64 80]) (by simp [results,results59,go_sem]) rfl ⟨rfl,Ac.fm.mod,Ac.fm.Ar⟩
     | false =>
       cases hk0:(K == 0) with
       | true =>
         go_wp2_with (first
          | ((first | (go_at_call 67;refine (Af _ _ _ _ _).mono ?_) | (go_at_call 80;refine (Jc.out _).mono ?_) | (go_at_call 79;refine (HH.out _).mono ?_));rintro e w' ⟨rfl,hb⟩;have Ac:=Ac.next hb;obtain ⟨_,_,_,_,_,_,_,_⟩:=Ac.fm.cells;obtain ⟨⟨_,_,_,_⟩,_⟩:=Ac.ra.four;obtain ⟨⟨_,_,_,_⟩,_⟩:=Ac.rb.four))
         exact bodyPost_ret (v:=.tuple #[.int .i64 0,.int .i64 80]) (by simp [results,results59,go_sem]) rfl ⟨rfl,Ac.fm.mod,Ac.fm.Ar⟩
       | false =>
         have Ae0:(K2 == 0) = true:=by rw [hk0] at h2;simpa using h2
         clear h2
         go_wp2_with (first
          | ((first | (go_at_call 67;refine (Af _ _ _ _ _).mono ?_) | (go_at_call 80;refine (Jc.out _).mono ?_) | (go_at_call 79;refine (HH.out _).mono ?_));rintro e w' ⟨rfl,hb⟩;have Ac:=Ac.next hb;obtain ⟨_,_,_,_,_,_,_,_⟩:=Ac.fm.cells;obtain ⟨⟨_,_,_,_⟩,_⟩:=Ac.ra.four;obtain ⟨⟨_,_,_,_⟩,_⟩:=Ac.rb.four))
         exact bodyPost_ret (v:=.tuple #[.int .i64 0,.int .i64 80]) (by simp [results,results59,go_sem]) rfl ⟨rfl,Ac.fm.mod,Ac.fm.Ar⟩
  ·have HH:=hid hh;have Jc:=hid (fun w'=>by have:=Tm K t o x K2 t2 o2 x2 w';rw [ha] at this;exact this);have hop:=HOP.out;clear hh HM ha
   cases hk:(K == 1) with
   | true =>
     have hk2:(K2 == 1) = false:=by rw [hk] at h1;simpa using h1
     obtain rfl:K = 1:=by simpa using hk
     clear h1 hk
     cases q1:decide (29 <= op) with
     | true =>
       cases q2:decide (op <= 32) with
       | true =>
         have hop:op' = op + 4:=by rw [h5,q1,q2];rfl
         have hw4:wrap64 (op + 4) = op + 4:=by unfold wrap64;omega
         subst hop;clear h5
         cases hv with
         | true =>
           go_wp2_with (first
            | ((first | (go_at_call 67;refine (Af _ _ _ _ _).mono ?_) | (go_at_call 80;refine (Jc.out _).mono ?_) | (go_at_call 79;refine (HH.out _).mono ?_));rintro e w' ⟨rfl,hb⟩;have Ac:=Ac.next hb;obtain ⟨_,_,_,_,_,_,_,_⟩:=Ac.fm.cells;obtain ⟨⟨_,_,_,_⟩,_⟩:=Ac.ra.four;obtain ⟨⟨_,_,_,_⟩,_⟩:=Ac.rb.four))
           exact bodyPost_ret (v:=.tuple #[.int .i64 off,.int .i64 0]) (by simp [results,results59,go_sem]) rfl ⟨rfl,Ac.fm.mod,Ac.fm.Ar⟩
         | false =>
           go_wp2_with (first
            | ((first | (go_at_call 67;refine (Af _ _ _ _ _).mono ?_) | (go_at_call 80;refine (Jc.out _).mono ?_) | (go_at_call 79;refine (HH.out _).mono ?_));rintro e w' ⟨rfl,hb⟩;have Ac:=Ac.next hb;obtain ⟨_,_,_,_,_,_,_,_⟩:=Ac.fm.cells;obtain ⟨⟨_,_,_,_⟩,_⟩:=Ac.ra.four;obtain ⟨⟨_,_,_,_⟩,_⟩:=Ac.rb.four))
           exact bodyPost_ret (v:=.tuple #[.int .i64 0,.int .i64 0]) (by simp [results,results59,go_sem]) rfl ⟨rfl,Ac.fm.mod,Ac.fm.Ar⟩
       | false =>
         have hop:op' = op:=by rw [h5,q1,q2];rfl
         subst hop;clear h5
         cases hv with
         | true =>
           go_wp2_with (first
            | ((first | (go_at_call 67;refine (Af _ _ _ _ _).mono ?_) | (go_at_call 80;refine (Jc.out _).mono ?_) | (go_at_call 79;refine (HH.out _).mono ?_));rintro e w' ⟨rfl,hb⟩;have Ac:=Ac.next hb;obtain ⟨_,_,_,_,_,_,_,_⟩:=Ac.fm.cells;obtain ⟨⟨_,_,_,_⟩,_⟩:=Ac.ra.four;obtain ⟨⟨_,_,_,_⟩,_⟩:=Ac.rb.four))
           exact bodyPost_ret (v:=.tuple #[.int .i64 off,.int .i64 0]) (by simp [results,results59,go_sem]) rfl ⟨rfl,Ac.fm.mod,Ac.fm.Ar⟩
         | false =>
           go_wp2_with (first
            | ((first | (go_at_call 67;refine (Af _ _ _ _ _).mono ?_) | (go_at_call 80;refine (Jc.out _).mono ?_) | (go_at_call 79;refine (HH.out _).mono ?_));rintro e w' ⟨rfl,hb⟩;have Ac:=Ac.next hb;obtain ⟨_,_,_,_,_,_,_,_⟩:=Ac.fm.cells;obtain ⟨⟨_,_,_,_⟩,_⟩:=Ac.ra.four;obtain ⟨⟨_,_,_,_⟩,_⟩:=Ac.rb.four))
           exact bodyPost_ret (v:=.tuple #[.int .i64 0,.int .i64 0]) (by simp [results,results59,go_sem]) rfl ⟨rfl,Ac.fm.mod,Ac.fm.Ar⟩
     | false =>
       have hop:op' = op:=by rw [h5,q1];rfl
       subst hop;clear h5
       cases hv with
       | true =>
         go_wp2_with (first
          | ((first | (go_at_call 67;refine (Af _ _ _ _ _).mono ?_) | (go_at_call 80;refine (Jc.out _).mono ?_) | (go_at_call 79;refine (HH.out _).mono ?_));rintro e w' ⟨rfl,hb⟩;have Ac:=Ac.next hb;obtain ⟨_,_,_,_,_,_,_,_⟩:=Ac.fm.cells;obtain ⟨⟨_,_,_,_⟩,_⟩:=Ac.ra.four;obtain ⟨⟨_,_,_,_⟩,_⟩:=Ac.rb.four))
         exact bodyPost_ret (v:=.tuple #[.int .i64 off,.int .i64 0]) (by simp [results,results59,go_sem]) rfl ⟨rfl,Ac.fm.mod,Ac.fm.Ar⟩
       | false =>
         go_wp2_with (first
          | ((first | (go_at_call 67;refine (Af _ _ _ _ _).mono ?_) | (go_at_call 80;refine (Jc.out _).mono ?_) | (go_at_call 79;refine (HH.out _).mono ?_));rintro e w' ⟨rfl,hb⟩;have Ac:=Ac.next hb;obtain ⟨_,_,_,_,_,_,_,_⟩:=Ac.fm.cells;obtain ⟨⟨_,_,_,_⟩,_⟩:=Ac.ra.four;obtain ⟨⟨_,_,_,_⟩,_⟩:=Ac.rb.four))
         exact bodyPost_ret (v:=.tuple #[.int .i64 0,.int .i64 0]) (by simp [results,results59,go_sem]) rfl ⟨rfl,Ac.fm.mod,Ac.fm.Ar⟩
   | false =>
     clear h1
     cases q1:decide (29 <= op) with
     | true =>
       cases q2:decide (op <= 32) with
       | true =>
         have hop:op' = op + 4:=by rw [h5,q1,q2];rfl
         have hw4:wrap64 (op + 4) = op + 4:=by unfold wrap64;omega
         subst hop;clear h5
         cases hv with
         | true =>
           go_wp2_with (first
            | ((first | (go_at_call 67;refine (Af _ _ _ _ _).mono ?_) | (go_at_call 80;refine (Jc.out _).mono ?_) | (go_at_call 79;refine (HH.out _).mono ?_));rintro e w' ⟨rfl,hb⟩;have Ac:=Ac.next hb;obtain ⟨_,_,_,_,_,_,_,_⟩:=Ac.fm.cells;obtain ⟨⟨_,_,_,_⟩,_⟩:=Ac.ra.four;obtain ⟨⟨_,_,_,_⟩,_⟩:=Ac.rb.four))
           exact bodyPost_ret (v:=.tuple #[.int .i64 off,.int .i64 0]) (by simp [results,results59,go_sem]) rfl ⟨rfl,Ac.fm.mod,Ac.fm.Ar⟩
         | false =>
           go_wp2_with (first
            | ((first | (go_at_call 67;refine (Af _ _ _ _ _).mono ?_) | (go_at_call 80;refine (Jc.out _).mono ?_) | (go_at_call 79;refine (HH.out _).mono ?_));rintro e w' ⟨rfl,hb⟩;have Ac:=Ac.next hb;obtain ⟨_,_,_,_,_,_,_,_⟩:=Ac.fm.cells;obtain ⟨⟨_,_,_,_⟩,_⟩:=Ac.ra.four;obtain ⟨⟨_,_,_,_⟩,_⟩:=Ac.rb.four))
           exact bodyPost_ret (v:=.tuple #[.int .i64 0,.int .i64 0]) (by simp [results,results59,go_sem]) rfl ⟨rfl,Ac.fm.mod,Ac.fm.Ar⟩
       | false =>
         have hop:op' = op:=by rw [h5,q1,q2];rfl
         subst hop;clear h5
         cases hv with
         | true =>
           go_wp2_with (first
            | ((first | (go_at_call 67;refine (Af _ _ _ _ _).mono ?_) | (go_at_call 80;refine (Jc.out _).mono ?_) | (go_at_call 79;refine (HH.out _).mono ?_));rintro e w' ⟨rfl,hb⟩;have Ac:=Ac.next hb;obtain ⟨_,_,_,_,_,_,_,_⟩:=Ac.fm.cells;obtain ⟨⟨_,_,_,_⟩,_⟩:=Ac.ra.four;obtain ⟨⟨_,_,_,_⟩,_⟩:=Ac.rb.four))
           exact bodyPost_ret (v:=.tuple #[.int .i64 off,.int .i64 0]) (by simp [results,results59,go_sem]) rfl ⟨rfl,Ac.fm.mod,Ac.fm.Ar⟩
         | false =>
           go_wp2_with (first
            | ((first | (go_at_call 67;refine (Af _ _ _ _ _).mono ?_) | (go_at_call 80;refine (Jc.out _).mono ?_) | (go_at_call 79;refine (HH.out _).mono ?_));rintro e w' ⟨rfl,hb⟩;have Ac:=Ac.next hb;obtain ⟨_,_,_,_,_,_,_,_⟩:=Ac.fm.cells;obtain ⟨⟨_,_,_,_⟩,_⟩:=Ac.ra.four;obtain ⟨⟨_,_,_,_⟩,_⟩:=Ac.rb.four))
           exact bodyPost_ret (v:=.tuple #[.int .i64 0,.int .i64 0]) (by simp [results,results59,go_sem]) rfl ⟨rfl,Ac.fm.mod,Ac.fm.Ar⟩
     | false =>
       have hop:op' = op:=by rw [h5,q1];rfl
       subst hop;clear h5
       cases hv with
       | true =>
         go_wp2_with (first
          | ((first | (go_at_call 67;refine (Af _ _ _ _ _).mono ?_) | (go_at_call 80;refine (Jc.out _).mono ?_) | (go_at_call 79;refine (HH.out _).mono ?_));rintro e w' ⟨rfl,hb⟩;have Ac:=Ac.next hb;obtain ⟨_,_,_,_,_,_,_,_⟩:=Ac.fm.cells;obtain ⟨⟨_,_,_,_⟩,_⟩:=Ac.ra.four;obtain ⟨⟨_,_,_,_⟩,_⟩:=Ac.rb.four))
         exact bodyPost_ret (v:=.tuple #[.int .i64 off,.int .i64 0]) (by simp [results,results59,go_sem]) rfl ⟨rfl,Ac.fm.mod,Ac.fm.Ar⟩
       | false =>
         go_wp2_with (first
          | ((first | (go_at_call 67;refine (Af _ _ _ _ _).mono ?_) | (go_at_call 80;refine (Jc.out _).mono ?_) | (go_at_call 79;refine (HH.out _).mono ?_));rintro e w' ⟨rfl,hb⟩;have Ac:=Ac.next hb;obtain ⟨_,_,_,_,_,_,_,_⟩:=Ac.fm.cells;obtain ⟨⟨_,_,_,_⟩,_⟩:=Ac.ra.four;obtain ⟨⟨_,_,_,_⟩,_⟩:=Ac.rb.four))
         exact bodyPost_ret (v:=.tuple #[.int .i64 0,.int .i64 0]) (by simp [results,results59,go_sem]) rfl ⟨rfl,Ac.fm.mod,Ac.fm.Ar⟩
  ·obtain ⟨al,ha⟩:∃ al,Ii ⟨K,t,o,x⟩ ⟨K2,t2,o2,x2⟩ = al:=⟨_,rfl⟩;rw [ha] at h5;have Jc:=hid (fun w'=>by have:=Tm K t o x K2 t2 o2 x2 w';rw [ha] at this;exact this);clear HM ha
   cases hk:(K == 1) with
   | true =>
     have hk2:(K2 == 1) = false:=by rw [hk] at h1;simpa using h1
     obtain rfl:K = 1:=by simpa using hk
     clear h1 hk;simp at h6
   | false =>
     clear h1;have Auc:(op == 27) = true\/(op == 28) = true:=by simp at h6;simpa using h6.2
     have hk5:(K == 5) = true:=by simp at h6;simpa using h6.1.1.1
     obtain rfl:reg = false:=by simp at h6;exact h6.1.1.2
     have him:(Aa == 0) = true:=by simp at h6;simpa using h6.1.2
     clear h6
     cases al with
     | true =>
       have h37:(op != 37) = false:=by simpa using h5
       clear h5
       cases h28:(op == 28) with
       | true =>
         have h27:(op == 27) = false:=by simp at h28 ⊢;omega
         rw [h28] at hby;replace hby:by' = off:=hby.trans (if_pos rfl)
         subst hby
         go_wp2_with (first
          | ((first | (go_at_call 67;refine (Af _ _ _ _ _).mono ?_) | (go_at_call 80;refine (Jc.out _).mono ?_) | (go_at_call 79;refine (HH.out _).mono ?_));rintro e w' ⟨rfl,hb⟩;have Ac:=Ac.next hb;obtain ⟨_,_,_,_,_,_,_,_⟩:=Ac.fm.cells;obtain ⟨⟨_,_,_,_⟩,_⟩:=Ac.ra.four;obtain ⟨⟨_,_,_,_⟩,_⟩:=Ac.rb.four))
         exact bodyPost_ret (v:=.tuple #[.int .i64 by',.int .i64 0]) (by simp [results,results59,go_sem]) rfl ⟨rfl,Ac.fm.mod,Ac.fm.Ar⟩
       | false =>
         have h27:(op == 27) = true:=by rw [h28] at Auc;simpa using Auc
         rw [h28] at hby;replace hby:by' = 0:=hby.trans (if_neg Bool.false_ne_true)
         subst hby
         go_wp2_with (first
          | ((first | (go_at_call 67;refine (Af _ _ _ _ _).mono ?_) | (go_at_call 80;refine (Jc.out _).mono ?_) | (go_at_call 79;refine (HH.out _).mono ?_));rintro e w' ⟨rfl,hb⟩;have Ac:=Ac.next hb;obtain ⟨_,_,_,_,_,_,_,_⟩:=Ac.fm.cells;obtain ⟨⟨_,_,_,_⟩,_⟩:=Ac.ra.four;obtain ⟨⟨_,_,_,_⟩,_⟩:=Ac.rb.four))
         exact bodyPost_ret (v:=.tuple #[.int .i64 0,.int .i64 0]) (by simp [results,results59,go_sem]) rfl ⟨rfl,Ac.fm.mod,Ac.fm.Ar⟩
     | false =>
       clear h5
       cases h28:(op == 28) with
       | true =>
         have h27:(op == 27) = false:=by simp at h28 ⊢;omega
         rw [h28] at hby;replace hby:by' = off:=hby.trans (if_pos rfl)
         subst hby
         go_wp2_with (first
          | ((first | (go_at_call 67;refine (Af _ _ _ _ _).mono ?_) | (go_at_call 80;refine (Jc.out _).mono ?_) | (go_at_call 79;refine (HH.out _).mono ?_));rintro e w' ⟨rfl,hb⟩;have Ac:=Ac.next hb;obtain ⟨_,_,_,_,_,_,_,_⟩:=Ac.fm.cells;obtain ⟨⟨_,_,_,_⟩,_⟩:=Ac.ra.four;obtain ⟨⟨_,_,_,_⟩,_⟩:=Ac.rb.four))
         exact bodyPost_ret (v:=.tuple #[.int .i64 by',.int .i64 0]) (by simp [results,results59,go_sem]) rfl ⟨rfl,Ac.fm.mod,Ac.fm.Ar⟩
       | false =>
         have h27:(op == 27) = true:=by rw [h28] at Auc;simpa using Auc
         rw [h28] at hby;replace hby:by' = 0:=hby.trans (if_neg Bool.false_ne_true)
         subst hby
         go_wp2_with (first
          | ((first | (go_at_call 67;refine (Af _ _ _ _ _).mono ?_) | (go_at_call 80;refine (Jc.out _).mono ?_) | (go_at_call 79;refine (HH.out _).mono ?_));rintro e w' ⟨rfl,hb⟩;have Ac:=Ac.next hb;obtain ⟨_,_,_,_,_,_,_,_⟩:=Ac.fm.cells;obtain ⟨⟨_,_,_,_⟩,_⟩:=Ac.ra.four;obtain ⟨⟨_,_,_,_⟩,_⟩:=Ac.rb.four))
         exact bodyPost_ret (v:=.tuple #[.int .i64 0,.int .i64 0]) (by simp [results,results59,go_sem]) rfl ⟨rfl,Ac.fm.mod,Ac.fm.Ar⟩
  ·obtain ⟨al,ha⟩:∃ al,Ii ⟨K,t,o,x⟩ ⟨K2,t2,o2,x2⟩ = al:=⟨_,rfl⟩;rw [ha] at h5;have Jc:=hid (fun w'=>by have:=Tm K t o x K2 t2 o2 x2 w';rw [ha] at this;exact this);clear HM ha
   cases hk:(K == 1) with
   | true =>
     have hk2:(K2 == 1) = false:=by rw [hk] at h1;simpa using h1
     obtain rfl:K = 1:=by simpa using hk
     clear h1 hk
     cases al with
     | true =>
       have h37:(op != 37) = false:=by simpa using h5
       clear h5
       go_wp2_with (first
        | ((first | (go_at_call 67;refine (Af _ _ _ _ _).mono ?_) | (go_at_call 80;refine (Jc.out _).mono ?_) | (go_at_call 79;refine (HH.out _).mono ?_));rintro e w' ⟨rfl,hb⟩;have Ac:=Ac.next hb;obtain ⟨_,_,_,_,_,_,_,_⟩:=Ac.fm.cells;obtain ⟨⟨_,_,_,_⟩,_⟩:=Ac.ra.four;obtain ⟨⟨_,_,_,_⟩,_⟩:=Ac.rb.four))
       exact bodyPost_ret (v:=.tuple #[.int .i64 0,.int .i64 80]) (by simp [results,results59,go_sem]) rfl ⟨rfl,Ac.fm.mod,Ac.fm.Ar⟩
     | false =>
       clear h5
       go_wp2_with (first
        | ((first | (go_at_call 67;refine (Af _ _ _ _ _).mono ?_) | (go_at_call 80;refine (Jc.out _).mono ?_) | (go_at_call 79;refine (HH.out _).mono ?_));rintro e w' ⟨rfl,hb⟩;have Ac:=Ac.next hb;obtain ⟨_,_,_,_,_,_,_,_⟩:=Ac.fm.cells;obtain ⟨⟨_,_,_,_⟩,_⟩:=Ac.ra.four;obtain ⟨⟨_,_,_,_⟩,_⟩:=Ac.rb.four))
       exact bodyPost_ret (v:=.tuple #[.int .i64 0,.int .i64 80]) (by simp [results,results59,go_sem]) rfl ⟨rfl,Ac.fm.mod,Ac.fm.Ar⟩
   | false =>
     clear h1
     cases al with
     | true =>
       have h37:(op != 37) = false:=by simpa using h5
       clear h5
       cases hk5:(K == 5) with
       | true =>
         cases reg with
         | true =>
           go_wp2_with (first
            | ((first | (go_at_call 67;refine (Af _ _ _ _ _).mono ?_) | (go_at_call 80;refine (Jc.out _).mono ?_) | (go_at_call 79;refine (HH.out _).mono ?_));rintro e w' ⟨rfl,hb⟩;have Ac:=Ac.next hb;obtain ⟨_,_,_,_,_,_,_,_⟩:=Ac.fm.cells;obtain ⟨⟨_,_,_,_⟩,_⟩:=Ac.ra.four;obtain ⟨⟨_,_,_,_⟩,_⟩:=Ac.rb.four))
           exact bodyPost_ret (v:=.tuple #[.int .i64 0,.int .i64 80]) (by simp [results,results59,go_sem]) rfl ⟨rfl,Ac.fm.mod,Ac.fm.Ar⟩
         | false =>
           cases him:(Aa == 0) with
           | true =>
             cases h27:(op == 27) with
             | true =>
               rw [hk5,him,h27] at h6;simp at h6
             | false =>
               cases h28:(op == 28) with
               | true =>
                 rw [hk5,him,h28] at h6;simp at h6
               | false =>
                 go_wp2_with (first
                  | ((first | (go_at_call 67;refine (Af _ _ _ _ _).mono ?_) | (go_at_call 80;refine (Jc.out _).mono ?_) | (go_at_call 79;refine (HH.out _).mono ?_));rintro e w' ⟨rfl,hb⟩;have Ac:=Ac.next hb;obtain ⟨_,_,_,_,_,_,_,_⟩:=Ac.fm.cells;obtain ⟨⟨_,_,_,_⟩,_⟩:=Ac.ra.four;obtain ⟨⟨_,_,_,_⟩,_⟩:=Ac.rb.four))
                 exact bodyPost_ret (v:=.tuple #[.int .i64 0,.int .i64 80]) (by simp [results,results59,go_sem]) rfl ⟨rfl,Ac.fm.mod,Ac.fm.Ar⟩
           | false =>
             go_wp2_with (first
              | ((first | (go_at_call 67;refine (Af _ _ _ _ _).mono ?_) | (go_at_call 80;refine (Jc.out _).mono ?_) | (go_at_call 79;refine (HH.out _).mono ?_));rintro e w' ⟨rfl,hb⟩;have Ac:=Ac.next hb;obtain ⟨_,_,_,_,_,_,_,_⟩:=Ac.fm.cells;obtain ⟨⟨_,_,_,_⟩,_⟩:=Ac.ra.four;obtain ⟨⟨_,_,_,_⟩,_⟩:=Ac.rb.four))
             exact bodyPost_ret (v:=.tuple #[.int .i64 0,.int .i64 80]) (by simp [results,results59,go_sem]) rfl ⟨rfl,Ac.fm.mod,Ac.fm.Ar⟩
       | false =>
         go_wp2_with (first
          | ((first | (go_at_call 67;refine (Af _ _ _ _ _).mono ?_) | (go_at_call 80;refine (Jc.out _).mono ?_) | (go_at_call 79;refine (HH.out _).mono ?_));rintro e w' ⟨rfl,hb⟩;have Ac:=Ac.next hb;obtain ⟨_,_,_,_,_,_,_,_⟩:=Ac.fm.cells;obtain ⟨⟨_,_,_,_⟩,_⟩:=Ac.ra.four;obtain ⟨⟨_,_,_,_⟩,_⟩:=Ac.rb.four))
         exact bodyPost_ret (v:=.tuple #[.int .i64 0,.int .i64 80]) (by simp [results,results59,go_sem]) rfl ⟨rfl,Ac.fm.mod,Ac.fm.Ar⟩
     | false =>
       clear h5
       cases hk5:(K == 5) with
       | true =>
         cases reg with
         | true =>
           go_wp2_with (first
            | ((first | (go_at_call 67;refine (Af _ _ _ _ _).mono ?_) | (go_at_call 80;refine (Jc.out _).mono ?_) | (go_at_call 79;refine (HH.out _).mono ?_));rintro e w' ⟨rfl,hb⟩;have Ac:=Ac.next hb;obtain ⟨_,_,_,_,_,_,_,_⟩:=Ac.fm.cells;obtain ⟨⟨_,_,_,_⟩,_⟩:=Ac.ra.four;obtain ⟨⟨_,_,_,_⟩,_⟩:=Ac.rb.four))
           exact bodyPost_ret (v:=.tuple #[.int .i64 0,.int .i64 80]) (by simp [results,results59,go_sem]) rfl ⟨rfl,Ac.fm.mod,Ac.fm.Ar⟩
         | false =>
           cases him:(Aa == 0) with
           | true =>
             cases h27:(op == 27) with
             | true =>
               rw [hk5,him,h27] at h6;simp at h6
             | false =>
               cases h28:(op == 28) with
               | true =>
                 rw [hk5,him,h28] at h6;simp at h6
               | false =>
                 go_wp2_with (first
                  | ((first | (go_at_call 67;refine (Af _ _ _ _ _).mono ?_) | (go_at_call 80;refine (Jc.out _).mono ?_) | (go_at_call 79;refine (HH.out _).mono ?_));rintro e w' ⟨rfl,hb⟩;have Ac:=Ac.next hb;obtain ⟨_,_,_,_,_,_,_,_⟩:=Ac.fm.cells;obtain ⟨⟨_,_,_,_⟩,_⟩:=Ac.ra.four;obtain ⟨⟨_,_,_,_⟩,_⟩:=Ac.rb.four))
                 exact bodyPost_ret (v:=.tuple #[.int .i64 0,.int .i64 80]) (by simp [results,results59,go_sem]) rfl ⟨rfl,Ac.fm.mod,Ac.fm.Ar⟩
           | false =>
             go_wp2_with (first
              | ((first | (go_at_call 67;refine (Af _ _ _ _ _).mono ?_) | (go_at_call 80;refine (Jc.out _).mono ?_) | (go_at_call 79;refine (HH.out _).mono ?_));rintro e w' ⟨rfl,hb⟩;have Ac:=Ac.next hb;obtain ⟨_,_,_,_,_,_,_,_⟩:=Ac.fm.cells;obtain ⟨⟨_,_,_,_⟩,_⟩:=Ac.ra.four;obtain ⟨⟨_,_,_,_⟩,_⟩:=Ac.rb.four))
             exact bodyPost_ret (v:=.tuple #[.int .i64 0,.int .i64 80]) (by simp [results,results59,go_sem]) rfl ⟨rfl,Ac.fm.mod,Ac.fm.Ar⟩
       | false =>
         go_wp2_with (first
          | ((first | (go_at_call 67;refine (Af _ _ _ _ _).mono ?_) | (go_at_call 80;refine (Jc.out _).mono ?_) | (go_at_call 79;refine (HH.out _).mono ?_));rintro e w' ⟨rfl,hb⟩;have Ac:=Ac.next hb;obtain ⟨_,_,_,_,_,_,_,_⟩:=Ac.fm.cells;obtain ⟨⟨_,_,_,_⟩,_⟩:=Ac.ra.four;obtain ⟨⟨_,_,_,_⟩,_⟩:=Ac.rb.four))
         exact bodyPost_ret (v:=.tuple #[.int .i64 0,.int .i64 80]) (by simp [results,results59,go_sem]) rfl ⟨rfl,Ac.fm.mod,Ac.fm.Ar⟩
end Go.Proofs.YtjacnhnaoenelaaGreat
