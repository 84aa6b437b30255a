import Derived.Test.YtjacnhnaoenelaaGreatQMachAA
import Derived.Test.YtjacnhnaoenelaaGreatQMachS
set_option maxRecDepth 100000
set_option maxHeartbeats 16000000
namespace Go.Proofs.YtjacnhnaoenelaaGreat
open Lib (hid)
open Go.Proofs.Tryz
open Go.RowKit
set_option linter.unusedVariables false
set_option linter.unusedSimpArgs false
inductive Vh (op:Int) (Ad:Bool) (K T O A K2 T2 O2 B:Int) (V:Val) (g:Int):Prop
 | mov:op = 15->Ad = false->(K2 != 0) = true->V = ⟨K2,T2,O2,B⟩->g = 0->Vh op Ad K T O A K2 T2 O2 B V g
 | alu (v:Int):(op = 15->Ad = false->(K2 != 0) = false)->K = 1->K2 = 1->V = ⟨1,0,0,v⟩->(∀ w',Calls prog 68 #[.int .i64 op,.bool Ad,.int .i64 A,.int .i64 B] w' fun e w''=>e = .returned (.tuple #[.int .i64 v,.int .i64 g])/\Below w'.heap.size w' w'')->Vh op Ad K T O A K2 T2 O2 B V g
 | trap:(op = 15->Ad = false->(K2 != 0) = false)->((K == 1) && (K2 == 1)) = false->(Ad || (K == 0) || (K2 == 0)) = true->g = 80->Vh op Ad K T O A K2 T2 O2 B V g
 | sum:(op = 15->Ad = false->(K2 != 0) = false)->((K == 1) && (K2 == 1)) = false->Ad = false->(K == 0) = false->(K2 == 0) = false->(∀ w',Calls prog 69 #[.int .i64 op,.agg #[.int .i64 K,.int .i64 T,.int .i64 O,.int .i64 A],.agg #[.int .i64 K2,.int .i64 T2,.int .i64 O2,.int .i64 B]] w' (Ol w' (.tuple #[.agg #[.int .i64 V.k,.int .i64 V.t,.int .i64 V.o,.int .i64 V.x],.int .i64 g])))->Vh op Ad K T O A K2 T2 O2 B V g
def Aqm (w:World) (bx:Nat) (cs:List Value) (d:Nat) (V:Val) (g:Int):Ending->World->Prop:=fun e w'=>(g = 0/\Wrote w bx (D9 cs (423 + d * 4) (.int .i64 V.k) (.int .i64 V.t) (.int .i64 V.o) (.int .i64 V.x)) 0 0 e w')\/(g ≠ 0/\Wrote w bx cs 0 g e w')
theorem Aij (op:Int) (Ad reg:Bool) (size src off Aa:Int) (d:Nat) (hd:d < 11) (bx:Nat) (cs:List Value) (hl:cs.length = 471) (k t o x k2 t2 o2 x2:Int) (hu:Ie cs d ⟨k,t,o,x⟩)
 (hs:∀ w',Row w' bx 87 cs->Calls prog 66 #[.pointer (some ⟨bx,0,none⟩),.agg #[.int .i64 op,.bool Ad,.bool reg,.int .i64 size,.int .i64 d,.int .i64 src,.int .i64 off,.int .i64 Aa]] w' (Ol w' (.agg #[.int .i64 k2,.int .i64 t2,.int .i64 o2,.int .i64 x2])))
 (K T O A K2 T2 O2 B g:Int) (V:Val) (hB:op = 14/\K2 = 1/\T2 = 0/\O2 = 0/\B = 0\/op ≠ 14/\K2 = k2/\T2 = t2/\O2 = o2/\B = x2)
 (hA:op = 15/\K = 1/\T = 0/\O = 0/\A = 0\/op ≠ 15/\K = k/\T = t/\O = o/\A = x)
 (hm:Vh op Ad K T O A K2 T2 O2 B V g)
 (w:World) (h:Row w bx 87 cs) :
 Calls prog 52 #[.pointer (some ⟨bx,0,none⟩),.agg #[.int .i64 op,.bool Ad,.bool reg,.int .i64 size,.int .i64 d,.int .i64 src,.int .i64 off,.int .i64 Aa]] w (Aqm w bx cs d V g):=by
 have hj1:(0:Int) <= (d:Int):=by omega
 have hj2:(d:Int) < 11:=by omega
 have HF:=hid (FM.begin h op Ad reg size d src off Aa);have HS:=hid hs;clear h hs;go_enter func52,ntmps52;go_upto_region 1 with fail;generalize World.alloc _ _ = w1 at HF ⊢
 go_cut [6,7] from 12 (fun s6 s7 wx=>∃ ab bb,s6 = .pointer (some ⟨ab,0,none⟩)/\s7 = .pointer (some ⟨bb,0,none⟩)/\FA w bx w.heap.size ab bb cs op Ad reg size d src off Aa [.int .i64 k,.int .i64 t,.int .i64 o,.int .i64 x] [.int .i64 k2,.int .i64 t2,.int .i64 o2,.int .i64 x2] wx)
 case first=>
  have hks:=HF.out.drew.k12 hu;have hsz:=HF.out.ins.lt;have hbs:=HF.out.Ar.lt;have hms:=HF.out.mod.size;have Zi:w1.heap.size ≠ bx:=by omega
  have N9:w1.heap.size ≠ w.heap.size:=by omega
  have hw6:w.heap.size <= w1.heap.size:=by omega
  have hn7:w1.heap.size + 1 ≠ bx:=by omega
  have hm7:w1.heap.size + 1 ≠ w.heap.size:=by omega
  have Aey:w1.heap.size ≠ w1.heap.size + 1:=by omega
  have hw7:w.heap.size <= w1.heap.size + 1:=by omega
  have HSS:=hid (fun w' (hw:((w'.cell? ⟨w.heap.size,0,none⟩ = some (.int .i64 op)/\w'.cell? ⟨w.heap.size,1,none⟩ = some (.bool Ad)/\w'.cell? ⟨w.heap.size,2,none⟩ = some (.bool reg)/\w'.cell? ⟨w.heap.size,3,none⟩ = some (.int .i64 size)/\w'.cell? ⟨w.heap.size,4,none⟩ = some (.int .i64 d)/\w'.cell? ⟨w.heap.size,5,none⟩ = some (.int .i64 src)/\w'.cell? ⟨w.heap.size,6,none⟩ = some (.int .i64 off)/\w'.cell? ⟨w.heap.size,7,none⟩ = some (.int .i64 Aa)) /\
   (w'.cell? ⟨bx,423 + d * 4,none⟩ = some (.int .i64 k)/\w'.cell? ⟨bx,423 + d * 4 + 1,none⟩ = some (.int .i64 t)/\w'.cell? ⟨bx,423 + d * 4 + 2,none⟩ = some (.int .i64 o)/\w'.cell? ⟨bx,423 + d * 4 + 3,none⟩ = some (.int .i64 x))/\FM w bx w.heap.size cs op Ad reg size d src off Aa w'))=>HS.out w' hw.2.2.Ar)
  go_region_held3 (fun w'=>((w'.cell? ⟨w.heap.size,0,none⟩ = some (.int .i64 op)/\w'.cell? ⟨w.heap.size,1,none⟩ = some (.bool Ad)/\w'.cell? ⟨w.heap.size,2,none⟩ = some (.bool reg)/\w'.cell? ⟨w.heap.size,3,none⟩ = some (.int .i64 size)/\w'.cell? ⟨w.heap.size,4,none⟩ = some (.int .i64 d)/\w'.cell? ⟨w.heap.size,5,none⟩ = some (.int .i64 src)/\w'.cell? ⟨w.heap.size,6,none⟩ = some (.int .i64 off)/\w'.cell? ⟨w.heap.size,7,none⟩ = some (.int .i64 Aa)) /\
   (w'.cell? ⟨bx,423 + d * 4,none⟩ = some (.int .i64 k)/\w'.cell? ⟨bx,423 + d * 4 + 1,none⟩ = some (.int .i64 t)/\w'.cell? ⟨bx,423 + d * 4 + 2,none⟩ = some (.int .i64 o)/\w'.cell? ⟨bx,423 + d * 4 + 3,none⟩ = some (.int .i64 x))/\FM w bx w.heap.size cs op Ad reg size d src off Aa w'))
   (first
     | with_reducible assumption
     | with_reducible exact FM.q12 hu (FM.q12 hu hS Zi N9 hw6 _ _ _ _) hn7 hm7 hw7 _ _ _ _
     | with_reducible exact FM.q12 hu (FM.q12 hu hS hn7 hm7 hw7 _ _ _ _) Zi N9 hw6 _ _ _ _
     | with_reducible exact FM.n12 hu (by with_reducible assumption) hb
     | with_reducible exact FM.n12 hu (by with_reducible assumption) ((Below.refl _ _).alloc nl _)
     | with_reducible exact FM.n12 hu hS ((Below.refl _ _).alloc nl _)
     | with_reducible exact FM.n12 hu (FM.n12 hu hS ((Below.refl _ _).alloc nl _)) ((Below.refl _ _).alloc nl _)
     | with_reducible exact FM.q12 hu hS Zi N9 hw6 _ _ _ _
     | with_reducible exact FM.q12 hu hS hn7 hm7 hw7 _ _ _ _
     | with_reducible exact FM.n12 hu (FM.q12 hu hS Zi N9 hw6 _ _ _ _) ((Below.refl _ _).alloc nl _)
     | with_reducible exact FM.n12 hu (FM.q12 hu hS hn7 hm7 hw7 _ _ _ _) ((Below.refl _ _).alloc nl _)
     | fail "none")
   (first
     | (go_at_call 66;refine (HSS.out _ (by with_reducible assumption)).mono ?_;rintro e w' ⟨rfl,hb⟩;have hS:=FM.n12 hu (by with_reducible assumption) hb;first | (with_reducible have hx:=Af7 (w1:=w1) hb;obtain ⟨_,⟨_,_,_,_⟩,_,_,_,_⟩:=hx) | (with_reducible have hx:=Af8 (w1:=w1) hb;obtain ⟨_,_,⟨⟨_,_,_,_⟩,_,_,_,_⟩,⟨_,_,_,_⟩,_,_,_,_⟩:=hx) | skip))
  all_goals
   rename_i C9;clear C9;go_wp2_with fail;go_meet
   case rel=>
    first
     | with_reducible exact ⟨_,_,rfl,rfl,X3 hS.2.2 _ _⟩
     | with_reducible exact ⟨_,_,rfl,rfl,(X3 hS.2.2 _ _).swap⟩
     | with_reducible exact ⟨_,_,rfl,rfl,X4 hS.2.2 ((made1 w1).below hb (made1 w1).lt) Zi N9 hw6 _ _ _ _ _⟩
     | with_reducible exact ⟨_,_,rfl,rfl,(X4 hS.2.2 ((made1 w1).below hb (made1 w1).lt) Zi N9 hw6 _ _ _ _ _).swap⟩
     | with_reducible exact ⟨_,_,rfl,rfl,X5 hS.2.2 ((Ig w1).below hb (Ig w1).lt) ((made2 w1).below hb (made2 w1).lt) Zi N9 hw6 hn7 hm7 hw7 Aey _ _ _ _ _ _ _ _⟩
     | with_reducible exact ⟨_,_,rfl,rfl,X5 hS.2.2 ((made2 w1).below hb (made2 w1).lt) ((Ig w1).below hb (Ig w1).lt) hn7 hm7 hw7 Zi N9 hw6 (Ne.symm Aey) _ _ _ _ _ _ _ _⟩
     | trace_state
 case rest=>
  obtain ⟨ab,bb,rfl,rfl,ny⟩:=hcut;have HFA:=hid ny;clear ny;clear HF hu;obtain ⟨c0,c1,c2,c3,c4,c5,c6,c7⟩:=HFA.out.fm.cells;obtain ⟨⟨b0,b1,b2,b3⟩,f0,f1,f2,f3⟩:=HFA.out.rb.four;have HM:=hid hm;clear hm;go_upto_if 24 with fail
  go_cut [] from 22 (fun wx=>FA w bx w.heap.size ab bb cs op Ad reg size d src off Aa [.int .i64 k,.int .i64 t,.int .i64 o,.int .i64 x] [.int .i64 K2,.int .i64 T2,.int .i64 O2,.int .i64 B] wx)
  case first=>
   rcases hB with ⟨rfl,rfl,rfl,rfl,rfl⟩ | ⟨hn,rfl,rfl,rfl,rfl⟩
   ·go_wp2_with (go_at_call 35;refine (Gh _ _).mono ?_;rintro e w' ⟨rfl,hb⟩;have ny:=HFA.out.next hb;obtain ⟨⟨_,_,_,_⟩,_,_,_,_⟩:=ny.rb.four);go_meet
    case rel=>exact ny.Azo _ _ _ _
   ·have ht:(op == 14) = false:=by simpa using hn
    go_wp2_with fail;go_meet
    case rel=>exact HFA.out
  case rest=>
   have Aez:=hid hcut;clear hcut HFA c0 c1 c2 c3 c4 c5 c6 c7 b0 b1 b2 b3 f0 f1 f2 f3 hB;obtain ⟨c0,c1,c2,c3,c4,c5,c6,c7⟩:=Aez.out.fm.cells;obtain ⟨⟨b0,b1,b2,b3⟩,f0,f1,f2,f3⟩:=Aez.out.rb.four;go_upto_if 28 with fail
   go_cut [] from 22 (fun wx=>FA w bx w.heap.size ab bb cs op Ad reg size d src off Aa [.int .i64 K,.int .i64 T,.int .i64 O,.int .i64 A] [.int .i64 K2,.int .i64 T2,.int .i64 O2,.int .i64 B] wx/\(op = 15->Ad = false->(K2 != 0) = false))
   case first=>
    rcases hA with ⟨rfl,rfl,rfl,rfl,rfl⟩ | ⟨hn,rfl,rfl,rfl,rfl⟩
    ·cases Ad with
     | false =>
       cases hk2:(K2 != 0) with
       | true =>
         rcases HM.out with ⟨_,_,_,rfl,rfl⟩ | ⟨_,h0,_,_,_,_⟩ | ⟨h0,_,_,_⟩ | ⟨h0,_,_,_,_,_⟩
         rotate_left
         ·have:=h0 rfl rfl;rw [hk2] at this;cases this
         ·have:=h0 rfl rfl;rw [hk2] at this;cases this
         ·have:=h0 rfl rfl;rw [hk2] at this;cases this
         obtain ⟨_,_,_,_,⟨_,_,_,_⟩,_,_,_,_⟩:=Aez.out.fm.row4 hl d hd;have hF:=(Aez.out.fm.next (Below.refl _ _).drew).D9 (423 + d * 4) (.int .i64 K2) (.int .i64 T2) (.int .i64 O2) (.int .i64 B);go_wp2_with fail
         go_region
         go_wp2;exact bodyPost_ret (v:=.tuple #[.int .i64 0,.int .i64 0]) (by simp [results,results52,go_sem]) rfl (Or.inl ⟨rfl,rfl,hF.mod,hF.Ar⟩)
       | false =>
         go_wp2_with (go_at_call 35;refine (Gh _ _).mono ?_;rintro e w' ⟨rfl,hb⟩;have ny:=Aez.out.next hb;obtain ⟨⟨_,_,_,_⟩,_,_,_,_⟩:=ny.ra.four);go_meet
         case rel=>exact ⟨ny.Avu _ _ _ _,fun _ _=>hk2⟩
     | true =>
       go_wp2_with (go_at_call 35;refine (Gh _ _).mono ?_;rintro e w' ⟨rfl,hb⟩;have ny:=Aez.out.next hb;obtain ⟨⟨_,_,_,_⟩,_,_,_,_⟩:=ny.ra.four);go_meet
       case rel=>exact ⟨ny.Avu _ _ _ _,by simp⟩
    ·have ht:(op == 15) = false:=by simpa using hn
     go_wp2_with fail;go_meet
     case rel=>exact ⟨Aez.out,fun h=>absurd h hn⟩
   case rest=>
    obtain ⟨ny,hnar⟩:=hcut;clear Aez c0 c1 c2 c3 c4 c5 c6 c7 b0 b1 b2 b3 f0 f1 f2 f3 hA HS;obtain ⟨c0,c1,c2,c3,c4,c5,c6,c7⟩:=ny.fm.cells;obtain ⟨⟨a0,a1,a2,a3⟩,_⟩:=ny.ra.four;obtain ⟨⟨b0,b1,b2,b3⟩,_⟩:=ny.rb.four;have Ac:=ny;clear ny
    rcases HM.out with ⟨h0,h1,h2,_,_⟩ | ⟨v,_,rfl,rfl,rfl,hal⟩ | ⟨_,h1,h2,rfl⟩ | ⟨_,h1,rfl,h3,h4,hsm⟩
    ·have:=hnar h0 h1;rw [h2] at this;cases this
    ·have Jc:=hid hal;clear hal HM hnar
     by_cases hg:g = 0
     ·subst hg;go_upto_region 12 with (first
      | (go_at_call 67;refine (Af _ _ _ _ _).mono ?_;rintro e w' ⟨rfl,hb⟩;have Ac:=Ac.next hb;obtain ⟨_,_,_,_,_,_,_,_⟩:=Ac.fm.cells;obtain ⟨⟨_,_,_,_⟩,_⟩:=Ac.ra.four;obtain ⟨⟨_,_,_,_⟩,_⟩:=Ac.rb.four)
      | ((first | (go_at_call 68;refine (Jc.out _).mono ?_) | (go_at_call 69;refine (HSM.out _).mono ?_));rintro e w' ⟨rfl,hb⟩;have Ac:=Ac.next hb;obtain ⟨_,_,_,_,_,_,_,_⟩:=Ac.fm.cells))
      clear c0 c1 c2 c3 c4 c5 c6 c7 a0 a1 a2 a3 b0 b1 b2 b3;have HFA:=hid Ac;generalize w' = wz at HFA ⊢;have hks:=((show FX w bx w.heap.size op Ad reg size d src off Aa wz from ⟨_,HFA.out.fm,hl⟩).next (Below.refl _ _).drew).k47
      go_region_held3 (fun w'=>w'.cell? ⟨w.heap.size,4,none⟩ = some (.int .i64 d)/\w'.cell? ⟨w.heap.size,7,none⟩ = some (.int .i64 Aa)/\FX w bx w.heap.size op Ad reg size d src off Aa w')
       (first
         | assumption
         | exact FX.n47 (by assumption) hbN
         | exact (FX.D9 (FX.n47 (by assumption) hbN).2.2 _ _ _ _ _).k47
         | exact (FX.D9 (by assumption) _ _ _ _ _).k47)
       (first
         | (go_at_call 35;refine (Gh _ _).mono ?_;rintro e wN ⟨rfl,hbN⟩;have hFc:=HFA.out.fm.drew.next hbN;obtain ⟨_,_,_,_,⟨_,_,_,_⟩,_,_,_,_⟩:=hFc.row4 hl d hd))
      rename_i C9;have HF2:=hid (hFc.D9 (423 + d * 4) (.int .i64 1) (.int .i64 0) (.int .i64 0) (.int .i64 v));clear C9 hks hFc;generalize World.setCell _ _ _ = w2 at HF2 ⊢;go_wp2;exact bodyPost_ret (v:=.tuple #[.int .i64 0,.int .i64 0]) (by simp [results,results52,go_sem]) rfl (Or.inl ⟨rfl,rfl,HF2.out.mod,HF2.out.Ar⟩)
     ·have hgt:(g == 0) = false:=by simpa using hg
      go_wp2_with (first
      | (go_at_call 67;refine (Af _ _ _ _ _).mono ?_;rintro e w' ⟨rfl,hb⟩;have Ac:=Ac.next hb;obtain ⟨_,_,_,_,_,_,_,_⟩:=Ac.fm.cells;obtain ⟨⟨_,_,_,_⟩,_⟩:=Ac.ra.four;obtain ⟨⟨_,_,_,_⟩,_⟩:=Ac.rb.four)
      | ((first | (go_at_call 68;refine (Jc.out _).mono ?_) | (go_at_call 69;refine (HSM.out _).mono ?_));rintro e w' ⟨rfl,hb⟩;have Ac:=Ac.next hb;obtain ⟨_,_,_,_,_,_,_,_⟩:=Ac.fm.cells))
      exact bodyPost_ret (v:=.tuple #[.int .i64 0,.int .i64 g]) (by simp [results,results52,go_sem]) rfl (Or.inr ⟨hg,rfl,Ac.fm.mod,Ac.fm.Ar⟩)
    ·clear HM hnar
     cases hk:(K == 1) with
     | false =>
       clear h1
       cases Ad with
       | true =>
         go_wp2_with (first
       | (go_at_call 67;refine (Af _ _ _ _ _).mono ?_;rintro e w' ⟨rfl,hb⟩;have Ac:=Ac.next hb;obtain ⟨_,_,_,_,_,_,_,_⟩:=Ac.fm.cells;obtain ⟨⟨_,_,_,_⟩,_⟩:=Ac.ra.four;obtain ⟨⟨_,_,_,_⟩,_⟩:=Ac.rb.four)
       | ((first | (go_at_call 68; refine (Jc.out _).mono ?_) | (go_at_call 69; refine (HSM.out _).mono ?_)); rintro e w' ⟨rfl, hb⟩; have Ac := Ac.next hb; obtain ⟨_, _, _, _, _, _, _, _⟩ := Ac.fm.cells))
         exact bodyPost_ret (v:=.tuple #[.int .i64 0,.int .i64 80]) (by simp [results,results52,go_sem]) rfl (Or.inr ⟨by decide,rfl,Ac.fm.mod,Ac.fm.Ar⟩)
       | false =>
         cases hk0:(K == 0) with
         | true =>
           go_wp2_with (first
       | (go_at_call 67;refine (Af _ _ _ _ _).mono ?_;rintro e w' ⟨rfl,hb⟩;have Ac:=Ac.next hb;obtain ⟨_,_,_,_,_,_,_,_⟩:=Ac.fm.cells;obtain ⟨⟨_,_,_,_⟩,_⟩:=Ac.ra.four;obtain ⟨⟨_,_,_,_⟩,_⟩:=Ac.rb.four)
       | ((first | (go_at_call 68; refine (Jc.out _).mono ?_) | (go_at_call 69; refine (HSM.out _).mono ?_)); rintro e w' ⟨rfl, hb⟩; have Ac := Ac.next hb; obtain ⟨_, _, _, _, _, _, _, _⟩ := Ac.fm.cells))
           exact bodyPost_ret (v:=.tuple #[.int .i64 0,.int .i64 80]) (by simp [results,results52,go_sem]) rfl (Or.inr ⟨by decide,rfl,Ac.fm.mod,Ac.fm.Ar⟩)
         | false =>
           have Ae0:(K2 == 0) = true:=by rw [hk0] at h2;simpa using h2
           go_wp2_with (first
       | (go_at_call 67;refine (Af _ _ _ _ _).mono ?_;rintro e w' ⟨rfl,hb⟩;have Ac:=Ac.next hb;obtain ⟨_,_,_,_,_,_,_,_⟩:=Ac.fm.cells;obtain ⟨⟨_,_,_,_⟩,_⟩:=Ac.ra.four;obtain ⟨⟨_,_,_,_⟩,_⟩:=Ac.rb.four)
       | ((first | (go_at_call 68; refine (Jc.out _).mono ?_) | (go_at_call 69; refine (HSM.out _).mono ?_)); rintro e w' ⟨rfl, hb⟩; have Ac := Ac.next hb; obtain ⟨_, _, _, _, _, _, _, _⟩ := Ac.fm.cells))
           exact bodyPost_ret (v:=.tuple #[.int .i64 0,.int .i64 80]) (by simp [results,results52,go_sem]) rfl (Or.inr ⟨by decide,rfl,Ac.fm.mod,Ac.fm.Ar⟩)
     | true =>
       have hk2:(K2 == 1) = false:=by rw [hk] at h1;simpa using h1
       obtain rfl:K = 1:=by simpa using hk
       clear h1 hk
       cases Ad with
       | true =>
         go_wp2_with (first
       | (go_at_call 67;refine (Af _ _ _ _ _).mono ?_;rintro e w' ⟨rfl,hb⟩;have Ac:=Ac.next hb;obtain ⟨_,_,_,_,_,_,_,_⟩:=Ac.fm.cells;obtain ⟨⟨_,_,_,_⟩,_⟩:=Ac.ra.four;obtain ⟨⟨_,_,_,_⟩,_⟩:=Ac.rb.four)
       | ((first | (go_at_call 68; refine (Jc.out _).mono ?_) | (go_at_call 69; refine (HSM.out _).mono ?_)); rintro e w' ⟨rfl, hb⟩; have Ac := Ac.next hb; obtain ⟨_, _, _, _, _, _, _, _⟩ := Ac.fm.cells))
         exact bodyPost_ret (v:=.tuple #[.int .i64 0,.int .i64 80]) (by simp [results,results52,go_sem]) rfl (Or.inr ⟨by decide,rfl,Ac.fm.mod,Ac.fm.Ar⟩)
       | false =>
         have Ae0:(K2 == 0) = true:=by simpa using h2
         go_wp2_with (first
       | (go_at_call 67;refine (Af _ _ _ _ _).mono ?_;rintro e w' ⟨rfl,hb⟩;have Ac:=Ac.next hb;obtain ⟨_,_,_,_,_,_,_,_⟩:=Ac.fm.cells;obtain ⟨⟨_,_,_,_⟩,_⟩:=Ac.ra.four;obtain ⟨⟨_,_,_,_⟩,_⟩:=Ac.rb.four)
       | ((first | (go_at_call 68; refine (Jc.out _).mono ?_) | (go_at_call 69; refine (HSM.out _).mono ?_)); rintro e w' ⟨rfl, hb⟩; have Ac := Ac.next hb; obtain ⟨_, _, _, _, _, _, _, _⟩ := Ac.fm.cells))
         exact bodyPost_ret (v:=.tuple #[.int .i64 0,.int .i64 80]) (by simp [results,results52,go_sem]) rfl (Or.inr ⟨by decide,rfl,Ac.fm.mod,Ac.fm.Ar⟩)
    ·have HSM:=hid hsm;clear hsm HM hnar
     cases hk:(K == 1) with
     | false =>
       clear h1
       by_cases hg:g = 0
       ·subst hg;go_upto_region 18 with (first
       | (go_at_call 67;refine (Af _ _ _ _ _).mono ?_;rintro e w' ⟨rfl,hb⟩;have Ac:=Ac.next hb;obtain ⟨_,_,_,_,_,_,_,_⟩:=Ac.fm.cells;obtain ⟨⟨_,_,_,_⟩,_⟩:=Ac.ra.four;obtain ⟨⟨_,_,_,_⟩,_⟩:=Ac.rb.four)
       | ((first | (go_at_call 68;refine (Jc.out _).mono ?_) | (go_at_call 69;refine (HSM.out _).mono ?_));rintro e w' ⟨rfl,hb⟩;have Ac:=Ac.next hb;obtain ⟨_,_,_,_,_,_,_,_⟩:=Ac.fm.cells))
        have hFb:=Ac.fm.box (.cells #[.int .i64 V.k,.int .i64 V.t,.int .i64 V.o,.int .i64 V.x] 57);obtain ⟨_,_,_,_,⟨_,_,_,_⟩,_,_,_,_⟩:=Ac.fm.row4 hl d hd;obtain ⟨_,_,_,_,⟨_,_,_,_⟩,_,_,_,_⟩:=hFb.row4 hl d hd;obtain ⟨_,_,_,_,_,_,_,_⟩:=hFb.cells;have hlt1:=Ac.fm.ins.lt;have hlt2:=Ac.fm.Ar.lt;have hF:=((Ac.fm.D9 (423 + d * 4) (.int .i64 V.k) (.int .i64 V.t) (.int .i64 V.o) (.int .i64 V.x)).box (.cells #[.int .i64 V.k,.int .i64 V.t,.int .i64 V.o,.int .i64 V.x] 57)).next (Below.refl _ _).drew
        go_region
        go_wp2;exact bodyPost_ret (v:=.tuple #[.int .i64 0,.int .i64 0]) (by simp [results,results52,go_sem]) rfl (Or.inl ⟨rfl,rfl,hF.mod,hF.Ar⟩)
       ·have hgt:(g == 0) = false:=by simpa using hg
        go_wp2_with (first
       | (go_at_call 67;refine (Af _ _ _ _ _).mono ?_;rintro e w' ⟨rfl,hb⟩;have Ac:=Ac.next hb;obtain ⟨_,_,_,_,_,_,_,_⟩:=Ac.fm.cells;obtain ⟨⟨_,_,_,_⟩,_⟩:=Ac.ra.four;obtain ⟨⟨_,_,_,_⟩,_⟩:=Ac.rb.four)
       | ((first | (go_at_call 68;refine (Jc.out _).mono ?_) | (go_at_call 69;refine (HSM.out _).mono ?_));rintro e w' ⟨rfl,hb⟩;have Ac:=Ac.next hb;obtain ⟨_,_,_,_,_,_,_,_⟩:=Ac.fm.cells))
        exact bodyPost_ret (v:=.tuple #[.int .i64 0,.int .i64 g]) (by simp [results,results52,go_sem]) rfl (Or.inr ⟨hg,rfl,(Ac.fm.box _).mod,(Ac.fm.box _).Ar⟩)
     | true =>
       have hk2:(K2 == 1) = false:=by rw [hk] at h1;simpa using h1
       obtain rfl:K = 1:=by simpa using hk
       clear h1 hk h3
       by_cases hg:g = 0
       ·subst hg;go_upto_region 18 with (first
       | (go_at_call 67;refine (Af _ _ _ _ _).mono ?_;rintro e w' ⟨rfl,hb⟩;have Ac:=Ac.next hb;obtain ⟨_,_,_,_,_,_,_,_⟩:=Ac.fm.cells;obtain ⟨⟨_,_,_,_⟩,_⟩:=Ac.ra.four;obtain ⟨⟨_,_,_,_⟩,_⟩:=Ac.rb.four)
       | ((first | (go_at_call 68;refine (Jc.out _).mono ?_) | (go_at_call 69;refine (HSM.out _).mono ?_));rintro e w' ⟨rfl,hb⟩;have Ac:=Ac.next hb;obtain ⟨_,_,_,_,_,_,_,_⟩:=Ac.fm.cells))
        have hFb:=Ac.fm.box (.cells #[.int .i64 V.k,.int .i64 V.t,.int .i64 V.o,.int .i64 V.x] 57);obtain ⟨_,_,_,_,⟨_,_,_,_⟩,_,_,_,_⟩:=Ac.fm.row4 hl d hd;obtain ⟨_,_,_,_,⟨_,_,_,_⟩,_,_,_,_⟩:=hFb.row4 hl d hd;obtain ⟨_,_,_,_,_,_,_,_⟩:=hFb.cells;have hlt1:=Ac.fm.ins.lt;have hlt2:=Ac.fm.Ar.lt;have hF:=((Ac.fm.D9 (423 + d * 4) (.int .i64 V.k) (.int .i64 V.t) (.int .i64 V.o) (.int .i64 V.x)).box (.cells #[.int .i64 V.k,.int .i64 V.t,.int .i64 V.o,.int .i64 V.x] 57)).next (Below.refl _ _).drew
        go_region
        go_wp2;exact bodyPost_ret (v:=.tuple #[.int .i64 0,.int .i64 0]) (by simp [results,results52,go_sem]) rfl (Or.inl ⟨rfl,rfl,hF.mod,hF.Ar⟩)
       ·have hgt:(g == 0) = false:=by simpa using hg
        go_wp2_with (first
       | (go_at_call 67;refine (Af _ _ _ _ _).mono ?_;rintro e w' ⟨rfl,hb⟩;have Ac:=Ac.next hb;obtain ⟨_,_,_,_,_,_,_,_⟩:=Ac.fm.cells;obtain ⟨⟨_,_,_,_⟩,_⟩:=Ac.ra.four;obtain ⟨⟨_,_,_,_⟩,_⟩:=Ac.rb.four)
       | ((first | (go_at_call 68;refine (Jc.out _).mono ?_) | (go_at_call 69;refine (HSM.out _).mono ?_));rintro e w' ⟨rfl,hb⟩;have Ac:=Ac.next hb;obtain ⟨_,_,_,_,_,_,_,_⟩:=Ac.fm.cells))
        exact bodyPost_ret (v:=.tuple #[.int .i64 0,.int .i64 g]) (by simp [results,results52,go_sem]) rfl (Or.inr ⟨hg,rfl,(Ac.fm.box _).mod,(Ac.fm.box _).Ar⟩)
end Go.Proofs.YtjacnhnaoenelaaGreat
