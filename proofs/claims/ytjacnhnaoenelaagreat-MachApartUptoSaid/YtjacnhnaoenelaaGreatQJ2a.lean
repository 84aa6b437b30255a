import Derived.Test.YtjacnhnaoenelaaGreatQAluB
import Derived.Test.YtjacnhnaoenelaaGreatQJ1a
namespace Go.Proofs.YtjacnhnaoenelaaGreat
open Go.Proofs.Tryz
open Go.RowKit
set_option linter.unusedVariables false
def Gives (f:FuncId) (args:Array Value) (v g:Int):Prop:=
 ∀ w:World,Calls prog f args w fun e w'=>e = .returned (.tuple #[.int .i64 v,.int .i64 g])/\Below w.heap.size w w'
theorem Gives.same {f:FuncId} {args:Array Value} {v g:Int} (h:∀ w:World,Calls prog f args w fun e w'=>e = .returned (.tuple #[.int .i64 v,.int .i64 g])/\w = w'):Gives f args v g:=
 fun w=>(h w).mono fun e w' ⟨he,hw⟩=>⟨he,by rw [<- hw];exact Below.refl _ _⟩
set_option linter.unusedSimpArgs false
def Df (op a b:Int):Int × Int:=
 if op = 1 then (wrap64 ((Ls 64 (un a) (un b):Nat):Int),0)
 else if op = 2 then (wrap64 ((Kz 64 (un a) (un b):Nat):Int),0)
 else if op = 3 then (wrap64 ((Lu 64 (un a) (un b):Nat):Int),0)
 else if op = 4 then (if un b = 0 then (0,84) else (wrap64 ((Nr 64 (un a) (un b):Nat):Int),0))
 else if op = 5 then (if un b = 0 then (0,84) else (wrap64 ((La 64 (un a) (un b):Nat):Int),0))
 else if op = 6 then (if un b = 0 then (0,84) else (wrap64 ((Hz 64 (un a) (un b):Nat):Int),0))
 else if op = 7 then (if un b = 0 then (0,84) else (wrap64 ((Ia 64 (un a) (un b):Nat):Int),0))
 else if op = 8 then (wrap64 ((Rq 64 (un a) (un b):Nat):Int),0)
 else if op = 9 then (wrap64 ((Jw 64 (un a) (un b):Nat):Int),0)
 else if op = 10 then (wrap64 ((Jy 64 (un a) (un b):Nat):Int),0)
 else if op = 11 then (wrap64 ((Pm 64 (un a) (un b):Nat):Int),0)
 else if op = 12 then (wrap64 ((Lc 64 (un a) (un b):Nat):Int),0)
 else if op = 13 then (wrap64 ((Ib 64 (un a) (un b):Nat):Int),0)
 else if op = 14 then (wrap64 ((Ld 64 (un a) (un b):Nat):Int),0)
 else if op = 15 then (wrap64 ((L6 64 (un a) (un b):Nat):Int),0)
 else (0,0)
def Dk (op a b:Int):Int × Int:=
 if op = 1 then (((Ls 32 (Ag 32 a) (Ag 32 b):Nat):Int),0)
 else if op = 2 then (((Kz 32 (Ag 32 a) (Ag 32 b):Nat):Int),0)
 else if op = 3 then (((Lu 32 (Ag 32 a) (Ag 32 b):Nat):Int),0)
 else if op = 4 then (if Ag 32 b = 0 then (0,84) else (((Nr 32 (Ag 32 a) (Ag 32 b):Nat):Int),0))
 else if op = 5 then (if Ag 32 b = 0 then (0,84) else (((La 32 (Ag 32 a) (Ag 32 b):Nat):Int),0))
 else if op = 6 then (if Ag 32 b = 0 then (0,84) else (((Hz 32 (Ag 32 a) (Ag 32 b):Nat):Int),0))
 else if op = 7 then (if Ag 32 b = 0 then (0,84) else (((Ia 32 (Ag 32 a) (Ag 32 b):Nat):Int),0))
 else if op = 8 then (((Rq 32 (Ag 32 a) (Ag 32 b):Nat):Int),0)
 else if op = 9 then (((Jw 32 (Ag 32 a) (Ag 32 b):Nat):Int),0)
 else if op = 10 then (((Jy 32 (Ag 32 a) (Ag 32 b):Nat):Int),0)
 else if op = 11 then (((Pm 32 (Ag 32 a) (Ag 32 b):Nat):Int),0)
 else if op = 12 then (((Lc 32 (Ag 32 a) (Ag 32 b):Nat):Int),0)
 else if op = 13 then (((Ib 32 (Ag 32 a) (Ag 32 b):Nat):Int),0)
 else if op = 14 then (((Ld 32 (Ag 32 a) (Ag 32 b):Nat):Int),0)
 else if op = 15 then (((L6 32 (Ag 32 a) (Ag 32 b):Nat):Int),0)
 else (0,0)
def Sz (op:Int) (Ad:Bool) (a b:Int):Int × Int:=if Ad then Dk op a b else Df op a b
theorem Ahn (a b:Int):Df 1 a b = (wrap64 ((Ls 64 (un a) (un b):Nat):Int),0):=by unfold Df;(iterate 0 rw [if_neg (by decide)]);rw [if_pos rfl]
theorem Aho (a b:Int):Df 2 a b = (wrap64 ((Kz 64 (un a) (un b):Nat):Int),0):=by unfold Df;(iterate 1 rw [if_neg (by decide)]);rw [if_pos rfl]
theorem Ahp (a b:Int):Df 3 a b = (wrap64 ((Lu 64 (un a) (un b):Nat):Int),0):=by unfold Df;(iterate 2 rw [if_neg (by decide)]);rw [if_pos rfl]
theorem Aeb (a b:Int) (h:un b = 0):Df 4 a b = (0,84):=by unfold Df;(iterate 3 rw [if_neg (by decide)]);rw [if_pos rfl,if_pos h]
theorem Ahq (a b:Int) (h:un b ≠ 0):Df 4 a b = (wrap64 ((Nr 64 (un a) (un b):Nat):Int),0):=by unfold Df;(iterate 3 rw [if_neg (by decide)]);rw [if_pos rfl,if_neg h]
theorem Aec (a b:Int) (h:un b = 0):Df 5 a b = (0,84):=by unfold Df;(iterate 4 rw [if_neg (by decide)]);rw [if_pos rfl,if_pos h]
theorem Ahr (a b:Int) (h:un b ≠ 0):Df 5 a b = (wrap64 ((La 64 (un a) (un b):Nat):Int),0):=by unfold Df;(iterate 4 rw [if_neg (by decide)]);rw [if_pos rfl,if_neg h]
theorem Ab6 (a b:Int) (h:un b = 0):Df 6 a b = (0,84):=by unfold Df;(iterate 5 rw [if_neg (by decide)]);rw [if_pos rfl,if_pos h]
theorem Aed (a b:Int) (h:un b ≠ 0):Df 6 a b = (wrap64 ((Hz 64 (un a) (un b):Nat):Int),0):=by unfold Df;(iterate 5 rw [if_neg (by decide)]);rw [if_pos rfl,if_neg h]
theorem Ab7 (a b:Int) (h:un b = 0):Df 7 a b = (0,84):=by unfold Df;(iterate 6 rw [if_neg (by decide)]);rw [if_pos rfl,if_pos h]
theorem Aee (a b:Int) (h:un b ≠ 0):Df 7 a b = (wrap64 ((Ia 64 (un a) (un b):Nat):Int),0):=by unfold Df;(iterate 6 rw [if_neg (by decide)]);rw [if_pos rfl,if_neg h]
theorem Aav (a b:Int):Df 8 a b = (wrap64 ((Rq 64 (un a) (un b):Nat):Int),0):=by unfold Df;(iterate 7 rw [if_neg (by decide)]);rw [if_pos rfl]
theorem jk (a b:Int):Df 9 a b = (wrap64 ((Jw 64 (un a) (un b):Nat):Int),0):=by unfold Df;(iterate 8 rw [if_neg (by decide)]);rw [if_pos rfl]
theorem jl (a b:Int):Df 10 a b = (wrap64 ((Jy 64 (un a) (un b):Nat):Int),0):=by unfold Df;(iterate 9 rw [if_neg (by decide)]);rw [if_pos rfl]
theorem Ahs (a b:Int):Df 11 a b = (wrap64 ((Pm 64 (un a) (un b):Nat):Int),0):=by unfold Df;(iterate 10 rw [if_neg (by decide)]);rw [if_pos rfl]
theorem Aht (a b:Int):Df 12 a b = (wrap64 ((Lc 64 (un a) (un b):Nat):Int),0):=by unfold Df;(iterate 11 rw [if_neg (by decide)]);rw [if_pos rfl]
theorem Aef (a b:Int):Df 13 a b = (wrap64 ((Ib 64 (un a) (un b):Nat):Int),0):=by unfold Df;(iterate 12 rw [if_neg (by decide)]);rw [if_pos rfl]
theorem Ahu (a b:Int):Df 14 a b = (wrap64 ((Ld 64 (un a) (un b):Nat):Int),0):=by unfold Df;(iterate 13 rw [if_neg (by decide)]);rw [if_pos rfl]
theorem Ahv (a b:Int):Df 15 a b = (wrap64 ((L6 64 (un a) (un b):Nat):Int),0):=by unfold Df;(iterate 14 rw [if_neg (by decide)]);rw [if_pos rfl]
theorem Ahw (a b:Int):Dk 1 a b = (((Ls 32 (Ag 32 a) (Ag 32 b):Nat):Int),0):=by unfold Dk;(iterate 0 rw [if_neg (by decide)]);rw [if_pos rfl]
theorem Ahx (a b:Int):Dk 2 a b = (((Kz 32 (Ag 32 a) (Ag 32 b):Nat):Int),0):=by unfold Dk;(iterate 1 rw [if_neg (by decide)]);rw [if_pos rfl]
theorem Ahy (a b:Int):Dk 3 a b = (((Lu 32 (Ag 32 a) (Ag 32 b):Nat):Int),0):=by unfold Dk;(iterate 2 rw [if_neg (by decide)]);rw [if_pos rfl]
theorem Aeg (a b:Int) (h:Ag 32 b = 0):Dk 4 a b = (0,84):=by unfold Dk;(iterate 3 rw [if_neg (by decide)]);rw [if_pos rfl,if_pos h]
theorem Ahz (a b:Int) (h:Ag 32 b ≠ 0):Dk 4 a b = (((Nr 32 (Ag 32 a) (Ag 32 b):Nat):Int),0):=by unfold Dk;(iterate 3 rw [if_neg (by decide)]);rw [if_pos rfl,if_neg h]
theorem Aeh (a b:Int) (h:Ag 32 b = 0):Dk 5 a b = (0,84):=by unfold Dk;(iterate 4 rw [if_neg (by decide)]);rw [if_pos rfl,if_pos h]
theorem Ah0 (a b:Int) (h:Ag 32 b ≠ 0):Dk 5 a b = (((La 32 (Ag 32 a) (Ag 32 b):Nat):Int),0):=by unfold Dk;(iterate 4 rw [if_neg (by decide)]);rw [if_pos rfl,if_neg h]
theorem Ab8 (a b:Int) (h:Ag 32 b = 0):Dk 6 a b = (0,84):=by unfold Dk;(iterate 5 rw [if_neg (by decide)]);rw [if_pos rfl,if_pos h]
theorem Aei (a b:Int) (h:Ag 32 b ≠ 0):Dk 6 a b = (((Hz 32 (Ag 32 a) (Ag 32 b):Nat):Int),0):=by unfold Dk;(iterate 5 rw [if_neg (by decide)]);rw [if_pos rfl,if_neg h]
theorem Ab9 (a b:Int) (h:Ag 32 b = 0):Dk 7 a b = (0,84):=by unfold Dk;(iterate 6 rw [if_neg (by decide)]);rw [if_pos rfl,if_pos h]
theorem Aej (a b:Int) (h:Ag 32 b ≠ 0):Dk 7 a b = (((Ia 32 (Ag 32 a) (Ag 32 b):Nat):Int),0):=by unfold Dk;(iterate 6 rw [if_neg (by decide)]);rw [if_pos rfl,if_neg h]
theorem Am1 (a b:Int):Dk 8 a b = (((Rq 32 (Ag 32 a) (Ag 32 b):Nat):Int),0):=by unfold Dk;(iterate 7 rw [if_neg (by decide)]);rw [if_pos rfl]
theorem Ah1 (a b:Int):Dk 9 a b = (((Jw 32 (Ag 32 a) (Ag 32 b):Nat):Int),0):=by unfold Dk;(iterate 8 rw [if_neg (by decide)]);rw [if_pos rfl]
theorem Ah2 (a b:Int):Dk 10 a b = (((Jy 32 (Ag 32 a) (Ag 32 b):Nat):Int),0):=by unfold Dk;(iterate 9 rw [if_neg (by decide)]);rw [if_pos rfl]
theorem Ah3 (a b:Int):Dk 11 a b = (((Pm 32 (Ag 32 a) (Ag 32 b):Nat):Int),0):=by unfold Dk;(iterate 10 rw [if_neg (by decide)]);rw [if_pos rfl]
theorem Ah4 (a b:Int):Dk 12 a b = (((Lc 32 (Ag 32 a) (Ag 32 b):Nat):Int),0):=by unfold Dk;(iterate 11 rw [if_neg (by decide)]);rw [if_pos rfl]
theorem Aek (a b:Int):Dk 13 a b = (((Ib 32 (Ag 32 a) (Ag 32 b):Nat):Int),0):=by unfold Dk;(iterate 12 rw [if_neg (by decide)]);rw [if_pos rfl]
theorem Ah5 (a b:Int):Dk 14 a b = (((Ld 32 (Ag 32 a) (Ag 32 b):Nat):Int),0):=by unfold Dk;(iterate 13 rw [if_neg (by decide)]);rw [if_pos rfl]
theorem Ah6 (a b:Int):Dk 15 a b = (((L6 32 (Ag 32 a) (Ag 32 b):Nat):Int),0):=by unfold Dk;(iterate 14 rw [if_neg (by decide)]);rw [if_pos rfl]
def Ey (x:Int):Prop:=-9223372036854775808 <= x/\x <= 9223372036854775807
theorem Ee (x:Int):Ey (wrap64 x):=by unfold Ey wrap64;omega
theorem Nu {x:Nat} (h:x < 4294967296):Ey (x:Int):=by unfold Ey;omega
theorem Hl:Ey 0:=by unfold Ey;omega
theorem Aaw (op:Int) (Ad:Bool) (a b:Int) (h:1 <= op/\op <= 15):Gives 68 #[.int .i64 op,.bool Ad,.int .i64 a,.int .i64 b] (Sz op Ad a b).1 (Sz op Ad a b).2/\Ey (Sz op Ad a b).1:=by
 have hl:=Dl 32 a;have hm:=Dl 32 b;have hcase:op = 1\/op = 2\/op = 3\/op = 4\/op = 5\/op = 6\/op = 7\/op = 8\/op = 9\/op = 10\/op = 11\/op = 12\/op = 13\/op = 14\/op = 15:=by omega
 clear h
 cases Ad
 ·show Gives _ _ (Df op a b).1 (Df op a b).2/\Ey (Df op a b).1
  rcases hcase with rfl | rfl | rfl | rfl | rfl | rfl | rfl | rfl | rfl | rfl | rfl | rfl | rfl | rfl | rfl
  ·rw [Ahn];exact ⟨Ama a b,Ee _⟩
  ·rw [Aho];exact ⟨Amb a b,Ee _⟩
  ·rw [Ahp];exact ⟨Amc a b,Ee _⟩
  ·by_cases h0:un b = 0
   ·rw [Aeb a b h0];exact ⟨Gives.same (Agv a b h0),Hl⟩
   ·rw [Ahq a b h0];exact ⟨Amd a b h0,Ee _⟩
  ·by_cases h0:un b = 0
   ·rw [Aec a b h0];exact ⟨Gives.same (Agw a b h0),Hl⟩
   ·rw [Ahr a b h0];exact ⟨Ame a b h0,Ee _⟩
  ·by_cases h0:un b = 0
   ·rw [Ab6 a b h0];exact ⟨Gives.same (Adl a b h0),Hl⟩
   ·rw [Aed a b h0];exact ⟨Agx a b h0,Ee _⟩
  ·by_cases h0:un b = 0
   ·rw [Ab7 a b h0];exact ⟨Gives.same (Adm a b h0),Hl⟩
   ·rw [Aee a b h0];exact ⟨Agy a b h0,Ee _⟩
  ·rw [Aav];exact ⟨Apu a b,Ee _⟩
  ·rw [jk];exact ⟨Amf a b,Ee _⟩
  ·rw [jl];exact ⟨Amg a b,Ee _⟩
  ·rw [Ahs];exact ⟨Amh a b,Ee _⟩
  ·rw [Aht];exact ⟨Ami a b,Ee _⟩
  ·rw [Aef];exact ⟨Agz a b,Ee _⟩
  ·rw [Ahu];exact ⟨Amj a b,Ee _⟩
  ·rw [Ahv];exact ⟨Amk a b,Ee _⟩
 ·show Gives _ _ (Dk op a b).1 (Dk op a b).2/\Ey (Dk op a b).1
  rcases hcase with rfl | rfl | rfl | rfl | rfl | rfl | rfl | rfl | rfl | rfl | rfl | rfl | rfl | rfl | rfl
  ·rw [Ahw];exact ⟨Aml a b,Nu (by rw [Aka _ _ hl hm];exact Nat.mod_lt _ (by decide))⟩
  ·rw [Ahx];exact ⟨Amm a b,Nu (by rw [Akb _ _ hl hm];exact Nat.mod_lt _ (by decide))⟩
  ·rw [Ahy];exact ⟨Amn a b,Nu (by rw [Akc _ _ hl hm];exact Nat.mod_lt _ (by decide))⟩
  ·by_cases h0:Ag 32 b = 0
   ·rw [Aeg a b h0];exact ⟨Gives.same (Ag0 a b h0),Hl⟩
   ·rw [Ahz a b h0];exact ⟨Amo a b h0,Nu (by rw [Akd _ _ hl hm h0];exact Nat.mod_lt _ (by decide))⟩
  ·by_cases h0:Ag 32 b = 0
   ·rw [Aeh a b h0];exact ⟨Gives.same (Ag1 a b h0),Hl⟩
   ·rw [Ah0 a b h0];exact ⟨Amq a b h0,Nu (by rw [Ake _ _ hl hm h0];exact Nat.mod_lt _ (by decide))⟩
  ·by_cases h0:Ag 32 b = 0
   ·rw [Ab8 a b h0];exact ⟨Gives.same (Ado a b h0),Hl⟩
   ·rw [Aei a b h0];exact ⟨Ag2 a b h0,Nu (by rw [Adn _ _ hl hm h0];exact Nat.mod_lt _ (by decide))⟩
  ·by_cases h0:Ag 32 b = 0
   ·rw [Ab9 a b h0];exact ⟨Gives.same (Adq a b h0),Hl⟩
   ·rw [Aej a b h0];exact ⟨Ag3 a b h0,Nu (by rw [Adp _ _ hl hm h0];exact Nat.mod_lt _ (by decide))⟩
  ·rw [Am1];exact ⟨Apw a b,Nu (by rw [Apv _ _ hl hm];exact Nat.mod_lt _ (by decide))⟩
  ·rw [Ah1];exact ⟨Amr a b,Nu (by rw [Akf _ _ hl hm];exact Nat.mod_lt _ (by decide))⟩
  ·rw [Ah2];exact ⟨Ams a b,Nu (by rw [Akg _ _ hl hm];exact Nat.mod_lt _ (by decide))⟩
  ·rw [Ah3];exact ⟨Amt a b,Nu (by rw [Akh _ _ hl hm];exact Nat.mod_lt _ (by decide))⟩
  ·rw [Ah4];exact ⟨Amu a b,Nu (by rw [Aki _ _ hl hm];exact Nat.mod_lt _ (by decide))⟩
  ·rw [Aek];exact ⟨Ag4 a b,Nu (by rw [Adr _ _ hl hm];exact Nat.mod_lt _ (by decide))⟩
  ·rw [Ah5];exact ⟨Amv a b,Nu (by rw [Akj _ _ hl hm];exact Nat.mod_lt _ (by decide))⟩
  ·rw [Ah6];exact ⟨Amw a b,Nu (by rw [Akk _ _ hl hm];exact Nat.mod_lt _ (by decide))⟩
def Att (op a b:Int):Bool:=
 if op = 27 then Yb (Ag 64 a) (Ag 64 b)
 else if op = 28 then Yc (Ag 64 a) (Ag 64 b)
 else if op = 29 then Uj (Ag 64 a) (Ag 64 b)
 else if op = 30 then Uk (Ag 64 a) (Ag 64 b)
 else if op = 31 then Ul (Ag 64 a) (Ag 64 b)
 else if op = 32 then Um (Ag 64 a) (Ag 64 b)
 else if op = 33 then Qh (Ag 64 a) (Ag 64 b)
 else if op = 34 then Qi (Ag 64 a) (Ag 64 b)
 else if op = 35 then Qj (Ag 64 a) (Ag 64 b)
 else if op = 36 then Qk (Ag 64 a) (Ag 64 b)
 else if op = 37 then iy (Ag 64 a) (Ag 64 b)
 else false
def Atu (op a b:Int):Bool:=
 if op = 27 then Yd (Ag 32 a) (Ag 32 b)
 else if op = 28 then Ye (Ag 32 a) (Ag 32 b)
 else if op = 29 then Un (Ag 32 a) (Ag 32 b)
 else if op = 30 then Uo (Ag 32 a) (Ag 32 b)
 else if op = 31 then Ur (Ag 32 a) (Ag 32 b)
 else if op = 32 then Us (Ag 32 a) (Ag 32 b)
 else if op = 33 then Ql (Ag 32 a) (Ag 32 b)
 else if op = 34 then Qm (Ag 32 a) (Ag 32 b)
 else if op = 35 then Qn (Ag 32 a) (Ag 32 b)
 else if op = 36 then Qo (Ag 32 a) (Ag 32 b)
 else if op = 37 then jc (Ag 32 a) (Ag 32 b)
 else false
def jm (op:Int) (Ad:Bool) (a b:Int):Bool:=if Ad then Atu op a b else Att op a b
theorem jo (op:Int) (Ad:Bool) (a b:Int) (ra:Ey a) (rb:Ey b) (h:27 <= op/\op <= 37):Says 79 #[.int .i64 op,.bool Ad,.int .i64 a,.int .i64 b] (jm op Ad a b):=by
 unfold Ey at ra rb;have hcase:op = 27\/op = 28\/op = 29\/op = 30\/op = 31\/op = 32\/op = 33\/op = 34\/op = 35\/op = 36\/op = 37:=by omega
 clear h
 cases Ad
 ·rcases hcase with rfl | rfl | rfl | rfl | rfl | rfl | rfl | rfl | rfl | rfl | rfl
  ·exact Ag5 a b ra rb
  ·exact Ag6 a b ra rb
  ·exact Ag7 a b ra rb
  ·exact Ag8 a b ra rb
  ·exact Ag9 a b ra rb
  ·exact Aha a b ra rb
  ·exact Adx a b ra rb
  ·exact Ady a b ra rb
  ·exact Adz a b ra rb
  ·exact Ad0 a b ra rb
  ·exact Ad1 a b ra rb
 ·rcases hcase with rfl | rfl | rfl | rfl | rfl | rfl | rfl | rfl | rfl | rfl | rfl
  ·exact Ahb a b ra rb
  ·exact Ahc a b ra rb
  ·exact Ahd a b ra rb
  ·exact Ahe a b ra rb
  ·exact Ahf a b ra rb
  ·exact Ahg a b ra rb
  ·exact Ad2 a b ra rb
  ·exact Ad3 a b ra rb
  ·exact Ad4 a b ra rb
  ·exact Ad5 a b ra rb
  ·exact Ad6 a b ra rb
def Il (size:Int) (t:Bool) (a:Int):Int:=if size = 16 then wrap64 ((swp 2 t a:Nat):Int) else if size = 32 then wrap64 ((swp 4 t a:Nat):Int) else if size = 64 then wrap64 ((swp 8 t a:Nat):Int) else 0
theorem Am2 (size:Int) (t:Bool) (a:Int) (ra:Ey a) (w:World) :
 Calls prog 71 #[.int .i64 size,.bool t,.int .i64 a] w fun e w'=>e = .returned (.int .i64 (Il size t a))/\w = w':=by
 unfold Ey at ra
 by_cases h1:size = 16
 ·subst h1
  cases t
  ·rw [show Il 16 false a = wrap64 ((swp 2 false a:Nat):Int) by unfold Il;rw [if_pos rfl]];exact Ab3 a ra w
  ·rw [show Il 16 true a = wrap64 ((swp 2 true a:Nat):Int) by unfold Il;rw [if_pos rfl]];exact Ad7 a ra w
 ·by_cases h2:size = 32
  ·subst h2
   cases t
   ·rw [show Il 32 false a = wrap64 ((swp 4 false a:Nat):Int) by unfold Il;rw [if_neg (by decide)];rw [if_pos rfl]];exact Ab4 a ra w
   ·rw [show Il 32 true a = wrap64 ((swp 4 true a:Nat):Int) by unfold Il;rw [if_neg (by decide)];rw [if_pos rfl]];exact Ad8 a ra w
  ·by_cases h3:size = 64
   ·subst h3
    cases t
    ·rw [show Il 64 false a = wrap64 ((swp 8 false a:Nat):Int) by unfold Il;rw [if_neg (by decide)];rw [if_neg (by decide)];rw [if_pos rfl]];exact Ab5 a ra w
    ·rw [show Il 64 true a = wrap64 ((swp 8 true a:Nat):Int) by unfold Il;rw [if_neg (by decide)];rw [if_neg (by decide)];rw [if_pos rfl]];exact Ad9 a ra w
   ·rw [show Il size t a = 0 by unfold Il;rw [if_neg h1,if_neg h2,if_neg h3]];exact Ahl size t a ⟨h1,h2,h3⟩ w
theorem Awk (size:Int) (t:Bool) (a:Int):Ey (Il size t a):=by
 unfold Il
 split
 ·exact Ee _
 ·split
  ·exact Ee _
  ·split
   ·exact Ee _
   ·exact Hl
def Aca (size:Int) (Ad:Bool) (a:Int):Int:=
 if size = 8 then (if Ad then ext 8 a % 4294967296 else ext 8 a) else if size = 16 then (if Ad then ext 16 a % 4294967296 else ext 16 a) else if size = 32 then (if Ad then 0 else ext 32 a) else 0
theorem Ael (size:Int) (Ad:Bool) (a:Int) (w:World) :
 Calls prog 70 #[.int .i64 size,.bool Ad,.int .i64 a] w fun e w'=>e = .returned (.int .i64 (Aca size Ad a))/\w = w':=by
 by_cases h1:size = 8
 ·subst h1
  cases Ad
  ·exact Aby a w
  ·exact Adj a w
 ·by_cases h2:size = 16
  ·subst h2
   cases Ad
   ·exact zk a w
   ·exact Abz a w
  ·by_cases h3:size = 32
   ·subst h3
    cases Ad
    ·exact zl a w
    ·exact Ab0 a w
   ·rw [show Aca size Ad a = 0 by unfold Aca;rw [if_neg h1,if_neg h2,if_neg h3]];exact Adi size Ad a h1 h2 h3 w
theorem Ap0 (size:Int) (Ad:Bool) (a:Int):Ey (Aca size Ad a):=by
 have e8:=X8 8 a (by decide);have e16:=X8 16 a (by decide);have e32:=X8 32 a (by decide);unfold Ey Aca
 repeat' split
 all_goals omega
end Go.Proofs.YtjacnhnaoenelaaGreat
