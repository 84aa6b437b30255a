import Derived.Test.YtjacnhnaoenelaaGreatQJ0a
set_option maxRecDepth 100000
set_option maxHeartbeats 32000000
namespace Go.Proofs.YtjacnhnaoenelaaGreat
open Go.Proofs.Tryz
open Go.RowKit
set_option linter.unusedVariables false
def Du (op Aa:Int):Bool:=(op == 25) && (Aa == 225 || Aa == 1 || Aa == 65 || Aa == 81 || Aa == 161)
theorem Wp (op Aa:Int) (w:World):Calls prog 92 #[.int .i64 op,.int .i64 Aa] w (Told w (.bool (Du op Aa))):=by
 by_cases ho:op = 25
 ·subst ho;have hc:Aa = 225\/Aa = 1\/Aa = 65\/Aa = 81\/Aa = 161\/(Aa ≠ 225/\Aa ≠ 1/\Aa ≠ 65/\Aa ≠ 81/\Aa ≠ 161):=by omega
  rcases hc with rfl | rfl | rfl | rfl | rfl | ⟨h0,h1,h2,h3,h4⟩
  ·rw [show Du 25 225 = true by decide];go_enter func92,ntmps92;go_wp2;go_ret
   exact ⟨rfl,rfl⟩
  ·rw [show Du 25 1 = true by decide];go_enter func92,ntmps92;go_wp2;go_ret
   exact ⟨rfl,rfl⟩
  ·rw [show Du 25 65 = true by decide];go_enter func92,ntmps92;go_wp2;go_ret
   exact ⟨rfl,rfl⟩
  ·rw [show Du 25 81 = true by decide];go_enter func92,ntmps92;go_wp2;go_ret
   exact ⟨rfl,rfl⟩
  ·rw [show Du 25 161 = true by decide];go_enter func92,ntmps92;go_wp2;go_ret
   exact ⟨rfl,rfl⟩
  ·rw [show Du 25 Aa = false by simp [Du,h0,h1,h2,h3,h4]];have t0:(Aa == 225) = false:=by simpa using h0
   have t1:(Aa == 1) = false:=by simpa using h1
   have t2:(Aa == 65) = false:=by simpa using h2
   have t3:(Aa == 81) = false:=by simpa using h3
   have t4:(Aa == 161) = false:=by simpa using h4
   go_enter func92,ntmps92;go_wp2;go_ret
   exact ⟨rfl,rfl⟩
 ·rw [show Du op Aa = false by simp [Du,ho]];have t0:(op != 25) = true:=by simpa using ho
  go_enter func92,ntmps92;go_wp2;go_ret
  exact ⟨rfl,rfl⟩
def Hu (Aa:Int):Bool:=Aa == 0 || Aa == 64 || Aa == 80 || Aa == 160 || Aa == 241 || Du 25 Aa
theorem Ew (Aa:Int) (w:World):Calls prog 112 #[.int .i64 Aa] w (Told w (.bool (Hu Aa))):=by
 have hc:Aa = 0\/Aa = 64\/Aa = 80\/Aa = 160\/Aa = 241\/(Aa ≠ 0/\Aa ≠ 64/\Aa ≠ 80/\Aa ≠ 160/\Aa ≠ 241):=by omega
 rcases hc with rfl | rfl | rfl | rfl | rfl | ⟨h0,h1,h2,h3,h4⟩
 ·rw [show Hu 0 = true by decide];go_enter func112,ntmps112;go_wp2;go_ret
  exact ⟨rfl,rfl⟩
 ·rw [show Hu 64 = true by decide];go_enter func112,ntmps112;go_wp2;go_ret
  exact ⟨rfl,rfl⟩
 ·rw [show Hu 80 = true by decide];go_enter func112,ntmps112;go_wp2;go_ret
  exact ⟨rfl,rfl⟩
 ·rw [show Hu 160 = true by decide];go_enter func112,ntmps112;go_wp2;go_ret
  exact ⟨rfl,rfl⟩
 ·rw [show Hu 241 = true by decide];go_enter func112,ntmps112;go_wp2;go_ret
  exact ⟨rfl,rfl⟩
 ·rw [show Hu Aa = Du 25 Aa by simp [Hu,h0,h1,h2,h3,h4]];have t0:(Aa == 0) = false:=by simpa using h0
  have t1:(Aa == 64) = false:=by simpa using h1
  have t2:(Aa == 80) = false:=by simpa using h2
  have t3:(Aa == 160) = false:=by simpa using h3
  have t4:(Aa == 241) = false:=by simpa using h4
  go_enter func112,ntmps112;go_wp2_with fail;refine (Wp _ _ _).mono ?_;rintro e w1 ⟨rfl,rfl⟩;go_wp2;go_ret
  exact ⟨rfl,rfl⟩
def Dx (op:Int):Bool:=(op != 26) && (op != 38) && (op != 39)
def Dy (op:Int) (reg:Bool):Bool:=Am op && reg || op == 16 || (decide (22 <= op) && decide (op <= 25) && (op != 24))
def D5 (op:Int) (Ad:Bool):Bool:=(decide (27 <= op) && decide (op <= 37)) || (decide (22 <= op) && decide (op <= 25)) || (op == 26 && !Ad)
def Dt (op:Int) (Ad reg:Bool):Bool:=Am op && !reg || op == 20 || op == 21 || op == 25 || op == 38 || (op == 26 && Ad)
theorem Ate (op:Int) (Ad reg:Bool) (size dst src off Aa:Int) (w:World):Calls prog 89 #[.agg #[.int .i64 op,.bool Ad,.bool reg,.int .i64 size,.int .i64 dst,.int .i64 src,.int .i64 off,.int .i64 Aa]] w (Ol w (.tuple #[.bool (Dx op),.bool (Dy op reg),.bool (D5 op Ad),.bool (Dt op Ad reg)])):=by
 have hc:op < 1\/(1 <= op/\op <= 13)\/op = 14\/op = 15\/op = 16\/(17 <= op/\op <= 19)\/op = 20\/op = 21\/(22 <= op/\op <= 23)\/op = 24\/op = 25\/op = 26\/(27 <= op/\op <= 37)\/op = 38\/op = 39\/40 <= op:=by omega
 rcases hc with h | ⟨h,h'⟩ | rfl | rfl | rfl | ⟨h,h'⟩ | rfl | rfl | ⟨h,h'⟩ | rfl | rfl | rfl | ⟨h,h'⟩ | rfl | rfl | h
 ·have hs:Am op = false:=by (simp [Am] <;> omega)
  rw [show Dx op = true by (simp [Dx] <;> omega),show Dy op reg = false by (simp [Dy,hs] <;> omega),show D5 op Ad = false by (simp [D5] <;> omega),show Dt op Ad reg = false by (simp [Dt,hs] <;> omega)];have q0:decide (27 <= op) = false:=by simp;omega
  have q1:decide (op <= 37) = true:=by simp;omega
  have q2:decide (22 <= op) = false:=by simp;omega
  have q3:decide (op <= 25) = true:=by simp;omega
  have q4:(op != 26) = true:=by simp;omega
  have q5:(op != 38) = true:=by simp;omega
  have q6:(op != 39) = true:=by simp;omega
  have q7:(op == 16) = false:=by simp;omega
  have q8:(op != 24) = true:=by simp;omega
  have q9:(op == 20) = false:=by simp;omega
  have q10:(op == 21) = false:=by simp;omega
  have q11:(op == 25) = false:=by simp;omega
  have q12:(op == 38) = false:=by simp;omega
  have q13:(op == 26) = false:=by simp;omega
  clear h;go_enter func89,ntmps89;go_wp2_with (go_at_call 111;refine (Az _ _).mono ?_;rintro e w' ⟨rfl,rfl⟩;rw [hs]);exact bodyPost_ret (v:=.tuple #[.bool true,.bool false,.bool false,.bool false]) (by simp [results,results89,go_sem]) rfl ⟨rfl,(Below.refl _ _).alloc nl _⟩
 ·have hs:Am op = true:=by (simp [Am] <;> omega)
  cases reg
  ·rw [show Dx op = true by (simp [Dx] <;> omega),show Dy op false = false by (simp [Dy,hs] <;> omega),show D5 op Ad = false by (simp [D5] <;> omega),show Dt op Ad false = true by (simp [Dt,hs] <;> omega)];have q0:decide (27 <= op) = false:=by simp;omega
   have q1:decide (op <= 37) = true:=by simp;omega
   have q2:decide (22 <= op) = false:=by simp;omega
   have q3:decide (op <= 25) = true:=by simp;omega
   have q4:(op != 26) = true:=by simp;omega
   have q5:(op != 38) = true:=by simp;omega
   have q6:(op != 39) = true:=by simp;omega
   have q7:(op == 16) = false:=by simp;omega
   have q8:(op != 24) = true:=by simp;omega
   have q9:(op == 20) = false:=by simp;omega
   have q10:(op == 21) = false:=by simp;omega
   have q11:(op == 25) = false:=by simp;omega
   have q12:(op == 38) = false:=by simp;omega
   have q13:(op == 26) = false:=by simp;omega
   clear h h';go_enter func89,ntmps89;go_wp2_with (go_at_call 111;refine (Az _ _).mono ?_;rintro e w' ⟨rfl,rfl⟩;rw [hs]);exact bodyPost_ret (v:=.tuple #[.bool true,.bool false,.bool false,.bool true]) (by simp [results,results89,go_sem]) rfl ⟨rfl,(Below.refl _ _).alloc nl _⟩
  ·rw [show Dx op = true by (simp [Dx] <;> omega),show Dy op true = true by (simp [Dy,hs] <;> omega),show D5 op Ad = false by (simp [D5] <;> omega),show Dt op Ad true = false by (simp [Dt,hs] <;> omega)];have q0:decide (27 <= op) = false:=by simp;omega
   have q1:decide (op <= 37) = true:=by simp;omega
   have q2:decide (22 <= op) = false:=by simp;omega
   have q3:decide (op <= 25) = true:=by simp;omega
   have q4:(op != 26) = true:=by simp;omega
   have q5:(op != 38) = true:=by simp;omega
   have q6:(op != 39) = true:=by simp;omega
   have q7:(op == 16) = false:=by simp;omega
   have q8:(op != 24) = true:=by simp;omega
   have q9:(op == 20) = false:=by simp;omega
   have q10:(op == 21) = false:=by simp;omega
   have q11:(op == 25) = false:=by simp;omega
   have q12:(op == 38) = false:=by simp;omega
   have q13:(op == 26) = false:=by simp;omega
   clear h h';go_enter func89,ntmps89;go_wp2_with (go_at_call 111;refine (Az _ _).mono ?_;rintro e w' ⟨rfl,rfl⟩;rw [hs]);exact bodyPost_ret (v:=.tuple #[.bool true,.bool true,.bool false,.bool false]) (by simp [results,results89,go_sem]) rfl ⟨rfl,(Below.refl _ _).alloc nl _⟩
 ·have hs:Am 14 = false:=by decide
  rw [show Dx 14 = true by (simp [Dx] <;> omega),show Dy 14 reg = false by (simp [Dy,hs] <;> omega),show D5 14 Ad = false by (simp [D5] <;> omega),show Dt 14 Ad reg = false by (simp [Dt,hs] <;> omega)];go_enter func89,ntmps89;go_wp2_with (go_at_call 111;refine (Az _ _).mono ?_;rintro e w' ⟨rfl,rfl⟩;rw [hs]);exact bodyPost_ret (v:=.tuple #[.bool true,.bool false,.bool false,.bool false]) (by simp [results,results89,go_sem]) rfl ⟨rfl,(Below.refl _ _).alloc nl _⟩
 ·have hs:Am 15 = true:=by decide
  cases reg
  ·rw [show Dx 15 = true by (simp [Dx] <;> omega),show Dy 15 false = false by (simp [Dy,hs] <;> omega),show D5 15 Ad = false by (simp [D5] <;> omega),show Dt 15 Ad false = true by (simp [Dt,hs] <;> omega)];go_enter func89,ntmps89;go_wp2_with (go_at_call 111;refine (Az _ _).mono ?_;rintro e w' ⟨rfl,rfl⟩;rw [hs]);exact bodyPost_ret (v:=.tuple #[.bool true,.bool false,.bool false,.bool true]) (by simp [results,results89,go_sem]) rfl ⟨rfl,(Below.refl _ _).alloc nl _⟩
  ·rw [show Dx 15 = true by (simp [Dx] <;> omega),show Dy 15 true = true by (simp [Dy,hs] <;> omega),show D5 15 Ad = false by (simp [D5] <;> omega),show Dt 15 Ad true = false by (simp [Dt,hs] <;> omega)];go_enter func89,ntmps89;go_wp2_with (go_at_call 111;refine (Az _ _).mono ?_;rintro e w' ⟨rfl,rfl⟩;rw [hs]);exact bodyPost_ret (v:=.tuple #[.bool true,.bool true,.bool false,.bool false]) (by simp [results,results89,go_sem]) rfl ⟨rfl,(Below.refl _ _).alloc nl _⟩
 ·have hs:Am 16 = false:=by decide
  rw [show Dx 16 = true by (simp [Dx] <;> omega),show Dy 16 reg = true by (simp [Dy,hs] <;> omega),show D5 16 Ad = false by (simp [D5] <;> omega),show Dt 16 Ad reg = false by (simp [Dt,hs] <;> omega)];go_enter func89,ntmps89;go_wp2_with (go_at_call 111;refine (Az _ _).mono ?_;rintro e w' ⟨rfl,rfl⟩;rw [hs]);exact bodyPost_ret (v:=.tuple #[.bool true,.bool true,.bool false,.bool false]) (by simp [results,results89,go_sem]) rfl ⟨rfl,(Below.refl _ _).alloc nl _⟩
 ·have hs:Am op = false:=by (simp [Am] <;> omega)
  rw [show Dx op = true by (simp [Dx] <;> omega),show Dy op reg = false by (simp [Dy,hs] <;> omega),show D5 op Ad = false by (simp [D5] <;> omega),show Dt op Ad reg = false by (simp [Dt,hs] <;> omega)];have q0:decide (27 <= op) = false:=by simp;omega
  have q1:decide (op <= 37) = true:=by simp;omega
  have q2:decide (22 <= op) = false:=by simp;omega
  have q3:decide (op <= 25) = true:=by simp;omega
  have q4:(op != 26) = true:=by simp;omega
  have q5:(op != 38) = true:=by simp;omega
  have q6:(op != 39) = true:=by simp;omega
  have q7:(op == 16) = false:=by simp;omega
  have q8:(op != 24) = true:=by simp;omega
  have q9:(op == 20) = false:=by simp;omega
  have q10:(op == 21) = false:=by simp;omega
  have q11:(op == 25) = false:=by simp;omega
  have q12:(op == 38) = false:=by simp;omega
  have q13:(op == 26) = false:=by simp;omega
  clear h h';go_enter func89,ntmps89;go_wp2_with (go_at_call 111;refine (Az _ _).mono ?_;rintro e w' ⟨rfl,rfl⟩;rw [hs]);exact bodyPost_ret (v:=.tuple #[.bool true,.bool false,.bool false,.bool false]) (by simp [results,results89,go_sem]) rfl ⟨rfl,(Below.refl _ _).alloc nl _⟩
 ·have hs:Am 20 = false:=by decide
  rw [show Dx 20 = true by (simp [Dx] <;> omega),show Dy 20 reg = false by (simp [Dy,hs] <;> omega),show D5 20 Ad = false by (simp [D5] <;> omega),show Dt 20 Ad reg = true by (simp [Dt,hs] <;> omega)];go_enter func89,ntmps89;go_wp2_with (go_at_call 111;refine (Az _ _).mono ?_;rintro e w' ⟨rfl,rfl⟩;rw [hs]);exact bodyPost_ret (v:=.tuple #[.bool true,.bool false,.bool false,.bool true]) (by simp [results,results89,go_sem]) rfl ⟨rfl,(Below.refl _ _).alloc nl _⟩
 ·have hs:Am 21 = false:=by decide
  rw [show Dx 21 = true by (simp [Dx] <;> omega),show Dy 21 reg = false by (simp [Dy,hs] <;> omega),show D5 21 Ad = false by (simp [D5] <;> omega),show Dt 21 Ad reg = true by (simp [Dt,hs] <;> omega)];go_enter func89,ntmps89;go_wp2_with (go_at_call 111;refine (Az _ _).mono ?_;rintro e w' ⟨rfl,rfl⟩;rw [hs]);exact bodyPost_ret (v:=.tuple #[.bool true,.bool false,.bool false,.bool true]) (by simp [results,results89,go_sem]) rfl ⟨rfl,(Below.refl _ _).alloc nl _⟩
 ·have hs:Am op = false:=by (simp [Am] <;> omega)
  rw [show Dx op = true by (simp [Dx] <;> omega),show Dy op reg = true by (simp [Dy,hs] <;> omega),show D5 op Ad = true by (simp [D5] <;> omega),show Dt op Ad reg = false by (simp [Dt,hs] <;> omega)];have q0:decide (27 <= op) = false:=by simp;omega
  have q1:decide (op <= 37) = true:=by simp;omega
  have q2:decide (22 <= op) = true:=by simp;omega
  have q3:decide (op <= 25) = true:=by simp;omega
  have q4:(op != 26) = true:=by simp;omega
  have q5:(op != 38) = true:=by simp;omega
  have q6:(op != 39) = true:=by simp;omega
  have q7:(op == 16) = false:=by simp;omega
  have q8:(op != 24) = true:=by simp;omega
  have q9:(op == 20) = false:=by simp;omega
  have q10:(op == 21) = false:=by simp;omega
  have q11:(op == 25) = false:=by simp;omega
  have q12:(op == 38) = false:=by simp;omega
  have q13:(op == 26) = false:=by simp;omega
  clear h h';go_enter func89,ntmps89;go_wp2_with (go_at_call 111;refine (Az _ _).mono ?_;rintro e w' ⟨rfl,rfl⟩;rw [hs]);exact bodyPost_ret (v:=.tuple #[.bool true,.bool true,.bool true,.bool false]) (by simp [results,results89,go_sem]) rfl ⟨rfl,(Below.refl _ _).alloc nl _⟩
 ·have hs:Am 24 = true:=by decide
  cases reg
  ·rw [show Dx 24 = true by (simp [Dx] <;> omega),show Dy 24 false = false by (simp [Dy,hs] <;> omega),show D5 24 Ad = true by (simp [D5] <;> omega),show Dt 24 Ad false = true by (simp [Dt,hs] <;> omega)];go_enter func89,ntmps89;go_wp2_with (go_at_call 111;refine (Az _ _).mono ?_;rintro e w' ⟨rfl,rfl⟩;rw [hs]);exact bodyPost_ret (v:=.tuple #[.bool true,.bool false,.bool true,.bool true]) (by simp [results,results89,go_sem]) rfl ⟨rfl,(Below.refl _ _).alloc nl _⟩
  ·rw [show Dx 24 = true by (simp [Dx] <;> omega),show Dy 24 true = true by (simp [Dy,hs] <;> omega),show D5 24 Ad = true by (simp [D5] <;> omega),show Dt 24 Ad true = false by (simp [Dt,hs] <;> omega)];go_enter func89,ntmps89;go_wp2_with (go_at_call 111;refine (Az _ _).mono ?_;rintro e w' ⟨rfl,rfl⟩;rw [hs]);exact bodyPost_ret (v:=.tuple #[.bool true,.bool true,.bool true,.bool false]) (by simp [results,results89,go_sem]) rfl ⟨rfl,(Below.refl _ _).alloc nl _⟩
 ·have hs:Am 25 = false:=by decide
  rw [show Dx 25 = true by (simp [Dx] <;> omega),show Dy 25 reg = true by (simp [Dy,hs] <;> omega),show D5 25 Ad = true by (simp [D5] <;> omega),show Dt 25 Ad reg = true by (simp [Dt,hs] <;> omega)];go_enter func89,ntmps89;go_wp2_with (go_at_call 111;refine (Az _ _).mono ?_;rintro e w' ⟨rfl,rfl⟩;rw [hs]);exact bodyPost_ret (v:=.tuple #[.bool true,.bool true,.bool true,.bool true]) (by simp [results,results89,go_sem]) rfl ⟨rfl,(Below.refl _ _).alloc nl _⟩
 ·have hs:Am 26 = false:=by decide
  cases Ad
  ·rw [show Dx 26 = false by (simp [Dx] <;> omega),show Dy 26 reg = false by (simp [Dy,hs] <;> omega),show D5 26 false = true by (simp [D5] <;> omega),show Dt 26 false reg = false by (simp [Dt,hs] <;> omega)];go_enter func89,ntmps89;go_wp2_with (go_at_call 111;refine (Az _ _).mono ?_;rintro e w' ⟨rfl,rfl⟩;rw [hs]);exact bodyPost_ret (v:=.tuple #[.bool false,.bool false,.bool true,.bool false]) (by simp [results,results89,go_sem]) rfl ⟨rfl,(Below.refl _ _).alloc nl _⟩
  ·rw [show Dx 26 = false by (simp [Dx] <;> omega),show Dy 26 reg = false by (simp [Dy,hs] <;> omega),show D5 26 true = false by (simp [D5] <;> omega),show Dt 26 true reg = true by (simp [Dt,hs] <;> omega)];go_enter func89,ntmps89;go_wp2_with (go_at_call 111;refine (Az _ _).mono ?_;rintro e w' ⟨rfl,rfl⟩;rw [hs]);exact bodyPost_ret (v:=.tuple #[.bool false,.bool false,.bool false,.bool true]) (by simp [results,results89,go_sem]) rfl ⟨rfl,(Below.refl _ _).alloc nl _⟩
 ·have hs:Am op = true:=by (simp [Am] <;> omega)
  cases reg
  ·rw [show Dx op = true by (simp [Dx] <;> omega),show Dy op false = false by (simp [Dy,hs] <;> omega),show D5 op Ad = true by (simp [D5] <;> omega),show Dt op Ad false = true by (simp [Dt,hs] <;> omega)];have q0:decide (27 <= op) = true:=by simp;omega
   have q1:decide (op <= 37) = true:=by simp;omega
   have q2:decide (22 <= op) = true:=by simp;omega
   have q3:decide (op <= 25) = false:=by simp;omega
   have q4:(op != 26) = true:=by simp;omega
   have q5:(op != 38) = true:=by simp;omega
   have q6:(op != 39) = true:=by simp;omega
   have q7:(op == 16) = false:=by simp;omega
   have q8:(op != 24) = true:=by simp;omega
   have q9:(op == 20) = false:=by simp;omega
   have q10:(op == 21) = false:=by simp;omega
   have q11:(op == 25) = false:=by simp;omega
   have q12:(op == 38) = false:=by simp;omega
   have q13:(op == 26) = false:=by simp;omega
   clear h h';go_enter func89,ntmps89;go_wp2_with (go_at_call 111;refine (Az _ _).mono ?_;rintro e w' ⟨rfl,rfl⟩;rw [hs]);exact bodyPost_ret (v:=.tuple #[.bool true,.bool false,.bool true,.bool true]) (by simp [results,results89,go_sem]) rfl ⟨rfl,(Below.refl _ _).alloc nl _⟩
  ·rw [show Dx op = true by (simp [Dx] <;> omega),show Dy op true = true by (simp [Dy,hs] <;> omega),show D5 op Ad = true by (simp [D5] <;> omega),show Dt op Ad true = false by (simp [Dt,hs] <;> omega)];have q0:decide (27 <= op) = true:=by simp;omega
   have q1:decide (op <= 37) = true:=by simp;omega
   have q2:decide (22 <= op) = true:=by simp;omega
   have q3:decide (op <= 25) = false:=by simp;omega
   have q4:(op != 26) = true:=by simp;omega
   have q5:(op != 38) = true:=by simp;omega
   have q6:(op != 39) = true:=by simp;omega
   have q7:(op == 16) = false:=by simp;omega
   have q8:(op != 24) = true:=by simp;omega
   have q9:(op == 20) = false:=by simp;omega
   have q10:(op == 21) = false:=by simp;omega
   have q11:(op == 25) = false:=by simp;omega
   have q12:(op == 38) = false:=by simp;omega
   have q13:(op == 26) = false:=by simp;omega
   clear h h';go_enter func89,ntmps89;go_wp2_with (go_at_call 111;refine (Az _ _).mono ?_;rintro e w' ⟨rfl,rfl⟩;rw [hs]);exact bodyPost_ret (v:=.tuple #[.bool true,.bool true,.bool true,.bool false]) (by simp [results,results89,go_sem]) rfl ⟨rfl,(Below.refl _ _).alloc nl _⟩
 ·have hs:Am 38 = false:=by decide
  rw [show Dx 38 = false by (simp [Dx] <;> omega),show Dy 38 reg = false by (simp [Dy,hs] <;> omega),show D5 38 Ad = false by (simp [D5] <;> omega),show Dt 38 Ad reg = true by (simp [Dt,hs] <;> omega)];go_enter func89,ntmps89;go_wp2_with (go_at_call 111;refine (Az _ _).mono ?_;rintro e w' ⟨rfl,rfl⟩;rw [hs]);exact bodyPost_ret (v:=.tuple #[.bool false,.bool false,.bool false,.bool true]) (by simp [results,results89,go_sem]) rfl ⟨rfl,(Below.refl _ _).alloc nl _⟩
 ·have hs:Am 39 = false:=by decide
  rw [show Dx 39 = false by (simp [Dx] <;> omega),show Dy 39 reg = false by (simp [Dy,hs] <;> omega),show D5 39 Ad = false by (simp [D5] <;> omega),show Dt 39 Ad reg = false by (simp [Dt,hs] <;> omega)];go_enter func89,ntmps89;go_wp2_with (go_at_call 111;refine (Az _ _).mono ?_;rintro e w' ⟨rfl,rfl⟩;rw [hs]);exact bodyPost_ret (v:=.tuple #[.bool false,.bool false,.bool false,.bool false]) (by simp [results,results89,go_sem]) rfl ⟨rfl,(Below.refl _ _).alloc nl _⟩
 ·have hs:Am op = false:=by (simp [Am] <;> omega)
  rw [show Dx op = true by (simp [Dx] <;> omega),show Dy op reg = false by (simp [Dy,hs] <;> omega),show D5 op Ad = false by (simp [D5] <;> omega),show Dt op Ad reg = false by (simp [Dt,hs] <;> omega)];have q0:decide (27 <= op) = true:=by simp;omega
  have q1:decide (op <= 37) = false:=by simp;omega
  have q2:decide (22 <= op) = true:=by simp;omega
  have q3:decide (op <= 25) = false:=by simp;omega
  have q4:(op != 26) = true:=by simp;omega
  have q5:(op != 38) = true:=by simp;omega
  have q6:(op != 39) = true:=by simp;omega
  have q7:(op == 16) = false:=by simp;omega
  have q8:(op != 24) = true:=by simp;omega
  have q9:(op == 20) = false:=by simp;omega
  have q10:(op == 21) = false:=by simp;omega
  have q11:(op == 25) = false:=by simp;omega
  have q12:(op == 38) = false:=by simp;omega
  have q13:(op == 26) = false:=by simp;omega
  clear h;go_enter func89,ntmps89;go_wp2_with (go_at_call 111;refine (Az _ _).mono ?_;rintro e w' ⟨rfl,rfl⟩;rw [hs]);exact bodyPost_ret (v:=.tuple #[.bool true,.bool false,.bool false,.bool false]) (by simp [results,results89,go_sem]) rfl ⟨rfl,(Below.refl _ _).alloc nl _⟩
end Go.Proofs.YtjacnhnaoenelaaGreat
