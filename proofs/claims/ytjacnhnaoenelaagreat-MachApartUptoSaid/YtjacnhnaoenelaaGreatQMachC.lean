import Derived.Test.YtjacnhnaoenelaaGreatQMachB
set_option maxRecDepth 100000
set_option maxHeartbeats 32000000
namespace Go.Proofs.YtjacnhnaoenelaaGreat
open Go.Proofs.Tryz
open Go.RowKit
set_option linter.unusedVariables false
def Ep (op size:Int):Bool:=
 if 17 <= op/\op <= 19 then (size == 16 || size == 32 || size == 64)
 else if op = 22\/op = 24 then (size == 1 || size == 2 || size == 4 || size == 8)
 else if op = 23 then (size == 1 || size == 2 || size == 4)
 else if op = 25 then (size == 4 || size == 8)
 else size == 0
def Cb (op:Int) (Ad reg:Bool) (size:Int):Bool:=
 if op < 1\/39 < op then false
 else if op = 16 then reg && (size == 8 || size == 16 || (size == 32 && !Ad))
 else Ep op size && ((decide (op <= 15) || (decide (26 <= op) && decide (op <= 37))) || !Ad) && (Am op || !reg)
theorem Alr (op:Int) (Ad reg:Bool) (size dst src off Aa:Int) (w:World):Calls prog 88 #[.agg #[.int .i64 op,.bool Ad,.bool reg,.int .i64 size,.int .i64 dst,.int .i64 src,.int .i64 off,.int .i64 Aa]] w (Ol w (.bool (Cb op Ad reg size))):=by
 have hc:op < 1\/(1 <= op/\op <= 13)\/op = 14\/op = 15\/op = 16\/(17 <= op/\op <= 19)\/(20 <= op/\op <= 21)\/op = 22\/op = 23\/op = 24\/op = 25\/op = 26\/(27 <= op/\op <= 37)\/(38 <= op/\op <= 39)\/40 <= op:=by omega
 rcases hc with h | ⟨h,h'⟩ | rfl | rfl | rfl | ⟨h,h'⟩ | ⟨h,h'⟩ | rfl | rfl | rfl | rfl | rfl | ⟨h,h'⟩ | ⟨h,h'⟩ | h
 ·have hs:Am op = false:=by (simp [Am] <;> omega)
  rw [show Cb op Ad reg size = (false) by unfold Cb;rw [if_pos (by omega)]];have q0:decide (op < 1) = true:=by simp;omega
  have q1:decide (39 < op) = false:=by simp;omega
  have q2:(op == 16) = false:=by simp;omega
  have q3:decide (17 <= op) = false:=by simp;omega
  have q4:decide (op <= 19) = true:=by simp;omega
  have q5:(op == 22) = false:=by simp;omega
  have q6:(op == 24) = false:=by simp;omega
  have q7:(op == 23) = false:=by simp;omega
  have q8:(op == 25) = false:=by simp;omega
  have q9:decide (op <= 15) = true:=by simp;omega
  have q10:decide (26 <= op) = false:=by simp;omega
  have q11:decide (op <= 37) = true:=by simp;omega
  clear h;go_enter func88,ntmps88;go_wp2_with (go_at_call 111;refine (Az _ _).mono ?_;rintro e w' ⟨rfl,rfl⟩;rw [hs])
  all_goals go_ret
  all_goals exact ⟨by first | rfl | (simp [*];done) | (simp;omega),(Below.refl _ _).alloc nl _⟩
 ·have hs:Am op = true:=by (simp [Am] <;> omega)
  have hz:Ep op size = (size == 0):=by unfold Ep;rw [if_neg (by omega),if_neg (by omega),if_neg (by omega),if_neg (by omega)]
  have k1:decide (op <= 15) = true:=by simp;omega
  have k2:decide (26 <= op) = false:=by simp;omega
  have k3:decide (op <= 37) = true:=by simp;omega
  rw [show Cb op Ad reg size = ((size == 0) && ((true || (false && true)) || !Ad) && (true || !reg)) by unfold Cb;rw [if_neg (by omega),if_neg (by omega),hs,hz,k1,k2,k3]];clear hz k1 k2 k3;have q0:decide (op < 1) = false:=by simp;omega
  have q1:decide (39 < op) = false:=by simp;omega
  have q2:(op == 16) = false:=by simp;omega
  have q3:decide (17 <= op) = false:=by simp;omega
  have q4:decide (op <= 19) = true:=by simp;omega
  have q5:(op == 22) = false:=by simp;omega
  have q6:(op == 24) = false:=by simp;omega
  have q7:(op == 23) = false:=by simp;omega
  have q8:(op == 25) = false:=by simp;omega
  have q9:decide (op <= 15) = true:=by simp;omega
  have q10:decide (26 <= op) = false:=by simp;omega
  have q11:decide (op <= 37) = true:=by simp;omega
  clear h h';go_enter func88,ntmps88;go_wp2_with (go_at_call 111;refine (Az _ _).mono ?_;rintro e w' ⟨rfl,rfl⟩;rw [hs])
  all_goals go_ret
  all_goals exact ⟨by first | rfl | (simp [*];done) | (simp;omega),(Below.refl _ _).alloc nl _⟩
 ·have hs:Am 14 = false:=by decide
  have hz:Ep 14 size = (size == 0):=by unfold Ep;rw [if_neg (by omega),if_neg (by omega),if_neg (by omega),if_neg (by omega)]
  have k1:decide (14 <= 15) = true:=by decide
  have k2:decide (26 <= 14) = false:=by decide
  have k3:decide (14 <= 37) = true:=by decide
  rw [show Cb 14 Ad reg size = ((size == 0) && ((true || (false && true)) || !Ad) && (false || !reg)) by unfold Cb;rw [if_neg (by omega),if_neg (by omega),hs,hz];rfl];clear hz k1 k2 k3;go_enter func88,ntmps88;go_wp2_with (go_at_call 111;refine (Az _ _).mono ?_;rintro e w' ⟨rfl,rfl⟩;rw [hs])
  all_goals go_ret
  all_goals exact ⟨by first | rfl | (simp [*];done) | (simp;omega),(Below.refl _ _).alloc nl _⟩
 ·have hs:Am 15 = true:=by decide
  have hz:Ep 15 size = (size == 0):=by unfold Ep;rw [if_neg (by omega),if_neg (by omega),if_neg (by omega),if_neg (by omega)]
  have k1:decide (15 <= 15) = true:=by decide
  have k2:decide (26 <= 15) = false:=by decide
  have k3:decide (15 <= 37) = true:=by decide
  rw [show Cb 15 Ad reg size = ((size == 0) && ((true || (false && true)) || !Ad) && (true || !reg)) by unfold Cb;rw [if_neg (by omega),if_neg (by omega),hs,hz];rfl];clear hz k1 k2 k3;go_enter func88,ntmps88;go_wp2_with (go_at_call 111;refine (Az _ _).mono ?_;rintro e w' ⟨rfl,rfl⟩;rw [hs])
  all_goals go_ret
  all_goals exact ⟨by first | rfl | (simp [*];done) | (simp;omega),(Below.refl _ _).alloc nl _⟩
 ·have hs:Am 16 = false:=by decide
  rw [show Cb 16 Ad reg size = (reg && (size == 8 || size == 16 || (size == 32 && !Ad))) by unfold Cb;rw [if_neg (by decide),if_pos rfl]];go_enter func88,ntmps88;go_wp2_with (go_at_call 111;refine (Az _ _).mono ?_;rintro e w' ⟨rfl,rfl⟩;rw [hs])
  all_goals go_ret
  all_goals exact ⟨by first | rfl | (simp [*];done) | (simp;omega),(Below.refl _ _).alloc nl _⟩
 ·have hs:Am op = false:=by (simp [Am] <;> omega)
  have hz:Ep op size = (size == 16 || size == 32 || size == 64):=by unfold Ep;rw [if_pos (by omega)]
  have k1:decide (op <= 15) = false:=by simp;omega
  have k2:decide (26 <= op) = false:=by simp;omega
  have k3:decide (op <= 37) = true:=by simp;omega
  rw [show Cb op Ad reg size = ((size == 16 || size == 32 || size == 64) && ((false || (false && true)) || !Ad) && (false || !reg)) by unfold Cb;rw [if_neg (by omega),if_neg (by omega),hs,hz,k1,k2,k3]];clear hz k1 k2 k3;have q0:decide (op < 1) = false:=by simp;omega
  have q1:decide (39 < op) = false:=by simp;omega
  have q2:(op == 16) = false:=by simp;omega
  have q3:decide (17 <= op) = true:=by simp;omega
  have q4:decide (op <= 19) = true:=by simp;omega
  have q5:(op == 22) = false:=by simp;omega
  have q6:(op == 24) = false:=by simp;omega
  have q7:(op == 23) = false:=by simp;omega
  have q8:(op == 25) = false:=by simp;omega
  have q9:decide (op <= 15) = false:=by simp;omega
  have q10:decide (26 <= op) = false:=by simp;omega
  have q11:decide (op <= 37) = true:=by simp;omega
  clear h h';go_enter func88,ntmps88;go_wp2_with (go_at_call 111;refine (Az _ _).mono ?_;rintro e w' ⟨rfl,rfl⟩;rw [hs])
  all_goals go_ret
  all_goals exact ⟨by first | rfl | (simp [*];done) | (simp;omega),(Below.refl _ _).alloc nl _⟩
 ·have hs:Am op = false:=by (simp [Am] <;> omega)
  have hz:Ep op size = (size == 0):=by unfold Ep;rw [if_neg (by omega),if_neg (by omega),if_neg (by omega),if_neg (by omega)]
  have k1:decide (op <= 15) = false:=by simp;omega
  have k2:decide (26 <= op) = false:=by simp;omega
  have k3:decide (op <= 37) = true:=by simp;omega
  rw [show Cb op Ad reg size = ((size == 0) && ((false || (false && true)) || !Ad) && (false || !reg)) by unfold Cb;rw [if_neg (by omega),if_neg (by omega),hs,hz,k1,k2,k3]];clear hz k1 k2 k3;have q0:decide (op < 1) = false:=by simp;omega
  have q1:decide (39 < op) = false:=by simp;omega
  have q2:(op == 16) = false:=by simp;omega
  have q3:decide (17 <= op) = true:=by simp;omega
  have q4:decide (op <= 19) = false:=by simp;omega
  have q5:(op == 22) = false:=by simp;omega
  have q6:(op == 24) = false:=by simp;omega
  have q7:(op == 23) = false:=by simp;omega
  have q8:(op == 25) = false:=by simp;omega
  have q9:decide (op <= 15) = false:=by simp;omega
  have q10:decide (26 <= op) = false:=by simp;omega
  have q11:decide (op <= 37) = true:=by simp;omega
  clear h h';go_enter func88,ntmps88;go_wp2_with (go_at_call 111;refine (Az _ _).mono ?_;rintro e w' ⟨rfl,rfl⟩;rw [hs])
  all_goals go_ret
  all_goals exact ⟨by first | rfl | (simp [*];done) | (simp;omega),(Below.refl _ _).alloc nl _⟩
 ·have hs:Am 22 = false:=by decide
  have hz:Ep 22 size = (size == 1 || size == 2 || size == 4 || size == 8):=by unfold Ep;rw [if_neg (by omega),if_pos (by omega)]
  have k1:decide (22 <= 15) = false:=by decide
  have k2:decide (26 <= 22) = false:=by decide
  have k3:decide (22 <= 37) = true:=by decide
  rw [show Cb 22 Ad reg size = ((size == 1 || size == 2 || size == 4 || size == 8) && ((false || (false && true)) || !Ad) && (false || !reg)) by unfold Cb;rw [if_neg (by omega),if_neg (by omega),hs,hz];rfl];clear hz k1 k2 k3;go_enter func88,ntmps88;go_wp2_with (go_at_call 111;refine (Az _ _).mono ?_;rintro e w' ⟨rfl,rfl⟩;rw [hs])
  all_goals go_ret
  all_goals exact ⟨by first | rfl | (simp [*];done) | (simp;omega),(Below.refl _ _).alloc nl _⟩
 ·have hs:Am 23 = false:=by decide
  have hz:Ep 23 size = (size == 1 || size == 2 || size == 4):=by unfold Ep;rw [if_neg (by omega),if_neg (by omega),if_pos (by omega)]
  have k1:decide (23 <= 15) = false:=by decide
  have k2:decide (26 <= 23) = false:=by decide
  have k3:decide (23 <= 37) = true:=by decide
  rw [show Cb 23 Ad reg size = ((size == 1 || size == 2 || size == 4) && ((false || (false && true)) || !Ad) && (false || !reg)) by unfold Cb;rw [if_neg (by omega),if_neg (by omega),hs,hz];rfl];clear hz k1 k2 k3;go_enter func88,ntmps88;go_wp2_with (go_at_call 111;refine (Az _ _).mono ?_;rintro e w' ⟨rfl,rfl⟩;rw [hs])
  all_goals go_ret
  all_goals exact ⟨by first | rfl | (simp [*];done) | (simp;omega),(Below.refl _ _).alloc nl _⟩
 ·have hs:Am 24 = true:=by decide
  have hz:Ep 24 size = (size == 1 || size == 2 || size == 4 || size == 8):=by unfold Ep;rw [if_neg (by omega),if_pos (by omega)]
  have k1:decide (24 <= 15) = false:=by decide
  have k2:decide (26 <= 24) = false:=by decide
  have k3:decide (24 <= 37) = true:=by decide
  rw [show Cb 24 Ad reg size = ((size == 1 || size == 2 || size == 4 || size == 8) && ((false || (false && true)) || !Ad) && (true || !reg)) by unfold Cb;rw [if_neg (by omega),if_neg (by omega),hs,hz];rfl];clear hz k1 k2 k3;go_enter func88,ntmps88;go_wp2_with (go_at_call 111;refine (Az _ _).mono ?_;rintro e w' ⟨rfl,rfl⟩;rw [hs])
  all_goals go_ret
  all_goals exact ⟨by first | rfl | (simp [*];done) | (simp;omega),(Below.refl _ _).alloc nl _⟩
 ·have hs:Am 25 = false:=by decide
  have hz:Ep 25 size = (size == 4 || size == 8):=by unfold Ep;rw [if_neg (by omega),if_neg (by omega),if_neg (by omega),if_pos (by omega)]
  have k1:decide (25 <= 15) = false:=by decide
  have k2:decide (26 <= 25) = false:=by decide
  have k3:decide (25 <= 37) = true:=by decide
  rw [show Cb 25 Ad reg size = ((size == 4 || size == 8) && ((false || (false && true)) || !Ad) && (false || !reg)) by unfold Cb;rw [if_neg (by omega),if_neg (by omega),hs,hz];rfl];clear hz k1 k2 k3;go_enter func88,ntmps88;go_wp2_with (go_at_call 111;refine (Az _ _).mono ?_;rintro e w' ⟨rfl,rfl⟩;rw [hs])
  all_goals go_ret
  all_goals exact ⟨by first | rfl | (simp [*];done) | (simp;omega),(Below.refl _ _).alloc nl _⟩
 ·have hs:Am 26 = false:=by decide
  have hz:Ep 26 size = (size == 0):=by unfold Ep;rw [if_neg (by omega),if_neg (by omega),if_neg (by omega),if_neg (by omega)]
  have k1:decide (26 <= 15) = false:=by decide
  have k2:decide (26 <= 26) = true:=by decide
  have k3:decide (26 <= 37) = true:=by decide
  rw [show Cb 26 Ad reg size = ((size == 0) && ((false || (true && true)) || !Ad) && (false || !reg)) by unfold Cb;rw [if_neg (by omega),if_neg (by omega),hs,hz];rfl];clear hz k1 k2 k3;go_enter func88,ntmps88;go_wp2_with (go_at_call 111;refine (Az _ _).mono ?_;rintro e w' ⟨rfl,rfl⟩;rw [hs])
  all_goals go_ret
  all_goals exact ⟨by first | rfl | (simp [*];done) | (simp;omega),(Below.refl _ _).alloc nl _⟩
 ·have hs:Am op = true:=by (simp [Am] <;> omega)
  have hz:Ep op size = (size == 0):=by unfold Ep;rw [if_neg (by omega),if_neg (by omega),if_neg (by omega),if_neg (by omega)]
  have k1:decide (op <= 15) = false:=by simp;omega
  have k2:decide (26 <= op) = true:=by simp;omega
  have k3:decide (op <= 37) = true:=by simp;omega
  rw [show Cb op Ad reg size = ((size == 0) && ((false || (true && true)) || !Ad) && (true || !reg)) by unfold Cb;rw [if_neg (by omega),if_neg (by omega),hs,hz,k1,k2,k3]];clear hz k1 k2 k3;have q0:decide (op < 1) = false:=by simp;omega
  have q1:decide (39 < op) = false:=by simp;omega
  have q2:(op == 16) = false:=by simp;omega
  have q3:decide (17 <= op) = true:=by simp;omega
  have q4:decide (op <= 19) = false:=by simp;omega
  have q5:(op == 22) = false:=by simp;omega
  have q6:(op == 24) = false:=by simp;omega
  have q7:(op == 23) = false:=by simp;omega
  have q8:(op == 25) = false:=by simp;omega
  have q9:decide (op <= 15) = false:=by simp;omega
  have q10:decide (26 <= op) = true:=by simp;omega
  have q11:decide (op <= 37) = true:=by simp;omega
  clear h h';go_enter func88,ntmps88;go_wp2_with (go_at_call 111;refine (Az _ _).mono ?_;rintro e w' ⟨rfl,rfl⟩;rw [hs])
  all_goals go_ret
  all_goals exact ⟨by first | rfl | (simp [*];done) | (simp;omega),(Below.refl _ _).alloc nl _⟩
 ·have hs:Am op = false:=by (simp [Am] <;> omega)
  have hz:Ep op size = (size == 0):=by unfold Ep;rw [if_neg (by omega),if_neg (by omega),if_neg (by omega),if_neg (by omega)]
  have k1:decide (op <= 15) = false:=by simp;omega
  have k2:decide (26 <= op) = true:=by simp;omega
  have k3:decide (op <= 37) = false:=by simp;omega
  rw [show Cb op Ad reg size = ((size == 0) && ((false || (true && false)) || !Ad) && (false || !reg)) by unfold Cb;rw [if_neg (by omega),if_neg (by omega),hs,hz,k1,k2,k3]];clear hz k1 k2 k3;have q0:decide (op < 1) = false:=by simp;omega
  have q1:decide (39 < op) = false:=by simp;omega
  have q2:(op == 16) = false:=by simp;omega
  have q3:decide (17 <= op) = true:=by simp;omega
  have q4:decide (op <= 19) = false:=by simp;omega
  have q5:(op == 22) = false:=by simp;omega
  have q6:(op == 24) = false:=by simp;omega
  have q7:(op == 23) = false:=by simp;omega
  have q8:(op == 25) = false:=by simp;omega
  have q9:decide (op <= 15) = false:=by simp;omega
  have q10:decide (26 <= op) = true:=by simp;omega
  have q11:decide (op <= 37) = false:=by simp;omega
  clear h h';go_enter func88,ntmps88;go_wp2_with (go_at_call 111;refine (Az _ _).mono ?_;rintro e w' ⟨rfl,rfl⟩;rw [hs])
  all_goals go_ret
  all_goals exact ⟨by first | rfl | (simp [*];done) | (simp;omega),(Below.refl _ _).alloc nl _⟩
 ·have hs:Am op = false:=by (simp [Am] <;> omega)
  rw [show Cb op Ad reg size = (false) by unfold Cb;rw [if_pos (by omega)]];have q0:decide (op < 1) = false:=by simp;omega
  have q1:decide (39 < op) = true:=by simp;omega
  have q2:(op == 16) = false:=by simp;omega
  have q3:decide (17 <= op) = true:=by simp;omega
  have q4:decide (op <= 19) = false:=by simp;omega
  have q5:(op == 22) = false:=by simp;omega
  have q6:(op == 24) = false:=by simp;omega
  have q7:(op == 23) = false:=by simp;omega
  have q8:(op == 25) = false:=by simp;omega
  have q9:decide (op <= 15) = false:=by simp;omega
  have q10:decide (26 <= op) = true:=by simp;omega
  have q11:decide (op <= 37) = false:=by simp;omega
  clear h;go_enter func88,ntmps88;go_wp2_with (go_at_call 111;refine (Az _ _).mono ?_;rintro e w' ⟨rfl,rfl⟩;rw [hs])
  all_goals go_ret
  all_goals exact ⟨by first | rfl | (simp [*];done) | (simp;omega),(Below.refl _ _).alloc nl _⟩
end Go.Proofs.YtjacnhnaoenelaaGreat
