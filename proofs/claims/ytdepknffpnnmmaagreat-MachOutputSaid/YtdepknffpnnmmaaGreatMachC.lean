import Derived.Test.YtdepknffpnnmmaaGreatMachB
set_option maxRecDepth 100000
set_option maxHeartbeats 32000000
namespace Go.Proofs.YtdepknffpnnmmaaGreat
open Go.RowKit
set_option linter.unusedVariables false
def sizesv (op size:Int):Bool:=
 if 17 <= op/\op <= 19 then (size == 16 || size == 32 || size == 64)
 else if op = 22\/op = 24 then (size == 1 || size == 2 || size == 4 || size == 8)
 else if op = 23 then (size == 1 || size == 2 || size == 4)
 else if op = 25 then (size == 4 || size == 8)
 else size == 0
def formedv (op:Int) (nar reg:Bool) (size:Int):Bool:=
 if op < 1\/39 < op then false
 else if op = 16 then reg && (size == 8 || size == 16 || (size == 32 && !nar))
 else sizesv op size && ((decide (op <= 15) || (decide (26 <= op) && decide (op <= 37))) || !nar) && (secondv op || !reg)
theorem formed_of (op:Int) (nar reg:Bool) (size dst src off imm:Int) (w:World):Calls Tryz.prog 99 #[.agg #[.int .i64 op,.bool nar,.bool reg,.int .i64 size,.int .i64 dst,.int .i64 src,.int .i64 off,.int .i64 imm]] w (Ret w (.bool (formedv op nar reg size))):=by
 have hc:op < 1\/(1 <= op/\op <= 13)\/op = 14\/op = 15\/op = 16\/(17 <= op/\op <= 19)\/(20 <= op/\op <= 21)\/op = 22\/op = 23\/op = 24\/op = 25\/op = 26\/(27 <= op/\op <= 37)\/(38 <= op/\op <= 39)\/40 <= op:=by omega
 rcases hc with h | ⟨h,h'⟩ | rfl | rfl | rfl | ⟨h,h'⟩ | ⟨h,h'⟩ | rfl | rfl | rfl | rfl | rfl | ⟨h,h'⟩ | ⟨h,h'⟩ | h
 ·have hs:secondv op = false:=by (simp [secondv] <;> omega)
  rw [show formedv op nar reg size = (false) by unfold formedv;rw [if_pos (by omega)]]
  have q0:decide (op < 1) = true:=by simp;omega
  have q1:decide (39 < op) = false:=by simp;omega
  have q2:(op == 16) = false:=by simp;omega
  have q3:decide (17 <= op) = false:=by simp;omega
  have q4:decide (op <= 19) = true:=by simp;omega
  have q5:(op == 22) = false:=by simp;omega
  have q6:(op == 24) = false:=by simp;omega
  have q7:(op == 23) = false:=by simp;omega
  have q8:(op == 25) = false:=by simp;omega
  have q9:decide (op <= 15) = true:=by simp;omega
  have q10:decide (26 <= op) = false:=by simp;omega
  have q11:decide (op <= 37) = true:=by simp;omega
  clear h
  go_enter Tryz.func99,Tryz.ntmps99
  go_wp2_with (go_at_call 120;refine (second_of _ _).mono ?_;rintro e w' ⟨rfl,rfl⟩;rw [hs])
  all_goals go_ret
  all_goals exact ⟨by first | rfl | (simp [*];done) | (simp;omega),(Below.refl _ _).alloc (Nat.le_refl _) _⟩
 ·have hs:secondv op = true:=by (simp [secondv] <;> omega)
  have hz:sizesv op size = (size == 0):=by unfold sizesv;rw [if_neg (by omega),if_neg (by omega),if_neg (by omega),if_neg (by omega)]
  have k1:decide (op <= 15) = true:=by simp;omega
  have k2:decide (26 <= op) = false:=by simp;omega
  have k3:decide (op <= 37) = true:=by simp;omega
  rw [show formedv op nar reg size = ((size == 0) && ((true || (false && true)) || !nar) && (true || !reg)) by unfold formedv;rw [if_neg (by omega),if_neg (by omega),hs,hz,k1,k2,k3]]
  clear hz k1 k2 k3
  have q0:decide (op < 1) = false:=by simp;omega
  have q1:decide (39 < op) = false:=by simp;omega
  have q2:(op == 16) = false:=by simp;omega
  have q3:decide (17 <= op) = false:=by simp;omega
  have q4:decide (op <= 19) = true:=by simp;omega
  have q5:(op == 22) = false:=by simp;omega
  have q6:(op == 24) = false:=by simp;omega
  have q7:(op == 23) = false:=by simp;omega
  have q8:(op == 25) = false:=by simp;omega
  have q9:decide (op <= 15) = true:=by simp;omega
  have q10:decide (26 <= op) = false:=by simp;omega
  have q11:decide (op <= 37) = true:=by simp;omega
  clear h h'
  go_enter Tryz.func99,Tryz.ntmps99
  go_wp2_with (go_at_call 120;refine (second_of _ _).mono ?_;rintro e w' ⟨rfl,rfl⟩;rw [hs])
  all_goals go_ret
  all_goals exact ⟨by first | rfl | (simp [*];done) | (simp;omega),(Below.refl _ _).alloc (Nat.le_refl _) _⟩
 ·have hs:secondv 14 = false:=by decide
  have hz:sizesv 14 size = (size == 0):=by unfold sizesv;rw [if_neg (by omega),if_neg (by omega),if_neg (by omega),if_neg (by omega)]
  have k1:decide (14 <= 15) = true:=by decide
  have k2:decide (26 <= 14) = false:=by decide
  have k3:decide (14 <= 37) = true:=by decide
  rw [show formedv 14 nar reg size = ((size == 0) && ((true || (false && true)) || !nar) && (false || !reg)) by unfold formedv;rw [if_neg (by omega),if_neg (by omega),hs,hz];rfl]
  clear hz k1 k2 k3
  go_enter Tryz.func99,Tryz.ntmps99
  go_wp2_with (go_at_call 120;refine (second_of _ _).mono ?_;rintro e w' ⟨rfl,rfl⟩;rw [hs])
  all_goals go_ret
  all_goals exact ⟨by first | rfl | (simp [*];done) | (simp;omega),(Below.refl _ _).alloc (Nat.le_refl _) _⟩
 ·have hs:secondv 15 = true:=by decide
  have hz:sizesv 15 size = (size == 0):=by unfold sizesv;rw [if_neg (by omega),if_neg (by omega),if_neg (by omega),if_neg (by omega)]
  have k1:decide (15 <= 15) = true:=by decide
  have k2:decide (26 <= 15) = false:=by decide
  have k3:decide (15 <= 37) = true:=by decide
  rw [show formedv 15 nar reg size = ((size == 0) && ((true || (false && true)) || !nar) && (true || !reg)) by unfold formedv;rw [if_neg (by omega),if_neg (by omega),hs,hz];rfl]
  clear hz k1 k2 k3
  go_enter Tryz.func99,Tryz.ntmps99
  go_wp2_with (go_at_call 120;refine (second_of _ _).mono ?_;rintro e w' ⟨rfl,rfl⟩;rw [hs])
  all_goals go_ret
  all_goals exact ⟨by first | rfl | (simp [*];done) | (simp;omega),(Below.refl _ _).alloc (Nat.le_refl _) _⟩
 ·have hs:secondv 16 = false:=by decide
  rw [show formedv 16 nar reg size = (reg && (size == 8 || size == 16 || (size == 32 && !nar))) by unfold formedv;rw [if_neg (by decide),if_pos rfl]]
  go_enter Tryz.func99,Tryz.ntmps99
  go_wp2_with (go_at_call 120;refine (second_of _ _).mono ?_;rintro e w' ⟨rfl,rfl⟩;rw [hs])
  all_goals go_ret
  all_goals exact ⟨by first | rfl | (simp [*];done) | (simp;omega),(Below.refl _ _).alloc (Nat.le_refl _) _⟩
 ·have hs:secondv op = false:=by (simp [secondv] <;> omega)
  have hz:sizesv op size = (size == 16 || size == 32 || size == 64):=by unfold sizesv;rw [if_pos (by omega)]
  have k1:decide (op <= 15) = false:=by simp;omega
  have k2:decide (26 <= op) = false:=by simp;omega
  have k3:decide (op <= 37) = true:=by simp;omega
  rw [show formedv op nar reg size = ((size == 16 || size == 32 || size == 64) && ((false || (false && true)) || !nar) && (false || !reg)) by unfold formedv;rw [if_neg (by omega),if_neg (by omega),hs,hz,k1,k2,k3]]
  clear hz k1 k2 k3
  have q0:decide (op < 1) = false:=by simp;omega
  have q1:decide (39 < op) = false:=by simp;omega
  have q2:(op == 16) = false:=by simp;omega
  have q3:decide (17 <= op) = true:=by simp;omega
  have q4:decide (op <= 19) = true:=by simp;omega
  have q5:(op == 22) = false:=by simp;omega
  have q6:(op == 24) = false:=by simp;omega
  have q7:(op == 23) = false:=by simp;omega
  have q8:(op == 25) = false:=by simp;omega
  have q9:decide (op <= 15) = false:=by simp;omega
  have q10:decide (26 <= op) = false:=by simp;omega
  have q11:decide (op <= 37) = true:=by simp;omega
  clear h h'
  go_enter Tryz.func99,Tryz.ntmps99
  go_wp2_with (go_at_call 120;refine (second_of _ _).mono ?_;rintro e w' ⟨rfl,rfl⟩;rw [hs])
  all_goals go_ret
  all_goals exact ⟨by first | rfl | (simp [*];done) | (simp;omega),(Below.refl _ _).alloc (Nat.le_refl _) _⟩
 ·have hs:secondv op = false:=by (simp [secondv] <;> omega)
  have hz:sizesv op size = (size == 0):=by unfold sizesv;rw [if_neg (by omega),if_neg (by omega),if_neg (by omega),if_neg (by omega)]
  have k1:decide (op <= 15) = false:=by simp;omega
  have k2:decide (26 <= op) = false:=by simp;omega
  have k3:decide (op <= 37) = true:=by simp;omega
  rw [show formedv op nar reg size = ((size == 0) && ((false || (false && true)) || !nar) && (false || !reg)) by unfold formedv;rw [if_neg (by omega),if_neg (by omega),hs,hz,k1,k2,k3]]
  clear hz k1 k2 k3
  have q0:decide (op < 1) = false:=by simp;omega
  have q1:decide (39 < op) = false:=by simp;omega
  have q2:(op == 16) = false:=by simp;omega
  have q3:decide (17 <= op) = true:=by simp;omega
  have q4:decide (op <= 19) = false:=by simp;omega
  have q5:(op == 22) = false:=by simp;omega
  have q6:(op == 24) = false:=by simp;omega
  have q7:(op == 23) = false:=by simp;omega
  have q8:(op == 25) = false:=by simp;omega
  have q9:decide (op <= 15) = false:=by simp;omega
  have q10:decide (26 <= op) = false:=by simp;omega
  have q11:decide (op <= 37) = true:=by simp;omega
  clear h h'
  go_enter Tryz.func99,Tryz.ntmps99
  go_wp2_with (go_at_call 120;refine (second_of _ _).mono ?_;rintro e w' ⟨rfl,rfl⟩;rw [hs])
  all_goals go_ret
  all_goals exact ⟨by first | rfl | (simp [*];done) | (simp;omega),(Below.refl _ _).alloc (Nat.le_refl _) _⟩
 ·have hs:secondv 22 = false:=by decide
  have hz:sizesv 22 size = (size == 1 || size == 2 || size == 4 || size == 8):=by unfold sizesv;rw [if_neg (by omega),if_pos (by omega)]
  have k1:decide (22 <= 15) = false:=by decide
  have k2:decide (26 <= 22) = false:=by decide
  have k3:decide (22 <= 37) = true:=by decide
  rw [show formedv 22 nar reg size = ((size == 1 || size == 2 || size == 4 || size == 8) && ((false || (false && true)) || !nar) && (false || !reg)) by unfold formedv;rw [if_neg (by omega),if_neg (by omega),hs,hz];rfl]
  clear hz k1 k2 k3
  go_enter Tryz.func99,Tryz.ntmps99
  go_wp2_with (go_at_call 120;refine (second_of _ _).mono ?_;rintro e w' ⟨rfl,rfl⟩;rw [hs])
  all_goals go_ret
  all_goals exact ⟨by first | rfl | (simp [*];done) | (simp;omega),(Below.refl _ _).alloc (Nat.le_refl _) _⟩
 ·have hs:secondv 23 = false:=by decide
  have hz:sizesv 23 size = (size == 1 || size == 2 || size == 4):=by unfold sizesv;rw [if_neg (by omega),if_neg (by omega),if_pos (by omega)]
  have k1:decide (23 <= 15) = false:=by decide
  have k2:decide (26 <= 23) = false:=by decide
  have k3:decide (23 <= 37) = true:=by decide
  rw [show formedv 23 nar reg size = ((size == 1 || size == 2 || size == 4) && ((false || (false && true)) || !nar) && (false || !reg)) by unfold formedv;rw [if_neg (by omega),if_neg (by omega),hs,hz];rfl]
  clear hz k1 k2 k3
  go_enter Tryz.func99,Tryz.ntmps99
  go_wp2_with (go_at_call 120;refine (second_of _ _).mono ?_;rintro e w' ⟨rfl,rfl⟩;rw [hs])
  all_goals go_ret
  all_goals exact ⟨by first | rfl | (simp [*];done) | (simp;omega),(Below.refl _ _).alloc (Nat.le_refl _) _⟩
 ·have hs:secondv 24 = true:=by decide
  have hz:sizesv 24 size = (size == 1 || size == 2 || size == 4 || size == 8):=by unfold sizesv;rw [if_neg (by omega),if_pos (by omega)]
  have k1:decide (24 <= 15) = false:=by decide
  have k2:decide (26 <= 24) = false:=by decide
  have k3:decide (24 <= 37) = true:=by decide
  rw [show formedv 24 nar reg size = ((size == 1 || size == 2 || size == 4 || size == 8) && ((false || (false && true)) || !nar) && (true || !reg)) by unfold formedv;rw [if_neg (by omega),if_neg (by omega),hs,hz];rfl]
  clear hz k1 k2 k3
  go_enter Tryz.func99,Tryz.ntmps99
  go_wp2_with (go_at_call 120;refine (second_of _ _).mono ?_;rintro e w' ⟨rfl,rfl⟩;rw [hs])
  all_goals go_ret
  all_goals exact ⟨by first | rfl | (simp [*];done) | (simp;omega),(Below.refl _ _).alloc (Nat.le_refl _) _⟩
 ·have hs:secondv 25 = false:=by decide
  have hz:sizesv 25 size = (size == 4 || size == 8):=by unfold sizesv;rw [if_neg (by omega),if_neg (by omega),if_neg (by omega),if_pos (by omega)]
  have k1:decide (25 <= 15) = false:=by decide
  have k2:decide (26 <= 25) = false:=by decide
  have k3:decide (25 <= 37) = true:=by decide
  rw [show formedv 25 nar reg size = ((size == 4 || size == 8) && ((false || (false && true)) || !nar) && (false || !reg)) by unfold formedv;rw [if_neg (by omega),if_neg (by omega),hs,hz];rfl]
  clear hz k1 k2 k3
  go_enter Tryz.func99,Tryz.ntmps99
  go_wp2_with (go_at_call 120;refine (second_of _ _).mono ?_;rintro e w' ⟨rfl,rfl⟩;rw [hs])
  all_goals go_ret
  all_goals exact ⟨by first | rfl | (simp [*];done) | (simp;omega),(Below.refl _ _).alloc (Nat.le_refl _) _⟩
 ·have hs:secondv 26 = false:=by decide
  have hz:sizesv 26 size = (size == 0):=by unfold sizesv;rw [if_neg (by omega),if_neg (by omega),if_neg (by omega),if_neg (by omega)]
  have k1:decide (26 <= 15) = false:=by decide
  have k2:decide (26 <= 26) = true:=by decide
  have k3:decide (26 <= 37) = true:=by decide
  rw [show formedv 26 nar reg size = ((size == 0) && ((false || (true && true)) || !nar) && (false || !reg)) by unfold formedv;rw [if_neg (by omega),if_neg (by omega),hs,hz];rfl]
  clear hz k1 k2 k3
  go_enter Tryz.func99,Tryz.ntmps99
  go_wp2_with (go_at_call 120;refine (second_of _ _).mono ?_;rintro e w' ⟨rfl,rfl⟩;rw [hs])
  all_goals go_ret
  all_goals exact ⟨by first | rfl | (simp [*];done) | (simp;omega),(Below.refl _ _).alloc (Nat.le_refl _) _⟩
 ·have hs:secondv op = true:=by (simp [secondv] <;> omega)
  have hz:sizesv op size = (size == 0):=by unfold sizesv;rw [if_neg (by omega),if_neg (by omega),if_neg (by omega),if_neg (by omega)]
  have k1:decide (op <= 15) = false:=by simp;omega
  have k2:decide (26 <= op) = true:=by simp;omega
  have k3:decide (op <= 37) = true:=by simp;omega
  rw [show formedv op nar reg size = ((size == 0) && ((false || (true && true)) || !nar) && (true || !reg)) by unfold formedv;rw [if_neg (by omega),if_neg (by omega),hs,hz,k1,k2,k3]]
  clear hz k1 k2 k3
  have q0:decide (op < 1) = false:=by simp;omega
  have q1:decide (39 < op) = false:=by simp;omega
  have q2:(op == 16) = false:=by simp;omega
  have q3:decide (17 <= op) = true:=by simp;omega
  have q4:decide (op <= 19) = false:=by simp;omega
  have q5:(op == 22) = false:=by simp;omega
  have q6:(op == 24) = false:=by simp;omega
  have q7:(op == 23) = false:=by simp;omega
  have q8:(op == 25) = false:=by simp;omega
  have q9:decide (op <= 15) = false:=by simp;omega
  have q10:decide (26 <= op) = true:=by simp;omega
  have q11:decide (op <= 37) = true:=by simp;omega
  clear h h'
  go_enter Tryz.func99,Tryz.ntmps99
  go_wp2_with (go_at_call 120;refine (second_of _ _).mono ?_;rintro e w' ⟨rfl,rfl⟩;rw [hs])
  all_goals go_ret
  all_goals exact ⟨by first | rfl | (simp [*];done) | (simp;omega),(Below.refl _ _).alloc (Nat.le_refl _) _⟩
 ·have hs:secondv op = false:=by (simp [secondv] <;> omega)
  have hz:sizesv op size = (size == 0):=by unfold sizesv;rw [if_neg (by omega),if_neg (by omega),if_neg (by omega),if_neg (by omega)]
  have k1:decide (op <= 15) = false:=by simp;omega
  have k2:decide (26 <= op) = true:=by simp;omega
  have k3:decide (op <= 37) = false:=by simp;omega
  rw [show formedv op nar reg size = ((size == 0) && ((false || (true && false)) || !nar) && (false || !reg)) by unfold formedv;rw [if_neg (by omega),if_neg (by omega),hs,hz,k1,k2,k3]]
  clear hz k1 k2 k3
  have q0:decide (op < 1) = false:=by simp;omega
  have q1:decide (39 < op) = false:=by simp;omega
  have q2:(op == 16) = false:=by simp;omega
  have q3:decide (17 <= op) = true:=by simp;omega
  have q4:decide (op <= 19) = false:=by simp;omega
  have q5:(op == 22) = false:=by simp;omega
  have q6:(op == 24) = false:=by simp;omega
  have q7:(op == 23) = false:=by simp;omega
  have q8:(op == 25) = false:=by simp;omega
  have q9:decide (op <= 15) = false:=by simp;omega
  have q10:decide (26 <= op) = true:=by simp;omega
  have q11:decide (op <= 37) = false:=by simp;omega
  clear h h'
  go_enter Tryz.func99,Tryz.ntmps99
  go_wp2_with (go_at_call 120;refine (second_of _ _).mono ?_;rintro e w' ⟨rfl,rfl⟩;rw [hs])
  all_goals go_ret
  all_goals exact ⟨by first | rfl | (simp [*];done) | (simp;omega),(Below.refl _ _).alloc (Nat.le_refl _) _⟩
 ·have hs:secondv op = false:=by (simp [secondv] <;> omega)
  rw [show formedv op nar reg size = (false) by unfold formedv;rw [if_pos (by omega)]]
  have q0:decide (op < 1) = false:=by simp;omega
  have q1:decide (39 < op) = true:=by simp;omega
  have q2:(op == 16) = false:=by simp;omega
  have q3:decide (17 <= op) = true:=by simp;omega
  have q4:decide (op <= 19) = false:=by simp;omega
  have q5:(op == 22) = false:=by simp;omega
  have q6:(op == 24) = false:=by simp;omega
  have q7:(op == 23) = false:=by simp;omega
  have q8:(op == 25) = false:=by simp;omega
  have q9:decide (op <= 15) = false:=by simp;omega
  have q10:decide (26 <= op) = true:=by simp;omega
  have q11:decide (op <= 37) = false:=by simp;omega
  clear h
  go_enter Tryz.func99,Tryz.ntmps99
  go_wp2_with (go_at_call 120;refine (second_of _ _).mono ?_;rintro e w' ⟨rfl,rfl⟩;rw [hs])
  all_goals go_ret
  all_goals exact ⟨by first | rfl | (simp [*];done) | (simp;omega),(Below.refl _ _).alloc (Nat.le_refl _) _⟩
end Go.Proofs.YtdepknffpnnmmaaGreat
