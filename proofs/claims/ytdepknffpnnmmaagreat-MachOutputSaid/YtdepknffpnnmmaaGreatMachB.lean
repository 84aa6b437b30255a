import Derived.Test.YtdepknffpnnmmaaGreatJ0a
set_option maxRecDepth 100000
set_option maxHeartbeats 32000000
namespace Go.Proofs.YtdepknffpnnmmaaGreat
open Go.RowKit
set_option linter.unusedVariables false
def writesSrcv (op imm:Int):Bool:=(op == 25) && (imm == 225 || imm == 1 || imm == 65 || imm == 81 || imm == 161)
theorem writesSrc_of (op imm:Int) (w:World):Calls Tryz.prog 103 #[.int .i64 op,.int .i64 imm] w (Told w (.bool (writesSrcv op imm))):=by
 by_cases ho:op = 25
 ·subst ho
  have hc:imm = 225\/imm = 1\/imm = 65\/imm = 81\/imm = 161\/(imm ≠ 225/\imm ≠ 1/\imm ≠ 65/\imm ≠ 81/\imm ≠ 161):=by omega
  rcases hc with rfl | rfl | rfl | rfl | rfl | ⟨h0,h1,h2,h3,h4⟩
  ·rw [show writesSrcv 25 225 = true by decide]
   go_enter Tryz.func103,Tryz.ntmps103
   go_wp2
   go_ret
   exact ⟨rfl,rfl⟩
  ·rw [show writesSrcv 25 1 = true by decide]
   go_enter Tryz.func103,Tryz.ntmps103
   go_wp2
   go_ret
   exact ⟨rfl,rfl⟩
  ·rw [show writesSrcv 25 65 = true by decide]
   go_enter Tryz.func103,Tryz.ntmps103
   go_wp2
   go_ret
   exact ⟨rfl,rfl⟩
  ·rw [show writesSrcv 25 81 = true by decide]
   go_enter Tryz.func103,Tryz.ntmps103
   go_wp2
   go_ret
   exact ⟨rfl,rfl⟩
  ·rw [show writesSrcv 25 161 = true by decide]
   go_enter Tryz.func103,Tryz.ntmps103
   go_wp2
   go_ret
   exact ⟨rfl,rfl⟩
  ·rw [show writesSrcv 25 imm = false by simp [writesSrcv,h0,h1,h2,h3,h4]]
   have t0:(imm == 225) = false:=by simpa using h0
   have t1:(imm == 1) = false:=by simpa using h1
   have t2:(imm == 65) = false:=by simpa using h2
   have t3:(imm == 81) = false:=by simpa using h3
   have t4:(imm == 161) = false:=by simpa using h4
   go_enter Tryz.func103,Tryz.ntmps103
   go_wp2
   go_ret
   exact ⟨rfl,rfl⟩
 ·rw [show writesSrcv op imm = false by simp [writesSrcv,ho]]
  have t0:(op != 25) = true:=by simpa using ho
  go_enter Tryz.func103,Tryz.ntmps103
  go_wp2
  go_ret
  exact ⟨rfl,rfl⟩
def atomicv (imm:Int):Bool:=imm == 0 || imm == 64 || imm == 80 || imm == 160 || imm == 241 || writesSrcv 25 imm
theorem atomic_of (imm:Int) (w:World):Calls Tryz.prog 121 #[.int .i64 imm] w (Told w (.bool (atomicv imm))):=by
 have hc:imm = 0\/imm = 64\/imm = 80\/imm = 160\/imm = 241\/(imm ≠ 0/\imm ≠ 64/\imm ≠ 80/\imm ≠ 160/\imm ≠ 241):=by omega
 rcases hc with rfl | rfl | rfl | rfl | rfl | ⟨h0,h1,h2,h3,h4⟩
 ·rw [show atomicv 0 = true by decide]
  go_enter Tryz.func121,Tryz.ntmps121
  go_wp2
  go_ret
  exact ⟨rfl,rfl⟩
 ·rw [show atomicv 64 = true by decide]
  go_enter Tryz.func121,Tryz.ntmps121
  go_wp2
  go_ret
  exact ⟨rfl,rfl⟩
 ·rw [show atomicv 80 = true by decide]
  go_enter Tryz.func121,Tryz.ntmps121
  go_wp2
  go_ret
  exact ⟨rfl,rfl⟩
 ·rw [show atomicv 160 = true by decide]
  go_enter Tryz.func121,Tryz.ntmps121
  go_wp2
  go_ret
  exact ⟨rfl,rfl⟩
 ·rw [show atomicv 241 = true by decide]
  go_enter Tryz.func121,Tryz.ntmps121
  go_wp2
  go_ret
  exact ⟨rfl,rfl⟩
 ·rw [show atomicv imm = writesSrcv 25 imm by simp [atomicv,h0,h1,h2,h3,h4]]
  have t0:(imm == 0) = false:=by simpa using h0
  have t1:(imm == 64) = false:=by simpa using h1
  have t2:(imm == 80) = false:=by simpa using h2
  have t3:(imm == 160) = false:=by simpa using h3
  have t4:(imm == 241) = false:=by simpa using h4
  go_enter Tryz.func121,Tryz.ntmps121
  go_wp2_with fail
  refine (writesSrc_of _ _ _).mono ?_
  rintro e w1 ⟨rfl,rfl⟩
  go_wp2
  go_ret
  exact ⟨rfl,rfl⟩
def usesD (op:Int):Bool:=(op != 26) && (op != 38) && (op != 39)
def usesS (op:Int) (reg:Bool):Bool:=secondv op && reg || op == 16 || (decide (22 <= op) && decide (op <= 25) && (op != 24))
def usesO (op:Int) (nar:Bool):Bool:=(decide (27 <= op) && decide (op <= 37)) || (decide (22 <= op) && decide (op <= 25)) || (op == 26 && !nar)
def usesI (op:Int) (nar reg:Bool):Bool:=secondv op && !reg || op == 20 || op == 21 || op == 25 || op == 38 || (op == 26 && nar)
theorem uses_of (op:Int) (nar reg:Bool) (size dst src off imm:Int) (w:World):Calls Tryz.prog 100 #[.agg #[.int .i64 op,.bool nar,.bool reg,.int .i64 size,.int .i64 dst,.int .i64 src,.int .i64 off,.int .i64 imm]] w (Ret w (.tuple #[.bool (usesD op),.bool (usesS op reg),.bool (usesO op nar),.bool (usesI op nar reg)])):=by
 have hc:op < 1\/(1 <= op/\op <= 13)\/op = 14\/op = 15\/op = 16\/(17 <= op/\op <= 19)\/op = 20\/op = 21\/(22 <= op/\op <= 23)\/op = 24\/op = 25\/op = 26\/(27 <= op/\op <= 37)\/op = 38\/op = 39\/40 <= op:=by omega
 rcases hc with h | ⟨h,h'⟩ | rfl | rfl | rfl | ⟨h,h'⟩ | rfl | rfl | ⟨h,h'⟩ | rfl | rfl | rfl | ⟨h,h'⟩ | rfl | rfl | h
 ·have hs:secondv op = false:=by (simp [secondv] <;> omega)
  rw [show usesD op = true by (simp [usesD] <;> omega),show usesS op reg = false by (simp [usesS,hs] <;> omega),show usesO op nar = false by (simp [usesO] <;> omega),show usesI op nar reg = false by (simp [usesI,hs] <;> omega)]
  have q0:decide (27 <= op) = false:=by simp;omega
  have q1:decide (op <= 37) = true:=by simp;omega
  have q2:decide (22 <= op) = false:=by simp;omega
  have q3:decide (op <= 25) = true:=by simp;omega
  have q4:(op != 26) = true:=by simp;omega
  have q5:(op != 38) = true:=by simp;omega
  have q6:(op != 39) = true:=by simp;omega
  have q7:(op == 16) = false:=by simp;omega
  have q8:(op != 24) = true:=by simp;omega
  have q9:(op == 20) = false:=by simp;omega
  have q10:(op == 21) = false:=by simp;omega
  have q11:(op == 25) = false:=by simp;omega
  have q12:(op == 38) = false:=by simp;omega
  have q13:(op == 26) = false:=by simp;omega
  clear h
  go_enter Tryz.func100,Tryz.ntmps100
  go_wp2_with (go_at_call 120;refine (second_of _ _).mono ?_;rintro e w' ⟨rfl,rfl⟩;rw [hs])
  exact bodyPost_ret (v:=.tuple #[.bool true,.bool false,.bool false,.bool false]) (by simp [results,Tryz.results100,go_sem]) rfl ⟨rfl,(Below.refl _ _).alloc (Nat.le_refl _) _⟩
 ·have hs:secondv op = true:=by (simp [secondv] <;> omega)
  cases reg
  ·rw [show usesD op = true by (simp [usesD] <;> omega),show usesS op false = false by (simp [usesS,hs] <;> omega),show usesO op nar = false by (simp [usesO] <;> omega),show usesI op nar false = true by (simp [usesI,hs] <;> omega)]
   have q0:decide (27 <= op) = false:=by simp;omega
   have q1:decide (op <= 37) = true:=by simp;omega
   have q2:decide (22 <= op) = false:=by simp;omega
   have q3:decide (op <= 25) = true:=by simp;omega
   have q4:(op != 26) = true:=by simp;omega
   have q5:(op != 38) = true:=by simp;omega
   have q6:(op != 39) = true:=by simp;omega
   have q7:(op == 16) = false:=by simp;omega
   have q8:(op != 24) = true:=by simp;omega
   have q9:(op == 20) = false:=by simp;omega
   have q10:(op == 21) = false:=by simp;omega
   have q11:(op == 25) = false:=by simp;omega
   have q12:(op == 38) = false:=by simp;omega
   have q13:(op == 26) = false:=by simp;omega
   clear h h'
   go_enter Tryz.func100,Tryz.ntmps100
   go_wp2_with (go_at_call 120;refine (second_of _ _).mono ?_;rintro e w' ⟨rfl,rfl⟩;rw [hs])
   exact bodyPost_ret (v:=.tuple #[.bool true,.bool false,.bool false,.bool true]) (by simp [results,Tryz.results100,go_sem]) rfl ⟨rfl,(Below.refl _ _).alloc (Nat.le_refl _) _⟩
  ·rw [show usesD op = true by (simp [usesD] <;> omega),show usesS op true = true by (simp [usesS,hs] <;> omega),show usesO op nar = false by (simp [usesO] <;> omega),show usesI op nar true = false by (simp [usesI,hs] <;> omega)]
   have q0:decide (27 <= op) = false:=by simp;omega
   have q1:decide (op <= 37) = true:=by simp;omega
   have q2:decide (22 <= op) = false:=by simp;omega
   have q3:decide (op <= 25) = true:=by simp;omega
   have q4:(op != 26) = true:=by simp;omega
   have q5:(op != 38) = true:=by simp;omega
   have q6:(op != 39) = true:=by simp;omega
   have q7:(op == 16) = false:=by simp;omega
   have q8:(op != 24) = true:=by simp;omega
   have q9:(op == 20) = false:=by simp;omega
   have q10:(op == 21) = false:=by simp;omega
   have q11:(op == 25) = false:=by simp;omega
   have q12:(op == 38) = false:=by simp;omega
   have q13:(op == 26) = false:=by simp;omega
   clear h h'
   go_enter Tryz.func100,Tryz.ntmps100
   go_wp2_with (go_at_call 120;refine (second_of _ _).mono ?_;rintro e w' ⟨rfl,rfl⟩;rw [hs])
   exact bodyPost_ret (v:=.tuple #[.bool true,.bool true,.bool false,.bool false]) (by simp [results,Tryz.results100,go_sem]) rfl ⟨rfl,(Below.refl _ _).alloc (Nat.le_refl _) _⟩
 ·have hs:secondv 14 = false:=by decide
  rw [show usesD 14 = true by (simp [usesD] <;> omega),show usesS 14 reg = false by (simp [usesS,hs] <;> omega),show usesO 14 nar = false by (simp [usesO] <;> omega),show usesI 14 nar reg = false by (simp [usesI,hs] <;> omega)]
  go_enter Tryz.func100,Tryz.ntmps100
  go_wp2_with (go_at_call 120;refine (second_of _ _).mono ?_;rintro e w' ⟨rfl,rfl⟩;rw [hs])
  exact bodyPost_ret (v:=.tuple #[.bool true,.bool false,.bool false,.bool false]) (by simp [results,Tryz.results100,go_sem]) rfl ⟨rfl,(Below.refl _ _).alloc (Nat.le_refl _) _⟩
 ·have hs:secondv 15 = true:=by decide
  cases reg
  ·rw [show usesD 15 = true by (simp [usesD] <;> omega),show usesS 15 false = false by (simp [usesS,hs] <;> omega),show usesO 15 nar = false by (simp [usesO] <;> omega),show usesI 15 nar false = true by (simp [usesI,hs] <;> omega)]
   go_enter Tryz.func100,Tryz.ntmps100
   go_wp2_with (go_at_call 120;refine (second_of _ _).mono ?_;rintro e w' ⟨rfl,rfl⟩;rw [hs])
   exact bodyPost_ret (v:=.tuple #[.bool true,.bool false,.bool false,.bool true]) (by simp [results,Tryz.results100,go_sem]) rfl ⟨rfl,(Below.refl _ _).alloc (Nat.le_refl _) _⟩
  ·rw [show usesD 15 = true by (simp [usesD] <;> omega),show usesS 15 true = true by (simp [usesS,hs] <;> omega),show usesO 15 nar = false by (simp [usesO] <;> omega),show usesI 15 nar true = false by (simp [usesI,hs] <;> omega)]
   go_enter Tryz.func100,Tryz.ntmps100
   go_wp2_with (go_at_call 120;refine (second_of _ _).mono ?_;rintro e w' ⟨rfl,rfl⟩;rw [hs])
   exact bodyPost_ret (v:=.tuple #[.bool true,.bool true,.bool false,.bool false]) (by simp [results,Tryz.results100,go_sem]) rfl ⟨rfl,(Below.refl _ _).alloc (Nat.le_refl _) _⟩
 ·have hs:secondv 16 = false:=by decide
  rw [show usesD 16 = true by (simp [usesD] <;> omega),show usesS 16 reg = true by (simp [usesS,hs] <;> omega),show usesO 16 nar = false by (simp [usesO] <;> omega),show usesI 16 nar reg = false by (simp [usesI,hs] <;> omega)]
  go_enter Tryz.func100,Tryz.ntmps100
  go_wp2_with (go_at_call 120;refine (second_of _ _).mono ?_;rintro e w' ⟨rfl,rfl⟩;rw [hs])
  exact bodyPost_ret (v:=.tuple #[.bool true,.bool true,.bool false,.bool false]) (by simp [results,Tryz.results100,go_sem]) rfl ⟨rfl,(Below.refl _ _).alloc (Nat.le_refl _) _⟩
 ·have hs:secondv op = false:=by (simp [secondv] <;> omega)
  rw [show usesD op = true by (simp [usesD] <;> omega),show usesS op reg = false by (simp [usesS,hs] <;> omega),show usesO op nar = false by (simp [usesO] <;> omega),show usesI op nar reg = false by (simp [usesI,hs] <;> omega)]
  have q0:decide (27 <= op) = false:=by simp;omega
  have q1:decide (op <= 37) = true:=by simp;omega
  have q2:decide (22 <= op) = false:=by simp;omega
  have q3:decide (op <= 25) = true:=by simp;omega
  have q4:(op != 26) = true:=by simp;omega
  have q5:(op != 38) = true:=by simp;omega
  have q6:(op != 39) = true:=by simp;omega
  have q7:(op == 16) = false:=by simp;omega
  have q8:(op != 24) = true:=by simp;omega
  have q9:(op == 20) = false:=by simp;omega
  have q10:(op == 21) = false:=by simp;omega
  have q11:(op == 25) = false:=by simp;omega
  have q12:(op == 38) = false:=by simp;omega
  have q13:(op == 26) = false:=by simp;omega
  clear h h'
  go_enter Tryz.func100,Tryz.ntmps100
  go_wp2_with (go_at_call 120;refine (second_of _ _).mono ?_;rintro e w' ⟨rfl,rfl⟩;rw [hs])
  exact bodyPost_ret (v:=.tuple #[.bool true,.bool false,.bool false,.bool false]) (by simp [results,Tryz.results100,go_sem]) rfl ⟨rfl,(Below.refl _ _).alloc (Nat.le_refl _) _⟩
 ·have hs:secondv 20 = false:=by decide
  rw [show usesD 20 = true by (simp [usesD] <;> omega),show usesS 20 reg = false by (simp [usesS,hs] <;> omega),show usesO 20 nar = false by (simp [usesO] <;> omega),show usesI 20 nar reg = true by (simp [usesI,hs] <;> omega)]
  go_enter Tryz.func100,Tryz.ntmps100
  go_wp2_with (go_at_call 120;refine (second_of _ _).mono ?_;rintro e w' ⟨rfl,rfl⟩;rw [hs])
  exact bodyPost_ret (v:=.tuple #[.bool true,.bool false,.bool false,.bool true]) (by simp [results,Tryz.results100,go_sem]) rfl ⟨rfl,(Below.refl _ _).alloc (Nat.le_refl _) _⟩
 ·have hs:secondv 21 = false:=by decide
  rw [show usesD 21 = true by (simp [usesD] <;> omega),show usesS 21 reg = false by (simp [usesS,hs] <;> omega),show usesO 21 nar = false by (simp [usesO] <;> omega),show usesI 21 nar reg = true by (simp [usesI,hs] <;> omega)]
  go_enter Tryz.func100,Tryz.ntmps100
  go_wp2_with (go_at_call 120;refine (second_of _ _).mono ?_;rintro e w' ⟨rfl,rfl⟩;rw [hs])
  exact bodyPost_ret (v:=.tuple #[.bool true,.bool false,.bool false,.bool true]) (by simp [results,Tryz.results100,go_sem]) rfl ⟨rfl,(Below.refl _ _).alloc (Nat.le_refl _) _⟩
 ·have hs:secondv op = false:=by (simp [secondv] <;> omega)
  rw [show usesD op = true by (simp [usesD] <;> omega),show usesS op reg = true by (simp [usesS,hs] <;> omega),show usesO op nar = true by (simp [usesO] <;> omega),show usesI op nar reg = false by (simp [usesI,hs] <;> omega)]
  have q0:decide (27 <= op) = false:=by simp;omega
  have q1:decide (op <= 37) = true:=by simp;omega
  have q2:decide (22 <= op) = true:=by simp;omega
  have q3:decide (op <= 25) = true:=by simp;omega
  have q4:(op != 26) = true:=by simp;omega
  have q5:(op != 38) = true:=by simp;omega
  have q6:(op != 39) = true:=by simp;omega
  have q7:(op == 16) = false:=by simp;omega
  have q8:(op != 24) = true:=by simp;omega
  have q9:(op == 20) = false:=by simp;omega
  have q10:(op == 21) = false:=by simp;omega
  have q11:(op == 25) = false:=by simp;omega
  have q12:(op == 38) = false:=by simp;omega
  have q13:(op == 26) = false:=by simp;omega
  clear h h'
  go_enter Tryz.func100,Tryz.ntmps100
  go_wp2_with (go_at_call 120;refine (second_of _ _).mono ?_;rintro e w' ⟨rfl,rfl⟩;rw [hs])
  exact bodyPost_ret (v:=.tuple #[.bool true,.bool true,.bool true,.bool false]) (by simp [results,Tryz.results100,go_sem]) rfl ⟨rfl,(Below.refl _ _).alloc (Nat.le_refl _) _⟩
 ·have hs:secondv 24 = true:=by decide
  cases reg
  ·rw [show usesD 24 = true by (simp [usesD] <;> omega),show usesS 24 false = false by (simp [usesS,hs] <;> omega),show usesO 24 nar = true by (simp [usesO] <;> omega),show usesI 24 nar false = true by (simp [usesI,hs] <;> omega)]
   go_enter Tryz.func100,Tryz.ntmps100
   go_wp2_with (go_at_call 120;refine (second_of _ _).mono ?_;rintro e w' ⟨rfl,rfl⟩;rw [hs])
   exact bodyPost_ret (v:=.tuple #[.bool true,.bool false,.bool true,.bool true]) (by simp [results,Tryz.results100,go_sem]) rfl ⟨rfl,(Below.refl _ _).alloc (Nat.le_refl _) _⟩
  ·rw [show usesD 24 = true by (simp [usesD] <;> omega),show usesS 24 true = true by (simp [usesS,hs] <;> omega),show usesO 24 nar = true by (simp [usesO] <;> omega),show usesI 24 nar true = false by (simp [usesI,hs] <;> omega)]
   go_enter Tryz.func100,Tryz.ntmps100
   go_wp2_with (go_at_call 120;refine (second_of _ _).mono ?_;rintro e w' ⟨rfl,rfl⟩;rw [hs])
   exact bodyPost_ret (v:=.tuple #[.bool true,.bool true,.bool true,.bool false]) (by simp [results,Tryz.results100,go_sem]) rfl ⟨rfl,(Below.refl _ _).alloc (Nat.le_refl _) _⟩
 ·have hs:secondv 25 = false:=by decide
  rw [show usesD 25 = true by (simp [usesD] <;> omega),show usesS 25 reg = true by (simp [usesS,hs] <;> omega),show usesO 25 nar = true by (simp [usesO] <;> omega),show usesI 25 nar reg = true by (simp [usesI,hs] <;> omega)]
  go_enter Tryz.func100,Tryz.ntmps100
  go_wp2_with (go_at_call 120;refine (second_of _ _).mono ?_;rintro e w' ⟨rfl,rfl⟩;rw [hs])
  exact bodyPost_ret (v:=.tuple #[.bool true,.bool true,.bool true,.bool true]) (by simp [results,Tryz.results100,go_sem]) rfl ⟨rfl,(Below.refl _ _).alloc (Nat.le_refl _) _⟩
 ·have hs:secondv 26 = false:=by decide
  cases nar
  ·rw [show usesD 26 = false by (simp [usesD] <;> omega),show usesS 26 reg = false by (simp [usesS,hs] <;> omega),show usesO 26 false = true by (simp [usesO] <;> omega),show usesI 26 false reg = false by (simp [usesI,hs] <;> omega)]
   go_enter Tryz.func100,Tryz.ntmps100
   go_wp2_with (go_at_call 120;refine (second_of _ _).mono ?_;rintro e w' ⟨rfl,rfl⟩;rw [hs])
   exact bodyPost_ret (v:=.tuple #[.bool false,.bool false,.bool true,.bool false]) (by simp [results,Tryz.results100,go_sem]) rfl ⟨rfl,(Below.refl _ _).alloc (Nat.le_refl _) _⟩
  ·rw [show usesD 26 = false by (simp [usesD] <;> omega),show usesS 26 reg = false by (simp [usesS,hs] <;> omega),show usesO 26 true = false by (simp [usesO] <;> omega),show usesI 26 true reg = true by (simp [usesI,hs] <;> omega)]
   go_enter Tryz.func100,Tryz.ntmps100
   go_wp2_with (go_at_call 120;refine (second_of _ _).mono ?_;rintro e w' ⟨rfl,rfl⟩;rw [hs])
   exact bodyPost_ret (v:=.tuple #[.bool false,.bool false,.bool false,.bool true]) (by simp [results,Tryz.results100,go_sem]) rfl ⟨rfl,(Below.refl _ _).alloc (Nat.le_refl _) _⟩
 ·have hs:secondv op = true:=by (simp [secondv] <;> omega)
  cases reg
  ·rw [show usesD op = true by (simp [usesD] <;> omega),show usesS op false = false by (simp [usesS,hs] <;> omega),show usesO op nar = true by (simp [usesO] <;> omega),show usesI op nar false = true by (simp [usesI,hs] <;> omega)]
   have q0:decide (27 <= op) = true:=by simp;omega
   have q1:decide (op <= 37) = true:=by simp;omega
   have q2:decide (22 <= op) = true:=by simp;omega
   have q3:decide (op <= 25) = false:=by simp;omega
   have q4:(op != 26) = true:=by simp;omega
   have q5:(op != 38) = true:=by simp;omega
   have q6:(op != 39) = true:=by simp;omega
   have q7:(op == 16) = false:=by simp;omega
   have q8:(op != 24) = true:=by simp;omega
   have q9:(op == 20) = false:=by simp;omega
   have q10:(op == 21) = false:=by simp;omega
   have q11:(op == 25) = false:=by simp;omega
   have q12:(op == 38) = false:=by simp;omega
   have q13:(op == 26) = false:=by simp;omega
   clear h h'
   go_enter Tryz.func100,Tryz.ntmps100
   go_wp2_with (go_at_call 120;refine (second_of _ _).mono ?_;rintro e w' ⟨rfl,rfl⟩;rw [hs])
   exact bodyPost_ret (v:=.tuple #[.bool true,.bool false,.bool true,.bool true]) (by simp [results,Tryz.results100,go_sem]) rfl ⟨rfl,(Below.refl _ _).alloc (Nat.le_refl _) _⟩
  ·rw [show usesD op = true by (simp [usesD] <;> omega),show usesS op true = true by (simp [usesS,hs] <;> omega),show usesO op nar = true by (simp [usesO] <;> omega),show usesI op nar true = false by (simp [usesI,hs] <;> omega)]
   have q0:decide (27 <= op) = true:=by simp;omega
   have q1:decide (op <= 37) = true:=by simp;omega
   have q2:decide (22 <= op) = true:=by simp;omega
   have q3:decide (op <= 25) = false:=by simp;omega
   have q4:(op != 26) = true:=by simp;omega
   have q5:(op != 38) = true:=by simp;omega
   have q6:(op != 39) = true:=by simp;omega
   have q7:(op == 16) = false:=by simp;omega
   have q8:(op != 24) = true:=by simp;omega
   have q9:(op == 20) = false:=by simp;omega
   have q10:(op == 21) = false:=by simp;omega
   have q11:(op == 25) = false:=by simp;omega
   have q12:(op == 38) = false:=by simp;omega
   have q13:(op == 26) = false:=by simp;omega
   clear h h'
   go_enter Tryz.func100,Tryz.ntmps100
   go_wp2_with (go_at_call 120;refine (second_of _ _).mono ?_;rintro e w' ⟨rfl,rfl⟩;rw [hs])
   exact bodyPost_ret (v:=.tuple #[.bool true,.bool true,.bool true,.bool false]) (by simp [results,Tryz.results100,go_sem]) rfl ⟨rfl,(Below.refl _ _).alloc (Nat.le_refl _) _⟩
 ·have hs:secondv 38 = false:=by decide
  rw [show usesD 38 = false by (simp [usesD] <;> omega),show usesS 38 reg = false by (simp [usesS,hs] <;> omega),show usesO 38 nar = false by (simp [usesO] <;> omega),show usesI 38 nar reg = true by (simp [usesI,hs] <;> omega)]
  go_enter Tryz.func100,Tryz.ntmps100
  go_wp2_with (go_at_call 120;refine (second_of _ _).mono ?_;rintro e w' ⟨rfl,rfl⟩;rw [hs])
  exact bodyPost_ret (v:=.tuple #[.bool false,.bool false,.bool false,.bool true]) (by simp [results,Tryz.results100,go_sem]) rfl ⟨rfl,(Below.refl _ _).alloc (Nat.le_refl _) _⟩
 ·have hs:secondv 39 = false:=by decide
  rw [show usesD 39 = false by (simp [usesD] <;> omega),show usesS 39 reg = false by (simp [usesS,hs] <;> omega),show usesO 39 nar = false by (simp [usesO] <;> omega),show usesI 39 nar reg = false by (simp [usesI,hs] <;> omega)]
  go_enter Tryz.func100,Tryz.ntmps100
  go_wp2_with (go_at_call 120;refine (second_of _ _).mono ?_;rintro e w' ⟨rfl,rfl⟩;rw [hs])
  exact bodyPost_ret (v:=.tuple #[.bool false,.bool false,.bool false,.bool false]) (by simp [results,Tryz.results100,go_sem]) rfl ⟨rfl,(Below.refl _ _).alloc (Nat.le_refl _) _⟩
 ·have hs:secondv op = false:=by (simp [secondv] <;> omega)
  rw [show usesD op = true by (simp [usesD] <;> omega),show usesS op reg = false by (simp [usesS,hs] <;> omega),show usesO op nar = false by (simp [usesO] <;> omega),show usesI op nar reg = false by (simp [usesI,hs] <;> omega)]
  have q0:decide (27 <= op) = true:=by simp;omega
  have q1:decide (op <= 37) = false:=by simp;omega
  have q2:decide (22 <= op) = true:=by simp;omega
  have q3:decide (op <= 25) = false:=by simp;omega
  have q4:(op != 26) = true:=by simp;omega
  have q5:(op != 38) = true:=by simp;omega
  have q6:(op != 39) = true:=by simp;omega
  have q7:(op == 16) = false:=by simp;omega
  have q8:(op != 24) = true:=by simp;omega
  have q9:(op == 20) = false:=by simp;omega
  have q10:(op == 21) = false:=by simp;omega
  have q11:(op == 25) = false:=by simp;omega
  have q12:(op == 38) = false:=by simp;omega
  have q13:(op == 26) = false:=by simp;omega
  clear h
  go_enter Tryz.func100,Tryz.ntmps100
  go_wp2_with (go_at_call 120;refine (second_of _ _).mono ?_;rintro e w' ⟨rfl,rfl⟩;rw [hs])
  exact bodyPost_ret (v:=.tuple #[.bool true,.bool false,.bool false,.bool false]) (by simp [results,Tryz.results100,go_sem]) rfl ⟨rfl,(Below.refl _ _).alloc (Nat.le_refl _) _⟩
end Go.Proofs.YtdepknffpnnmmaaGreat
