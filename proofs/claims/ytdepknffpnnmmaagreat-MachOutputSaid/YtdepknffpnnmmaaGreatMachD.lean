import Derived.Test.YtdepknffpnnmmaaGreatMachB
set_option maxRecDepth 100000
set_option maxHeartbeats 32000000
namespace Go.Proofs.YtdepknffpnnmmaaGreat
open Go.RowKit
set_option linter.unusedVariables false
def immFitsv (op:Int) (nar:Bool) (imm:Int):Bool:=
 if op = 20 then true
 else if imm < -2147483648\/2147483647 < imm then false
 else if op = 4\/op = 5\/op = 6\/op = 7 then imm != 0
 else if op = 11\/op = 12\/op = 13 then decide (0 <= imm) && decide (imm < 64) && !(nar && decide (32 <= imm))
 else if op = 25 then atomicv imm
 else if op = 21 then decide (0 <= imm)
 else true
theorem immFits_of (op:Int) (nar reg:Bool) (size dst src off imm:Int) (w:World):Calls Tryz.prog 104 #[.agg #[.int .i64 op,.bool nar,.bool reg,.int .i64 size,.int .i64 dst,.int .i64 src,.int .i64 off,.int .i64 imm]] w (Ret w (.bool (immFitsv op nar imm))):=by
 by_cases h20:op = 20
 ·subst h20
  rw [show immFitsv 20 nar imm = true from rfl]
  go_enter Tryz.func104,Tryz.ntmps104
  go_wp2_with (go_at_call 121;refine (atomic_of _ _).mono ?_;rintro e w' ⟨rfl,rfl⟩)
  all_goals go_ret
  all_goals exact ⟨by first | rfl | (simp [*];done) | (simp;omega),(Below.refl _ _).alloc (Nat.le_refl _) _⟩
 have t20:(op == 20) = false:=by simpa using h20
 by_cases hi:imm < -2147483648\/2147483647 < imm
 ·rw [show immFitsv op nar imm = false by unfold immFitsv;rw [if_neg h20,if_pos hi]]
  rcases hi with hi | hi
  ·have k1:decide (imm < -2147483648) = true:=by simpa using hi
   go_enter Tryz.func104,Tryz.ntmps104
   go_wp2_with (go_at_call 121;refine (atomic_of _ _).mono ?_;rintro e w' ⟨rfl,rfl⟩)
   all_goals go_ret
   all_goals exact ⟨by first | rfl | (simp [*];done) | (simp;omega),(Below.refl _ _).alloc (Nat.le_refl _) _⟩
  ·have k1:decide (imm < -2147483648) = false:=by simp;omega
   have k2:decide (2147483647 < imm) = true:=by simpa using hi
   go_enter Tryz.func104,Tryz.ntmps104
   go_wp2_with (go_at_call 121;refine (atomic_of _ _).mono ?_;rintro e w' ⟨rfl,rfl⟩)
   all_goals go_ret
   all_goals exact ⟨by first | rfl | (simp [*];done) | (simp;omega),(Below.refl _ _).alloc (Nat.le_refl _) _⟩
 have k1:decide (imm < -2147483648) = false:=by simp;omega
 have k2:decide (2147483647 < imm) = false:=by simp;omega
 have hc:op = 4\/op = 5\/op = 6\/op = 7\/op = 11\/op = 12\/op = 13\/op = 21\/op = 25\/(op ≠ 4/\op ≠ 5/\op ≠ 6/\op ≠ 7/\op ≠ 11/\op ≠ 12/\op ≠ 13/\op ≠ 21/\op ≠ 25):=by omega
 rcases hc with rfl | rfl | rfl | rfl | rfl | rfl | rfl | rfl | rfl | ⟨n4,n5,n6,n7,n11,n12,n13,n21,n25⟩
 ·rw [show immFitsv 4 nar imm = (imm != 0) by unfold immFitsv;rw [if_neg h20,if_neg hi];rfl]
  clear hi
  go_enter Tryz.func104,Tryz.ntmps104
  go_wp2_with (go_at_call 121;refine (atomic_of _ _).mono ?_;rintro e w' ⟨rfl,rfl⟩)
  all_goals go_ret
  all_goals exact ⟨by first | rfl | (simp [*];done) | (simp;omega),(Below.refl _ _).alloc (Nat.le_refl _) _⟩
 ·rw [show immFitsv 5 nar imm = (imm != 0) by unfold immFitsv;rw [if_neg h20,if_neg hi];rfl]
  clear hi
  go_enter Tryz.func104,Tryz.ntmps104
  go_wp2_with (go_at_call 121;refine (atomic_of _ _).mono ?_;rintro e w' ⟨rfl,rfl⟩)
  all_goals go_ret
  all_goals exact ⟨by first | rfl | (simp [*];done) | (simp;omega),(Below.refl _ _).alloc (Nat.le_refl _) _⟩
 ·rw [show immFitsv 6 nar imm = (imm != 0) by unfold immFitsv;rw [if_neg h20,if_neg hi];rfl]
  clear hi
  go_enter Tryz.func104,Tryz.ntmps104
  go_wp2_with (go_at_call 121;refine (atomic_of _ _).mono ?_;rintro e w' ⟨rfl,rfl⟩)
  all_goals go_ret
  all_goals exact ⟨by first | rfl | (simp [*];done) | (simp;omega),(Below.refl _ _).alloc (Nat.le_refl _) _⟩
 ·rw [show immFitsv 7 nar imm = (imm != 0) by unfold immFitsv;rw [if_neg h20,if_neg hi];rfl]
  clear hi
  go_enter Tryz.func104,Tryz.ntmps104
  go_wp2_with (go_at_call 121;refine (atomic_of _ _).mono ?_;rintro e w' ⟨rfl,rfl⟩)
  all_goals go_ret
  all_goals exact ⟨by first | rfl | (simp [*];done) | (simp;omega),(Below.refl _ _).alloc (Nat.le_refl _) _⟩
 ·rw [show immFitsv 11 nar imm = (decide (0 <= imm) && decide (imm < 64) && !(nar && decide (32 <= imm))) by unfold immFitsv;rw [if_neg h20,if_neg hi];rfl]
  clear hi
  cases nar
  ·obtain ⟨d1,e1⟩:∃ d,decide (0 <= imm) = d:=⟨_,rfl⟩
   obtain ⟨d2,e2⟩:∃ d,decide (imm < 64) = d:=⟨_,rfl⟩
   obtain ⟨d3,e3⟩:∃ d,decide (32 <= imm) = d:=⟨_,rfl⟩
   rw [e1,e2,e3]
   cases d1 <;> cases d2 <;> cases d3
   all_goals
    go_enter Tryz.func104,Tryz.ntmps104
    go_wp2_with (go_at_call 121;refine (atomic_of _ _).mono ?_;rintro e w' ⟨rfl,rfl⟩)
    all_goals go_ret
    all_goals exact ⟨by first | rfl | (simp [*];done) | (simp;omega),(Below.refl _ _).alloc (Nat.le_refl _) _⟩
  ·obtain ⟨d1,e1⟩:∃ d,decide (0 <= imm) = d:=⟨_,rfl⟩
   obtain ⟨d2,e2⟩:∃ d,decide (imm < 64) = d:=⟨_,rfl⟩
   obtain ⟨d3,e3⟩:∃ d,decide (32 <= imm) = d:=⟨_,rfl⟩
   rw [e1,e2,e3]
   cases d1 <;> cases d2 <;> cases d3
   all_goals
    go_enter Tryz.func104,Tryz.ntmps104
    go_wp2_with (go_at_call 121;refine (atomic_of _ _).mono ?_;rintro e w' ⟨rfl,rfl⟩)
    all_goals go_ret
    all_goals exact ⟨by first | rfl | (simp [*];done) | (simp;omega),(Below.refl _ _).alloc (Nat.le_refl _) _⟩
 ·rw [show immFitsv 12 nar imm = (decide (0 <= imm) && decide (imm < 64) && !(nar && decide (32 <= imm))) by unfold immFitsv;rw [if_neg h20,if_neg hi];rfl]
  clear hi
  cases nar
  ·obtain ⟨d1,e1⟩:∃ d,decide (0 <= imm) = d:=⟨_,rfl⟩
   obtain ⟨d2,e2⟩:∃ d,decide (imm < 64) = d:=⟨_,rfl⟩
   obtain ⟨d3,e3⟩:∃ d,decide (32 <= imm) = d:=⟨_,rfl⟩
   rw [e1,e2,e3]
   cases d1 <;> cases d2 <;> cases d3
   all_goals
    go_enter Tryz.func104,Tryz.ntmps104
    go_wp2_with (go_at_call 121;refine (atomic_of _ _).mono ?_;rintro e w' ⟨rfl,rfl⟩)
    all_goals go_ret
    all_goals exact ⟨by first | rfl | (simp [*];done) | (simp;omega),(Below.refl _ _).alloc (Nat.le_refl _) _⟩
  ·obtain ⟨d1,e1⟩:∃ d,decide (0 <= imm) = d:=⟨_,rfl⟩
   obtain ⟨d2,e2⟩:∃ d,decide (imm < 64) = d:=⟨_,rfl⟩
   obtain ⟨d3,e3⟩:∃ d,decide (32 <= imm) = d:=⟨_,rfl⟩
   rw [e1,e2,e3]
   cases d1 <;> cases d2 <;> cases d3
   all_goals
    go_enter Tryz.func104,Tryz.ntmps104
    go_wp2_with (go_at_call 121;refine (atomic_of _ _).mono ?_;rintro e w' ⟨rfl,rfl⟩)
    all_goals go_ret
    all_goals exact ⟨by first | rfl | (simp [*];done) | (simp;omega),(Below.refl _ _).alloc (Nat.le_refl _) _⟩
 ·rw [show immFitsv 13 nar imm = (decide (0 <= imm) && decide (imm < 64) && !(nar && decide (32 <= imm))) by unfold immFitsv;rw [if_neg h20,if_neg hi];rfl]
  clear hi
  cases nar
  ·obtain ⟨d1,e1⟩:∃ d,decide (0 <= imm) = d:=⟨_,rfl⟩
   obtain ⟨d2,e2⟩:∃ d,decide (imm < 64) = d:=⟨_,rfl⟩
   obtain ⟨d3,e3⟩:∃ d,decide (32 <= imm) = d:=⟨_,rfl⟩
   rw [e1,e2,e3]
   cases d1 <;> cases d2 <;> cases d3
   all_goals
    go_enter Tryz.func104,Tryz.ntmps104
    go_wp2_with (go_at_call 121;refine (atomic_of _ _).mono ?_;rintro e w' ⟨rfl,rfl⟩)
    all_goals go_ret
    all_goals exact ⟨by first | rfl | (simp [*];done) | (simp;omega),(Below.refl _ _).alloc (Nat.le_refl _) _⟩
  ·obtain ⟨d1,e1⟩:∃ d,decide (0 <= imm) = d:=⟨_,rfl⟩
   obtain ⟨d2,e2⟩:∃ d,decide (imm < 64) = d:=⟨_,rfl⟩
   obtain ⟨d3,e3⟩:∃ d,decide (32 <= imm) = d:=⟨_,rfl⟩
   rw [e1,e2,e3]
   cases d1 <;> cases d2 <;> cases d3
   all_goals
    go_enter Tryz.func104,Tryz.ntmps104
    go_wp2_with (go_at_call 121;refine (atomic_of _ _).mono ?_;rintro e w' ⟨rfl,rfl⟩)
    all_goals go_ret
    all_goals exact ⟨by first | rfl | (simp [*];done) | (simp;omega),(Below.refl _ _).alloc (Nat.le_refl _) _⟩
 ·rw [show immFitsv 21 nar imm = (decide (0 <= imm)) by unfold immFitsv;rw [if_neg h20,if_neg hi];rfl]
  clear hi
  go_enter Tryz.func104,Tryz.ntmps104
  go_wp2_with (go_at_call 121;refine (atomic_of _ _).mono ?_;rintro e w' ⟨rfl,rfl⟩)
  all_goals go_ret
  all_goals exact ⟨by first | rfl | (simp [*];done) | (simp;omega),(Below.refl _ _).alloc (Nat.le_refl _) _⟩
 ·rw [show immFitsv 25 nar imm = (atomicv imm) by unfold immFitsv;rw [if_neg h20,if_neg hi];rfl]
  clear hi
  go_enter Tryz.func104,Tryz.ntmps104
  go_wp2_with (go_at_call 121;refine (atomic_of _ _).mono ?_;rintro e w' ⟨rfl,rfl⟩)
  all_goals go_ret
  all_goals exact ⟨by first | rfl | (simp [*];done) | (simp;omega),(Below.refl _ _).alloc (Nat.le_refl _) _⟩
 ·have hv:immFitsv op nar imm = true:=by unfold immFitsv;rw [if_neg h20,if_neg hi,if_neg (by omega),if_neg (by omega),if_neg n25,if_neg n21]
  rw [hv]
  have t4:(op == 4) = false:=by simpa using n4
  have t5:(op == 5) = false:=by simpa using n5
  have t6:(op == 6) = false:=by simpa using n6
  have t7:(op == 7) = false:=by simpa using n7
  have t11:(op == 11) = false:=by simpa using n11
  have t12:(op == 12) = false:=by simpa using n12
  have t13:(op == 13) = false:=by simpa using n13
  have t21:(op == 21) = false:=by simpa using n21
  have t25:(op == 25) = false:=by simpa using n25
  clear hi hv n4 n5 n6 n7 n11 n12 n13 n21 n25
  go_enter Tryz.func104,Tryz.ntmps104
  go_wp2_with (go_at_call 121;refine (atomic_of _ _).mono ?_;rintro e w' ⟨rfl,rfl⟩)
  all_goals go_ret
  all_goals exact ⟨by first | rfl | (simp [*];done) | (simp;omega),(Below.refl _ _).alloc (Nat.le_refl _) _⟩
end Go.Proofs.YtdepknffpnnmmaaGreat
