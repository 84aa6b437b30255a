import Derived.Test.YtjacnhnaoenelaaGreatQMachB
set_option maxRecDepth 100000
set_option maxHeartbeats 32000000
namespace Go.Proofs.YtjacnhnaoenelaaGreat
open Go.Proofs.Tryz
open Go.RowKit
set_option linter.unusedVariables false
def Bv (op:Int) (Ad:Bool) (Aa:Int):Bool:=
 if op = 20 then true
 else if Aa < -2147483648\/2147483647 < Aa then false
 else if op = 4\/op = 5\/op = 6\/op = 7 then Aa != 0
 else if op = 11\/op = 12\/op = 13 then decide (0 <= Aa) && decide (Aa < 64) && !(Ad && decide (32 <= Aa))
 else if op = 25 then Hu Aa
 else if op = 21 then decide (0 <= Aa)
 else true
theorem Agj (op:Int) (Ad reg:Bool) (size dst src off Aa:Int) (w:World):Calls prog 93 #[.agg #[.int .i64 op,.bool Ad,.bool reg,.int .i64 size,.int .i64 dst,.int .i64 src,.int .i64 off,.int .i64 Aa]] w (Ol w (.bool (Bv op Ad Aa))):=by
 by_cases h20:op = 20
 ·subst h20;rw [show Bv 20 Ad Aa = true from rfl];go_enter func93,ntmps93;go_wp2_with (go_at_call 112;refine (Ew _ _).mono ?_;rintro e w' ⟨rfl,rfl⟩)
  all_goals go_ret
  all_goals exact ⟨by first | rfl | (simp [*];done) | (simp;omega),(Below.refl _ _).alloc nl _⟩
 have t20:(op == 20) = false:=by simpa using h20
 by_cases hi:Aa < -2147483648\/2147483647 < Aa
 ·rw [show Bv op Ad Aa = false by unfold Bv;rw [if_neg h20,if_pos hi]]
  rcases hi with hi | hi
  ·have k1:decide (Aa < -2147483648) = true:=by simpa using hi
   go_enter func93,ntmps93;go_wp2_with (go_at_call 112;refine (Ew _ _).mono ?_;rintro e w' ⟨rfl,rfl⟩)
   all_goals go_ret
   all_goals exact ⟨by first | rfl | (simp [*];done) | (simp;omega),(Below.refl _ _).alloc nl _⟩
  ·have k1:decide (Aa < -2147483648) = false:=by simp;omega
   have k2:decide (2147483647 < Aa) = true:=by simpa using hi
   go_enter func93,ntmps93;go_wp2_with (go_at_call 112;refine (Ew _ _).mono ?_;rintro e w' ⟨rfl,rfl⟩)
   all_goals go_ret
   all_goals exact ⟨by first | rfl | (simp [*];done) | (simp;omega),(Below.refl _ _).alloc nl _⟩
 have k1:decide (Aa < -2147483648) = false:=by simp;omega
 have k2:decide (2147483647 < Aa) = false:=by simp;omega
 have hc:op = 4\/op = 5\/op = 6\/op = 7\/op = 11\/op = 12\/op = 13\/op = 21\/op = 25\/(op ≠ 4/\op ≠ 5/\op ≠ 6/\op ≠ 7/\op ≠ 11/\op ≠ 12/\op ≠ 13/\op ≠ 21/\op ≠ 25):=by omega
 rcases hc with rfl | rfl | rfl | rfl | rfl | rfl | rfl | rfl | rfl | ⟨n4,n5,n6,n7,n11,n12,n13,n21,n25⟩
 ·rw [show Bv 4 Ad Aa = (Aa != 0) by unfold Bv;rw [if_neg h20,if_neg hi];rfl];clear hi;go_enter func93,ntmps93;go_wp2_with (go_at_call 112;refine (Ew _ _).mono ?_;rintro e w' ⟨rfl,rfl⟩)
  all_goals go_ret
  all_goals exact ⟨by first | rfl | (simp [*];done) | (simp;omega),(Below.refl _ _).alloc nl _⟩
 ·rw [show Bv 5 Ad Aa = (Aa != 0) by unfold Bv;rw [if_neg h20,if_neg hi];rfl];clear hi;go_enter func93,ntmps93;go_wp2_with (go_at_call 112;refine (Ew _ _).mono ?_;rintro e w' ⟨rfl,rfl⟩)
  all_goals go_ret
  all_goals exact ⟨by first | rfl | (simp [*];done) | (simp;omega),(Below.refl _ _).alloc nl _⟩
 ·rw [show Bv 6 Ad Aa = (Aa != 0) by unfold Bv;rw [if_neg h20,if_neg hi];rfl];clear hi;go_enter func93,ntmps93;go_wp2_with (go_at_call 112;refine (Ew _ _).mono ?_;rintro e w' ⟨rfl,rfl⟩)
  all_goals go_ret
  all_goals exact ⟨by first | rfl | (simp [*];done) | (simp;omega),(Below.refl _ _).alloc nl _⟩
 ·rw [show Bv 7 Ad Aa = (Aa != 0) by unfold Bv;rw [if_neg h20,if_neg hi];rfl];clear hi;go_enter func93,ntmps93;go_wp2_with (go_at_call 112;refine (Ew _ _).mono ?_;rintro e w' ⟨rfl,rfl⟩)
  all_goals go_ret
  all_goals exact ⟨by first | rfl | (simp [*];done) | (simp;omega),(Below.refl _ _).alloc nl _⟩
 ·rw [show Bv 11 Ad Aa = (decide (0 <= Aa) && decide (Aa < 64) && !(Ad && decide (32 <= Aa))) by unfold Bv;rw [if_neg h20,if_neg hi];rfl];clear hi
  cases Ad
  ·obtain ⟨d1,e1⟩:∃ d,decide (0 <= Aa) = d:=⟨_,rfl⟩;obtain ⟨d2,e2⟩:∃ d,decide (Aa < 64) = d:=⟨_,rfl⟩;obtain ⟨d3,e3⟩:∃ d,decide (32 <= Aa) = d:=⟨_,rfl⟩;rw [e1,e2,e3]
   cases d1 <;> cases d2 <;> cases d3
   all_goals
    go_enter func93,ntmps93;go_wp2_with (go_at_call 112;refine (Ew _ _).mono ?_;rintro e w' ⟨rfl,rfl⟩)
    all_goals go_ret
    all_goals exact ⟨by first | rfl | (simp [*];done) | (simp;omega),(Below.refl _ _).alloc nl _⟩
  ·obtain ⟨d1,e1⟩:∃ d,decide (0 <= Aa) = d:=⟨_,rfl⟩;obtain ⟨d2,e2⟩:∃ d,decide (Aa < 64) = d:=⟨_,rfl⟩;obtain ⟨d3,e3⟩:∃ d,decide (32 <= Aa) = d:=⟨_,rfl⟩;rw [e1,e2,e3]
   cases d1 <;> cases d2 <;> cases d3
   all_goals
    go_enter func93,ntmps93;go_wp2_with (go_at_call 112;refine (Ew _ _).mono ?_;rintro e w' ⟨rfl,rfl⟩)
    all_goals go_ret
    all_goals exact ⟨by first | rfl | (simp [*];done) | (simp;omega),(Below.refl _ _).alloc nl _⟩
 ·rw [show Bv 12 Ad Aa = (decide (0 <= Aa) && decide (Aa < 64) && !(Ad && decide (32 <= Aa))) by unfold Bv;rw [if_neg h20,if_neg hi];rfl];clear hi
  cases Ad
  ·obtain ⟨d1,e1⟩:∃ d,decide (0 <= Aa) = d:=⟨_,rfl⟩;obtain ⟨d2,e2⟩:∃ d,decide (Aa < 64) = d:=⟨_,rfl⟩;obtain ⟨d3,e3⟩:∃ d,decide (32 <= Aa) = d:=⟨_,rfl⟩;rw [e1,e2,e3]
   cases d1 <;> cases d2 <;> cases d3
   all_goals
    go_enter func93,ntmps93;go_wp2_with (go_at_call 112;refine (Ew _ _).mono ?_;rintro e w' ⟨rfl,rfl⟩)
    all_goals go_ret
    all_goals exact ⟨by first | rfl | (simp [*];done) | (simp;omega),(Below.refl _ _).alloc nl _⟩
  ·obtain ⟨d1,e1⟩:∃ d,decide (0 <= Aa) = d:=⟨_,rfl⟩;obtain ⟨d2,e2⟩:∃ d,decide (Aa < 64) = d:=⟨_,rfl⟩;obtain ⟨d3,e3⟩:∃ d,decide (32 <= Aa) = d:=⟨_,rfl⟩;rw [e1,e2,e3]
   cases d1 <;> cases d2 <;> cases d3
   all_goals
    go_enter func93,ntmps93;go_wp2_with (go_at_call 112;refine (Ew _ _).mono ?_;rintro e w' ⟨rfl,rfl⟩)
    all_goals go_ret
    all_goals exact ⟨by first | rfl | (simp [*];done) | (simp;omega),(Below.refl _ _).alloc nl _⟩
 ·rw [show Bv 13 Ad Aa = (decide (0 <= Aa) && decide (Aa < 64) && !(Ad && decide (32 <= Aa))) by unfold Bv;rw [if_neg h20,if_neg hi];rfl];clear hi
  cases Ad
  ·obtain ⟨d1,e1⟩:∃ d,decide (0 <= Aa) = d:=⟨_,rfl⟩;obtain ⟨d2,e2⟩:∃ d,decide (Aa < 64) = d:=⟨_,rfl⟩;obtain ⟨d3,e3⟩:∃ d,decide (32 <= Aa) = d:=⟨_,rfl⟩;rw [e1,e2,e3]
   cases d1 <;> cases d2 <;> cases d3
   all_goals
    go_enter func93,ntmps93;go_wp2_with (go_at_call 112;refine (Ew _ _).mono ?_;rintro e w' ⟨rfl,rfl⟩)
    all_goals go_ret
    all_goals exact ⟨by first | rfl | (simp [*];done) | (simp;omega),(Below.refl _ _).alloc nl _⟩
  ·obtain ⟨d1,e1⟩:∃ d,decide (0 <= Aa) = d:=⟨_,rfl⟩;obtain ⟨d2,e2⟩:∃ d,decide (Aa < 64) = d:=⟨_,rfl⟩;obtain ⟨d3,e3⟩:∃ d,decide (32 <= Aa) = d:=⟨_,rfl⟩;rw [e1,e2,e3]
   cases d1 <;> cases d2 <;> cases d3
   all_goals
    go_enter func93,ntmps93;go_wp2_with (go_at_call 112;refine (Ew _ _).mono ?_;rintro e w' ⟨rfl,rfl⟩)
    all_goals go_ret
    all_goals exact ⟨by first | rfl | (simp [*];done) | (simp;omega),(Below.refl _ _).alloc nl _⟩
 ·rw [show Bv 21 Ad Aa = (decide (0 <= Aa)) by unfold Bv;rw [if_neg h20,if_neg hi];rfl];clear hi;go_enter func93,ntmps93;go_wp2_with (go_at_call 112;refine (Ew _ _).mono ?_;rintro e w' ⟨rfl,rfl⟩)
  all_goals go_ret
  all_goals exact ⟨by first | rfl | (simp [*];done) | (simp;omega),(Below.refl _ _).alloc nl _⟩
 ·rw [show Bv 25 Ad Aa = (Hu Aa) by unfold Bv;rw [if_neg h20,if_neg hi];rfl];clear hi;go_enter func93,ntmps93;go_wp2_with (go_at_call 112;refine (Ew _ _).mono ?_;rintro e w' ⟨rfl,rfl⟩)
  all_goals go_ret
  all_goals exact ⟨by first | rfl | (simp [*];done) | (simp;omega),(Below.refl _ _).alloc nl _⟩
 ·have hv:Bv op Ad Aa = true:=by unfold Bv;rw [if_neg h20,if_neg hi,if_neg (by omega),if_neg (by omega),if_neg n25,if_neg n21]
  rw [hv];have t4:(op == 4) = false:=by simpa using n4
  have t5:(op == 5) = false:=by simpa using n5
  have t6:(op == 6) = false:=by simpa using n6
  have t7:(op == 7) = false:=by simpa using n7
  have t11:(op == 11) = false:=by simpa using n11
  have t12:(op == 12) = false:=by simpa using n12
  have t13:(op == 13) = false:=by simpa using n13
  have t21:(op == 21) = false:=by simpa using n21
  have t25:(op == 25) = false:=by simpa using n25
  clear hi hv n4 n5 n6 n7 n11 n12 n13 n21 n25;go_enter func93,ntmps93;go_wp2_with (go_at_call 112;refine (Ew _ _).mono ?_;rintro e w' ⟨rfl,rfl⟩)
  all_goals go_ret
  all_goals exact ⟨by first | rfl | (simp [*];done) | (simp;omega),(Below.refl _ _).alloc nl _⟩
end Go.Proofs.YtjacnhnaoenelaaGreat
