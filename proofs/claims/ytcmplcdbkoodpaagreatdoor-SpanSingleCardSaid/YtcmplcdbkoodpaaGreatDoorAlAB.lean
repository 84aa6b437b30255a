import Derived.Test.YtcmplcdbkoodpaaGreatDoorWoAB
set_option maxHeartbeats 800000
namespace Go.Proofs.YtcmplcdbkoodpaaGreatDoor
open Go.RowKit
set_option linter.unusedVariables false
theorem u64_un (a : Int) : IntKind.u64.wrap a = ((un a : Nat) : Int) := by rw [IntKind.wrap_u64, un_cast]
theorem low_at (x xl : Nat) (h : xl = x % 2 ^ 32) (hx : x < 18446744073709551616) (w : World) : Calls Tryz.prog 57 #[.int .u64 x] w fun e w' => e = .returned (.int .u64 (xl : Int)) /\ w = w' := by
 subst h; exact low_any x hx w
theorem pre64 (a b : Int) : ∃ x y : Nat, IntKind.u64.wrap a = (x : Int) /\ IntKind.u64.wrap b = (y : Int) /\ x < 18446744073709551616 /\ y < 18446744073709551616 /\ Hid (x = un a) /\ Hid (y = un b) :=
 ⟨un a, un b, u64_un a, u64_un b, un_lt a, un_lt b, Lib.hid rfl, Lib.hid rfl⟩
theorem pre32 (a b : Int) : ∃ x y xl yl : Nat, IntKind.u64.wrap a = (x : Int) /\ IntKind.u64.wrap b = (y : Int) /\ x < 18446744073709551616 /\ y < 18446744073709551616 /\ xl < 4294967296 /\ yl < 4294967296 /\ Hid (xl = x % 2 ^ 32) /\ Hid (yl = y % 2 ^ 32) /\ Hid (xl = lowN 32 a) /\ Hid (yl = lowN 32 b) :=
 ⟨un a, un b, lowN 32 a, lowN 32 b, u64_un a, u64_un b, un_lt a, un_lt b, lowN_lt 32 a, lowN_lt 32 b, Lib.hid rfl, Lib.hid rfl, Lib.hid rfl, Lib.hid rfl⟩
theorem divides_yes (op : Int) (h : 4 <= op /\ op <= 7) (w : World) : Calls Tryz.prog 58 #[.int .i64 op] w fun e w' => e = .returned (.bool true) /\ w = w' := by
 obtain ⟨h1, h2⟩ := h
 go_enter Tryz.func58, Tryz.ntmps58
 go_wp2
 go_ret
 exact ⟨rfl, rfl⟩
theorem divides_no (op : Int) (h : op < 4 \/ 7 < op) (w : World) : Calls Tryz.prog 58 #[.int .i64 op] w fun e w' => e = .returned (.bool false) /\ w = w' := by
 rcases h with h | h
 ·go_enter Tryz.func58, Tryz.ntmps58
  go_wp2
  go_ret
  exact ⟨rfl, rfl⟩
 ·have h' : 4 <= op := by omega
  have hd : decide (op <= 7) = false := by simpa using h
  go_enter Tryz.func58, Tryz.ntmps58
  go_wp2
  go_ret
  exact ⟨rfl, rfl⟩
theorem alu_bad (op : Int) (nar : Bool) (a b : Int) (h : op < 1 \/ 15 < op) (w : World) :
 Calls Tryz.prog 31 #[.int .i64 op, .bool nar, .int .i64 a, .int .i64 b] w fun e w' => e = .returned (.tuple #[.int .i64 0, .int .i64 1]) /\ w = w' := by
 rcases h with h | h
 ·go_enter Tryz.func31, Tryz.ntmps31
  go_wp2
  go_ret2
  exact ⟨rfl, rfl⟩
 ·have h' : ¬ op < 1 := by omega
  go_enter Tryz.func31, Tryz.ntmps31
  go_wp2
  go_ret2
  exact ⟨rfl, rfl⟩
theorem alu64_add (a b : Int) (w : World) :
 Calls Tryz.prog 31 #[.int .i64 1, .bool false, .int .i64 a, .int .i64 b] w fun e w' =>
  e = .returned (.tuple #[.int .i64 (wrap64 ((w_add 64 (un a) (un b) : Nat) : Int)), .int .i64 0]) /\ Below w.heap.size w w' := by
 obtain ⟨x, y, hua, hub, hx, hy, HX, HYE⟩ := pre64 a b
 obtain ⟨c0, hyb⟩ : ∃ c, ((y : Int) == 0) = c := ⟨_, rfl⟩
 cases c0
 all_goals
  go_enter Tryz.func31, Tryz.ntmps31
  go_wp2_with fail
  first | (go_at_call 59; refine (wide_any _).mono ?_) | (go_at_call 58; refine (divides_no 1 (by decide) _).mono ?_; rintro e w0 ⟨rfl, rfl⟩; go_wp2_with fail; refine (wide_any _).mono ?_)
  rintro e w1 ⟨bm, rfl, hbm, hBm⟩
  have hl := wide_look1 w1 bm hbm false
  rw [if_neg (by decide)] at hl
  go_wp2_with fail
  refine (Add_any x y hx hy _).mono ?_
  rintro e w2 ⟨rfl, rfl⟩
  go_wp2
  go_ret2
  exact ⟨congrArg (fun z => Ending.returned (.tuple #[.int .i64 z, .int .i64 0])) (by rw [HX.out, HYE.out]), hBm⟩
theorem alu64_sub (a b : Int) (w : World) :
 Calls Tryz.prog 31 #[.int .i64 2, .bool false, .int .i64 a, .int .i64 b] w fun e w' =>
  e = .returned (.tuple #[.int .i64 (wrap64 ((w_sub 64 (un a) (un b) : Nat) : Int)), .int .i64 0]) /\ Below w.heap.size w w' := by
 obtain ⟨x, y, hua, hub, hx, hy, HX, HYE⟩ := pre64 a b
 obtain ⟨c0, hyb⟩ : ∃ c, ((y : Int) == 0) = c := ⟨_, rfl⟩
 cases c0
 all_goals
  go_enter Tryz.func31, Tryz.ntmps31
  go_wp2_with fail
  first | (go_at_call 59; refine (wide_any _).mono ?_) | (go_at_call 58; refine (divides_no 2 (by decide) _).mono ?_; rintro e w0 ⟨rfl, rfl⟩; go_wp2_with fail; refine (wide_any _).mono ?_)
  rintro e w1 ⟨bm, rfl, hbm, hBm⟩
  have hl := wide_look2 w1 bm hbm false
  rw [if_neg (by decide)] at hl
  go_wp2_with fail
  refine (Sub_any x y hx hy _).mono ?_
  rintro e w2 ⟨rfl, rfl⟩
  go_wp2
  go_ret2
  exact ⟨congrArg (fun z => Ending.returned (.tuple #[.int .i64 z, .int .i64 0])) (by rw [HX.out, HYE.out]), hBm⟩
theorem alu64_mul (a b : Int) (w : World) :
 Calls Tryz.prog 31 #[.int .i64 3, .bool false, .int .i64 a, .int .i64 b] w fun e w' =>
  e = .returned (.tuple #[.int .i64 (wrap64 ((w_mul 64 (un a) (un b) : Nat) : Int)), .int .i64 0]) /\ Below w.heap.size w w' := by
 obtain ⟨x, y, hua, hub, hx, hy, HX, HYE⟩ := pre64 a b
 obtain ⟨c0, hyb⟩ : ∃ c, ((y : Int) == 0) = c := ⟨_, rfl⟩
 cases c0
 all_goals
  go_enter Tryz.func31, Tryz.ntmps31
  go_wp2_with fail
  first | (go_at_call 59; refine (wide_any _).mono ?_) | (go_at_call 58; refine (divides_no 3 (by decide) _).mono ?_; rintro e w0 ⟨rfl, rfl⟩; go_wp2_with fail; refine (wide_any _).mono ?_)
  rintro e w1 ⟨bm, rfl, hbm, hBm⟩
  have hl := wide_look3 w1 bm hbm false
  rw [if_neg (by decide)] at hl
  go_wp2_with fail
  refine (Mul_any x y hx hy _).mono ?_
  rintro e w2 ⟨rfl, rfl⟩
  go_wp2
  go_ret2
  exact ⟨congrArg (fun z => Ending.returned (.tuple #[.int .i64 z, .int .i64 0])) (by rw [HX.out, HYE.out]), hBm⟩
theorem alu64_div (a b : Int) (h0 : un b ≠ 0) (w : World) :
 Calls Tryz.prog 31 #[.int .i64 4, .bool false, .int .i64 a, .int .i64 b] w fun e w' =>
  e = .returned (.tuple #[.int .i64 (wrap64 ((w_div 64 (un a) (un b) : Nat) : Int)), .int .i64 0]) /\ Below w.heap.size w w' := by
 obtain ⟨x, y, hua, hub, hx, hy, HX, HYE⟩ := pre64 a b
 rw [<- HYE.out] at h0
 have hyb : ((y : Int) == 0) = false := by simpa using h0
 have HY0 := Lib.hid h0
 clear h0
 go_enter Tryz.func31, Tryz.ntmps31
 go_wp2_with fail
 refine (wide_any _).mono ?_
 rintro e w1 ⟨bm, rfl, hbm, hBm⟩
 have hl := wide_look4 w1 bm hbm false
 rw [if_neg (by decide)] at hl
 go_wp2_with fail
 refine (Div_any x y hx hy HY0.out _).mono ?_
 rintro e w2 ⟨rfl, rfl⟩
 go_wp2
 go_ret2
 exact ⟨congrArg (fun z => Ending.returned (.tuple #[.int .i64 z, .int .i64 0])) (by rw [HX.out, HYE.out]), hBm⟩
theorem alu64_div0 (a b : Int) (h0 : un b = 0) (w : World) :
 Calls Tryz.prog 31 #[.int .i64 4, .bool false, .int .i64 a, .int .i64 b] w fun e w' =>
  e = .returned (.tuple #[.int .i64 0, .int .i64 84]) /\ w = w' := by
 obtain ⟨x, y, hua, hub, hx, hy, HX, HYE⟩ := pre64 a b
 rw [<- HYE.out] at h0
 have hyb : ((y : Int) == 0) = true := by simpa using h0
 clear h0
 go_enter Tryz.func31, Tryz.ntmps31
 go_wp2_with fail
 refine (divides_yes 4 (by decide) _).mono ?_
 rintro e w0 ⟨rfl, rfl⟩
 go_wp2
 go_ret2
 exact ⟨rfl, rfl⟩
theorem alu64_mod (a b : Int) (h0 : un b ≠ 0) (w : World) :
 Calls Tryz.prog 31 #[.int .i64 5, .bool false, .int .i64 a, .int .i64 b] w fun e w' =>
  e = .returned (.tuple #[.int .i64 (wrap64 ((w_mod 64 (un a) (un b) : Nat) : Int)), .int .i64 0]) /\ Below w.heap.size w w' := by
 obtain ⟨x, y, hua, hub, hx, hy, HX, HYE⟩ := pre64 a b
 rw [<- HYE.out] at h0
 have hyb : ((y : Int) == 0) = false := by simpa using h0
 have HY0 := Lib.hid h0
 clear h0
 go_enter Tryz.func31, Tryz.ntmps31
 go_wp2_with fail
 refine (wide_any _).mono ?_
 rintro e w1 ⟨bm, rfl, hbm, hBm⟩
 have hl := wide_look5 w1 bm hbm false
 rw [if_neg (by decide)] at hl
 go_wp2_with fail
 refine (Mod_any x y hx hy HY0.out _).mono ?_
 rintro e w2 ⟨rfl, rfl⟩
 go_wp2
 go_ret2
 exact ⟨congrArg (fun z => Ending.returned (.tuple #[.int .i64 z, .int .i64 0])) (by rw [HX.out, HYE.out]), hBm⟩
theorem alu64_mod0 (a b : Int) (h0 : un b = 0) (w : World) :
 Calls Tryz.prog 31 #[.int .i64 5, .bool false, .int .i64 a, .int .i64 b] w fun e w' =>
  e = .returned (.tuple #[.int .i64 0, .int .i64 84]) /\ w = w' := by
 obtain ⟨x, y, hua, hub, hx, hy, HX, HYE⟩ := pre64 a b
 rw [<- HYE.out] at h0
 have hyb : ((y : Int) == 0) = true := by simpa using h0
 clear h0
 go_enter Tryz.func31, Tryz.ntmps31
 go_wp2_with fail
 refine (divides_yes 5 (by decide) _).mono ?_
 rintro e w0 ⟨rfl, rfl⟩
 go_wp2
 go_ret2
 exact ⟨rfl, rfl⟩
theorem alu64_sdiv (a b : Int) (h0 : un b ≠ 0) (w : World) :
 Calls Tryz.prog 31 #[.int .i64 6, .bool false, .int .i64 a, .int .i64 b] w fun e w' =>
  e = .returned (.tuple #[.int .i64 (wrap64 ((w_sdiv 64 (un a) (un b) : Nat) : Int)), .int .i64 0]) /\ Below w.heap.size w w' := by
 obtain ⟨x, y, hua, hub, hx, hy, HX, HYE⟩ := pre64 a b
 rw [<- HYE.out] at h0
 have hyb : ((y : Int) == 0) = false := by simpa using h0
 have HY0 := Lib.hid h0
 clear h0
 go_enter Tryz.func31, Tryz.ntmps31
 go_wp2_with fail
 refine (wide_any _).mono ?_
 rintro e w1 ⟨bm, rfl, hbm, hBm⟩
 have hl := wide_look6 w1 bm hbm false
 rw [if_neg (by decide)] at hl
 go_wp2_with fail
 refine (Sdiv_any x y hx hy HY0.out _).mono ?_
 rintro e w2 ⟨rfl, rfl⟩
 go_wp2
 go_ret2
 exact ⟨congrArg (fun z => Ending.returned (.tuple #[.int .i64 z, .int .i64 0])) (by rw [HX.out, HYE.out]), hBm⟩
theorem alu64_sdiv0 (a b : Int) (h0 : un b = 0) (w : World) :
 Calls Tryz.prog 31 #[.int .i64 6, .bool false, .int .i64 a, .int .i64 b] w fun e w' =>
  e = .returned (.tuple #[.int .i64 0, .int .i64 84]) /\ w = w' := by
 obtain ⟨x, y, hua, hub, hx, hy, HX, HYE⟩ := pre64 a b
 rw [<- HYE.out] at h0
 have hyb : ((y : Int) == 0) = true := by simpa using h0
 clear h0
 go_enter Tryz.func31, Tryz.ntmps31
 go_wp2_with fail
 refine (divides_yes 6 (by decide) _).mono ?_
 rintro e w0 ⟨rfl, rfl⟩
 go_wp2
 go_ret2
 exact ⟨rfl, rfl⟩
theorem alu64_smod (a b : Int) (h0 : un b ≠ 0) (w : World) :
 Calls Tryz.prog 31 #[.int .i64 7, .bool false, .int .i64 a, .int .i64 b] w fun e w' =>
  e = .returned (.tuple #[.int .i64 (wrap64 ((w_smod 64 (un a) (un b) : Nat) : Int)), .int .i64 0]) /\ Below w.heap.size w w' := by
 obtain ⟨x, y, hua, hub, hx, hy, HX, HYE⟩ := pre64 a b
 rw [<- HYE.out] at h0
 have hyb : ((y : Int) == 0) = false := by simpa using h0
 have HY0 := Lib.hid h0
 clear h0
 go_enter Tryz.func31, Tryz.ntmps31
 go_wp2_with fail
 refine (wide_any _).mono ?_
 rintro e w1 ⟨bm, rfl, hbm, hBm⟩
 have hl := wide_look7 w1 bm hbm false
 rw [if_neg (by decide)] at hl
 go_wp2_with fail
 refine (Smod_any x y hx hy HY0.out _).mono ?_
 rintro e w2 ⟨rfl, rfl⟩
 go_wp2
 go_ret2
 exact ⟨congrArg (fun z => Ending.returned (.tuple #[.int .i64 z, .int .i64 0])) (by rw [HX.out, HYE.out]), hBm⟩
theorem alu64_smod0 (a b : Int) (h0 : un b = 0) (w : World) :
 Calls Tryz.prog 31 #[.int .i64 7, .bool false, .int .i64 a, .int .i64 b] w fun e w' =>
  e = .returned (.tuple #[.int .i64 0, .int .i64 84]) /\ w = w' := by
 obtain ⟨x, y, hua, hub, hx, hy, HX, HYE⟩ := pre64 a b
 rw [<- HYE.out] at h0
 have hyb : ((y : Int) == 0) = true := by simpa using h0
 clear h0
 go_enter Tryz.func31, Tryz.ntmps31
 go_wp2_with fail
 refine (divides_yes 7 (by decide) _).mono ?_
 rintro e w0 ⟨rfl, rfl⟩
 go_wp2
 go_ret2
 exact ⟨rfl, rfl⟩
theorem alu64_or (a b : Int) (w : World) :
 Calls Tryz.prog 31 #[.int .i64 8, .bool false, .int .i64 a, .int .i64 b] w fun e w' =>
  e = .returned (.tuple #[.int .i64 (wrap64 ((w_or 64 (un a) (un b) : Nat) : Int)), .int .i64 0]) /\ Below w.heap.size w w' := by
 obtain ⟨x, y, hua, hub, hx, hy, HX, HYE⟩ := pre64 a b
 obtain ⟨c0, hyb⟩ : ∃ c, ((y : Int) == 0) = c := ⟨_, rfl⟩
 cases c0
 all_goals
  go_enter Tryz.func31, Tryz.ntmps31
  go_wp2_with fail
  first | (go_at_call 59; refine (wide_any _).mono ?_) | (go_at_call 58; refine (divides_no 8 (by decide) _).mono ?_; rintro e w0 ⟨rfl, rfl⟩; go_wp2_with fail; refine (wide_any _).mono ?_)
  rintro e w1 ⟨bm, rfl, hbm, hBm⟩
  have hl := wide_look8 w1 bm hbm false
  rw [if_neg (by decide)] at hl
  go_wp2_with fail
  refine (Or_any x y hx hy _).mono ?_
  rintro e w2 ⟨rfl, rfl⟩
  go_wp2
  go_ret2
  exact ⟨congrArg (fun z => Ending.returned (.tuple #[.int .i64 z, .int .i64 0])) (by rw [HX.out, HYE.out]), hBm⟩
theorem alu64_and (a b : Int) (w : World) :
 Calls Tryz.prog 31 #[.int .i64 9, .bool false, .int .i64 a, .int .i64 b] w fun e w' =>
  e = .returned (.tuple #[.int .i64 (wrap64 ((w_and 64 (un a) (un b) : Nat) : Int)), .int .i64 0]) /\ Below w.heap.size w w' := by
 obtain ⟨x, y, hua, hub, hx, hy, HX, HYE⟩ := pre64 a b
 obtain ⟨c0, hyb⟩ : ∃ c, ((y : Int) == 0) = c := ⟨_, rfl⟩
 cases c0
 all_goals
  go_enter Tryz.func31, Tryz.ntmps31
  go_wp2_with fail
  first | (go_at_call 59; refine (wide_any _).mono ?_) | (go_at_call 58; refine (divides_no 9 (by decide) _).mono ?_; rintro e w0 ⟨rfl, rfl⟩; go_wp2_with fail; refine (wide_any _).mono ?_)
  rintro e w1 ⟨bm, rfl, hbm, hBm⟩
  have hl := wide_look9 w1 bm hbm false
  rw [if_neg (by decide)] at hl
  go_wp2_with fail
  refine (And_any x y hx hy _).mono ?_
  rintro e w2 ⟨rfl, rfl⟩
  go_wp2
  go_ret2
  exact ⟨congrArg (fun z => Ending.returned (.tuple #[.int .i64 z, .int .i64 0])) (by rw [HX.out, HYE.out]), hBm⟩
theorem alu64_xor (a b : Int) (w : World) :
 Calls Tryz.prog 31 #[.int .i64 10, .bool false, .int .i64 a, .int .i64 b] w fun e w' =>
  e = .returned (.tuple #[.int .i64 (wrap64 ((w_xor 64 (un a) (un b) : Nat) : Int)), .int .i64 0]) /\ Below w.heap.size w w' := by
 obtain ⟨x, y, hua, hub, hx, hy, HX, HYE⟩ := pre64 a b
 obtain ⟨c0, hyb⟩ : ∃ c, ((y : Int) == 0) = c := ⟨_, rfl⟩
 cases c0
 all_goals
  go_enter Tryz.func31, Tryz.ntmps31
  go_wp2_with fail
  first | (go_at_call 59; refine (wide_any _).mono ?_) | (go_at_call 58; refine (divides_no 10 (by decide) _).mono ?_; rintro e w0 ⟨rfl, rfl⟩; go_wp2_with fail; refine (wide_any _).mono ?_)
  rintro e w1 ⟨bm, rfl, hbm, hBm⟩
  have hl := wide_look10 w1 bm hbm false
  rw [if_neg (by decide)] at hl
  go_wp2_with fail
  refine (Xor_any x y hx hy _).mono ?_
  rintro e w2 ⟨rfl, rfl⟩
  go_wp2
  go_ret2
  exact ⟨congrArg (fun z => Ending.returned (.tuple #[.int .i64 z, .int .i64 0])) (by rw [HX.out, HYE.out]), hBm⟩
theorem alu64_lsh (a b : Int) (w : World) :
 Calls Tryz.prog 31 #[.int .i64 11, .bool false, .int .i64 a, .int .i64 b] w fun e w' =>
  e = .returned (.tuple #[.int .i64 (wrap64 ((w_lsh 64 (un a) (un b) : Nat) : Int)), .int .i64 0]) /\ Below w.heap.size w w' := by
 obtain ⟨x, y, hua, hub, hx, hy, HX, HYE⟩ := pre64 a b
 obtain ⟨c0, hyb⟩ : ∃ c, ((y : Int) == 0) = c := ⟨_, rfl⟩
 cases c0
 all_goals
  go_enter Tryz.func31, Tryz.ntmps31
  go_wp2_with fail
  first | (go_at_call 59; refine (wide_any _).mono ?_) | (go_at_call 58; refine (divides_no 11 (by decide) _).mono ?_; rintro e w0 ⟨rfl, rfl⟩; go_wp2_with fail; refine (wide_any _).mono ?_)
  rintro e w1 ⟨bm, rfl, hbm, hBm⟩
  have hl := wide_look11 w1 bm hbm false
  rw [if_neg (by decide)] at hl
  go_wp2_with fail
  refine (Lsh_any x y hx hy _).mono ?_
  rintro e w2 ⟨rfl, rfl⟩
  go_wp2
  go_ret2
  exact ⟨congrArg (fun z => Ending.returned (.tuple #[.int .i64 z, .int .i64 0])) (by rw [HX.out, HYE.out]), hBm⟩
theorem alu64_rsh (a b : Int) (w : World) :
 Calls Tryz.prog 31 #[.int .i64 12, .bool false, .int .i64 a, .int .i64 b] w fun e w' =>
  e = .returned (.tuple #[.int .i64 (wrap64 ((w_rsh 64 (un a) (un b) : Nat) : Int)), .int .i64 0]) /\ Below w.heap.size w w' := by
 obtain ⟨x, y, hua, hub, hx, hy, HX, HYE⟩ := pre64 a b
 obtain ⟨c0, hyb⟩ : ∃ c, ((y : Int) == 0) = c := ⟨_, rfl⟩
 cases c0
 all_goals
  go_enter Tryz.func31, Tryz.ntmps31
  go_wp2_with fail
  first | (go_at_call 59; refine (wide_any _).mono ?_) | (go_at_call 58; refine (divides_no 12 (by decide) _).mono ?_; rintro e w0 ⟨rfl, rfl⟩; go_wp2_with fail; refine (wide_any _).mono ?_)
  rintro e w1 ⟨bm, rfl, hbm, hBm⟩
  have hl := wide_look12 w1 bm hbm false
  rw [if_neg (by decide)] at hl
  go_wp2_with fail
  refine (Rsh_any x y hx hy _).mono ?_
  rintro e w2 ⟨rfl, rfl⟩
  go_wp2
  go_ret2
  exact ⟨congrArg (fun z => Ending.returned (.tuple #[.int .i64 z, .int .i64 0])) (by rw [HX.out, HYE.out]), hBm⟩
theorem alu64_arsh (a b : Int) (w : World) :
 Calls Tryz.prog 31 #[.int .i64 13, .bool false, .int .i64 a, .int .i64 b] w fun e w' =>
  e = .returned (.tuple #[.int .i64 (wrap64 ((w_arsh 64 (un a) (un b) : Nat) : Int)), .int .i64 0]) /\ Below w.heap.size w w' := by
 obtain ⟨x, y, hua, hub, hx, hy, HX, HYE⟩ := pre64 a b
 obtain ⟨c0, hyb⟩ : ∃ c, ((y : Int) == 0) = c := ⟨_, rfl⟩
 cases c0
 all_goals
  go_enter Tryz.func31, Tryz.ntmps31
  go_wp2_with fail
  first | (go_at_call 59; refine (wide_any _).mono ?_) | (go_at_call 58; refine (divides_no 13 (by decide) _).mono ?_; rintro e w0 ⟨rfl, rfl⟩; go_wp2_with fail; refine (wide_any _).mono ?_)
  rintro e w1 ⟨bm, rfl, hbm, hBm⟩
  have hl := wide_look13 w1 bm hbm false
  rw [if_neg (by decide)] at hl
  go_wp2_with fail
  refine (Arsh_any x y hx hy _).mono ?_
  rintro e w2 ⟨rfl, rfl⟩
  go_wp2
  go_ret2
  exact ⟨congrArg (fun z => Ending.returned (.tuple #[.int .i64 z, .int .i64 0])) (by rw [HX.out, HYE.out]), hBm⟩
theorem alu64_neg (a b : Int) (w : World) :
 Calls Tryz.prog 31 #[.int .i64 14, .bool false, .int .i64 a, .int .i64 b] w fun e w' =>
  e = .returned (.tuple #[.int .i64 (wrap64 ((w_neg 64 (un a) (un b) : Nat) : Int)), .int .i64 0]) /\ Below w.heap.size w w' := by
 obtain ⟨x, y, hua, hub, hx, hy, HX, HYE⟩ := pre64 a b
 obtain ⟨c0, hyb⟩ : ∃ c, ((y : Int) == 0) = c := ⟨_, rfl⟩
 cases c0
 all_goals
  go_enter Tryz.func31, Tryz.ntmps31
  go_wp2_with fail
  first | (go_at_call 59; refine (wide_any _).mono ?_) | (go_at_call 58; refine (divides_no 14 (by decide) _).mono ?_; rintro e w0 ⟨rfl, rfl⟩; go_wp2_with fail; refine (wide_any _).mono ?_)
  rintro e w1 ⟨bm, rfl, hbm, hBm⟩
  have hl := wide_look14 w1 bm hbm false
  rw [if_neg (by decide)] at hl
  go_wp2_with fail
  refine (Neg_any x y hx hy _).mono ?_
  rintro e w2 ⟨rfl, rfl⟩
  go_wp2
  go_ret2
  exact ⟨congrArg (fun z => Ending.returned (.tuple #[.int .i64 z, .int .i64 0])) (by rw [HX.out, HYE.out]), hBm⟩
theorem alu64_mov (a b : Int) (w : World) :
 Calls Tryz.prog 31 #[.int .i64 15, .bool false, .int .i64 a, .int .i64 b] w fun e w' =>
  e = .returned (.tuple #[.int .i64 (wrap64 ((w_mov 64 (un a) (un b) : Nat) : Int)), .int .i64 0]) /\ Below w.heap.size w w' := by
 obtain ⟨x, y, hua, hub, hx, hy, HX, HYE⟩ := pre64 a b
 obtain ⟨c0, hyb⟩ : ∃ c, ((y : Int) == 0) = c := ⟨_, rfl⟩
 cases c0
 all_goals
  go_enter Tryz.func31, Tryz.ntmps31
  go_wp2_with fail
  first | (go_at_call 59; refine (wide_any _).mono ?_) | (go_at_call 58; refine (divides_no 15 (by decide) _).mono ?_; rintro e w0 ⟨rfl, rfl⟩; go_wp2_with fail; refine (wide_any _).mono ?_)
  rintro e w1 ⟨bm, rfl, hbm, hBm⟩
  have hl := wide_look15 w1 bm hbm false
  rw [if_neg (by decide)] at hl
  go_wp2_with fail
  refine (Mov_any x y hx hy _).mono ?_
  rintro e w2 ⟨rfl, rfl⟩
  go_wp2
  go_ret2
  exact ⟨congrArg (fun z => Ending.returned (.tuple #[.int .i64 z, .int .i64 0])) (by rw [HX.out, HYE.out]), hBm⟩
theorem toNat_mod (z : Int) : (z % 2 ^ 32).toNat = (z % 2 ^ 32).toNat % 2 ^ 32 := by
 have e : (2 : Int) ^ 32 = 4294967296 := rfl
 rw [e]; omega
theorem toNat_lt (z : Int) : (z % 2 ^ 32).toNat < 18446744073709551616 := by
 have e : (2 : Int) ^ 32 = 4294967296 := rfl
 rw [e]; omega
theorem nar_add (xl yl : Nat) (hx : xl < 4294967296) (hy : yl < 4294967296) : w_add 32 xl yl = w_add 64 xl yl % 2 ^ 32 := by
 unfold w_add; omega
theorem lt_add (xl yl : Nat) (hx : xl < 4294967296) (hy : yl < 4294967296) : w_add 64 xl yl < 18446744073709551616 := by
 unfold w_add; exact Nat.lt_of_lt_of_le (Nat.mod_lt _ (Nat.two_pow_pos 64)) (by decide)
theorem alu32_add (a b : Int) (w : World) :
 Calls Tryz.prog 31 #[.int .i64 1, .bool true, .int .i64 a, .int .i64 b] w fun e w' =>
  e = .returned (.tuple #[.int .i64 ((w_add 32 (lowN 32 a) (lowN 32 b) : Nat) : Int), .int .i64 0]) /\ Below w.heap.size w w' := by
 obtain ⟨x, y, xl, yl, hua, hub, hx, hy, hxl, hyl, HXL, HYL, HXN, HYN⟩ := pre32 a b
 have HEQ := Lib.hid (nar_add xl yl hxl hyl)
 have HLT := Lib.hid (lt_add xl yl hxl hyl)
 have HW := Lib.hid (show w_add 32 xl yl < 4294967296 by rw [HEQ.out]; exact Nat.mod_lt _ (by decide))
 obtain ⟨c0, hyb⟩ : ∃ c, ((yl : Int) == 0) = c := ⟨_, rfl⟩
 cases c0
 all_goals
  go_enter Tryz.func31, Tryz.ntmps31
  go_wp2_with fail
  refine (low_at x xl HXL.out hx _).mono ?_
  rintro e w0 ⟨rfl, rfl⟩
  go_wp2_with fail
  refine (low_at y yl HYL.out hy _).mono ?_
  rintro e w0 ⟨rfl, rfl⟩
  go_wp2_with fail
  first | (go_at_call 59; refine (wide_any _).mono ?_) | (go_at_call 58; refine (divides_no 1 (by decide) _).mono ?_; rintro e w0 ⟨rfl, rfl⟩; go_wp2_with fail; refine (wide_any _).mono ?_)
  rintro e w1 ⟨bm, rfl, hbm, hBm⟩
  have hl := wide_look1 w1 bm hbm false
  rw [if_neg (by decide)] at hl
  have hs := hBm.size
  go_wp2_with fail
  refine (narrow_any _).mono ?_
  rintro e w2 ⟨bn, rfl, hbn, hBn⟩
  have hln := narrow_look1 w2 bn hbn true
  rw [if_pos rfl] at hln
  have hB := hBm.trans (hBn.mono hs)
  clear hBm hBn hs
  go_wp2_with fail
  refine (Add_any xl yl (by omega) (by omega) _).mono ?_
  rintro e w3 ⟨rfl, rfl⟩
  have hlt := HLT.out
  have heq := HEQ.out
  generalize hr : w_add 64 xl yl = r at hlt heq
  have HE := Lib.hid heq
  have HR := Lib.hid hr
  clear heq hr
  go_wp2_with fail
  refine (low_at r (w_add 32 xl yl) HE.out hlt _).mono ?_
  rintro e w4 ⟨rfl, rfl⟩
  have hw := HW.out
  obtain ⟨v, hv⟩ : ∃ v, v = w_add 32 xl yl := ⟨_, rfl⟩
  rw [<- hv] at hw ⊢
  have HV := Lib.hid hv
  clear hv
  go_wp2
  go_ret2
  exact ⟨congrArg (fun z => Ending.returned (.tuple #[.int .i64 z, .int .i64 0])) (by rw [HV.out, HXN.out, HYN.out]), hB⟩
theorem nar_sub (xl yl : Nat) (hx : xl < 4294967296) (hy : yl < 4294967296) : w_sub 32 xl yl = w_sub 64 xl yl % 2 ^ 32 := by
 unfold w_sub; omega
theorem lt_sub (xl yl : Nat) (hx : xl < 4294967296) (hy : yl < 4294967296) : w_sub 64 xl yl < 18446744073709551616 := by
 unfold w_sub; exact Nat.lt_of_lt_of_le (Nat.mod_lt _ (Nat.two_pow_pos 64)) (by decide)
theorem alu32_sub (a b : Int) (w : World) :
 Calls Tryz.prog 31 #[.int .i64 2, .bool true, .int .i64 a, .int .i64 b] w fun e w' =>
  e = .returned (.tuple #[.int .i64 ((w_sub 32 (lowN 32 a) (lowN 32 b) : Nat) : Int), .int .i64 0]) /\ Below w.heap.size w w' := by
 obtain ⟨x, y, xl, yl, hua, hub, hx, hy, hxl, hyl, HXL, HYL, HXN, HYN⟩ := pre32 a b
 have HEQ := Lib.hid (nar_sub xl yl hxl hyl)
 have HLT := Lib.hid (lt_sub xl yl hxl hyl)
 have HW := Lib.hid (show w_sub 32 xl yl < 4294967296 by rw [HEQ.out]; exact Nat.mod_lt _ (by decide))
 obtain ⟨c0, hyb⟩ : ∃ c, ((yl : Int) == 0) = c := ⟨_, rfl⟩
 cases c0
 all_goals
  go_enter Tryz.func31, Tryz.ntmps31
  go_wp2_with fail
  refine (low_at x xl HXL.out hx _).mono ?_
  rintro e w0 ⟨rfl, rfl⟩
  go_wp2_with fail
  refine (low_at y yl HYL.out hy _).mono ?_
  rintro e w0 ⟨rfl, rfl⟩
  go_wp2_with fail
  first | (go_at_call 59; refine (wide_any _).mono ?_) | (go_at_call 58; refine (divides_no 2 (by decide) _).mono ?_; rintro e w0 ⟨rfl, rfl⟩; go_wp2_with fail; refine (wide_any _).mono ?_)
  rintro e w1 ⟨bm, rfl, hbm, hBm⟩
  have hl := wide_look2 w1 bm hbm false
  rw [if_neg (by decide)] at hl
  have hs := hBm.size
  go_wp2_with fail
  refine (narrow_any _).mono ?_
  rintro e w2 ⟨bn, rfl, hbn, hBn⟩
  have hln := narrow_look2 w2 bn hbn true
  rw [if_pos rfl] at hln
  have hB := hBm.trans (hBn.mono hs)
  clear hBm hBn hs
  go_wp2_with fail
  refine (Sub_any xl yl (by omega) (by omega) _).mono ?_
  rintro e w3 ⟨rfl, rfl⟩
  have hlt := HLT.out
  have heq := HEQ.out
  generalize hr : w_sub 64 xl yl = r at hlt heq
  have HE := Lib.hid heq
  have HR := Lib.hid hr
  clear heq hr
  go_wp2_with fail
  refine (low_at r (w_sub 32 xl yl) HE.out hlt _).mono ?_
  rintro e w4 ⟨rfl, rfl⟩
  have hw := HW.out
  obtain ⟨v, hv⟩ : ∃ v, v = w_sub 32 xl yl := ⟨_, rfl⟩
  rw [<- hv] at hw ⊢
  have HV := Lib.hid hv
  clear hv
  go_wp2
  go_ret2
  exact ⟨congrArg (fun z => Ending.returned (.tuple #[.int .i64 z, .int .i64 0])) (by rw [HV.out, HXN.out, HYN.out]), hB⟩
theorem nar_mul (xl yl : Nat) (hx : xl < 4294967296) (hy : yl < 4294967296) : w_mul 32 xl yl = w_mul 64 xl yl % 2 ^ 32 := by
 unfold w_mul; exact (Nat.mod_mod_of_dvd _ (by decide)).symm
theorem lt_mul (xl yl : Nat) (hx : xl < 4294967296) (hy : yl < 4294967296) : w_mul 64 xl yl < 18446744073709551616 := by
 unfold w_mul; exact Nat.lt_of_lt_of_le (Nat.mod_lt _ (Nat.two_pow_pos 64)) (by decide)
theorem alu32_mul (a b : Int) (w : World) :
 Calls Tryz.prog 31 #[.int .i64 3, .bool true, .int .i64 a, .int .i64 b] w fun e w' =>
  e = .returned (.tuple #[.int .i64 ((w_mul 32 (lowN 32 a) (lowN 32 b) : Nat) : Int), .int .i64 0]) /\ Below w.heap.size w w' := by
 obtain ⟨x, y, xl, yl, hua, hub, hx, hy, hxl, hyl, HXL, HYL, HXN, HYN⟩ := pre32 a b
 have HEQ := Lib.hid (nar_mul xl yl hxl hyl)
 have HLT := Lib.hid (lt_mul xl yl hxl hyl)
 have HW := Lib.hid (show w_mul 32 xl yl < 4294967296 by rw [HEQ.out]; exact Nat.mod_lt _ (by decide))
 obtain ⟨c0, hyb⟩ : ∃ c, ((yl : Int) == 0) = c := ⟨_, rfl⟩
 cases c0
 all_goals
  go_enter Tryz.func31, Tryz.ntmps31
  go_wp2_with fail
  refine (low_at x xl HXL.out hx _).mono ?_
  rintro e w0 ⟨rfl, rfl⟩
  go_wp2_with fail
  refine (low_at y yl HYL.out hy _).mono ?_
  rintro e w0 ⟨rfl, rfl⟩
  go_wp2_with fail
  first | (go_at_call 59; refine (wide_any _).mono ?_) | (go_at_call 58; refine (divides_no 3 (by decide) _).mono ?_; rintro e w0 ⟨rfl, rfl⟩; go_wp2_with fail; refine (wide_any _).mono ?_)
  rintro e w1 ⟨bm, rfl, hbm, hBm⟩
  have hl := wide_look3 w1 bm hbm false
  rw [if_neg (by decide)] at hl
  have hs := hBm.size
  go_wp2_with fail
  refine (narrow_any _).mono ?_
  rintro e w2 ⟨bn, rfl, hbn, hBn⟩
  have hln := narrow_look3 w2 bn hbn true
  rw [if_pos rfl] at hln
  have hB := hBm.trans (hBn.mono hs)
  clear hBm hBn hs
  go_wp2_with fail
  refine (Mul_any xl yl (by omega) (by omega) _).mono ?_
  rintro e w3 ⟨rfl, rfl⟩
  have hlt := HLT.out
  have heq := HEQ.out
  generalize hr : w_mul 64 xl yl = r at hlt heq
  have HE := Lib.hid heq
  have HR := Lib.hid hr
  clear heq hr
  go_wp2_with fail
  refine (low_at r (w_mul 32 xl yl) HE.out hlt _).mono ?_
  rintro e w4 ⟨rfl, rfl⟩
  have hw := HW.out
  obtain ⟨v, hv⟩ : ∃ v, v = w_mul 32 xl yl := ⟨_, rfl⟩
  rw [<- hv] at hw ⊢
  have HV := Lib.hid hv
  clear hv
  go_wp2
  go_ret2
  exact ⟨congrArg (fun z => Ending.returned (.tuple #[.int .i64 z, .int .i64 0])) (by rw [HV.out, HXN.out, HYN.out]), hB⟩
theorem nar_div (xl yl : Nat) (hx : xl < 4294967296) (hy : yl < 4294967296) (h0 : yl ≠ 0) : w_div 32 xl yl = w_div 32 xl yl % 2 ^ 32 := by
 unfold w_div; have := Nat.div_le_self xl yl; rw [Nat.mod_eq_of_lt (show xl / yl < 2 ^ 32 by omega)]
theorem lt_div (xl yl : Nat) (hx : xl < 4294967296) (hy : yl < 4294967296) (h0 : yl ≠ 0) : w_div 32 xl yl < 18446744073709551616 := by
 unfold w_div; have := Nat.div_le_self xl yl; omega
theorem alu32_div (a b : Int) (h0 : lowN 32 b ≠ 0) (w : World) :
 Calls Tryz.prog 31 #[.int .i64 4, .bool true, .int .i64 a, .int .i64 b] w fun e w' =>
  e = .returned (.tuple #[.int .i64 ((w_div 32 (lowN 32 a) (lowN 32 b) : Nat) : Int), .int .i64 0]) /\ Below w.heap.size w w' := by
 obtain ⟨x, y, xl, yl, hua, hub, hx, hy, hxl, hyl, HXL, HYL, HXN, HYN⟩ := pre32 a b
 rw [<- HYN.out] at h0
 have HEQ := Lib.hid (nar_div xl yl hxl hyl h0)
 have HLT := Lib.hid (lt_div xl yl hxl hyl h0)
 have HW := Lib.hid (show w_div 32 xl yl < 4294967296 by rw [HEQ.out]; exact Nat.mod_lt _ (by decide))
 have hyb : ((yl : Int) == 0) = false := by simpa using h0
 have HY0 := Lib.hid h0
 clear h0
 go_enter Tryz.func31, Tryz.ntmps31
 go_wp2_with fail
 refine (low_at x xl HXL.out hx _).mono ?_
 rintro e w0 ⟨rfl, rfl⟩
 go_wp2_with fail
 refine (low_at y yl HYL.out hy _).mono ?_
 rintro e w0 ⟨rfl, rfl⟩
 go_wp2_with fail
 refine (wide_any _).mono ?_
 rintro e w1 ⟨bm, rfl, hbm, hBm⟩
 have hl := wide_look4 w1 bm hbm false
 rw [if_neg (by decide)] at hl
 have hs := hBm.size
 go_wp2_with fail
 refine (narrow_any _).mono ?_
 rintro e w2 ⟨bn, rfl, hbn, hBn⟩
 have hln := narrow_look4 w2 bn hbn true
 rw [if_pos rfl] at hln
 have hB := hBm.trans (hBn.mono hs)
 clear hBm hBn hs
 go_wp2_with fail
 refine (Div32_any xl yl hxl hyl HY0.out _).mono ?_
 rintro e w3 ⟨rfl, rfl⟩
 have hlt := HLT.out
 have heq := HEQ.out
 generalize hr : w_div 32 xl yl = r at hlt heq
 have HE := Lib.hid heq
 have HR := Lib.hid hr
 clear heq hr
 go_wp2_with fail
 refine (low_at r r HE.out hlt _).mono ?_
 rintro e w4 ⟨rfl, rfl⟩
 have hw := HW.out
 rw [HR.out] at hw
 go_wp2
 go_ret2
 exact ⟨congrArg (fun z => Ending.returned (.tuple #[.int .i64 z, .int .i64 0])) (by rw [<- HR.out, HXN.out, HYN.out]), hB⟩
theorem alu32_div0 (a b : Int) (h0 : lowN 32 b = 0) (w : World) :
 Calls Tryz.prog 31 #[.int .i64 4, .bool true, .int .i64 a, .int .i64 b] w fun e w' =>
  e = .returned (.tuple #[.int .i64 0, .int .i64 84]) /\ w = w' := by
 obtain ⟨x, y, xl, yl, hua, hub, hx, hy, hxl, hyl, HXL, HYL, HXN, HYN⟩ := pre32 a b
 rw [<- HYN.out] at h0
 have hyb : ((yl : Int) == 0) = true := by simpa using h0
 clear h0
 go_enter Tryz.func31, Tryz.ntmps31
 go_wp2_with fail
 refine (low_at x xl HXL.out hx _).mono ?_
 rintro e w0 ⟨rfl, rfl⟩
 go_wp2_with fail
 refine (low_at y yl HYL.out hy _).mono ?_
 rintro e w0 ⟨rfl, rfl⟩
 go_wp2_with fail
 refine (divides_yes 4 (by decide) _).mono ?_
 rintro e w0 ⟨rfl, rfl⟩
 go_wp2
 go_ret2
 exact ⟨rfl, rfl⟩
theorem nar_mod (xl yl : Nat) (hx : xl < 4294967296) (hy : yl < 4294967296) (h0 : yl ≠ 0) : w_mod 32 xl yl = w_mod 32 xl yl % 2 ^ 32 := by
 unfold w_mod; have := Nat.mod_le xl yl; rw [Nat.mod_eq_of_lt (show xl % yl < 2 ^ 32 by omega)]
theorem lt_mod (xl yl : Nat) (hx : xl < 4294967296) (hy : yl < 4294967296) (h0 : yl ≠ 0) : w_mod 32 xl yl < 18446744073709551616 := by
 unfold w_mod; have := Nat.mod_le xl yl; omega
theorem alu32_mod (a b : Int) (h0 : lowN 32 b ≠ 0) (w : World) :
 Calls Tryz.prog 31 #[.int .i64 5, .bool true, .int .i64 a, .int .i64 b] w fun e w' =>
  e = .returned (.tuple #[.int .i64 ((w_mod 32 (lowN 32 a) (lowN 32 b) : Nat) : Int), .int .i64 0]) /\ Below w.heap.size w w' := by
 obtain ⟨x, y, xl, yl, hua, hub, hx, hy, hxl, hyl, HXL, HYL, HXN, HYN⟩ := pre32 a b
 rw [<- HYN.out] at h0
 have HEQ := Lib.hid (nar_mod xl yl hxl hyl h0)
 have HLT := Lib.hid (lt_mod xl yl hxl hyl h0)
 have HW := Lib.hid (show w_mod 32 xl yl < 4294967296 by rw [HEQ.out]; exact Nat.mod_lt _ (by decide))
 have hyb : ((yl : Int) == 0) = false := by simpa using h0
 have HY0 := Lib.hid h0
 clear h0
 go_enter Tryz.func31, Tryz.ntmps31
 go_wp2_with fail
 refine (low_at x xl HXL.out hx _).mono ?_
 rintro e w0 ⟨rfl, rfl⟩
 go_wp2_with fail
 refine (low_at y yl HYL.out hy _).mono ?_
 rintro e w0 ⟨rfl, rfl⟩
 go_wp2_with fail
 refine (wide_any _).mono ?_
 rintro e w1 ⟨bm, rfl, hbm, hBm⟩
 have hl := wide_look5 w1 bm hbm false
 rw [if_neg (by decide)] at hl
 have hs := hBm.size
 go_wp2_with fail
 refine (narrow_any _).mono ?_
 rintro e w2 ⟨bn, rfl, hbn, hBn⟩
 have hln := narrow_look5 w2 bn hbn true
 rw [if_pos rfl] at hln
 have hB := hBm.trans (hBn.mono hs)
 clear hBm hBn hs
 go_wp2_with fail
 refine (Mod32_any xl yl hxl hyl HY0.out _).mono ?_
 rintro e w3 ⟨rfl, rfl⟩
 have hlt := HLT.out
 have heq := HEQ.out
 generalize hr : w_mod 32 xl yl = r at hlt heq
 have HE := Lib.hid heq
 have HR := Lib.hid hr
 clear heq hr
 go_wp2_with fail
 refine (low_at r r HE.out hlt _).mono ?_
 rintro e w4 ⟨rfl, rfl⟩
 have hw := HW.out
 rw [HR.out] at hw
 go_wp2
 go_ret2
 exact ⟨congrArg (fun z => Ending.returned (.tuple #[.int .i64 z, .int .i64 0])) (by rw [<- HR.out, HXN.out, HYN.out]), hB⟩
theorem alu32_mod0 (a b : Int) (h0 : lowN 32 b = 0) (w : World) :
 Calls Tryz.prog 31 #[.int .i64 5, .bool true, .int .i64 a, .int .i64 b] w fun e w' =>
  e = .returned (.tuple #[.int .i64 0, .int .i64 84]) /\ w = w' := by
 obtain ⟨x, y, xl, yl, hua, hub, hx, hy, hxl, hyl, HXL, HYL, HXN, HYN⟩ := pre32 a b
 rw [<- HYN.out] at h0
 have hyb : ((yl : Int) == 0) = true := by simpa using h0
 clear h0
 go_enter Tryz.func31, Tryz.ntmps31
 go_wp2_with fail
 refine (low_at x xl HXL.out hx _).mono ?_
 rintro e w0 ⟨rfl, rfl⟩
 go_wp2_with fail
 refine (low_at y yl HYL.out hy _).mono ?_
 rintro e w0 ⟨rfl, rfl⟩
 go_wp2_with fail
 refine (divides_yes 5 (by decide) _).mono ?_
 rintro e w0 ⟨rfl, rfl⟩
 go_wp2
 go_ret2
 exact ⟨rfl, rfl⟩
theorem nar_sdiv (xl yl : Nat) (hx : xl < 4294967296) (hy : yl < 4294967296) (h0 : yl ≠ 0) : w_sdiv 32 xl yl = w_sdiv 32 xl yl % 2 ^ 32 := by
 unfold w_sdiv; exact toNat_mod _
theorem lt_sdiv (xl yl : Nat) (hx : xl < 4294967296) (hy : yl < 4294967296) (h0 : yl ≠ 0) : w_sdiv 32 xl yl < 18446744073709551616 := by
 unfold w_sdiv; exact toNat_lt _
theorem alu32_sdiv (a b : Int) (h0 : lowN 32 b ≠ 0) (w : World) :
 Calls Tryz.prog 31 #[.int .i64 6, .bool true, .int .i64 a, .int .i64 b] w fun e w' =>
  e = .returned (.tuple #[.int .i64 ((w_sdiv 32 (lowN 32 a) (lowN 32 b) : Nat) : Int), .int .i64 0]) /\ Below w.heap.size w w' := by
 obtain ⟨x, y, xl, yl, hua, hub, hx, hy, hxl, hyl, HXL, HYL, HXN, HYN⟩ := pre32 a b
 rw [<- HYN.out] at h0
 have HEQ := Lib.hid (nar_sdiv xl yl hxl hyl h0)
 have HLT := Lib.hid (lt_sdiv xl yl hxl hyl h0)
 have HW := Lib.hid (show w_sdiv 32 xl yl < 4294967296 by rw [HEQ.out]; exact Nat.mod_lt _ (by decide))
 have hyb : ((yl : Int) == 0) = false := by simpa using h0
 have HY0 := Lib.hid h0
 clear h0
 go_enter Tryz.func31, Tryz.ntmps31
 go_wp2_with fail
 refine (low_at x xl HXL.out hx _).mono ?_
 rintro e w0 ⟨rfl, rfl⟩
 go_wp2_with fail
 refine (low_at y yl HYL.out hy _).mono ?_
 rintro e w0 ⟨rfl, rfl⟩
 go_wp2_with fail
 refine (wide_any _).mono ?_
 rintro e w1 ⟨bm, rfl, hbm, hBm⟩
 have hl := wide_look6 w1 bm hbm false
 rw [if_neg (by decide)] at hl
 have hs := hBm.size
 go_wp2_with fail
 refine (narrow_any _).mono ?_
 rintro e w2 ⟨bn, rfl, hbn, hBn⟩
 have hln := narrow_look6 w2 bn hbn true
 rw [if_pos rfl] at hln
 have hB := hBm.trans (hBn.mono hs)
 clear hBm hBn hs
 go_wp2_with fail
 refine (Sdiv32_any xl yl hxl hyl HY0.out _).mono ?_
 rintro e w3 ⟨rfl, rfl⟩
 have hlt := HLT.out
 have heq := HEQ.out
 generalize hr : w_sdiv 32 xl yl = r at hlt heq
 have HE := Lib.hid heq
 have HR := Lib.hid hr
 clear heq hr
 go_wp2_with fail
 refine (low_at r r HE.out hlt _).mono ?_
 rintro e w4 ⟨rfl, rfl⟩
 have hw := HW.out
 rw [HR.out] at hw
 go_wp2
 go_ret2
 exact ⟨congrArg (fun z => Ending.returned (.tuple #[.int .i64 z, .int .i64 0])) (by rw [<- HR.out, HXN.out, HYN.out]), hB⟩
theorem alu32_sdiv0 (a b : Int) (h0 : lowN 32 b = 0) (w : World) :
 Calls Tryz.prog 31 #[.int .i64 6, .bool true, .int .i64 a, .int .i64 b] w fun e w' =>
  e = .returned (.tuple #[.int .i64 0, .int .i64 84]) /\ w = w' := by
 obtain ⟨x, y, xl, yl, hua, hub, hx, hy, hxl, hyl, HXL, HYL, HXN, HYN⟩ := pre32 a b
 rw [<- HYN.out] at h0
 have hyb : ((yl : Int) == 0) = true := by simpa using h0
 clear h0
 go_enter Tryz.func31, Tryz.ntmps31
 go_wp2_with fail
 refine (low_at x xl HXL.out hx _).mono ?_
 rintro e w0 ⟨rfl, rfl⟩
 go_wp2_with fail
 refine (low_at y yl HYL.out hy _).mono ?_
 rintro e w0 ⟨rfl, rfl⟩
 go_wp2_with fail
 refine (divides_yes 6 (by decide) _).mono ?_
 rintro e w0 ⟨rfl, rfl⟩
 go_wp2
 go_ret2
 exact ⟨rfl, rfl⟩
theorem nar_smod (xl yl : Nat) (hx : xl < 4294967296) (hy : yl < 4294967296) (h0 : yl ≠ 0) : w_smod 32 xl yl = w_smod 32 xl yl % 2 ^ 32 := by
 unfold w_smod; exact toNat_mod _
theorem lt_smod (xl yl : Nat) (hx : xl < 4294967296) (hy : yl < 4294967296) (h0 : yl ≠ 0) : w_smod 32 xl yl < 18446744073709551616 := by
 unfold w_smod; exact toNat_lt _
theorem alu32_smod (a b : Int) (h0 : lowN 32 b ≠ 0) (w : World) :
 Calls Tryz.prog 31 #[.int .i64 7, .bool true, .int .i64 a, .int .i64 b] w fun e w' =>
  e = .returned (.tuple #[.int .i64 ((w_smod 32 (lowN 32 a) (lowN 32 b) : Nat) : Int), .int .i64 0]) /\ Below w.heap.size w w' := by
 obtain ⟨x, y, xl, yl, hua, hub, hx, hy, hxl, hyl, HXL, HYL, HXN, HYN⟩ := pre32 a b
 rw [<- HYN.out] at h0
 have HEQ := Lib.hid (nar_smod xl yl hxl hyl h0)
 have HLT := Lib.hid (lt_smod xl yl hxl hyl h0)
 have HW := Lib.hid (show w_smod 32 xl yl < 4294967296 by rw [HEQ.out]; exact Nat.mod_lt _ (by decide))
 have hyb : ((yl : Int) == 0) = false := by simpa using h0
 have HY0 := Lib.hid h0
 clear h0
 go_enter Tryz.func31, Tryz.ntmps31
 go_wp2_with fail
 refine (low_at x xl HXL.out hx _).mono ?_
 rintro e w0 ⟨rfl, rfl⟩
 go_wp2_with fail
 refine (low_at y yl HYL.out hy _).mono ?_
 rintro e w0 ⟨rfl, rfl⟩
 go_wp2_with fail
 refine (wide_any _).mono ?_
 rintro e w1 ⟨bm, rfl, hbm, hBm⟩
 have hl := wide_look7 w1 bm hbm false
 rw [if_neg (by decide)] at hl
 have hs := hBm.size
 go_wp2_with fail
 refine (narrow_any _).mono ?_
 rintro e w2 ⟨bn, rfl, hbn, hBn⟩
 have hln := narrow_look7 w2 bn hbn true
 rw [if_pos rfl] at hln
 have hB := hBm.trans (hBn.mono hs)
 clear hBm hBn hs
 go_wp2_with fail
 refine (Smod32_any xl yl hxl hyl HY0.out _).mono ?_
 rintro e w3 ⟨rfl, rfl⟩
 have hlt := HLT.out
 have heq := HEQ.out
 generalize hr : w_smod 32 xl yl = r at hlt heq
 have HE := Lib.hid heq
 have HR := Lib.hid hr
 clear heq hr
 go_wp2_with fail
 refine (low_at r r HE.out hlt _).mono ?_
 rintro e w4 ⟨rfl, rfl⟩
 have hw := HW.out
 rw [HR.out] at hw
 go_wp2
 go_ret2
 exact ⟨congrArg (fun z => Ending.returned (.tuple #[.int .i64 z, .int .i64 0])) (by rw [<- HR.out, HXN.out, HYN.out]), hB⟩
theorem alu32_smod0 (a b : Int) (h0 : lowN 32 b = 0) (w : World) :
 Calls Tryz.prog 31 #[.int .i64 7, .bool true, .int .i64 a, .int .i64 b] w fun e w' =>
  e = .returned (.tuple #[.int .i64 0, .int .i64 84]) /\ w = w' := by
 obtain ⟨x, y, xl, yl, hua, hub, hx, hy, hxl, hyl, HXL, HYL, HXN, HYN⟩ := pre32 a b
 rw [<- HYN.out] at h0
 have hyb : ((yl : Int) == 0) = true := by simpa using h0
 clear h0
 go_enter Tryz.func31, Tryz.ntmps31
 go_wp2_with fail
 refine (low_at x xl HXL.out hx _).mono ?_
 rintro e w0 ⟨rfl, rfl⟩
 go_wp2_with fail
 refine (low_at y yl HYL.out hy _).mono ?_
 rintro e w0 ⟨rfl, rfl⟩
 go_wp2_with fail
 refine (divides_yes 7 (by decide) _).mono ?_
 rintro e w0 ⟨rfl, rfl⟩
 go_wp2
 go_ret2
 exact ⟨rfl, rfl⟩
theorem nar_or (xl yl : Nat) (hx : xl < 4294967296) (hy : yl < 4294967296) : w_or 32 xl yl = w_or 64 xl yl % 2 ^ 32 := by
 unfold w_or; exact (Nat.mod_eq_of_lt (Nat.or_lt_two_pow hx hy)).symm
theorem lt_or (xl yl : Nat) (hx : xl < 4294967296) (hy : yl < 4294967296) : w_or 64 xl yl < 18446744073709551616 := by
 unfold w_or; exact Nat.lt_of_lt_of_le (Nat.or_lt_two_pow (n := 32) hx hy) (by decide)
theorem alu32_or (a b : Int) (w : World) :
 Calls Tryz.prog 31 #[.int .i64 8, .bool true, .int .i64 a, .int .i64 b] w fun e w' =>
  e = .returned (.tuple #[.int .i64 ((w_or 32 (lowN 32 a) (lowN 32 b) : Nat) : Int), .int .i64 0]) /\ Below w.heap.size w w' := by
 obtain ⟨x, y, xl, yl, hua, hub, hx, hy, hxl, hyl, HXL, HYL, HXN, HYN⟩ := pre32 a b
 have HEQ := Lib.hid (nar_or xl yl hxl hyl)
 have HLT := Lib.hid (lt_or xl yl hxl hyl)
 have HW := Lib.hid (show w_or 32 xl yl < 4294967296 by rw [HEQ.out]; exact Nat.mod_lt _ (by decide))
 obtain ⟨c0, hyb⟩ : ∃ c, ((yl : Int) == 0) = c := ⟨_, rfl⟩
 cases c0
 all_goals
  go_enter Tryz.func31, Tryz.ntmps31
  go_wp2_with fail
  refine (low_at x xl HXL.out hx _).mono ?_
  rintro e w0 ⟨rfl, rfl⟩
  go_wp2_with fail
  refine (low_at y yl HYL.out hy _).mono ?_
  rintro e w0 ⟨rfl, rfl⟩
  go_wp2_with fail
  first | (go_at_call 59; refine (wide_any _).mono ?_) | (go_at_call 58; refine (divides_no 8 (by decide) _).mono ?_; rintro e w0 ⟨rfl, rfl⟩; go_wp2_with fail; refine (wide_any _).mono ?_)
  rintro e w1 ⟨bm, rfl, hbm, hBm⟩
  have hl := wide_look8 w1 bm hbm false
  rw [if_neg (by decide)] at hl
  have hs := hBm.size
  go_wp2_with fail
  refine (narrow_any _).mono ?_
  rintro e w2 ⟨bn, rfl, hbn, hBn⟩
  have hln := narrow_look8 w2 bn hbn true
  rw [if_pos rfl] at hln
  have hB := hBm.trans (hBn.mono hs)
  clear hBm hBn hs
  go_wp2_with fail
  refine (Or_any xl yl (by omega) (by omega) _).mono ?_
  rintro e w3 ⟨rfl, rfl⟩
  have hlt := HLT.out
  have heq := HEQ.out
  generalize hr : w_or 64 xl yl = r at hlt heq
  have HE := Lib.hid heq
  have HR := Lib.hid hr
  clear heq hr
  go_wp2_with fail
  refine (low_at r (w_or 32 xl yl) HE.out hlt _).mono ?_
  rintro e w4 ⟨rfl, rfl⟩
  have hw := HW.out
  obtain ⟨v, hv⟩ : ∃ v, v = w_or 32 xl yl := ⟨_, rfl⟩
  rw [<- hv] at hw ⊢
  have HV := Lib.hid hv
  clear hv
  go_wp2
  go_ret2
  exact ⟨congrArg (fun z => Ending.returned (.tuple #[.int .i64 z, .int .i64 0])) (by rw [HV.out, HXN.out, HYN.out]), hB⟩
theorem nar_and (xl yl : Nat) (hx : xl < 4294967296) (hy : yl < 4294967296) : w_and 32 xl yl = w_and 64 xl yl % 2 ^ 32 := by
 unfold w_and; exact (Nat.mod_eq_of_lt (Nat.and_lt_two_pow _ hy)).symm
theorem lt_and (xl yl : Nat) (hx : xl < 4294967296) (hy : yl < 4294967296) : w_and 64 xl yl < 18446744073709551616 := by
 unfold w_and; exact Nat.lt_of_lt_of_le (Nat.and_lt_two_pow (n := 32) _ hy) (by decide)
theorem alu32_and (a b : Int) (w : World) :
 Calls Tryz.prog 31 #[.int .i64 9, .bool true, .int .i64 a, .int .i64 b] w fun e w' =>
  e = .returned (.tuple #[.int .i64 ((w_and 32 (lowN 32 a) (lowN 32 b) : Nat) : Int), .int .i64 0]) /\ Below w.heap.size w w' := by
 obtain ⟨x, y, xl, yl, hua, hub, hx, hy, hxl, hyl, HXL, HYL, HXN, HYN⟩ := pre32 a b
 have HEQ := Lib.hid (nar_and xl yl hxl hyl)
 have HLT := Lib.hid (lt_and xl yl hxl hyl)
 have HW := Lib.hid (show w_and 32 xl yl < 4294967296 by rw [HEQ.out]; exact Nat.mod_lt _ (by decide))
 obtain ⟨c0, hyb⟩ : ∃ c, ((yl : Int) == 0) = c := ⟨_, rfl⟩
 cases c0
 all_goals
  go_enter Tryz.func31, Tryz.ntmps31
  go_wp2_with fail
  refine (low_at x xl HXL.out hx _).mono ?_
  rintro e w0 ⟨rfl, rfl⟩
  go_wp2_with fail
  refine (low_at y yl HYL.out hy _).mono ?_
  rintro e w0 ⟨rfl, rfl⟩
  go_wp2_with fail
  first | (go_at_call 59; refine (wide_any _).mono ?_) | (go_at_call 58; refine (divides_no 9 (by decide) _).mono ?_; rintro e w0 ⟨rfl, rfl⟩; go_wp2_with fail; refine (wide_any _).mono ?_)
  rintro e w1 ⟨bm, rfl, hbm, hBm⟩
  have hl := wide_look9 w1 bm hbm false
  rw [if_neg (by decide)] at hl
  have hs := hBm.size
  go_wp2_with fail
  refine (narrow_any _).mono ?_
  rintro e w2 ⟨bn, rfl, hbn, hBn⟩
  have hln := narrow_look9 w2 bn hbn true
  rw [if_pos rfl] at hln
  have hB := hBm.trans (hBn.mono hs)
  clear hBm hBn hs
  go_wp2_with fail
  refine (And_any xl yl (by omega) (by omega) _).mono ?_
  rintro e w3 ⟨rfl, rfl⟩
  have hlt := HLT.out
  have heq := HEQ.out
  generalize hr : w_and 64 xl yl = r at hlt heq
  have HE := Lib.hid heq
  have HR := Lib.hid hr
  clear heq hr
  go_wp2_with fail
  refine (low_at r (w_and 32 xl yl) HE.out hlt _).mono ?_
  rintro e w4 ⟨rfl, rfl⟩
  have hw := HW.out
  obtain ⟨v, hv⟩ : ∃ v, v = w_and 32 xl yl := ⟨_, rfl⟩
  rw [<- hv] at hw ⊢
  have HV := Lib.hid hv
  clear hv
  go_wp2
  go_ret2
  exact ⟨congrArg (fun z => Ending.returned (.tuple #[.int .i64 z, .int .i64 0])) (by rw [HV.out, HXN.out, HYN.out]), hB⟩
theorem nar_xor (xl yl : Nat) (hx : xl < 4294967296) (hy : yl < 4294967296) : w_xor 32 xl yl = w_xor 64 xl yl % 2 ^ 32 := by
 unfold w_xor; exact (Nat.mod_eq_of_lt (Nat.xor_lt_two_pow hx hy)).symm
theorem lt_xor (xl yl : Nat) (hx : xl < 4294967296) (hy : yl < 4294967296) : w_xor 64 xl yl < 18446744073709551616 := by
 unfold w_xor; exact Nat.lt_of_lt_of_le (Nat.xor_lt_two_pow (n := 32) hx hy) (by decide)
theorem alu32_xor (a b : Int) (w : World) :
 Calls Tryz.prog 31 #[.int .i64 10, .bool true, .int .i64 a, .int .i64 b] w fun e w' =>
  e = .returned (.tuple #[.int .i64 ((w_xor 32 (lowN 32 a) (lowN 32 b) : Nat) : Int), .int .i64 0]) /\ Below w.heap.size w w' := by
 obtain ⟨x, y, xl, yl, hua, hub, hx, hy, hxl, hyl, HXL, HYL, HXN, HYN⟩ := pre32 a b
 have HEQ := Lib.hid (nar_xor xl yl hxl hyl)
 have HLT := Lib.hid (lt_xor xl yl hxl hyl)
 have HW := Lib.hid (show w_xor 32 xl yl < 4294967296 by rw [HEQ.out]; exact Nat.mod_lt _ (by decide))
 obtain ⟨c0, hyb⟩ : ∃ c, ((yl : Int) == 0) = c := ⟨_, rfl⟩
 cases c0
 all_goals
  go_enter Tryz.func31, Tryz.ntmps31
  go_wp2_with fail
  refine (low_at x xl HXL.out hx _).mono ?_
  rintro e w0 ⟨rfl, rfl⟩
  go_wp2_with fail
  refine (low_at y yl HYL.out hy _).mono ?_
  rintro e w0 ⟨rfl, rfl⟩
  go_wp2_with fail
  first | (go_at_call 59; refine (wide_any _).mono ?_) | (go_at_call 58; refine (divides_no 10 (by decide) _).mono ?_; rintro e w0 ⟨rfl, rfl⟩; go_wp2_with fail; refine (wide_any _).mono ?_)
  rintro e w1 ⟨bm, rfl, hbm, hBm⟩
  have hl := wide_look10 w1 bm hbm false
  rw [if_neg (by decide)] at hl
  have hs := hBm.size
  go_wp2_with fail
  refine (narrow_any _).mono ?_
  rintro e w2 ⟨bn, rfl, hbn, hBn⟩
  have hln := narrow_look10 w2 bn hbn true
  rw [if_pos rfl] at hln
  have hB := hBm.trans (hBn.mono hs)
  clear hBm hBn hs
  go_wp2_with fail
  refine (Xor_any xl yl (by omega) (by omega) _).mono ?_
  rintro e w3 ⟨rfl, rfl⟩
  have hlt := HLT.out
  have heq := HEQ.out
  generalize hr : w_xor 64 xl yl = r at hlt heq
  have HE := Lib.hid heq
  have HR := Lib.hid hr
  clear heq hr
  go_wp2_with fail
  refine (low_at r (w_xor 32 xl yl) HE.out hlt _).mono ?_
  rintro e w4 ⟨rfl, rfl⟩
  have hw := HW.out
  obtain ⟨v, hv⟩ : ∃ v, v = w_xor 32 xl yl := ⟨_, rfl⟩
  rw [<- hv] at hw ⊢
  have HV := Lib.hid hv
  clear hv
  go_wp2
  go_ret2
  exact ⟨congrArg (fun z => Ending.returned (.tuple #[.int .i64 z, .int .i64 0])) (by rw [HV.out, HXN.out, HYN.out]), hB⟩
theorem nar_lsh (xl yl : Nat) (hx : xl < 4294967296) (hy : yl < 4294967296) : w_lsh 32 xl yl = xl * 2 ^ (yl % 32) % 2 ^ 64 % 2 ^ 32 := by
 unfold w_lsh; exact (Nat.mod_mod_of_dvd _ (by decide)).symm
theorem lt_lsh (xl yl : Nat) (hx : xl < 4294967296) (hy : yl < 4294967296) : xl * 2 ^ (yl % 32) % 2 ^ 64 < 18446744073709551616 := by
 exact Nat.lt_of_lt_of_le (Nat.mod_lt _ (Nat.two_pow_pos 64)) (by decide)
theorem alu32_lsh (a b : Int) (w : World) :
 Calls Tryz.prog 31 #[.int .i64 11, .bool true, .int .i64 a, .int .i64 b] w fun e w' =>
  e = .returned (.tuple #[.int .i64 ((w_lsh 32 (lowN 32 a) (lowN 32 b) : Nat) : Int), .int .i64 0]) /\ Below w.heap.size w w' := by
 obtain ⟨x, y, xl, yl, hua, hub, hx, hy, hxl, hyl, HXL, HYL, HXN, HYN⟩ := pre32 a b
 have HEQ := Lib.hid (nar_lsh xl yl hxl hyl)
 have HLT := Lib.hid (lt_lsh xl yl hxl hyl)
 have HW := Lib.hid (show w_lsh 32 xl yl < 4294967296 by rw [HEQ.out]; exact Nat.mod_lt _ (by decide))
 obtain ⟨c0, hyb⟩ : ∃ c, ((yl : Int) == 0) = c := ⟨_, rfl⟩
 cases c0
 all_goals
  go_enter Tryz.func31, Tryz.ntmps31
  go_wp2_with fail
  refine (low_at x xl HXL.out hx _).mono ?_
  rintro e w0 ⟨rfl, rfl⟩
  go_wp2_with fail
  refine (low_at y yl HYL.out hy _).mono ?_
  rintro e w0 ⟨rfl, rfl⟩
  go_wp2_with fail
  first | (go_at_call 59; refine (wide_any _).mono ?_) | (go_at_call 58; refine (divides_no 11 (by decide) _).mono ?_; rintro e w0 ⟨rfl, rfl⟩; go_wp2_with fail; refine (wide_any _).mono ?_)
  rintro e w1 ⟨bm, rfl, hbm, hBm⟩
  have hl := wide_look11 w1 bm hbm false
  rw [if_neg (by decide)] at hl
  have hs := hBm.size
  go_wp2_with fail
  refine (narrow_any _).mono ?_
  rintro e w2 ⟨bn, rfl, hbn, hBn⟩
  have hln := narrow_look11 w2 bn hbn true
  rw [if_pos rfl] at hln
  have hB := hBm.trans (hBn.mono hs)
  clear hBm hBn hs
  go_wp2_with fail
  refine (Lsh32_any xl yl hxl hyl _).mono ?_
  rintro e w3 ⟨rfl, rfl⟩
  have hlt := HLT.out
  have heq := HEQ.out
  generalize hr : xl * 2 ^ (yl % 32) % 2 ^ 64 = r at hlt heq
  have HE := Lib.hid heq
  have HR := Lib.hid hr
  clear heq hr
  go_wp2_with fail
  refine (low_at r (w_lsh 32 xl yl) HE.out hlt _).mono ?_
  rintro e w4 ⟨rfl, rfl⟩
  have hw := HW.out
  obtain ⟨v, hv⟩ : ∃ v, v = w_lsh 32 xl yl := ⟨_, rfl⟩
  rw [<- hv] at hw ⊢
  have HV := Lib.hid hv
  clear hv
  go_wp2
  go_ret2
  exact ⟨congrArg (fun z => Ending.returned (.tuple #[.int .i64 z, .int .i64 0])) (by rw [HV.out, HXN.out, HYN.out]), hB⟩
theorem nar_rsh (xl yl : Nat) (hx : xl < 4294967296) (hy : yl < 4294967296) : w_rsh 32 xl yl = w_rsh 32 xl yl % 2 ^ 32 := by
 unfold w_rsh; have := Nat.div_le_self xl (2 ^ (yl % 32)); exact (Nat.mod_eq_of_lt (show xl / 2 ^ (yl % 32) < 2 ^ 32 by omega)).symm
theorem lt_rsh (xl yl : Nat) (hx : xl < 4294967296) (hy : yl < 4294967296) : w_rsh 32 xl yl < 18446744073709551616 := by
 unfold w_rsh; have := Nat.div_le_self xl (2 ^ (yl % 32)); omega
theorem alu32_rsh (a b : Int) (w : World) :
 Calls Tryz.prog 31 #[.int .i64 12, .bool true, .int .i64 a, .int .i64 b] w fun e w' =>
  e = .returned (.tuple #[.int .i64 ((w_rsh 32 (lowN 32 a) (lowN 32 b) : Nat) : Int), .int .i64 0]) /\ Below w.heap.size w w' := by
 obtain ⟨x, y, xl, yl, hua, hub, hx, hy, hxl, hyl, HXL, HYL, HXN, HYN⟩ := pre32 a b
 have HEQ := Lib.hid (nar_rsh xl yl hxl hyl)
 have HLT := Lib.hid (lt_rsh xl yl hxl hyl)
 have HW := Lib.hid (show w_rsh 32 xl yl < 4294967296 by rw [HEQ.out]; exact Nat.mod_lt _ (by decide))
 obtain ⟨c0, hyb⟩ : ∃ c, ((yl : Int) == 0) = c := ⟨_, rfl⟩
 cases c0
 all_goals
  go_enter Tryz.func31, Tryz.ntmps31
  go_wp2_with fail
  refine (low_at x xl HXL.out hx _).mono ?_
  rintro e w0 ⟨rfl, rfl⟩
  go_wp2_with fail
  refine (low_at y yl HYL.out hy _).mono ?_
  rintro e w0 ⟨rfl, rfl⟩
  go_wp2_with fail
  first | (go_at_call 59; refine (wide_any _).mono ?_) | (go_at_call 58; refine (divides_no 12 (by decide) _).mono ?_; rintro e w0 ⟨rfl, rfl⟩; go_wp2_with fail; refine (wide_any _).mono ?_)
  rintro e w1 ⟨bm, rfl, hbm, hBm⟩
  have hl := wide_look12 w1 bm hbm false
  rw [if_neg (by decide)] at hl
  have hs := hBm.size
  go_wp2_with fail
  refine (narrow_any _).mono ?_
  rintro e w2 ⟨bn, rfl, hbn, hBn⟩
  have hln := narrow_look12 w2 bn hbn true
  rw [if_pos rfl] at hln
  have hB := hBm.trans (hBn.mono hs)
  clear hBm hBn hs
  go_wp2_with fail
  refine (Rsh32_any xl yl hxl hyl _).mono ?_
  rintro e w3 ⟨rfl, rfl⟩
  have hlt := HLT.out
  have heq := HEQ.out
  generalize hr : w_rsh 32 xl yl = r at hlt heq
  have HE := Lib.hid heq
  have HR := Lib.hid hr
  clear heq hr
  go_wp2_with fail
  refine (low_at r r HE.out hlt _).mono ?_
  rintro e w4 ⟨rfl, rfl⟩
  have hw := HW.out
  rw [HR.out] at hw
  go_wp2
  go_ret2
  exact ⟨congrArg (fun z => Ending.returned (.tuple #[.int .i64 z, .int .i64 0])) (by rw [<- HR.out, HXN.out, HYN.out]), hB⟩
theorem nar_arsh (xl yl : Nat) (hx : xl < 4294967296) (hy : yl < 4294967296) : w_arsh 32 xl yl = w_arsh 32 xl yl % 2 ^ 32 := by
 unfold w_arsh; exact toNat_mod _
theorem lt_arsh (xl yl : Nat) (hx : xl < 4294967296) (hy : yl < 4294967296) : w_arsh 32 xl yl < 18446744073709551616 := by
 unfold w_arsh; exact toNat_lt _
theorem alu32_arsh (a b : Int) (w : World) :
 Calls Tryz.prog 31 #[.int .i64 13, .bool true, .int .i64 a, .int .i64 b] w fun e w' =>
  e = .returned (.tuple #[.int .i64 ((w_arsh 32 (lowN 32 a) (lowN 32 b) : Nat) : Int), .int .i64 0]) /\ Below w.heap.size w w' := by
 obtain ⟨x, y, xl, yl, hua, hub, hx, hy, hxl, hyl, HXL, HYL, HXN, HYN⟩ := pre32 a b
 have HEQ := Lib.hid (nar_arsh xl yl hxl hyl)
 have HLT := Lib.hid (lt_arsh xl yl hxl hyl)
 have HW := Lib.hid (show w_arsh 32 xl yl < 4294967296 by rw [HEQ.out]; exact Nat.mod_lt _ (by decide))
 obtain ⟨c0, hyb⟩ : ∃ c, ((yl : Int) == 0) = c := ⟨_, rfl⟩
 cases c0
 all_goals
  go_enter Tryz.func31, Tryz.ntmps31
  go_wp2_with fail
  refine (low_at x xl HXL.out hx _).mono ?_
  rintro e w0 ⟨rfl, rfl⟩
  go_wp2_with fail
  refine (low_at y yl HYL.out hy _).mono ?_
  rintro e w0 ⟨rfl, rfl⟩
  go_wp2_with fail
  first | (go_at_call 59; refine (wide_any _).mono ?_) | (go_at_call 58; refine (divides_no 13 (by decide) _).mono ?_; rintro e w0 ⟨rfl, rfl⟩; go_wp2_with fail; refine (wide_any _).mono ?_)
  rintro e w1 ⟨bm, rfl, hbm, hBm⟩
  have hl := wide_look13 w1 bm hbm false
  rw [if_neg (by decide)] at hl
  have hs := hBm.size
  go_wp2_with fail
  refine (narrow_any _).mono ?_
  rintro e w2 ⟨bn, rfl, hbn, hBn⟩
  have hln := narrow_look13 w2 bn hbn true
  rw [if_pos rfl] at hln
  have hB := hBm.trans (hBn.mono hs)
  clear hBm hBn hs
  go_wp2_with fail
  refine (Arsh32_any xl yl hxl hyl _).mono ?_
  rintro e w3 ⟨rfl, rfl⟩
  have hlt := HLT.out
  have heq := HEQ.out
  generalize hr : w_arsh 32 xl yl = r at hlt heq
  have HE := Lib.hid heq
  have HR := Lib.hid hr
  clear heq hr
  go_wp2_with fail
  refine (low_at r r HE.out hlt _).mono ?_
  rintro e w4 ⟨rfl, rfl⟩
  have hw := HW.out
  rw [HR.out] at hw
  go_wp2
  go_ret2
  exact ⟨congrArg (fun z => Ending.returned (.tuple #[.int .i64 z, .int .i64 0])) (by rw [<- HR.out, HXN.out, HYN.out]), hB⟩
theorem nar_neg (xl yl : Nat) (hx : xl < 4294967296) (hy : yl < 4294967296) : w_neg 32 xl yl = w_neg 64 xl yl % 2 ^ 32 := by
 unfold w_neg; omega
theorem lt_neg (xl yl : Nat) (hx : xl < 4294967296) (hy : yl < 4294967296) : w_neg 64 xl yl < 18446744073709551616 := by
 unfold w_neg; exact Nat.lt_of_lt_of_le (Nat.mod_lt _ (Nat.two_pow_pos 64)) (by decide)
theorem alu32_neg (a b : Int) (w : World) :
 Calls Tryz.prog 31 #[.int .i64 14, .bool true, .int .i64 a, .int .i64 b] w fun e w' =>
  e = .returned (.tuple #[.int .i64 ((w_neg 32 (lowN 32 a) (lowN 32 b) : Nat) : Int), .int .i64 0]) /\ Below w.heap.size w w' := by
 obtain ⟨x, y, xl, yl, hua, hub, hx, hy, hxl, hyl, HXL, HYL, HXN, HYN⟩ := pre32 a b
 have HEQ := Lib.hid (nar_neg xl yl hxl hyl)
 have HLT := Lib.hid (lt_neg xl yl hxl hyl)
 have HW := Lib.hid (show w_neg 32 xl yl < 4294967296 by rw [HEQ.out]; exact Nat.mod_lt _ (by decide))
 obtain ⟨c0, hyb⟩ : ∃ c, ((yl : Int) == 0) = c := ⟨_, rfl⟩
 cases c0
 all_goals
  go_enter Tryz.func31, Tryz.ntmps31
  go_wp2_with fail
  refine (low_at x xl HXL.out hx _).mono ?_
  rintro e w0 ⟨rfl, rfl⟩
  go_wp2_with fail
  refine (low_at y yl HYL.out hy _).mono ?_
  rintro e w0 ⟨rfl, rfl⟩
  go_wp2_with fail
  first | (go_at_call 59; refine (wide_any _).mono ?_) | (go_at_call 58; refine (divides_no 14 (by decide) _).mono ?_; rintro e w0 ⟨rfl, rfl⟩; go_wp2_with fail; refine (wide_any _).mono ?_)
  rintro e w1 ⟨bm, rfl, hbm, hBm⟩
  have hl := wide_look14 w1 bm hbm false
  rw [if_neg (by decide)] at hl
  have hs := hBm.size
  go_wp2_with fail
  refine (narrow_any _).mono ?_
  rintro e w2 ⟨bn, rfl, hbn, hBn⟩
  have hln := narrow_look14 w2 bn hbn true
  rw [if_pos rfl] at hln
  have hB := hBm.trans (hBn.mono hs)
  clear hBm hBn hs
  go_wp2_with fail
  refine (Neg_any xl yl (by omega) (by omega) _).mono ?_
  rintro e w3 ⟨rfl, rfl⟩
  have hlt := HLT.out
  have heq := HEQ.out
  generalize hr : w_neg 64 xl yl = r at hlt heq
  have HE := Lib.hid heq
  have HR := Lib.hid hr
  clear heq hr
  go_wp2_with fail
  refine (low_at r (w_neg 32 xl yl) HE.out hlt _).mono ?_
  rintro e w4 ⟨rfl, rfl⟩
  have hw := HW.out
  obtain ⟨v, hv⟩ : ∃ v, v = w_neg 32 xl yl := ⟨_, rfl⟩
  rw [<- hv] at hw ⊢
  have HV := Lib.hid hv
  clear hv
  go_wp2
  go_ret2
  exact ⟨congrArg (fun z => Ending.returned (.tuple #[.int .i64 z, .int .i64 0])) (by rw [HV.out, HXN.out, HYN.out]), hB⟩
theorem nar_mov (xl yl : Nat) (hx : xl < 4294967296) (hy : yl < 4294967296) : w_mov 32 xl yl = w_mov 64 xl yl % 2 ^ 32 := by
 unfold w_mov; omega
theorem lt_mov (xl yl : Nat) (hx : xl < 4294967296) (hy : yl < 4294967296) : w_mov 64 xl yl < 18446744073709551616 := by
 unfold w_mov; omega
theorem alu32_mov (a b : Int) (w : World) :
 Calls Tryz.prog 31 #[.int .i64 15, .bool true, .int .i64 a, .int .i64 b] w fun e w' =>
  e = .returned (.tuple #[.int .i64 ((w_mov 32 (lowN 32 a) (lowN 32 b) : Nat) : Int), .int .i64 0]) /\ Below w.heap.size w w' := by
 obtain ⟨x, y, xl, yl, hua, hub, hx, hy, hxl, hyl, HXL, HYL, HXN, HYN⟩ := pre32 a b
 have HEQ := Lib.hid (nar_mov xl yl hxl hyl)
 have HLT := Lib.hid (lt_mov xl yl hxl hyl)
 have HW := Lib.hid (show w_mov 32 xl yl < 4294967296 by rw [HEQ.out]; exact Nat.mod_lt _ (by decide))
 obtain ⟨c0, hyb⟩ : ∃ c, ((yl : Int) == 0) = c := ⟨_, rfl⟩
 cases c0
 all_goals
  go_enter Tryz.func31, Tryz.ntmps31
  go_wp2_with fail
  refine (low_at x xl HXL.out hx _).mono ?_
  rintro e w0 ⟨rfl, rfl⟩
  go_wp2_with fail
  refine (low_at y yl HYL.out hy _).mono ?_
  rintro e w0 ⟨rfl, rfl⟩
  go_wp2_with fail
  first | (go_at_call 59; refine (wide_any _).mono ?_) | (go_at_call 58; refine (divides_no 15 (by decide) _).mono ?_; rintro e w0 ⟨rfl, rfl⟩; go_wp2_with fail; refine (wide_any _).mono ?_)
  rintro e w1 ⟨bm, rfl, hbm, hBm⟩
  have hl := wide_look15 w1 bm hbm false
  rw [if_neg (by decide)] at hl
  have hs := hBm.size
  go_wp2_with fail
  refine (narrow_any _).mono ?_
  rintro e w2 ⟨bn, rfl, hbn, hBn⟩
  have hln := narrow_look15 w2 bn hbn true
  rw [if_pos rfl] at hln
  have hB := hBm.trans (hBn.mono hs)
  clear hBm hBn hs
  go_wp2_with fail
  refine (Mov_any xl yl (by omega) (by omega) _).mono ?_
  rintro e w3 ⟨rfl, rfl⟩
  have hlt := HLT.out
  have heq := HEQ.out
  generalize hr : w_mov 64 xl yl = r at hlt heq
  have HE := Lib.hid heq
  have HR := Lib.hid hr
  clear heq hr
  go_wp2_with fail
  refine (low_at r (w_mov 32 xl yl) HE.out hlt _).mono ?_
  rintro e w4 ⟨rfl, rfl⟩
  have hw := HW.out
  obtain ⟨v, hv⟩ : ∃ v, v = w_mov 32 xl yl := ⟨_, rfl⟩
  rw [<- hv] at hw ⊢
  have HV := Lib.hid hv
  clear hv
  go_wp2
  go_ret2
  exact ⟨congrArg (fun z => Ending.returned (.tuple #[.int .i64 z, .int .i64 0])) (by rw [HV.out, HXN.out, HYN.out]), hB⟩
end Go.Proofs.YtcmplcdbkoodpaaGreatDoor
