import Derived.Test.YtdepknffpnnmmaaGreatJ0b
set_option maxHeartbeats 800000
namespace Go.Proofs.YtdepknffpnnmmaaGreat
open Go.RowKit
set_option linter.unusedVariables false
theorem u64_un (a:Int):IntKind.u64.wrap a = ((un a:Nat):Int):=by rw [IntKind.wrap_u64,un_cast]
theorem low_at (x xl:Nat) (h:xl = x % 2 ^ 32) (hx:x < 18446744073709551616) (w:World):Calls Tryz.prog 105 #[.int .u64 x] w fun e w'=>e = .returned (.int .u64 (xl:Int))/\w = w':=by
 subst h;exact low_any x hx w
theorem pre64 (a b:Int):∃ x y:Nat,IntKind.u64.wrap a = (x:Int)/\IntKind.u64.wrap b = (y:Int)/\x < 18446744073709551616/\y < 18446744073709551616/\Hid (x = un a)/\Hid (y = un b):=
 ⟨un a,un b,u64_un a,u64_un b,un_lt a,un_lt b,Lib.hid rfl,Lib.hid rfl⟩
theorem pre32 (a b:Int):∃ x y xl yl:Nat,IntKind.u64.wrap a = (x:Int)/\IntKind.u64.wrap b = (y:Int)/\x < 18446744073709551616/\y < 18446744073709551616/\xl < 4294967296/\yl < 4294967296/\Hid (xl = x % 2 ^ 32)/\Hid (yl = y % 2 ^ 32)/\Hid (xl = lowN 32 a)/\Hid (yl = lowN 32 b):=
 ⟨un a,un b,lowN 32 a,lowN 32 b,u64_un a,u64_un b,un_lt a,un_lt b,lowN_lt 32 a,lowN_lt 32 b,Lib.hid rfl,Lib.hid rfl,Lib.hid rfl,Lib.hid rfl⟩
theorem divides_yes (op:Int) (h:4 <= op/\op <= 7) (w:World):Calls Tryz.prog 106 #[.int .i64 op] w fun e w'=>e = .returned (.bool true)/\w = w':=by
 obtain ⟨h1,h2⟩:=h
 go_enter Tryz.func106,Tryz.ntmps106
 go_wp2
 go_ret
 exact ⟨rfl,rfl⟩
theorem divides_no (op:Int) (h:op < 4\/7 < op) (w:World):Calls Tryz.prog 106 #[.int .i64 op] w fun e w'=>e = .returned (.bool false)/\w = w':=by
 rcases h with h | h
 ·go_enter Tryz.func106,Tryz.ntmps106
  go_wp2
  go_ret
  exact ⟨rfl,rfl⟩
 ·have h':4 <= op:=by omega
  have hd:decide (op <= 7) = false:=by simpa using h
  go_enter Tryz.func106,Tryz.ntmps106
  go_wp2
  go_ret
  exact ⟨rfl,rfl⟩
theorem alu64_add (a b:Int) (w:World) :
 Calls Tryz.prog 83 #[.int .i64 1,.bool false,.int .i64 a,.int .i64 b] w fun e w'=>
  e = .returned (.tuple #[.int .i64 (wrap64 ((w_add 64 (un a) (un b):Nat):Int)),.int .i64 0])/\Below w.heap.size w w':=by
 obtain ⟨x,y,hua,hub,hx,hy,HX,HYE⟩:=pre64 a b
 obtain ⟨c0,hyb⟩:∃ c,((y:Int) == 0) = c:=⟨_,rfl⟩
 cases c0
 all_goals
  go_enter Tryz.func83,Tryz.ntmps83
  go_wp2_with fail
  first | (go_at_call 107;refine (wide_any _).mono ?_) | (go_at_call 106;refine (divides_no 1 (by decide) _).mono ?_;rintro e w0 ⟨rfl,rfl⟩;go_wp2_with fail;refine (wide_any _).mono ?_)
  rintro e w1 ⟨bm,rfl,hbm,hBm⟩
  have hl:=wide_look1 w1 bm hbm false
  rw [if_neg (by decide)] at hl
  go_wp2_with fail
  refine (Add_any x y hx hy _).mono ?_
  rintro e w2 ⟨rfl,rfl⟩
  go_wp2
  go_ret2
  exact ⟨congrArg (fun z=>Ending.returned (.tuple #[.int .i64 z,.int .i64 0])) (by rw [HX.out,HYE.out]),hBm⟩
theorem alu64_sub (a b:Int) (w:World) :
 Calls Tryz.prog 83 #[.int .i64 2,.bool false,.int .i64 a,.int .i64 b] w fun e w'=>
  e = .returned (.tuple #[.int .i64 (wrap64 ((w_sub 64 (un a) (un b):Nat):Int)),.int .i64 0])/\Below w.heap.size w w':=by
 obtain ⟨x,y,hua,hub,hx,hy,HX,HYE⟩:=pre64 a b
 obtain ⟨c0,hyb⟩:∃ c,((y:Int) == 0) = c:=⟨_,rfl⟩
 cases c0
 all_goals
  go_enter Tryz.func83,Tryz.ntmps83
  go_wp2_with fail
  first | (go_at_call 107;refine (wide_any _).mono ?_) | (go_at_call 106;refine (divides_no 2 (by decide) _).mono ?_;rintro e w0 ⟨rfl,rfl⟩;go_wp2_with fail;refine (wide_any _).mono ?_)
  rintro e w1 ⟨bm,rfl,hbm,hBm⟩
  have hl:=wide_look2 w1 bm hbm false
  rw [if_neg (by decide)] at hl
  go_wp2_with fail
  refine (Sub_any x y hx hy _).mono ?_
  rintro e w2 ⟨rfl,rfl⟩
  go_wp2
  go_ret2
  exact ⟨congrArg (fun z=>Ending.returned (.tuple #[.int .i64 z,.int .i64 0])) (by rw [HX.out,HYE.out]),hBm⟩
theorem alu64_mul (a b:Int) (w:World) :
 Calls Tryz.prog 83 #[.int .i64 3,.bool false,.int .i64 a,.int .i64 b] w fun e w'=>
  e = .returned (.tuple #[.int .i64 (wrap64 ((w_mul 64 (un a) (un b):Nat):Int)),.int .i64 0])/\Below w.heap.size w w':=by
 obtain ⟨x,y,hua,hub,hx,hy,HX,HYE⟩:=pre64 a b
 obtain ⟨c0,hyb⟩:∃ c,((y:Int) == 0) = c:=⟨_,rfl⟩
 cases c0
 all_goals
  go_enter Tryz.func83,Tryz.ntmps83
  go_wp2_with fail
  first | (go_at_call 107;refine (wide_any _).mono ?_) | (go_at_call 106;refine (divides_no 3 (by decide) _).mono ?_;rintro e w0 ⟨rfl,rfl⟩;go_wp2_with fail;refine (wide_any _).mono ?_)
  rintro e w1 ⟨bm,rfl,hbm,hBm⟩
  have hl:=wide_look3 w1 bm hbm false
  rw [if_neg (by decide)] at hl
  go_wp2_with fail
  refine (Mul_any x y hx hy _).mono ?_
  rintro e w2 ⟨rfl,rfl⟩
  go_wp2
  go_ret2
  exact ⟨congrArg (fun z=>Ending.returned (.tuple #[.int .i64 z,.int .i64 0])) (by rw [HX.out,HYE.out]),hBm⟩
theorem alu64_div (a b:Int) (h0:un b ≠ 0) (w:World) :
 Calls Tryz.prog 83 #[.int .i64 4,.bool false,.int .i64 a,.int .i64 b] w fun e w'=>
  e = .returned (.tuple #[.int .i64 (wrap64 ((w_div 64 (un a) (un b):Nat):Int)),.int .i64 0])/\Below w.heap.size w w':=by
 obtain ⟨x,y,hua,hub,hx,hy,HX,HYE⟩:=pre64 a b
 rw [<- HYE.out] at h0
 have hyb:((y:Int) == 0) = false:=by simpa using h0
 have HY0:=Lib.hid h0
 clear h0
 go_enter Tryz.func83,Tryz.ntmps83
 go_wp2_with fail
 refine (wide_any _).mono ?_
 rintro e w1 ⟨bm,rfl,hbm,hBm⟩
 have hl:=wide_look4 w1 bm hbm false
 rw [if_neg (by decide)] at hl
 go_wp2_with fail
 refine (Div_any x y hx hy HY0.out _).mono ?_
 rintro e w2 ⟨rfl,rfl⟩
 go_wp2
 go_ret2
 exact ⟨congrArg (fun z=>Ending.returned (.tuple #[.int .i64 z,.int .i64 0])) (by rw [HX.out,HYE.out]),hBm⟩
theorem alu64_div0 (a b:Int) (h0:un b = 0) (w:World) :
 Calls Tryz.prog 83 #[.int .i64 4,.bool false,.int .i64 a,.int .i64 b] w fun e w'=>
  e = .returned (.tuple #[.int .i64 0,.int .i64 84])/\w = w':=by
 obtain ⟨x,y,hua,hub,hx,hy,HX,HYE⟩:=pre64 a b
 rw [<- HYE.out] at h0
 have hyb:((y:Int) == 0) = true:=by simpa using h0
 clear h0
 go_enter Tryz.func83,Tryz.ntmps83
 go_wp2_with fail
 refine (divides_yes 4 (by decide) _).mono ?_
 rintro e w0 ⟨rfl,rfl⟩
 go_wp2
 go_ret2
 exact ⟨rfl,rfl⟩
theorem alu64_mod (a b:Int) (h0:un b ≠ 0) (w:World) :
 Calls Tryz.prog 83 #[.int .i64 5,.bool false,.int .i64 a,.int .i64 b] w fun e w'=>
  e = .returned (.tuple #[.int .i64 (wrap64 ((w_mod 64 (un a) (un b):Nat):Int)),.int .i64 0])/\Below w.heap.size w w':=by
 obtain ⟨x,y,hua,hub,hx,hy,HX,HYE⟩:=pre64 a b
 rw [<- HYE.out] at h0
 have hyb:((y:Int) == 0) = false:=by simpa using h0
 have HY0:=Lib.hid h0
 clear h0
 go_enter Tryz.func83,Tryz.ntmps83
 go_wp2_with fail
 refine (wide_any _).mono ?_
 rintro e w1 ⟨bm,rfl,hbm,hBm⟩
 have hl:=wide_look5 w1 bm hbm false
 rw [if_neg (by decide)] at hl
 go_wp2_with fail
 refine (Mod_any x y hx hy HY0.out _).mono ?_
 rintro e w2 ⟨rfl,rfl⟩
 go_wp2
 go_ret2
 exact ⟨congrArg (fun z=>Ending.returned (.tuple #[.int .i64 z,.int .i64 0])) (by rw [HX.out,HYE.out]),hBm⟩
theorem alu64_mod0 (a b:Int) (h0:un b = 0) (w:World) :
 Calls Tryz.prog 83 #[.int .i64 5,.bool false,.int .i64 a,.int .i64 b] w fun e w'=>
  e = .returned (.tuple #[.int .i64 0,.int .i64 84])/\w = w':=by
 obtain ⟨x,y,hua,hub,hx,hy,HX,HYE⟩:=pre64 a b
 rw [<- HYE.out] at h0
 have hyb:((y:Int) == 0) = true:=by simpa using h0
 clear h0
 go_enter Tryz.func83,Tryz.ntmps83
 go_wp2_with fail
 refine (divides_yes 5 (by decide) _).mono ?_
 rintro e w0 ⟨rfl,rfl⟩
 go_wp2
 go_ret2
 exact ⟨rfl,rfl⟩
theorem alu64_sdiv (a b:Int) (h0:un b ≠ 0) (w:World) :
 Calls Tryz.prog 83 #[.int .i64 6,.bool false,.int .i64 a,.int .i64 b] w fun e w'=>
  e = .returned (.tuple #[.int .i64 (wrap64 ((w_sdiv 64 (un a) (un b):Nat):Int)),.int .i64 0])/\Below w.heap.size w w':=by
 obtain ⟨x,y,hua,hub,hx,hy,HX,HYE⟩:=pre64 a b
 rw [<- HYE.out] at h0
 have hyb:((y:Int) == 0) = false:=by simpa using h0
 have HY0:=Lib.hid h0
 clear h0
 go_enter Tryz.func83,Tryz.ntmps83
 go_wp2_with fail
 refine (wide_any _).mono ?_
 rintro e w1 ⟨bm,rfl,hbm,hBm⟩
 have hl:=wide_look6 w1 bm hbm false
 rw [if_neg (by decide)] at hl
 go_wp2_with fail
 refine (Sdiv_any x y hx hy HY0.out _).mono ?_
 rintro e w2 ⟨rfl,rfl⟩
 go_wp2
 go_ret2
 exact ⟨congrArg (fun z=>Ending.returned (.tuple #[.int .i64 z,.int .i64 0])) (by rw [HX.out,HYE.out]),hBm⟩
theorem alu64_sdiv0 (a b:Int) (h0:un b = 0) (w:World) :
 Calls Tryz.prog 83 #[.int .i64 6,.bool false,.int .i64 a,.int .i64 b] w fun e w'=>
  e = .returned (.tuple #[.int .i64 0,.int .i64 84])/\w = w':=by
 obtain ⟨x,y,hua,hub,hx,hy,HX,HYE⟩:=pre64 a b
 rw [<- HYE.out] at h0
 have hyb:((y:Int) == 0) = true:=by simpa using h0
 clear h0
 go_enter Tryz.func83,Tryz.ntmps83
 go_wp2_with fail
 refine (divides_yes 6 (by decide) _).mono ?_
 rintro e w0 ⟨rfl,rfl⟩
 go_wp2
 go_ret2
 exact ⟨rfl,rfl⟩
theorem alu64_smod (a b:Int) (h0:un b ≠ 0) (w:World) :
 Calls Tryz.prog 83 #[.int .i64 7,.bool false,.int .i64 a,.int .i64 b] w fun e w'=>
  e = .returned (.tuple #[.int .i64 (wrap64 ((w_smod 64 (un a) (un b):Nat):Int)),.int .i64 0])/\Below w.heap.size w w':=by
 obtain ⟨x,y,hua,hub,hx,hy,HX,HYE⟩:=pre64 a b
 rw [<- HYE.out] at h0
 have hyb:((y:Int) == 0) = false:=by simpa using h0
 have HY0:=Lib.hid h0
 clear h0
 go_enter Tryz.func83,Tryz.ntmps83
 go_wp2_with fail
 refine (wide_any _).mono ?_
 rintro e w1 ⟨bm,rfl,hbm,hBm⟩
 have hl:=wide_look7 w1 bm hbm false
 rw [if_neg (by decide)] at hl
 go_wp2_with fail
 refine (Smod_any x y hx hy HY0.out _).mono ?_
 rintro e w2 ⟨rfl,rfl⟩
 go_wp2
 go_ret2
 exact ⟨congrArg (fun z=>Ending.returned (.tuple #[.int .i64 z,.int .i64 0])) (by rw [HX.out,HYE.out]),hBm⟩
theorem alu64_smod0 (a b:Int) (h0:un b = 0) (w:World) :
 Calls Tryz.prog 83 #[.int .i64 7,.bool false,.int .i64 a,.int .i64 b] w fun e w'=>
  e = .returned (.tuple #[.int .i64 0,.int .i64 84])/\w = w':=by
 obtain ⟨x,y,hua,hub,hx,hy,HX,HYE⟩:=pre64 a b
 rw [<- HYE.out] at h0
 have hyb:((y:Int) == 0) = true:=by simpa using h0
 clear h0
 go_enter Tryz.func83,Tryz.ntmps83
 go_wp2_with fail
 refine (divides_yes 7 (by decide) _).mono ?_
 rintro e w0 ⟨rfl,rfl⟩
 go_wp2
 go_ret2
 exact ⟨rfl,rfl⟩
theorem alu64_or (a b:Int) (w:World) :
 Calls Tryz.prog 83 #[.int .i64 8,.bool false,.int .i64 a,.int .i64 b] w fun e w'=>
  e = .returned (.tuple #[.int .i64 (wrap64 ((w_or 64 (un a) (un b):Nat):Int)),.int .i64 0])/\Below w.heap.size w w':=by
 obtain ⟨x,y,hua,hub,hx,hy,HX,HYE⟩:=pre64 a b
 obtain ⟨c0,hyb⟩:∃ c,((y:Int) == 0) = c:=⟨_,rfl⟩
 cases c0
 all_goals
  go_enter Tryz.func83,Tryz.ntmps83
  go_wp2_with fail
  first | (go_at_call 107;refine (wide_any _).mono ?_) | (go_at_call 106;refine (divides_no 8 (by decide) _).mono ?_;rintro e w0 ⟨rfl,rfl⟩;go_wp2_with fail;refine (wide_any _).mono ?_)
  rintro e w1 ⟨bm,rfl,hbm,hBm⟩
  have hl:=wide_look8 w1 bm hbm false
  rw [if_neg (by decide)] at hl
  go_wp2_with fail
  refine (Or_any x y hx hy _).mono ?_
  rintro e w2 ⟨rfl,rfl⟩
  go_wp2
  go_ret2
  exact ⟨congrArg (fun z=>Ending.returned (.tuple #[.int .i64 z,.int .i64 0])) (by rw [HX.out,HYE.out]),hBm⟩
theorem alu64_and (a b:Int) (w:World) :
 Calls Tryz.prog 83 #[.int .i64 9,.bool false,.int .i64 a,.int .i64 b] w fun e w'=>
  e = .returned (.tuple #[.int .i64 (wrap64 ((w_and 64 (un a) (un b):Nat):Int)),.int .i64 0])/\Below w.heap.size w w':=by
 obtain ⟨x,y,hua,hub,hx,hy,HX,HYE⟩:=pre64 a b
 obtain ⟨c0,hyb⟩:∃ c,((y:Int) == 0) = c:=⟨_,rfl⟩
 cases c0
 all_goals
  go_enter Tryz.func83,Tryz.ntmps83
  go_wp2_with fail
  first | (go_at_call 107;refine (wide_any _).mono ?_) | (go_at_call 106;refine (divides_no 9 (by decide) _).mono ?_;rintro e w0 ⟨rfl,rfl⟩;go_wp2_with fail;refine (wide_any _).mono ?_)
  rintro e w1 ⟨bm,rfl,hbm,hBm⟩
  have hl:=wide_look9 w1 bm hbm false
  rw [if_neg (by decide)] at hl
  go_wp2_with fail
  refine (And_any x y hx hy _).mono ?_
  rintro e w2 ⟨rfl,rfl⟩
  go_wp2
  go_ret2
  exact ⟨congrArg (fun z=>Ending.returned (.tuple #[.int .i64 z,.int .i64 0])) (by rw [HX.out,HYE.out]),hBm⟩
theorem alu64_xor (a b:Int) (w:World) :
 Calls Tryz.prog 83 #[.int .i64 10,.bool false,.int .i64 a,.int .i64 b] w fun e w'=>
  e = .returned (.tuple #[.int .i64 (wrap64 ((w_xor 64 (un a) (un b):Nat):Int)),.int .i64 0])/\Below w.heap.size w w':=by
 obtain ⟨x,y,hua,hub,hx,hy,HX,HYE⟩:=pre64 a b
 obtain ⟨c0,hyb⟩:∃ c,((y:Int) == 0) = c:=⟨_,rfl⟩
 cases c0
 all_goals
  go_enter Tryz.func83,Tryz.ntmps83
  go_wp2_with fail
  first | (go_at_call 107;refine (wide_any _).mono ?_) | (go_at_call 106;refine (divides_no 10 (by decide) _).mono ?_;rintro e w0 ⟨rfl,rfl⟩;go_wp2_with fail;refine (wide_any _).mono ?_)
  rintro e w1 ⟨bm,rfl,hbm,hBm⟩
  have hl:=wide_look10 w1 bm hbm false
  rw [if_neg (by decide)] at hl
  go_wp2_with fail
  refine (Xor_any x y hx hy _).mono ?_
  rintro e w2 ⟨rfl,rfl⟩
  go_wp2
  go_ret2
  exact ⟨congrArg (fun z=>Ending.returned (.tuple #[.int .i64 z,.int .i64 0])) (by rw [HX.out,HYE.out]),hBm⟩
theorem alu64_lsh (a b:Int) (w:World) :
 Calls Tryz.prog 83 #[.int .i64 11,.bool false,.int .i64 a,.int .i64 b] w fun e w'=>
  e = .returned (.tuple #[.int .i64 (wrap64 ((w_lsh 64 (un a) (un b):Nat):Int)),.int .i64 0])/\Below w.heap.size w w':=by
 obtain ⟨x,y,hua,hub,hx,hy,HX,HYE⟩:=pre64 a b
 obtain ⟨c0,hyb⟩:∃ c,((y:Int) == 0) = c:=⟨_,rfl⟩
 cases c0
 all_goals
  go_enter Tryz.func83,Tryz.ntmps83
  go_wp2_with fail
  first | (go_at_call 107;refine (wide_any _).mono ?_) | (go_at_call 106;refine (divides_no 11 (by decide) _).mono ?_;rintro e w0 ⟨rfl,rfl⟩;go_wp2_with fail;refine (wide_any _).mono ?_)
  rintro e w1 ⟨bm,rfl,hbm,hBm⟩
  have hl:=wide_look11 w1 bm hbm false
  rw [if_neg (by decide)] at hl
  go_wp2_with fail
  refine (Lsh_any x y hx hy _).mono ?_
  rintro e w2 ⟨rfl,rfl⟩
  go_wp2
  go_ret2
  exact ⟨congrArg (fun z=>Ending.returned (.tuple #[.int .i64 z,.int .i64 0])) (by rw [HX.out,HYE.out]),hBm⟩
theorem alu64_rsh (a b:Int) (w:World) :
 Calls Tryz.prog 83 #[.int .i64 12,.bool false,.int .i64 a,.int .i64 b] w fun e w'=>
  e = .returned (.tuple #[.int .i64 (wrap64 ((w_rsh 64 (un a) (un b):Nat):Int)),.int .i64 0])/\Below w.heap.size w w':=by
 obtain ⟨x,y,hua,hub,hx,hy,HX,HYE⟩:=pre64 a b
 obtain ⟨c0,hyb⟩:∃ c,((y:Int) == 0) = c:=⟨_,rfl⟩
 cases c0
 all_goals
  go_enter Tryz.func83,Tryz.ntmps83
  go_wp2_with fail
  first | (go_at_call 107;refine (wide_any _).mono ?_) | (go_at_call 106;refine (divides_no 12 (by decide) _).mono ?_;rintro e w0 ⟨rfl,rfl⟩;go_wp2_with fail;refine (wide_any _).mono ?_)
  rintro e w1 ⟨bm,rfl,hbm,hBm⟩
  have hl:=wide_look12 w1 bm hbm false
  rw [if_neg (by decide)] at hl
  go_wp2_with fail
  refine (Rsh_any x y hx hy _).mono ?_
  rintro e w2 ⟨rfl,rfl⟩
  go_wp2
  go_ret2
  exact ⟨congrArg (fun z=>Ending.returned (.tuple #[.int .i64 z,.int .i64 0])) (by rw [HX.out,HYE.out]),hBm⟩
theorem alu64_arsh (a b:Int) (w:World) :
 Calls Tryz.prog 83 #[.int .i64 13,.bool false,.int .i64 a,.int .i64 b] w fun e w'=>
  e = .returned (.tuple #[.int .i64 (wrap64 ((w_arsh 64 (un a) (un b):Nat):Int)),.int .i64 0])/\Below w.heap.size w w':=by
 obtain ⟨x,y,hua,hub,hx,hy,HX,HYE⟩:=pre64 a b
 obtain ⟨c0,hyb⟩:∃ c,((y:Int) == 0) = c:=⟨_,rfl⟩
 cases c0
 all_goals
  go_enter Tryz.func83,Tryz.ntmps83
  go_wp2_with fail
  first | (go_at_call 107;refine (wide_any _).mono ?_) | (go_at_call 106;refine (divides_no 13 (by decide) _).mono ?_;rintro e w0 ⟨rfl,rfl⟩;go_wp2_with fail;refine (wide_any _).mono ?_)
  rintro e w1 ⟨bm,rfl,hbm,hBm⟩
  have hl:=wide_look13 w1 bm hbm false
  rw [if_neg (by decide)] at hl
  go_wp2_with fail
  refine (Arsh_any x y hx hy _).mono ?_
  rintro e w2 ⟨rfl,rfl⟩
  go_wp2
  go_ret2
  exact ⟨congrArg (fun z=>Ending.returned (.tuple #[.int .i64 z,.int .i64 0])) (by rw [HX.out,HYE.out]),hBm⟩
theorem alu64_neg (a b:Int) (w:World) :
 Calls Tryz.prog 83 #[.int .i64 14,.bool false,.int .i64 a,.int .i64 b] w fun e w'=>
  e = .returned (.tuple #[.int .i64 (wrap64 ((w_neg 64 (un a) (un b):Nat):Int)),.int .i64 0])/\Below w.heap.size w w':=by
 obtain ⟨x,y,hua,hub,hx,hy,HX,HYE⟩:=pre64 a b
 obtain ⟨c0,hyb⟩:∃ c,((y:Int) == 0) = c:=⟨_,rfl⟩
 cases c0
 all_goals
  go_enter Tryz.func83,Tryz.ntmps83
  go_wp2_with fail
  first | (go_at_call 107;refine (wide_any _).mono ?_) | (go_at_call 106;refine (divides_no 14 (by decide) _).mono ?_;rintro e w0 ⟨rfl,rfl⟩;go_wp2_with fail;refine (wide_any _).mono ?_)
  rintro e w1 ⟨bm,rfl,hbm,hBm⟩
  have hl:=wide_look14 w1 bm hbm false
  rw [if_neg (by decide)] at hl
  go_wp2_with fail
  refine (Neg_any x y hx hy _).mono ?_
  rintro e w2 ⟨rfl,rfl⟩
  go_wp2
  go_ret2
  exact ⟨congrArg (fun z=>Ending.returned (.tuple #[.int .i64 z,.int .i64 0])) (by rw [HX.out,HYE.out]),hBm⟩
theorem alu64_mov (a b:Int) (w:World) :
 Calls Tryz.prog 83 #[.int .i64 15,.bool false,.int .i64 a,.int .i64 b] w fun e w'=>
  e = .returned (.tuple #[.int .i64 (wrap64 ((w_mov 64 (un a) (un b):Nat):Int)),.int .i64 0])/\Below w.heap.size w w':=by
 obtain ⟨x,y,hua,hub,hx,hy,HX,HYE⟩:=pre64 a b
 obtain ⟨c0,hyb⟩:∃ c,((y:Int) == 0) = c:=⟨_,rfl⟩
 cases c0
 all_goals
  go_enter Tryz.func83,Tryz.ntmps83
  go_wp2_with fail
  first | (go_at_call 107;refine (wide_any _).mono ?_) | (go_at_call 106;refine (divides_no 15 (by decide) _).mono ?_;rintro e w0 ⟨rfl,rfl⟩;go_wp2_with fail;refine (wide_any _).mono ?_)
  rintro e w1 ⟨bm,rfl,hbm,hBm⟩
  have hl:=wide_look15 w1 bm hbm false
  rw [if_neg (by decide)] at hl
  go_wp2_with fail
  refine (Mov_any x y hx hy _).mono ?_
  rintro e w2 ⟨rfl,rfl⟩
  go_wp2
  go_ret2
  exact ⟨congrArg (fun z=>Ending.returned (.tuple #[.int .i64 z,.int .i64 0])) (by rw [HX.out,HYE.out]),hBm⟩
end Go.Proofs.YtdepknffpnnmmaaGreat
