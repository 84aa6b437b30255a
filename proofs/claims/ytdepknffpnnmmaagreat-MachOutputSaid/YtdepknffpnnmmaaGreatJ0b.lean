import Derived.Test.YtdepknffpnnmmaaGreatJ0a
import Derived.Laws.CopyOwn
import Derived.StillTailTactics
import Derived.Deep.QuietTactic
import Derived.BigQuiet
import Derived.Deep.RegionHeld3
import Derived.Outline
import Derived.Test.YtdepknffpnnmmaaGreatRows
import Derived.Lib.Hide
import Derived.Defers
import Derived.Laws.LoneSync
import Derived.RegionCalls
import Derived.ChangeAlike
set_option maxRecDepth 100000
set_option maxHeartbeats 1600000
namespace Go.Proofs.YtdepknffpnnmmaaGreat
open Go.RowKit
set_option linter.unusedVariables false
def w_add (n x y:Nat):Nat:=(x + y) % 2 ^ n
def w_sub (n x y:Nat):Nat:=(x + (2 ^ n - y)) % 2 ^ n
def w_mul (n x y:Nat):Nat:=x * y % 2 ^ n
def w_div (n x y:Nat):Nat:=x / y
def w_mod (n x y:Nat):Nat:=x % y
def w_sdiv (n x y:Nat):Nat:=((sgn n x).tdiv (sgn n y) % 2 ^ n).toNat
def w_smod (n x y:Nat):Nat:=((sgn n x).tmod (sgn n y) % 2 ^ n).toNat
def w_or (n x y:Nat):Nat:=x ||| y
def w_and (n x y:Nat):Nat:=x &&& y
def w_xor (n x y:Nat):Nat:=x ^^^ y
def w_lsh (n x y:Nat):Nat:=x * 2 ^ (y % n) % 2 ^ n
def w_rsh (n x y:Nat):Nat:=x / 2 ^ (y % n)
def w_arsh (n x y:Nat):Nat:=(sgn n x / 2 ^ (y % n) % 2 ^ n).toNat
def w_neg (n x y:Nat):Nat:=(2 ^ n - x) % 2 ^ n
def w_mov (n x y:Nat):Nat:=y
theorem mask63 (y:Nat) (hy:y < 18446744073709551616):bits BinOp.and IntKind.u64 (y:Int) 63 = ((y % 64:Nat):Int):=by
 have:=bits_and_u64_nat y 63 hy (by decide)
 rw [nat_mask6] at this
 exact this
theorem mask31 (y:Nat) (hy:y < 18446744073709551616):bits BinOp.and IntKind.u64 (y:Int) 31 = ((y % 32:Nat):Int):=by
 have:=bits_and_u64_nat y 31 hy (by decide)
 rw [nat_mask5] at this
 exact this
theorem maskLow (y:Nat) (hy:y < 18446744073709551616):bits BinOp.and IntKind.u64 (y:Int) 4294967295 = ((y % 4294967296:Nat):Int):=by
 have:=bits_and_u64_nat y 4294967295 hy (by decide)
 rw [nat_mask32] at this
 exact this
theorem low_any (x:Nat) (hx:x < 18446744073709551616) (w:World):Calls Tryz.prog 105 #[.int .u64 x] w fun e w'=>e = .returned (.int .u64 ((x % 2 ^ 32:Nat):Int))/\w = w':=by
 have hm:=maskLow x hx
 go_enter Tryz.func105,Tryz.ntmps105
 go_wp2
 go_ret
 exact ⟨ret_int (by simp),rfl⟩
theorem u64_nat {x:Nat} {z:Int} (h:z = ((x:Nat):Int)):IntKind.u64.wrap z = ((x % 2 ^ 64:Nat):Int):=by
 subst h;rw [IntKind.wrap_u64];omega
theorem u64_toNat (z:Int):IntKind.u64.wrap z = (((z % 2 ^ 64).toNat:Nat):Int):=by
 rw [IntKind.wrap_u64]
 have e:(2:Int) ^ 64 = 18446744073709551616:=rfl
 rw [e];omega
theorem u64_wrap64 (z:Int):IntKind.u64.wrap (wrap64 z) = IntKind.u64.wrap z:=by
 rw [IntKind.wrap_u64,IntKind.wrap_u64];unfold wrap64;omega
theorem low_toNat (z:Int):z % 4294967296 = (((z % 2 ^ 32).toNat:Nat):Int):=by
 have e:(2:Int) ^ 32 = 4294967296:=rfl
 rw [e];omega
theorem wrap32_mod (z:Int):wrap32 z % 4294967296 = z % 4294967296:=by unfold wrap32;omega
theorem Add_any (x y:Nat) (hx:x < 18446744073709551616) (hy:y < 18446744073709551616) (w:World):Calls Tryz.prog 122 #[.int .u64 x,.int .u64 y] w fun e w'=>e = .returned (.int .u64 ((w_add 64 x y:Nat):Int))/\w = w':=by
 go_enter Tryz.func122,Tryz.ntmps122
 go_wp2
 go_ret
 exact ⟨ret_int (u64_nat (by simp)),rfl⟩
theorem Sub_any (x y:Nat) (hx:x < 18446744073709551616) (hy:y < 18446744073709551616) (w:World):Calls Tryz.prog 123 #[.int .u64 x,.int .u64 y] w fun e w'=>e = .returned (.int .u64 ((w_sub 64 x y:Nat):Int))/\w = w':=by
 go_enter Tryz.func123,Tryz.ntmps123
 go_wp2
 go_ret
 exact ⟨ret_int (by rw [IntKind.wrap_u64];unfold w_sub;omega),rfl⟩
theorem Mul_any (x y:Nat) (hx:x < 18446744073709551616) (hy:y < 18446744073709551616) (w:World):Calls Tryz.prog 124 #[.int .u64 x,.int .u64 y] w fun e w'=>e = .returned (.int .u64 ((w_mul 64 x y:Nat):Int))/\w = w':=by
 go_enter Tryz.func124,Tryz.ntmps124
 go_wp2
 go_ret
 exact ⟨ret_int (u64_nat (by simp)),rfl⟩
theorem Div_any (x y:Nat) (hx:x < 18446744073709551616) (hy:y < 18446744073709551616) (h0:y ≠ 0) (w:World):Calls Tryz.prog 125 #[.int .u64 x,.int .u64 y] w fun e w'=>e = .returned (.int .u64 ((w_div 64 x y:Nat):Int))/\w = w':=by
 go_enter Tryz.func125,Tryz.ntmps125
 go_wp2
 go_ret
 exact ⟨ret_int (by have hq:=Nat.div_le_self x y;rw [u64_nat (x:=x / y) (by simp),Nat.mod_eq_of_lt (show x / y < 2 ^ 64 by omega)];rfl),rfl⟩
theorem Mod_any (x y:Nat) (hx:x < 18446744073709551616) (hy:y < 18446744073709551616) (h0:y ≠ 0) (w:World):Calls Tryz.prog 126 #[.int .u64 x,.int .u64 y] w fun e w'=>e = .returned (.int .u64 ((w_mod 64 x y:Nat):Int))/\w = w':=by
 go_enter Tryz.func126,Tryz.ntmps126
 go_wp2
 go_ret
 exact ⟨ret_int (by simp [w_mod]),rfl⟩
theorem Sdiv_any (x y:Nat) (hx:x < 18446744073709551616) (hy:y < 18446744073709551616) (h0:y ≠ 0) (w:World):Calls Tryz.prog 127 #[.int .u64 x,.int .u64 y] w fun e w'=>e = .returned (.int .u64 ((w_sdiv 64 x y:Nat):Int))/\w = w':=by
 have hs:¬ wrap64 (y:Int) = 0:=by unfold wrap64;omega
 go_enter Tryz.func127,Tryz.ntmps127
 go_wp2
 go_ret
 exact ⟨ret_int (by rw [u64_wrap64,u64_toNat];unfold w_sdiv;rw [sgn64 hx,sgn64 hy]),rfl⟩
theorem Smod_any (x y:Nat) (hx:x < 18446744073709551616) (hy:y < 18446744073709551616) (h0:y ≠ 0) (w:World):Calls Tryz.prog 128 #[.int .u64 x,.int .u64 y] w fun e w'=>e = .returned (.int .u64 ((w_smod 64 x y:Nat):Int))/\w = w':=by
 have hs:¬ wrap64 (y:Int) = 0:=by unfold wrap64;omega
 go_enter Tryz.func128,Tryz.ntmps128
 go_wp2
 go_ret
 exact ⟨ret_int (by rw [u64_toNat];unfold w_smod;rw [sgn64 hx,sgn64 hy]),rfl⟩
theorem Or_any (x y:Nat) (hx:x < 18446744073709551616) (hy:y < 18446744073709551616) (w:World):Calls Tryz.prog 129 #[.int .u64 x,.int .u64 y] w fun e w'=>e = .returned (.int .u64 ((w_or 64 x y:Nat):Int))/\w = w':=by
 go_enter Tryz.func129,Tryz.ntmps129
 go_wp2
 go_ret
 exact ⟨ret_int (bits_or_u64_nat x y hx hy),rfl⟩
theorem And_any (x y:Nat) (hx:x < 18446744073709551616) (hy:y < 18446744073709551616) (w:World):Calls Tryz.prog 130 #[.int .u64 x,.int .u64 y] w fun e w'=>e = .returned (.int .u64 ((w_and 64 x y:Nat):Int))/\w = w':=by
 go_enter Tryz.func130,Tryz.ntmps130
 go_wp2
 go_ret
 exact ⟨ret_int (bits_and_u64_nat x y hx hy),rfl⟩
theorem Xor_any (x y:Nat) (hx:x < 18446744073709551616) (hy:y < 18446744073709551616) (w:World):Calls Tryz.prog 131 #[.int .u64 x,.int .u64 y] w fun e w'=>e = .returned (.int .u64 ((w_xor 64 x y:Nat):Int))/\w = w':=by
 go_enter Tryz.func131,Tryz.ntmps131
 go_wp2
 go_ret
 exact ⟨ret_int (bits_xor_u64_nat x y hx hy),rfl⟩
theorem Lsh_any (x y:Nat) (hx:x < 18446744073709551616) (hy:y < 18446744073709551616) (w:World):Calls Tryz.prog 132 #[.int .u64 x,.int .u64 y] w fun e w'=>e = .returned (.int .u64 ((w_lsh 64 x y:Nat):Int))/\w = w':=by
 have hm:=mask63 y hy
 have hk:y % 64 < 64:=Nat.mod_lt _ (by decide)
 obtain ⟨k,hke⟩:∃ k,k = y % 64:=⟨_,rfl⟩
 rw [<- hke] at hm hk
 have HK:=Lib.hid hke
 clear hke
 go_enter Tryz.func132,Tryz.ntmps132
 go_wp2
 go_ret
 exact ⟨ret_int (by unfold w_lsh;rw [<- HK.out];exact u64_nat (by simp)),rfl⟩
theorem Rsh_any (x y:Nat) (hx:x < 18446744073709551616) (hy:y < 18446744073709551616) (w:World):Calls Tryz.prog 133 #[.int .u64 x,.int .u64 y] w fun e w'=>e = .returned (.int .u64 ((w_rsh 64 x y:Nat):Int))/\w = w':=by
 have hm:=mask63 y hy
 have hk:y % 64 < 64:=Nat.mod_lt _ (by decide)
 obtain ⟨k,hke⟩:∃ k,k = y % 64:=⟨_,rfl⟩
 rw [<- hke] at hm hk
 have HK:=Lib.hid hke
 clear hke
 go_enter Tryz.func133,Tryz.ntmps133
 go_wp2
 go_ret
 exact ⟨ret_int (by unfold w_rsh;rw [<- HK.out];simp),rfl⟩
theorem Arsh_any (x y:Nat) (hx:x < 18446744073709551616) (hy:y < 18446744073709551616) (w:World):Calls Tryz.prog 134 #[.int .u64 x,.int .u64 y] w fun e w'=>e = .returned (.int .u64 ((w_arsh 64 x y:Nat):Int))/\w = w':=by
 have hm:=mask63 y hy
 have hk:y % 64 < 64:=Nat.mod_lt _ (by decide)
 obtain ⟨k,hke⟩:∃ k,k = y % 64:=⟨_,rfl⟩
 rw [<- hke] at hm hk
 have HK:=Lib.hid hke
 clear hke
 go_enter Tryz.func134,Tryz.ntmps134
 go_wp2
 go_ret
 exact ⟨ret_int (by unfold w_arsh;rw [<- HK.out,u64_toNat,sgn64 hx]),rfl⟩
theorem Neg_any (x y:Nat) (hx:x < 18446744073709551616) (hy:y < 18446744073709551616) (w:World):Calls Tryz.prog 135 #[.int .u64 x,.int .u64 y] w fun e w'=>e = .returned (.int .u64 ((w_neg 64 x y:Nat):Int))/\w = w':=by
 go_enter Tryz.func135,Tryz.ntmps135
 go_wp2
 go_ret
 exact ⟨ret_int (by rw [IntKind.wrap_u64];unfold w_neg;omega),rfl⟩
theorem Mov_any (x y:Nat) (hx:x < 18446744073709551616) (hy:y < 18446744073709551616) (w:World):Calls Tryz.prog 136 #[.int .u64 x,.int .u64 y] w fun e w'=>e = .returned (.int .u64 ((w_mov 64 x y:Nat):Int))/\w = w':=by
 go_enter Tryz.func136,Tryz.ntmps136
 go_wp2
 go_ret
 exact ⟨ret_int (rfl),rfl⟩
theorem Div32_any (x y:Nat) (hx:x < 4294967296) (hy:y < 4294967296) (h0:y ≠ 0) (w:World):Calls Tryz.prog 137 #[.int .u64 x,.int .u64 y] w fun e w'=>e = .returned (.int .u64 ((w_div 32 x y:Nat):Int))/\w = w':=by
 have hlx:bits BinOp.and IntKind.u64 (x:Int) 4294967295 = x:=by rw [maskLow x (by omega)];omega
 have hly:bits BinOp.and IntKind.u64 (y:Int) 4294967295 = y:=by rw [maskLow y (by omega)];omega
 go_enter Tryz.func137,Tryz.ntmps137
 go_wp2
 go_ret
 exact ⟨ret_int (by have hq:=Nat.div_le_self x y;rw [u64_nat (x:=x / y) (by simp),Nat.mod_eq_of_lt (show x / y < 2 ^ 64 by omega)];rfl),rfl⟩
theorem Mod32_any (x y:Nat) (hx:x < 4294967296) (hy:y < 4294967296) (h0:y ≠ 0) (w:World):Calls Tryz.prog 138 #[.int .u64 x,.int .u64 y] w fun e w'=>e = .returned (.int .u64 ((w_mod 32 x y:Nat):Int))/\w = w':=by
 have hlx:bits BinOp.and IntKind.u64 (x:Int) 4294967295 = x:=by rw [maskLow x (by omega)];omega
 have hly:bits BinOp.and IntKind.u64 (y:Int) 4294967295 = y:=by rw [maskLow y (by omega)];omega
 go_enter Tryz.func138,Tryz.ntmps138
 go_wp2
 go_ret
 exact ⟨ret_int (by simp [w_mod]),rfl⟩
theorem Sdiv32_any (x y:Nat) (hx:x < 4294967296) (hy:y < 4294967296) (h0:y ≠ 0) (w:World):Calls Tryz.prog 139 #[.int .u64 x,.int .u64 y] w fun e w'=>e = .returned (.int .u64 ((w_sdiv 32 x y:Nat):Int))/\w = w':=by
 have hs:¬ wrap32 (y:Int) = 0:=by unfold wrap32;omega
 go_enter Tryz.func139,Tryz.ntmps139
 go_wp2
 go_ret
 exact ⟨ret_int (by rw [wrap32_mod,low_toNat];unfold w_sdiv;rw [sgn32 hx,sgn32 hy]),rfl⟩
theorem Smod32_any (x y:Nat) (hx:x < 4294967296) (hy:y < 4294967296) (h0:y ≠ 0) (w:World):Calls Tryz.prog 140 #[.int .u64 x,.int .u64 y] w fun e w'=>e = .returned (.int .u64 ((w_smod 32 x y:Nat):Int))/\w = w':=by
 have hs:¬ wrap32 (y:Int) = 0:=by unfold wrap32;omega
 go_enter Tryz.func140,Tryz.ntmps140
 go_wp2
 go_ret
 exact ⟨ret_int (by rw [low_toNat];unfold w_smod;rw [sgn32 hx,sgn32 hy]),rfl⟩
theorem Lsh32_any (x y:Nat) (hx:x < 4294967296) (hy:y < 4294967296) (w:World):Calls Tryz.prog 141 #[.int .u64 x,.int .u64 y] w fun e w'=>e = .returned (.int .u64 ((x * 2 ^ (y % 32) % 2 ^ 64:Nat):Int))/\w = w':=by
 have hm:=mask31 y (by omega)
 have hk:y % 32 < 32:=Nat.mod_lt _ (by decide)
 obtain ⟨k,hke⟩:∃ k,k = y % 32:=⟨_,rfl⟩
 rw [<- hke] at hm hk
 have HK:=Lib.hid hke
 clear hke
 go_enter Tryz.func141,Tryz.ntmps141
 go_wp2
 go_ret
 exact ⟨ret_int (by rw [<- HK.out];exact u64_nat (by simp)),rfl⟩
theorem Rsh32_any (x y:Nat) (hx:x < 4294967296) (hy:y < 4294967296) (w:World):Calls Tryz.prog 142 #[.int .u64 x,.int .u64 y] w fun e w'=>e = .returned (.int .u64 ((w_rsh 32 x y:Nat):Int))/\w = w':=by
 have hm:=mask31 y (by omega)
 have hk:y % 32 < 32:=Nat.mod_lt _ (by decide)
 obtain ⟨k,hke⟩:∃ k,k = y % 32:=⟨_,rfl⟩
 rw [<- hke] at hm hk
 have HK:=Lib.hid hke
 clear hke
 have hlx:bits BinOp.and IntKind.u64 (x:Int) 4294967295 = x:=by rw [maskLow x (by omega)];omega
 go_enter Tryz.func142,Tryz.ntmps142
 go_wp2
 go_ret
 exact ⟨ret_int (by unfold w_rsh;rw [<- HK.out];simp),rfl⟩
theorem Arsh32_any (x y:Nat) (hx:x < 4294967296) (hy:y < 4294967296) (w:World):Calls Tryz.prog 143 #[.int .u64 x,.int .u64 y] w fun e w'=>e = .returned (.int .u64 ((w_arsh 32 x y:Nat):Int))/\w = w':=by
 have hm:=mask31 y (by omega)
 have hk:y % 32 < 32:=Nat.mod_lt _ (by decide)
 obtain ⟨k,hke⟩:∃ k,k = y % 32:=⟨_,rfl⟩
 rw [<- hke] at hm hk
 have HK:=Lib.hid hke
 clear hke
 go_enter Tryz.func143,Tryz.ntmps143
 go_wp2
 go_ret
 exact ⟨ret_int (by unfold w_arsh;rw [<- HK.out,low_toNat,sgn32 hx]),rfl⟩
def Tells (f:FuncId) (args:Array Value) (v:Int):Prop:=
 ∀ w:World,Calls Tryz.prog f args w fun e w'=>e = .returned (.int .i64 v)/\Below w.heap.size w w'
theorem Tells.same {f:FuncId} {args:Array Value} {v:Int} (h:∀ w:World,Calls Tryz.prog f args w fun e w'=>e = .returned (.int .i64 v)/\w = w'):Tells f args v:=
 fun w=>(h w).mono fun e w' ⟨he,hw⟩=>⟨he,by rw [<- hw];exact Below.refl _ _⟩
def ext (k:Nat) (a:Int):Int:=sgn k (lowN k a)
theorem ext8 (a:Int):wrap64 (IntKind.i8.wrap a) = ext 8 a:=by
 have h:=un_cast a
 have hl:=un_lt a
 have e:((lowN 8 a:Nat):Int) = a % 256:=by unfold lowN;omega
 unfold ext sgn
 have e1:(2:Nat) ^ (8 - 1) = 128:=rfl
 have e2:(2:Int) ^ 8 = 256:=rfl
 rw [e1,e2]
 have hw:IntKind.i8.wrap a = if a % 256 ≥ 128 then a % 256 - 256 else a % 256:=by
  simp [IntKind.wrap,IntKind.bits,IntKind.signed]
 rw [hw,IntWalk.wrap64_in _ (by split <;> omega)]
 split <;> split <;> omega
theorem ext16 (a:Int):wrap64 (IntKind.i16.wrap a) = ext 16 a:=by
 have h:=un_cast a
 have hl:=un_lt a
 have e:((lowN 16 a:Nat):Int) = a % 65536:=by unfold lowN;omega
 unfold ext sgn
 have e1:(2:Nat) ^ (16 - 1) = 32768:=rfl
 have e2:(2:Int) ^ 16 = 65536:=rfl
 rw [e1,e2]
 have hw:IntKind.i16.wrap a = if a % 65536 ≥ 32768 then a % 65536 - 65536 else a % 65536:=by
  simp [IntKind.wrap,IntKind.bits,IntKind.signed]
 rw [hw,IntWalk.wrap64_in _ (by split <;> omega)]
 split <;> split <;> omega
theorem ext32 (a:Int):wrap64 (wrap32 a) = ext 32 a:=by
 have h:=un_cast a
 have hl:=un_lt a
 have e:((lowN 32 a:Nat):Int) = a % 4294967296:=by unfold lowN;omega
 unfold ext sgn
 have e1:(2:Nat) ^ (32 - 1) = 2147483648:=rfl
 have e2:(2:Int) ^ 32 = 4294967296:=rfl
 rw [e1,e2]
 have hr : -2147483648 <= wrap32 a/\wrap32 a <= 2147483647:=by unfold wrap32;omega
 rw [IntWalk.wrap64_in _ (by omega)]
 unfold wrap32
 split <;> omega
theorem ext_range (k:Nat) (a:Int) (hk:0 < k/\k <= 32) : -2147483648 <= ext k a/\ext k a <= 2147483647:=by
 have hl:=lowN_lt k a
 have hp:2 ^ k = 2 * 2 ^ (k - 1):=by rw [<- Nat.pow_succ'];congr 1;omega
 have hle:2 ^ (k - 1) <= 2 ^ 31:=Nat.pow_le_pow_right (by decide) (by omega)
 have hpi:(2:Int) ^ k = ((2 ^ k:Nat):Int):=by simp
 unfold ext sgn
 rw [hpi]
 split <;> omega
theorem extend_none (k:Int) (nar:Bool) (a:Int) (h8:k ≠ 8) (h16:k ≠ 16) (h32:k ≠ 32) (w:World) :
 Calls Tryz.prog 85 #[.int .i64 k,.bool nar,.int .i64 a] w fun e w'=>e = .returned (.int .i64 0)/\w = w':=by
 have t8:(k == 8) = false:=by simpa using h8
 have t16:(k == 16) = false:=by simpa using h16
 have t32:(k == 32) = false:=by simpa using h32
 clear h8 h16 h32
 cases nar
 all_goals
  go_enter Tryz.func85,Tryz.ntmps85
  go_wp2
  go_ret
  exact ⟨rfl,rfl⟩
theorem extend_wide8 (a:Int) (w:World):Calls Tryz.prog 85 #[.int .i64 8,.bool false,.int .i64 a] w fun e w'=>e = .returned (.int .i64 (ext 8 a))/\w = w':=by
 go_enter Tryz.func85,Tryz.ntmps85
 go_wp2
 go_ret
 exact ⟨ret_int (ext8 a),rfl⟩
theorem extend_wide16 (a:Int) (w:World):Calls Tryz.prog 85 #[.int .i64 16,.bool false,.int .i64 a] w fun e w'=>e = .returned (.int .i64 (ext 16 a))/\w = w':=by
 go_enter Tryz.func85,Tryz.ntmps85
 go_wp2
 go_ret
 exact ⟨ret_int (ext16 a),rfl⟩
theorem extend_wide32 (a:Int) (w:World):Calls Tryz.prog 85 #[.int .i64 32,.bool false,.int .i64 a] w fun e w'=>e = .returned (.int .i64 (ext 32 a))/\w = w':=by
 go_enter Tryz.func85,Tryz.ntmps85
 go_wp2
 go_ret
 exact ⟨ret_int (ext32 a),rfl⟩
theorem extend_nar8 (a:Int) (w:World):Calls Tryz.prog 85 #[.int .i64 8,.bool true,.int .i64 a] w fun e w'=>e = .returned (.int .i64 (ext 8 a % 4294967296))/\w = w':=by
 go_enter Tryz.func85,Tryz.ntmps85
 go_wp2
 go_ret
 exact ⟨ret_int (by rw [ext8]),rfl⟩
theorem extend_nar16 (a:Int) (w:World):Calls Tryz.prog 85 #[.int .i64 16,.bool true,.int .i64 a] w fun e w'=>e = .returned (.int .i64 (ext 16 a % 4294967296))/\w = w':=by
 go_enter Tryz.func85,Tryz.ntmps85
 go_wp2
 go_ret
 exact ⟨ret_int (by rw [ext16]),rfl⟩
theorem extend_nar32 (a:Int) (w:World):Calls Tryz.prog 85 #[.int .i64 32,.bool true,.int .i64 a] w fun e w'=>e = .returned (.int .i64 0)/\w = w':=by
 go_enter Tryz.func85,Tryz.ntmps85
 go_wp2
 go_ret
 exact ⟨rfl,rfl⟩
def utab (n:Nat) (g:Nat->Int):List Value:=(List.range n).map fun i=>Value.int .u8 (g i)
theorem utab_get {n:Nat} (g:Nat->Int) {i:Nat} (h:i < n):(utab n g)[i]? = some (.int .u8 (g i)):=by
 simp [utab,h]
theorem utab_congr {n:Nat} {g h:Nat->Int} (e:∀ t,t < n->g t = h t):utab n g = utab n h:=by
 unfold utab;refine List.map_congr_left fun t ht=>?_;rw [e t (List.mem_range.1 ht)]
theorem utab_set (n:Nat) (g:Nat->Int) (j:Nat) (v:Int):(utab n g).set j (.int .u8 v) = utab n (fun t=>if t = j then v else g t):=by
 apply List.ext_getElem?
 intro i
 rw [List.getElem?_set]
 by_cases hi:i < n
 ·by_cases hj:j = i
  ·subst hj;simp [utab,hi]
  ·simp [utab,hi,hj,Ne.symm hj]
 ·simp [utab,hi]
  intro h;omega
theorem utab_zero (n:Nat):(madeCells #[Value.int .u8 0] n).toList = utab n (fun _=>0):=by
 simp [madeCells,utab]
 intro a _
 rw [Nat.mod_one];rfl
theorem make_bytes (n:Nat) (hn:n <= 140737488355328) (w:World):(Instr.makeSlice 27 (.int .i64 n) (.int .i64 n)).run Tryz.prog w =
 .ok (.slice (some ⟨w.heap.size,0,none⟩) n n) (w.alloc (.cells (utab n (fun _=>0)).toArray 5)):=by
 obtain ⟨i,hi,hz,hs,hb⟩:=info_parts info_u8
 have h:=run_make (P:=Tryz.prog) w 27 5 i (.int .u8 0) Tryz.underlying27 hi hz .i64 .i64 n n (by omega) (by omega) (by rw [hb];omega) (by omega)
 rw [h]
 simp only [Int.toNat_natCast,hs,Nat.mul_one,Value.cells]
 rw [<- utab_zero]
theorem ufill {wr:World} {n i b:Nat} {e:TypeId} {g:Nat->Int} {v:Int} (hR:Row wr b e (utab n fun t=>if t < i then g t else 0)) (hv:v = g i) :
 Row (wr.setCell ⟨b,i,none⟩ (.int .u8 v)) b e (utab n fun t=>if t < i + 1 then g t else 0):=by
 have h:=hR.put i (.int .u8 v)
 rw [utab_set] at h
 rwa [utab_congr (h:=fun t=>if t < i + 1 then g t else 0)] at h
 intro t _
 by_cases ht:t = i
 ·subst ht;simp [hv]
 ·have e2:(t < i) ↔ (t < i + 1):=by omega
  simp [ht,e2]
theorem ufill_end {wr:World} {n b:Nat} {e:TypeId} {g:Nat->Int} (hR:Row wr b e (utab n fun t=>if t < n then g t else 0)):Row wr b e (utab n g):=by
 rwa [utab_congr (h:=g) (fun t ht=>if_pos ht)] at hR
theorem ufill_start (w:World) (n:Nat) (e:TypeId) (g:Nat->Int):Row (w.alloc (.cells (utab n fun _=>0).toArray e)) w.heap.size e (utab n fun t=>if t < 0 then g t else 0):=by
 rw [utab_congr (h:=fun _=>0) (fun t _=>if_neg (by omega))];exact Row.made _ _ _
def num:List Int->Nat
 | []=>0
 | x :: r=>x.toNat + 256 * num r
theorem num_lt {xs:List Int} (h:IsBytes xs):num xs < 256 ^ xs.length:=by
 induction xs with
 | nil=>simp [num]
 | cons x r ih =>
   have h1:=h x (by simp)
   have h2:=ih fun z hz=>h z (by simp [hz])
   simp only [num,List.length_cons,Nat.pow_succ]
   omega
theorem num_append (xs ys:List Int):num (xs ++ ys) = num xs + 256 ^ xs.length * num ys:=by
 induction xs with
 | nil=>simp [num]
 | cons x r ih =>
   simp only [List.cons_append,num,ih,List.length_cons,Nat.pow_succ,Nat.mul_add]
   have:256 * (256 ^ r.length * num ys) = 256 ^ r.length * 256 * num ys:=by rw [Nat.mul_comm (256 ^ r.length) 256,Nat.mul_assoc]
   omega
theorem take_snoc (xs:List Int) (k:Nat) (h:k < xs.length):xs.take (k + 1) = xs.take k ++ [xs.getD k 0]:=by
 rw [List.take_succ_eq_append_getElem h];simp [List.getD,h]
theorem num_snoc (xs:List Int) (k:Nat) (h:k < xs.length):num (xs.take (k + 1)) = num (xs.take k) + 256 ^ k * (xs.getD k 0).toNat:=by
 rw [take_snoc xs k h,num_append,List.length_take,Nat.min_eq_left (by omega)]
 simp [num]
theorem pow256 (k:Nat):256 ^ k = 2 ^ (8 * k):=by rw [Nat.pow_mul]
theorem num_take_lt {xs:List Int} (h:IsBytes xs) (k:Nat) (hk:k <= xs.length):num (xs.take k) < 2 ^ (8 * k):=by
 have:=num_lt (h.take k)
 rwa [List.length_take,Nat.min_eq_left hk,pow256] at this
theorem num_or {xs:List Int} (h:IsBytes xs) (k:Nat) (hk:k < xs.length):num (xs.take k) ||| (xs.getD k 0).toNat * 2 ^ (8 * k) = num (xs.take (k + 1)):=by
 rw [num_snoc xs k hk,pow256,Nat.mul_comm (xs.getD k 0).toNat,Nat.or_comm,<- Nat.two_pow_add_eq_or_of_lt (num_take_lt h k (by omega))]
 omega
def getv (sg:Bool) (xs:List Int):Int:=
 if xs = []\/8 < xs.length then 0 else if sg then sgn (8 * xs.length) (num xs) else wrap64 (num xs)
theorem shl_u64 (c:Int) (h:0 <= c/\c <= 255) (k:Nat) (hk:k < 8):IntKind.u64.wrap (c * 2 ^ (8 * k)) = ((c.toNat * 2 ^ (8 * k):Nat):Int):=by
 have e:c * 2 ^ (8 * k) = ((c.toNat * 2 ^ (8 * k):Nat):Int):=by
  rw [Int.natCast_mul,Int.toNat_of_nonneg h.1];simp
 rw [e,IntKind.wrap_u64]
 have h2:2 ^ (8 * k) <= 2 ^ 56:=Nat.pow_le_pow_right (by decide) (by omega)
 have h3:c.toNat * 2 ^ (8 * k) <= 255 * 2 ^ 56:=Nat.mul_le_mul (by omega) h2
 omega
theorem free_sgn (n x:Nat) (hn:1 <= n) (hn8:n <= 8) (hx:x < 2 ^ (8 * n)):wrap64 (IntKind.u64.wrap ((x:Int) * 2 ^ (64 - 8 * n))) / 2 ^ (64 - 8 * n) = sgn (8 * n) x:=by
 rw [IntKind.wrap_u64]
 unfold wrap64 sgn
 have hh:n = 1\/n = 2\/n = 3\/n = 4\/n = 5\/n = 6\/n = 7\/n = 8:=by omega
 rcases hh with rfl | rfl | rfl | rfl | rfl | rfl | rfl | rfl
 all_goals
  simp only [Nat.reduceMul,Nat.reduceSub,Nat.reducePow,Int.reducePow,Int.pow_zero] at hx ⊢
  split <;> omega
theorem get_step {xs:List Int} (hx:IsBytes xs) (k:Nat) (hk:k < xs.length) (hk8:k < 8) (z:Nat) (hz:z = num (xs.take k)) (c:Int) (hc:c = xs.getD k 0) :
 bits .or .u64 (z:Int) (IntKind.u64.wrap (c * 2 ^ (8 * k))) = ((num (xs.take (k + 1)):Nat):Int):=by
 have hb:=hx.at' k
 rw [<- hc] at hb
 have hz1:z < 2 ^ 64:=by
  rw [hz]
  exact Nat.lt_of_lt_of_le (num_take_lt hx k (by omega)) (Nat.pow_le_pow_right (by decide) (by omega))
 have h2:2 ^ (8 * k) <= 2 ^ 56:=Nat.pow_le_pow_right (by decide) (by omega)
 have h3:c.toNat * 2 ^ (8 * k) <= 255 * 2 ^ 56:=Nat.mul_le_mul (by omega) h2
 rw [shl_u64 c hb k hk8,bits_or_u64_nat z _ (by omega) (by omega),hz,hc,num_or hx k hk]
theorem get_of (v:Value) (sg:Bool) (xs:List Int) (w:World) (h:Held w v xs) :
 Calls Tryz.prog 114 #[v,.bool sg] w fun e w'=>e = .returned (.int .i64 (getv sg xs))/\w = w':=by
 have hx:=h.bytes
 obtain ⟨_,⟨rfl,hv⟩ | ⟨hp,b,off,cap,rfl,hc,hm,hlt,hcell⟩⟩:=h
 ·have hv' : ∃ a cap, v = .slice a 0 cap := by
   rcases hv with rfl | ⟨a,cap,rfl,_⟩
   ·exact ⟨_,_,rfl⟩
   ·exact ⟨_,_,rfl⟩
  obtain ⟨a,cap,rfl⟩:=hv'
  go_enter Tryz.func114,Tryz.ntmps114
  go_wp2
  go_ret
  exact ⟨rfl,rfl⟩
 ·unfold maxLen at hm
  by_cases h8:8 < xs.length
  ·have e:getv sg xs = 0:=by unfold getv;rw [if_pos (Or.inr h8)]
   have HE:=Lib.hid e
   clear e
   go_enter Tryz.func114,Tryz.ntmps114
   go_wp2
   go_ret
   exact ⟨ret_int HE.out.symm,rfl⟩
  ·have hlen:xs.length <= 8:=by omega
   have e:getv sg xs = if sg then sgn (8 * xs.length) (num xs) else wrap64 (num xs):=by
    unfold getv;rw [if_neg (fun h=>h.elim (fun h=>by subst h;simp at hp) (fun h=>by omega))]
   have HE:=Lib.hid e
   have HB:=Lib.hid hx
   clear e h8 hx
   obtain ⟨n,hn⟩:∃ n,n = xs.length:=⟨_,rfl⟩
   rw [<- hn] at hp hc hcell hlen ⊢
   have HN:=Lib.hid hn
   clear hn
   go_enter Tryz.func114,Tryz.ntmps114
   go_wp2
   go_loop [5,19] (fun z s=>∃ k:Nat,k <= n/\s = .int .i64 k/\z = .int .u64 (num (xs.take k):Nat)) (fun _ s=>n - (intOf s).toNat)
   case atStart=>exact ⟨0,Nat.zero_le _,rfl,rfl⟩
   case round=>
    obtain ⟨k,hk,rfl,rfl⟩:=hrel
    by_cases hk2:k < n
    ·have hcx:=hcell k hk2
     have hby:=HB.out.at' k
     obtain ⟨c,hc2⟩:∃ c,c = xs.getD k 0:=⟨_,rfl⟩
     rw [<- hc2] at hcx hby
     have HC:=Lib.hid hc2
     clear hc2
     obtain ⟨z,hz⟩:∃ z,z = num (xs.take k):=⟨_,rfl⟩
     rw [<- hz]
     have HZ:=Lib.hid hz
     clear hz hcell
     go_wp2
     go_round
     case rel=>exact ⟨k + 1,by omega,by go_num,by rw [get_step HB.out k (by have:=HN.out;omega) (by omega) z HZ.out c HC.out]⟩
     case measure=>simp [intOf];omega
    ·obtain rfl:k = n:=by omega
     have ht:xs.take k = xs:=List.take_of_length_le (by have:=HN.out;omega)
     have hnl:num xs < 2 ^ (8 * k):=by
      have:=num_take_lt HB.out k (by have:=HN.out;omega)
      rwa [ht] at this
     have HT:=Lib.hid ht
     have HNL:=Lib.hid hnl
     clear ht hnl
     cases sg
     ·go_wp2
      go_ret
      exact ⟨ret_int (by rw [HE.out,HT.out,if_neg (by simp)]),rfl⟩
     ·go_wp2
      go_ret
      exact ⟨ret_int (by rw [HE.out,HT.out,<- HN.out,if_pos trivial];exact free_sgn k _ hp hlen (HNL.out)),rfl⟩
def putl (k:Nat) (v:Int):List Int:=(List.range k).map fun i=>v / 2 ^ (8 * i) % 256
theorem putl_length (k:Nat) (v:Int):(putl k v).length = k:=by simp [putl]
theorem putl_bytes (k:Nat) (v:Int):IsBytes (putl k v):=by
 intro x hx
 obtain ⟨i,_,rfl⟩:=List.mem_map.1 hx
 omega
theorem putl_get {k i:Nat} (v:Int) (h:i < k):(putl k v).getD i 0 = v / 2 ^ (8 * i) % 256:=by
 simp [putl,List.getD,h]
theorem held_utab {w:World} {k b:Nat} {v:Int} {e:TypeId} (hR:Row w b e (utab k fun i=>v / 2 ^ (8 * i) % 256)) (hk:k <= 8):Held w (.slice (some ⟨b,0,none⟩) k k) (putl k v):=by
 have:=held_row (xs:=putl k v) (cap:=k) hR (putl_bytes k v) (by rw [putl_length];exact Nat.le_refl _) (by unfold maxLen;omega) (fun i hi=>by
  rw [putl_length] at hi
  rw [utab_get _ hi,putl_get v hi])
 rwa [putl_length] at this
def NewBytes (w:World) (k:Nat) (v:Int) (e:Ending) (w':World):Prop:=
 ∃ b,e = .returned (.slice (some ⟨b,0,none⟩) k k)/\w.heap.size <= b/\Row w' b 5 (utab k fun i=>v / 2 ^ (8 * i) % 256)/\Below w.heap.size w w'
theorem u8_wrap (x:Int):IntKind.u8.wrap x = x % 256:=by simp [IntKind.wrap,IntKind.bits,IntKind.signed]
theorem put_of (k:Nat) (kk v:Int) (hkk:kk = k) (h1:1 <= k) (h8:k <= 8) (w:World) :
 Calls Tryz.prog 92 #[.int .i64 kk,.int .i64 v] w (NewBytes w k v):=by
 subst hkk
 have hmk:=make_bytes k (by omega)
 go_enter Tryz.func92,Tryz.ntmps92
 go_wp2
 go_loopw [17] (fun s wr=>∃ i:Nat,i <= k/\s = .int .i64 i/\Row wr w.heap.size 5 (utab k fun t=>if t < i then v / 2 ^ (8 * t) % 256 else 0)/\Below w.heap.size w wr) (fun s _=>k - (intOf s).toNat)
 case atStart=>exact ⟨0,Nat.zero_le _,rfl,ufill_start _ _ _ _,(Below.refl _ _).alloc (Nat.le_refl _) _⟩
 case round=>
  obtain ⟨i,hi,rfl,hR,hB⟩:=hrel
  by_cases hlt:i < k
  ·have hc:=(hR.cell i).trans (utab_get _ hlt)
   have hf:=hR.free i
   go_wp2
   go_roundw
   case rel=>
    exact ⟨i + 1,hlt,by go_num,ufill hR (u8_wrap _),hB.setCell (Nat.le_refl _) _⟩
   case measure=>simp [intOf];omega
  ·obtain rfl:i = k:=by omega
   go_wp2
   go_ret
   exact ⟨_,rfl,Nat.le_refl _,ufill_end hR,hB⟩
theorem Held.open {w:World} {v:Value} {xs:List Int} (h:Held w v xs):∃ a cap,v = .slice a xs.length cap/\xs.length <= cap/\cap <= maxLen/\(∀ k,k <= xs.length->Held w (.slice a k cap) (xs.take k)) /\
 (xs.length = 0/\(a = none/\cap = 0\/∃ a',a = some a')\/∃ b off,a = some ⟨b,off,none⟩/\b < w.heap.size/\∀ i,i < xs.length->w.cell? ⟨b,off + i,none⟩ = some (.int .u8 (xs.getD i 0))):=by
 have hx:=h.bytes
 obtain ⟨_,⟨rfl,rfl | ⟨a,cap,rfl,hcm⟩⟩ | ⟨hp,b,off,cap,rfl,hcap,hcm,hlt,hcell⟩⟩:=h
 ·exact ⟨_, _, rfl, Nat.le_refl _, by decide, fun k hk => by obtain rfl : k = 0 := by simpa using hk
                                                             exact held_nil w,Or.inl ⟨rfl,Or.inl ⟨rfl,rfl⟩⟩⟩
 ·exact ⟨_, _, rfl, Nat.zero_le _, hcm, fun k hk => by obtain rfl : k = 0 := by simpa using hk
                                                       exact ⟨IsBytes.nil,Or.inl ⟨rfl,Or.inr ⟨_,_,rfl,hcm⟩⟩⟩,Or.inl ⟨rfl,Or.inr ⟨_,rfl⟩⟩⟩
 ·refine ⟨_,_,rfl,hcap,hcm,fun k hk=>⟨hx.take k,?_⟩,Or.inr ⟨b,off,rfl,hlt,hcell⟩⟩
  have hkl:(xs.take k).length = k:=by rw [List.length_take];omega
  by_cases hk0:0 < k
  ·refine Or.inr ⟨by omega,b,off,cap,by rw [hkl],by omega,hcm,hlt,fun i hi=>?_⟩
   rw [hkl] at hi
   rw [hcell i (by omega)]
   simp [List.getD,hi]
  ·obtain rfl:k = 0:=by omega
   exact Or.inl ⟨by simp,Or.inr ⟨_,_,rfl,hcm⟩⟩
theorem slice_lh (a:Option Addr) (len cap l h:Nat) (h1:l <= h) (h2:h <= cap) (w:World) :
 (Instr.slice 27 (.slice a len cap) (some (.int .i64 l)) (some (.int .i64 h)) none).run Tryz.prog w = .ok (.slice (if cap = l then a else a.map (·.add (l * 1))) (h - l) (cap - l)) w:=by
 have hs:(sizeOf (Tryz.prog.elem 27)).run Tryz.prog w = .ok 1 w:=by kernel_rfl
 rw [run_slice_lh w 27 a len cap (by kernel_rfl) .i64 .i64 l h (by omega) (by omega) (by omega),hs]
 rfl
def mark (i:Nat):Int:=(151 + 7 * (i:Int)) % 256
theorem mark_range (i:Nat):0 <= mark i/\mark i <= 255:=by unfold mark;omega
theorem u8_mod (x:Int):IntKind.u8.wrap x = x % 256:=by simp [IntKind.wrap,IntKind.bits,IntKind.signed]
def flist (k:Nat) (g:Nat->Int):List Int:=(List.range k).map g
theorem flist_length (k:Nat) (g:Nat->Int):(flist k g).length = k:=by simp [flist]
theorem flist_at {k i:Nat} (g:Nat->Int) (h:i < k):(flist k g).getD i 0 = g i:=by simp [flist,List.getD,h]
theorem flist_bytes (k:Nat) (g:Nat->Int) (h:∀ t,0 <= g t/\g t <= 255):IsBytes (flist k g):=fun x hx=>by
 obtain ⟨i,_,rfl⟩:=List.mem_map.1 hx
 exact h i
theorem held_flist {w:World} {b L k:Nat} {g:Nat->Int} {e:TypeId} (hR:Row w b e (utab L g)) (hg:∀ t,0 <= g t/\g t <= 255) (hk:k <= L) (hL:L <= maxLen):Held w (.slice (some ⟨b,0,none⟩) k L) (flist k g):=by
 have:=held_row (xs:=flist k g) (cap:=L) hR (flist_bytes k g hg) (by rw [flist_length];exact hk) hL (fun i hi=>by
  rw [flist_length] at hi
  rw [utab_get _ (by omega),flist_at g hi])
 rwa [flist_length] at this
theorem wpList_copy_room {P:Program} {w:World} {ops:Array Oper} {rest:List Oper} {o:Oper} {a:Act} {Q:Exit->Act->World->Prop} (hgd:o.guard = none) (d s:Operand) (dT sT:TypeId)
 (ho:o.op = .call { callee:=.builtin .copy,args:=#[d,s],argTypes:=#[dT,sT] }) (elem:TypeId) (hu:P.underlying dT = some (.slice elem)) (hsz:(P.info? elem).map (·.size) = some 1)
 (dp sp:Option Addr) (dLen dCap sLen sCap:Nat) (hd:a.eval d = .slice dp dLen dCap) (hs:a.eval s = .slice sp sLen sCap)
 (g off:Nat) (cur:List Value) (t:TypeId) (hg:w.heap[g]? = some (.cells cur.toArray t (0,0))) (cs:List Value) (hn:cs.length = Nat.min sLen dLen)
 (hpos:0 < cs.length->dp = some ⟨g,off,none⟩/\∃ ad,sp = some ad/\∀ j v,cs[j]? = some v->w.cell? (ad.add j) = some v)
 (hfit:off + cs.length <= cur.length) (h1:∀ v ∈ cs,v.oneCell' = true)
 (h:∀ w',Hid (w'.heap[g]? = some (.cells (splice cur off cs).toArray t (0,0)))->(∀ q,q ≠ g->w'.heap[q]? = w.heap[q]?)->Below g w w'->wpList P ops Q rest (a.put o.dst (goInt cs.length)) w') :
 wpList P ops Q (o :: rest) a w:=by
 by_cases h0:cs.length = 0
 ·obtain rfl:cs = []:=List.eq_nil_of_length_eq_zero h0
  refine wpList_copy_nothing hgd d s dT sT ho elem hu hsz dp sp dLen dCap sLen sCap hd hs (by simpa using hn.symm) ?_
  exact h w (show _ = _ by simpa [splice] using hg) (fun _ _=>rfl) (Below.refl _ _)
 ·obtain ⟨rfl,ad,rfl,hsrc⟩:=hpos (by omega)
  refine wpList_copy_own hgd d s dT sT ho elem hu hsz g off dLen dCap ad sLen sCap hd hs cur.toArray t hg cs hn hsrc (by simpa using hfit) h1 ?_
  exact h _ (show _ = _ by simpa [splice] using setRow_heap w g _ _ t _ hg) (fun q hq=>setRow_other w g q _ hq) (below_setRow (Below.refl _ _) (Nat.le_refl _) _)
def lentO (f:Nat->Int) (xs:List Int) (i t:Nat):Int:=if t < xs.length then xs.getD t 0 else if t < xs.length + i then mark (t - xs.length) else f t
theorem lentO_range {f:Nat->Int} (hf:∀ t,0 <= f t/\f t <= 255) {xs:List Int} (h:IsBytes xs) (i t:Nat):0 <= lentO f xs i t/\lentO f xs i t <= 255:=by
 unfold lentO
 split
 ·exact h.at' t
 ·split
  ·exact mark_range _
  ·exact hf t
theorem flist_lentO (f:Nat->Int) (xs:List Int) (i:Nat):flist xs.length (lentO f xs i) = xs:=by
 apply List.ext_getElem?
 intro t
 by_cases ht:t < xs.length
 ·simp [flist,lentO,ht,List.getD]
 ·rw [List.getElem?_eq_none (by rw [flist_length];omega),List.getElem?_eq_none (by omega)]
def Room (w:World) (hb B:Nat):Prop:=
 ∃ ra L,Row w hb 69 [.slice ra L L]/\(ra = none/\L = 0\/∃ (rb:Nat) (f:Nat->Int),ra = some ⟨rb,0,none⟩/\hb < rb/\rb < B/\L <= 4194504/\(∀ t,0 <= f t/\f t <= 255)/\Row w rb 5 (utab L f))
def Out (w:World) (hb rb L:Nat) (f:Nat->Int) (xs:List Int):Prop:=
 2 * xs.length + 70 <= L/\L <= 4194504/\hb < rb/\(∀ t,0 <= f t/\f t <= 255)/\Row w hb 69 [.slice (some ⟨rb,0,none⟩) L L]/\Row w rb 5 (utab L (lentO f xs (xs.length + 70)))
theorem Out.held {w:World} {hb rb L:Nat} {f:Nat->Int} {xs:List Int} (h:Out w hb rb L f xs) (hx:IsBytes xs):Held w (.slice (some ⟨rb,0,none⟩) xs.length L) xs:=by
 obtain ⟨h1,h2,_,hf,_,hU⟩:=h
 have:=held_flist (k:=xs.length) hU (lentO_range hf hx _) (by omega) (by unfold maxLen;omega)
 rwa [flist_lentO] at this
theorem Out.below {w w':World} {hb rb L:Nat} {f:Nat->Int} {xs:List Int} (h:Out w hb rb L f xs) (hb':Below w.heap.size w w'):Out w' hb rb L f xs:=
 ⟨h.1,h.2.1,h.2.2.1,h.2.2.2.1,h.2.2.2.2.1.below hb' h.2.2.2.2.1.lt,h.2.2.2.2.2.below hb' h.2.2.2.2.2.lt⟩
theorem Room.below {w w':World} {hb B:Nat} (h:Room w hb B) (hb':Below w.heap.size w w'):Room w' hb B:=by
 obtain ⟨ra,L,hR,h⟩:=h
 refine ⟨ra,L,hR.below hb' hR.lt,?_⟩
 rcases h with h | ⟨rb,f,h1,h2,h3,h4,h5,h6⟩
 ·exact Or.inl h
 ·exact Or.inr ⟨rb,f,h1,h2,h3,h4,h5,h6.below hb' h6.lt⟩
theorem Held.kept {w w':World} {v:Value} {xs:List Int} (h:Held w v xs) (hs:w.heap.size <= w'.heap.size) (hk:∀ b,v.ownBlock = some b->w'.heap[b]? = w.heap[b]?):Held w' v xs:=by
 obtain ⟨h0,h | ⟨hp,b,off,cap,rfl,hc,hm,hlt,hcell⟩⟩:=h
 ·exact ⟨h0,Or.inl h⟩
 ·exact ⟨h0,Or.inr ⟨hp,b,off,cap,rfl,hc,hm,Nat.lt_of_lt_of_le hlt hs,fun i hi=>(World.cell?_of_block (hk b rfl)).trans (hcell i hi)⟩⟩
def helpL:List MapEntry:=[⟨.int .i64 1,.iface 195 (.agg #[.int .i64 0,.int .i64 65535]),0⟩,⟨.int .i64 2,.iface 197 (.agg #[.int .i64 2]),1⟩,⟨.int .i64 3,.iface 197 (.agg #[.int .i64 1]),2⟩,⟨.int .i64 4,.iface 198 (.agg #[]),3⟩,⟨.int .i64 5,.iface 195 (.agg #[.int .i64 (-1),.int .i64 65534]),4⟩,⟨.int .i64 6,.iface 200 (.agg #[.int .i64 1,.int .i64 (-1),.int .i64 0,.bool false,.bool false]),5⟩,⟨.int .i64 7,.iface 200 (.agg #[.int .i64 2,.int .i64 0,.int .i64 0,.bool false,.bool false]),6⟩,⟨.int .i64 8,.iface 200 (.agg #[.int .i64 2,.int .i64 0,.int .i64 0,.bool true,.bool true]),7⟩]
def helpE (i:Nat):Array MapEntry:=(helpL.take i).toArray
theorem help_put1 (w:World):(Instr.mapUpdate 185 (.map (some w.heap.size)) (.int .i64 1) (.iface 195 (.agg #[.int .i64 0,.int .i64 65535]))).run Tryz.prog (w.alloc (.map #[] 0)) = .ok () (w.alloc (.map (helpE 1) 1)):=
 run_put Tryz.underlying185 Tryz.underlying3 w #[] 0 1 _ rfl
theorem help_put2 (w:World):(Instr.mapUpdate 185 (.map (some w.heap.size)) (.int .i64 2) (.iface 197 (.agg #[.int .i64 2]))).run Tryz.prog (w.alloc (.map (helpE 1) 1)) = .ok () (w.alloc (.map (helpE 2) 2)):=
 run_put Tryz.underlying185 Tryz.underlying3 w (helpE 1) 1 2 _ rfl
theorem help_put3 (w:World):(Instr.mapUpdate 185 (.map (some w.heap.size)) (.int .i64 3) (.iface 197 (.agg #[.int .i64 1]))).run Tryz.prog (w.alloc (.map (helpE 2) 2)) = .ok () (w.alloc (.map (helpE 3) 3)):=
 run_put Tryz.underlying185 Tryz.underlying3 w (helpE 2) 2 3 _ rfl
theorem help_put4 (w:World):(Instr.mapUpdate 185 (.map (some w.heap.size)) (.int .i64 4) (.iface 198 (.agg #[]))).run Tryz.prog (w.alloc (.map (helpE 3) 3)) = .ok () (w.alloc (.map (helpE 4) 4)):=
 run_put Tryz.underlying185 Tryz.underlying3 w (helpE 3) 3 4 _ rfl
theorem help_put5 (w:World):(Instr.mapUpdate 185 (.map (some w.heap.size)) (.int .i64 5) (.iface 195 (.agg #[.int .i64 (-1),.int .i64 65534]))).run Tryz.prog (w.alloc (.map (helpE 4) 4)) = .ok () (w.alloc (.map (helpE 5) 5)):=
 run_put Tryz.underlying185 Tryz.underlying3 w (helpE 4) 4 5 _ rfl
theorem help_put6 (w:World):(Instr.mapUpdate 185 (.map (some w.heap.size)) (.int .i64 6) (.iface 200 (.agg #[.int .i64 1,.int .i64 (-1),.int .i64 0,.bool false,.bool false]))).run Tryz.prog (w.alloc (.map (helpE 5) 5)) = .ok () (w.alloc (.map (helpE 6) 6)):=
 run_put Tryz.underlying185 Tryz.underlying3 w (helpE 5) 5 6 _ rfl
theorem help_put7 (w:World):(Instr.mapUpdate 185 (.map (some w.heap.size)) (.int .i64 7) (.iface 200 (.agg #[.int .i64 2,.int .i64 0,.int .i64 0,.bool false,.bool false]))).run Tryz.prog (w.alloc (.map (helpE 6) 6)) = .ok () (w.alloc (.map (helpE 7) 7)):=
 run_put Tryz.underlying185 Tryz.underlying3 w (helpE 6) 6 7 _ rfl
theorem help_put8 (w:World):(Instr.mapUpdate 185 (.map (some w.heap.size)) (.int .i64 8) (.iface 200 (.agg #[.int .i64 2,.int .i64 0,.int .i64 0,.bool true,.bool true]))).run Tryz.prog (w.alloc (.map (helpE 7) 7)) = .ok () (w.alloc (.map (helpE 8) 8)):=
 run_put Tryz.underlying185 Tryz.underlying3 w (helpE 7) 7 8 _ rfl
theorem fill_any (b:Nat) (c0 c1 c2:Value) (w:World) (hR:Row w b 187 [c0,c1,c2,.map none]) :
 Calls Tryz.prog 145 #[.pointer (some ⟨b,0,none⟩)] w fun e w'=>e = .returned (.tuple #[])/\∃ m,b < m/\Row w' b 187 [c0,c1,c2,.map (some m)]/\w'.heap[m]? = some (.map (helpE 8) 8)/\Below b w w':=by
 have hmm:=@run_makeMap Tryz.prog
 have p1:=help_put1
 have p2:=help_put2
 have p3:=help_put3
 have p4:=help_put4
 have p5:=help_put5
 have p6:=help_put6
 have p7:=help_put7
 have p8:=help_put8
 have hR2:=hR.alloc (.map (helpE 8) 8)
 have hc:=hR2.cell 3
 have hf:=hR2.free 3
 simp only [List.getElem?_cons_zero,List.getElem?_cons_succ] at hc
 go_enter Tryz.func145,Tryz.ntmps145
 iterate 6 (first | simp only [List.append_eq,List.cons_append,List.nil_append] | go_step)
 go_wp2
 go_end0
 have hlt:=hR.lt
 refine ⟨rfl,w.heap.size,hlt,hR2.put 3 _,?_,((Below.refl b w).alloc (by omega) _).setCell (Nat.le_refl _) _⟩
 rw [Below.heap_setCell _ _ _ _ (show w.heap.size ≠ b by omega)]
 exact heap_alloc_new w _
theorem disable (w:World):(callFunc 156 #[]).run Tryz.prog w = .ok (.value (.tuple #[])) w:=run_call_mark0 Tryz.func156 (by kernel_rfl) (by kernel_rfl) (by kernel_rfl) .disable (by kernel_rfl) w
theorem enable (w:World):(callFunc 158 #[]).run Tryz.prog w = .ok (.value (.tuple #[])) w:=run_call_mark0 Tryz.func158 (by kernel_rfl) (by kernel_rfl) (by kernel_rfl) .enable (by kernel_rfl) w
theorem acquire (a:Addr) (w:World):(callFunc 159 #[.pointer (some a)]).run Tryz.prog w = .ok (.value (.tuple #[])) w:=run_call_marked Tryz.func159 (by kernel_rfl) (by kernel_rfl) (by kernel_rfl) .acquire (by kernel_rfl) a w
theorem releaseMerge (a:Addr) (w:World):(callFunc 161 #[.pointer (some a)]).run Tryz.prog w = .ok (.value (.tuple #[])) w:=run_call_marked Tryz.func161 (by kernel_rfl) (by kernel_rfl) (by kernel_rfl) .releaseMerge (by kernel_rfl) a w
theorem store_deferred (a:Addr) (x:Value) (u:FrameMode) (w:World) (hc:w.cell? a = some x) (hz:w.frozen? a = false) :
 CallsD Tryz.prog 151 #[.pointer (some a),.bool true] u w fun e u' w'=>u' = u/\(e = .returned (.tuple #[])/\w' = w.drew.setCell a (.int .u32 1)):=by
 have hc':w.drew.cell? a = some x:=by go_simp
 have hz':w.drew.frozen? a = false:=by go_simp
 have hst:=run_call_store (P:=Tryz.prog) Tryz.func154 (by kernel_rfl) (by kernel_rfl) (by kernel_rfl) (by kernel_rfl) (k:=.u32) (y:=1) hc' hz'
 go_enter_d Tryz.func151,Tryz.ntmps151
 go_wp2
 go_region_calls
 all_goals (go_end0;exact ⟨rfl,rfl⟩)
theorem unlock_deferred (a:Addr) (u:FrameMode) (w:World) (hc:w.cell? a = some (.int .i32 1)) (hz:w.frozen? a = false) :
 CallsD Tryz.prog 150 #[.pointer (some a)] u w fun e u' w'=>u' = u/\(e = .returned (.tuple #[])/\w' = w.setCell a (.int .i32 0)):=by
 have hd:=disable
 have he:=enable
 have hr:=releaseMerge
 have hadd:=run_call_add (P:=Tryz.prog) Tryz.func162 (by kernel_rfl) (by kernel_rfl) (by kernel_rfl) .i32 (by kernel_rfl) (y:=-1) (s:=0) hc hz (by simp [go_sem];rfl)
 have hcv:=run_convert_to_unsafe (P:=Tryz.prog) (src:=208) (dst:=212) Tryz.underlying208 Tryz.underlying212 (by kernel_rfl) hc
 go_enter_d Tryz.func150,Tryz.ntmps150
 go_wp2
 go_end0
 go_wp2
 go_end0
 exact ⟨rfl,rfl⟩
theorem lock_free (a:Addr) (w:World) (hc:w.cell? a = some (.int .i32 0)) (hz:w.frozen? a = false) :
 Calls Tryz.prog 149 #[.pointer (some a)] w fun e w'=>e = .returned (.tuple #[])/\w' = w.setCell a (.int .i32 1):=by
 have hd:=disable
 have he:=enable
 have ha:=acquire
 have hcas:=run_call_cas_hit (P:=Tryz.prog) Tryz.func157 (by kernel_rfl) (by kernel_rfl) (by kernel_rfl) .i32 (by kernel_rfl) (y:=1) hc hz
 have hc':(w.setCell a (.int .i32 1)).cell? a = some (.int .i32 1):=World.cell?_setCell_same w a _ hc
 have hcv:=run_convert_to_unsafe (P:=Tryz.prog) (src:=208) (dst:=212) Tryz.underlying208 Tryz.underlying212 (by kernel_rfl) hc'
 go_enter Tryz.func149,Tryz.ntmps149
 go_wp2
 first | go_end0 | (simp only [Exit.inBlock,Exit.then];refine bodyPost_ret (results_none rfl _ _ _) rfl ?_) | refine bodyPost_ret (results_none rfl _ _ _) rfl ?_
 go_wp2
 go_end0
 exact ⟨rfl,rfl⟩
def Filled (b:Nat) (w w':World):Prop:=∃ m c2,b < m/\Row w' b 187 [.int .u32 1,.int .i32 0,c2,.map (some m)]/\w'.heap[m]? = some (.map (helpE 8) 8)/\Below b w w'
theorem slow_any (b:Nat) (c2:Value) (w:World) (hR:Row w b 187 [.int .u32 0,.int .i32 0,c2,.map none]) :
 Calls Tryz.prog 147 #[.pointer (some ⟨b,0,none⟩),.func (.func 145) #[.pointer (some ⟨b,0,none⟩)] #[]] w fun e w'=>e = .returned (.tuple #[])/\Filled b w w':=by
 have hR1:Row (w.setCell ⟨b,1,none⟩ (.int .i32 1)) b 187 [.int .u32 0,.int .i32 1,c2,.map none]:=hR.put 1 _
 have q1:=hR.cell 1
 have q2:=hR.free 1
 have q3:=hR1.cell 0
 simp only [List.getElem?_cons_zero,List.getElem?_cons_succ] at q1 q3
 have hl:=run_call_load (P:=Tryz.prog) Tryz.func148 (by kernel_rfl) (by kernel_rfl) (by kernel_rfl) .u32 (by kernel_rfl) (w:=w.setCell ⟨b,1,none⟩ (.int .i32 1)) (a:=⟨b,0,none⟩) (x:=0) q3
 have hnot:∀ (x:Bool) (w:World),(Op.unary .not (.bool x)).run Tryz.prog w = .ok (.bool (!x)) w:=fun _ _=>rfl
 have HR1:=Lib.hid hR1
 have hB0:=Lib.hid (show Below b w (w.setCell ⟨b,1,none⟩ (.int .i32 1)) from (Below.refl b w).setCell (Nat.le_refl b) _)
 clear hR1 hR
 go_enter_defers Tryz.func147,Tryz.ntmps147
 go_wp2_with (first | (go_at_call 149;refine (lock_free ⟨b,1,none⟩ _ q1 q2).mono ?_;rintro e w' ⟨rfl,rfl⟩) | (go_at_call 146;go_in))
 refine (fill_any b _ _ _ _ HR1.out).mono ?_
 rintro e w1 ⟨rfl,m,hm,hR,hmap,hB⟩
 have s0:=hR.cell 0
 have f0:=hR.free 0
 have hR2:Row (w1.drew.setCell ⟨b,0,none⟩ (.int .u32 1)) b 187 [.int .u32 1,.int .i32 1,c2,.map (some m)]:=hR.drew.put 0 _
 have s1:=hR2.cell 1
 have f1:=hR2.free 1
 simp only [List.getElem?_cons_zero,List.getElem?_cons_succ] at s0 s1
 have HR2:=Lib.hid hR2
 have HM:=Lib.hid hmap
 have HB:=Lib.hid (hB0.out.trans hB)
 clear hR hR2 hmap hB
 go_wp2
 refine leaves_cons (f:=151) (args:=#[.pointer (some ⟨b,0,none⟩),.bool true]) (by simp) (by simp [go_sem]) ?_
 refine (store_deferred ⟨b,0,none⟩ (.int .u32 0) .returning _ s0 f0).mono ?_
 rintro e u' w'' ⟨rfl,rfl,rfl⟩
 refine leaves_cons (f:=150) (args:=#[.pointer (some ⟨b,1,none⟩)]) (by simp [settle]) (by simp [go_sem]) ?_
 refine (unlock_deferred ⟨b,1,none⟩ _ _ s1 f1).mono ?_
 rintro e u' w'' ⟨rfl,rfl,rfl⟩
 have fin:Filled b w ((w1.drew.setCell ⟨b,0,none⟩ (.int .u32 1)).setCell ⟨b,1,none⟩ (.int .i32 0)):=by
  refine ⟨m,c2,hm,HR2.out.put 1 _,?_,((HB.out.drew).setCell (Nat.le_refl b) _).setCell (Nat.le_refl b) _⟩
  rw [Below.heap_setCell _ _ _ _ (show m ≠ b by omega),Below.heap_setCell _ _ _ _ (show m ≠ b by omega)]
  exact HM.out
 simp [Leaves,settle,results,Tryz.results147,fin]
theorem do_first (b:Nat) (c2:Value) (w:World) (hR:Row w b 187 [.int .u32 0,.int .i32 0,c2,.map none]) :
 Calls Tryz.prog 144 #[.pointer (some ⟨b,0,none⟩),.func (.func 145) #[.pointer (some ⟨b,0,none⟩)] #[]] w fun e w'=>e = .returned (.tuple #[])/\Filled b w w':=by
 have q0:=hR.cell 0
 simp only [List.getElem?_cons_zero] at q0
 have hl:=run_call_load (P:=Tryz.prog) Tryz.func148 (by kernel_rfl) (by kernel_rfl) (by kernel_rfl) .u32 (by kernel_rfl) q0
 have hnot:∀ (x:Bool) (w:World),(Op.unary .not (.bool x)).run Tryz.prog w = .ok (.bool (!x)) w:=fun _ _=>rfl
 have HR:=Lib.hid hR
 clear hR
 go_enter Tryz.func144,Tryz.ntmps144
 go_wp2_with (go_at_call 146;go_in)
 refine (slow_any b _ _ HR.out).mono ?_
 rintro e w1 ⟨rfl,hF⟩
 have HF:=Lib.hid hF
 clear hF
 go_wp2
 go_end0
 exact ⟨rfl,HF.out⟩
def Looks (id:Int) (v:Value) (ok:Bool):Prop:=∀ (w:World) (m:Nat),w.heap[m]? = some (.map (helpE 8) 8)->(Instr.lookup 185 (.map (some m)) (.int .i64 id) true).run Tryz.prog w = .ok (.tuple #[v,.bool ok]) w
theorem get_at (b:Nat) (id:Int) (v:Value) (ok:Bool) (hlook:Looks id v ok) (c2:Value) (w:World) (hR:Row w b 187 [.int .u32 0,.int .i32 0,c2,.map none]) :
 Calls Tryz.prog 119 #[.pointer (some ⟨b,0,none⟩),.int .i64 id] w fun e w'=>e = .returned (.tuple #[v,.bool ok])/\Below b w w':=by
 have hmf:∀ (fn:Fn) (first cap:Array Value) (w:World),(Instr.makeFunc fn first cap).run Tryz.prog w = .ok (.func fn first cap) w:=fun _ _ _ _=>rfl
 have HR:=Lib.hid hR
 have HL:=Lib.hid hlook
 clear hR hlook
 go_enter Tryz.func119,Tryz.ntmps119
 go_wp2_with fail
 refine (do_first b c2 _ HR.out).mono ?_
 rintro e w1 ⟨rfl,m,c3,hm,hR1,hmap,hB⟩
 have q3:=hR1.cell 3
 simp only [List.getElem?_cons_zero,List.getElem?_cons_succ] at q3
 have hl:=HL.out w1 m hmap
 have HB:=Lib.hid hB
 clear hR1 hmap hB
 go_wp2
 go_ret2
 exact ⟨rfl,HB.out⟩
theorem looks1:Looks 1 (.iface 195 (.agg #[.int .i64 0,.int .i64 65535])) true:=fun w m h=>
 run_look Tryz.underlying185 Tryz.underlying3 w m (helpE 8) 8 h 1 0 _ rfl true
theorem looks2:Looks 2 (.iface 197 (.agg #[.int .i64 2])) true:=fun w m h=>
 run_look Tryz.underlying185 Tryz.underlying3 w m (helpE 8) 8 h 2 1 _ rfl true
theorem looks3:Looks 3 (.iface 197 (.agg #[.int .i64 1])) true:=fun w m h=>
 run_look Tryz.underlying185 Tryz.underlying3 w m (helpE 8) 8 h 3 2 _ rfl true
theorem looks4:Looks 4 (.iface 198 (.agg #[])) true:=fun w m h=>
 run_look Tryz.underlying185 Tryz.underlying3 w m (helpE 8) 8 h 4 3 _ rfl true
theorem looks5:Looks 5 (.iface 195 (.agg #[.int .i64 (-1),.int .i64 65534])) true:=fun w m h=>
 run_look Tryz.underlying185 Tryz.underlying3 w m (helpE 8) 8 h 5 4 _ rfl true
theorem looks6:Looks 6 (.iface 200 (.agg #[.int .i64 1,.int .i64 (-1),.int .i64 0,.bool false,.bool false])) true:=fun w m h=>
 run_look Tryz.underlying185 Tryz.underlying3 w m (helpE 8) 8 h 6 5 _ rfl true
theorem looks7:Looks 7 (.iface 200 (.agg #[.int .i64 2,.int .i64 0,.int .i64 0,.bool false,.bool false])) true:=fun w m h=>
 run_look Tryz.underlying185 Tryz.underlying3 w m (helpE 8) 8 h 7 6 _ rfl true
theorem looks8:Looks 8 (.iface 200 (.agg #[.int .i64 2,.int .i64 0,.int .i64 0,.bool true,.bool true])) true:=fun w m h=>
 run_look Tryz.underlying185 Tryz.underlying3 w m (helpE 8) 8 h 8 7 _ rfl true
theorem looks_none (id:Int) (h:id < 1\/8 < id):Looks id .nilIface false:=fun w m hm=>by
 have hs:∀ k:Int,id ≠ k->Instr.sameNow (.int .i64) (.int .i64 id) (.int .i64 k) = some false:=fun k hk=>by
  simp [Instr.sameNow,hk]
 have hf:Instr.findNow (.int .i64) (.int .i64 id) (helpE 8).toList 0 = some none:=by
  show Instr.findNow _ _ helpL 0 = _
  simp only [helpL,Instr.findNow,hs 1 (by omega),hs 2 (by omega),hs 3 (by omega),hs 4 (by omega),hs 5 (by omega),hs 6 (by omega),hs 7 (by omega),hs 8 (by omega)]
 exact run_look_none Tryz.underlying185 Tryz.underlying3 w m (helpE 8) 8 hm id .nilIface hf (by kernel_rfl) true
end Go.Proofs.YtdepknffpnnmmaaGreat
