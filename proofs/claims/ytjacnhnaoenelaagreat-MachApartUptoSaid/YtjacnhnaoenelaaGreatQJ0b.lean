import Derived.Test.YtjacnhnaoenelaaGreatQJ0a
import Derived.Laws.CopyOwn
import Derived.Outline
import Derived.Test.YtjacnhnaoenelaaGreatRows
import Derived.Defers
import Derived.Laws.LoneSync
import Derived.RegionCalls
import Derived.ChangeAlike
set_option maxRecDepth 100000
set_option maxHeartbeats 1600000
namespace Go.Proofs.YtjacnhnaoenelaaGreat
open Lib (hid)
open Go.Proofs.Tryz
open Go.RowKit
set_option linter.unusedVariables false
def Ls (n x y:Nat):Nat:=(x + y) % 2 ^ n
def Kz (n x y:Nat):Nat:=(x + (2 ^ n - y)) % 2 ^ n
def Lu (n x y:Nat):Nat:=x * y % 2 ^ n
def Nr (n x y:Nat):Nat:=x / y
def La (n x y:Nat):Nat:=x % y
def Hz (n x y:Nat):Nat:=((G8 n x).tdiv (G8 n y) % 2 ^ n).toNat
def Ia (n x y:Nat):Nat:=((G8 n x).tmod (G8 n y) % 2 ^ n).toNat
def Rq (n x y:Nat):Nat:=x ||| y
def Jw (n x y:Nat):Nat:=x &&& y
def Jy (n x y:Nat):Nat:=x ^^^ y
def Pm (n x y:Nat):Nat:=x * 2 ^ (y % n) % 2 ^ n
def Lc (n x y:Nat):Nat:=x / 2 ^ (y % n)
def Ib (n x y:Nat):Nat:=(G8 n x / 2 ^ (y % n) % 2 ^ n).toNat
def Ld (n x y:Nat):Nat:=(2 ^ n - x) % 2 ^ n
def L6 (n x y:Nat):Nat:=y
theorem Agk (y:Nat) (hy:y < 18446744073709551616):bits BinOp.and IntKind.u64 (y:Int) 63 = ((y % 64:Nat):Int):=by
 have:=bits_and_u64_nat y 63 hy (by decide);rw [nat_mask6] at this;exact this
theorem Agl (y:Nat) (hy:y < 18446744073709551616):bits BinOp.and IntKind.u64 (y:Int) 31 = ((y % 32:Nat):Int):=by
 have:=bits_and_u64_nat y 31 hy (by decide);rw [nat_mask5] at this;exact this
theorem Uh (y:Nat) (hy:y < 18446744073709551616):bits BinOp.and IntKind.u64 (y:Int) 4294967295 = ((y % 4294967296:Nat):Int):=by
 have:=bits_and_u64_nat y 4294967295 hy (by decide);rw [nat_mask32] at this;exact this
theorem Atf (x:Nat) (hx:x < 18446744073709551616) (w:World):Calls prog 94 #[.int .u64 x] w fun e w'=>e = .returned (.int .u64 ((x % 2 ^ 32:Nat):Int))/\w = w':=by
 have hm:=Uh x hx;go_enter func94,ntmps94;go_wp2;go_ret
 exact ⟨Bj (by simp),rfl⟩
theorem Ui {x:Nat} {z:Int} (h:z = ((x:Nat):Int)):IntKind.u64.wrap z = ((x % 2 ^ 64:Nat):Int):=by
 subst h;rw [IntKind.wrap_u64];omega
theorem X7 (z:Int):IntKind.u64.wrap z = (((z % 2 ^ 64).toNat:Nat):Int):=by
 rw [IntKind.wrap_u64];have e:(2:Int) ^ 64 = 18446744073709551616:=rfl;rw [e];omega
theorem Agm (z:Int):IntKind.u64.wrap (wrap64 z) = IntKind.u64.wrap z:=by
 rw [IntKind.wrap_u64,IntKind.wrap_u64];unfold wrap64;omega
theorem low_toNat (z:Int):z % 4294967296 = (((z % 2 ^ 32).toNat:Nat):Int):=by
 have e:(2:Int) ^ 32 = 4294967296:=rfl;rw [e];omega
theorem Agn (z:Int):wrap32 z % 4294967296 = z % 4294967296:=by unfold wrap32;omega
theorem Aj3 (x y:Nat) (hx:x < 18446744073709551616) (hy:y < 18446744073709551616) (w:World):Calls prog 113 #[.int .u64 x,.int .u64 y] w fun e w'=>e = .returned (.int .u64 ((Ls 64 x y:Nat):Int))/\w = w':=by
 go_enter func113,ntmps113;go_wp2;go_ret
 exact ⟨Bj (Ui (by simp)),rfl⟩
theorem Aj4 (x y:Nat) (hx:x < 18446744073709551616) (hy:y < 18446744073709551616) (w:World):Calls prog 114 #[.int .u64 x,.int .u64 y] w fun e w'=>e = .returned (.int .u64 ((Kz 64 x y:Nat):Int))/\w = w':=by
 go_enter func114,ntmps114;go_wp2;go_ret
 exact ⟨Bj (by rw [IntKind.wrap_u64];unfold Kz;omega),rfl⟩
theorem Aj5 (x y:Nat) (hx:x < 18446744073709551616) (hy:y < 18446744073709551616) (w:World):Calls prog 115 #[.int .u64 x,.int .u64 y] w fun e w'=>e = .returned (.int .u64 ((Lu 64 x y:Nat):Int))/\w = w':=by
 go_enter func115,ntmps115;go_wp2;go_ret
 exact ⟨Bj (Ui (by simp)),rfl⟩
theorem Atg (x y:Nat) (hx:x < 18446744073709551616) (hy:y < 18446744073709551616) (h0:y ≠ 0) (w:World):Calls prog 116 #[.int .u64 x,.int .u64 y] w fun e w'=>e = .returned (.int .u64 ((Nr 64 x y:Nat):Int))/\w = w':=by
 go_enter func116,ntmps116;go_wp2;go_ret
 exact ⟨Bj (by have hq:=Nat.div_le_self x y;rw [Ui (x:=x / y) (by simp),Nat.mod_eq_of_lt (show x / y < 2 ^ 64 by omega)];rfl),rfl⟩
theorem Ath (x y:Nat) (hx:x < 18446744073709551616) (hy:y < 18446744073709551616) (h0:y ≠ 0) (w:World):Calls prog 117 #[.int .u64 x,.int .u64 y] w fun e w'=>e = .returned (.int .u64 ((La 64 x y:Nat):Int))/\w = w':=by
 go_enter func117,ntmps117;go_wp2;go_ret
 exact ⟨Bj (by simp [La]),rfl⟩
theorem Apa (x y:Nat) (hx:x < 18446744073709551616) (hy:y < 18446744073709551616) (h0:y ≠ 0) (w:World):Calls prog 118 #[.int .u64 x,.int .u64 y] w fun e w'=>e = .returned (.int .u64 ((Hz 64 x y:Nat):Int))/\w = w':=by
 have hs:¬ wrap64 (y:Int) = 0:=by unfold wrap64;omega
 go_enter func118,ntmps118;go_wp2;go_ret
 exact ⟨Bj (by rw [Agm,X7];unfold Hz;rw [Aam hx,Aam hy]),rfl⟩
theorem Apb (x y:Nat) (hx:x < 18446744073709551616) (hy:y < 18446744073709551616) (h0:y ≠ 0) (w:World):Calls prog 119 #[.int .u64 x,.int .u64 y] w fun e w'=>e = .returned (.int .u64 ((Ia 64 x y:Nat):Int))/\w = w':=by
 have hs:¬ wrap64 (y:Int) = 0:=by unfold wrap64;omega
 go_enter func119,ntmps119;go_wp2;go_ret
 exact ⟨Bj (by rw [X7];unfold Ia;rw [Aam hx,Aam hy]),rfl⟩
theorem Apc (x y:Nat) (hx:x < 18446744073709551616) (hy:y < 18446744073709551616) (w:World):Calls prog 120 #[.int .u64 x,.int .u64 y] w fun e w'=>e = .returned (.int .u64 ((Rq 64 x y:Nat):Int))/\w = w':=by
 go_enter func120,ntmps120;go_wp2;go_ret
 exact ⟨Bj (bits_or_u64_nat x y hx hy),rfl⟩
theorem Aj6 (x y:Nat) (hx:x < 18446744073709551616) (hy:y < 18446744073709551616) (w:World):Calls prog 121 #[.int .u64 x,.int .u64 y] w fun e w'=>e = .returned (.int .u64 ((Jw 64 x y:Nat):Int))/\w = w':=by
 go_enter func121,ntmps121;go_wp2;go_ret
 exact ⟨Bj (bits_and_u64_nat x y hx hy),rfl⟩
theorem Aj7 (x y:Nat) (hx:x < 18446744073709551616) (hy:y < 18446744073709551616) (w:World):Calls prog 122 #[.int .u64 x,.int .u64 y] w fun e w'=>e = .returned (.int .u64 ((Jy 64 x y:Nat):Int))/\w = w':=by
 go_enter func122,ntmps122;go_wp2;go_ret
 exact ⟨Bj (bits_xor_u64_nat x y hx hy),rfl⟩
theorem Ati (x y:Nat) (hx:x < 18446744073709551616) (hy:y < 18446744073709551616) (w:World):Calls prog 123 #[.int .u64 x,.int .u64 y] w fun e w'=>e = .returned (.int .u64 ((Pm 64 x y:Nat):Int))/\w = w':=by
 have hm:=Agk y hy;have hk:y % 64 < 64:=Nat.mod_lt _ (by decide);obtain ⟨k,hke⟩:∃ k,k = y % 64:=⟨_,rfl⟩;rw [<- hke] at hm hk;have HK:=hid hke;clear hke;go_enter func123,ntmps123;go_wp2;go_ret
 exact ⟨Bj (by unfold Pm;rw [<- HK.out];exact Ui (by simp)),rfl⟩
theorem Atj (x y:Nat) (hx:x < 18446744073709551616) (hy:y < 18446744073709551616) (w:World):Calls prog 124 #[.int .u64 x,.int .u64 y] w fun e w'=>e = .returned (.int .u64 ((Lc 64 x y:Nat):Int))/\w = w':=by
 have hm:=Agk y hy;have hk:y % 64 < 64:=Nat.mod_lt _ (by decide);obtain ⟨k,hke⟩:∃ k,k = y % 64:=⟨_,rfl⟩;rw [<- hke] at hm hk;have HK:=hid hke;clear hke;go_enter func124,ntmps124;go_wp2;go_ret
 exact ⟨Bj (by unfold Lc;rw [<- HK.out];simp),rfl⟩
theorem Apd (x y:Nat) (hx:x < 18446744073709551616) (hy:y < 18446744073709551616) (w:World):Calls prog 125 #[.int .u64 x,.int .u64 y] w fun e w'=>e = .returned (.int .u64 ((Ib 64 x y:Nat):Int))/\w = w':=by
 have hm:=Agk y hy;have hk:y % 64 < 64:=Nat.mod_lt _ (by decide);obtain ⟨k,hke⟩:∃ k,k = y % 64:=⟨_,rfl⟩;rw [<- hke] at hm hk;have HK:=hid hke;clear hke;go_enter func125,ntmps125;go_wp2;go_ret
 exact ⟨Bj (by unfold Ib;rw [<- HK.out,X7,Aam hx]),rfl⟩
theorem Aj8 (x y:Nat) (hx:x < 18446744073709551616) (hy:y < 18446744073709551616) (w:World):Calls prog 126 #[.int .u64 x,.int .u64 y] w fun e w'=>e = .returned (.int .u64 ((Ld 64 x y:Nat):Int))/\w = w':=by
 go_enter func126,ntmps126;go_wp2;go_ret
 exact ⟨Bj (by rw [IntKind.wrap_u64];unfold Ld;omega),rfl⟩
theorem Aj9 (x y:Nat) (hx:x < 18446744073709551616) (hy:y < 18446744073709551616) (w:World):Calls prog 127 #[.int .u64 x,.int .u64 y] w fun e w'=>e = .returned (.int .u64 ((L6 64 x y:Nat):Int))/\w = w':=by
 go_enter func127,ntmps127;go_wp2;go_ret
 exact ⟨Bj (rfl),rfl⟩
theorem Alu (x y:Nat) (hx:x < 4294967296) (hy:y < 4294967296) (h0:y ≠ 0) (w:World):Calls prog 128 #[.int .u64 x,.int .u64 y] w fun e w'=>e = .returned (.int .u64 ((Nr 32 x y:Nat):Int))/\w = w':=by
 have hlx:bits BinOp.and IntKind.u64 (x:Int) 4294967295 = x:=by rw [Uh x (by omega)];omega
 have hly:bits BinOp.and IntKind.u64 (y:Int) 4294967295 = y:=by rw [Uh y (by omega)];omega
 go_enter func128,ntmps128;go_wp2;go_ret
 exact ⟨Bj (by have hq:=Nat.div_le_self x y;rw [Ui (x:=x / y) (by simp),Nat.mod_eq_of_lt (show x / y < 2 ^ 64 by omega)];rfl),rfl⟩
theorem Alv (x y:Nat) (hx:x < 4294967296) (hy:y < 4294967296) (h0:y ≠ 0) (w:World):Calls prog 129 #[.int .u64 x,.int .u64 y] w fun e w'=>e = .returned (.int .u64 ((La 32 x y:Nat):Int))/\w = w':=by
 have hlx:bits BinOp.and IntKind.u64 (x:Int) 4294967295 = x:=by rw [Uh x (by omega)];omega
 have hly:bits BinOp.and IntKind.u64 (y:Int) 4294967295 = y:=by rw [Uh y (by omega)];omega
 go_enter func129,ntmps129;go_wp2;go_ret
 exact ⟨Bj (by simp [La]),rfl⟩
theorem Ago (x y:Nat) (hx:x < 4294967296) (hy:y < 4294967296) (h0:y ≠ 0) (w:World):Calls prog 130 #[.int .u64 x,.int .u64 y] w fun e w'=>e = .returned (.int .u64 ((Hz 32 x y:Nat):Int))/\w = w':=by
 have hs:¬ wrap32 (y:Int) = 0:=by unfold wrap32;omega
 go_enter func130,ntmps130;go_wp2;go_ret
 exact ⟨Bj (by rw [Agn,low_toNat];unfold Hz;rw [Aan hx,Aan hy]),rfl⟩
theorem Agp (x y:Nat) (hx:x < 4294967296) (hy:y < 4294967296) (h0:y ≠ 0) (w:World):Calls prog 131 #[.int .u64 x,.int .u64 y] w fun e w'=>e = .returned (.int .u64 ((Ia 32 x y:Nat):Int))/\w = w':=by
 have hs:¬ wrap32 (y:Int) = 0:=by unfold wrap32;omega
 go_enter func131,ntmps131;go_wp2;go_ret
 exact ⟨Bj (by rw [low_toNat];unfold Ia;rw [Aan hx,Aan hy]),rfl⟩
theorem Aly (x y:Nat) (hx:x < 4294967296) (hy:y < 4294967296) (w:World):Calls prog 132 #[.int .u64 x,.int .u64 y] w fun e w'=>e = .returned (.int .u64 ((x * 2 ^ (y % 32) % 2 ^ 64:Nat):Int))/\w = w':=by
 have hm:=Agl y (by omega);have hk:y % 32 < 32:=Nat.mod_lt _ (by decide);obtain ⟨k,hke⟩:∃ k,k = y % 32:=⟨_,rfl⟩;rw [<- hke] at hm hk;have HK:=hid hke;clear hke;go_enter func132,ntmps132;go_wp2;go_ret
 exact ⟨Bj (by rw [<- HK.out];exact Ui (by simp)),rfl⟩
theorem Alz (x y:Nat) (hx:x < 4294967296) (hy:y < 4294967296) (w:World):Calls prog 133 #[.int .u64 x,.int .u64 y] w fun e w'=>e = .returned (.int .u64 ((Lc 32 x y:Nat):Int))/\w = w':=by
 have hm:=Agl y (by omega);have hk:y % 32 < 32:=Nat.mod_lt _ (by decide);obtain ⟨k,hke⟩:∃ k,k = y % 32:=⟨_,rfl⟩;rw [<- hke] at hm hk;have HK:=hid hke;clear hke;have hlx:bits BinOp.and IntKind.u64 (x:Int) 4294967295 = x:=by rw [Uh x (by omega)];omega
 go_enter func133,ntmps133;go_wp2;go_ret
 exact ⟨Bj (by unfold Lc;rw [<- HK.out];simp),rfl⟩
theorem Agq (x y:Nat) (hx:x < 4294967296) (hy:y < 4294967296) (w:World):Calls prog 134 #[.int .u64 x,.int .u64 y] w fun e w'=>e = .returned (.int .u64 ((Ib 32 x y:Nat):Int))/\w = w':=by
 have hm:=Agl y (by omega);have hk:y % 32 < 32:=Nat.mod_lt _ (by decide);obtain ⟨k,hke⟩:∃ k,k = y % 32:=⟨_,rfl⟩;rw [<- hke] at hm hk;have HK:=hid hke;clear hke;go_enter func134,ntmps134;go_wp2;go_ret
 exact ⟨Bj (by unfold Ib;rw [<- HK.out,low_toNat,Aan hx]),rfl⟩
def Ava (f:FuncId) (args:Array Value) (v:Int):Prop:=
 ∀ w:World,Calls prog f args w fun e w'=>e = .returned (.int .i64 v)/\Below w.heap.size w w'
theorem Ava.same {f:FuncId} {args:Array Value} {v:Int} (h:∀ w:World,Calls prog f args w fun e w'=>e = .returned (.int .i64 v)/\w = w'):Ava f args v:=
 fun w=>(h w).mono fun e w' ⟨he,hw⟩=>⟨he,by rw [<- hw];exact Below.refl _ _⟩
def ext (k:Nat) (a:Int):Int:=G8 k (Ag k a)
theorem Axz (a:Int):wrap64 (IntKind.i8.wrap a) = ext 8 a:=by
 have h:=Nb a;have hl:=Eo a;have e:((Ag 8 a:Nat):Int) = a % 256:=by unfold Ag;omega
 unfold ext G8;have e1:(2:Nat) ^ (8 - 1) = 128:=rfl;have e2:(2:Int) ^ 8 = 256:=rfl;rw [e1,e2]
 have hw:IntKind.i8.wrap a = if a % 256 ≥ 128 then a % 256 - 256 else a % 256:=by
  simp [IntKind.wrap,IntKind.bits,IntKind.signed]
 rw [hw,IntWalk.wrap64_in _ (by split <;> omega)]
 split <;> split <;> omega
theorem Avb (a:Int):wrap64 (IntKind.i16.wrap a) = ext 16 a:=by
 have h:=Nb a;have hl:=Eo a;have e:((Ag 16 a:Nat):Int) = a % 65536:=by unfold Ag;omega
 unfold ext G8;have e1:(2:Nat) ^ (16 - 1) = 32768:=rfl;have e2:(2:Int) ^ 16 = 65536:=rfl;rw [e1,e2]
 have hw:IntKind.i16.wrap a = if a % 65536 ≥ 32768 then a % 65536 - 65536 else a % 65536:=by
  simp [IntKind.wrap,IntKind.bits,IntKind.signed]
 rw [hw,IntWalk.wrap64_in _ (by split <;> omega)]
 split <;> split <;> omega
theorem Ax0 (a:Int):wrap64 (wrap32 a) = ext 32 a:=by
 have h:=Nb a;have hl:=Eo a;have e:((Ag 32 a:Nat):Int) = a % 4294967296:=by unfold Ag;omega
 unfold ext G8;have e1:(2:Nat) ^ (32 - 1) = 2147483648:=rfl;have e2:(2:Int) ^ 32 = 4294967296:=rfl;rw [e1,e2];have hr : -2147483648 <= wrap32 a/\wrap32 a <= 2147483647:=by unfold wrap32;omega
 rw [IntWalk.wrap64_in _ (by omega)];unfold wrap32
 split <;> omega
theorem X8 (k:Nat) (a:Int) (hk:0 < k/\k <= 32) : -2147483648 <= ext k a/\ext k a <= 2147483647:=by
 have hl:=Dl k a;have hp:2 ^ k = 2 * 2 ^ (k - 1):=by rw [<- Nat.pow_succ'];congr 1;omega
 have hle:2 ^ (k - 1) <= 2 ^ 31:=Nat.pow_le_pow_right (by decide) (by omega);have hpi:(2:Int) ^ k = ((2 ^ k:Nat):Int):=by simp
 unfold ext G8;rw [hpi]
 split <;> omega
theorem Adi (k:Int) (Ad:Bool) (a:Int) (h8:k ≠ 8) (h16:k ≠ 16) (h32:k ≠ 32) (w:World) :
 Calls prog 70 #[.int .i64 k,.bool Ad,.int .i64 a] w fun e w'=>e = .returned (.int .i64 0)/\w = w':=by
 have t8:(k == 8) = false:=by simpa using h8
 have t16:(k == 16) = false:=by simpa using h16
 have t32:(k == 32) = false:=by simpa using h32
 clear h8 h16 h32
 cases Ad
 all_goals
  go_enter func70,ntmps70;go_wp2;go_ret
  exact ⟨rfl,rfl⟩
theorem Aby (a:Int) (w:World):Calls prog 70 #[.int .i64 8,.bool false,.int .i64 a] w fun e w'=>e = .returned (.int .i64 (ext 8 a))/\w = w':=by
 go_enter func70,ntmps70;go_wp2;go_ret
 exact ⟨Bj (Axz a),rfl⟩
theorem zk (a:Int) (w:World):Calls prog 70 #[.int .i64 16,.bool false,.int .i64 a] w fun e w'=>e = .returned (.int .i64 (ext 16 a))/\w = w':=by
 go_enter func70,ntmps70;go_wp2;go_ret
 exact ⟨Bj (Avb a),rfl⟩
theorem zl (a:Int) (w:World):Calls prog 70 #[.int .i64 32,.bool false,.int .i64 a] w fun e w'=>e = .returned (.int .i64 (ext 32 a))/\w = w':=by
 go_enter func70,ntmps70;go_wp2;go_ret
 exact ⟨Bj (Ax0 a),rfl⟩
theorem Adj (a:Int) (w:World):Calls prog 70 #[.int .i64 8,.bool true,.int .i64 a] w fun e w'=>e = .returned (.int .i64 (ext 8 a % 4294967296))/\w = w':=by
 go_enter func70,ntmps70;go_wp2;go_ret
 exact ⟨Bj (by rw [Axz]),rfl⟩
theorem Abz (a:Int) (w:World):Calls prog 70 #[.int .i64 16,.bool true,.int .i64 a] w fun e w'=>e = .returned (.int .i64 (ext 16 a % 4294967296))/\w = w':=by
 go_enter func70,ntmps70;go_wp2;go_ret
 exact ⟨Bj (by rw [Avb]),rfl⟩
theorem Ab0 (a:Int) (w:World):Calls prog 70 #[.int .i64 32,.bool true,.int .i64 a] w fun e w'=>e = .returned (.int .i64 0)/\w = w':=by
 go_enter func70,ntmps70;go_wp2;go_ret
 exact ⟨rfl,rfl⟩
def Dv (n:Nat) (g:Nat->Int):List Value:=(List.range n).map fun i=>Value.int .u8 (g i)
theorem Hr {n:Nat} (g:Nat->Int) {i:Nat} (h:i < n):(Dv n g)[i]? = some (.int .u8 (g i)):=by
 simp [Dv,h]
theorem Iu {n:Nat} {g h:Nat->Int} (e:∀ t,t < n->g t = h t):Dv n g = Dv n h:=by
 unfold Dv;refine List.map_congr_left fun t ht=>?_;rw [e t (List.mem_range.1 ht)]
theorem ig (n:Nat) (g:Nat->Int) (j:Nat) (v:Int):(Dv n g).set j (.int .u8 v) = Dv n (fun t=>if t = j then v else g t):=by
 apply List.ext_getElem?
 intro i;rw [List.getElem?_set]
 by_cases hi:i < n
 ·by_cases hj:j = i
  ·subst hj;simp [Dv,hi]
  ·simp [Dv,hi,hj,Ne.symm hj]
 ·simp [Dv,hi];intro h;omega
theorem Al0 (n:Nat):(madeCells #[Value.int .u8 0] n).toList = Dv n (fun _=>0):=by
 simp [madeCells,Dv];intro a _;rw [Nat.mod_one];rfl
theorem Qe (n:Nat) (hn:n <= 140737488355328) (w:World):(Instr.makeSlice 22 (.int .i64 n) (.int .i64 n)).run prog w =
 .ok (.slice (some ⟨w.heap.size,0,none⟩) n n) (w.alloc (.cells (Dv n (fun _=>0)).toArray 5)):=by
 obtain ⟨i,hi,hz,hs,hb⟩:=info_parts Abm;have h:=run_make (P:=prog) w 22 5 i (.int .u8 0) underlying22 hi hz .i64 .i64 n n (by omega) (by omega) (by rw [hb];omega) (by omega);rw [h];simp only [Int.toNat_natCast,hs,Nat.mul_one,Value.cells];rw [<- Al0]
theorem Ape {wr:World} {n i b:Nat} {e:TypeId} {g:Nat->Int} {v:Int} (hR:Row wr b e (Dv n fun t=>if t < i then g t else 0)) (hv:v = g i) :
 Row (wr.setCell ⟨b,i,none⟩ (.int .u8 v)) b e (Dv n fun t=>if t < i + 1 then g t else 0):=by
 have h:=hR.put i (.int .u8 v);rw [ig] at h
 rwa [Iu (h:=fun t=>if t < i + 1 then g t else 0)] at h
 intro t _
 by_cases ht:t = i
 ·subst ht;simp [hv]
 ·have e2:(t < i) ↔ (t < i + 1):=by omega
  simp [ht,e2]
theorem X9 {wr:World} {n b:Nat} {e:TypeId} {g:Nat->Int} (hR:Row wr b e (Dv n fun t=>if t < n then g t else 0)):Row wr b e (Dv n g):=by
 rwa [Iu (h:=g) (fun t ht=>if_pos ht)] at hR
theorem Rz (w:World) (n:Nat) (e:TypeId) (g:Nat->Int):Row (w.alloc (.cells (Dv n fun _=>0).toArray e)) w.heap.size e (Dv n fun t=>if t < 0 then g t else 0):=by
 rw [Iu (h:=fun _=>0) (fun t _=>if_neg (by omega))];exact Row.made _ _ _
def num:List Int->Nat
 | []=>0
 | x :: r=>x.toNat + 256 * num r
theorem Apf {xs:List Int} (h:Ah xs):num xs < 256 ^ xs.length:=by
 induction xs with
 | nil=>simp [num]
 | cons x r ih =>
   have h1:=h x (by simp);have h2:=ih fun z hz=>h z (by simp [hz]);simp only [num,List.length_cons,Nat.pow_succ];omega
theorem Agr (xs ys:List Int):num (xs ++ ys) = num xs + 256 ^ xs.length * num ys:=by
 induction xs with
 | nil=>simp [num]
 | cons x r ih =>
   simp only [List.cons_append,num,ih,List.length_cons,Nat.pow_succ,Nat.mul_add];have:256 * (256 ^ r.length * num ys) = 256 ^ r.length * 256 * num ys:=by rw [Nat.mul_comm (256 ^ r.length) 256,Nat.mul_assoc]
   omega
theorem take_snoc (xs:List Int) (k:Nat) (h:k < xs.length):xs.take (k + 1) = xs.take k ++ [xs.getD k 0]:=by
 rw [List.take_succ_eq_append_getElem h];simp [List.getD,h]
theorem Apg (xs:List Int) (k:Nat) (h:k < xs.length):num (xs.take (k + 1)) = num (xs.take k) + 256 ^ k * (xs.getD k 0).toNat:=by
 rw [take_snoc xs k h,Agr,List.length_take,Nat.min_eq_left (by omega)];simp [num]
theorem Ags (k:Nat):256 ^ k = 2 ^ (8 * k):=by rw [Nat.pow_mul]
theorem Si {xs:List Int} (h:Ah xs) (k:Nat) (hk:k <= xs.length):num (xs.take k) < 2 ^ (8 * k):=by
 have:=Apf (h.take k)
 rwa [List.length_take,Nat.min_eq_left hk,Ags] at this
theorem Avz {xs:List Int} (h:Ah xs) (k:Nat) (hk:k < xs.length):num (xs.take k) ||| (xs.getD k 0).toNat * 2 ^ (8 * k) = num (xs.take (k + 1)):=by
 rw [Apg xs k hk,Ags,Nat.mul_comm (xs.getD k 0).toNat,Nat.or_comm,<- Nat.two_pow_add_eq_or_of_lt (Si h k (by omega))];omega
def Vl (sg:Bool) (xs:List Int):Int:=
 if xs = []\/8 < xs.length then 0 else if sg then G8 (8 * xs.length) (num xs) else wrap64 (num xs)
theorem Atk (c:Int) (h:0 <= c/\c <= 255) (k:Nat) (hk:k < 8):IntKind.u64.wrap (c * 2 ^ (8 * k)) = ((c.toNat * 2 ^ (8 * k):Nat):Int):=by
 have e:c * 2 ^ (8 * k) = ((c.toNat * 2 ^ (8 * k):Nat):Int):=by
  rw [Int.natCast_mul,Int.toNat_of_nonneg h.1];simp
 rw [e,IntKind.wrap_u64];have h2:2 ^ (8 * k) <= 2 ^ 56:=Nat.pow_le_pow_right (by decide) (by omega);have h3:c.toNat * 2 ^ (8 * k) <= 255 * 2 ^ 56:=Nat.mul_le_mul (by omega) h2;omega
theorem Aph (n x:Nat) (hn:1 <= n) (hn8:n <= 8) (hx:x < 2 ^ (8 * n)):wrap64 (IntKind.u64.wrap ((x:Int) * 2 ^ (64 - 8 * n))) / 2 ^ (64 - 8 * n) = G8 (8 * n) x:=by
 rw [IntKind.wrap_u64];unfold wrap64 G8;have hh:n = 1\/n = 2\/n = 3\/n = 4\/n = 5\/n = 6\/n = 7\/n = 8:=by omega
 rcases hh with rfl | rfl | rfl | rfl | rfl | rfl | rfl | rfl
 all_goals
  simp only [Nat.reduceMul,Nat.reduceSub,Nat.reducePow,Int.reducePow,Int.pow_zero] at hx ⊢
  split <;> omega
theorem Apj {xs:List Int} (hx:Ah xs) (k:Nat) (hk:k < xs.length) (hk8:k < 8) (z:Nat) (hz:z = num (xs.take k)) (c:Int) (hc:c = xs.getD k 0) :
 bits .or .u64 (z:Int) (IntKind.u64.wrap (c * 2 ^ (8 * k))) = ((num (xs.take (k + 1)):Nat):Int):=by
 have hb:=hx.at' k;rw [<- hc] at hb
 have hz1:z < 2 ^ 64:=by
  rw [hz];exact Nat.lt_of_lt_of_le (Si hx k (by omega)) (Nat.pow_le_pow_right (by decide) (by omega))
 have h2:2 ^ (8 * k) <= 2 ^ 56:=Nat.pow_le_pow_right (by decide) (by omega);have h3:c.toNat * 2 ^ (8 * k) <= 255 * 2 ^ 56:=Nat.mul_le_mul (by omega) h2;rw [Atk c hb k hk8,bits_or_u64_nat z _ (by omega) (by omega),hz,hc,Avz hx k hk]
theorem Av0 (v:Value) (sg:Bool) (xs:List Int) (w:World) (h:Held w v xs) :
 Calls prog 103 #[v,.bool sg] w fun e w'=>e = .returned (.int .i64 (Vl sg xs))/\w = w':=by
 have hx:=h.bytes;obtain ⟨_,⟨rfl,hv⟩ | ⟨hp,b,off,cap,rfl,hc,hm,hlt,hcell⟩⟩:=h
 ·have hv' : ∃ a cap, v = .slice a 0 cap := by
   rcases hv with rfl | ⟨a,cap,rfl,_⟩
   ·exact ⟨_,_,rfl⟩
   ·exact ⟨_,_,rfl⟩
  obtain ⟨a,cap,rfl⟩:=hv';go_enter func103,ntmps103;go_wp2;go_ret
  exact ⟨rfl,rfl⟩
 ·unfold maxLen at hm
  by_cases h8:8 < xs.length
  ·have e:Vl sg xs = 0:=by unfold Vl;rw [if_pos (Or.inr h8)]
   have HE:=hid e;clear e;go_enter func103,ntmps103;go_wp2;go_ret
   exact ⟨Bj HE.out.symm,rfl⟩
  ·have hlen:xs.length <= 8:=by omega
   have e:Vl sg xs = if sg then G8 (8 * xs.length) (num xs) else wrap64 (num xs):=by
    unfold Vl;rw [if_neg (fun h=>h.elim (fun h=>by subst h;simp at hp) (fun h=>by omega))]
   have HE:=hid e;have HB:=hid hx;clear e h8 hx;obtain ⟨n,hn⟩:∃ n,n = xs.length:=⟨_,rfl⟩;rw [<- hn] at hp hc hcell hlen ⊢;have HN:=hid hn;clear hn;go_enter func103,ntmps103;go_wp2
   go_loop [5,19] (fun z s=>∃ k:Nat,k <= n/\s = .int .i64 k/\z = .int .u64 (num (xs.take k):Nat)) (fun _ s=>n - (intOf s).toNat)
   case atStart=>exact ⟨0,Nat.zero_le _,rfl,rfl⟩
   case round=>
    obtain ⟨k,hk,rfl,rfl⟩:=hrel
    by_cases hk2:k < n
    ·have hcx:=hcell k hk2;have hby:=HB.out.at' k;obtain ⟨c,hc2⟩:∃ c,c = xs.getD k 0:=⟨_,rfl⟩;rw [<- hc2] at hcx hby;have HC:=hid hc2;clear hc2;obtain ⟨z,hz⟩:∃ z,z = num (xs.take k):=⟨_,rfl⟩;rw [<- hz];have HZ:=hid hz;clear hz hcell;go_wp2
     go_round
     case rel=>exact ⟨k + 1,by omega,by go_num,by rw [Apj HB.out k (by have:=HN.out;omega) (by omega) z HZ.out c HC.out]⟩
     case measure=>simp [intOf];omega
    ·obtain rfl:k = n:=by omega
     have ht:xs.take k = xs:=List.take_of_length_le (by have:=HN.out;omega)
     have hnl:num xs < 2 ^ (8 * k):=by
      have:=Si HB.out k (by have:=HN.out;omega)
      rwa [ht] at this
     have HT:=hid ht;have HNL:=hid hnl;clear ht hnl
     cases sg
     ·go_wp2;go_ret
      exact ⟨Bj (by rw [HE.out,HT.out,if_neg (by simp)]),rfl⟩
     ·go_wp2;go_ret
      exact ⟨Bj (by rw [HE.out,HT.out,<- HN.out,if_pos trivial];exact Aph k _ hp hlen (HNL.out)),rfl⟩
def Wq (k:Nat) (v:Int):List Int:=(List.range k).map fun i=>v / 2 ^ (8 * i) % 256
theorem G9 (k:Nat) (v:Int):(Wq k v).length = k:=by simp [Wq]
theorem Vm (k:Nat) (v:Int):Ah (Wq k v):=by
 intro x hx;obtain ⟨i,_,rfl⟩:=List.mem_map.1 hx;omega
theorem Apk {k i:Nat} (v:Int) (h:i < k):(Wq k v).getD i 0 = v / 2 ^ (8 * i) % 256:=by
 simp [Wq,List.getD,h]
theorem Al1 {w:World} {k b:Nat} {v:Int} {e:TypeId} (hR:Row w b e (Dv k fun i=>v / 2 ^ (8 * i) % 256)) (hk:k <= 8):Held w (.slice (some ⟨b,0,none⟩) k k) (Wq k v):=by
 have:=Z8 (xs:=Wq k v) (cap:=k) hR (Vm k v) (by rw [G9];exact Nat.le_refl _) (by unfold maxLen;omega) (fun i hi=>by
  rw [G9] at hi;rw [Hr _ hi,Apk v hi])
 rwa [G9] at this
def Apl (w:World) (k:Nat) (v:Int) (e:Ending) (w':World):Prop:=
 ∃ b,e = .returned (.slice (some ⟨b,0,none⟩) k k)/\w.heap.size <= b/\Row w' b 5 (Dv k fun i=>v / 2 ^ (8 * i) % 256)/\Below w.heap.size w w'
theorem Atl (x:Int):IntKind.u8.wrap x = x % 256:=by simp [IntKind.wrap,IntKind.bits,IntKind.signed]
theorem Apm (k:Nat) (kk v:Int) (hkk:kk = k) (h1:1 <= k) (h8:k <= 8) (w:World) :
 Calls prog 77 #[.int .i64 kk,.int .i64 v] w (Apl w k v):=by
 subst hkk;have hmk:=Qe k (by omega);go_enter func77,ntmps77;go_wp2
 go_loopw [17] (fun s wr=>∃ i:Nat,i <= k/\s = .int .i64 i/\Row wr w.heap.size 5 (Dv k fun t=>if t < i then v / 2 ^ (8 * t) % 256 else 0)/\Below w.heap.size w wr) (fun s _=>k - (intOf s).toNat)
 case atStart=>exact ⟨0,Nat.zero_le _,rfl,Rz _ _ _ _,(Below.refl _ _).alloc nl _⟩
 case round=>
  obtain ⟨i,hi,rfl,hR,hB⟩:=hrel
  by_cases hlt:i < k
  ·have hc:=(hR.cell i).trans (Hr _ hlt);have hf:=hR.free i;go_wp2
   go_roundw
   case rel=>
    exact ⟨i + 1,hlt,by go_num,Ape hR (Atl _),hB.setCell nl _⟩
   case measure=>simp [intOf];omega
  ·obtain rfl:i = k:=by omega
   go_wp2;go_ret
   exact ⟨_,rfl,Nat.le_refl _,X9 hR,hB⟩
theorem Held.open {w:World} {v:Value} {xs:List Int} (h:Held w v xs):∃ a cap,v = .slice a xs.length cap/\xs.length <= cap/\cap <= maxLen/\(∀ k,k <= xs.length->Held w (.slice a k cap) (xs.take k)) /\
 (xs.length = 0/\(a = none/\cap = 0\/∃ a',a = some a')\/∃ b off,a = some ⟨b,off,none⟩/\b < w.heap.size/\∀ i,i < xs.length->w.cell? ⟨b,off + i,none⟩ = some (.int .u8 (xs.getD i 0))):=by
 have hx:=h.bytes;obtain ⟨_,⟨rfl,rfl | ⟨a,cap,rfl,hcm⟩⟩ | ⟨hp,b,off,cap,rfl,hcap,hcm,hlt,hcell⟩⟩:=h
 ·exact ⟨_, _, rfl, Nat.le_refl _, by decide, fun k hk => by obtain rfl : k = 0 := by simpa using hk
                                                             exact Z7 w,Or.inl ⟨rfl,Or.inl ⟨rfl,rfl⟩⟩⟩
 ·exact ⟨_, _, rfl, Nat.zero_le _, hcm, fun k hk => by obtain rfl : k = 0 := by simpa using hk
                                                       exact ⟨Ah.nil,Or.inl ⟨rfl,Or.inr ⟨_,_,rfl,hcm⟩⟩⟩,Or.inl ⟨rfl,Or.inr ⟨_,rfl⟩⟩⟩
 ·refine ⟨_,_,rfl,hcap,hcm,fun k hk=>⟨hx.take k,?_⟩,Or.inr ⟨b,off,rfl,hlt,hcell⟩⟩;have hkl:(xs.take k).length = k:=by rw [List.length_take];omega
  by_cases hk0:0 < k
  ·refine Or.inr ⟨by omega,b,off,cap,by rw [hkl],by omega,hcm,hlt,fun i hi=>?_⟩;rw [hkl] at hi;rw [hcell i (by omega)];simp [List.getD,hi]
  ·obtain rfl:k = 0:=by omega
   exact Or.inl ⟨by simp,Or.inr ⟨_,_,rfl,hcm⟩⟩
theorem Apn (a:Option Addr) (len cap l h:Nat) (h1:l <= h) (h2:h <= cap) (w:World) :
 (Instr.slice 22 (.slice a len cap) (some (.int .i64 l)) (some (.int .i64 h)) none).run prog w = .ok (.slice (if cap = l then a else a.map (·.add (l * 1))) (h - l) (cap - l)) w:=by
 have hs:(sizeOf (prog.elem 22)).run prog w = .ok 1 w:=by kernel_rfl
 rw [run_slice_lh w 22 a len cap (by kernel_rfl) .i64 .i64 l h (by omega) (by omega) (by omega),hs];rfl
def mark (i:Nat):Int:=(151 + 7 * (i:Int)) % 256
theorem iq (i:Nat):0 <= mark i/\mark i <= 255:=by unfold mark;omega
theorem Apo (x:Int):IntKind.u8.wrap x = x % 256:=by simp [IntKind.wrap,IntKind.bits,IntKind.signed]
def Om (xs:List Int) (i t:Nat):Int:=if t < xs.length then xs.getD t 0 else if t < xs.length + i then mark (t - xs.length) else 0
def Sj (k:Nat) (g:Nat->Int):List Int:=(List.range k).map g
theorem Je (k:Nat) (g:Nat->Int):(Sj k g).length = k:=by simp [Sj]
theorem Apq {k i:Nat} (g:Nat->Int) (h:i < k):(Sj k g).getD i 0 = g i:=by simp [Sj,List.getD,h]
theorem Adk (k:Nat) (g:Nat->Int) (h:∀ t,0 <= g t/\g t <= 255):Ah (Sj k g):=fun x hx=>by
 obtain ⟨i,_,rfl⟩:=List.mem_map.1 hx;exact h i
theorem Qg {w:World} {b L k:Nat} {g:Nat->Int} {e:TypeId} (hR:Row w b e (Dv L g)) (hg:∀ t,0 <= g t/\g t <= 255) (hk:k <= L) (hL:L <= maxLen):Held w (.slice (some ⟨b,0,none⟩) k L) (Sj k g):=by
 have:=Z8 (xs:=Sj k g) (cap:=L) hR (Adk k g hg) (by rw [Je];exact hk) hL (fun i hi=>by
  rw [Je] at hi;rw [Hr _ (by omega),Apq g hi])
 rwa [Je] at this
theorem Ya {P:Program} {w:World} {ops:Array Oper} {rest:List Oper} {o:Oper} {a:Act} {Q:Exit->Act->World->Prop} (hgd:o.guard = none) (d s:Operand) (dT sT:TypeId)
 (ho:o.op = .call { callee:=.builtin .copy,args:=#[d,s],argTypes:=#[dT,sT] }) (elem:TypeId) (hu:P.underlying dT = some (.slice elem)) (hsz:(P.info? elem).map (·.size) = some 1)
 (dp sp:Option Addr) (dLen dCap sLen sCap:Nat) (hd:a.eval d = .slice dp dLen dCap) (hs:a.eval s = .slice sp sLen sCap)
 (g off:Nat) (cur:List Value) (t:TypeId) (hg:w.heap[g]? = some (.cells cur.toArray t (0,0))) (cs:List Value) (hn:cs.length = Nat.min sLen dLen)
 (hpos:0 < cs.length->dp = some ⟨g,off,none⟩/\∃ ad,sp = some ad/\∀ j v,cs[j]? = some v->w.cell? (ad.add j) = some v)
 (hfit:off + cs.length <= cur.length) (h1:∀ v ∈ cs,v.oneCell' = true)
 (h:∀ w',Hid (w'.heap[g]? = some (.cells (splice cur off cs).toArray t (0,0)))->(∀ q,q ≠ g->w'.heap[q]? = w.heap[q]?)->Below g w w'->wpList P ops Q rest (a.put o.dst (goInt cs.length)) w') :
 wpList P ops Q (o :: rest) a w:=by
 by_cases h0:cs.length = 0
 ·obtain rfl:cs = []:=List.eq_nil_of_length_eq_zero h0;refine wpList_copy_nothing hgd d s dT sT ho elem hu hsz dp sp dLen dCap sLen sCap hd hs (by simpa using hn.symm) ?_;exact h w (show _ = _ by simpa [splice] using hg) (fun _ _=>rfl) (Below.refl _ _)
 ·obtain ⟨rfl,ad,rfl,hsrc⟩:=hpos (by omega);refine wpList_copy_own hgd d s dT sT ho elem hu hsz g off dLen dCap ad sLen sCap hd hs cur.toArray t hg cs hn hsrc (by simpa using hfit) h1 ?_;exact h _ (show _ = _ by simpa [splice] using setRow_heap w g _ _ t _ hg) (fun q hq=>setRow_other w g q _ hq) (below_setRow (Below.refl _ _) nl _)
def Oq (f:Nat->Int) (xs:List Int) (i t:Nat):Int:=if t < xs.length then xs.getD t 0 else if t < xs.length + i then mark (t - xs.length) else f t
theorem Zb {f:Nat->Int} (hf:∀ t,0 <= f t/\f t <= 255) {xs:List Int} (h:Ah xs) (i t:Nat):0 <= Oq f xs i t/\Oq f xs i t <= 255:=by
 unfold Oq
 split
 ·exact h.at' t
 ·split
  ·exact iq _
  ·exact hf t
theorem Zc (f:Nat->Int) (xs:List Int) (i:Nat):Sj xs.length (Oq f xs i) = xs:=by
 apply List.ext_getElem?
 intro t
 by_cases ht:t < xs.length
 ·simp [Sj,Oq,ht,List.getD]
 ·rw [List.getElem?_eq_none (by rw [Je];omega),List.getElem?_eq_none (by omega)]
def Room (w:World) (hb B:Nat):Prop:=
 ∃ ra L,Row w hb 32 [.slice ra L L]/\(ra = none/\L = 0\/∃ (rb:Nat) (f:Nat->Int),ra = some ⟨rb,0,none⟩/\hb < rb/\rb < B/\L <= 4194504/\(∀ t,0 <= f t/\f t <= 255)/\Row w rb 5 (Dv L f))
def Out (w:World) (hb rb L:Nat) (f:Nat->Int) (xs:List Int):Prop:=
 2 * xs.length + 70 <= L/\L <= 4194504/\hb < rb/\(∀ t,0 <= f t/\f t <= 255)/\Row w hb 32 [.slice (some ⟨rb,0,none⟩) L L]/\Row w rb 5 (Dv L (Oq f xs (xs.length + 70)))
theorem Out.held {w:World} {hb rb L:Nat} {f:Nat->Int} {xs:List Int} (h:Out w hb rb L f xs) (hx:Ah xs):Held w (.slice (some ⟨rb,0,none⟩) xs.length L) xs:=by
 obtain ⟨h1,h2,_,hf,_,hU⟩:=h;have:=Qg (k:=xs.length) hU (Zb hf hx _) (by omega) (by unfold maxLen;omega)
 rwa [Zc] at this
theorem Out.below {w w':World} {hb rb L:Nat} {f:Nat->Int} {xs:List Int} (h:Out w hb rb L f xs) (hb':Below w.heap.size w w'):Out w' hb rb L f xs:=
 ⟨h.1,h.2.1,h.2.2.1,h.2.2.2.1,h.2.2.2.2.1.below hb' h.2.2.2.2.1.lt,h.2.2.2.2.2.below hb' h.2.2.2.2.2.lt⟩
theorem Room.below {w w':World} {hb B:Nat} (h:Room w hb B) (hb':Below w.heap.size w w'):Room w' hb B:=by
 obtain ⟨ra,L,hR,h⟩:=h;refine ⟨ra,L,hR.below hb' hR.lt,?_⟩
 rcases h with h | ⟨rb,f,h1,h2,h3,h4,h5,h6⟩
 ·exact Or.inl h
 ·exact Or.inr ⟨rb,f,h1,h2,h3,h4,h5,h6.below hb' h6.lt⟩
theorem Held.kept {w w':World} {v:Value} {xs:List Int} (h:Held w v xs) (hs:w.heap.size <= w'.heap.size) (hk:∀ b,v.ownBlock = some b->w'.heap[b]? = w.heap[b]?):Held w' v xs:=by
 obtain ⟨h0,h | ⟨hp,b,off,cap,rfl,hc,hm,hlt,hcell⟩⟩:=h
 ·exact ⟨h0,Or.inl h⟩
 ·exact ⟨h0,Or.inr ⟨hp,b,off,cap,rfl,hc,hm,Nat.lt_of_lt_of_le hlt hs,fun i hi=>(World.cell?_of_block (hk b rfl)).trans (hcell i hi)⟩⟩
def Aps:List MapEntry:=[⟨.int .i64 1,.iface 190 (.agg #[.int .i64 0,.int .i64 65535]),0⟩,⟨.int .i64 2,.iface 192 (.agg #[.int .i64 2]),1⟩,⟨.int .i64 3,.iface 192 (.agg #[.int .i64 1]),2⟩,⟨.int .i64 4,.iface 193 (.agg #[]),3⟩,⟨.int .i64 5,.iface 190 (.agg #[.int .i64 (-1),.int .i64 65534]),4⟩,⟨.int .i64 6,.iface 195 (.agg #[.int .i64 1,.int .i64 (-1),.int .i64 0,.bool false,.bool false]),5⟩,⟨.int .i64 7,.iface 195 (.agg #[.int .i64 2,.int .i64 0,.int .i64 0,.bool false,.bool false]),6⟩,⟨.int .i64 8,.iface 195 (.agg #[.int .i64 2,.int .i64 0,.int .i64 0,.bool true,.bool true]),7⟩]
def Fp (i:Nat):Array MapEntry:=(Aps.take i).toArray
theorem Al2 (w:World):(Instr.mapUpdate 178 (.map (some w.heap.size)) (.int .i64 1) (.iface 190 (.agg #[.int .i64 0,.int .i64 65535]))).run prog (w.alloc (.map #[] 0)) = .ok () (w.alloc (.map (Fp 1) 1)):=
 Dw underlying178 underlying3 w #[] 0 1 _ rfl
theorem Al3 (w:World):(Instr.mapUpdate 178 (.map (some w.heap.size)) (.int .i64 2) (.iface 192 (.agg #[.int .i64 2]))).run prog (w.alloc (.map (Fp 1) 1)) = .ok () (w.alloc (.map (Fp 2) 2)):=
 Dw underlying178 underlying3 w (Fp 1) 1 2 _ rfl
theorem Al4 (w:World):(Instr.mapUpdate 178 (.map (some w.heap.size)) (.int .i64 3) (.iface 192 (.agg #[.int .i64 1]))).run prog (w.alloc (.map (Fp 2) 2)) = .ok () (w.alloc (.map (Fp 3) 3)):=
 Dw underlying178 underlying3 w (Fp 2) 2 3 _ rfl
theorem Al5 (w:World):(Instr.mapUpdate 178 (.map (some w.heap.size)) (.int .i64 4) (.iface 193 (.agg #[]))).run prog (w.alloc (.map (Fp 3) 3)) = .ok () (w.alloc (.map (Fp 4) 4)):=
 Dw underlying178 underlying3 w (Fp 3) 3 4 _ rfl
theorem Al6 (w:World):(Instr.mapUpdate 178 (.map (some w.heap.size)) (.int .i64 5) (.iface 190 (.agg #[.int .i64 (-1),.int .i64 65534]))).run prog (w.alloc (.map (Fp 4) 4)) = .ok () (w.alloc (.map (Fp 5) 5)):=
 Dw underlying178 underlying3 w (Fp 4) 4 5 _ rfl
theorem Al7 (w:World):(Instr.mapUpdate 178 (.map (some w.heap.size)) (.int .i64 6) (.iface 195 (.agg #[.int .i64 1,.int .i64 (-1),.int .i64 0,.bool false,.bool false]))).run prog (w.alloc (.map (Fp 5) 5)) = .ok () (w.alloc (.map (Fp 6) 6)):=
 Dw underlying178 underlying3 w (Fp 5) 5 6 _ rfl
theorem Al8 (w:World):(Instr.mapUpdate 178 (.map (some w.heap.size)) (.int .i64 7) (.iface 195 (.agg #[.int .i64 2,.int .i64 0,.int .i64 0,.bool false,.bool false]))).run prog (w.alloc (.map (Fp 6) 6)) = .ok () (w.alloc (.map (Fp 7) 7)):=
 Dw underlying178 underlying3 w (Fp 6) 6 7 _ rfl
theorem Al9 (w:World):(Instr.mapUpdate 178 (.map (some w.heap.size)) (.int .i64 8) (.iface 195 (.agg #[.int .i64 2,.int .i64 0,.int .i64 0,.bool true,.bool true]))).run prog (w.alloc (.map (Fp 7) 7)) = .ok () (w.alloc (.map (Fp 8) 8)):=
 Dw underlying178 underlying3 w (Fp 7) 7 8 _ rfl
theorem Apt (b:Nat) (c0 c1 c2:Value) (w:World) (hR:Row w b 180 [c0,c1,c2,.map none]) :
 Calls prog 136 #[.pointer (some ⟨b,0,none⟩)] w fun e w'=>e = .returned (.tuple #[])/\∃ m,b < m/\Row w' b 180 [c0,c1,c2,.map (some m)]/\w'.heap[m]? = some (.map (Fp 8) 8)/\Below b w w':=by
 have hmm:=@run_makeMap prog;have p1:=Al2;have p2:=Al3;have p3:=Al4;have p4:=Al5;have p5:=Al6;have p6:=Al7;have p7:=Al8;have p8:=Al9;have hR2:=hR.alloc (.map (Fp 8) 8);have hc:=hR2.cell 3;have hf:=hR2.free 3;simp only [List.getElem?_cons_zero,List.getElem?_cons_succ] at hc;go_enter func136,ntmps136
 iterate 6 (first | simp only [List.append_eq,List.cons_append,List.nil_append] | go_step)
 go_wp2
 go_end0
 have hlt:=hR.lt;refine ⟨rfl,w.heap.size,hlt,hR2.put 3 _,?_,((Below.refl b w).alloc (by omega) _).setCell nl _⟩;rw [Below.heap_setCell _ _ _ _ (show w.heap.size ≠ b by omega)];exact heap_alloc_new w _
theorem disable (w:World):(callFunc 149 #[]).run prog w = .ok (.value (.tuple #[])) w:=run_call_mark0 func149 (by kernel_rfl) (by kernel_rfl) (by kernel_rfl) .disable (by kernel_rfl) w
theorem enable (w:World):(callFunc 151 #[]).run prog w = .ok (.value (.tuple #[])) w:=run_call_mark0 func151 (by kernel_rfl) (by kernel_rfl) (by kernel_rfl) .enable (by kernel_rfl) w
theorem acquire (a:Addr) (w:World):(callFunc 152 #[.pointer (some a)]).run prog w = .ok (.value (.tuple #[])) w:=run_call_marked func152 (by kernel_rfl) (by kernel_rfl) (by kernel_rfl) .acquire (by kernel_rfl) a w
theorem releaseMerge (a:Addr) (w:World):(callFunc 154 #[.pointer (some a)]).run prog w = .ok (.value (.tuple #[])) w:=run_call_marked func154 (by kernel_rfl) (by kernel_rfl) (by kernel_rfl) .releaseMerge (by kernel_rfl) a w
theorem store_deferred (a:Addr) (x:Value) (u:FrameMode) (w:World) (hc:w.cell? a = some x) (hz:w.frozen? a = false) :
 CallsD prog 144 #[.pointer (some a),.bool true] u w fun e u' w'=>u' = u/\(e = .returned (.tuple #[])/\w' = w.drew.setCell a (.int .u32 1)):=by
 have hc':w.drew.cell? a = some x:=by go_simp
 have hz':w.drew.frozen? a = false:=by go_simp
 have hst:=run_call_store (P:=prog) func147 (by kernel_rfl) (by kernel_rfl) (by kernel_rfl) (by kernel_rfl) (k:=.u32) (y:=1) hc' hz'
 go_enter_d func144,ntmps144
 go_wp2
 go_region_calls
 all_goals (go_end0;exact ⟨rfl,rfl⟩)
theorem unlock_deferred (a:Addr) (u:FrameMode) (w:World) (hc:w.cell? a = some (.int .i32 1)) (hz:w.frozen? a = false) :
 CallsD prog 143 #[.pointer (some a)] u w fun e u' w'=>u' = u/\(e = .returned (.tuple #[])/\w' = w.setCell a (.int .i32 0)):=by
 have hd:=disable;have he:=enable;have hr:=releaseMerge;have hadd:=run_call_add (P:=prog) func155 (by kernel_rfl) (by kernel_rfl) (by kernel_rfl) .i32 (by kernel_rfl) (y:=-1) (s:=0) hc hz (by simp [go_sem];rfl);have hcv:=run_convert_to_unsafe (P:=prog) (src:=203) (dst:=207) underlying203 underlying207 (by kernel_rfl) hc
 go_enter_d func143,ntmps143
 go_wp2
 go_end0
 go_wp2
 go_end0
 exact ⟨rfl,rfl⟩
theorem lock_free (a:Addr) (w:World) (hc:w.cell? a = some (.int .i32 0)) (hz:w.frozen? a = false) :
 Calls prog 142 #[.pointer (some a)] w fun e w'=>e = .returned (.tuple #[])/\w' = w.setCell a (.int .i32 1):=by
 have hd:=disable;have he:=enable;have ha:=acquire;have hcas:=run_call_cas_hit (P:=prog) func150 (by kernel_rfl) (by kernel_rfl) (by kernel_rfl) .i32 (by kernel_rfl) (y:=1) hc hz;have hc':(w.setCell a (.int .i32 1)).cell? a = some (.int .i32 1):=World.cell?_setCell_same w a _ hc;have hcv:=run_convert_to_unsafe (P:=prog) (src:=203) (dst:=207) underlying203 underlying207 (by kernel_rfl) hc';go_enter func142,ntmps142;go_wp2
 first | go_end0 | (simp only [Exit.inBlock,Exit.then];refine bodyPost_ret (results_none rfl _ _ _) rfl ?_) | refine bodyPost_ret (results_none rfl _ _ _) rfl ?_
 go_wp2
 go_end0
 exact ⟨rfl,rfl⟩
def Agt (b:Nat) (w w':World):Prop:=∃ m c2,b < m/\Row w' b 180 [.int .u32 1,.int .i32 0,c2,.map (some m)]/\w'.heap[m]? = some (.map (Fp 8) 8)/\Below b w w'
theorem slow_any (b:Nat) (c2:Value) (w:World) (hR:Row w b 180 [.int .u32 0,.int .i32 0,c2,.map none]) :
 Calls prog 140 #[.pointer (some ⟨b,0,none⟩),.func (.func 136) #[.pointer (some ⟨b,0,none⟩)] #[]] w fun e w'=>e = .returned (.tuple #[])/\Agt b w w':=by
 have hR1:Row (w.setCell ⟨b,1,none⟩ (.int .i32 1)) b 180 [.int .u32 0,.int .i32 1,c2,.map none]:=hR.put 1 _;have q1:=hR.cell 1;have q2:=hR.free 1;have q3:=hR1.cell 0;simp only [List.getElem?_cons_zero,List.getElem?_cons_succ] at q1 q3;have hl:=run_call_load (P:=prog) func141 (by kernel_rfl) (by kernel_rfl) (by kernel_rfl) .u32 (by kernel_rfl) (w:=w.setCell ⟨b,1,none⟩ (.int .i32 1)) (a:=⟨b,0,none⟩) (x:=0) q3;have hnot:∀ (x:Bool) (w:World),(Op.unary .not (.bool x)).run prog w = .ok (.bool (!x)) w:=fun _ _=>rfl;have HR1:=hid hR1;have hB0:=hid (show Below b w (w.setCell ⟨b,1,none⟩ (.int .i32 1)) from (Below.refl b w).setCell (Nat.le_refl b) _);clear hR1 hR
 go_enter_defers func140,ntmps140
 go_wp2_with (first | (go_at_call 142;refine (lock_free ⟨b,1,none⟩ _ q1 q2).mono ?_;rintro e w' ⟨rfl,rfl⟩) | (go_at_call 139;go_in));refine (Apt b _ _ _ _ HR1.out).mono ?_;rintro e w1 ⟨rfl,m,hm,hR,hmap,hB⟩;have s0:=hR.cell 0;have f0:=hR.free 0;have hR2:Row (w1.drew.setCell ⟨b,0,none⟩ (.int .u32 1)) b 180 [.int .u32 1,.int .i32 1,c2,.map (some m)]:=hR.drew.put 0 _;have s1:=hR2.cell 1;have f1:=hR2.free 1;simp only [List.getElem?_cons_zero,List.getElem?_cons_succ] at s0 s1;have HR2:=hid hR2;have HM:=hid hmap;have HB:=hid (hB0.out.trans hB);clear hR hR2 hmap hB;go_wp2;refine leaves_cons (f:=144) (args:=#[.pointer (some ⟨b,0,none⟩),.bool true]) (by simp) (by simp [go_sem]) ?_;refine (store_deferred ⟨b,0,none⟩ (.int .u32 0) .returning _ s0 f0).mono ?_;rintro e u' w'' ⟨rfl,rfl,rfl⟩;refine leaves_cons (f:=143) (args:=#[.pointer (some ⟨b,1,none⟩)]) (by simp [settle]) (by simp [go_sem]) ?_;refine (unlock_deferred ⟨b,1,none⟩ _ _ s1 f1).mono ?_;rintro e u' w'' ⟨rfl,rfl,rfl⟩
 have fin:Agt b w ((w1.drew.setCell ⟨b,0,none⟩ (.int .u32 1)).setCell ⟨b,1,none⟩ (.int .i32 0)):=by
  refine ⟨m,c2,hm,HR2.out.put 1 _,?_,((HB.out.drew).setCell (Nat.le_refl b) _).setCell (Nat.le_refl b) _⟩;rw [Below.heap_setCell _ _ _ _ (show m ≠ b by omega),Below.heap_setCell _ _ _ _ (show m ≠ b by omega)];exact HM.out
 simp [Leaves,settle,results,results140,fin]
theorem do_first (b:Nat) (c2:Value) (w:World) (hR:Row w b 180 [.int .u32 0,.int .i32 0,c2,.map none]) :
 Calls prog 135 #[.pointer (some ⟨b,0,none⟩),.func (.func 136) #[.pointer (some ⟨b,0,none⟩)] #[]] w fun e w'=>e = .returned (.tuple #[])/\Agt b w w':=by
 have q0:=hR.cell 0;simp only [List.getElem?_cons_zero] at q0;have hl:=run_call_load (P:=prog) func141 (by kernel_rfl) (by kernel_rfl) (by kernel_rfl) .u32 (by kernel_rfl) q0;have hnot:∀ (x:Bool) (w:World),(Op.unary .not (.bool x)).run prog w = .ok (.bool (!x)) w:=fun _ _=>rfl;have HR:=hid hR;clear hR;go_enter func135,ntmps135;go_wp2_with (go_at_call 139;go_in);refine (slow_any b _ _ HR.out).mono ?_;rintro e w1 ⟨rfl,hF⟩;have HF:=hid hF;clear hF;go_wp2
 go_end0
 exact ⟨rfl,HF.out⟩
def Looks (id:Int) (v:Value) (ok:Bool):Prop:=∀ (w:World) (m:Nat),w.heap[m]? = some (.map (Fp 8) 8)->(Instr.lookup 178 (.map (some m)) (.int .i64 id) true).run prog w = .ok (.tuple #[v,.bool ok]) w
theorem get_at (b:Nat) (id:Int) (v:Value) (ok:Bool) (hlook:Looks id v ok) (c2:Value) (w:World) (hR:Row w b 180 [.int .u32 0,.int .i32 0,c2,.map none]) :
 Calls prog 108 #[.pointer (some ⟨b,0,none⟩),.int .i64 id] w fun e w'=>e = .returned (.tuple #[v,.bool ok])/\Below b w w':=by
 have hmf:∀ (fn:Fn) (first cap:Array Value) (w:World),(Instr.makeFunc fn first cap).run prog w = .ok (.func fn first cap) w:=fun _ _ _ _=>rfl;have HR:=hid hR;have HL:=hid hlook;clear hR hlook;go_enter func108,ntmps108;go_wp2_with fail;refine (do_first b c2 _ HR.out).mono ?_;rintro e w1 ⟨rfl,m,c3,hm,hR1,hmap,hB⟩;have q3:=hR1.cell 3;simp only [List.getElem?_cons_zero,List.getElem?_cons_succ] at q3;have hl:=HL.out w1 m hmap;have HB:=hid hB;clear hR1 hmap hB;go_wp2
 go_ret2
 exact ⟨rfl,HB.out⟩
theorem Av1:Looks 1 (.iface 190 (.agg #[.int .i64 0,.int .i64 65535])) true:=fun w m h=>
 Cj underlying178 underlying3 w m (Fp 8) 8 h 1 0 _ rfl true
theorem Av2:Looks 2 (.iface 192 (.agg #[.int .i64 2])) true:=fun w m h=>
 Cj underlying178 underlying3 w m (Fp 8) 8 h 2 1 _ rfl true
theorem looks3:Looks 3 (.iface 192 (.agg #[.int .i64 1])) true:=fun w m h=>
 Cj underlying178 underlying3 w m (Fp 8) 8 h 3 2 _ rfl true
theorem looks4:Looks 4 (.iface 193 (.agg #[])) true:=fun w m h=>
 Cj underlying178 underlying3 w m (Fp 8) 8 h 4 3 _ rfl true
theorem Av3:Looks 5 (.iface 190 (.agg #[.int .i64 (-1),.int .i64 65534])) true:=fun w m h=>
 Cj underlying178 underlying3 w m (Fp 8) 8 h 5 4 _ rfl true
theorem Av4:Looks 6 (.iface 195 (.agg #[.int .i64 1,.int .i64 (-1),.int .i64 0,.bool false,.bool false])) true:=fun w m h=>
 Cj underlying178 underlying3 w m (Fp 8) 8 h 6 5 _ rfl true
theorem Av5:Looks 7 (.iface 195 (.agg #[.int .i64 2,.int .i64 0,.int .i64 0,.bool false,.bool false])) true:=fun w m h=>
 Cj underlying178 underlying3 w m (Fp 8) 8 h 7 6 _ rfl true
theorem Av6:Looks 8 (.iface 195 (.agg #[.int .i64 2,.int .i64 0,.int .i64 0,.bool true,.bool true])) true:=fun w m h=>
 Cj underlying178 underlying3 w m (Fp 8) 8 h 8 7 _ rfl true
theorem Agu (id:Int) (h:id < 1\/8 < id):Looks id .nilIface false:=fun w m hm=>by
 have hs:∀ k:Int,id ≠ k->Instr.sameNow (.int .i64) (.int .i64 id) (.int .i64 k) = some false:=fun k hk=>by
  simp [Instr.sameNow,hk]
 have hf:Instr.findNow (.int .i64) (.int .i64 id) (Fp 8).toList 0 = some none:=by
  show Instr.findNow _ _ Aps 0 = _;simp only [Aps,Instr.findNow,hs 1 (by omega),hs 2 (by omega),hs 3 (by omega),hs 4 (by omega),hs 5 (by omega),hs 6 (by omega),hs 7 (by omega),hs 8 (by omega)]
 exact Ej underlying178 underlying3 w m (Fp 8) 8 hm id .nilIface hf (by kernel_rfl) true
end Go.Proofs.YtjacnhnaoenelaaGreat
