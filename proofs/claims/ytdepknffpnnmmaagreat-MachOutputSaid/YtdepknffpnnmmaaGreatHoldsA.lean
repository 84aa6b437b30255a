import Derived.Test.YtdepknffpnnmmaaGreatJ0a
import Derived.Test.YtdepknffpnnmmaaGreatJ0b
set_option maxRecDepth 100000
set_option maxHeartbeats 800000
namespace Go.Proofs.YtdepknffpnnmmaaGreat
open Go.RowKit
set_option linter.unusedVariables false
def Says (f:FuncId) (args:Array Value) (v:Bool):Prop:=
 ∀ w:World,Calls Tryz.prog f args w fun e w'=>e = .returned (.bool v)/\Below w.heap.size w w'
theorem tells_ug (x y:Int) (p:Bool) (hp:p = decide (y < x)):Says 117 #[.agg #[.int .u64 x,.int .u64 y],.bool false,.bool false] p:=by
 intro w
 go_enter Tryz.func117,Tryz.ntmps117
 go_wp2
 go_ret
 refine ⟨ret_bool ?_,(Below.refl _ _).alloc (Nat.le_refl _) _⟩
 rw [hp]
theorem tells_uge (x y:Int) (p:Bool) (hp:p = decide (y <= x)):Says 117 #[.agg #[.int .u64 x,.int .u64 y],.bool false,.bool true] p:=by
 intro w
 by_cases h:x = y
 ·have hb:(x == y) = true:=by simpa using h
  have H:=Lib.hid h
  clear h
  go_enter Tryz.func117,Tryz.ntmps117
  go_wp2
  go_ret
  refine ⟨ret_bool ?_,(Below.refl _ _).alloc (Nat.le_refl _) _⟩
  have h:=H.out
  rw [hp];symm;rw [decide_eq_true_iff];omega
 ·have hb:(x == y) = false:=by simpa using h
  have H:=Lib.hid h
  clear h
  go_enter Tryz.func117,Tryz.ntmps117
  go_wp2
  go_ret
  refine ⟨ret_bool ?_,(Below.refl _ _).alloc (Nat.le_refl _) _⟩
  have h:=H.out
  rw [hp,decide_eq_decide];omega
theorem tells_ul (x y:Int) (p:Bool) (hp:p = decide (x < y)):Says 117 #[.agg #[.int .u64 x,.int .u64 y],.bool true,.bool false] p:=by
 intro w
 go_enter Tryz.func117,Tryz.ntmps117
 go_wp2
 go_ret
 refine ⟨ret_bool ?_,(Below.refl _ _).alloc (Nat.le_refl _) _⟩
 rw [hp]
theorem tells_ule (x y:Int) (p:Bool) (hp:p = decide (x <= y)):Says 117 #[.agg #[.int .u64 x,.int .u64 y],.bool true,.bool true] p:=by
 intro w
 by_cases h:x = y
 ·have hb:(x == y) = true:=by simpa using h
  have H:=Lib.hid h
  clear h
  go_enter Tryz.func117,Tryz.ntmps117
  go_wp2
  go_ret
  refine ⟨ret_bool ?_,(Below.refl _ _).alloc (Nat.le_refl _) _⟩
  have h:=H.out
  rw [hp];symm;rw [decide_eq_true_iff];omega
 ·have hb:(x == y) = false:=by simpa using h
  have H:=Lib.hid h
  clear h
  go_enter Tryz.func117,Tryz.ntmps117
  go_wp2
  go_ret
  refine ⟨ret_bool ?_,(Below.refl _ _).alloc (Nat.le_refl _) _⟩
  have h:=H.out
  rw [hp,decide_eq_decide];omega
theorem tells_sg (x y:Int) (p:Bool) (hp:p = decide (y < x)):Says 118 #[.agg #[.int .i64 x,.int .i64 y],.bool false,.bool false] p:=by
 intro w
 go_enter Tryz.func118,Tryz.ntmps118
 go_wp2
 go_ret
 refine ⟨ret_bool ?_,(Below.refl _ _).alloc (Nat.le_refl _) _⟩
 rw [hp]
theorem tells_sge (x y:Int) (p:Bool) (hp:p = decide (y <= x)):Says 118 #[.agg #[.int .i64 x,.int .i64 y],.bool false,.bool true] p:=by
 intro w
 by_cases h:x = y
 ·have hb:(x == y) = true:=by simpa using h
  have H:=Lib.hid h
  clear h
  go_enter Tryz.func118,Tryz.ntmps118
  go_wp2
  go_ret
  refine ⟨ret_bool ?_,(Below.refl _ _).alloc (Nat.le_refl _) _⟩
  have h:=H.out
  rw [hp];symm;rw [decide_eq_true_iff];omega
 ·have hb:(x == y) = false:=by simpa using h
  have H:=Lib.hid h
  clear h
  go_enter Tryz.func118,Tryz.ntmps118
  go_wp2
  go_ret
  refine ⟨ret_bool ?_,(Below.refl _ _).alloc (Nat.le_refl _) _⟩
  have h:=H.out
  rw [hp,decide_eq_decide];omega
theorem tells_sl (x y:Int) (p:Bool) (hp:p = decide (x < y)):Says 118 #[.agg #[.int .i64 x,.int .i64 y],.bool true,.bool false] p:=by
 intro w
 go_enter Tryz.func118,Tryz.ntmps118
 go_wp2
 go_ret
 refine ⟨ret_bool ?_,(Below.refl _ _).alloc (Nat.le_refl _) _⟩
 rw [hp]
theorem tells_sle (x y:Int) (p:Bool) (hp:p = decide (x <= y)):Says 118 #[.agg #[.int .i64 x,.int .i64 y],.bool true,.bool true] p:=by
 intro w
 by_cases h:x = y
 ·have hb:(x == y) = true:=by simpa using h
  have H:=Lib.hid h
  clear h
  go_enter Tryz.func118,Tryz.ntmps118
  go_wp2
  go_ret
  refine ⟨ret_bool ?_,(Below.refl _ _).alloc (Nat.le_refl _) _⟩
  have h:=H.out
  rw [hp];symm;rw [decide_eq_true_iff];omega
 ·have hb:(x == y) = false:=by simpa using h
  have H:=Lib.hid h
  clear h
  go_enter Tryz.func118,Tryz.ntmps118
  go_wp2
  go_ret
  refine ⟨ret_bool ?_,(Below.refl _ _).alloc (Nat.le_refl _) _⟩
  have h:=H.out
  rw [hp,decide_eq_decide];omega
theorem beq_cast (x y:Nat):((x:Int) == y) = decide (x = y):=by
 by_cases h:x = y
 ·simp [h]
 ·have h2:(x:Int) ≠ y:=by omega
  rw [beq_eq_false_iff_ne.mpr h2];simp [h]
theorem bne_cast (x y:Nat):((x:Int) != y) = !decide (x = y):=by
 unfold bne;rw [beq_cast]
theorem lowN_64 (a:Int):lowN 64 a = un a:=Nat.mod_eq_of_lt (un_lt a)
theorem u64_un' (a:Int):IntKind.u64.wrap a = ((un a:Nat):Int):=by rw [IntKind.wrap_u64,un_cast]
theorem sgn_un' {a:Int} (h : -9223372036854775808 <= a/\a <= 9223372036854775807):sgn 64 (un a) = a:=by
 rw [sgn64 (un_lt a)];exact wrap64_un h.1 h.2
theorem lowN_cast' (a:Int):a % 4294967296 = ((lowN 32 a:Nat):Int):=by
 unfold lowN;rw [Int.natCast_emod,un_cast]
 have e:((2 ^ 32:Nat):Int) = 4294967296:=rfl
 rw [e];omega
theorem sgn_low (a:Int):wrap32 a = sgn 32 (lowN 32 a):=by
 have h:=lowN_cast' a
 rw [sgn32 (lowN_lt 32 a),<- h];unfold wrap32;omega
theorem wrap64_in {a:Int} (h : -2147483648 <= a/\a <= 2147483647):wrap64 a = a:=by unfold wrap64;omega
theorem wrap32_range (a:Int) : -2147483648 <= wrap32 a/\wrap32 a <= 2147483647:=by unfold wrap32;omega
theorem u64_band (x y:Nat) (hx:x < 18446744073709551616) (hy:y < 18446744073709551616):(bits BinOp.and IntKind.u64 (x:Int) (y:Int) != 0) = !decide (x &&& y = 0):=by
 rw [bits_and_u64_nat x y hx hy]
 by_cases h:x &&& y = 0
 ·simp [h]
 ·simp [h]
def hold64_eq (x y:Nat):Bool:=decide (x = y)
def hold64_ne (x y:Nat):Bool:=!decide (x = y)
def hold64_gt (x y:Nat):Bool:=decide (y < x)
def hold64_ge (x y:Nat):Bool:=decide (y <= x)
def hold64_lt (x y:Nat):Bool:=decide (x < y)
def hold64_le (x y:Nat):Bool:=decide (x <= y)
def hold64_sgt (x y:Nat):Bool:=decide (sgn 64 y < sgn 64 x)
def hold64_sge (x y:Nat):Bool:=decide (sgn 64 y <= sgn 64 x)
def hold64_slt (x y:Nat):Bool:=decide (sgn 64 x < sgn 64 y)
def hold64_sle (x y:Nat):Bool:=decide (sgn 64 x <= sgn 64 y)
def hold64_set (x y:Nat):Bool:=!decide (x &&& y = 0)
theorem holds64_eq (a b:Int) (ra : -9223372036854775808 <= a/\a <= 9223372036854775807) (rb : -9223372036854775808 <= b/\b <= 9223372036854775807) :
 Says 94 #[.int .i64 27,.bool false,.int .i64 a,.int .i64 b] (hold64_eq (lowN 64 a) (lowN 64 b)):=by
 intro w
 have hua:=u64_un' a
 have hub:=u64_un' b
 have hxl:=un_lt a
 have hyl:=un_lt b
 have HSX:=Lib.hid (sgn_un' ra)
 have HSY:=Lib.hid (sgn_un' rb)
 rw [lowN_64 a,lowN_64 b]
 obtain ⟨x,hx⟩:∃ x,x = un a:=⟨_,rfl⟩
 obtain ⟨y,hy⟩:∃ y,y = un b:=⟨_,rfl⟩
 have HSX':=Lib.hid (show sgn 64 x = a by rw [hx];exact HSX.out)
 have HSY':=Lib.hid (show sgn 64 y = b by rw [hy];exact HSY.out)
 rw [<- hx] at hua hxl ⊢
 rw [<- hy] at hub hyl ⊢
 clear hx hy HSX HSY
 go_enter Tryz.func94,Tryz.ntmps94
 go_wp2
 go_ret
 refine ⟨ret_bool ?_,?_⟩
 ·unfold hold64_eq;exact beq_cast x y
 ·repeat (first | exact Below.refl _ _ | apply Below.setCell | apply Below.alloc)
  all_goals simp
theorem holds64_ne (a b:Int) (ra : -9223372036854775808 <= a/\a <= 9223372036854775807) (rb : -9223372036854775808 <= b/\b <= 9223372036854775807) :
 Says 94 #[.int .i64 28,.bool false,.int .i64 a,.int .i64 b] (hold64_ne (lowN 64 a) (lowN 64 b)):=by
 intro w
 have hua:=u64_un' a
 have hub:=u64_un' b
 have hxl:=un_lt a
 have hyl:=un_lt b
 have HSX:=Lib.hid (sgn_un' ra)
 have HSY:=Lib.hid (sgn_un' rb)
 rw [lowN_64 a,lowN_64 b]
 obtain ⟨x,hx⟩:∃ x,x = un a:=⟨_,rfl⟩
 obtain ⟨y,hy⟩:∃ y,y = un b:=⟨_,rfl⟩
 have HSX':=Lib.hid (show sgn 64 x = a by rw [hx];exact HSX.out)
 have HSY':=Lib.hid (show sgn 64 y = b by rw [hy];exact HSY.out)
 rw [<- hx] at hua hxl ⊢
 rw [<- hy] at hub hyl ⊢
 clear hx hy HSX HSY
 go_enter Tryz.func94,Tryz.ntmps94
 go_wp2
 go_ret
 refine ⟨ret_bool ?_,?_⟩
 ·unfold hold64_ne;exact bne_cast x y
 ·repeat (first | exact Below.refl _ _ | apply Below.setCell | apply Below.alloc)
  all_goals simp
theorem holds64_gt (a b:Int) (ra : -9223372036854775808 <= a/\a <= 9223372036854775807) (rb : -9223372036854775808 <= b/\b <= 9223372036854775807) :
 Says 94 #[.int .i64 29,.bool false,.int .i64 a,.int .i64 b] (hold64_gt (lowN 64 a) (lowN 64 b)):=by
 intro w
 have hua:=u64_un' a
 have hub:=u64_un' b
 have hxl:=un_lt a
 have hyl:=un_lt b
 have HSX:=Lib.hid (sgn_un' ra)
 have HSY:=Lib.hid (sgn_un' rb)
 rw [lowN_64 a,lowN_64 b]
 obtain ⟨x,hx⟩:∃ x,x = un a:=⟨_,rfl⟩
 obtain ⟨y,hy⟩:∃ y,y = un b:=⟨_,rfl⟩
 have HSX':=Lib.hid (show sgn 64 x = a by rw [hx];exact HSX.out)
 have HSY':=Lib.hid (show sgn 64 y = b by rw [hy];exact HSY.out)
 rw [<- hx] at hua hxl ⊢
 rw [<- hy] at hub hyl ⊢
 clear hx hy HSX HSY
 have HT:=Lib.hid (tells_ug (x:Int) (y:Int) (hold64_gt x y) (by unfold hold64_gt;rw [decide_eq_decide];omega))
 go_enter Tryz.func94,Tryz.ntmps94
 go_wp2_with fail
 refine (HT.out _).mono ?_
 rintro e w1 ⟨rfl,hB⟩
 go_wp2
 go_ret
 refine ⟨rfl,Below.trans ?_ (hB.mono (by simp;omega))⟩
 repeat (first | exact Below.refl _ _ | apply Below.setCell | apply Below.alloc)
 all_goals simp
theorem holds64_ge (a b:Int) (ra : -9223372036854775808 <= a/\a <= 9223372036854775807) (rb : -9223372036854775808 <= b/\b <= 9223372036854775807) :
 Says 94 #[.int .i64 30,.bool false,.int .i64 a,.int .i64 b] (hold64_ge (lowN 64 a) (lowN 64 b)):=by
 intro w
 have hua:=u64_un' a
 have hub:=u64_un' b
 have hxl:=un_lt a
 have hyl:=un_lt b
 have HSX:=Lib.hid (sgn_un' ra)
 have HSY:=Lib.hid (sgn_un' rb)
 rw [lowN_64 a,lowN_64 b]
 obtain ⟨x,hx⟩:∃ x,x = un a:=⟨_,rfl⟩
 obtain ⟨y,hy⟩:∃ y,y = un b:=⟨_,rfl⟩
 have HSX':=Lib.hid (show sgn 64 x = a by rw [hx];exact HSX.out)
 have HSY':=Lib.hid (show sgn 64 y = b by rw [hy];exact HSY.out)
 rw [<- hx] at hua hxl ⊢
 rw [<- hy] at hub hyl ⊢
 clear hx hy HSX HSY
 have HT:=Lib.hid (tells_uge (x:Int) (y:Int) (hold64_ge x y) (by unfold hold64_ge;rw [decide_eq_decide];omega))
 go_enter Tryz.func94,Tryz.ntmps94
 go_wp2_with fail
 refine (HT.out _).mono ?_
 rintro e w1 ⟨rfl,hB⟩
 go_wp2
 go_ret
 refine ⟨rfl,Below.trans ?_ (hB.mono (by simp;omega))⟩
 repeat (first | exact Below.refl _ _ | apply Below.setCell | apply Below.alloc)
 all_goals simp
theorem holds64_lt (a b:Int) (ra : -9223372036854775808 <= a/\a <= 9223372036854775807) (rb : -9223372036854775808 <= b/\b <= 9223372036854775807) :
 Says 94 #[.int .i64 31,.bool false,.int .i64 a,.int .i64 b] (hold64_lt (lowN 64 a) (lowN 64 b)):=by
 intro w
 have hua:=u64_un' a
 have hub:=u64_un' b
 have hxl:=un_lt a
 have hyl:=un_lt b
 have HSX:=Lib.hid (sgn_un' ra)
 have HSY:=Lib.hid (sgn_un' rb)
 rw [lowN_64 a,lowN_64 b]
 obtain ⟨x,hx⟩:∃ x,x = un a:=⟨_,rfl⟩
 obtain ⟨y,hy⟩:∃ y,y = un b:=⟨_,rfl⟩
 have HSX':=Lib.hid (show sgn 64 x = a by rw [hx];exact HSX.out)
 have HSY':=Lib.hid (show sgn 64 y = b by rw [hy];exact HSY.out)
 rw [<- hx] at hua hxl ⊢
 rw [<- hy] at hub hyl ⊢
 clear hx hy HSX HSY
 have HT:=Lib.hid (tells_ul (x:Int) (y:Int) (hold64_lt x y) (by unfold hold64_lt;rw [decide_eq_decide];omega))
 go_enter Tryz.func94,Tryz.ntmps94
 go_wp2_with fail
 refine (HT.out _).mono ?_
 rintro e w1 ⟨rfl,hB⟩
 go_wp2
 go_ret
 refine ⟨rfl,Below.trans ?_ (hB.mono (by simp;omega))⟩
 repeat (first | exact Below.refl _ _ | apply Below.setCell | apply Below.alloc)
 all_goals simp
theorem holds64_le (a b:Int) (ra : -9223372036854775808 <= a/\a <= 9223372036854775807) (rb : -9223372036854775808 <= b/\b <= 9223372036854775807) :
 Says 94 #[.int .i64 32,.bool false,.int .i64 a,.int .i64 b] (hold64_le (lowN 64 a) (lowN 64 b)):=by
 intro w
 have hua:=u64_un' a
 have hub:=u64_un' b
 have hxl:=un_lt a
 have hyl:=un_lt b
 have HSX:=Lib.hid (sgn_un' ra)
 have HSY:=Lib.hid (sgn_un' rb)
 rw [lowN_64 a,lowN_64 b]
 obtain ⟨x,hx⟩:∃ x,x = un a:=⟨_,rfl⟩
 obtain ⟨y,hy⟩:∃ y,y = un b:=⟨_,rfl⟩
 have HSX':=Lib.hid (show sgn 64 x = a by rw [hx];exact HSX.out)
 have HSY':=Lib.hid (show sgn 64 y = b by rw [hy];exact HSY.out)
 rw [<- hx] at hua hxl ⊢
 rw [<- hy] at hub hyl ⊢
 clear hx hy HSX HSY
 have HT:=Lib.hid (tells_ule (x:Int) (y:Int) (hold64_le x y) (by unfold hold64_le;rw [decide_eq_decide];omega))
 go_enter Tryz.func94,Tryz.ntmps94
 go_wp2_with fail
 refine (HT.out _).mono ?_
 rintro e w1 ⟨rfl,hB⟩
 go_wp2
 go_ret
 refine ⟨rfl,Below.trans ?_ (hB.mono (by simp;omega))⟩
 repeat (first | exact Below.refl _ _ | apply Below.setCell | apply Below.alloc)
 all_goals simp
theorem holds64_sgt (a b:Int) (ra : -9223372036854775808 <= a/\a <= 9223372036854775807) (rb : -9223372036854775808 <= b/\b <= 9223372036854775807) :
 Says 94 #[.int .i64 33,.bool false,.int .i64 a,.int .i64 b] (hold64_sgt (lowN 64 a) (lowN 64 b)):=by
 intro w
 have hua:=u64_un' a
 have hub:=u64_un' b
 have hxl:=un_lt a
 have hyl:=un_lt b
 have HSX:=Lib.hid (sgn_un' ra)
 have HSY:=Lib.hid (sgn_un' rb)
 rw [lowN_64 a,lowN_64 b]
 obtain ⟨x,hx⟩:∃ x,x = un a:=⟨_,rfl⟩
 obtain ⟨y,hy⟩:∃ y,y = un b:=⟨_,rfl⟩
 have HSX':=Lib.hid (show sgn 64 x = a by rw [hx];exact HSX.out)
 have HSY':=Lib.hid (show sgn 64 y = b by rw [hy];exact HSY.out)
 rw [<- hx] at hua hxl ⊢
 rw [<- hy] at hub hyl ⊢
 clear hx hy HSX HSY
 have HT:=Lib.hid (tells_sg a b (hold64_sgt x y) (by unfold hold64_sgt;rw [HSX'.out,HSY'.out]))
 go_enter Tryz.func94,Tryz.ntmps94
 go_wp2_with fail
 refine (HT.out _).mono ?_
 rintro e w1 ⟨rfl,hB⟩
 go_wp2
 go_ret
 refine ⟨rfl,Below.trans ?_ (hB.mono (by simp;omega))⟩
 repeat (first | exact Below.refl _ _ | apply Below.setCell | apply Below.alloc)
 all_goals simp
theorem holds64_sge (a b:Int) (ra : -9223372036854775808 <= a/\a <= 9223372036854775807) (rb : -9223372036854775808 <= b/\b <= 9223372036854775807) :
 Says 94 #[.int .i64 34,.bool false,.int .i64 a,.int .i64 b] (hold64_sge (lowN 64 a) (lowN 64 b)):=by
 intro w
 have hua:=u64_un' a
 have hub:=u64_un' b
 have hxl:=un_lt a
 have hyl:=un_lt b
 have HSX:=Lib.hid (sgn_un' ra)
 have HSY:=Lib.hid (sgn_un' rb)
 rw [lowN_64 a,lowN_64 b]
 obtain ⟨x,hx⟩:∃ x,x = un a:=⟨_,rfl⟩
 obtain ⟨y,hy⟩:∃ y,y = un b:=⟨_,rfl⟩
 have HSX':=Lib.hid (show sgn 64 x = a by rw [hx];exact HSX.out)
 have HSY':=Lib.hid (show sgn 64 y = b by rw [hy];exact HSY.out)
 rw [<- hx] at hua hxl ⊢
 rw [<- hy] at hub hyl ⊢
 clear hx hy HSX HSY
 have HT:=Lib.hid (tells_sge a b (hold64_sge x y) (by unfold hold64_sge;rw [HSX'.out,HSY'.out]))
 go_enter Tryz.func94,Tryz.ntmps94
 go_wp2_with fail
 refine (HT.out _).mono ?_
 rintro e w1 ⟨rfl,hB⟩
 go_wp2
 go_ret
 refine ⟨rfl,Below.trans ?_ (hB.mono (by simp;omega))⟩
 repeat (first | exact Below.refl _ _ | apply Below.setCell | apply Below.alloc)
 all_goals simp
theorem holds64_slt (a b:Int) (ra : -9223372036854775808 <= a/\a <= 9223372036854775807) (rb : -9223372036854775808 <= b/\b <= 9223372036854775807) :
 Says 94 #[.int .i64 35,.bool false,.int .i64 a,.int .i64 b] (hold64_slt (lowN 64 a) (lowN 64 b)):=by
 intro w
 have hua:=u64_un' a
 have hub:=u64_un' b
 have hxl:=un_lt a
 have hyl:=un_lt b
 have HSX:=Lib.hid (sgn_un' ra)
 have HSY:=Lib.hid (sgn_un' rb)
 rw [lowN_64 a,lowN_64 b]
 obtain ⟨x,hx⟩:∃ x,x = un a:=⟨_,rfl⟩
 obtain ⟨y,hy⟩:∃ y,y = un b:=⟨_,rfl⟩
 have HSX':=Lib.hid (show sgn 64 x = a by rw [hx];exact HSX.out)
 have HSY':=Lib.hid (show sgn 64 y = b by rw [hy];exact HSY.out)
 rw [<- hx] at hua hxl ⊢
 rw [<- hy] at hub hyl ⊢
 clear hx hy HSX HSY
 have HT:=Lib.hid (tells_sl a b (hold64_slt x y) (by unfold hold64_slt;rw [HSX'.out,HSY'.out]))
 go_enter Tryz.func94,Tryz.ntmps94
 go_wp2_with fail
 refine (HT.out _).mono ?_
 rintro e w1 ⟨rfl,hB⟩
 go_wp2
 go_ret
 refine ⟨rfl,Below.trans ?_ (hB.mono (by simp;omega))⟩
 repeat (first | exact Below.refl _ _ | apply Below.setCell | apply Below.alloc)
 all_goals simp
theorem holds64_sle (a b:Int) (ra : -9223372036854775808 <= a/\a <= 9223372036854775807) (rb : -9223372036854775808 <= b/\b <= 9223372036854775807) :
 Says 94 #[.int .i64 36,.bool false,.int .i64 a,.int .i64 b] (hold64_sle (lowN 64 a) (lowN 64 b)):=by
 intro w
 have hua:=u64_un' a
 have hub:=u64_un' b
 have hxl:=un_lt a
 have hyl:=un_lt b
 have HSX:=Lib.hid (sgn_un' ra)
 have HSY:=Lib.hid (sgn_un' rb)
 rw [lowN_64 a,lowN_64 b]
 obtain ⟨x,hx⟩:∃ x,x = un a:=⟨_,rfl⟩
 obtain ⟨y,hy⟩:∃ y,y = un b:=⟨_,rfl⟩
 have HSX':=Lib.hid (show sgn 64 x = a by rw [hx];exact HSX.out)
 have HSY':=Lib.hid (show sgn 64 y = b by rw [hy];exact HSY.out)
 rw [<- hx] at hua hxl ⊢
 rw [<- hy] at hub hyl ⊢
 clear hx hy HSX HSY
 have HT:=Lib.hid (tells_sle a b (hold64_sle x y) (by unfold hold64_sle;rw [HSX'.out,HSY'.out]))
 go_enter Tryz.func94,Tryz.ntmps94
 go_wp2_with fail
 refine (HT.out _).mono ?_
 rintro e w1 ⟨rfl,hB⟩
 go_wp2
 go_ret
 refine ⟨rfl,Below.trans ?_ (hB.mono (by simp;omega))⟩
 repeat (first | exact Below.refl _ _ | apply Below.setCell | apply Below.alloc)
 all_goals simp
theorem holds64_set (a b:Int) (ra : -9223372036854775808 <= a/\a <= 9223372036854775807) (rb : -9223372036854775808 <= b/\b <= 9223372036854775807) :
 Says 94 #[.int .i64 37,.bool false,.int .i64 a,.int .i64 b] (hold64_set (lowN 64 a) (lowN 64 b)):=by
 intro w
 have hua:=u64_un' a
 have hub:=u64_un' b
 have hxl:=un_lt a
 have hyl:=un_lt b
 have HSX:=Lib.hid (sgn_un' ra)
 have HSY:=Lib.hid (sgn_un' rb)
 rw [lowN_64 a,lowN_64 b]
 obtain ⟨x,hx⟩:∃ x,x = un a:=⟨_,rfl⟩
 obtain ⟨y,hy⟩:∃ y,y = un b:=⟨_,rfl⟩
 have HSX':=Lib.hid (show sgn 64 x = a by rw [hx];exact HSX.out)
 have HSY':=Lib.hid (show sgn 64 y = b by rw [hy];exact HSY.out)
 rw [<- hx] at hua hxl ⊢
 rw [<- hy] at hub hyl ⊢
 clear hx hy HSX HSY
 have hand:=u64_band x y hxl hyl
 go_enter Tryz.func94,Tryz.ntmps94
 go_wp2
 go_ret
 refine ⟨ret_bool ?_,?_⟩
 ·first | rfl | (rw [hand];rfl)
 ·repeat (first | exact Below.refl _ _ | apply Below.setCell | apply Below.alloc)
  all_goals simp
def hold32_eq (x y:Nat):Bool:=decide (x = y)
def hold32_ne (x y:Nat):Bool:=!decide (x = y)
def hold32_gt (x y:Nat):Bool:=decide (y < x)
def hold32_ge (x y:Nat):Bool:=decide (y <= x)
def hold32_lt (x y:Nat):Bool:=decide (x < y)
def hold32_le (x y:Nat):Bool:=decide (x <= y)
def hold32_sgt (x y:Nat):Bool:=decide (sgn 32 y < sgn 32 x)
def hold32_sge (x y:Nat):Bool:=decide (sgn 32 y <= sgn 32 x)
def hold32_slt (x y:Nat):Bool:=decide (sgn 32 x < sgn 32 y)
def hold32_sle (x y:Nat):Bool:=decide (sgn 32 x <= sgn 32 y)
def hold32_set (x y:Nat):Bool:=!decide (x &&& y = 0)
theorem holds32_eq (a b:Int) (ra : -9223372036854775808 <= a/\a <= 9223372036854775807) (rb : -9223372036854775808 <= b/\b <= 9223372036854775807) :
 Says 94 #[.int .i64 27,.bool true,.int .i64 a,.int .i64 b] (hold32_eq (lowN 32 a) (lowN 32 b)):=by
 intro w
 have hua:=u64_un' a
 have hub:=u64_un' b
 have hea:=lowN_cast' a
 have heb:=lowN_cast' b
 have hxl:=lowN_lt 32 a
 have hyl:=lowN_lt 32 b
 have e32:(2:Nat) ^ 32 = 4294967296:=rfl
 rw [e32] at hxl hyl
 obtain ⟨X,hX⟩:∃ x,x = un a:=⟨_,rfl⟩
 obtain ⟨Y,hY⟩:∃ y,y = un b:=⟨_,rfl⟩
 rw [<- hX] at hua
 rw [<- hY] at hub
 have hsa:=sgn_low a
 have hsb:=sgn_low b
 have hra:=wrap32_range a
 have hrb:=wrap32_range b
 obtain ⟨x,hx⟩:∃ x,x = lowN 32 a:=⟨_,rfl⟩
 obtain ⟨y,hy⟩:∃ y,y = lowN 32 b:=⟨_,rfl⟩
 rw [<- hx] at hea hxl hsa ⊢
 rw [<- hy] at heb hyl hsb ⊢
 have HSX':=Lib.hid (show sgn 32 x = wrap64 (wrap32 a) by rw [<- hsa];exact (wrap64_in hra).symm)
 have HSY':=Lib.hid (show sgn 32 y = wrap64 (wrap32 b) by rw [<- hsb];exact (wrap64_in hrb).symm)
 clear hra hrb
 clear hx hy hX hY hsa hsb e32
 go_enter Tryz.func94,Tryz.ntmps94
 go_wp2
 go_ret
 refine ⟨ret_bool ?_,?_⟩
 ·unfold hold32_eq;exact beq_cast x y
 ·repeat (first | exact Below.refl _ _ | apply Below.setCell | apply Below.alloc)
  all_goals simp
theorem holds32_ne (a b:Int) (ra : -9223372036854775808 <= a/\a <= 9223372036854775807) (rb : -9223372036854775808 <= b/\b <= 9223372036854775807) :
 Says 94 #[.int .i64 28,.bool true,.int .i64 a,.int .i64 b] (hold32_ne (lowN 32 a) (lowN 32 b)):=by
 intro w
 have hua:=u64_un' a
 have hub:=u64_un' b
 have hea:=lowN_cast' a
 have heb:=lowN_cast' b
 have hxl:=lowN_lt 32 a
 have hyl:=lowN_lt 32 b
 have e32:(2:Nat) ^ 32 = 4294967296:=rfl
 rw [e32] at hxl hyl
 obtain ⟨X,hX⟩:∃ x,x = un a:=⟨_,rfl⟩
 obtain ⟨Y,hY⟩:∃ y,y = un b:=⟨_,rfl⟩
 rw [<- hX] at hua
 rw [<- hY] at hub
 have hsa:=sgn_low a
 have hsb:=sgn_low b
 have hra:=wrap32_range a
 have hrb:=wrap32_range b
 obtain ⟨x,hx⟩:∃ x,x = lowN 32 a:=⟨_,rfl⟩
 obtain ⟨y,hy⟩:∃ y,y = lowN 32 b:=⟨_,rfl⟩
 rw [<- hx] at hea hxl hsa ⊢
 rw [<- hy] at heb hyl hsb ⊢
 have HSX':=Lib.hid (show sgn 32 x = wrap64 (wrap32 a) by rw [<- hsa];exact (wrap64_in hra).symm)
 have HSY':=Lib.hid (show sgn 32 y = wrap64 (wrap32 b) by rw [<- hsb];exact (wrap64_in hrb).symm)
 clear hra hrb
 clear hx hy hX hY hsa hsb e32
 go_enter Tryz.func94,Tryz.ntmps94
 go_wp2
 go_ret
 refine ⟨ret_bool ?_,?_⟩
 ·unfold hold32_ne;exact bne_cast x y
 ·repeat (first | exact Below.refl _ _ | apply Below.setCell | apply Below.alloc)
  all_goals simp
theorem holds32_gt (a b:Int) (ra : -9223372036854775808 <= a/\a <= 9223372036854775807) (rb : -9223372036854775808 <= b/\b <= 9223372036854775807) :
 Says 94 #[.int .i64 29,.bool true,.int .i64 a,.int .i64 b] (hold32_gt (lowN 32 a) (lowN 32 b)):=by
 intro w
 have hua:=u64_un' a
 have hub:=u64_un' b
 have hea:=lowN_cast' a
 have heb:=lowN_cast' b
 have hxl:=lowN_lt 32 a
 have hyl:=lowN_lt 32 b
 have e32:(2:Nat) ^ 32 = 4294967296:=rfl
 rw [e32] at hxl hyl
 obtain ⟨X,hX⟩:∃ x,x = un a:=⟨_,rfl⟩
 obtain ⟨Y,hY⟩:∃ y,y = un b:=⟨_,rfl⟩
 rw [<- hX] at hua
 rw [<- hY] at hub
 have hsa:=sgn_low a
 have hsb:=sgn_low b
 have hra:=wrap32_range a
 have hrb:=wrap32_range b
 obtain ⟨x,hx⟩:∃ x,x = lowN 32 a:=⟨_,rfl⟩
 obtain ⟨y,hy⟩:∃ y,y = lowN 32 b:=⟨_,rfl⟩
 rw [<- hx] at hea hxl hsa ⊢
 rw [<- hy] at heb hyl hsb ⊢
 have HSX':=Lib.hid (show sgn 32 x = wrap64 (wrap32 a) by rw [<- hsa];exact (wrap64_in hra).symm)
 have HSY':=Lib.hid (show sgn 32 y = wrap64 (wrap32 b) by rw [<- hsb];exact (wrap64_in hrb).symm)
 clear hra hrb
 clear hx hy hX hY hsa hsb e32
 have HT:=Lib.hid (tells_ug (x:Int) (y:Int) (hold32_gt x y) (by unfold hold32_gt;rw [decide_eq_decide];omega))
 go_enter Tryz.func94,Tryz.ntmps94
 go_wp2_with fail
 refine (HT.out _).mono ?_
 rintro e w1 ⟨rfl,hB⟩
 go_wp2
 go_ret
 refine ⟨rfl,Below.trans ?_ (hB.mono (by simp;omega))⟩
 repeat (first | exact Below.refl _ _ | apply Below.setCell | apply Below.alloc)
 all_goals simp
theorem holds32_ge (a b:Int) (ra : -9223372036854775808 <= a/\a <= 9223372036854775807) (rb : -9223372036854775808 <= b/\b <= 9223372036854775807) :
 Says 94 #[.int .i64 30,.bool true,.int .i64 a,.int .i64 b] (hold32_ge (lowN 32 a) (lowN 32 b)):=by
 intro w
 have hua:=u64_un' a
 have hub:=u64_un' b
 have hea:=lowN_cast' a
 have heb:=lowN_cast' b
 have hxl:=lowN_lt 32 a
 have hyl:=lowN_lt 32 b
 have e32:(2:Nat) ^ 32 = 4294967296:=rfl
 rw [e32] at hxl hyl
 obtain ⟨X,hX⟩:∃ x,x = un a:=⟨_,rfl⟩
 obtain ⟨Y,hY⟩:∃ y,y = un b:=⟨_,rfl⟩
 rw [<- hX] at hua
 rw [<- hY] at hub
 have hsa:=sgn_low a
 have hsb:=sgn_low b
 have hra:=wrap32_range a
 have hrb:=wrap32_range b
 obtain ⟨x,hx⟩:∃ x,x = lowN 32 a:=⟨_,rfl⟩
 obtain ⟨y,hy⟩:∃ y,y = lowN 32 b:=⟨_,rfl⟩
 rw [<- hx] at hea hxl hsa ⊢
 rw [<- hy] at heb hyl hsb ⊢
 have HSX':=Lib.hid (show sgn 32 x = wrap64 (wrap32 a) by rw [<- hsa];exact (wrap64_in hra).symm)
 have HSY':=Lib.hid (show sgn 32 y = wrap64 (wrap32 b) by rw [<- hsb];exact (wrap64_in hrb).symm)
 clear hra hrb
 clear hx hy hX hY hsa hsb e32
 have HT:=Lib.hid (tells_uge (x:Int) (y:Int) (hold32_ge x y) (by unfold hold32_ge;rw [decide_eq_decide];omega))
 go_enter Tryz.func94,Tryz.ntmps94
 go_wp2_with fail
 refine (HT.out _).mono ?_
 rintro e w1 ⟨rfl,hB⟩
 go_wp2
 go_ret
 refine ⟨rfl,Below.trans ?_ (hB.mono (by simp;omega))⟩
 repeat (first | exact Below.refl _ _ | apply Below.setCell | apply Below.alloc)
 all_goals simp
theorem holds32_lt (a b:Int) (ra : -9223372036854775808 <= a/\a <= 9223372036854775807) (rb : -9223372036854775808 <= b/\b <= 9223372036854775807) :
 Says 94 #[.int .i64 31,.bool true,.int .i64 a,.int .i64 b] (hold32_lt (lowN 32 a) (lowN 32 b)):=by
 intro w
 have hua:=u64_un' a
 have hub:=u64_un' b
 have hea:=lowN_cast' a
 have heb:=lowN_cast' b
 have hxl:=lowN_lt 32 a
 have hyl:=lowN_lt 32 b
 have e32:(2:Nat) ^ 32 = 4294967296:=rfl
 rw [e32] at hxl hyl
 obtain ⟨X,hX⟩:∃ x,x = un a:=⟨_,rfl⟩
 obtain ⟨Y,hY⟩:∃ y,y = un b:=⟨_,rfl⟩
 rw [<- hX] at hua
 rw [<- hY] at hub
 have hsa:=sgn_low a
 have hsb:=sgn_low b
 have hra:=wrap32_range a
 have hrb:=wrap32_range b
 obtain ⟨x,hx⟩:∃ x,x = lowN 32 a:=⟨_,rfl⟩
 obtain ⟨y,hy⟩:∃ y,y = lowN 32 b:=⟨_,rfl⟩
 rw [<- hx] at hea hxl hsa ⊢
 rw [<- hy] at heb hyl hsb ⊢
 have HSX':=Lib.hid (show sgn 32 x = wrap64 (wrap32 a) by rw [<- hsa];exact (wrap64_in hra).symm)
 have HSY':=Lib.hid (show sgn 32 y = wrap64 (wrap32 b) by rw [<- hsb];exact (wrap64_in hrb).symm)
 clear hra hrb
 clear hx hy hX hY hsa hsb e32
 have HT:=Lib.hid (tells_ul (x:Int) (y:Int) (hold32_lt x y) (by unfold hold32_lt;rw [decide_eq_decide];omega))
 go_enter Tryz.func94,Tryz.ntmps94
 go_wp2_with fail
 refine (HT.out _).mono ?_
 rintro e w1 ⟨rfl,hB⟩
 go_wp2
 go_ret
 refine ⟨rfl,Below.trans ?_ (hB.mono (by simp;omega))⟩
 repeat (first | exact Below.refl _ _ | apply Below.setCell | apply Below.alloc)
 all_goals simp
theorem holds32_le (a b:Int) (ra : -9223372036854775808 <= a/\a <= 9223372036854775807) (rb : -9223372036854775808 <= b/\b <= 9223372036854775807) :
 Says 94 #[.int .i64 32,.bool true,.int .i64 a,.int .i64 b] (hold32_le (lowN 32 a) (lowN 32 b)):=by
 intro w
 have hua:=u64_un' a
 have hub:=u64_un' b
 have hea:=lowN_cast' a
 have heb:=lowN_cast' b
 have hxl:=lowN_lt 32 a
 have hyl:=lowN_lt 32 b
 have e32:(2:Nat) ^ 32 = 4294967296:=rfl
 rw [e32] at hxl hyl
 obtain ⟨X,hX⟩:∃ x,x = un a:=⟨_,rfl⟩
 obtain ⟨Y,hY⟩:∃ y,y = un b:=⟨_,rfl⟩
 rw [<- hX] at hua
 rw [<- hY] at hub
 have hsa:=sgn_low a
 have hsb:=sgn_low b
 have hra:=wrap32_range a
 have hrb:=wrap32_range b
 obtain ⟨x,hx⟩:∃ x,x = lowN 32 a:=⟨_,rfl⟩
 obtain ⟨y,hy⟩:∃ y,y = lowN 32 b:=⟨_,rfl⟩
 rw [<- hx] at hea hxl hsa ⊢
 rw [<- hy] at heb hyl hsb ⊢
 have HSX':=Lib.hid (show sgn 32 x = wrap64 (wrap32 a) by rw [<- hsa];exact (wrap64_in hra).symm)
 have HSY':=Lib.hid (show sgn 32 y = wrap64 (wrap32 b) by rw [<- hsb];exact (wrap64_in hrb).symm)
 clear hra hrb
 clear hx hy hX hY hsa hsb e32
 have HT:=Lib.hid (tells_ule (x:Int) (y:Int) (hold32_le x y) (by unfold hold32_le;rw [decide_eq_decide];omega))
 go_enter Tryz.func94,Tryz.ntmps94
 go_wp2_with fail
 refine (HT.out _).mono ?_
 rintro e w1 ⟨rfl,hB⟩
 go_wp2
 go_ret
 refine ⟨rfl,Below.trans ?_ (hB.mono (by simp;omega))⟩
 repeat (first | exact Below.refl _ _ | apply Below.setCell | apply Below.alloc)
 all_goals simp
theorem holds32_sgt (a b:Int) (ra : -9223372036854775808 <= a/\a <= 9223372036854775807) (rb : -9223372036854775808 <= b/\b <= 9223372036854775807) :
 Says 94 #[.int .i64 33,.bool true,.int .i64 a,.int .i64 b] (hold32_sgt (lowN 32 a) (lowN 32 b)):=by
 intro w
 have hua:=u64_un' a
 have hub:=u64_un' b
 have hea:=lowN_cast' a
 have heb:=lowN_cast' b
 have hxl:=lowN_lt 32 a
 have hyl:=lowN_lt 32 b
 have e32:(2:Nat) ^ 32 = 4294967296:=rfl
 rw [e32] at hxl hyl
 obtain ⟨X,hX⟩:∃ x,x = un a:=⟨_,rfl⟩
 obtain ⟨Y,hY⟩:∃ y,y = un b:=⟨_,rfl⟩
 rw [<- hX] at hua
 rw [<- hY] at hub
 have hsa:=sgn_low a
 have hsb:=sgn_low b
 have hra:=wrap32_range a
 have hrb:=wrap32_range b
 obtain ⟨x,hx⟩:∃ x,x = lowN 32 a:=⟨_,rfl⟩
 obtain ⟨y,hy⟩:∃ y,y = lowN 32 b:=⟨_,rfl⟩
 rw [<- hx] at hea hxl hsa ⊢
 rw [<- hy] at heb hyl hsb ⊢
 have HSX':=Lib.hid (show sgn 32 x = wrap64 (wrap32 a) by rw [<- hsa];exact (wrap64_in hra).symm)
 have HSY':=Lib.hid (show sgn 32 y = wrap64 (wrap32 b) by rw [<- hsb];exact (wrap64_in hrb).symm)
 clear hra hrb
 clear hx hy hX hY hsa hsb e32
 have HT:=Lib.hid (tells_sg (wrap64 (wrap32 a)) (wrap64 (wrap32 b)) (hold32_sgt x y) (by unfold hold32_sgt;rw [HSX'.out,HSY'.out]))
 go_enter Tryz.func94,Tryz.ntmps94
 go_wp2_with fail
 refine (HT.out _).mono ?_
 rintro e w1 ⟨rfl,hB⟩
 go_wp2
 go_ret
 refine ⟨rfl,Below.trans ?_ (hB.mono (by simp;omega))⟩
 repeat (first | exact Below.refl _ _ | apply Below.setCell | apply Below.alloc)
 all_goals simp
theorem holds32_sge (a b:Int) (ra : -9223372036854775808 <= a/\a <= 9223372036854775807) (rb : -9223372036854775808 <= b/\b <= 9223372036854775807) :
 Says 94 #[.int .i64 34,.bool true,.int .i64 a,.int .i64 b] (hold32_sge (lowN 32 a) (lowN 32 b)):=by
 intro w
 have hua:=u64_un' a
 have hub:=u64_un' b
 have hea:=lowN_cast' a
 have heb:=lowN_cast' b
 have hxl:=lowN_lt 32 a
 have hyl:=lowN_lt 32 b
 have e32:(2:Nat) ^ 32 = 4294967296:=rfl
 rw [e32] at hxl hyl
 obtain ⟨X,hX⟩:∃ x,x = un a:=⟨_,rfl⟩
 obtain ⟨Y,hY⟩:∃ y,y = un b:=⟨_,rfl⟩
 rw [<- hX] at hua
 rw [<- hY] at hub
 have hsa:=sgn_low a
 have hsb:=sgn_low b
 have hra:=wrap32_range a
 have hrb:=wrap32_range b
 obtain ⟨x,hx⟩:∃ x,x = lowN 32 a:=⟨_,rfl⟩
 obtain ⟨y,hy⟩:∃ y,y = lowN 32 b:=⟨_,rfl⟩
 rw [<- hx] at hea hxl hsa ⊢
 rw [<- hy] at heb hyl hsb ⊢
 have HSX':=Lib.hid (show sgn 32 x = wrap64 (wrap32 a) by rw [<- hsa];exact (wrap64_in hra).symm)
 have HSY':=Lib.hid (show sgn 32 y = wrap64 (wrap32 b) by rw [<- hsb];exact (wrap64_in hrb).symm)
 clear hra hrb
 clear hx hy hX hY hsa hsb e32
 have HT:=Lib.hid (tells_sge (wrap64 (wrap32 a)) (wrap64 (wrap32 b)) (hold32_sge x y) (by unfold hold32_sge;rw [HSX'.out,HSY'.out]))
 go_enter Tryz.func94,Tryz.ntmps94
 go_wp2_with fail
 refine (HT.out _).mono ?_
 rintro e w1 ⟨rfl,hB⟩
 go_wp2
 go_ret
 refine ⟨rfl,Below.trans ?_ (hB.mono (by simp;omega))⟩
 repeat (first | exact Below.refl _ _ | apply Below.setCell | apply Below.alloc)
 all_goals simp
theorem holds32_slt (a b:Int) (ra : -9223372036854775808 <= a/\a <= 9223372036854775807) (rb : -9223372036854775808 <= b/\b <= 9223372036854775807) :
 Says 94 #[.int .i64 35,.bool true,.int .i64 a,.int .i64 b] (hold32_slt (lowN 32 a) (lowN 32 b)):=by
 intro w
 have hua:=u64_un' a
 have hub:=u64_un' b
 have hea:=lowN_cast' a
 have heb:=lowN_cast' b
 have hxl:=lowN_lt 32 a
 have hyl:=lowN_lt 32 b
 have e32:(2:Nat) ^ 32 = 4294967296:=rfl
 rw [e32] at hxl hyl
 obtain ⟨X,hX⟩:∃ x,x = un a:=⟨_,rfl⟩
 obtain ⟨Y,hY⟩:∃ y,y = un b:=⟨_,rfl⟩
 rw [<- hX] at hua
 rw [<- hY] at hub
 have hsa:=sgn_low a
 have hsb:=sgn_low b
 have hra:=wrap32_range a
 have hrb:=wrap32_range b
 obtain ⟨x,hx⟩:∃ x,x = lowN 32 a:=⟨_,rfl⟩
 obtain ⟨y,hy⟩:∃ y,y = lowN 32 b:=⟨_,rfl⟩
 rw [<- hx] at hea hxl hsa ⊢
 rw [<- hy] at heb hyl hsb ⊢
 have HSX':=Lib.hid (show sgn 32 x = wrap64 (wrap32 a) by rw [<- hsa];exact (wrap64_in hra).symm)
 have HSY':=Lib.hid (show sgn 32 y = wrap64 (wrap32 b) by rw [<- hsb];exact (wrap64_in hrb).symm)
 clear hra hrb
 clear hx hy hX hY hsa hsb e32
 have HT:=Lib.hid (tells_sl (wrap64 (wrap32 a)) (wrap64 (wrap32 b)) (hold32_slt x y) (by unfold hold32_slt;rw [HSX'.out,HSY'.out]))
 go_enter Tryz.func94,Tryz.ntmps94
 go_wp2_with fail
 refine (HT.out _).mono ?_
 rintro e w1 ⟨rfl,hB⟩
 go_wp2
 go_ret
 refine ⟨rfl,Below.trans ?_ (hB.mono (by simp;omega))⟩
 repeat (first | exact Below.refl _ _ | apply Below.setCell | apply Below.alloc)
 all_goals simp
theorem holds32_sle (a b:Int) (ra : -9223372036854775808 <= a/\a <= 9223372036854775807) (rb : -9223372036854775808 <= b/\b <= 9223372036854775807) :
 Says 94 #[.int .i64 36,.bool true,.int .i64 a,.int .i64 b] (hold32_sle (lowN 32 a) (lowN 32 b)):=by
 intro w
 have hua:=u64_un' a
 have hub:=u64_un' b
 have hea:=lowN_cast' a
 have heb:=lowN_cast' b
 have hxl:=lowN_lt 32 a
 have hyl:=lowN_lt 32 b
 have e32:(2:Nat) ^ 32 = 4294967296:=rfl
 rw [e32] at hxl hyl
 obtain ⟨X,hX⟩:∃ x,x = un a:=⟨_,rfl⟩
 obtain ⟨Y,hY⟩:∃ y,y = un b:=⟨_,rfl⟩
 rw [<- hX] at hua
 rw [<- hY] at hub
 have hsa:=sgn_low a
 have hsb:=sgn_low b
 have hra:=wrap32_range a
 have hrb:=wrap32_range b
 obtain ⟨x,hx⟩:∃ x,x = lowN 32 a:=⟨_,rfl⟩
 obtain ⟨y,hy⟩:∃ y,y = lowN 32 b:=⟨_,rfl⟩
 rw [<- hx] at hea hxl hsa ⊢
 rw [<- hy] at heb hyl hsb ⊢
 have HSX':=Lib.hid (show sgn 32 x = wrap64 (wrap32 a) by rw [<- hsa];exact (wrap64_in hra).symm)
 have HSY':=Lib.hid (show sgn 32 y = wrap64 (wrap32 b) by rw [<- hsb];exact (wrap64_in hrb).symm)
 clear hra hrb
 clear hx hy hX hY hsa hsb e32
 have HT:=Lib.hid (tells_sle (wrap64 (wrap32 a)) (wrap64 (wrap32 b)) (hold32_sle x y) (by unfold hold32_sle;rw [HSX'.out,HSY'.out]))
 go_enter Tryz.func94,Tryz.ntmps94
 go_wp2_with fail
 refine (HT.out _).mono ?_
 rintro e w1 ⟨rfl,hB⟩
 go_wp2
 go_ret
 refine ⟨rfl,Below.trans ?_ (hB.mono (by simp;omega))⟩
 repeat (first | exact Below.refl _ _ | apply Below.setCell | apply Below.alloc)
 all_goals simp
theorem holds32_set (a b:Int) (ra : -9223372036854775808 <= a/\a <= 9223372036854775807) (rb : -9223372036854775808 <= b/\b <= 9223372036854775807) :
 Says 94 #[.int .i64 37,.bool true,.int .i64 a,.int .i64 b] (hold32_set (lowN 32 a) (lowN 32 b)):=by
 intro w
 have hua:=u64_un' a
 have hub:=u64_un' b
 have hea:=lowN_cast' a
 have heb:=lowN_cast' b
 have hxl:=lowN_lt 32 a
 have hyl:=lowN_lt 32 b
 have e32:(2:Nat) ^ 32 = 4294967296:=rfl
 rw [e32] at hxl hyl
 obtain ⟨X,hX⟩:∃ x,x = un a:=⟨_,rfl⟩
 obtain ⟨Y,hY⟩:∃ y,y = un b:=⟨_,rfl⟩
 rw [<- hX] at hua
 rw [<- hY] at hub
 have hsa:=sgn_low a
 have hsb:=sgn_low b
 have hra:=wrap32_range a
 have hrb:=wrap32_range b
 obtain ⟨x,hx⟩:∃ x,x = lowN 32 a:=⟨_,rfl⟩
 obtain ⟨y,hy⟩:∃ y,y = lowN 32 b:=⟨_,rfl⟩
 rw [<- hx] at hea hxl hsa ⊢
 rw [<- hy] at heb hyl hsb ⊢
 have HSX':=Lib.hid (show sgn 32 x = wrap64 (wrap32 a) by rw [<- hsa];exact (wrap64_in hra).symm)
 have HSY':=Lib.hid (show sgn 32 y = wrap64 (wrap32 b) by rw [<- hsb];exact (wrap64_in hrb).symm)
 clear hra hrb
 clear hx hy hX hY hsa hsb e32
 have hand:=u64_band x y (by omega) (by omega)
 go_enter Tryz.func94,Tryz.ntmps94
 go_wp2
 go_ret
 refine ⟨ret_bool ?_,?_⟩
 ·first | rfl | (rw [hand];rfl)
 ·repeat (first | exact Below.refl _ _ | apply Below.setCell | apply Below.alloc)
  all_goals simp
end Go.Proofs.YtdepknffpnnmmaaGreat
