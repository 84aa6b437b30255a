import Derived.Test.YtjacnhnaoenelaaGreatQJ0b
set_option maxRecDepth 100000
set_option maxHeartbeats 800000
namespace Go.Proofs.YtjacnhnaoenelaaGreat
open Lib (hid)
open Go.Proofs.Tryz
open Go.RowKit
set_option linter.unusedVariables false
def Says (f:FuncId) (args:Array Value) (v:Bool):Prop:=
 ∀ w:World,Calls prog f args w fun e w'=>e = .returned (.bool v)/\Below w.heap.size w w'
theorem Ads (x y:Int) (p:Bool) (hp:p = decide (y < x)):Says 106 #[.agg #[.int .u64 x,.int .u64 y],.bool false,.bool false] p:=by
 intro w;go_enter func106,ntmps106;go_wp2;go_ret
 refine ⟨Ec ?_,(Below.refl _ _).alloc nl _⟩;rw [hp]
theorem Aao (x y:Int) (p:Bool) (hp:p = decide (y <= x)):Says 106 #[.agg #[.int .u64 x,.int .u64 y],.bool false,.bool true] p:=by
 intro w
 by_cases h:x = y
 ·have hb:(x == y) = true:=by simpa using h
  have H:=hid h;clear h;go_enter func106,ntmps106;go_wp2;go_ret
  refine ⟨Ec ?_,(Below.refl _ _).alloc nl _⟩;have h:=H.out;rw [hp];symm;rw [decide_eq_true_iff];omega
 ·have hb:(x == y) = false:=by simpa using h
  have H:=hid h;clear h;go_enter func106,ntmps106;go_wp2;go_ret
  refine ⟨Ec ?_,(Below.refl _ _).alloc nl _⟩;have h:=H.out;rw [hp,decide_eq_decide];omega
theorem Adt (x y:Int) (p:Bool) (hp:p = decide (x < y)):Says 106 #[.agg #[.int .u64 x,.int .u64 y],.bool true,.bool false] p:=by
 intro w;go_enter func106,ntmps106;go_wp2;go_ret
 refine ⟨Ec ?_,(Below.refl _ _).alloc nl _⟩;rw [hp]
theorem Aap (x y:Int) (p:Bool) (hp:p = decide (x <= y)):Says 106 #[.agg #[.int .u64 x,.int .u64 y],.bool true,.bool true] p:=by
 intro w
 by_cases h:x = y
 ·have hb:(x == y) = true:=by simpa using h
  have H:=hid h;clear h;go_enter func106,ntmps106;go_wp2;go_ret
  refine ⟨Ec ?_,(Below.refl _ _).alloc nl _⟩;have h:=H.out;rw [hp];symm;rw [decide_eq_true_iff];omega
 ·have hb:(x == y) = false:=by simpa using h
  have H:=hid h;clear h;go_enter func106,ntmps106;go_wp2;go_ret
  refine ⟨Ec ?_,(Below.refl _ _).alloc nl _⟩;have h:=H.out;rw [hp,decide_eq_decide];omega
theorem Adu (x y:Int) (p:Bool) (hp:p = decide (y < x)):Says 107 #[.agg #[.int .i64 x,.int .i64 y],.bool false,.bool false] p:=by
 intro w;go_enter func107,ntmps107;go_wp2;go_ret
 refine ⟨Ec ?_,(Below.refl _ _).alloc nl _⟩;rw [hp]
theorem Aaq (x y:Int) (p:Bool) (hp:p = decide (y <= x)):Says 107 #[.agg #[.int .i64 x,.int .i64 y],.bool false,.bool true] p:=by
 intro w
 by_cases h:x = y
 ·have hb:(x == y) = true:=by simpa using h
  have H:=hid h;clear h;go_enter func107,ntmps107;go_wp2;go_ret
  refine ⟨Ec ?_,(Below.refl _ _).alloc nl _⟩;have h:=H.out;rw [hp];symm;rw [decide_eq_true_iff];omega
 ·have hb:(x == y) = false:=by simpa using h
  have H:=hid h;clear h;go_enter func107,ntmps107;go_wp2;go_ret
  refine ⟨Ec ?_,(Below.refl _ _).alloc nl _⟩;have h:=H.out;rw [hp,decide_eq_decide];omega
theorem Adv (x y:Int) (p:Bool) (hp:p = decide (x < y)):Says 107 #[.agg #[.int .i64 x,.int .i64 y],.bool true,.bool false] p:=by
 intro w;go_enter func107,ntmps107;go_wp2;go_ret
 refine ⟨Ec ?_,(Below.refl _ _).alloc nl _⟩;rw [hp]
theorem Aar (x y:Int) (p:Bool) (hp:p = decide (x <= y)):Says 107 #[.agg #[.int .i64 x,.int .i64 y],.bool true,.bool true] p:=by
 intro w
 by_cases h:x = y
 ·have hb:(x == y) = true:=by simpa using h
  have H:=hid h;clear h;go_enter func107,ntmps107;go_wp2;go_ret
  refine ⟨Ec ?_,(Below.refl _ _).alloc nl _⟩;have h:=H.out;rw [hp];symm;rw [decide_eq_true_iff];omega
 ·have hb:(x == y) = false:=by simpa using h
  have H:=hid h;clear h;go_enter func107,ntmps107;go_wp2;go_ret
  refine ⟨Ec ?_,(Below.refl _ _).alloc nl _⟩;have h:=H.out;rw [hp,decide_eq_decide];omega
theorem iw (x y:Nat):((x:Int) == y) = decide (x = y):=by
 by_cases h:x = y
 ·simp [h]
 ·have h2:(x:Int) ≠ y:=by omega
  rw [beq_eq_false_iff_ne.mpr h2];simp [h]
theorem bne_cast (x y:Nat):((x:Int) != y) = !decide (x = y):=by
 unfold bne;rw [iw]
theorem Eh (a:Int):Ag 64 a = un a:=Nat.mod_eq_of_lt (Eo a)
theorem Ba (a:Int):IntKind.u64.wrap a = ((un a:Nat):Int):=by rw [IntKind.wrap_u64,Nb]
theorem E5 {a:Int} (h : -9223372036854775808 <= a/\a <= 9223372036854775807):G8 64 (un a) = a:=by
 rw [Aam (Eo a)];exact Aaj h.1 h.2
theorem Cm (a:Int):a % 4294967296 = ((Ag 32 a:Nat):Int):=by
 unfold Ag;rw [Int.natCast_emod,Nb];have e:((2 ^ 32:Nat):Int) = 4294967296:=rfl;rw [e];omega
theorem E8 (a:Int):wrap32 a = G8 32 (Ag 32 a):=by
 have h:=Cm a;rw [Aan (Dl 32 a),<- h];unfold wrap32;omega
theorem wrap64_in {a:Int} (h : -2147483648 <= a/\a <= 2147483647):wrap64 a = a:=by unfold wrap64;omega
theorem Bg (a:Int) : -2147483648 <= wrap32 a/\wrap32 a <= 2147483647:=by unfold wrap32;omega
theorem Adw (x y:Nat) (hx:x < 18446744073709551616) (hy:y < 18446744073709551616):(bits BinOp.and IntKind.u64 (x:Int) (y:Int) != 0) = !decide (x &&& y = 0):=by
 rw [bits_and_u64_nat x y hx hy]
 by_cases h:x &&& y = 0
 ·simp [h]
 ·simp [h]
def Yb (x y:Nat):Bool:=decide (x = y)
def Yc (x y:Nat):Bool:=!decide (x = y)
def Uj (x y:Nat):Bool:=decide (y < x)
def Uk (x y:Nat):Bool:=decide (y <= x)
def Ul (x y:Nat):Bool:=decide (x < y)
def Um (x y:Nat):Bool:=decide (x <= y)
def Qh (x y:Nat):Bool:=decide (G8 64 y < G8 64 x)
def Qi (x y:Nat):Bool:=decide (G8 64 y <= G8 64 x)
def Qj (x y:Nat):Bool:=decide (G8 64 x < G8 64 y)
def Qk (x y:Nat):Bool:=decide (G8 64 x <= G8 64 y)
def iy (x y:Nat):Bool:=!decide (x &&& y = 0)
theorem Ag5 (a b:Int) (ra : -9223372036854775808 <= a/\a <= 9223372036854775807) (rb : -9223372036854775808 <= b/\b <= 9223372036854775807) :
 Says 79 #[.int .i64 27,.bool false,.int .i64 a,.int .i64 b] (Yb (Ag 64 a) (Ag 64 b)):=by
 intro w;have Gm:=Ba a;have hub:=Ba b;have hxl:=Eo a;have hyl:=Eo b;have Ve:=hid (E5 ra);have Vf:=hid (E5 rb);rw [Eh a,Eh b];obtain ⟨x,hx⟩:∃ x,x = un a:=⟨_,rfl⟩;obtain ⟨y,hy⟩:∃ y,y = un b:=⟨_,rfl⟩;have Jh:=hid (show G8 64 x = a by rw [hx];exact Ve.out);have Ji:=hid (show G8 64 y = b by rw [hy];exact Vf.out);rw [<- hx] at Gm hxl ⊢;rw [<- hy] at hub hyl ⊢;clear hx hy Ve Vf;go_enter func79,ntmps79;go_wp2;go_ret
 refine ⟨Ec ?_,?_⟩
 ·unfold Yb;exact iw x y
 ·repeat (first | exact Below.refl _ _ | apply Below.setCell | apply Below.alloc)
  all_goals simp
theorem Ag6 (a b:Int) (ra : -9223372036854775808 <= a/\a <= 9223372036854775807) (rb : -9223372036854775808 <= b/\b <= 9223372036854775807) :
 Says 79 #[.int .i64 28,.bool false,.int .i64 a,.int .i64 b] (Yc (Ag 64 a) (Ag 64 b)):=by
 intro w;have Gm:=Ba a;have hub:=Ba b;have hxl:=Eo a;have hyl:=Eo b;have Ve:=hid (E5 ra);have Vf:=hid (E5 rb);rw [Eh a,Eh b];obtain ⟨x,hx⟩:∃ x,x = un a:=⟨_,rfl⟩;obtain ⟨y,hy⟩:∃ y,y = un b:=⟨_,rfl⟩;have Jh:=hid (show G8 64 x = a by rw [hx];exact Ve.out);have Ji:=hid (show G8 64 y = b by rw [hy];exact Vf.out);rw [<- hx] at Gm hxl ⊢;rw [<- hy] at hub hyl ⊢;clear hx hy Ve Vf;go_enter func79,ntmps79;go_wp2;go_ret
 refine ⟨Ec ?_,?_⟩
 ·unfold Yc;exact bne_cast x y
 ·repeat (first | exact Below.refl _ _ | apply Below.setCell | apply Below.alloc)
  all_goals simp
theorem Ag7 (a b:Int) (ra : -9223372036854775808 <= a/\a <= 9223372036854775807) (rb : -9223372036854775808 <= b/\b <= 9223372036854775807) :
 Says 79 #[.int .i64 29,.bool false,.int .i64 a,.int .i64 b] (Uj (Ag 64 a) (Ag 64 b)):=by
 intro w;have Gm:=Ba a;have hub:=Ba b;have hxl:=Eo a;have hyl:=Eo b;have Ve:=hid (E5 ra);have Vf:=hid (E5 rb);rw [Eh a,Eh b];obtain ⟨x,hx⟩:∃ x,x = un a:=⟨_,rfl⟩;obtain ⟨y,hy⟩:∃ y,y = un b:=⟨_,rfl⟩;have Jh:=hid (show G8 64 x = a by rw [hx];exact Ve.out);have Ji:=hid (show G8 64 y = b by rw [hy];exact Vf.out);rw [<- hx] at Gm hxl ⊢;rw [<- hy] at hub hyl ⊢;clear hx hy Ve Vf;have HT:=hid (Ads (x:Int) (y:Int) (Uj x y) (by unfold Uj;rw [decide_eq_decide];omega));go_enter func79,ntmps79;go_wp2_with fail;refine (HT.out _).mono ?_;rintro e w1 ⟨rfl,hB⟩;go_wp2;go_ret
 refine ⟨rfl,Below.trans ?_ (hB.mono (by simp;omega))⟩
 repeat (first | exact Below.refl _ _ | apply Below.setCell | apply Below.alloc)
 all_goals simp
theorem Ag8 (a b:Int) (ra : -9223372036854775808 <= a/\a <= 9223372036854775807) (rb : -9223372036854775808 <= b/\b <= 9223372036854775807) :
 Says 79 #[.int .i64 30,.bool false,.int .i64 a,.int .i64 b] (Uk (Ag 64 a) (Ag 64 b)):=by
 intro w;have Gm:=Ba a;have hub:=Ba b;have hxl:=Eo a;have hyl:=Eo b;have Ve:=hid (E5 ra);have Vf:=hid (E5 rb);rw [Eh a,Eh b];obtain ⟨x,hx⟩:∃ x,x = un a:=⟨_,rfl⟩;obtain ⟨y,hy⟩:∃ y,y = un b:=⟨_,rfl⟩;have Jh:=hid (show G8 64 x = a by rw [hx];exact Ve.out);have Ji:=hid (show G8 64 y = b by rw [hy];exact Vf.out);rw [<- hx] at Gm hxl ⊢;rw [<- hy] at hub hyl ⊢;clear hx hy Ve Vf;have HT:=hid (Aao (x:Int) (y:Int) (Uk x y) (by unfold Uk;rw [decide_eq_decide];omega));go_enter func79,ntmps79;go_wp2_with fail;refine (HT.out _).mono ?_;rintro e w1 ⟨rfl,hB⟩;go_wp2;go_ret
 refine ⟨rfl,Below.trans ?_ (hB.mono (by simp;omega))⟩
 repeat (first | exact Below.refl _ _ | apply Below.setCell | apply Below.alloc)
 all_goals simp
theorem Ag9 (a b:Int) (ra : -9223372036854775808 <= a/\a <= 9223372036854775807) (rb : -9223372036854775808 <= b/\b <= 9223372036854775807) :
 Says 79 #[.int .i64 31,.bool false,.int .i64 a,.int .i64 b] (Ul (Ag 64 a) (Ag 64 b)):=by
 intro w;have Gm:=Ba a;have hub:=Ba b;have hxl:=Eo a;have hyl:=Eo b;have Ve:=hid (E5 ra);have Vf:=hid (E5 rb);rw [Eh a,Eh b];obtain ⟨x,hx⟩:∃ x,x = un a:=⟨_,rfl⟩;obtain ⟨y,hy⟩:∃ y,y = un b:=⟨_,rfl⟩;have Jh:=hid (show G8 64 x = a by rw [hx];exact Ve.out);have Ji:=hid (show G8 64 y = b by rw [hy];exact Vf.out);rw [<- hx] at Gm hxl ⊢;rw [<- hy] at hub hyl ⊢;clear hx hy Ve Vf;have HT:=hid (Adt (x:Int) (y:Int) (Ul x y) (by unfold Ul;rw [decide_eq_decide];omega));go_enter func79,ntmps79;go_wp2_with fail;refine (HT.out _).mono ?_;rintro e w1 ⟨rfl,hB⟩;go_wp2;go_ret
 refine ⟨rfl,Below.trans ?_ (hB.mono (by simp;omega))⟩
 repeat (first | exact Below.refl _ _ | apply Below.setCell | apply Below.alloc)
 all_goals simp
theorem Aha (a b:Int) (ra : -9223372036854775808 <= a/\a <= 9223372036854775807) (rb : -9223372036854775808 <= b/\b <= 9223372036854775807) :
 Says 79 #[.int .i64 32,.bool false,.int .i64 a,.int .i64 b] (Um (Ag 64 a) (Ag 64 b)):=by
 intro w;have Gm:=Ba a;have hub:=Ba b;have hxl:=Eo a;have hyl:=Eo b;have Ve:=hid (E5 ra);have Vf:=hid (E5 rb);rw [Eh a,Eh b];obtain ⟨x,hx⟩:∃ x,x = un a:=⟨_,rfl⟩;obtain ⟨y,hy⟩:∃ y,y = un b:=⟨_,rfl⟩;have Jh:=hid (show G8 64 x = a by rw [hx];exact Ve.out);have Ji:=hid (show G8 64 y = b by rw [hy];exact Vf.out);rw [<- hx] at Gm hxl ⊢;rw [<- hy] at hub hyl ⊢;clear hx hy Ve Vf;have HT:=hid (Aap (x:Int) (y:Int) (Um x y) (by unfold Um;rw [decide_eq_decide];omega));go_enter func79,ntmps79;go_wp2_with fail;refine (HT.out _).mono ?_;rintro e w1 ⟨rfl,hB⟩;go_wp2;go_ret
 refine ⟨rfl,Below.trans ?_ (hB.mono (by simp;omega))⟩
 repeat (first | exact Below.refl _ _ | apply Below.setCell | apply Below.alloc)
 all_goals simp
theorem Adx (a b:Int) (ra : -9223372036854775808 <= a/\a <= 9223372036854775807) (rb : -9223372036854775808 <= b/\b <= 9223372036854775807) :
 Says 79 #[.int .i64 33,.bool false,.int .i64 a,.int .i64 b] (Qh (Ag 64 a) (Ag 64 b)):=by
 intro w;have Gm:=Ba a;have hub:=Ba b;have hxl:=Eo a;have hyl:=Eo b;have Ve:=hid (E5 ra);have Vf:=hid (E5 rb);rw [Eh a,Eh b];obtain ⟨x,hx⟩:∃ x,x = un a:=⟨_,rfl⟩;obtain ⟨y,hy⟩:∃ y,y = un b:=⟨_,rfl⟩;have Jh:=hid (show G8 64 x = a by rw [hx];exact Ve.out);have Ji:=hid (show G8 64 y = b by rw [hy];exact Vf.out);rw [<- hx] at Gm hxl ⊢;rw [<- hy] at hub hyl ⊢;clear hx hy Ve Vf;have HT:=hid (Adu a b (Qh x y) (by unfold Qh;rw [Jh.out,Ji.out]));go_enter func79,ntmps79;go_wp2_with fail;refine (HT.out _).mono ?_;rintro e w1 ⟨rfl,hB⟩;go_wp2;go_ret
 refine ⟨rfl,Below.trans ?_ (hB.mono (by simp;omega))⟩
 repeat (first | exact Below.refl _ _ | apply Below.setCell | apply Below.alloc)
 all_goals simp
theorem Ady (a b:Int) (ra : -9223372036854775808 <= a/\a <= 9223372036854775807) (rb : -9223372036854775808 <= b/\b <= 9223372036854775807) :
 Says 79 #[.int .i64 34,.bool false,.int .i64 a,.int .i64 b] (Qi (Ag 64 a) (Ag 64 b)):=by
 intro w;have Gm:=Ba a;have hub:=Ba b;have hxl:=Eo a;have hyl:=Eo b;have Ve:=hid (E5 ra);have Vf:=hid (E5 rb);rw [Eh a,Eh b];obtain ⟨x,hx⟩:∃ x,x = un a:=⟨_,rfl⟩;obtain ⟨y,hy⟩:∃ y,y = un b:=⟨_,rfl⟩;have Jh:=hid (show G8 64 x = a by rw [hx];exact Ve.out);have Ji:=hid (show G8 64 y = b by rw [hy];exact Vf.out);rw [<- hx] at Gm hxl ⊢;rw [<- hy] at hub hyl ⊢;clear hx hy Ve Vf;have HT:=hid (Aaq a b (Qi x y) (by unfold Qi;rw [Jh.out,Ji.out]));go_enter func79,ntmps79;go_wp2_with fail;refine (HT.out _).mono ?_;rintro e w1 ⟨rfl,hB⟩;go_wp2;go_ret
 refine ⟨rfl,Below.trans ?_ (hB.mono (by simp;omega))⟩
 repeat (first | exact Below.refl _ _ | apply Below.setCell | apply Below.alloc)
 all_goals simp
theorem Adz (a b:Int) (ra : -9223372036854775808 <= a/\a <= 9223372036854775807) (rb : -9223372036854775808 <= b/\b <= 9223372036854775807) :
 Says 79 #[.int .i64 35,.bool false,.int .i64 a,.int .i64 b] (Qj (Ag 64 a) (Ag 64 b)):=by
 intro w;have Gm:=Ba a;have hub:=Ba b;have hxl:=Eo a;have hyl:=Eo b;have Ve:=hid (E5 ra);have Vf:=hid (E5 rb);rw [Eh a,Eh b];obtain ⟨x,hx⟩:∃ x,x = un a:=⟨_,rfl⟩;obtain ⟨y,hy⟩:∃ y,y = un b:=⟨_,rfl⟩;have Jh:=hid (show G8 64 x = a by rw [hx];exact Ve.out);have Ji:=hid (show G8 64 y = b by rw [hy];exact Vf.out);rw [<- hx] at Gm hxl ⊢;rw [<- hy] at hub hyl ⊢;clear hx hy Ve Vf;have HT:=hid (Adv a b (Qj x y) (by unfold Qj;rw [Jh.out,Ji.out]));go_enter func79,ntmps79;go_wp2_with fail;refine (HT.out _).mono ?_;rintro e w1 ⟨rfl,hB⟩;go_wp2;go_ret
 refine ⟨rfl,Below.trans ?_ (hB.mono (by simp;omega))⟩
 repeat (first | exact Below.refl _ _ | apply Below.setCell | apply Below.alloc)
 all_goals simp
theorem Ad0 (a b:Int) (ra : -9223372036854775808 <= a/\a <= 9223372036854775807) (rb : -9223372036854775808 <= b/\b <= 9223372036854775807) :
 Says 79 #[.int .i64 36,.bool false,.int .i64 a,.int .i64 b] (Qk (Ag 64 a) (Ag 64 b)):=by
 intro w;have Gm:=Ba a;have hub:=Ba b;have hxl:=Eo a;have hyl:=Eo b;have Ve:=hid (E5 ra);have Vf:=hid (E5 rb);rw [Eh a,Eh b];obtain ⟨x,hx⟩:∃ x,x = un a:=⟨_,rfl⟩;obtain ⟨y,hy⟩:∃ y,y = un b:=⟨_,rfl⟩;have Jh:=hid (show G8 64 x = a by rw [hx];exact Ve.out);have Ji:=hid (show G8 64 y = b by rw [hy];exact Vf.out);rw [<- hx] at Gm hxl ⊢;rw [<- hy] at hub hyl ⊢;clear hx hy Ve Vf;have HT:=hid (Aar a b (Qk x y) (by unfold Qk;rw [Jh.out,Ji.out]));go_enter func79,ntmps79;go_wp2_with fail;refine (HT.out _).mono ?_;rintro e w1 ⟨rfl,hB⟩;go_wp2;go_ret
 refine ⟨rfl,Below.trans ?_ (hB.mono (by simp;omega))⟩
 repeat (first | exact Below.refl _ _ | apply Below.setCell | apply Below.alloc)
 all_goals simp
theorem Ad1 (a b:Int) (ra : -9223372036854775808 <= a/\a <= 9223372036854775807) (rb : -9223372036854775808 <= b/\b <= 9223372036854775807) :
 Says 79 #[.int .i64 37,.bool false,.int .i64 a,.int .i64 b] (iy (Ag 64 a) (Ag 64 b)):=by
 intro w;have Gm:=Ba a;have hub:=Ba b;have hxl:=Eo a;have hyl:=Eo b;have Ve:=hid (E5 ra);have Vf:=hid (E5 rb);rw [Eh a,Eh b];obtain ⟨x,hx⟩:∃ x,x = un a:=⟨_,rfl⟩;obtain ⟨y,hy⟩:∃ y,y = un b:=⟨_,rfl⟩;have Jh:=hid (show G8 64 x = a by rw [hx];exact Ve.out);have Ji:=hid (show G8 64 y = b by rw [hy];exact Vf.out);rw [<- hx] at Gm hxl ⊢;rw [<- hy] at hub hyl ⊢;clear hx hy Ve Vf;have hand:=Adw x y hxl hyl;go_enter func79,ntmps79;go_wp2;go_ret
 refine ⟨Ec ?_,?_⟩
 ·first | rfl | (rw [hand];rfl)
 ·repeat (first | exact Below.refl _ _ | apply Below.setCell | apply Below.alloc)
  all_goals simp
def Yd (x y:Nat):Bool:=decide (x = y)
def Ye (x y:Nat):Bool:=!decide (x = y)
def Un (x y:Nat):Bool:=decide (y < x)
def Uo (x y:Nat):Bool:=decide (y <= x)
def Ur (x y:Nat):Bool:=decide (x < y)
def Us (x y:Nat):Bool:=decide (x <= y)
def Ql (x y:Nat):Bool:=decide (G8 32 y < G8 32 x)
def Qm (x y:Nat):Bool:=decide (G8 32 y <= G8 32 x)
def Qn (x y:Nat):Bool:=decide (G8 32 x < G8 32 y)
def Qo (x y:Nat):Bool:=decide (G8 32 x <= G8 32 y)
def jc (x y:Nat):Bool:=!decide (x &&& y = 0)
theorem Ahb (a b:Int) (ra : -9223372036854775808 <= a/\a <= 9223372036854775807) (rb : -9223372036854775808 <= b/\b <= 9223372036854775807) :
 Says 79 #[.int .i64 27,.bool true,.int .i64 a,.int .i64 b] (Yd (Ag 32 a) (Ag 32 b)):=by
 intro w;have Gm:=Ba a;have hub:=Ba b;have hea:=Cm a;have heb:=Cm b;have hxl:=Dl 32 a;have hyl:=Dl 32 b;have e32:(2:Nat) ^ 32 = 4294967296:=rfl;rw [e32] at hxl hyl;obtain ⟨X,hX⟩:∃ x,x = un a:=⟨_,rfl⟩;obtain ⟨Y,hY⟩:∃ y,y = un b:=⟨_,rfl⟩;rw [<- hX] at Gm;rw [<- hY] at hub;have hsa:=E8 a;have hsb:=E8 b;have hra:=Bg a;have hrb:=Bg b;obtain ⟨x,hx⟩:∃ x,x = Ag 32 a:=⟨_,rfl⟩;obtain ⟨y,hy⟩:∃ y,y = Ag 32 b:=⟨_,rfl⟩;rw [<- hx] at hea hxl hsa ⊢;rw [<- hy] at heb hyl hsb ⊢;have Jh:=hid (show G8 32 x = wrap64 (wrap32 a) by rw [<- hsa];exact (wrap64_in hra).symm);have Ji:=hid (show G8 32 y = wrap64 (wrap32 b) by rw [<- hsb];exact (wrap64_in hrb).symm);clear hra hrb;clear hx hy hX hY hsa hsb e32;go_enter func79,ntmps79;go_wp2;go_ret
 refine ⟨Ec ?_,?_⟩
 ·unfold Yd;exact iw x y
 ·repeat (first | exact Below.refl _ _ | apply Below.setCell | apply Below.alloc)
  all_goals simp
theorem Ahc (a b:Int) (ra : -9223372036854775808 <= a/\a <= 9223372036854775807) (rb : -9223372036854775808 <= b/\b <= 9223372036854775807) :
 Says 79 #[.int .i64 28,.bool true,.int .i64 a,.int .i64 b] (Ye (Ag 32 a) (Ag 32 b)):=by
 intro w;have Gm:=Ba a;have hub:=Ba b;have hea:=Cm a;have heb:=Cm b;have hxl:=Dl 32 a;have hyl:=Dl 32 b;have e32:(2:Nat) ^ 32 = 4294967296:=rfl;rw [e32] at hxl hyl;obtain ⟨X,hX⟩:∃ x,x = un a:=⟨_,rfl⟩;obtain ⟨Y,hY⟩:∃ y,y = un b:=⟨_,rfl⟩;rw [<- hX] at Gm;rw [<- hY] at hub;have hsa:=E8 a;have hsb:=E8 b;have hra:=Bg a;have hrb:=Bg b;obtain ⟨x,hx⟩:∃ x,x = Ag 32 a:=⟨_,rfl⟩;obtain ⟨y,hy⟩:∃ y,y = Ag 32 b:=⟨_,rfl⟩;rw [<- hx] at hea hxl hsa ⊢;rw [<- hy] at heb hyl hsb ⊢;have Jh:=hid (show G8 32 x = wrap64 (wrap32 a) by rw [<- hsa];exact (wrap64_in hra).symm);have Ji:=hid (show G8 32 y = wrap64 (wrap32 b) by rw [<- hsb];exact (wrap64_in hrb).symm);clear hra hrb;clear hx hy hX hY hsa hsb e32;go_enter func79,ntmps79;go_wp2;go_ret
 refine ⟨Ec ?_,?_⟩
 ·unfold Ye;exact bne_cast x y
 ·repeat (first | exact Below.refl _ _ | apply Below.setCell | apply Below.alloc)
  all_goals simp
theorem Ahd (a b:Int) (ra : -9223372036854775808 <= a/\a <= 9223372036854775807) (rb : -9223372036854775808 <= b/\b <= 9223372036854775807) :
 Says 79 #[.int .i64 29,.bool true,.int .i64 a,.int .i64 b] (Un (Ag 32 a) (Ag 32 b)):=by
 intro w;have Gm:=Ba a;have hub:=Ba b;have hea:=Cm a;have heb:=Cm b;have hxl:=Dl 32 a;have hyl:=Dl 32 b;have e32:(2:Nat) ^ 32 = 4294967296:=rfl;rw [e32] at hxl hyl;obtain ⟨X,hX⟩:∃ x,x = un a:=⟨_,rfl⟩;obtain ⟨Y,hY⟩:∃ y,y = un b:=⟨_,rfl⟩;rw [<- hX] at Gm;rw [<- hY] at hub;have hsa:=E8 a;have hsb:=E8 b;have hra:=Bg a;have hrb:=Bg b;obtain ⟨x,hx⟩:∃ x,x = Ag 32 a:=⟨_,rfl⟩;obtain ⟨y,hy⟩:∃ y,y = Ag 32 b:=⟨_,rfl⟩;rw [<- hx] at hea hxl hsa ⊢;rw [<- hy] at heb hyl hsb ⊢;have Jh:=hid (show G8 32 x = wrap64 (wrap32 a) by rw [<- hsa];exact (wrap64_in hra).symm);have Ji:=hid (show G8 32 y = wrap64 (wrap32 b) by rw [<- hsb];exact (wrap64_in hrb).symm);clear hra hrb;clear hx hy hX hY hsa hsb e32;have HT:=hid (Ads (x:Int) (y:Int) (Un x y) (by unfold Un;rw [decide_eq_decide];omega));go_enter func79,ntmps79;go_wp2_with fail;refine (HT.out _).mono ?_;rintro e w1 ⟨rfl,hB⟩;go_wp2;go_ret
 refine ⟨rfl,Below.trans ?_ (hB.mono (by simp;omega))⟩
 repeat (first | exact Below.refl _ _ | apply Below.setCell | apply Below.alloc)
 all_goals simp
theorem Ahe (a b:Int) (ra : -9223372036854775808 <= a/\a <= 9223372036854775807) (rb : -9223372036854775808 <= b/\b <= 9223372036854775807) :
 Says 79 #[.int .i64 30,.bool true,.int .i64 a,.int .i64 b] (Uo (Ag 32 a) (Ag 32 b)):=by
 intro w;have Gm:=Ba a;have hub:=Ba b;have hea:=Cm a;have heb:=Cm b;have hxl:=Dl 32 a;have hyl:=Dl 32 b;have e32:(2:Nat) ^ 32 = 4294967296:=rfl;rw [e32] at hxl hyl;obtain ⟨X,hX⟩:∃ x,x = un a:=⟨_,rfl⟩;obtain ⟨Y,hY⟩:∃ y,y = un b:=⟨_,rfl⟩;rw [<- hX] at Gm;rw [<- hY] at hub;have hsa:=E8 a;have hsb:=E8 b;have hra:=Bg a;have hrb:=Bg b;obtain ⟨x,hx⟩:∃ x,x = Ag 32 a:=⟨_,rfl⟩;obtain ⟨y,hy⟩:∃ y,y = Ag 32 b:=⟨_,rfl⟩;rw [<- hx] at hea hxl hsa ⊢;rw [<- hy] at heb hyl hsb ⊢;have Jh:=hid (show G8 32 x = wrap64 (wrap32 a) by rw [<- hsa];exact (wrap64_in hra).symm);have Ji:=hid (show G8 32 y = wrap64 (wrap32 b) by rw [<- hsb];exact (wrap64_in hrb).symm);clear hra hrb;clear hx hy hX hY hsa hsb e32;have HT:=hid (Aao (x:Int) (y:Int) (Uo x y) (by unfold Uo;rw [decide_eq_decide];omega));go_enter func79,ntmps79;go_wp2_with fail;refine (HT.out _).mono ?_;rintro e w1 ⟨rfl,hB⟩;go_wp2;go_ret
 refine ⟨rfl,Below.trans ?_ (hB.mono (by simp;omega))⟩
 repeat (first | exact Below.refl _ _ | apply Below.setCell | apply Below.alloc)
 all_goals simp
theorem Ahf (a b:Int) (ra : -9223372036854775808 <= a/\a <= 9223372036854775807) (rb : -9223372036854775808 <= b/\b <= 9223372036854775807) :
 Says 79 #[.int .i64 31,.bool true,.int .i64 a,.int .i64 b] (Ur (Ag 32 a) (Ag 32 b)):=by
 intro w;have Gm:=Ba a;have hub:=Ba b;have hea:=Cm a;have heb:=Cm b;have hxl:=Dl 32 a;have hyl:=Dl 32 b;have e32:(2:Nat) ^ 32 = 4294967296:=rfl;rw [e32] at hxl hyl;obtain ⟨X,hX⟩:∃ x,x = un a:=⟨_,rfl⟩;obtain ⟨Y,hY⟩:∃ y,y = un b:=⟨_,rfl⟩;rw [<- hX] at Gm;rw [<- hY] at hub;have hsa:=E8 a;have hsb:=E8 b;have hra:=Bg a;have hrb:=Bg b;obtain ⟨x,hx⟩:∃ x,x = Ag 32 a:=⟨_,rfl⟩;obtain ⟨y,hy⟩:∃ y,y = Ag 32 b:=⟨_,rfl⟩;rw [<- hx] at hea hxl hsa ⊢;rw [<- hy] at heb hyl hsb ⊢;have Jh:=hid (show G8 32 x = wrap64 (wrap32 a) by rw [<- hsa];exact (wrap64_in hra).symm);have Ji:=hid (show G8 32 y = wrap64 (wrap32 b) by rw [<- hsb];exact (wrap64_in hrb).symm);clear hra hrb;clear hx hy hX hY hsa hsb e32;have HT:=hid (Adt (x:Int) (y:Int) (Ur x y) (by unfold Ur;rw [decide_eq_decide];omega));go_enter func79,ntmps79;go_wp2_with fail;refine (HT.out _).mono ?_;rintro e w1 ⟨rfl,hB⟩;go_wp2;go_ret
 refine ⟨rfl,Below.trans ?_ (hB.mono (by simp;omega))⟩
 repeat (first | exact Below.refl _ _ | apply Below.setCell | apply Below.alloc)
 all_goals simp
theorem Ahg (a b:Int) (ra : -9223372036854775808 <= a/\a <= 9223372036854775807) (rb : -9223372036854775808 <= b/\b <= 9223372036854775807) :
 Says 79 #[.int .i64 32,.bool true,.int .i64 a,.int .i64 b] (Us (Ag 32 a) (Ag 32 b)):=by
 intro w;have Gm:=Ba a;have hub:=Ba b;have hea:=Cm a;have heb:=Cm b;have hxl:=Dl 32 a;have hyl:=Dl 32 b;have e32:(2:Nat) ^ 32 = 4294967296:=rfl;rw [e32] at hxl hyl;obtain ⟨X,hX⟩:∃ x,x = un a:=⟨_,rfl⟩;obtain ⟨Y,hY⟩:∃ y,y = un b:=⟨_,rfl⟩;rw [<- hX] at Gm;rw [<- hY] at hub;have hsa:=E8 a;have hsb:=E8 b;have hra:=Bg a;have hrb:=Bg b;obtain ⟨x,hx⟩:∃ x,x = Ag 32 a:=⟨_,rfl⟩;obtain ⟨y,hy⟩:∃ y,y = Ag 32 b:=⟨_,rfl⟩;rw [<- hx] at hea hxl hsa ⊢;rw [<- hy] at heb hyl hsb ⊢;have Jh:=hid (show G8 32 x = wrap64 (wrap32 a) by rw [<- hsa];exact (wrap64_in hra).symm);have Ji:=hid (show G8 32 y = wrap64 (wrap32 b) by rw [<- hsb];exact (wrap64_in hrb).symm);clear hra hrb;clear hx hy hX hY hsa hsb e32;have HT:=hid (Aap (x:Int) (y:Int) (Us x y) (by unfold Us;rw [decide_eq_decide];omega));go_enter func79,ntmps79;go_wp2_with fail;refine (HT.out _).mono ?_;rintro e w1 ⟨rfl,hB⟩;go_wp2;go_ret
 refine ⟨rfl,Below.trans ?_ (hB.mono (by simp;omega))⟩
 repeat (first | exact Below.refl _ _ | apply Below.setCell | apply Below.alloc)
 all_goals simp
theorem Ad2 (a b:Int) (ra : -9223372036854775808 <= a/\a <= 9223372036854775807) (rb : -9223372036854775808 <= b/\b <= 9223372036854775807) :
 Says 79 #[.int .i64 33,.bool true,.int .i64 a,.int .i64 b] (Ql (Ag 32 a) (Ag 32 b)):=by
 intro w;have Gm:=Ba a;have hub:=Ba b;have hea:=Cm a;have heb:=Cm b;have hxl:=Dl 32 a;have hyl:=Dl 32 b;have e32:(2:Nat) ^ 32 = 4294967296:=rfl;rw [e32] at hxl hyl;obtain ⟨X,hX⟩:∃ x,x = un a:=⟨_,rfl⟩;obtain ⟨Y,hY⟩:∃ y,y = un b:=⟨_,rfl⟩;rw [<- hX] at Gm;rw [<- hY] at hub;have hsa:=E8 a;have hsb:=E8 b;have hra:=Bg a;have hrb:=Bg b;obtain ⟨x,hx⟩:∃ x,x = Ag 32 a:=⟨_,rfl⟩;obtain ⟨y,hy⟩:∃ y,y = Ag 32 b:=⟨_,rfl⟩;rw [<- hx] at hea hxl hsa ⊢;rw [<- hy] at heb hyl hsb ⊢;have Jh:=hid (show G8 32 x = wrap64 (wrap32 a) by rw [<- hsa];exact (wrap64_in hra).symm);have Ji:=hid (show G8 32 y = wrap64 (wrap32 b) by rw [<- hsb];exact (wrap64_in hrb).symm);clear hra hrb;clear hx hy hX hY hsa hsb e32;have HT:=hid (Adu (wrap64 (wrap32 a)) (wrap64 (wrap32 b)) (Ql x y) (by unfold Ql;rw [Jh.out,Ji.out]));go_enter func79,ntmps79;go_wp2_with fail;refine (HT.out _).mono ?_;rintro e w1 ⟨rfl,hB⟩;go_wp2;go_ret
 refine ⟨rfl,Below.trans ?_ (hB.mono (by simp;omega))⟩
 repeat (first | exact Below.refl _ _ | apply Below.setCell | apply Below.alloc)
 all_goals simp
theorem Ad3 (a b:Int) (ra : -9223372036854775808 <= a/\a <= 9223372036854775807) (rb : -9223372036854775808 <= b/\b <= 9223372036854775807) :
 Says 79 #[.int .i64 34,.bool true,.int .i64 a,.int .i64 b] (Qm (Ag 32 a) (Ag 32 b)):=by
 intro w;have Gm:=Ba a;have hub:=Ba b;have hea:=Cm a;have heb:=Cm b;have hxl:=Dl 32 a;have hyl:=Dl 32 b;have e32:(2:Nat) ^ 32 = 4294967296:=rfl;rw [e32] at hxl hyl;obtain ⟨X,hX⟩:∃ x,x = un a:=⟨_,rfl⟩;obtain ⟨Y,hY⟩:∃ y,y = un b:=⟨_,rfl⟩;rw [<- hX] at Gm;rw [<- hY] at hub;have hsa:=E8 a;have hsb:=E8 b;have hra:=Bg a;have hrb:=Bg b;obtain ⟨x,hx⟩:∃ x,x = Ag 32 a:=⟨_,rfl⟩;obtain ⟨y,hy⟩:∃ y,y = Ag 32 b:=⟨_,rfl⟩;rw [<- hx] at hea hxl hsa ⊢;rw [<- hy] at heb hyl hsb ⊢;have Jh:=hid (show G8 32 x = wrap64 (wrap32 a) by rw [<- hsa];exact (wrap64_in hra).symm);have Ji:=hid (show G8 32 y = wrap64 (wrap32 b) by rw [<- hsb];exact (wrap64_in hrb).symm);clear hra hrb;clear hx hy hX hY hsa hsb e32;have HT:=hid (Aaq (wrap64 (wrap32 a)) (wrap64 (wrap32 b)) (Qm x y) (by unfold Qm;rw [Jh.out,Ji.out]));go_enter func79,ntmps79;go_wp2_with fail;refine (HT.out _).mono ?_;rintro e w1 ⟨rfl,hB⟩;go_wp2;go_ret
 refine ⟨rfl,Below.trans ?_ (hB.mono (by simp;omega))⟩
 repeat (first | exact Below.refl _ _ | apply Below.setCell | apply Below.alloc)
 all_goals simp
theorem Ad4 (a b:Int) (ra : -9223372036854775808 <= a/\a <= 9223372036854775807) (rb : -9223372036854775808 <= b/\b <= 9223372036854775807) :
 Says 79 #[.int .i64 35,.bool true,.int .i64 a,.int .i64 b] (Qn (Ag 32 a) (Ag 32 b)):=by
 intro w;have Gm:=Ba a;have hub:=Ba b;have hea:=Cm a;have heb:=Cm b;have hxl:=Dl 32 a;have hyl:=Dl 32 b;have e32:(2:Nat) ^ 32 = 4294967296:=rfl;rw [e32] at hxl hyl;obtain ⟨X,hX⟩:∃ x,x = un a:=⟨_,rfl⟩;obtain ⟨Y,hY⟩:∃ y,y = un b:=⟨_,rfl⟩;rw [<- hX] at Gm;rw [<- hY] at hub;have hsa:=E8 a;have hsb:=E8 b;have hra:=Bg a;have hrb:=Bg b;obtain ⟨x,hx⟩:∃ x,x = Ag 32 a:=⟨_,rfl⟩;obtain ⟨y,hy⟩:∃ y,y = Ag 32 b:=⟨_,rfl⟩;rw [<- hx] at hea hxl hsa ⊢;rw [<- hy] at heb hyl hsb ⊢;have Jh:=hid (show G8 32 x = wrap64 (wrap32 a) by rw [<- hsa];exact (wrap64_in hra).symm);have Ji:=hid (show G8 32 y = wrap64 (wrap32 b) by rw [<- hsb];exact (wrap64_in hrb).symm);clear hra hrb;clear hx hy hX hY hsa hsb e32;have HT:=hid (Adv (wrap64 (wrap32 a)) (wrap64 (wrap32 b)) (Qn x y) (by unfold Qn;rw [Jh.out,Ji.out]));go_enter func79,ntmps79;go_wp2_with fail;refine (HT.out _).mono ?_;rintro e w1 ⟨rfl,hB⟩;go_wp2;go_ret
 refine ⟨rfl,Below.trans ?_ (hB.mono (by simp;omega))⟩
 repeat (first | exact Below.refl _ _ | apply Below.setCell | apply Below.alloc)
 all_goals simp
theorem Ad5 (a b:Int) (ra : -9223372036854775808 <= a/\a <= 9223372036854775807) (rb : -9223372036854775808 <= b/\b <= 9223372036854775807) :
 Says 79 #[.int .i64 36,.bool true,.int .i64 a,.int .i64 b] (Qo (Ag 32 a) (Ag 32 b)):=by
 intro w;have Gm:=Ba a;have hub:=Ba b;have hea:=Cm a;have heb:=Cm b;have hxl:=Dl 32 a;have hyl:=Dl 32 b;have e32:(2:Nat) ^ 32 = 4294967296:=rfl;rw [e32] at hxl hyl;obtain ⟨X,hX⟩:∃ x,x = un a:=⟨_,rfl⟩;obtain ⟨Y,hY⟩:∃ y,y = un b:=⟨_,rfl⟩;rw [<- hX] at Gm;rw [<- hY] at hub;have hsa:=E8 a;have hsb:=E8 b;have hra:=Bg a;have hrb:=Bg b;obtain ⟨x,hx⟩:∃ x,x = Ag 32 a:=⟨_,rfl⟩;obtain ⟨y,hy⟩:∃ y,y = Ag 32 b:=⟨_,rfl⟩;rw [<- hx] at hea hxl hsa ⊢;rw [<- hy] at heb hyl hsb ⊢;have Jh:=hid (show G8 32 x = wrap64 (wrap32 a) by rw [<- hsa];exact (wrap64_in hra).symm);have Ji:=hid (show G8 32 y = wrap64 (wrap32 b) by rw [<- hsb];exact (wrap64_in hrb).symm);clear hra hrb;clear hx hy hX hY hsa hsb e32;have HT:=hid (Aar (wrap64 (wrap32 a)) (wrap64 (wrap32 b)) (Qo x y) (by unfold Qo;rw [Jh.out,Ji.out]));go_enter func79,ntmps79;go_wp2_with fail;refine (HT.out _).mono ?_;rintro e w1 ⟨rfl,hB⟩;go_wp2;go_ret
 refine ⟨rfl,Below.trans ?_ (hB.mono (by simp;omega))⟩
 repeat (first | exact Below.refl _ _ | apply Below.setCell | apply Below.alloc)
 all_goals simp
theorem Ad6 (a b:Int) (ra : -9223372036854775808 <= a/\a <= 9223372036854775807) (rb : -9223372036854775808 <= b/\b <= 9223372036854775807) :
 Says 79 #[.int .i64 37,.bool true,.int .i64 a,.int .i64 b] (jc (Ag 32 a) (Ag 32 b)):=by
 intro w;have Gm:=Ba a;have hub:=Ba b;have hea:=Cm a;have heb:=Cm b;have hxl:=Dl 32 a;have hyl:=Dl 32 b;have e32:(2:Nat) ^ 32 = 4294967296:=rfl;rw [e32] at hxl hyl;obtain ⟨X,hX⟩:∃ x,x = un a:=⟨_,rfl⟩;obtain ⟨Y,hY⟩:∃ y,y = un b:=⟨_,rfl⟩;rw [<- hX] at Gm;rw [<- hY] at hub;have hsa:=E8 a;have hsb:=E8 b;have hra:=Bg a;have hrb:=Bg b;obtain ⟨x,hx⟩:∃ x,x = Ag 32 a:=⟨_,rfl⟩;obtain ⟨y,hy⟩:∃ y,y = Ag 32 b:=⟨_,rfl⟩;rw [<- hx] at hea hxl hsa ⊢;rw [<- hy] at heb hyl hsb ⊢;have Jh:=hid (show G8 32 x = wrap64 (wrap32 a) by rw [<- hsa];exact (wrap64_in hra).symm);have Ji:=hid (show G8 32 y = wrap64 (wrap32 b) by rw [<- hsb];exact (wrap64_in hrb).symm);clear hra hrb;clear hx hy hX hY hsa hsb e32;have hand:=Adw x y (by omega) (by omega);go_enter func79,ntmps79;go_wp2;go_ret
 refine ⟨Ec ?_,?_⟩
 ·first | rfl | (rw [hand];rfl)
 ·repeat (first | exact Below.refl _ _ | apply Below.setCell | apply Below.alloc)
  all_goals simp
end Go.Proofs.YtjacnhnaoenelaaGreat
