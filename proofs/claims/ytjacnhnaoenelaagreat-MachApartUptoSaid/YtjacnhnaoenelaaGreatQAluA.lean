import Derived.Test.YtjacnhnaoenelaaGreatQJ0b
set_option maxHeartbeats 800000
namespace Go.Proofs.YtjacnhnaoenelaaGreat
open Lib (hid)
open Go.Proofs.Tryz
open Go.RowKit
set_option linter.unusedVariables false
theorem Ab1 (a:Int):IntKind.u64.wrap a = ((un a:Nat):Int):=by rw [IntKind.wrap_u64,Nb]
theorem Bq (x xl:Nat) (h:xl = x % 2 ^ 32) (hx:x < 18446744073709551616) (w:World):Calls prog 94 #[.int .u64 x] w fun e w'=>e = .returned (.int .u64 (xl:Int))/\w = w':=by
 subst h;exact Atf x hx w
theorem Jf (a b:Int):∃ x y:Nat,IntKind.u64.wrap a = (x:Int)/\IntKind.u64.wrap b = (y:Int)/\x < 18446744073709551616/\y < 18446744073709551616/\Hid (x = un a)/\Hid (y = un b):=
 ⟨un a,un b,Ab1 a,Ab1 b,Eo a,Eo b,hid rfl,hid rfl⟩
theorem Jg (a b:Int):∃ x y xl yl:Nat,IntKind.u64.wrap a = (x:Int)/\IntKind.u64.wrap b = (y:Int)/\x < 18446744073709551616/\y < 18446744073709551616/\xl < 4294967296/\yl < 4294967296/\Hid (xl = x % 2 ^ 32)/\Hid (yl = y % 2 ^ 32)/\Hid (xl = Ag 32 a)/\Hid (yl = Ag 32 b):=
 ⟨un a,un b,Ag 32 a,Ag 32 b,Ab1 a,Ab1 b,Eo a,Eo b,Dl 32 a,Dl 32 b,hid rfl,hid rfl,hid rfl,hid rfl⟩
theorem He (op:Int) (h:4 <= op/\op <= 7) (w:World):Calls prog 95 #[.int .i64 op] w fun e w'=>e = .returned (.bool true)/\w = w':=by
 obtain ⟨h1,h2⟩:=h;go_enter func95,ntmps95;go_wp2;go_ret
 exact ⟨rfl,rfl⟩
theorem Dc (op:Int) (h:op < 4\/7 < op) (w:World):Calls prog 95 #[.int .i64 op] w fun e w'=>e = .returned (.bool false)/\w = w':=by
 rcases h with h | h
 ·go_enter func95,ntmps95;go_wp2;go_ret
  exact ⟨rfl,rfl⟩
 ·have h':4 <= op:=by omega
  have hd:decide (op <= 7) = false:=by simpa using h
  go_enter func95,ntmps95;go_wp2;go_ret
  exact ⟨rfl,rfl⟩
theorem Ama (a b:Int) (w:World) :
 Calls prog 68 #[.int .i64 1,.bool false,.int .i64 a,.int .i64 b] w fun e w'=>
  e = .returned (.tuple #[.int .i64 (wrap64 ((Ls 64 (un a) (un b):Nat):Int)),.int .i64 0])/\Below w.heap.size w w':=by
 obtain ⟨x,y,Gm,hub,hx,hy,HX,Pn⟩:=Jf a b;obtain ⟨c0,hyb⟩:∃ c,((y:Int) == 0) = c:=⟨_,rfl⟩
 cases c0
 all_goals
  go_enter func68,ntmps68;go_wp2_with fail
  first | (go_at_call 96;refine (Ap _).mono ?_) | (go_at_call 95;refine (Dc 1 (by decide) _).mono ?_;rintro e w0 ⟨rfl,rfl⟩;go_wp2_with fail;refine (Ap _).mono ?_)
  rintro e w1 ⟨bm,rfl,hbm,hBm⟩;have hl:=aj w1 bm hbm false;rw [if_neg (by decide)] at hl;go_wp2_with fail;refine (Aj3 x y hx hy _).mono ?_;rintro e w2 ⟨rfl,rfl⟩;go_wp2
  go_ret2
  exact ⟨congrArg (fun z=>Ending.returned (.tuple #[.int .i64 z,.int .i64 0])) (by rw [HX.out,Pn.out]),hBm⟩
theorem Amb (a b:Int) (w:World) :
 Calls prog 68 #[.int .i64 2,.bool false,.int .i64 a,.int .i64 b] w fun e w'=>
  e = .returned (.tuple #[.int .i64 (wrap64 ((Kz 64 (un a) (un b):Nat):Int)),.int .i64 0])/\Below w.heap.size w w':=by
 obtain ⟨x,y,Gm,hub,hx,hy,HX,Pn⟩:=Jf a b;obtain ⟨c0,hyb⟩:∃ c,((y:Int) == 0) = c:=⟨_,rfl⟩
 cases c0
 all_goals
  go_enter func68,ntmps68;go_wp2_with fail
  first | (go_at_call 96;refine (Ap _).mono ?_) | (go_at_call 95;refine (Dc 2 (by decide) _).mono ?_;rintro e w0 ⟨rfl,rfl⟩;go_wp2_with fail;refine (Ap _).mono ?_)
  rintro e w1 ⟨bm,rfl,hbm,hBm⟩;have hl:=au w1 bm hbm false;rw [if_neg (by decide)] at hl;go_wp2_with fail;refine (Aj4 x y hx hy _).mono ?_;rintro e w2 ⟨rfl,rfl⟩;go_wp2
  go_ret2
  exact ⟨congrArg (fun z=>Ending.returned (.tuple #[.int .i64 z,.int .i64 0])) (by rw [HX.out,Pn.out]),hBm⟩
theorem Amc (a b:Int) (w:World) :
 Calls prog 68 #[.int .i64 3,.bool false,.int .i64 a,.int .i64 b] w fun e w'=>
  e = .returned (.tuple #[.int .i64 (wrap64 ((Lu 64 (un a) (un b):Nat):Int)),.int .i64 0])/\Below w.heap.size w w':=by
 obtain ⟨x,y,Gm,hub,hx,hy,HX,Pn⟩:=Jf a b;obtain ⟨c0,hyb⟩:∃ c,((y:Int) == 0) = c:=⟨_,rfl⟩
 cases c0
 all_goals
  go_enter func68,ntmps68;go_wp2_with fail
  first | (go_at_call 96;refine (Ap _).mono ?_) | (go_at_call 95;refine (Dc 3 (by decide) _).mono ?_;rintro e w0 ⟨rfl,rfl⟩;go_wp2_with fail;refine (Ap _).mono ?_)
  rintro e w1 ⟨bm,rfl,hbm,hBm⟩;have hl:=ay w1 bm hbm false;rw [if_neg (by decide)] at hl;go_wp2_with fail;refine (Aj5 x y hx hy _).mono ?_;rintro e w2 ⟨rfl,rfl⟩;go_wp2
  go_ret2
  exact ⟨congrArg (fun z=>Ending.returned (.tuple #[.int .i64 z,.int .i64 0])) (by rw [HX.out,Pn.out]),hBm⟩
theorem Amd (a b:Int) (h0:un b ≠ 0) (w:World) :
 Calls prog 68 #[.int .i64 4,.bool false,.int .i64 a,.int .i64 b] w fun e w'=>
  e = .returned (.tuple #[.int .i64 (wrap64 ((Nr 64 (un a) (un b):Nat):Int)),.int .i64 0])/\Below w.heap.size w w':=by
 obtain ⟨x,y,Gm,hub,hx,hy,HX,Pn⟩:=Jf a b;rw [<- Pn.out] at h0;have hyb:((y:Int) == 0) = false:=by simpa using h0
 have HY0:=hid h0;clear h0;go_enter func68,ntmps68;go_wp2_with fail;refine (Ap _).mono ?_;rintro e w1 ⟨bm,rfl,hbm,hBm⟩;have hl:=dh w1 bm hbm false;rw [if_neg (by decide)] at hl;go_wp2_with fail;refine (Atg x y hx hy HY0.out _).mono ?_;rintro e w2 ⟨rfl,rfl⟩;go_wp2
 go_ret2
 exact ⟨congrArg (fun z=>Ending.returned (.tuple #[.int .i64 z,.int .i64 0])) (by rw [HX.out,Pn.out]),hBm⟩
theorem Agv (a b:Int) (h0:un b = 0) (w:World) :
 Calls prog 68 #[.int .i64 4,.bool false,.int .i64 a,.int .i64 b] w fun e w'=>
  e = .returned (.tuple #[.int .i64 0,.int .i64 84])/\w = w':=by
 obtain ⟨x,y,Gm,hub,hx,hy,HX,Pn⟩:=Jf a b;rw [<- Pn.out] at h0;have hyb:((y:Int) == 0) = true:=by simpa using h0
 clear h0;go_enter func68,ntmps68;go_wp2_with fail;refine (He 4 (by decide) _).mono ?_;rintro e w0 ⟨rfl,rfl⟩;go_wp2
 go_ret2
 exact ⟨rfl,rfl⟩
theorem Ame (a b:Int) (h0:un b ≠ 0) (w:World) :
 Calls prog 68 #[.int .i64 5,.bool false,.int .i64 a,.int .i64 b] w fun e w'=>
  e = .returned (.tuple #[.int .i64 (wrap64 ((La 64 (un a) (un b):Nat):Int)),.int .i64 0])/\Below w.heap.size w w':=by
 obtain ⟨x,y,Gm,hub,hx,hy,HX,Pn⟩:=Jf a b;rw [<- Pn.out] at h0;have hyb:((y:Int) == 0) = false:=by simpa using h0
 have HY0:=hid h0;clear h0;go_enter func68,ntmps68;go_wp2_with fail;refine (Ap _).mono ?_;rintro e w1 ⟨bm,rfl,hbm,hBm⟩;have hl:=dn w1 bm hbm false;rw [if_neg (by decide)] at hl;go_wp2_with fail;refine (Ath x y hx hy HY0.out _).mono ?_;rintro e w2 ⟨rfl,rfl⟩;go_wp2
 go_ret2
 exact ⟨congrArg (fun z=>Ending.returned (.tuple #[.int .i64 z,.int .i64 0])) (by rw [HX.out,Pn.out]),hBm⟩
theorem Agw (a b:Int) (h0:un b = 0) (w:World) :
 Calls prog 68 #[.int .i64 5,.bool false,.int .i64 a,.int .i64 b] w fun e w'=>
  e = .returned (.tuple #[.int .i64 0,.int .i64 84])/\w = w':=by
 obtain ⟨x,y,Gm,hub,hx,hy,HX,Pn⟩:=Jf a b;rw [<- Pn.out] at h0;have hyb:((y:Int) == 0) = true:=by simpa using h0
 clear h0;go_enter func68,ntmps68;go_wp2_with fail;refine (He 5 (by decide) _).mono ?_;rintro e w0 ⟨rfl,rfl⟩;go_wp2
 go_ret2
 exact ⟨rfl,rfl⟩
theorem Agx (a b:Int) (h0:un b ≠ 0) (w:World) :
 Calls prog 68 #[.int .i64 6,.bool false,.int .i64 a,.int .i64 b] w fun e w'=>
  e = .returned (.tuple #[.int .i64 (wrap64 ((Hz 64 (un a) (un b):Nat):Int)),.int .i64 0])/\Below w.heap.size w w':=by
 obtain ⟨x,y,Gm,hub,hx,hy,HX,Pn⟩:=Jf a b;rw [<- Pn.out] at h0;have hyb:((y:Int) == 0) = false:=by simpa using h0
 have HY0:=hid h0;clear h0;go_enter func68,ntmps68;go_wp2_with fail;refine (Ap _).mono ?_;rintro e w1 ⟨bm,rfl,hbm,hBm⟩;have hl:=dw w1 bm hbm false;rw [if_neg (by decide)] at hl;go_wp2_with fail;refine (Apa x y hx hy HY0.out _).mono ?_;rintro e w2 ⟨rfl,rfl⟩;go_wp2
 go_ret2
 exact ⟨congrArg (fun z=>Ending.returned (.tuple #[.int .i64 z,.int .i64 0])) (by rw [HX.out,Pn.out]),hBm⟩
theorem Adl (a b:Int) (h0:un b = 0) (w:World) :
 Calls prog 68 #[.int .i64 6,.bool false,.int .i64 a,.int .i64 b] w fun e w'=>
  e = .returned (.tuple #[.int .i64 0,.int .i64 84])/\w = w':=by
 obtain ⟨x,y,Gm,hub,hx,hy,HX,Pn⟩:=Jf a b;rw [<- Pn.out] at h0;have hyb:((y:Int) == 0) = true:=by simpa using h0
 clear h0;go_enter func68,ntmps68;go_wp2_with fail;refine (He 6 (by decide) _).mono ?_;rintro e w0 ⟨rfl,rfl⟩;go_wp2
 go_ret2
 exact ⟨rfl,rfl⟩
theorem Agy (a b:Int) (h0:un b ≠ 0) (w:World) :
 Calls prog 68 #[.int .i64 7,.bool false,.int .i64 a,.int .i64 b] w fun e w'=>
  e = .returned (.tuple #[.int .i64 (wrap64 ((Ia 64 (un a) (un b):Nat):Int)),.int .i64 0])/\Below w.heap.size w w':=by
 obtain ⟨x,y,Gm,hub,hx,hy,HX,Pn⟩:=Jf a b;rw [<- Pn.out] at h0;have hyb:((y:Int) == 0) = false:=by simpa using h0
 have HY0:=hid h0;clear h0;go_enter func68,ntmps68;go_wp2_with fail;refine (Ap _).mono ?_;rintro e w1 ⟨bm,rfl,hbm,hBm⟩;have hl:=eu w1 bm hbm false;rw [if_neg (by decide)] at hl;go_wp2_with fail;refine (Apb x y hx hy HY0.out _).mono ?_;rintro e w2 ⟨rfl,rfl⟩;go_wp2
 go_ret2
 exact ⟨congrArg (fun z=>Ending.returned (.tuple #[.int .i64 z,.int .i64 0])) (by rw [HX.out,Pn.out]),hBm⟩
theorem Adm (a b:Int) (h0:un b = 0) (w:World) :
 Calls prog 68 #[.int .i64 7,.bool false,.int .i64 a,.int .i64 b] w fun e w'=>
  e = .returned (.tuple #[.int .i64 0,.int .i64 84])/\w = w':=by
 obtain ⟨x,y,Gm,hub,hx,hy,HX,Pn⟩:=Jf a b;rw [<- Pn.out] at h0;have hyb:((y:Int) == 0) = true:=by simpa using h0
 clear h0;go_enter func68,ntmps68;go_wp2_with fail;refine (He 7 (by decide) _).mono ?_;rintro e w0 ⟨rfl,rfl⟩;go_wp2
 go_ret2
 exact ⟨rfl,rfl⟩
theorem Apu (a b:Int) (w:World) :
 Calls prog 68 #[.int .i64 8,.bool false,.int .i64 a,.int .i64 b] w fun e w'=>
  e = .returned (.tuple #[.int .i64 (wrap64 ((Rq 64 (un a) (un b):Nat):Int)),.int .i64 0])/\Below w.heap.size w w':=by
 obtain ⟨x,y,Gm,hub,hx,hy,HX,Pn⟩:=Jf a b;obtain ⟨c0,hyb⟩:∃ c,((y:Int) == 0) = c:=⟨_,rfl⟩
 cases c0
 all_goals
  go_enter func68,ntmps68;go_wp2_with fail
  first | (go_at_call 96;refine (Ap _).mono ?_) | (go_at_call 95;refine (Dc 8 (by decide) _).mono ?_;rintro e w0 ⟨rfl,rfl⟩;go_wp2_with fail;refine (Ap _).mono ?_)
  rintro e w1 ⟨bm,rfl,hbm,hBm⟩;have hl:=gq w1 bm hbm false;rw [if_neg (by decide)] at hl;go_wp2_with fail;refine (Apc x y hx hy _).mono ?_;rintro e w2 ⟨rfl,rfl⟩;go_wp2
  go_ret2
  exact ⟨congrArg (fun z=>Ending.returned (.tuple #[.int .i64 z,.int .i64 0])) (by rw [HX.out,Pn.out]),hBm⟩
theorem Amf (a b:Int) (w:World) :
 Calls prog 68 #[.int .i64 9,.bool false,.int .i64 a,.int .i64 b] w fun e w'=>
  e = .returned (.tuple #[.int .i64 (wrap64 ((Jw 64 (un a) (un b):Nat):Int)),.int .i64 0])/\Below w.heap.size w w':=by
 obtain ⟨x,y,Gm,hub,hx,hy,HX,Pn⟩:=Jf a b;obtain ⟨c0,hyb⟩:∃ c,((y:Int) == 0) = c:=⟨_,rfl⟩
 cases c0
 all_goals
  go_enter func68,ntmps68;go_wp2_with fail
  first | (go_at_call 96;refine (Ap _).mono ?_) | (go_at_call 95;refine (Dc 9 (by decide) _).mono ?_;rintro e w0 ⟨rfl,rfl⟩;go_wp2_with fail;refine (Ap _).mono ?_)
  rintro e w1 ⟨bm,rfl,hbm,hBm⟩;have hl:=gy w1 bm hbm false;rw [if_neg (by decide)] at hl;go_wp2_with fail;refine (Aj6 x y hx hy _).mono ?_;rintro e w2 ⟨rfl,rfl⟩;go_wp2
  go_ret2
  exact ⟨congrArg (fun z=>Ending.returned (.tuple #[.int .i64 z,.int .i64 0])) (by rw [HX.out,Pn.out]),hBm⟩
theorem Amg (a b:Int) (w:World) :
 Calls prog 68 #[.int .i64 10,.bool false,.int .i64 a,.int .i64 b] w fun e w'=>
  e = .returned (.tuple #[.int .i64 (wrap64 ((Jy 64 (un a) (un b):Nat):Int)),.int .i64 0])/\Below w.heap.size w w':=by
 obtain ⟨x,y,Gm,hub,hx,hy,HX,Pn⟩:=Jf a b;obtain ⟨c0,hyb⟩:∃ c,((y:Int) == 0) = c:=⟨_,rfl⟩
 cases c0
 all_goals
  go_enter func68,ntmps68;go_wp2_with fail
  first | (go_at_call 96;refine (Ap _).mono ?_) | (go_at_call 95;refine (Dc 10 (by decide) _).mono ?_;rintro e w0 ⟨rfl,rfl⟩;go_wp2_with fail;refine (Ap _).mono ?_)
  rintro e w1 ⟨bm,rfl,hbm,hBm⟩;have hl:=Y5 w1 bm hbm false;rw [if_neg (by decide)] at hl;go_wp2_with fail;refine (Aj7 x y hx hy _).mono ?_;rintro e w2 ⟨rfl,rfl⟩;go_wp2
  go_ret2
  exact ⟨congrArg (fun z=>Ending.returned (.tuple #[.int .i64 z,.int .i64 0])) (by rw [HX.out,Pn.out]),hBm⟩
theorem Amh (a b:Int) (w:World) :
 Calls prog 68 #[.int .i64 11,.bool false,.int .i64 a,.int .i64 b] w fun e w'=>
  e = .returned (.tuple #[.int .i64 (wrap64 ((Pm 64 (un a) (un b):Nat):Int)),.int .i64 0])/\Below w.heap.size w w':=by
 obtain ⟨x,y,Gm,hub,hx,hy,HX,Pn⟩:=Jf a b;obtain ⟨c0,hyb⟩:∃ c,((y:Int) == 0) = c:=⟨_,rfl⟩
 cases c0
 all_goals
  go_enter func68,ntmps68;go_wp2_with fail
  first | (go_at_call 96;refine (Ap _).mono ?_) | (go_at_call 95;refine (Dc 11 (by decide) _).mono ?_;rintro e w0 ⟨rfl,rfl⟩;go_wp2_with fail;refine (Ap _).mono ?_)
  rintro e w1 ⟨bm,rfl,hbm,hBm⟩;have hl:=Y6 w1 bm hbm false;rw [if_neg (by decide)] at hl;go_wp2_with fail;refine (Ati x y hx hy _).mono ?_;rintro e w2 ⟨rfl,rfl⟩;go_wp2
  go_ret2
  exact ⟨congrArg (fun z=>Ending.returned (.tuple #[.int .i64 z,.int .i64 0])) (by rw [HX.out,Pn.out]),hBm⟩
theorem Ami (a b:Int) (w:World) :
 Calls prog 68 #[.int .i64 12,.bool false,.int .i64 a,.int .i64 b] w fun e w'=>
  e = .returned (.tuple #[.int .i64 (wrap64 ((Lc 64 (un a) (un b):Nat):Int)),.int .i64 0])/\Below w.heap.size w w':=by
 obtain ⟨x,y,Gm,hub,hx,hy,HX,Pn⟩:=Jf a b;obtain ⟨c0,hyb⟩:∃ c,((y:Int) == 0) = c:=⟨_,rfl⟩
 cases c0
 all_goals
  go_enter func68,ntmps68;go_wp2_with fail
  first | (go_at_call 96;refine (Ap _).mono ?_) | (go_at_call 95;refine (Dc 12 (by decide) _).mono ?_;rintro e w0 ⟨rfl,rfl⟩;go_wp2_with fail;refine (Ap _).mono ?_)
  rintro e w1 ⟨bm,rfl,hbm,hBm⟩;have hl:=Y7 w1 bm hbm false;rw [if_neg (by decide)] at hl;go_wp2_with fail;refine (Atj x y hx hy _).mono ?_;rintro e w2 ⟨rfl,rfl⟩;go_wp2
  go_ret2
  exact ⟨congrArg (fun z=>Ending.returned (.tuple #[.int .i64 z,.int .i64 0])) (by rw [HX.out,Pn.out]),hBm⟩
theorem Agz (a b:Int) (w:World) :
 Calls prog 68 #[.int .i64 13,.bool false,.int .i64 a,.int .i64 b] w fun e w'=>
  e = .returned (.tuple #[.int .i64 (wrap64 ((Ib 64 (un a) (un b):Nat):Int)),.int .i64 0])/\Below w.heap.size w w':=by
 obtain ⟨x,y,Gm,hub,hx,hy,HX,Pn⟩:=Jf a b;obtain ⟨c0,hyb⟩:∃ c,((y:Int) == 0) = c:=⟨_,rfl⟩
 cases c0
 all_goals
  go_enter func68,ntmps68;go_wp2_with fail
  first | (go_at_call 96;refine (Ap _).mono ?_) | (go_at_call 95;refine (Dc 13 (by decide) _).mono ?_;rintro e w0 ⟨rfl,rfl⟩;go_wp2_with fail;refine (Ap _).mono ?_)
  rintro e w1 ⟨bm,rfl,hbm,hBm⟩;have hl:=Y8 w1 bm hbm false;rw [if_neg (by decide)] at hl;go_wp2_with fail;refine (Apd x y hx hy _).mono ?_;rintro e w2 ⟨rfl,rfl⟩;go_wp2
  go_ret2
  exact ⟨congrArg (fun z=>Ending.returned (.tuple #[.int .i64 z,.int .i64 0])) (by rw [HX.out,Pn.out]),hBm⟩
theorem Amj (a b:Int) (w:World) :
 Calls prog 68 #[.int .i64 14,.bool false,.int .i64 a,.int .i64 b] w fun e w'=>
  e = .returned (.tuple #[.int .i64 (wrap64 ((Ld 64 (un a) (un b):Nat):Int)),.int .i64 0])/\Below w.heap.size w w':=by
 obtain ⟨x,y,Gm,hub,hx,hy,HX,Pn⟩:=Jf a b;obtain ⟨c0,hyb⟩:∃ c,((y:Int) == 0) = c:=⟨_,rfl⟩
 cases c0
 all_goals
  go_enter func68,ntmps68;go_wp2_with fail
  first | (go_at_call 96;refine (Ap _).mono ?_) | (go_at_call 95;refine (Dc 14 (by decide) _).mono ?_;rintro e w0 ⟨rfl,rfl⟩;go_wp2_with fail;refine (Ap _).mono ?_)
  rintro e w1 ⟨bm,rfl,hbm,hBm⟩;have hl:=Y9 w1 bm hbm false;rw [if_neg (by decide)] at hl;go_wp2_with fail;refine (Aj8 x y hx hy _).mono ?_;rintro e w2 ⟨rfl,rfl⟩;go_wp2
  go_ret2
  exact ⟨congrArg (fun z=>Ending.returned (.tuple #[.int .i64 z,.int .i64 0])) (by rw [HX.out,Pn.out]),hBm⟩
theorem Amk (a b:Int) (w:World) :
 Calls prog 68 #[.int .i64 15,.bool false,.int .i64 a,.int .i64 b] w fun e w'=>
  e = .returned (.tuple #[.int .i64 (wrap64 ((L6 64 (un a) (un b):Nat):Int)),.int .i64 0])/\Below w.heap.size w w':=by
 obtain ⟨x,y,Gm,hub,hx,hy,HX,Pn⟩:=Jf a b;obtain ⟨c0,hyb⟩:∃ c,((y:Int) == 0) = c:=⟨_,rfl⟩
 cases c0
 all_goals
  go_enter func68,ntmps68;go_wp2_with fail
  first | (go_at_call 96;refine (Ap _).mono ?_) | (go_at_call 95;refine (Dc 15 (by decide) _).mono ?_;rintro e w0 ⟨rfl,rfl⟩;go_wp2_with fail;refine (Ap _).mono ?_)
  rintro e w1 ⟨bm,rfl,hbm,hBm⟩;have hl:=Za w1 bm hbm false;rw [if_neg (by decide)] at hl;go_wp2_with fail;refine (Aj9 x y hx hy _).mono ?_;rintro e w2 ⟨rfl,rfl⟩;go_wp2
  go_ret2
  exact ⟨congrArg (fun z=>Ending.returned (.tuple #[.int .i64 z,.int .i64 0])) (by rw [HX.out,Pn.out]),hBm⟩
end Go.Proofs.YtjacnhnaoenelaaGreat
