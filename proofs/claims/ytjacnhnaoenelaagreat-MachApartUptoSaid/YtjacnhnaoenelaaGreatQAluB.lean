import Derived.Test.YtjacnhnaoenelaaGreatQAluA
set_option maxHeartbeats 800000
namespace Go.Proofs.YtjacnhnaoenelaaGreat
open Lib (hid)
open Go.Proofs.Tryz
open Go.RowKit
set_option linter.unusedVariables false
theorem toNat_mod (z:Int):(z % 2 ^ 32).toNat = (z % 2 ^ 32).toNat % 2 ^ 32:=by
 have e:(2:Int) ^ 32 = 4294967296:=rfl;rw [e];omega
theorem toNat_lt (z:Int):(z % 2 ^ 32).toNat < 18446744073709551616:=by
 have e:(2:Int) ^ 32 = 4294967296:=rfl;rw [e];omega
theorem Aka (xl yl:Nat) (hx:xl < 4294967296) (hy:yl < 4294967296):Ls 32 xl yl = Ls 64 xl yl % 2 ^ 32:=by
 unfold Ls;omega
theorem Av7 (xl yl:Nat) (hx:xl < 4294967296) (hy:yl < 4294967296):Ls 64 xl yl < 18446744073709551616:=by
 unfold Ls;exact Nat.lt_of_lt_of_le (Nat.mod_lt _ (Nat.two_pow_pos 64)) (by decide)
theorem Aml (a b:Int) (w:World) :
 Calls prog 68 #[.int .i64 1,.bool true,.int .i64 a,.int .i64 b] w fun e w'=>
  e = .returned (.tuple #[.int .i64 ((Ls 32 (Ag 32 a) (Ag 32 b):Nat):Int),.int .i64 0])/\Below w.heap.size w w':=by
 obtain ⟨x,y,xl,yl,Gm,hub,hx,hy,hxl,hyl,J7,Rt,U9,Po⟩:=Jg a b;have Ns:=hid (Aka xl yl hxl hyl);have J8:=hid (Av7 xl yl hxl hyl);have HW:=hid (show Ls 32 xl yl < 4294967296 by rw [Ns.out];exact Nat.mod_lt _ (by decide));obtain ⟨c0,hyb⟩:∃ c,((yl:Int) == 0) = c:=⟨_,rfl⟩
 cases c0
 all_goals
  go_enter func68,ntmps68;go_wp2_with fail;refine (Bq x xl J7.out hx _).mono ?_;rintro e w0 ⟨rfl,rfl⟩;go_wp2_with fail;refine (Bq y yl Rt.out hy _).mono ?_;rintro e w0 ⟨rfl,rfl⟩;go_wp2_with fail
  first | (go_at_call 96;refine (Ap _).mono ?_) | (go_at_call 95;refine (Dc 1 (by decide) _).mono ?_;rintro e w0 ⟨rfl,rfl⟩;go_wp2_with fail;refine (Ap _).mono ?_)
  rintro e w1 ⟨bm,rfl,hbm,hBm⟩;have hl:=aj w1 bm hbm false;rw [if_neg (by decide)] at hl;have hs:=hBm.size;go_wp2_with fail;refine (Ea _).mono ?_;rintro e w2 ⟨bn,rfl,hbn,hBn⟩;have hln:=Abt w2 bn hbn true;rw [if_pos rfl] at hln;have hB:=hBm.trans (hBn.mono hs);clear hBm hBn hs;go_wp2_with fail;refine (Aj3 xl yl (by omega) (by omega) _).mono ?_;rintro e w3 ⟨rfl,rfl⟩;have hlt:=J8.out;have heq:=Ns.out;generalize hr:Ls 64 xl yl = r at hlt heq;have HE:=hid heq;have HR:=hid hr;clear heq hr;go_wp2_with fail;refine (Bq r (Ls 32 xl yl) HE.out hlt _).mono ?_;rintro e w4 ⟨rfl,rfl⟩;have hw:=HW.out;obtain ⟨v,hv⟩:∃ v,v = Ls 32 xl yl:=⟨_,rfl⟩;rw [<- hv] at hw ⊢;have HV:=hid hv;clear hv;go_wp2
  go_ret2
  exact ⟨congrArg (fun z=>Ending.returned (.tuple #[.int .i64 z,.int .i64 0])) (by rw [HV.out,U9.out,Po.out]),hB⟩
theorem Akb (xl yl:Nat) (hx:xl < 4294967296) (hy:yl < 4294967296):Kz 32 xl yl = Kz 64 xl yl % 2 ^ 32:=by
 unfold Kz;omega
theorem Av8 (xl yl:Nat) (hx:xl < 4294967296) (hy:yl < 4294967296):Kz 64 xl yl < 18446744073709551616:=by
 unfold Kz;exact Nat.lt_of_lt_of_le (Nat.mod_lt _ (Nat.two_pow_pos 64)) (by decide)
theorem Amm (a b:Int) (w:World) :
 Calls prog 68 #[.int .i64 2,.bool true,.int .i64 a,.int .i64 b] w fun e w'=>
  e = .returned (.tuple #[.int .i64 ((Kz 32 (Ag 32 a) (Ag 32 b):Nat):Int),.int .i64 0])/\Below w.heap.size w w':=by
 obtain ⟨x,y,xl,yl,Gm,hub,hx,hy,hxl,hyl,J7,Rt,U9,Po⟩:=Jg a b;have Ns:=hid (Akb xl yl hxl hyl);have J8:=hid (Av8 xl yl hxl hyl);have HW:=hid (show Kz 32 xl yl < 4294967296 by rw [Ns.out];exact Nat.mod_lt _ (by decide));obtain ⟨c0,hyb⟩:∃ c,((yl:Int) == 0) = c:=⟨_,rfl⟩
 cases c0
 all_goals
  go_enter func68,ntmps68;go_wp2_with fail;refine (Bq x xl J7.out hx _).mono ?_;rintro e w0 ⟨rfl,rfl⟩;go_wp2_with fail;refine (Bq y yl Rt.out hy _).mono ?_;rintro e w0 ⟨rfl,rfl⟩;go_wp2_with fail
  first | (go_at_call 96;refine (Ap _).mono ?_) | (go_at_call 95;refine (Dc 2 (by decide) _).mono ?_;rintro e w0 ⟨rfl,rfl⟩;go_wp2_with fail;refine (Ap _).mono ?_)
  rintro e w1 ⟨bm,rfl,hbm,hBm⟩;have hl:=au w1 bm hbm false;rw [if_neg (by decide)] at hl;have hs:=hBm.size;go_wp2_with fail;refine (Ea _).mono ?_;rintro e w2 ⟨bn,rfl,hbn,hBn⟩;have hln:=Abu w2 bn hbn true;rw [if_pos rfl] at hln;have hB:=hBm.trans (hBn.mono hs);clear hBm hBn hs;go_wp2_with fail;refine (Aj4 xl yl (by omega) (by omega) _).mono ?_;rintro e w3 ⟨rfl,rfl⟩;have hlt:=J8.out;have heq:=Ns.out;generalize hr:Kz 64 xl yl = r at hlt heq;have HE:=hid heq;have HR:=hid hr;clear heq hr;go_wp2_with fail;refine (Bq r (Kz 32 xl yl) HE.out hlt _).mono ?_;rintro e w4 ⟨rfl,rfl⟩;have hw:=HW.out;obtain ⟨v,hv⟩:∃ v,v = Kz 32 xl yl:=⟨_,rfl⟩;rw [<- hv] at hw ⊢;have HV:=hid hv;clear hv;go_wp2
  go_ret2
  exact ⟨congrArg (fun z=>Ending.returned (.tuple #[.int .i64 z,.int .i64 0])) (by rw [HV.out,U9.out,Po.out]),hB⟩
theorem Akc (xl yl:Nat) (hx:xl < 4294967296) (hy:yl < 4294967296):Lu 32 xl yl = Lu 64 xl yl % 2 ^ 32:=by
 unfold Lu;exact (Nat.mod_mod_of_dvd _ (by decide)).symm
theorem lt_mul (xl yl:Nat) (hx:xl < 4294967296) (hy:yl < 4294967296):Lu 64 xl yl < 18446744073709551616:=by
 unfold Lu;exact Nat.lt_of_lt_of_le (Nat.mod_lt _ (Nat.two_pow_pos 64)) (by decide)
theorem Amn (a b:Int) (w:World) :
 Calls prog 68 #[.int .i64 3,.bool true,.int .i64 a,.int .i64 b] w fun e w'=>
  e = .returned (.tuple #[.int .i64 ((Lu 32 (Ag 32 a) (Ag 32 b):Nat):Int),.int .i64 0])/\Below w.heap.size w w':=by
 obtain ⟨x,y,xl,yl,Gm,hub,hx,hy,hxl,hyl,J7,Rt,U9,Po⟩:=Jg a b;have Ns:=hid (Akc xl yl hxl hyl);have J8:=hid (lt_mul xl yl hxl hyl);have HW:=hid (show Lu 32 xl yl < 4294967296 by rw [Ns.out];exact Nat.mod_lt _ (by decide));obtain ⟨c0,hyb⟩:∃ c,((yl:Int) == 0) = c:=⟨_,rfl⟩
 cases c0
 all_goals
  go_enter func68,ntmps68;go_wp2_with fail;refine (Bq x xl J7.out hx _).mono ?_;rintro e w0 ⟨rfl,rfl⟩;go_wp2_with fail;refine (Bq y yl Rt.out hy _).mono ?_;rintro e w0 ⟨rfl,rfl⟩;go_wp2_with fail
  first | (go_at_call 96;refine (Ap _).mono ?_) | (go_at_call 95;refine (Dc 3 (by decide) _).mono ?_;rintro e w0 ⟨rfl,rfl⟩;go_wp2_with fail;refine (Ap _).mono ?_)
  rintro e w1 ⟨bm,rfl,hbm,hBm⟩;have hl:=ay w1 bm hbm false;rw [if_neg (by decide)] at hl;have hs:=hBm.size;go_wp2_with fail;refine (Ea _).mono ?_;rintro e w2 ⟨bn,rfl,hbn,hBn⟩;have hln:=Abv w2 bn hbn true;rw [if_pos rfl] at hln;have hB:=hBm.trans (hBn.mono hs);clear hBm hBn hs;go_wp2_with fail;refine (Aj5 xl yl (by omega) (by omega) _).mono ?_;rintro e w3 ⟨rfl,rfl⟩;have hlt:=J8.out;have heq:=Ns.out;generalize hr:Lu 64 xl yl = r at hlt heq;have HE:=hid heq;have HR:=hid hr;clear heq hr;go_wp2_with fail;refine (Bq r (Lu 32 xl yl) HE.out hlt _).mono ?_;rintro e w4 ⟨rfl,rfl⟩;have hw:=HW.out;obtain ⟨v,hv⟩:∃ v,v = Lu 32 xl yl:=⟨_,rfl⟩;rw [<- hv] at hw ⊢;have HV:=hid hv;clear hv;go_wp2
  go_ret2
  exact ⟨congrArg (fun z=>Ending.returned (.tuple #[.int .i64 z,.int .i64 0])) (by rw [HV.out,U9.out,Po.out]),hB⟩
theorem Akd (xl yl:Nat) (hx:xl < 4294967296) (hy:yl < 4294967296) (h0:yl ≠ 0):Nr 32 xl yl = Nr 32 xl yl % 2 ^ 32:=by
 unfold Nr;have:=Nat.div_le_self xl yl;rw [Nat.mod_eq_of_lt (show xl / yl < 2 ^ 32 by omega)]
theorem Av9 (xl yl:Nat) (hx:xl < 4294967296) (hy:yl < 4294967296) (h0:yl ≠ 0):Nr 32 xl yl < 18446744073709551616:=by
 unfold Nr;have:=Nat.div_le_self xl yl;omega
theorem Amo (a b:Int) (h0:Ag 32 b ≠ 0) (w:World) :
 Calls prog 68 #[.int .i64 4,.bool true,.int .i64 a,.int .i64 b] w fun e w'=>
  e = .returned (.tuple #[.int .i64 ((Nr 32 (Ag 32 a) (Ag 32 b):Nat):Int),.int .i64 0])/\Below w.heap.size w w':=by
 obtain ⟨x,y,xl,yl,Gm,hub,hx,hy,hxl,hyl,J7,Rt,U9,Po⟩:=Jg a b;rw [<- Po.out] at h0;have Ns:=hid (Akd xl yl hxl hyl h0);have J8:=hid (Av9 xl yl hxl hyl h0);have HW:=hid (show Nr 32 xl yl < 4294967296 by rw [Ns.out];exact Nat.mod_lt _ (by decide));have hyb:((yl:Int) == 0) = false:=by simpa using h0
 have HY0:=hid h0;clear h0;go_enter func68,ntmps68;go_wp2_with fail;refine (Bq x xl J7.out hx _).mono ?_;rintro e w0 ⟨rfl,rfl⟩;go_wp2_with fail;refine (Bq y yl Rt.out hy _).mono ?_;rintro e w0 ⟨rfl,rfl⟩;go_wp2_with fail;refine (Ap _).mono ?_;rintro e w1 ⟨bm,rfl,hbm,hBm⟩;have hl:=dh w1 bm hbm false;rw [if_neg (by decide)] at hl;have hs:=hBm.size;go_wp2_with fail;refine (Ea _).mono ?_;rintro e w2 ⟨bn,rfl,hbn,hBn⟩;have hln:=Abp w2 bn hbn true;rw [if_pos rfl] at hln;have hB:=hBm.trans (hBn.mono hs);clear hBm hBn hs;go_wp2_with fail;refine (Alu xl yl hxl hyl HY0.out _).mono ?_;rintro e w3 ⟨rfl,rfl⟩;have hlt:=J8.out;have heq:=Ns.out;generalize hr:Nr 32 xl yl = r at hlt heq;have HE:=hid heq;have HR:=hid hr;clear heq hr;go_wp2_with fail;refine (Bq r r HE.out hlt _).mono ?_;rintro e w4 ⟨rfl,rfl⟩;have hw:=HW.out;rw [HR.out] at hw;go_wp2
 go_ret2
 exact ⟨congrArg (fun z=>Ending.returned (.tuple #[.int .i64 z,.int .i64 0])) (by rw [<- HR.out,U9.out,Po.out]),hB⟩
theorem Ag0 (a b:Int) (h0:Ag 32 b = 0) (w:World) :
 Calls prog 68 #[.int .i64 4,.bool true,.int .i64 a,.int .i64 b] w fun e w'=>
  e = .returned (.tuple #[.int .i64 0,.int .i64 84])/\w = w':=by
 obtain ⟨x,y,xl,yl,Gm,hub,hx,hy,hxl,hyl,J7,Rt,U9,Po⟩:=Jg a b;rw [<- Po.out] at h0;have hyb:((yl:Int) == 0) = true:=by simpa using h0
 clear h0;go_enter func68,ntmps68;go_wp2_with fail;refine (Bq x xl J7.out hx _).mono ?_;rintro e w0 ⟨rfl,rfl⟩;go_wp2_with fail;refine (Bq y yl Rt.out hy _).mono ?_;rintro e w0 ⟨rfl,rfl⟩;go_wp2_with fail;refine (He 4 (by decide) _).mono ?_;rintro e w0 ⟨rfl,rfl⟩;go_wp2
 go_ret2
 exact ⟨rfl,rfl⟩
theorem Ake (xl yl:Nat) (hx:xl < 4294967296) (hy:yl < 4294967296) (h0:yl ≠ 0):La 32 xl yl = La 32 xl yl % 2 ^ 32:=by
 unfold La;have:=Nat.mod_le xl yl;rw [Nat.mod_eq_of_lt (show xl % yl < 2 ^ 32 by omega)]
theorem Awa (xl yl:Nat) (hx:xl < 4294967296) (hy:yl < 4294967296) (h0:yl ≠ 0):La 32 xl yl < 18446744073709551616:=by
 unfold La;have:=Nat.mod_le xl yl;omega
theorem Amq (a b:Int) (h0:Ag 32 b ≠ 0) (w:World) :
 Calls prog 68 #[.int .i64 5,.bool true,.int .i64 a,.int .i64 b] w fun e w'=>
  e = .returned (.tuple #[.int .i64 ((La 32 (Ag 32 a) (Ag 32 b):Nat):Int),.int .i64 0])/\Below w.heap.size w w':=by
 obtain ⟨x,y,xl,yl,Gm,hub,hx,hy,hxl,hyl,J7,Rt,U9,Po⟩:=Jg a b;rw [<- Po.out] at h0;have Ns:=hid (Ake xl yl hxl hyl h0);have J8:=hid (Awa xl yl hxl hyl h0);have HW:=hid (show La 32 xl yl < 4294967296 by rw [Ns.out];exact Nat.mod_lt _ (by decide));have hyb:((yl:Int) == 0) = false:=by simpa using h0
 have HY0:=hid h0;clear h0;go_enter func68,ntmps68;go_wp2_with fail;refine (Bq x xl J7.out hx _).mono ?_;rintro e w0 ⟨rfl,rfl⟩;go_wp2_with fail;refine (Bq y yl Rt.out hy _).mono ?_;rintro e w0 ⟨rfl,rfl⟩;go_wp2_with fail;refine (Ap _).mono ?_;rintro e w1 ⟨bm,rfl,hbm,hBm⟩;have hl:=dn w1 bm hbm false;rw [if_neg (by decide)] at hl;have hs:=hBm.size;go_wp2_with fail;refine (Ea _).mono ?_;rintro e w2 ⟨bn,rfl,hbn,hBn⟩;have hln:=Abq w2 bn hbn true;rw [if_pos rfl] at hln;have hB:=hBm.trans (hBn.mono hs);clear hBm hBn hs;go_wp2_with fail;refine (Alv xl yl hxl hyl HY0.out _).mono ?_;rintro e w3 ⟨rfl,rfl⟩;have hlt:=J8.out;have heq:=Ns.out;generalize hr:La 32 xl yl = r at hlt heq;have HE:=hid heq;have HR:=hid hr;clear heq hr;go_wp2_with fail;refine (Bq r r HE.out hlt _).mono ?_;rintro e w4 ⟨rfl,rfl⟩;have hw:=HW.out;rw [HR.out] at hw;go_wp2
 go_ret2
 exact ⟨congrArg (fun z=>Ending.returned (.tuple #[.int .i64 z,.int .i64 0])) (by rw [<- HR.out,U9.out,Po.out]),hB⟩
theorem Ag1 (a b:Int) (h0:Ag 32 b = 0) (w:World) :
 Calls prog 68 #[.int .i64 5,.bool true,.int .i64 a,.int .i64 b] w fun e w'=>
  e = .returned (.tuple #[.int .i64 0,.int .i64 84])/\w = w':=by
 obtain ⟨x,y,xl,yl,Gm,hub,hx,hy,hxl,hyl,J7,Rt,U9,Po⟩:=Jg a b;rw [<- Po.out] at h0;have hyb:((yl:Int) == 0) = true:=by simpa using h0
 clear h0;go_enter func68,ntmps68;go_wp2_with fail;refine (Bq x xl J7.out hx _).mono ?_;rintro e w0 ⟨rfl,rfl⟩;go_wp2_with fail;refine (Bq y yl Rt.out hy _).mono ?_;rintro e w0 ⟨rfl,rfl⟩;go_wp2_with fail;refine (He 5 (by decide) _).mono ?_;rintro e w0 ⟨rfl,rfl⟩;go_wp2
 go_ret2
 exact ⟨rfl,rfl⟩
theorem Adn (xl yl:Nat) (hx:xl < 4294967296) (hy:yl < 4294967296) (h0:yl ≠ 0):Hz 32 xl yl = Hz 32 xl yl % 2 ^ 32:=by
 unfold Hz;exact toNat_mod _
theorem Atm (xl yl:Nat) (hx:xl < 4294967296) (hy:yl < 4294967296) (h0:yl ≠ 0):Hz 32 xl yl < 18446744073709551616:=by
 unfold Hz;exact toNat_lt _
theorem Ag2 (a b:Int) (h0:Ag 32 b ≠ 0) (w:World) :
 Calls prog 68 #[.int .i64 6,.bool true,.int .i64 a,.int .i64 b] w fun e w'=>
  e = .returned (.tuple #[.int .i64 ((Hz 32 (Ag 32 a) (Ag 32 b):Nat):Int),.int .i64 0])/\Below w.heap.size w w':=by
 obtain ⟨x,y,xl,yl,Gm,hub,hx,hy,hxl,hyl,J7,Rt,U9,Po⟩:=Jg a b;rw [<- Po.out] at h0;have Ns:=hid (Adn xl yl hxl hyl h0);have J8:=hid (Atm xl yl hxl hyl h0);have HW:=hid (show Hz 32 xl yl < 4294967296 by rw [Ns.out];exact Nat.mod_lt _ (by decide));have hyb:((yl:Int) == 0) = false:=by simpa using h0
 have HY0:=hid h0;clear h0;go_enter func68,ntmps68;go_wp2_with fail;refine (Bq x xl J7.out hx _).mono ?_;rintro e w0 ⟨rfl,rfl⟩;go_wp2_with fail;refine (Bq y yl Rt.out hy _).mono ?_;rintro e w0 ⟨rfl,rfl⟩;go_wp2_with fail;refine (Ap _).mono ?_;rintro e w1 ⟨bm,rfl,hbm,hBm⟩;have hl:=dw w1 bm hbm false;rw [if_neg (by decide)] at hl;have hs:=hBm.size;go_wp2_with fail;refine (Ea _).mono ?_;rintro e w2 ⟨bn,rfl,hbn,hBn⟩;have hln:=Abr w2 bn hbn true;rw [if_pos rfl] at hln;have hB:=hBm.trans (hBn.mono hs);clear hBm hBn hs;go_wp2_with fail;refine (Ago xl yl hxl hyl HY0.out _).mono ?_;rintro e w3 ⟨rfl,rfl⟩;have hlt:=J8.out;have heq:=Ns.out;generalize hr:Hz 32 xl yl = r at hlt heq;have HE:=hid heq;have HR:=hid hr;clear heq hr;go_wp2_with fail;refine (Bq r r HE.out hlt _).mono ?_;rintro e w4 ⟨rfl,rfl⟩;have hw:=HW.out;rw [HR.out] at hw;go_wp2
 go_ret2
 exact ⟨congrArg (fun z=>Ending.returned (.tuple #[.int .i64 z,.int .i64 0])) (by rw [<- HR.out,U9.out,Po.out]),hB⟩
theorem Ado (a b:Int) (h0:Ag 32 b = 0) (w:World) :
 Calls prog 68 #[.int .i64 6,.bool true,.int .i64 a,.int .i64 b] w fun e w'=>
  e = .returned (.tuple #[.int .i64 0,.int .i64 84])/\w = w':=by
 obtain ⟨x,y,xl,yl,Gm,hub,hx,hy,hxl,hyl,J7,Rt,U9,Po⟩:=Jg a b;rw [<- Po.out] at h0;have hyb:((yl:Int) == 0) = true:=by simpa using h0
 clear h0;go_enter func68,ntmps68;go_wp2_with fail;refine (Bq x xl J7.out hx _).mono ?_;rintro e w0 ⟨rfl,rfl⟩;go_wp2_with fail;refine (Bq y yl Rt.out hy _).mono ?_;rintro e w0 ⟨rfl,rfl⟩;go_wp2_with fail;refine (He 6 (by decide) _).mono ?_;rintro e w0 ⟨rfl,rfl⟩;go_wp2
 go_ret2
 exact ⟨rfl,rfl⟩
theorem Adp (xl yl:Nat) (hx:xl < 4294967296) (hy:yl < 4294967296) (h0:yl ≠ 0):Ia 32 xl yl = Ia 32 xl yl % 2 ^ 32:=by
 unfold Ia;exact toNat_mod _
theorem Atn (xl yl:Nat) (hx:xl < 4294967296) (hy:yl < 4294967296) (h0:yl ≠ 0):Ia 32 xl yl < 18446744073709551616:=by
 unfold Ia;exact toNat_lt _
theorem Ag3 (a b:Int) (h0:Ag 32 b ≠ 0) (w:World) :
 Calls prog 68 #[.int .i64 7,.bool true,.int .i64 a,.int .i64 b] w fun e w'=>
  e = .returned (.tuple #[.int .i64 ((Ia 32 (Ag 32 a) (Ag 32 b):Nat):Int),.int .i64 0])/\Below w.heap.size w w':=by
 obtain ⟨x,y,xl,yl,Gm,hub,hx,hy,hxl,hyl,J7,Rt,U9,Po⟩:=Jg a b;rw [<- Po.out] at h0;have Ns:=hid (Adp xl yl hxl hyl h0);have J8:=hid (Atn xl yl hxl hyl h0);have HW:=hid (show Ia 32 xl yl < 4294967296 by rw [Ns.out];exact Nat.mod_lt _ (by decide));have hyb:((yl:Int) == 0) = false:=by simpa using h0
 have HY0:=hid h0;clear h0;go_enter func68,ntmps68;go_wp2_with fail;refine (Bq x xl J7.out hx _).mono ?_;rintro e w0 ⟨rfl,rfl⟩;go_wp2_with fail;refine (Bq y yl Rt.out hy _).mono ?_;rintro e w0 ⟨rfl,rfl⟩;go_wp2_with fail;refine (Ap _).mono ?_;rintro e w1 ⟨bm,rfl,hbm,hBm⟩;have hl:=eu w1 bm hbm false;rw [if_neg (by decide)] at hl;have hs:=hBm.size;go_wp2_with fail;refine (Ea _).mono ?_;rintro e w2 ⟨bn,rfl,hbn,hBn⟩;have hln:=Abs w2 bn hbn true;rw [if_pos rfl] at hln;have hB:=hBm.trans (hBn.mono hs);clear hBm hBn hs;go_wp2_with fail;refine (Agp xl yl hxl hyl HY0.out _).mono ?_;rintro e w3 ⟨rfl,rfl⟩;have hlt:=J8.out;have heq:=Ns.out;generalize hr:Ia 32 xl yl = r at hlt heq;have HE:=hid heq;have HR:=hid hr;clear heq hr;go_wp2_with fail;refine (Bq r r HE.out hlt _).mono ?_;rintro e w4 ⟨rfl,rfl⟩;have hw:=HW.out;rw [HR.out] at hw;go_wp2
 go_ret2
 exact ⟨congrArg (fun z=>Ending.returned (.tuple #[.int .i64 z,.int .i64 0])) (by rw [<- HR.out,U9.out,Po.out]),hB⟩
theorem Adq (a b:Int) (h0:Ag 32 b = 0) (w:World) :
 Calls prog 68 #[.int .i64 7,.bool true,.int .i64 a,.int .i64 b] w fun e w'=>
  e = .returned (.tuple #[.int .i64 0,.int .i64 84])/\w = w':=by
 obtain ⟨x,y,xl,yl,Gm,hub,hx,hy,hxl,hyl,J7,Rt,U9,Po⟩:=Jg a b;rw [<- Po.out] at h0;have hyb:((yl:Int) == 0) = true:=by simpa using h0
 clear h0;go_enter func68,ntmps68;go_wp2_with fail;refine (Bq x xl J7.out hx _).mono ?_;rintro e w0 ⟨rfl,rfl⟩;go_wp2_with fail;refine (Bq y yl Rt.out hy _).mono ?_;rintro e w0 ⟨rfl,rfl⟩;go_wp2_with fail;refine (He 7 (by decide) _).mono ?_;rintro e w0 ⟨rfl,rfl⟩;go_wp2
 go_ret2
 exact ⟨rfl,rfl⟩
theorem Apv (xl yl:Nat) (hx:xl < 4294967296) (hy:yl < 4294967296):Rq 32 xl yl = Rq 64 xl yl % 2 ^ 32:=by
 unfold Rq;exact (Nat.mod_eq_of_lt (Nat.or_lt_two_pow hx hy)).symm
theorem Ax1 (xl yl:Nat) (hx:xl < 4294967296) (hy:yl < 4294967296):Rq 64 xl yl < 18446744073709551616:=by
 unfold Rq;exact Nat.lt_of_lt_of_le (Nat.or_lt_two_pow (n:=32) hx hy) (by decide)
theorem Apw (a b:Int) (w:World) :
 Calls prog 68 #[.int .i64 8,.bool true,.int .i64 a,.int .i64 b] w fun e w'=>
  e = .returned (.tuple #[.int .i64 ((Rq 32 (Ag 32 a) (Ag 32 b):Nat):Int),.int .i64 0])/\Below w.heap.size w w':=by
 obtain ⟨x,y,xl,yl,Gm,hub,hx,hy,hxl,hyl,J7,Rt,U9,Po⟩:=Jg a b;have Ns:=hid (Apv xl yl hxl hyl);have J8:=hid (Ax1 xl yl hxl hyl);have HW:=hid (show Rq 32 xl yl < 4294967296 by rw [Ns.out];exact Nat.mod_lt _ (by decide));obtain ⟨c0,hyb⟩:∃ c,((yl:Int) == 0) = c:=⟨_,rfl⟩
 cases c0
 all_goals
  go_enter func68,ntmps68;go_wp2_with fail;refine (Bq x xl J7.out hx _).mono ?_;rintro e w0 ⟨rfl,rfl⟩;go_wp2_with fail;refine (Bq y yl Rt.out hy _).mono ?_;rintro e w0 ⟨rfl,rfl⟩;go_wp2_with fail
  first | (go_at_call 96;refine (Ap _).mono ?_) | (go_at_call 95;refine (Dc 8 (by decide) _).mono ?_;rintro e w0 ⟨rfl,rfl⟩;go_wp2_with fail;refine (Ap _).mono ?_)
  rintro e w1 ⟨bm,rfl,hbm,hBm⟩;have hl:=gq w1 bm hbm false;rw [if_neg (by decide)] at hl;have hs:=hBm.size;go_wp2_with fail;refine (Ea _).mono ?_;rintro e w2 ⟨bn,rfl,hbn,hBn⟩;have hln:=Abw w2 bn hbn true;rw [if_pos rfl] at hln;have hB:=hBm.trans (hBn.mono hs);clear hBm hBn hs;go_wp2_with fail;refine (Apc xl yl (by omega) (by omega) _).mono ?_;rintro e w3 ⟨rfl,rfl⟩;have hlt:=J8.out;have heq:=Ns.out;generalize hr:Rq 64 xl yl = r at hlt heq;have HE:=hid heq;have HR:=hid hr;clear heq hr;go_wp2_with fail;refine (Bq r (Rq 32 xl yl) HE.out hlt _).mono ?_;rintro e w4 ⟨rfl,rfl⟩;have hw:=HW.out;obtain ⟨v,hv⟩:∃ v,v = Rq 32 xl yl:=⟨_,rfl⟩;rw [<- hv] at hw ⊢;have HV:=hid hv;clear hv;go_wp2
  go_ret2
  exact ⟨congrArg (fun z=>Ending.returned (.tuple #[.int .i64 z,.int .i64 0])) (by rw [HV.out,U9.out,Po.out]),hB⟩
theorem Akf (xl yl:Nat) (hx:xl < 4294967296) (hy:yl < 4294967296):Jw 32 xl yl = Jw 64 xl yl % 2 ^ 32:=by
 unfold Jw;exact (Nat.mod_eq_of_lt (Nat.and_lt_two_pow _ hy)).symm
theorem Awb (xl yl:Nat) (hx:xl < 4294967296) (hy:yl < 4294967296):Jw 64 xl yl < 18446744073709551616:=by
 unfold Jw;exact Nat.lt_of_lt_of_le (Nat.and_lt_two_pow (n:=32) _ hy) (by decide)
theorem Amr (a b:Int) (w:World) :
 Calls prog 68 #[.int .i64 9,.bool true,.int .i64 a,.int .i64 b] w fun e w'=>
  e = .returned (.tuple #[.int .i64 ((Jw 32 (Ag 32 a) (Ag 32 b):Nat):Int),.int .i64 0])/\Below w.heap.size w w':=by
 obtain ⟨x,y,xl,yl,Gm,hub,hx,hy,hxl,hyl,J7,Rt,U9,Po⟩:=Jg a b;have Ns:=hid (Akf xl yl hxl hyl);have J8:=hid (Awb xl yl hxl hyl);have HW:=hid (show Jw 32 xl yl < 4294967296 by rw [Ns.out];exact Nat.mod_lt _ (by decide));obtain ⟨c0,hyb⟩:∃ c,((yl:Int) == 0) = c:=⟨_,rfl⟩
 cases c0
 all_goals
  go_enter func68,ntmps68;go_wp2_with fail;refine (Bq x xl J7.out hx _).mono ?_;rintro e w0 ⟨rfl,rfl⟩;go_wp2_with fail;refine (Bq y yl Rt.out hy _).mono ?_;rintro e w0 ⟨rfl,rfl⟩;go_wp2_with fail
  first | (go_at_call 96;refine (Ap _).mono ?_) | (go_at_call 95;refine (Dc 9 (by decide) _).mono ?_;rintro e w0 ⟨rfl,rfl⟩;go_wp2_with fail;refine (Ap _).mono ?_)
  rintro e w1 ⟨bm,rfl,hbm,hBm⟩;have hl:=gy w1 bm hbm false;rw [if_neg (by decide)] at hl;have hs:=hBm.size;go_wp2_with fail;refine (Ea _).mono ?_;rintro e w2 ⟨bn,rfl,hbn,hBn⟩;have hln:=Abx w2 bn hbn true;rw [if_pos rfl] at hln;have hB:=hBm.trans (hBn.mono hs);clear hBm hBn hs;go_wp2_with fail;refine (Aj6 xl yl (by omega) (by omega) _).mono ?_;rintro e w3 ⟨rfl,rfl⟩;have hlt:=J8.out;have heq:=Ns.out;generalize hr:Jw 64 xl yl = r at hlt heq;have HE:=hid heq;have HR:=hid hr;clear heq hr;go_wp2_with fail;refine (Bq r (Jw 32 xl yl) HE.out hlt _).mono ?_;rintro e w4 ⟨rfl,rfl⟩;have hw:=HW.out;obtain ⟨v,hv⟩:∃ v,v = Jw 32 xl yl:=⟨_,rfl⟩;rw [<- hv] at hw ⊢;have HV:=hid hv;clear hv;go_wp2
  go_ret2
  exact ⟨congrArg (fun z=>Ending.returned (.tuple #[.int .i64 z,.int .i64 0])) (by rw [HV.out,U9.out,Po.out]),hB⟩
theorem Akg (xl yl:Nat) (hx:xl < 4294967296) (hy:yl < 4294967296):Jy 32 xl yl = Jy 64 xl yl % 2 ^ 32:=by
 unfold Jy;exact (Nat.mod_eq_of_lt (Nat.xor_lt_two_pow hx hy)).symm
theorem Awc (xl yl:Nat) (hx:xl < 4294967296) (hy:yl < 4294967296):Jy 64 xl yl < 18446744073709551616:=by
 unfold Jy;exact Nat.lt_of_lt_of_le (Nat.xor_lt_two_pow (n:=32) hx hy) (by decide)
theorem Ams (a b:Int) (w:World) :
 Calls prog 68 #[.int .i64 10,.bool true,.int .i64 a,.int .i64 b] w fun e w'=>
  e = .returned (.tuple #[.int .i64 ((Jy 32 (Ag 32 a) (Ag 32 b):Nat):Int),.int .i64 0])/\Below w.heap.size w w':=by
 obtain ⟨x,y,xl,yl,Gm,hub,hx,hy,hxl,hyl,J7,Rt,U9,Po⟩:=Jg a b;have Ns:=hid (Akg xl yl hxl hyl);have J8:=hid (Awc xl yl hxl hyl);have HW:=hid (show Jy 32 xl yl < 4294967296 by rw [Ns.out];exact Nat.mod_lt _ (by decide));obtain ⟨c0,hyb⟩:∃ c,((yl:Int) == 0) = c:=⟨_,rfl⟩
 cases c0
 all_goals
  go_enter func68,ntmps68;go_wp2_with fail;refine (Bq x xl J7.out hx _).mono ?_;rintro e w0 ⟨rfl,rfl⟩;go_wp2_with fail;refine (Bq y yl Rt.out hy _).mono ?_;rintro e w0 ⟨rfl,rfl⟩;go_wp2_with fail
  first | (go_at_call 96;refine (Ap _).mono ?_) | (go_at_call 95;refine (Dc 10 (by decide) _).mono ?_;rintro e w0 ⟨rfl,rfl⟩;go_wp2_with fail;refine (Ap _).mono ?_)
  rintro e w1 ⟨bm,rfl,hbm,hBm⟩;have hl:=Y5 w1 bm hbm false;rw [if_neg (by decide)] at hl;have hs:=hBm.size;go_wp2_with fail;refine (Ea _).mono ?_;rintro e w2 ⟨bn,rfl,hbn,hBn⟩;have hln:=zf w2 bn hbn true;rw [if_pos rfl] at hln;have hB:=hBm.trans (hBn.mono hs);clear hBm hBn hs;go_wp2_with fail;refine (Aj7 xl yl (by omega) (by omega) _).mono ?_;rintro e w3 ⟨rfl,rfl⟩;have hlt:=J8.out;have heq:=Ns.out;generalize hr:Jy 64 xl yl = r at hlt heq;have HE:=hid heq;have HR:=hid hr;clear heq hr;go_wp2_with fail;refine (Bq r (Jy 32 xl yl) HE.out hlt _).mono ?_;rintro e w4 ⟨rfl,rfl⟩;have hw:=HW.out;obtain ⟨v,hv⟩:∃ v,v = Jy 32 xl yl:=⟨_,rfl⟩;rw [<- hv] at hw ⊢;have HV:=hid hv;clear hv;go_wp2
  go_ret2
  exact ⟨congrArg (fun z=>Ending.returned (.tuple #[.int .i64 z,.int .i64 0])) (by rw [HV.out,U9.out,Po.out]),hB⟩
theorem Akh (xl yl:Nat) (hx:xl < 4294967296) (hy:yl < 4294967296):Pm 32 xl yl = xl * 2 ^ (yl % 32) % 2 ^ 64 % 2 ^ 32:=by
 unfold Pm;exact (Nat.mod_mod_of_dvd _ (by decide)).symm
theorem Awd (xl yl:Nat) (hx:xl < 4294967296) (hy:yl < 4294967296):xl * 2 ^ (yl % 32) % 2 ^ 64 < 18446744073709551616:=by
 exact Nat.lt_of_lt_of_le (Nat.mod_lt _ (Nat.two_pow_pos 64)) (by decide)
theorem Amt (a b:Int) (w:World) :
 Calls prog 68 #[.int .i64 11,.bool true,.int .i64 a,.int .i64 b] w fun e w'=>
  e = .returned (.tuple #[.int .i64 ((Pm 32 (Ag 32 a) (Ag 32 b):Nat):Int),.int .i64 0])/\Below w.heap.size w w':=by
 obtain ⟨x,y,xl,yl,Gm,hub,hx,hy,hxl,hyl,J7,Rt,U9,Po⟩:=Jg a b;have Ns:=hid (Akh xl yl hxl hyl);have J8:=hid (Awd xl yl hxl hyl);have HW:=hid (show Pm 32 xl yl < 4294967296 by rw [Ns.out];exact Nat.mod_lt _ (by decide));obtain ⟨c0,hyb⟩:∃ c,((yl:Int) == 0) = c:=⟨_,rfl⟩
 cases c0
 all_goals
  go_enter func68,ntmps68;go_wp2_with fail;refine (Bq x xl J7.out hx _).mono ?_;rintro e w0 ⟨rfl,rfl⟩;go_wp2_with fail;refine (Bq y yl Rt.out hy _).mono ?_;rintro e w0 ⟨rfl,rfl⟩;go_wp2_with fail
  first | (go_at_call 96;refine (Ap _).mono ?_) | (go_at_call 95;refine (Dc 11 (by decide) _).mono ?_;rintro e w0 ⟨rfl,rfl⟩;go_wp2_with fail;refine (Ap _).mono ?_)
  rintro e w1 ⟨bm,rfl,hbm,hBm⟩;have hl:=Y6 w1 bm hbm false;rw [if_neg (by decide)] at hl;have hs:=hBm.size;go_wp2_with fail;refine (Ea _).mono ?_;rintro e w2 ⟨bn,rfl,hbn,hBn⟩;have hln:=y7 w2 bn hbn true;rw [if_pos rfl] at hln;have hB:=hBm.trans (hBn.mono hs);clear hBm hBn hs;go_wp2_with fail;refine (Aly xl yl hxl hyl _).mono ?_;rintro e w3 ⟨rfl,rfl⟩;have hlt:=J8.out;have heq:=Ns.out;generalize hr:xl * 2 ^ (yl % 32) % 2 ^ 64 = r at hlt heq;have HE:=hid heq;have HR:=hid hr;clear heq hr;go_wp2_with fail;refine (Bq r (Pm 32 xl yl) HE.out hlt _).mono ?_;rintro e w4 ⟨rfl,rfl⟩;have hw:=HW.out;obtain ⟨v,hv⟩:∃ v,v = Pm 32 xl yl:=⟨_,rfl⟩;rw [<- hv] at hw ⊢;have HV:=hid hv;clear hv;go_wp2
  go_ret2
  exact ⟨congrArg (fun z=>Ending.returned (.tuple #[.int .i64 z,.int .i64 0])) (by rw [HV.out,U9.out,Po.out]),hB⟩
theorem Aki (xl yl:Nat) (hx:xl < 4294967296) (hy:yl < 4294967296):Lc 32 xl yl = Lc 32 xl yl % 2 ^ 32:=by
 unfold Lc;have:=Nat.div_le_self xl (2 ^ (yl % 32));exact (Nat.mod_eq_of_lt (show xl / 2 ^ (yl % 32) < 2 ^ 32 by omega)).symm
theorem Awe (xl yl:Nat) (hx:xl < 4294967296) (hy:yl < 4294967296):Lc 32 xl yl < 18446744073709551616:=by
 unfold Lc;have:=Nat.div_le_self xl (2 ^ (yl % 32));omega
theorem Amu (a b:Int) (w:World) :
 Calls prog 68 #[.int .i64 12,.bool true,.int .i64 a,.int .i64 b] w fun e w'=>
  e = .returned (.tuple #[.int .i64 ((Lc 32 (Ag 32 a) (Ag 32 b):Nat):Int),.int .i64 0])/\Below w.heap.size w w':=by
 obtain ⟨x,y,xl,yl,Gm,hub,hx,hy,hxl,hyl,J7,Rt,U9,Po⟩:=Jg a b;have Ns:=hid (Aki xl yl hxl hyl);have J8:=hid (Awe xl yl hxl hyl);have HW:=hid (show Lc 32 xl yl < 4294967296 by rw [Ns.out];exact Nat.mod_lt _ (by decide));obtain ⟨c0,hyb⟩:∃ c,((yl:Int) == 0) = c:=⟨_,rfl⟩
 cases c0
 all_goals
  go_enter func68,ntmps68;go_wp2_with fail;refine (Bq x xl J7.out hx _).mono ?_;rintro e w0 ⟨rfl,rfl⟩;go_wp2_with fail;refine (Bq y yl Rt.out hy _).mono ?_;rintro e w0 ⟨rfl,rfl⟩;go_wp2_with fail
  first | (go_at_call 96;refine (Ap _).mono ?_) | (go_at_call 95;refine (Dc 12 (by decide) _).mono ?_;rintro e w0 ⟨rfl,rfl⟩;go_wp2_with fail;refine (Ap _).mono ?_)
  rintro e w1 ⟨bm,rfl,hbm,hBm⟩;have hl:=Y7 w1 bm hbm false;rw [if_neg (by decide)] at hl;have hs:=hBm.size;go_wp2_with fail;refine (Ea _).mono ?_;rintro e w2 ⟨bn,rfl,hbn,hBn⟩;have hln:=y8 w2 bn hbn true;rw [if_pos rfl] at hln;have hB:=hBm.trans (hBn.mono hs);clear hBm hBn hs;go_wp2_with fail;refine (Alz xl yl hxl hyl _).mono ?_;rintro e w3 ⟨rfl,rfl⟩;have hlt:=J8.out;have heq:=Ns.out;generalize hr:Lc 32 xl yl = r at hlt heq;have HE:=hid heq;have HR:=hid hr;clear heq hr;go_wp2_with fail;refine (Bq r r HE.out hlt _).mono ?_;rintro e w4 ⟨rfl,rfl⟩;have hw:=HW.out;rw [HR.out] at hw;go_wp2
  go_ret2
  exact ⟨congrArg (fun z=>Ending.returned (.tuple #[.int .i64 z,.int .i64 0])) (by rw [<- HR.out,U9.out,Po.out]),hB⟩
theorem Adr (xl yl:Nat) (hx:xl < 4294967296) (hy:yl < 4294967296):Ib 32 xl yl = Ib 32 xl yl % 2 ^ 32:=by
 unfold Ib;exact toNat_mod _
theorem Ato (xl yl:Nat) (hx:xl < 4294967296) (hy:yl < 4294967296):Ib 32 xl yl < 18446744073709551616:=by
 unfold Ib;exact toNat_lt _
theorem Ag4 (a b:Int) (w:World) :
 Calls prog 68 #[.int .i64 13,.bool true,.int .i64 a,.int .i64 b] w fun e w'=>
  e = .returned (.tuple #[.int .i64 ((Ib 32 (Ag 32 a) (Ag 32 b):Nat):Int),.int .i64 0])/\Below w.heap.size w w':=by
 obtain ⟨x,y,xl,yl,Gm,hub,hx,hy,hxl,hyl,J7,Rt,U9,Po⟩:=Jg a b;have Ns:=hid (Adr xl yl hxl hyl);have J8:=hid (Ato xl yl hxl hyl);have HW:=hid (show Ib 32 xl yl < 4294967296 by rw [Ns.out];exact Nat.mod_lt _ (by decide));obtain ⟨c0,hyb⟩:∃ c,((yl:Int) == 0) = c:=⟨_,rfl⟩
 cases c0
 all_goals
  go_enter func68,ntmps68;go_wp2_with fail;refine (Bq x xl J7.out hx _).mono ?_;rintro e w0 ⟨rfl,rfl⟩;go_wp2_with fail;refine (Bq y yl Rt.out hy _).mono ?_;rintro e w0 ⟨rfl,rfl⟩;go_wp2_with fail
  first | (go_at_call 96;refine (Ap _).mono ?_) | (go_at_call 95;refine (Dc 13 (by decide) _).mono ?_;rintro e w0 ⟨rfl,rfl⟩;go_wp2_with fail;refine (Ap _).mono ?_)
  rintro e w1 ⟨bm,rfl,hbm,hBm⟩;have hl:=Y8 w1 bm hbm false;rw [if_neg (by decide)] at hl;have hs:=hBm.size;go_wp2_with fail;refine (Ea _).mono ?_;rintro e w2 ⟨bn,rfl,hbn,hBn⟩;have hln:=y9 w2 bn hbn true;rw [if_pos rfl] at hln;have hB:=hBm.trans (hBn.mono hs);clear hBm hBn hs;go_wp2_with fail;refine (Agq xl yl hxl hyl _).mono ?_;rintro e w3 ⟨rfl,rfl⟩;have hlt:=J8.out;have heq:=Ns.out;generalize hr:Ib 32 xl yl = r at hlt heq;have HE:=hid heq;have HR:=hid hr;clear heq hr;go_wp2_with fail;refine (Bq r r HE.out hlt _).mono ?_;rintro e w4 ⟨rfl,rfl⟩;have hw:=HW.out;rw [HR.out] at hw;go_wp2
  go_ret2
  exact ⟨congrArg (fun z=>Ending.returned (.tuple #[.int .i64 z,.int .i64 0])) (by rw [<- HR.out,U9.out,Po.out]),hB⟩
theorem Akj (xl yl:Nat) (hx:xl < 4294967296) (hy:yl < 4294967296):Ld 32 xl yl = Ld 64 xl yl % 2 ^ 32:=by
 unfold Ld;omega
theorem Awf (xl yl:Nat) (hx:xl < 4294967296) (hy:yl < 4294967296):Ld 64 xl yl < 18446744073709551616:=by
 unfold Ld;exact Nat.lt_of_lt_of_le (Nat.mod_lt _ (Nat.two_pow_pos 64)) (by decide)
theorem Amv (a b:Int) (w:World) :
 Calls prog 68 #[.int .i64 14,.bool true,.int .i64 a,.int .i64 b] w fun e w'=>
  e = .returned (.tuple #[.int .i64 ((Ld 32 (Ag 32 a) (Ag 32 b):Nat):Int),.int .i64 0])/\Below w.heap.size w w':=by
 obtain ⟨x,y,xl,yl,Gm,hub,hx,hy,hxl,hyl,J7,Rt,U9,Po⟩:=Jg a b;have Ns:=hid (Akj xl yl hxl hyl);have J8:=hid (Awf xl yl hxl hyl);have HW:=hid (show Ld 32 xl yl < 4294967296 by rw [Ns.out];exact Nat.mod_lt _ (by decide));obtain ⟨c0,hyb⟩:∃ c,((yl:Int) == 0) = c:=⟨_,rfl⟩
 cases c0
 all_goals
  go_enter func68,ntmps68;go_wp2_with fail;refine (Bq x xl J7.out hx _).mono ?_;rintro e w0 ⟨rfl,rfl⟩;go_wp2_with fail;refine (Bq y yl Rt.out hy _).mono ?_;rintro e w0 ⟨rfl,rfl⟩;go_wp2_with fail
  first | (go_at_call 96;refine (Ap _).mono ?_) | (go_at_call 95;refine (Dc 14 (by decide) _).mono ?_;rintro e w0 ⟨rfl,rfl⟩;go_wp2_with fail;refine (Ap _).mono ?_)
  rintro e w1 ⟨bm,rfl,hbm,hBm⟩;have hl:=Y9 w1 bm hbm false;rw [if_neg (by decide)] at hl;have hs:=hBm.size;go_wp2_with fail;refine (Ea _).mono ?_;rintro e w2 ⟨bn,rfl,hbn,hBn⟩;have hln:=zh w2 bn hbn true;rw [if_pos rfl] at hln;have hB:=hBm.trans (hBn.mono hs);clear hBm hBn hs;go_wp2_with fail;refine (Aj8 xl yl (by omega) (by omega) _).mono ?_;rintro e w3 ⟨rfl,rfl⟩;have hlt:=J8.out;have heq:=Ns.out;generalize hr:Ld 64 xl yl = r at hlt heq;have HE:=hid heq;have HR:=hid hr;clear heq hr;go_wp2_with fail;refine (Bq r (Ld 32 xl yl) HE.out hlt _).mono ?_;rintro e w4 ⟨rfl,rfl⟩;have hw:=HW.out;obtain ⟨v,hv⟩:∃ v,v = Ld 32 xl yl:=⟨_,rfl⟩;rw [<- hv] at hw ⊢;have HV:=hid hv;clear hv;go_wp2
  go_ret2
  exact ⟨congrArg (fun z=>Ending.returned (.tuple #[.int .i64 z,.int .i64 0])) (by rw [HV.out,U9.out,Po.out]),hB⟩
theorem Akk (xl yl:Nat) (hx:xl < 4294967296) (hy:yl < 4294967296):L6 32 xl yl = L6 64 xl yl % 2 ^ 32:=by
 unfold L6;omega
theorem Awg (xl yl:Nat) (hx:xl < 4294967296) (hy:yl < 4294967296):L6 64 xl yl < 18446744073709551616:=by
 unfold L6;omega
theorem Amw (a b:Int) (w:World) :
 Calls prog 68 #[.int .i64 15,.bool true,.int .i64 a,.int .i64 b] w fun e w'=>
  e = .returned (.tuple #[.int .i64 ((L6 32 (Ag 32 a) (Ag 32 b):Nat):Int),.int .i64 0])/\Below w.heap.size w w':=by
 obtain ⟨x,y,xl,yl,Gm,hub,hx,hy,hxl,hyl,J7,Rt,U9,Po⟩:=Jg a b;have Ns:=hid (Akk xl yl hxl hyl);have J8:=hid (Awg xl yl hxl hyl);have HW:=hid (show L6 32 xl yl < 4294967296 by rw [Ns.out];exact Nat.mod_lt _ (by decide));obtain ⟨c0,hyb⟩:∃ c,((yl:Int) == 0) = c:=⟨_,rfl⟩
 cases c0
 all_goals
  go_enter func68,ntmps68;go_wp2_with fail;refine (Bq x xl J7.out hx _).mono ?_;rintro e w0 ⟨rfl,rfl⟩;go_wp2_with fail;refine (Bq y yl Rt.out hy _).mono ?_;rintro e w0 ⟨rfl,rfl⟩;go_wp2_with fail
  first | (go_at_call 96;refine (Ap _).mono ?_) | (go_at_call 95;refine (Dc 15 (by decide) _).mono ?_;rintro e w0 ⟨rfl,rfl⟩;go_wp2_with fail;refine (Ap _).mono ?_)
  rintro e w1 ⟨bm,rfl,hbm,hBm⟩;have hl:=Za w1 bm hbm false;rw [if_neg (by decide)] at hl;have hs:=hBm.size;go_wp2_with fail;refine (Ea _).mono ?_;rintro e w2 ⟨bn,rfl,hbn,hBn⟩;have hln:=zi w2 bn hbn true;rw [if_pos rfl] at hln;have hB:=hBm.trans (hBn.mono hs);clear hBm hBn hs;go_wp2_with fail;refine (Aj9 xl yl (by omega) (by omega) _).mono ?_;rintro e w3 ⟨rfl,rfl⟩;have hlt:=J8.out;have heq:=Ns.out;generalize hr:L6 64 xl yl = r at hlt heq;have HE:=hid heq;have HR:=hid hr;clear heq hr;go_wp2_with fail;refine (Bq r (L6 32 xl yl) HE.out hlt _).mono ?_;rintro e w4 ⟨rfl,rfl⟩;have hw:=HW.out;obtain ⟨v,hv⟩:∃ v,v = L6 32 xl yl:=⟨_,rfl⟩;rw [<- hv] at hw ⊢;have HV:=hid hv;clear hv;go_wp2
  go_ret2
  exact ⟨congrArg (fun z=>Ending.returned (.tuple #[.int .i64 z,.int .i64 0])) (by rw [HV.out,U9.out,Po.out]),hB⟩
end Go.Proofs.YtjacnhnaoenelaaGreat
