import Derived.Test.YtjacnhnaoenelaaGreatQHoldsA
import Derived.Shelf.Spec.TrailingZeros
import Derived.Test.YtjacnhnaoenelaaGreatQInts
set_option maxRecDepth 100000
set_option maxHeartbeats 1600000
namespace Go.Proofs.YtjacnhnaoenelaaGreat
open Lib (hid)
open Go.Proofs.Tryz
open Go.RowKit
set_option linter.unusedVariables false
def rev:Nat->Nat->Nat
 | 0,_=>0
 | k + 1,x=>x % 256 * 256 ^ k + rev k (x / 256)
theorem Ahh (k x:Nat):rev k x < 256 ^ k:=by
 induction k generalizing x with
 | zero=>simp [rev]
 | succ k ih =>
   have h:=ih (x / 256);have h2:x % 256 * 256 ^ k <= 255 * 256 ^ k:=Nat.mul_le_mul_right _ (by omega);have e:256 ^ (k + 1) = 256 * 256 ^ k:=Nat.pow_succ';show x % 256 * 256 ^ k + rev k (x / 256) < _;omega
theorem Sl (i a b c d:Nat) (hb:b < 2 ^ i) (hd:d < 2 ^ i):(2 ^ i * a + b) ||| (2 ^ i * c + d) = 2 ^ i * (a ||| c) + (b ||| d):=by
 refine Nat.eq_of_testBit_eq fun j=>?_;rw [Nat.testBit_or,Nat.testBit_two_pow_mul_add _ hb,Nat.testBit_two_pow_mul_add _ hd,Nat.testBit_two_pow_mul_add _ (Nat.or_lt_two_pow hb hd)]
 split <;> rw [Nat.testBit_or]
theorem and_split (i a b c d:Nat) (hb:b < 2 ^ i) (hd:d < 2 ^ i):(2 ^ i * a + b) &&& (2 ^ i * c + d) = 2 ^ i * (a &&& c) + (b &&& d):=by
 refine Nat.eq_of_testBit_eq fun j=>?_;rw [Nat.testBit_and,Nat.testBit_two_pow_mul_add _ hb,Nat.testBit_two_pow_mul_add _ hd,Nat.testBit_two_pow_mul_add _ (Nat.lt_of_le_of_lt Nat.and_le_left hb)]
 split <;> rw [Nat.testBit_and]
theorem Akl (x:Nat):x &&& 255 = x % 256:=Nat.and_two_pow_sub_one_eq_mod x 8
theorem Ab2 (p q:Nat) (hp:p < 256):p ||| q * 256 = q * 256 + p:=by
 have h:=Sl 8 0 p q 0 hp (by decide);simp only [Nat.reducePow,Nat.mul_zero,Nat.zero_add,Nat.add_zero,Nat.zero_or,Nat.or_zero] at h;rw [Nat.mul_comm q,h]
theorem Atp (p q:Nat) (hp:p < 65536):p ||| q * 65536 = q * 65536 + p:=by
 have h:=Sl 16 0 p q 0 hp (by decide);simp only [Nat.reducePow,Nat.mul_zero,Nat.zero_add,Nat.add_zero,Nat.zero_or,Nat.or_zero] at h;rw [Nat.mul_comm q,h]
theorem Atq (p q:Nat) (hp:p < 4294967296):p ||| q * 4294967296 = q * 4294967296 + p:=by
 have h:=Sl 32 0 p q 0 hp (by decide);simp only [Nat.reducePow,Nat.mul_zero,Nat.zero_add,Nat.add_zero,Nat.zero_or,Nat.or_zero] at h;rw [Nat.mul_comm q,h]
theorem Akm (x:Nat):x &&& 16711935 = x / 65536 % 256 * 65536 + x % 256:=by
 have h:=and_split 16 (x / 65536) (x % 65536) 255 255 (by omega) (by decide);have e1:2 ^ 16 * (x / 65536) + x % 65536 = x:=by omega
 have e2:2 ^ 16 * 255 + 255 = 16711935:=by decide
 rw [e1,e2,Akl,Akl] at h;rw [h];omega
theorem Avc (x:Nat):x &&& 71777214294589695 = (x / 4294967296 &&& 16711935) * 4294967296 + (x % 4294967296 &&& 16711935):=by
 have h:=and_split 32 (x / 4294967296) (x % 4294967296) 16711935 16711935 (by omega) (by decide);have e1:2 ^ 32 * (x / 4294967296) + x % 4294967296 = x:=by omega
 have e2:2 ^ 32 * 16711935 + 16711935 = 71777214294589695:=by decide
 rw [e1,e2] at h;rw [h];omega
theorem Aat (x:Nat):x &&& 65535 = x % 65536:=Nat.and_two_pow_sub_one_eq_mod x 16
theorem Apx (x:Nat):x &&& 281470681808895 = x / 4294967296 % 65536 * 4294967296 + x % 65536:=by
 have h:=and_split 32 (x / 4294967296) (x % 4294967296) 65535 65535 (by omega) (by decide);have e1:2 ^ 32 * (x / 4294967296) + x % 4294967296 = x:=by omega
 have e2:2 ^ 32 * 65535 + 65535 = 281470681808895:=by decide
 rw [e1,e2,Aat,Aat] at h;rw [h];omega
theorem Ahi (a b c d:Nat) (hb:b < 65536) (hd:d < 65536):(65536 * a + b) ||| (65536 * c + d) = 65536 * (a ||| c) + (b ||| d):=Sl 16 a b c d hb hd
theorem jd (a b c d:Nat) (hb:b < 4294967296) (hd:d < 4294967296):(4294967296 * a + b) ||| (4294967296 * c + d) = 4294967296 * (a ||| c) + (b ||| d):=Sl 32 a b c d hb hd
theorem Ahj (x a b c d:Nat) (ha:a < 256) (hb:b < 256) (hc:c < 256) (hd:d < 256) (hx:x = a + 256 * b + 65536 * c + 16777216 * d) :
 (x / 256 &&& 16711935) ||| (x &&& 16711935) * 256 = c * 16777216 + d * 65536 + a * 256 + b:=by
 have m1:x / 256 &&& 16711935 = 65536 * d + b:=by rw [Akm];omega
 have m2:(x &&& 16711935) * 256 = 65536 * (c * 256) + a * 256:=by rw [Akm];omega
 rw [m1,m2,Ahi d b (c * 256) (a * 256) (by omega) (by omega),Ab2 _ _ hd,Ab2 _ _ hb];omega
theorem Ahk (x:Nat) (hx:x < 65536):∃ a b,a < 256/\b < 256/\x = a + 256 * b:=⟨x % 256,x / 256,by omega,by omega,by omega⟩
theorem bytes4 (x:Nat) (hx:x < 4294967296):∃ a b c d,a < 256/\b < 256/\c < 256/\d < 256/\x = a + 256 * b + 65536 * c + 16777216 * d:=by
 obtain ⟨p,q,hp,hq,h⟩:∃ p q,p < 65536/\q < 65536/\x = p + 65536 * q:=⟨x % 65536,x / 65536,by omega,by omega,by omega⟩;obtain ⟨a,b,ha,hb,h1⟩:=Ahk p hp;obtain ⟨c,d,hc,hd,h2⟩:=Ahk q hq;exact ⟨a,b,c,d,ha,hb,hc,hd,by omega⟩
theorem Awh (x:Nat) (hx:x < 18446744073709551616):∃ p q,p < 4294967296/\q < 4294967296/\x = p + 4294967296 * q:=⟨x % 4294967296,x / 4294967296,by omega,by omega,by omega⟩
theorem Ik (k x a y:Nat) (ha:a < 256) (hx:x = a + 256 * y):rev (k + 1) x = a * 256 ^ k + rev k y:=by
 have e1:x % 256 = a:=by omega
 have e2:x / 256 = y:=by omega
 show x % 256 * 256 ^ k + rev k (x / 256) = _;rw [e1,e2]
theorem Atr (x a b:Nat) (ha:a < 256) (hb:b < 256) (hx:x = a + 256 * b):rev 2 x = a * 256 + b:=by
 rw [Ik 1 x a b ha hx,Ik 0 b b 0 hb (by omega)];simp [rev]
theorem Akn (x a b c d:Nat) (ha:a < 256) (hb:b < 256) (hc:c < 256) (hd:d < 256) (hx:x = a + 256 * b + 65536 * c + 16777216 * d):rev 4 x = a * 16777216 + b * 65536 + c * 256 + d:=by
 rw [Ik 3 x a (b + 256 * c + 65536 * d) ha (by omega),Ik 2 _ b (c + 256 * d) hb (by omega),Ik 1 _ c d hc (by omega),Ik 0 d d 0 hd (by omega)];simp only [rev,Nat.reducePow];omega
theorem Azq (x:Nat) (hx:x < 65536):x / 256 ||| x * 256 % 65536 = rev 2 x:=by
 obtain ⟨a,b,ha,hb,h⟩:=Ahk x hx;rw [Atr x a b ha hb h];have e1:x * 256 % 65536 = a * 256:=by omega
 have e2:x / 256 = b:=by omega
 rw [e1,e2,Ab2 _ _ hb]
theorem Awi (x:Nat) (hx:x < 4294967296):((x / 256 &&& 16711935) ||| (x &&& 16711935) * 256) / 65536 ||| ((x / 256 &&& 16711935) ||| (x &&& 16711935) * 256) * 65536 % 4294967296 = rev 4 x:=by
 obtain ⟨a,b,c,d,ha,hb,hc,hd,h⟩:=bytes4 x hx;rw [Ahj x a b c d ha hb hc hd h,Akn x a b c d ha hb hc hd h];have e1:(c * 16777216 + d * 65536 + a * 256 + b) / 65536 = c * 256 + d:=by omega
 have e2:(c * 16777216 + d * 65536 + a * 256 + b) * 65536 % 4294967296 = (a * 256 + b) * 65536:=by omega
 rw [e1,e2,Atp _ _ (by omega)];omega
theorem Ats (x p q:Nat) (hp:p < 4294967296) (hq:q < 4294967296) (hx:x = p + 4294967296 * q):rev 8 x = rev 4 p * 4294967296 + rev 4 q:=by
 obtain ⟨a,b,c,d,ha,hb,hc,hd,h⟩:=bytes4 p hp;rw [Akn p a b c d ha hb hc hd h];rw [Ik 7 x a (b + 256 * c + 65536 * d + 16777216 * q) ha (by omega),Ik 6 _ b (c + 256 * d + 65536 * q) hb (by omega),Ik 5 _ c (d + 256 * q) hc (by omega),Ik 4 _ d q hd (by omega)];simp only [Nat.reducePow];omega
theorem Awj (x p q:Nat) (hp:p < 4294967296) (hq:q < 4294967296) (hx:x = p + 4294967296 * q) :
 (x / 256 &&& 71777214294589695) ||| (x &&& 71777214294589695) * 256 = 4294967296 * ((q / 256 &&& 16711935) ||| (q &&& 16711935) * 256) + ((p / 256 &&& 16711935) ||| (p &&& 16711935) * 256):=by
 have hm:∀ y:Nat,y &&& 16711935 <= 16711935:=fun y=>Nat.and_le_right
 have m1:x / 256 &&& 71777214294589695 = 4294967296 * (q / 256 &&& 16711935) + (p / 256 &&& 16711935):=by
  rw [Avc];have e1:x / 256 / 4294967296 = q / 256:=by omega
  have e2:(x / 256 % 4294967296) &&& 16711935 = p / 256 &&& 16711935:=by
   rw [Akm,Akm];have e:x / 256 % 4294967296 = p / 256 + 16777216 * (q % 256):=by omega
   rw [e];omega
  rw [e1,e2,Nat.mul_comm]
 have m2:(x &&& 71777214294589695) * 256 = 4294967296 * ((q &&& 16711935) * 256) + (p &&& 16711935) * 256:=by
  rw [Avc];have e1:x / 4294967296 = q:=by omega
  have e2:x % 4294967296 = p:=by omega
  rw [e1,e2];omega
 have h1:=hm (p / 256);have h2:=hm p;rw [m1,m2,jd _ _ _ _ (by omega) (by omega)]
theorem rev8 (x P R:Nat) (hx:x < 18446744073709551616) (hP:P = (x / 256 &&& 71777214294589695) ||| (x &&& 71777214294589695) * 256)
 (hR:R = (P / 65536 &&& 281470681808895) ||| (P &&& 281470681808895) * 65536):R / 4294967296 ||| R * 4294967296 % 18446744073709551616 = rev 8 x:=by
 obtain ⟨p,q,hp,hq,h⟩:=Awh x hx;rw [Awj x p q hp hq h] at hP;rw [Ats x p q hp hq h];have r1:=Awi p hp;have r2:=Awi q hq;have l1:=Ahh 4 p;have l2:=Ahh 4 q;simp only [Nat.reducePow] at l1 l2;obtain ⟨a,b,c,d,ha,hb,hc,hd,hpb⟩:=bytes4 p hp;obtain ⟨a',b',c',d',ha',hb',hc',hd',hqb⟩:=bytes4 q hq;have s1:(p / 256 &&& 16711935) ||| (p &&& 16711935) * 256 < 4294967296:=by rw [Ahj p a b c d ha hb hc hd hpb];omega
 have s2:(q / 256 &&& 16711935) ||| (q &&& 16711935) * 256 < 4294967296:=by rw [Ahj q a' b' c' d' ha' hb' hc' hd' hqb];omega
 generalize (p / 256 &&& 16711935) ||| (p &&& 16711935) * 256 = Pp at hP r1 s1;generalize (q / 256 &&& 16711935) ||| (q &&& 16711935) * 256 = Pq at hP r2 s2;generalize rev 4 p = rp at r1 l1 ⊢;generalize rev 4 q = rq at r2 l2 ⊢;clear hpb hqb ha hb hc hd ha' hb' hc' hd' hp hq h hx
 have m1:P / 65536 &&& 281470681808895 = 4294967296 * (Pq / 65536) + Pp / 65536:=by
  rw [Apx];have e1:P / 65536 = 65536 * Pq + Pp / 65536:=by omega
  rw [e1];omega
 have m2:(P &&& 281470681808895) * 65536 = 4294967296 * (Pq * 65536 % 4294967296) + Pp * 65536 % 4294967296:=by
  rw [Apx];have e1:P / 4294967296 = Pq:=by omega
  have e2:P % 65536 = Pp % 65536:=by omega
  rw [e1,e2];omega
 rw [m1,m2,jd _ _ _ _ (by omega) (by omega),r1,r2] at hR;have e1:R / 4294967296 = rq:=by omega
 have e2:R * 4294967296 % 18446744073709551616 = rp * 4294967296:=by omega
 rw [e1,e2,Atq _ _ (by omega)]
theorem o16 (x y:Nat) (hx:x < 65536) (hy:y < 65536):bits .or .u16 (x:Int) (y:Int) = ((x ||| y:Nat):Int):=by
 show IntKind.u16.wrap ((BitVec.ofInt 16 x ||| BitVec.ofInt 16 y).toNat:Int) = _;have e1:(BitVec.ofInt 16 (x:Int)).toNat = x:=by rw [BitVec.toNat_ofInt];simp only [Nat.reducePow];omega
 have e2:(BitVec.ofInt 16 (y:Int)).toNat = y:=by rw [BitVec.toNat_ofInt];simp only [Nat.reducePow];omega
 rw [BitVec.toNat_or,e1,e2];have h:x ||| y < 2 ^ 16:=Nat.or_lt_two_pow hx hy;simp only [Nat.reducePow] at h;exact IntWalk.u16_in _ (by omega)
theorem o32 (x y:Nat) (hx:x < 4294967296) (hy:y < 4294967296):bits .or .u32 (x:Int) (y:Int) = ((x ||| y:Nat):Int):=by
 show IntKind.u32.wrap ((BitVec.ofInt 32 x ||| BitVec.ofInt 32 y).toNat:Int) = _;have e1:(BitVec.ofInt 32 (x:Int)).toNat = x:=by rw [BitVec.toNat_ofInt];simp only [Nat.reducePow];omega
 have e2:(BitVec.ofInt 32 (y:Int)).toNat = y:=by rw [BitVec.toNat_ofInt];simp only [Nat.reducePow];omega
 rw [BitVec.toNat_or,e1,e2];have h:x ||| y < 2 ^ 32:=Nat.or_lt_two_pow hx hy;simp only [Nat.reducePow] at h;exact IntWalk.u32_in _ (by omega)
theorem d8 (x:Nat):(x:Int) / 256 = ((x / 256:Nat):Int):=by omega
theorem d16 (x:Nat):(x:Int) / 65536 = ((x / 65536:Nat):Int):=by omega
theorem d32 (x:Nat):(x:Int) / 4294967296 = ((x / 4294967296:Nat):Int):=by omega
theorem Amx (x:Nat) (hx:x < 65536) (w:World):Calls prog 99 #[.int .u16 x] w fun e w'=>e = .returned (.int .u16 ((rev 2 x:Nat):Int))/\w = w':=by
 have H:=hid hx;obtain ⟨R,hR⟩:∃ R,R = rev 2 x:=⟨_,rfl⟩;rw [<- hR];have HR:=hid hR;clear hR;go_enter func99,ntmps99;go_wp2;go_ret
 refine ⟨Bj ?_,rfl⟩;rw [HR.out,<- Azq x H.out];have hx:=H.out
 have e:IntKind.u16.wrap ((x:Int) * 256) = ((x * 256 % 65536:Nat):Int):=by
  rw [IntKind.wrap_u16];omega
 rw [e,d8,o16 _ _ (by omega) (by omega)]
theorem Amy (x:Nat) (hx:x < 4294967296) (w:World):Calls prog 100 #[.int .u32 x] w fun e w'=>e = .returned (.int .u32 ((rev 4 x:Nat):Int))/\w = w':=by
 have H:=hid hx;obtain ⟨R,hR⟩:∃ R,R = rev 4 x:=⟨_,rfl⟩;rw [<- hR];have HR:=hid hR;clear hR;go_enter func100,ntmps100;go_wp2;go_ret
 refine ⟨Bj ?_,rfl⟩;rw [HR.out,<- Awi x H.out];have hx:=H.out;have c:(16711935:Int) = ((16711935:Nat):Int):=rfl;have hm:∀ y:Nat,y &&& 16711935 <= 16711935:=fun y=>Nat.and_le_right;have h1:=hm x;have h2:=hm (x / 256);have h3:(x / 256 &&& 16711935) ||| (x &&& 16711935) * 256 < 2 ^ 32:=Nat.or_lt_two_pow (by omega) (by omega);simp only [Nat.reducePow] at h3;rw [d8,c,bits_and_u32_nat _ _ (by omega) (by omega),bits_and_u32_nat _ _ (by omega) (by omega)];have e:((x &&& 16711935:Nat):Int) * 256 % 4294967296 = (((x &&& 16711935) * 256:Nat):Int):=by omega
 rw [e,o32 _ _ (by omega) (by omega)];generalize (x / 256 &&& 16711935) ||| (x &&& 16711935) * 256 = P at h3 ⊢;have e2:((P:Nat):Int) * 65536 % 4294967296 = ((P * 65536 % 4294967296:Nat):Int):=by omega
 rw [e2,d16,o32 _ _ (by omega) (by omega)]
theorem Amz (x:Nat) (hx:x < 18446744073709551616) (w:World):Calls prog 101 #[.int .u64 x] w fun e w'=>e = .returned (.int .u64 ((rev 8 x:Nat):Int))/\w = w':=by
 have H:=hid hx;obtain ⟨R,hR⟩:∃ R,R = rev 8 x:=⟨_,rfl⟩;rw [<- hR];have HR:=hid hR;clear hR;go_enter func101,ntmps101;go_wp2;go_ret
 refine ⟨Bj ?_,rfl⟩;rw [HR.out,<- rev8 x _ _ H.out rfl rfl];have hx:=H.out;have c:(71777214294589695:Int) = ((71777214294589695:Nat):Int):=rfl;have c2:(281470681808895:Int) = ((281470681808895:Nat):Int):=rfl;have hm:∀ y:Nat,y &&& 71777214294589695 <= 71777214294589695:=fun y=>Nat.and_le_right;have hm2:∀ y:Nat,y &&& 281470681808895 <= 281470681808895:=fun y=>Nat.and_le_right;have h1:=hm x;have h2:=hm (x / 256);have h3:(x / 256 &&& 71777214294589695) ||| (x &&& 71777214294589695) * 256 < 2 ^ 64:=Nat.or_lt_two_pow (by omega) (by omega);simp only [Nat.reducePow] at h3;rw [d8,c,c2,bits_and_u64_nat _ _ (by omega) (by omega),bits_and_u64_nat _ _ (by omega) (by omega)];have e:IntKind.u64.wrap (((x &&& 71777214294589695:Nat):Int) * 256) = (((x &&& 71777214294589695) * 256:Nat):Int):=by rw [IntKind.wrap_u64];omega
 rw [e,bits_or_u64_nat _ _ (by omega) (by omega)];generalize (x / 256 &&& 71777214294589695) ||| (x &&& 71777214294589695) * 256 = P at h3 ⊢;clear e h1 h2;have h1:=hm2 P;have h2:=hm2 (P / 65536);have h4:(P / 65536 &&& 281470681808895) ||| (P &&& 281470681808895) * 65536 < 2 ^ 64:=Nat.or_lt_two_pow (by omega) (by omega);simp only [Nat.reducePow] at h4;rw [d16,bits_and_u64_nat _ _ (by omega) (by omega),bits_and_u64_nat _ _ (by omega) (by omega)];have e:IntKind.u64.wrap (((P &&& 281470681808895:Nat):Int) * 65536) = (((P &&& 281470681808895) * 65536:Nat):Int):=by rw [IntKind.wrap_u64];omega
 rw [e,bits_or_u64_nat _ _ (by omega) (by omega)];generalize (P / 65536 &&& 281470681808895) ||| (P &&& 281470681808895) * 65536 = S at h4 ⊢;clear e h1 h2 h3;have e:IntKind.u64.wrap ((S:Int) * 4294967296) = ((S * 4294967296 % 18446744073709551616:Nat):Int):=by rw [IntKind.wrap_u64];omega
 rw [e,d32,bits_or_u64_nat _ _ (by omega) (by omega)]
def swp (k:Nat) (t:Bool) (a:Int):Nat:=if t then rev k (Ag (8 * k) a) else Ag (8 * k) a
theorem Yf (k:Nat) (t:Bool) (a:Int):swp k t a < 256 ^ k:=by
 unfold swp;have e:(256:Nat) ^ k = 2 ^ (8 * k):=by rw [Nat.pow_mul]
 cases t
 ·rw [if_neg (by decide),e];exact Dl _ _
 ·rw [if_pos rfl];exact Ahh _ _
theorem je (a:Int) (U:Nat) (h:U = un a):(U:Int) % 65536 = ((Ag 16 a:Nat):Int):=by
 unfold Ag;rw [<- h,Int.natCast_emod];rfl
theorem jf (a:Int) (U:Nat) (h:U = un a):(U:Int) % 4294967296 = ((Ag 32 a:Nat):Int):=by
 unfold Ag;rw [<- h,Int.natCast_emod];rfl
theorem Ab3 (a:Int) (ra : -9223372036854775808 <= a/\a <= 9223372036854775807) (w:World) :
 Calls prog 71 #[.int .i64 16,.bool false,.int .i64 a] w fun e w'=>e = .returned (.int .i64 (wrap64 ((swp 2 false a:Nat):Int)))/\w = w':=by
 obtain ⟨R,hR⟩:∃ R,R = swp 2 false a:=⟨_,rfl⟩;rw [<- hR];have hRl:R < 65536:=by rw [hR];exact Yf 2 false a
 have Gm:=Ba a;obtain ⟨U,hU⟩:∃ U,U = un a:=⟨_,rfl⟩;have hUl:U < 18446744073709551616:=by rw [hU];exact Eo a
 rw [<- hU] at Gm;have hl:=je a U hU;have hl2:IntKind.u16.wrap (U:Int) = ((Ag 16 a:Nat):Int):=by rw [IntKind.wrap_u16];exact hl
 obtain ⟨X,hX⟩:∃ X,X = Ag 16 a:=⟨_,rfl⟩;rw [<- hX] at hl hl2;have hXl:X < 65536:=by rw [hX];exact Dl 16 a
 have hRX:R = X:=by rw [hR,hX];rfl
 have HRX:=hid hRX;have J7:=hid hXl;clear hRX hX hU hR;go_enter func71,ntmps71;go_wp2;go_ret
 refine ⟨Bj ?_,rfl⟩;rw [HRX.out]
 all_goals (first | rfl | (have:=J7.out;(symm;unfold wrap64;omega)))
theorem Ad7 (a:Int) (ra : -9223372036854775808 <= a/\a <= 9223372036854775807) (w:World) :
 Calls prog 71 #[.int .i64 16,.bool true,.int .i64 a] w fun e w'=>e = .returned (.int .i64 (wrap64 ((swp 2 true a:Nat):Int)))/\w = w':=by
 obtain ⟨R,hR⟩:∃ R,R = swp 2 true a:=⟨_,rfl⟩;rw [<- hR];have hRl:R < 65536:=by rw [hR];exact Yf 2 true a
 have Gm:=Ba a;obtain ⟨U,hU⟩:∃ U,U = un a:=⟨_,rfl⟩;have hUl:U < 18446744073709551616:=by rw [hU];exact Eo a
 rw [<- hU] at Gm;have hl:=je a U hU;have hl2:IntKind.u16.wrap (U:Int) = ((Ag 16 a:Nat):Int):=by rw [IntKind.wrap_u16];exact hl
 obtain ⟨X,hX⟩:∃ X,X = Ag 16 a:=⟨_,rfl⟩;rw [<- hX] at hl hl2;have hXl:X < 65536:=by rw [hX];exact Dl 16 a
 have hRX:R = rev 2 X:=by rw [hR,hX];rfl
 have HRX:=hid hRX;have J7:=hid hXl;clear hRX hX hU hR;go_enter func71,ntmps71;go_wp2_with fail;refine (Amx X J7.out _).mono ?_;rintro e w1 ⟨rfl,rfl⟩;rw [<- HRX.out];go_wp2;go_ret
 refine ⟨Bj ?_,rfl⟩
 all_goals (first | rfl | (symm;unfold wrap64;omega))
theorem Ab4 (a:Int) (ra : -9223372036854775808 <= a/\a <= 9223372036854775807) (w:World) :
 Calls prog 71 #[.int .i64 32,.bool false,.int .i64 a] w fun e w'=>e = .returned (.int .i64 (wrap64 ((swp 4 false a:Nat):Int)))/\w = w':=by
 obtain ⟨R,hR⟩:∃ R,R = swp 4 false a:=⟨_,rfl⟩;rw [<- hR];have hRl:R < 4294967296:=by rw [hR];exact Yf 4 false a
 have Gm:=Ba a;obtain ⟨U,hU⟩:∃ U,U = un a:=⟨_,rfl⟩;have hUl:U < 18446744073709551616:=by rw [hU];exact Eo a
 rw [<- hU] at Gm;have hl:=jf a U hU;have hl2:IntKind.u32.wrap (U:Int) = ((Ag 32 a:Nat):Int):=by rw [IntKind.wrap_u32];exact hl
 obtain ⟨X,hX⟩:∃ X,X = Ag 32 a:=⟨_,rfl⟩;rw [<- hX] at hl hl2;have hXl:X < 4294967296:=by rw [hX];exact Dl 32 a
 have hRX:R = X:=by rw [hR,hX];rfl
 have HRX:=hid hRX;have J7:=hid hXl;clear hRX hX hU hR;go_enter func71,ntmps71;go_wp2;go_ret
 refine ⟨Bj ?_,rfl⟩;rw [HRX.out]
 all_goals (first | rfl | (have:=J7.out;(symm;unfold wrap64;omega)))
theorem Ad8 (a:Int) (ra : -9223372036854775808 <= a/\a <= 9223372036854775807) (w:World) :
 Calls prog 71 #[.int .i64 32,.bool true,.int .i64 a] w fun e w'=>e = .returned (.int .i64 (wrap64 ((swp 4 true a:Nat):Int)))/\w = w':=by
 obtain ⟨R,hR⟩:∃ R,R = swp 4 true a:=⟨_,rfl⟩;rw [<- hR];have hRl:R < 4294967296:=by rw [hR];exact Yf 4 true a
 have Gm:=Ba a;obtain ⟨U,hU⟩:∃ U,U = un a:=⟨_,rfl⟩;have hUl:U < 18446744073709551616:=by rw [hU];exact Eo a
 rw [<- hU] at Gm;have hl:=jf a U hU;have hl2:IntKind.u32.wrap (U:Int) = ((Ag 32 a:Nat):Int):=by rw [IntKind.wrap_u32];exact hl
 obtain ⟨X,hX⟩:∃ X,X = Ag 32 a:=⟨_,rfl⟩;rw [<- hX] at hl hl2;have hXl:X < 4294967296:=by rw [hX];exact Dl 32 a
 have hRX:R = rev 4 X:=by rw [hR,hX];rfl
 have HRX:=hid hRX;have J7:=hid hXl;clear hRX hX hU hR;go_enter func71,ntmps71;go_wp2_with fail;refine (Amy X J7.out _).mono ?_;rintro e w1 ⟨rfl,rfl⟩;rw [<- HRX.out];go_wp2;go_ret
 refine ⟨Bj ?_,rfl⟩
 all_goals (first | rfl | (symm;unfold wrap64;omega))
theorem Ab5 (a:Int) (ra : -9223372036854775808 <= a/\a <= 9223372036854775807) (w:World) :
 Calls prog 71 #[.int .i64 64,.bool false,.int .i64 a] w fun e w'=>e = .returned (.int .i64 (wrap64 ((swp 8 false a:Nat):Int)))/\w = w':=by
 obtain ⟨R,hR⟩:∃ R,R = swp 8 false a:=⟨_,rfl⟩;rw [<- hR];have hRl:R < 18446744073709551616:=by rw [hR];exact Yf 8 false a
 have Gm:=Ba a;obtain ⟨U,hU⟩:∃ U,U = un a:=⟨_,rfl⟩;have hUl:U < 18446744073709551616:=by rw [hU];exact Eo a
 rw [<- hU] at Gm;have hw:wrap64 (R:Int) = a:=by rw [hR];show wrap64 ((Ag 64 a:Nat):Int) = a;rw [Eh];exact Aaj ra.1 ra.2
 rw [hw];clear hw hR hU;go_enter func71,ntmps71;go_wp2;go_ret
 exact ⟨rfl,rfl⟩
theorem Ad9 (a:Int) (ra : -9223372036854775808 <= a/\a <= 9223372036854775807) (w:World) :
 Calls prog 71 #[.int .i64 64,.bool true,.int .i64 a] w fun e w'=>e = .returned (.int .i64 (wrap64 ((swp 8 true a:Nat):Int)))/\w = w':=by
 obtain ⟨R,hR⟩:∃ R,R = swp 8 true a:=⟨_,rfl⟩;rw [<- hR];have hRl:R < 18446744073709551616:=by rw [hR];exact Yf 8 true a
 have Gm:=Ba a;obtain ⟨U,hU⟩:∃ U,U = un a:=⟨_,rfl⟩;have hUl:U < 18446744073709551616:=by rw [hU];exact Eo a
 rw [<- hU] at Gm;have hRX:R = rev 8 U:=by rw [hR,hU];show rev 8 (Ag 64 a) = _;rw [Eh]
 have HRX:=hid hRX;have J7:=hid hUl;clear hRX hR hU;go_enter func71,ntmps71;go_wp2_with fail;refine (Amz U J7.out _).mono ?_;rintro e w1 ⟨rfl,rfl⟩;rw [<- HRX.out];go_wp2;go_ret
 refine ⟨Bj ?_,rfl⟩
 all_goals (first | rfl | (symm;unfold wrap64;omega))
theorem Ahl (size:Int) (t:Bool) (a:Int) (h:size ≠ 16/\size ≠ 32/\size ≠ 64) (w:World) :
 Calls prog 71 #[.int .i64 size,.bool t,.int .i64 a] w fun e w'=>e = .returned (.int .i64 0)/\w = w':=by
 have h1:(size == 16) = false:=by rw [beq_eq_false_iff_ne];omega
 have h2:(size == 32) = false:=by rw [beq_eq_false_iff_ne];omega
 have h3:(size == 64) = false:=by rw [beq_eq_false_iff_ne];omega
 clear h
 cases t
 all_goals
  go_enter func71,ntmps71;go_wp2;go_ret
  exact ⟨rfl,rfl⟩
theorem Rj (cs:Array Value) (w:World):(method 328 190 (.agg cs) "warrant/help.args").run prog w = .ok (180,.agg cs) w:=by kernel_rfl
theorem Sm (cs:Array Value) (w:World):(method 328 190 (.agg cs) "warrant/help.ret").run prog w = .ok (181,.agg cs) w:=by kernel_rfl
theorem Pv (cs:Array Value) (w:World):(method 328 192 (.agg cs) "warrant/help.args").run prog w = .ok (182,.agg cs) w:=by kernel_rfl
theorem Rk (cs:Array Value) (w:World):(method 328 192 (.agg cs) "warrant/help.ret").run prog w = .ok (183,.agg cs) w:=by kernel_rfl
theorem jg (cs:Array Value) (w:World):(method 328 193 (.agg cs) "warrant/help.args").run prog w = .ok (184,.agg cs) w:=by kernel_rfl
theorem zn (cs:Array Value) (w:World):(method 328 193 (.agg cs) "warrant/help.ret").run prog w = .ok (185,.agg cs) w:=by kernel_rfl
theorem Jj (cs:Array Value) (w:World):(method 328 195 (.agg cs) "warrant/help.args").run prog w = .ok (186,.agg cs) w:=by kernel_rfl
theorem J9 (cs:Array Value) (w:World):(method 328 195 (.agg cs) "warrant/help.ret").run prog w = .ok (187,.agg cs) w:=by kernel_rfl
theorem Ahm (w:World) (o:Obj) (cs:List Value) (e:TypeId):Row ((w.alloc o).alloc (.cells cs.toArray e)) (w.heap.size + 1) e cs:=by
 have:=Row.made (w.alloc o) cs e;simpa using this
def Ako (a0 a1 a2 a3 a4:Int) (w:World) (e:Ending) (w':World):Prop:=
 ∃ g,e = .returned (.slice (some ⟨g,0,none⟩) 5 5)/\w.heap.size <= g/\Row w' g 3 [.int .i64 a0,.int .i64 a1,.int .i64 a2,.int .i64 a3,.int .i64 a4]/\Below w.heap.size w w'
theorem jh (x y:Int) (w:World):Calls prog 180 #[.agg #[.int .i64 x,.int .i64 y]] w (Ako 2 4 1 0 0 w):=by
 go_enter func180,ntmps180;go_wp2;go_ret
 exact ⟨_,rfl,by first | omega | simp,Ahm _ _ _ _,((Below.refl _ _).alloc nl _).alloc (by simp) _⟩
theorem Aau (x y:Int) (w:World):Calls prog 181 #[.agg #[.int .i64 x,.int .i64 y]] w fun e w'=>e = .returned (.agg #[.int .i64 x,.int .i64 y,.bool false,.bool false])/\Below w.heap.size w w':=by
 go_enter func181,ntmps181;go_wp2;exact bodyPost_ret (v:=.agg #[.int .i64 x,.int .i64 y,.bool false,.bool false]) (by simp [results,results181,go_sem]) rfl ⟨rfl,((Below.refl _ _).alloc nl _).alloc (by simp) _⟩
theorem Zd (x:Int) (w:World):Calls prog 182 #[.agg #[.int .i64 x]] w (Ako 3 x 4 0 0 w):=by
 go_enter func182,ntmps182;go_wp2;go_ret
 exact ⟨_,rfl,by first | omega | simp,Ahm _ _ _ _,((Below.refl _ _).alloc nl _).alloc (by simp) _⟩
theorem ji (x:Int) (w:World):Calls prog 183 #[.agg #[.int .i64 x]] w fun e w'=>e = .returned (.agg #[.int .i64 0,.int .i64 0,.bool false,.bool false])/\Below w.heap.size w w':=by
 go_enter func183,ntmps183;go_wp2;exact bodyPost_ret (v:=.agg #[.int .i64 0,.int .i64 0,.bool false,.bool false]) (by simp [results,results183,go_sem]) rfl ⟨rfl,((Below.refl _ _).alloc nl _).alloc (by simp) _⟩
theorem Am0 (w:World):Calls prog 184 #[.agg #[]] w (Ako 2 2 4 0 0 w):=by
 go_enter func184,ntmps184;go_wp2;go_ret
 exact ⟨_,rfl,by first | omega | simp,Ahm _ _ _ _,((Below.refl _ _).alloc nl _).alloc (by simp) _⟩
theorem Apy (w:World):Calls prog 185 #[.agg #[]] w fun e w'=>e = .returned (.agg #[.int .i64 (-1),.int .i64 1,.bool false,.bool false])/\Below w.heap.size w w':=by
 go_enter func185,ntmps185;go_wp2;exact bodyPost_ret (v:=.agg #[.int .i64 (-1),.int .i64 1,.bool false,.bool false]) (by simp [results,results185,go_sem]) rfl ⟨rfl,((Below.refl _ _).alloc nl _).alloc (by simp) _⟩
theorem Ax2 (w:World):(Instr.makeSlice 50 (.int .i64 5) (.int .i64 5)).run prog w =
 .ok (.slice (some ⟨w.heap.size,0,none⟩) 5 5) (w.alloc (.cells (J6 5 (fun _=>0)).toArray 3)):=by
 obtain ⟨i,hi,hz,hs,hb⟩:=info_parts (show (prog.info? 3).map (fun i=>(i.zero,i.size,i.bytes)) = some (some (.int .i64 0),1,8) by kernel_rfl);have h:=run_make (P:=prog) w 50 3 i (.int .i64 0) underlying50 hi hz .i64 .i64 5 5 (by omega) (by omega) (by rw [hb];omega) (by omega);rw [h];simp only [hs,Nat.mul_one,Value.cells];rw [<- Ald];rfl
theorem Qp (m:Nat) (hm:m <= 5) (x y:Int) (p q:Bool) (w:World):Calls prog 186 #[.agg #[.int .i64 m,.int .i64 x,.int .i64 y,.bool p,.bool q]] w fun e w'=>
 ∃ g,e = .returned (.slice (some ⟨g,0,none⟩) 5 5)/\w.heap.size <= g/\Row w' g 3 (J6 5 fun t=>if t < m then 1 else 0)/\Below w.heap.size w w':=by
 have hmk:=Ax2;go_enter func186,ntmps186;go_wp2
 go_loopw [8] (fun s wr=>∃ i:Nat,i <= m/\s = .int .i64 i/\Row wr (w.heap.size + 1) 3 (J6 5 fun t=>if t < i then 1 else 0)/\Below w.heap.size w wr) (fun s _=>m - (intOf s).toNat)
 case atStart=>
  refine ⟨0,Nat.zero_le _,rfl,?_,((Below.refl _ _).alloc nl _).alloc (by simp) _⟩;have e:J6 5 (fun t=>if t < 0 then (1:Int) else 0) = J6 5 fun _=>0:=Z5 fun t _=>if_neg (by omega);rw [e];have:=Row.made (w.alloc (.cells #[.int .i64 m,.int .i64 x,.int .i64 y,.bool p,.bool q] 195)) (J6 5 fun _=>0) 3;simpa using this
 case round=>
  obtain ⟨i,hi,rfl,hR,hB⟩:=hrel
  by_cases hlt:i < m
  ·have hc:=(hR.cell i).trans (Wn _ (by omega));have hf:=hR.free i;have hn:=hR.put i (.int .i64 1);rw [Ao2] at hn
   have hn2:Row (wr.setCell ⟨w.heap.size + 1,i,none⟩ (.int .i64 1)) (w.heap.size + 1) 3 (J6 5 fun t=>if t < i + 1 then 1 else 0):=by
    rwa [Z5 (h:=fun t=>if t < i + 1 then 1 else 0)] at hn
    intro t _
    by_cases h1:t = i
    ·rw [if_pos h1,if_pos (by omega)]
    ·rw [if_neg h1]
     by_cases h2:t < i
     ·rw [if_pos h2,if_pos (by omega)]
     ·rw [if_neg h2,if_neg (by omega)]
   have HN:=hid hn2;clear hn hn2;have hi5:(i:Int) < 5:=by omega
   go_wp2
   go_roundw
   case rel=>exact ⟨i + 1,hlt,by go_num,HN.out,hB.setCell (show w.heap.size <= w.heap.size + 1 by omega) _⟩
   case measure=>simp [intOf];omega
  ·obtain rfl:i = m:=by omega
   go_wp2;go_ret
   exact ⟨_,rfl,by omega,hR,hB⟩
theorem Sr (m x y:Int) (p q:Bool) (w:World):Calls prog 187 #[.agg #[.int .i64 m,.int .i64 x,.int .i64 y,.bool p,.bool q]] w fun e w'=>e = .returned (.agg #[.int .i64 x,.int .i64 y,.bool p,.bool q])/\Below w.heap.size w w':=by
 go_enter func187,ntmps187;go_wp2;exact bodyPost_ret (v:=.agg #[.int .i64 x,.int .i64 y,.bool p,.bool q]) (by simp [results,results187,go_sem]) rfl ⟨rfl,((Below.refl _ _).alloc nl _).alloc (by simp) _⟩
def Vg (xs:List Int) (lo hi:Int) (p q:Bool) (w:World) (e:Ending) (w':World):Prop:=
 ∃ g,e = .returned (.tuple #[.agg #[.slice (some ⟨g,0,none⟩) 5 5,.int .i64 lo,.int .i64 hi,.bool p,.bool q],.bool true])/\w.heap.size <= g/\Row w' g 3 (xs.map (Value.int .i64))/\Below w.heap.size w w'
theorem Sv (id:Int) (T:TypeId) (cs:Array Value) (fa fr:FuncId) (xs:List Int) (lo hi:Int) (p q:Bool) (hlook:Looks id (.iface T (.agg cs)) true)
 (k1:∀ w,(callFunc fa #[.agg cs]).run prog w = .ok (.enter fa #[.agg cs]) w) (k2:∀ w,(callFunc fr #[.agg cs]).run prog w = .ok (.enter fr #[.agg cs]) w)
 (m1:∀ w,(method 328 T (.agg cs) "warrant/help.args").run prog w = .ok (fa,.agg cs) w) (m2:∀ w,(method 328 T (.agg cs) "warrant/help.ret").run prog w = .ok (fr,.agg cs) w)
 (hargs:∀ w,Calls prog fa #[.agg cs] w fun e w'=>∃ g,e = .returned (.slice (some ⟨g,0,none⟩) 5 5)/\w.heap.size <= g/\Row w' g 3 (xs.map (Value.int .i64))/\Below w.heap.size w w')
 (hret:∀ w,Calls prog fr #[.agg cs] w fun e w'=>e = .returned (.agg #[.int .i64 lo,.int .i64 hi,.bool p,.bool q])/\Below w.heap.size w w') (w:World) :
 Calls prog 81 #[.int .i64 id] w (Vg xs lo hi p q w):=by
 have HL:=hid hlook;have HA:=hid hargs;have HT:=hid hret;clear hlook hargs hret;go_enter func81,ntmps81;go_wp2_with fail;have hB0:Below w.heap.size w ((w.alloc (.cells #[.slice none 0 0,.int .i64 0,.int .i64 0,.bool false,.bool false] 124)).alloc (.cells #[.int .u32 0,.int .i32 0,.int .u32 0,.map none] 180)):=((Below.refl _ _).alloc nl _).alloc (by simp) _;have hR0:Row ((w.alloc (.cells #[.slice none 0 0,.int .i64 0,.int .i64 0,.bool false,.bool false] 124)).alloc (.cells #[.int .u32 0,.int .i32 0,.int .u32 0,.map none] 180)) w.heap.size 124 [.slice none 0 0,.int .i64 0,.int .i64 0,.bool false,.bool false]:=(Row.made w [.slice none 0 0,.int .i64 0,.int .i64 0,.bool false,.bool false] 124).alloc _;refine (get_at (w.heap.size + 1) id _ true HL.out _ _ (Ahm w _ [.int .u32 0,.int .i32 0,.int .u32 0,.map none] 180)).mono ?_;rintro e w1 ⟨rfl,hB1⟩;have hR1:=hR0.below hB1 (Nat.lt_succ_self _);have hB:=hid (hB0.trans (hB1.mono (Nat.le_succ _)));have HR:=hid hR1;clear hB0 hR0 hB1 hR1;go_wp2_with fail;refine (HA.out w1).mono ?_;rintro e w2 ⟨g,rfl,hg,hG,hB1⟩;have hR1:=HR.out.below hB1 HR.out.lt;have hs:=hB.out.size;have hB2:=hid (hB.out.trans (hB1.mono hs));have HR1:=hid hR1;have hgl:=Nat.le_trans hs hg;have HG:=hid hG;clear hB1 hR1 hs hG;go_wp2_with fail;refine (HT.out w2).mono ?_;rintro e w3 ⟨rfl,hB1⟩;have hR1:=HR1.out.below hB1 HR1.out.lt;have hs:=hB2.out.size;have hB3:=hid (hB2.out.trans (hB1.mono hs));have hG1:=HG.out.below hB1 HG.out.lt;have HG1:=hid hG1;have q0:=hR1.cell 0;have q1:=hR1.cell 1;have q2:=hR1.cell 2;have q3:=hR1.cell 3;have q4:=hR1.cell 4;have f0:=hR1.free 0;have f1:=hR1.free 1;have f2:=hR1.free 2;have f3:=hR1.free 3;have f4:=hR1.free 4;simp only [List.getElem?_cons_zero,List.getElem?_cons_succ] at q0 q1 q2 q3 q4;have hgb:g ≠ w.heap.size:=by have:=HR.out.lt;omega
 have hR5:=((((hR1.put 0 (.slice (some ⟨g,0,none⟩) 5 5)).put 1 (.int .i64 lo)).put 2 (.int .i64 hi)).put 3 (.bool p)).put 4 (.bool q);have z0:=hR5.cell 0;have z1:=hR5.cell 1;have z2:=hR5.cell 2;have z3:=hR5.cell 3;have z4:=hR5.cell 4;simp only [List.set_cons_zero,List.set_cons_succ,List.getElem?_cons_zero,List.getElem?_cons_succ] at z0 z1 z2 z3 z4;have Z:=hid (And.intro z0 (And.intro z1 (And.intro z2 (And.intro z3 z4))));clear hB1 hR1 hs hG1 hR5 z0 z1 z2 z3 z4;go_wp2;obtain ⟨z0,z1,z2,z3,z4⟩:=Z.out;refine bodyPost_ret (v:=.tuple #[.agg #[.slice (some ⟨g,0,none⟩) 5 5,.int .i64 lo,.int .i64 hi,.bool p,.bool q],.bool true]) (by simp [results,results81,go_sem,z0,z1,z2,z3,z4]) rfl ⟨g,rfl,hgl,?_,?_⟩
 ·exact ((((HG1.out.other _ _ hgb).other _ _ hgb).other _ _ hgb).other _ _ hgb).other _ _ hgb
 ·exact ((((hB3.out.setCell nl _).setCell nl _).setCell nl _).setCell nl _).setCell nl _
theorem Apz (id:Int) (hlook:Looks id .nilIface false) (w:World) :
 Calls prog 81 #[.int .i64 id] w fun e w'=>e = .returned (.tuple #[.agg #[.slice none 0 0,.int .i64 0,.int .i64 0,.bool false,.bool false],.bool false])/\Below w.heap.size w w':=by
 have HL:=hid hlook;clear hlook;go_enter func81,ntmps81;go_wp2_with fail;have hB0:Below w.heap.size w ((w.alloc (.cells #[.slice none 0 0,.int .i64 0,.int .i64 0,.bool false,.bool false] 124)).alloc (.cells #[.int .u32 0,.int .i32 0,.int .u32 0,.map none] 180)):=((Below.refl _ _).alloc nl _).alloc (by simp) _;have hR0:Row ((w.alloc (.cells #[.slice none 0 0,.int .i64 0,.int .i64 0,.bool false,.bool false] 124)).alloc (.cells #[.int .u32 0,.int .i32 0,.int .u32 0,.map none] 180)) w.heap.size 124 [.slice none 0 0,.int .i64 0,.int .i64 0,.bool false,.bool false]:=(Row.made w [.slice none 0 0,.int .i64 0,.int .i64 0,.bool false,.bool false] 124).alloc _;refine (get_at (w.heap.size + 1) id _ false HL.out _ _ (Ahm w _ [.int .u32 0,.int .i32 0,.int .u32 0,.map none] 180)).mono ?_;rintro e w1 ⟨rfl,hB1⟩;have hR1:=hR0.below hB1 (Nat.lt_succ_self _);have hB:=hid (hB0.trans (hB1.mono (Nat.le_succ _)));have q0:=hR1.cell 0;have f0:=hR1.free 0;have q1:=hR1.cell 1;have f1:=hR1.free 1;have q2:=hR1.cell 2;have f2:=hR1.free 2;have q3:=hR1.cell 3;have f3:=hR1.free 3;have q4:=hR1.cell 4;have f4:=hR1.free 4;simp only [List.getElem?_cons_zero,List.getElem?_cons_succ] at q0 q1 q2 q3 q4;have hR5:=((((hR1.put 0 (.slice none 0 0)).put 1 (.int .i64 0)).put 2 (.int .i64 0)).put 3 (.bool false)).put 4 (.bool false);have z0:=hR5.cell 0;have z1:=hR5.cell 1;have z2:=hR5.cell 2;have z3:=hR5.cell 3;have z4:=hR5.cell 4;simp only [List.set_cons_zero,List.set_cons_succ,List.getElem?_cons_zero,List.getElem?_cons_succ] at z0 z1 z2 z3 z4;have Z:=hid (And.intro z0 (And.intro z1 (And.intro z2 (And.intro z3 z4))));clear hB0 hR0 hB1 hR1 hR5 z0 z1 z2 z3 z4;go_wp2;obtain ⟨z0,z1,z2,z3,z4⟩:=Z.out;refine bodyPost_ret (v:=.tuple #[.agg #[.slice none 0 0,.int .i64 0,.int .i64 0,.bool false,.bool false],.bool false]) (by simp [results,results81,go_sem,z0,z1,z2,z3,z4]) rfl ⟨rfl,?_⟩;exact ((((hB.out.setCell nl _).setCell nl _).setCell nl _).setCell nl _).setCell nl _
theorem Aea {a0 a1 a2 a3 a4:Int} {w w':World} {e:Ending} (h:Ako a0 a1 a2 a3 a4 w e w') :
 ∃ g,e = .returned (.slice (some ⟨g,0,none⟩) 5 5)/\w.heap.size <= g/\Row w' g 3 ([a0,a1,a2,a3,a4].map (Value.int .i64))/\Below w.heap.size w w':=h
theorem Azr (w:World):Calls prog 81 #[.int .i64 1] w (Vg [2,4,1,0,0] (0) 65535 false false w):=
 Sv 1 190 _ 180 181 [2,4,1,0,0] (0) 65535 false false Av1 (fun w=>by kernel_rfl) (fun w=>by kernel_rfl) (Rj _) (Sm _)
  (fun w=>(jh _ _ w).mono fun e w2 h=>Aea h) (fun w=>Aau _ _ w) w
theorem Azs (w:World):Calls prog 81 #[.int .i64 2] w (Vg [3,2,4,0,0] (0) 0 false false w):=
 Sv 2 192 _ 182 183 [3,2,4,0,0] (0) 0 false false Av2 (fun w=>by kernel_rfl) (fun w=>by kernel_rfl) (Pv _) (Rk _)
  (fun w=>(Zd _ w).mono fun e w2 h=>Aea h) (fun w=>ji _ w) w
theorem Azt (w:World):Calls prog 81 #[.int .i64 3] w (Vg [3,1,4,0,0] (0) 0 false false w):=
 Sv 3 192 _ 182 183 [3,1,4,0,0] (0) 0 false false looks3 (fun w=>by kernel_rfl) (fun w=>by kernel_rfl) (Pv _) (Rk _)
  (fun w=>(Zd _ w).mono fun e w2 h=>Aea h) (fun w=>ji _ w) w
theorem Azu (w:World):Calls prog 81 #[.int .i64 4] w (Vg [2,2,4,0,0] (-1) 1 false false w):=
 Sv 4 193 _ 184 185 [2,2,4,0,0] (-1) 1 false false looks4 (fun w=>by kernel_rfl) (fun w=>by kernel_rfl) (jg _) (zn _)
  (fun w=>(Am0  w).mono fun e w2 h=>Aea h) (fun w=>Apy  w) w
theorem Azv (w:World):Calls prog 81 #[.int .i64 5] w (Vg [2,4,1,0,0] (-1) 65534 false false w):=
 Sv 5 190 _ 180 181 [2,4,1,0,0] (-1) 65534 false false Av3 (fun w=>by kernel_rfl) (fun w=>by kernel_rfl) (Rj _) (Sm _)
  (fun w=>(jh _ _ w).mono fun e w2 h=>Aea h) (fun w=>Aau _ _ w) w
theorem Azw (w:World):Calls prog 81 #[.int .i64 6] w (Vg [1,0,0,0,0] (-1) 0 false false w):=
 Sv 6 195 _ 186 187 [1,0,0,0,0] (-1) 0 false false Av4 (fun w=>by kernel_rfl) (fun w=>by kernel_rfl) (Jj _) (J9 _)
  (fun w=>Qp 1 (by decide) _ _ _ _ w) (fun w=>Sr _ _ _ _ _ w) w
theorem Azx (w:World):Calls prog 81 #[.int .i64 7] w (Vg [1,1,0,0,0] (0) 0 false false w):=
 Sv 7 195 _ 186 187 [1,1,0,0,0] (0) 0 false false Av5 (fun w=>by kernel_rfl) (fun w=>by kernel_rfl) (Jj _) (J9 _)
  (fun w=>Qp 2 (by decide) _ _ _ _ w) (fun w=>Sr _ _ _ _ _ w) w
theorem Azy (w:World):Calls prog 81 #[.int .i64 8] w (Vg [1,1,0,0,0] (0) 0 true true w):=
 Sv 8 195 _ 186 187 [1,1,0,0,0] (0) 0 true true Av6 (fun w=>by kernel_rfl) (fun w=>by kernel_rfl) (Jj _) (J9 _)
  (fun w=>Qp 2 (by decide) _ _ _ _ w) (fun w=>Sr _ _ _ _ _ w) w
end Go.Proofs.YtjacnhnaoenelaaGreat
