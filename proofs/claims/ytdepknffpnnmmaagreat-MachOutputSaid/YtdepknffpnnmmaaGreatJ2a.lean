import Derived.Test.YtdepknffpnnmmaaGreatJ0b
import Derived.Test.YtdepknffpnnmmaaGreatAluB
import Derived.Test.YtdepknffpnnmmaaGreatHoldsA
import Derived.Test.YtdepknffpnnmmaaGreatJ1a
namespace Go.Proofs.YtdepknffpnnmmaaGreat
open Go.RowKit
set_option linter.unusedVariables false
def Gives (f:FuncId) (args:Array Value) (v g:Int):Prop:=
 ∀ w:World,Calls Tryz.prog f args w fun e w'=>e = .returned (.tuple #[.int .i64 v,.int .i64 g])/\Below w.heap.size w w'
theorem Gives.same {f:FuncId} {args:Array Value} {v g:Int} (h:∀ w:World,Calls Tryz.prog f args w fun e w'=>e = .returned (.tuple #[.int .i64 v,.int .i64 g])/\w = w'):Gives f args v g:=
 fun w=>(h w).mono fun e w' ⟨he,hw⟩=>⟨he,by rw [<- hw];exact Below.refl _ _⟩
set_option linter.unusedSimpArgs false
def alu64F (op a b:Int):Int × Int:=
 if op = 1 then (wrap64 ((w_add 64 (un a) (un b):Nat):Int),0)
 else if op = 2 then (wrap64 ((w_sub 64 (un a) (un b):Nat):Int),0)
 else if op = 3 then (wrap64 ((w_mul 64 (un a) (un b):Nat):Int),0)
 else if op = 4 then (if un b = 0 then (0,84) else (wrap64 ((w_div 64 (un a) (un b):Nat):Int),0))
 else if op = 5 then (if un b = 0 then (0,84) else (wrap64 ((w_mod 64 (un a) (un b):Nat):Int),0))
 else if op = 6 then (if un b = 0 then (0,84) else (wrap64 ((w_sdiv 64 (un a) (un b):Nat):Int),0))
 else if op = 7 then (if un b = 0 then (0,84) else (wrap64 ((w_smod 64 (un a) (un b):Nat):Int),0))
 else if op = 8 then (wrap64 ((w_or 64 (un a) (un b):Nat):Int),0)
 else if op = 9 then (wrap64 ((w_and 64 (un a) (un b):Nat):Int),0)
 else if op = 10 then (wrap64 ((w_xor 64 (un a) (un b):Nat):Int),0)
 else if op = 11 then (wrap64 ((w_lsh 64 (un a) (un b):Nat):Int),0)
 else if op = 12 then (wrap64 ((w_rsh 64 (un a) (un b):Nat):Int),0)
 else if op = 13 then (wrap64 ((w_arsh 64 (un a) (un b):Nat):Int),0)
 else if op = 14 then (wrap64 ((w_neg 64 (un a) (un b):Nat):Int),0)
 else if op = 15 then (wrap64 ((w_mov 64 (un a) (un b):Nat):Int),0)
 else (0,0)
def alu32F (op a b:Int):Int × Int:=
 if op = 1 then (((w_add 32 (lowN 32 a) (lowN 32 b):Nat):Int),0)
 else if op = 2 then (((w_sub 32 (lowN 32 a) (lowN 32 b):Nat):Int),0)
 else if op = 3 then (((w_mul 32 (lowN 32 a) (lowN 32 b):Nat):Int),0)
 else if op = 4 then (if lowN 32 b = 0 then (0,84) else (((w_div 32 (lowN 32 a) (lowN 32 b):Nat):Int),0))
 else if op = 5 then (if lowN 32 b = 0 then (0,84) else (((w_mod 32 (lowN 32 a) (lowN 32 b):Nat):Int),0))
 else if op = 6 then (if lowN 32 b = 0 then (0,84) else (((w_sdiv 32 (lowN 32 a) (lowN 32 b):Nat):Int),0))
 else if op = 7 then (if lowN 32 b = 0 then (0,84) else (((w_smod 32 (lowN 32 a) (lowN 32 b):Nat):Int),0))
 else if op = 8 then (((w_or 32 (lowN 32 a) (lowN 32 b):Nat):Int),0)
 else if op = 9 then (((w_and 32 (lowN 32 a) (lowN 32 b):Nat):Int),0)
 else if op = 10 then (((w_xor 32 (lowN 32 a) (lowN 32 b):Nat):Int),0)
 else if op = 11 then (((w_lsh 32 (lowN 32 a) (lowN 32 b):Nat):Int),0)
 else if op = 12 then (((w_rsh 32 (lowN 32 a) (lowN 32 b):Nat):Int),0)
 else if op = 13 then (((w_arsh 32 (lowN 32 a) (lowN 32 b):Nat):Int),0)
 else if op = 14 then (((w_neg 32 (lowN 32 a) (lowN 32 b):Nat):Int),0)
 else if op = 15 then (((w_mov 32 (lowN 32 a) (lowN 32 b):Nat):Int),0)
 else (0,0)
def aluF (op:Int) (nar:Bool) (a b:Int):Int × Int:=if nar then alu32F op a b else alu64F op a b
theorem aluf64_add (a b:Int):alu64F 1 a b = (wrap64 ((w_add 64 (un a) (un b):Nat):Int),0):=by unfold alu64F;(iterate 0 rw [if_neg (by decide)]);rw [if_pos rfl]
theorem aluf64_sub (a b:Int):alu64F 2 a b = (wrap64 ((w_sub 64 (un a) (un b):Nat):Int),0):=by unfold alu64F;(iterate 1 rw [if_neg (by decide)]);rw [if_pos rfl]
theorem aluf64_mul (a b:Int):alu64F 3 a b = (wrap64 ((w_mul 64 (un a) (un b):Nat):Int),0):=by unfold alu64F;(iterate 2 rw [if_neg (by decide)]);rw [if_pos rfl]
theorem aluf64_div0 (a b:Int) (h:un b = 0):alu64F 4 a b = (0,84):=by unfold alu64F;(iterate 3 rw [if_neg (by decide)]);rw [if_pos rfl,if_pos h]
theorem aluf64_div (a b:Int) (h:un b ≠ 0):alu64F 4 a b = (wrap64 ((w_div 64 (un a) (un b):Nat):Int),0):=by unfold alu64F;(iterate 3 rw [if_neg (by decide)]);rw [if_pos rfl,if_neg h]
theorem aluf64_mod0 (a b:Int) (h:un b = 0):alu64F 5 a b = (0,84):=by unfold alu64F;(iterate 4 rw [if_neg (by decide)]);rw [if_pos rfl,if_pos h]
theorem aluf64_mod (a b:Int) (h:un b ≠ 0):alu64F 5 a b = (wrap64 ((w_mod 64 (un a) (un b):Nat):Int),0):=by unfold alu64F;(iterate 4 rw [if_neg (by decide)]);rw [if_pos rfl,if_neg h]
theorem aluf64_sdiv0 (a b:Int) (h:un b = 0):alu64F 6 a b = (0,84):=by unfold alu64F;(iterate 5 rw [if_neg (by decide)]);rw [if_pos rfl,if_pos h]
theorem aluf64_sdiv (a b:Int) (h:un b ≠ 0):alu64F 6 a b = (wrap64 ((w_sdiv 64 (un a) (un b):Nat):Int),0):=by unfold alu64F;(iterate 5 rw [if_neg (by decide)]);rw [if_pos rfl,if_neg h]
theorem aluf64_smod0 (a b:Int) (h:un b = 0):alu64F 7 a b = (0,84):=by unfold alu64F;(iterate 6 rw [if_neg (by decide)]);rw [if_pos rfl,if_pos h]
theorem aluf64_smod (a b:Int) (h:un b ≠ 0):alu64F 7 a b = (wrap64 ((w_smod 64 (un a) (un b):Nat):Int),0):=by unfold alu64F;(iterate 6 rw [if_neg (by decide)]);rw [if_pos rfl,if_neg h]
theorem aluf64_or (a b:Int):alu64F 8 a b = (wrap64 ((w_or 64 (un a) (un b):Nat):Int),0):=by unfold alu64F;(iterate 7 rw [if_neg (by decide)]);rw [if_pos rfl]
theorem aluf64_and (a b:Int):alu64F 9 a b = (wrap64 ((w_and 64 (un a) (un b):Nat):Int),0):=by unfold alu64F;(iterate 8 rw [if_neg (by decide)]);rw [if_pos rfl]
theorem aluf64_xor (a b:Int):alu64F 10 a b = (wrap64 ((w_xor 64 (un a) (un b):Nat):Int),0):=by unfold alu64F;(iterate 9 rw [if_neg (by decide)]);rw [if_pos rfl]
theorem aluf64_lsh (a b:Int):alu64F 11 a b = (wrap64 ((w_lsh 64 (un a) (un b):Nat):Int),0):=by unfold alu64F;(iterate 10 rw [if_neg (by decide)]);rw [if_pos rfl]
theorem aluf64_rsh (a b:Int):alu64F 12 a b = (wrap64 ((w_rsh 64 (un a) (un b):Nat):Int),0):=by unfold alu64F;(iterate 11 rw [if_neg (by decide)]);rw [if_pos rfl]
theorem aluf64_arsh (a b:Int):alu64F 13 a b = (wrap64 ((w_arsh 64 (un a) (un b):Nat):Int),0):=by unfold alu64F;(iterate 12 rw [if_neg (by decide)]);rw [if_pos rfl]
theorem aluf64_neg (a b:Int):alu64F 14 a b = (wrap64 ((w_neg 64 (un a) (un b):Nat):Int),0):=by unfold alu64F;(iterate 13 rw [if_neg (by decide)]);rw [if_pos rfl]
theorem aluf64_mov (a b:Int):alu64F 15 a b = (wrap64 ((w_mov 64 (un a) (un b):Nat):Int),0):=by unfold alu64F;(iterate 14 rw [if_neg (by decide)]);rw [if_pos rfl]
theorem aluf32_add (a b:Int):alu32F 1 a b = (((w_add 32 (lowN 32 a) (lowN 32 b):Nat):Int),0):=by unfold alu32F;(iterate 0 rw [if_neg (by decide)]);rw [if_pos rfl]
theorem aluf32_sub (a b:Int):alu32F 2 a b = (((w_sub 32 (lowN 32 a) (lowN 32 b):Nat):Int),0):=by unfold alu32F;(iterate 1 rw [if_neg (by decide)]);rw [if_pos rfl]
theorem aluf32_mul (a b:Int):alu32F 3 a b = (((w_mul 32 (lowN 32 a) (lowN 32 b):Nat):Int),0):=by unfold alu32F;(iterate 2 rw [if_neg (by decide)]);rw [if_pos rfl]
theorem aluf32_div0 (a b:Int) (h:lowN 32 b = 0):alu32F 4 a b = (0,84):=by unfold alu32F;(iterate 3 rw [if_neg (by decide)]);rw [if_pos rfl,if_pos h]
theorem aluf32_div (a b:Int) (h:lowN 32 b ≠ 0):alu32F 4 a b = (((w_div 32 (lowN 32 a) (lowN 32 b):Nat):Int),0):=by unfold alu32F;(iterate 3 rw [if_neg (by decide)]);rw [if_pos rfl,if_neg h]
theorem aluf32_mod0 (a b:Int) (h:lowN 32 b = 0):alu32F 5 a b = (0,84):=by unfold alu32F;(iterate 4 rw [if_neg (by decide)]);rw [if_pos rfl,if_pos h]
theorem aluf32_mod (a b:Int) (h:lowN 32 b ≠ 0):alu32F 5 a b = (((w_mod 32 (lowN 32 a) (lowN 32 b):Nat):Int),0):=by unfold alu32F;(iterate 4 rw [if_neg (by decide)]);rw [if_pos rfl,if_neg h]
theorem aluf32_sdiv0 (a b:Int) (h:lowN 32 b = 0):alu32F 6 a b = (0,84):=by unfold alu32F;(iterate 5 rw [if_neg (by decide)]);rw [if_pos rfl,if_pos h]
theorem aluf32_sdiv (a b:Int) (h:lowN 32 b ≠ 0):alu32F 6 a b = (((w_sdiv 32 (lowN 32 a) (lowN 32 b):Nat):Int),0):=by unfold alu32F;(iterate 5 rw [if_neg (by decide)]);rw [if_pos rfl,if_neg h]
theorem aluf32_smod0 (a b:Int) (h:lowN 32 b = 0):alu32F 7 a b = (0,84):=by unfold alu32F;(iterate 6 rw [if_neg (by decide)]);rw [if_pos rfl,if_pos h]
theorem aluf32_smod (a b:Int) (h:lowN 32 b ≠ 0):alu32F 7 a b = (((w_smod 32 (lowN 32 a) (lowN 32 b):Nat):Int),0):=by unfold alu32F;(iterate 6 rw [if_neg (by decide)]);rw [if_pos rfl,if_neg h]
theorem aluf32_or (a b:Int):alu32F 8 a b = (((w_or 32 (lowN 32 a) (lowN 32 b):Nat):Int),0):=by unfold alu32F;(iterate 7 rw [if_neg (by decide)]);rw [if_pos rfl]
theorem aluf32_and (a b:Int):alu32F 9 a b = (((w_and 32 (lowN 32 a) (lowN 32 b):Nat):Int),0):=by unfold alu32F;(iterate 8 rw [if_neg (by decide)]);rw [if_pos rfl]
theorem aluf32_xor (a b:Int):alu32F 10 a b = (((w_xor 32 (lowN 32 a) (lowN 32 b):Nat):Int),0):=by unfold alu32F;(iterate 9 rw [if_neg (by decide)]);rw [if_pos rfl]
theorem aluf32_lsh (a b:Int):alu32F 11 a b = (((w_lsh 32 (lowN 32 a) (lowN 32 b):Nat):Int),0):=by unfold alu32F;(iterate 10 rw [if_neg (by decide)]);rw [if_pos rfl]
theorem aluf32_rsh (a b:Int):alu32F 12 a b = (((w_rsh 32 (lowN 32 a) (lowN 32 b):Nat):Int),0):=by unfold alu32F;(iterate 11 rw [if_neg (by decide)]);rw [if_pos rfl]
theorem aluf32_arsh (a b:Int):alu32F 13 a b = (((w_arsh 32 (lowN 32 a) (lowN 32 b):Nat):Int),0):=by unfold alu32F;(iterate 12 rw [if_neg (by decide)]);rw [if_pos rfl]
theorem aluf32_neg (a b:Int):alu32F 14 a b = (((w_neg 32 (lowN 32 a) (lowN 32 b):Nat):Int),0):=by unfold alu32F;(iterate 13 rw [if_neg (by decide)]);rw [if_pos rfl]
theorem aluf32_mov (a b:Int):alu32F 15 a b = (((w_mov 32 (lowN 32 a) (lowN 32 b):Nat):Int),0):=by unfold alu32F;(iterate 14 rw [if_neg (by decide)]);rw [if_pos rfl]
def i64r (x:Int):Prop:=-9223372036854775808 <= x/\x <= 9223372036854775807
theorem wrap64_r (x:Int):i64r (wrap64 x):=by unfold i64r wrap64;omega
theorem low_r {x:Nat} (h:x < 4294967296):i64r (x:Int):=by unfold i64r;omega
theorem zero_r:i64r 0:=by unfold i64r;omega
theorem alu_gives (op:Int) (nar:Bool) (a b:Int) (h:1 <= op/\op <= 15):Gives 83 #[.int .i64 op,.bool nar,.int .i64 a,.int .i64 b] (aluF op nar a b).1 (aluF op nar a b).2/\i64r (aluF op nar a b).1:=by
 have hl:=lowN_lt 32 a
 have hm:=lowN_lt 32 b
 have hcase:op = 1\/op = 2\/op = 3\/op = 4\/op = 5\/op = 6\/op = 7\/op = 8\/op = 9\/op = 10\/op = 11\/op = 12\/op = 13\/op = 14\/op = 15:=by omega
 clear h
 cases nar
 ·show Gives _ _ (alu64F op a b).1 (alu64F op a b).2/\i64r (alu64F op a b).1
  rcases hcase with rfl | rfl | rfl | rfl | rfl | rfl | rfl | rfl | rfl | rfl | rfl | rfl | rfl | rfl | rfl
  ·rw [aluf64_add];exact ⟨alu64_add a b,wrap64_r _⟩
  ·rw [aluf64_sub];exact ⟨alu64_sub a b,wrap64_r _⟩
  ·rw [aluf64_mul];exact ⟨alu64_mul a b,wrap64_r _⟩
  ·by_cases h0:un b = 0
   ·rw [aluf64_div0 a b h0];exact ⟨Gives.same (alu64_div0 a b h0),zero_r⟩
   ·rw [aluf64_div a b h0];exact ⟨alu64_div a b h0,wrap64_r _⟩
  ·by_cases h0:un b = 0
   ·rw [aluf64_mod0 a b h0];exact ⟨Gives.same (alu64_mod0 a b h0),zero_r⟩
   ·rw [aluf64_mod a b h0];exact ⟨alu64_mod a b h0,wrap64_r _⟩
  ·by_cases h0:un b = 0
   ·rw [aluf64_sdiv0 a b h0];exact ⟨Gives.same (alu64_sdiv0 a b h0),zero_r⟩
   ·rw [aluf64_sdiv a b h0];exact ⟨alu64_sdiv a b h0,wrap64_r _⟩
  ·by_cases h0:un b = 0
   ·rw [aluf64_smod0 a b h0];exact ⟨Gives.same (alu64_smod0 a b h0),zero_r⟩
   ·rw [aluf64_smod a b h0];exact ⟨alu64_smod a b h0,wrap64_r _⟩
  ·rw [aluf64_or];exact ⟨alu64_or a b,wrap64_r _⟩
  ·rw [aluf64_and];exact ⟨alu64_and a b,wrap64_r _⟩
  ·rw [aluf64_xor];exact ⟨alu64_xor a b,wrap64_r _⟩
  ·rw [aluf64_lsh];exact ⟨alu64_lsh a b,wrap64_r _⟩
  ·rw [aluf64_rsh];exact ⟨alu64_rsh a b,wrap64_r _⟩
  ·rw [aluf64_arsh];exact ⟨alu64_arsh a b,wrap64_r _⟩
  ·rw [aluf64_neg];exact ⟨alu64_neg a b,wrap64_r _⟩
  ·rw [aluf64_mov];exact ⟨alu64_mov a b,wrap64_r _⟩
 ·show Gives _ _ (alu32F op a b).1 (alu32F op a b).2/\i64r (alu32F op a b).1
  rcases hcase with rfl | rfl | rfl | rfl | rfl | rfl | rfl | rfl | rfl | rfl | rfl | rfl | rfl | rfl | rfl
  ·rw [aluf32_add];exact ⟨alu32_add a b,low_r (by rw [nar_add _ _ hl hm];exact Nat.mod_lt _ (by decide))⟩
  ·rw [aluf32_sub];exact ⟨alu32_sub a b,low_r (by rw [nar_sub _ _ hl hm];exact Nat.mod_lt _ (by decide))⟩
  ·rw [aluf32_mul];exact ⟨alu32_mul a b,low_r (by rw [nar_mul _ _ hl hm];exact Nat.mod_lt _ (by decide))⟩
  ·by_cases h0:lowN 32 b = 0
   ·rw [aluf32_div0 a b h0];exact ⟨Gives.same (alu32_div0 a b h0),zero_r⟩
   ·rw [aluf32_div a b h0];exact ⟨alu32_div a b h0,low_r (by rw [nar_div _ _ hl hm h0];exact Nat.mod_lt _ (by decide))⟩
  ·by_cases h0:lowN 32 b = 0
   ·rw [aluf32_mod0 a b h0];exact ⟨Gives.same (alu32_mod0 a b h0),zero_r⟩
   ·rw [aluf32_mod a b h0];exact ⟨alu32_mod a b h0,low_r (by rw [nar_mod _ _ hl hm h0];exact Nat.mod_lt _ (by decide))⟩
  ·by_cases h0:lowN 32 b = 0
   ·rw [aluf32_sdiv0 a b h0];exact ⟨Gives.same (alu32_sdiv0 a b h0),zero_r⟩
   ·rw [aluf32_sdiv a b h0];exact ⟨alu32_sdiv a b h0,low_r (by rw [nar_sdiv _ _ hl hm h0];exact Nat.mod_lt _ (by decide))⟩
  ·by_cases h0:lowN 32 b = 0
   ·rw [aluf32_smod0 a b h0];exact ⟨Gives.same (alu32_smod0 a b h0),zero_r⟩
   ·rw [aluf32_smod a b h0];exact ⟨alu32_smod a b h0,low_r (by rw [nar_smod _ _ hl hm h0];exact Nat.mod_lt _ (by decide))⟩
  ·rw [aluf32_or];exact ⟨alu32_or a b,low_r (by rw [nar_or _ _ hl hm];exact Nat.mod_lt _ (by decide))⟩
  ·rw [aluf32_and];exact ⟨alu32_and a b,low_r (by rw [nar_and _ _ hl hm];exact Nat.mod_lt _ (by decide))⟩
  ·rw [aluf32_xor];exact ⟨alu32_xor a b,low_r (by rw [nar_xor _ _ hl hm];exact Nat.mod_lt _ (by decide))⟩
  ·rw [aluf32_lsh];exact ⟨alu32_lsh a b,low_r (by rw [nar_lsh _ _ hl hm];exact Nat.mod_lt _ (by decide))⟩
  ·rw [aluf32_rsh];exact ⟨alu32_rsh a b,low_r (by rw [nar_rsh _ _ hl hm];exact Nat.mod_lt _ (by decide))⟩
  ·rw [aluf32_arsh];exact ⟨alu32_arsh a b,low_r (by rw [nar_arsh _ _ hl hm];exact Nat.mod_lt _ (by decide))⟩
  ·rw [aluf32_neg];exact ⟨alu32_neg a b,low_r (by rw [nar_neg _ _ hl hm];exact Nat.mod_lt _ (by decide))⟩
  ·rw [aluf32_mov];exact ⟨alu32_mov a b,low_r (by rw [nar_mov _ _ hl hm];exact Nat.mod_lt _ (by decide))⟩
def hold64F (op a b:Int):Bool:=
 if op = 27 then hold64_eq (lowN 64 a) (lowN 64 b)
 else if op = 28 then hold64_ne (lowN 64 a) (lowN 64 b)
 else if op = 29 then hold64_gt (lowN 64 a) (lowN 64 b)
 else if op = 30 then hold64_ge (lowN 64 a) (lowN 64 b)
 else if op = 31 then hold64_lt (lowN 64 a) (lowN 64 b)
 else if op = 32 then hold64_le (lowN 64 a) (lowN 64 b)
 else if op = 33 then hold64_sgt (lowN 64 a) (lowN 64 b)
 else if op = 34 then hold64_sge (lowN 64 a) (lowN 64 b)
 else if op = 35 then hold64_slt (lowN 64 a) (lowN 64 b)
 else if op = 36 then hold64_sle (lowN 64 a) (lowN 64 b)
 else if op = 37 then hold64_set (lowN 64 a) (lowN 64 b)
 else false
def hold32F (op a b:Int):Bool:=
 if op = 27 then hold32_eq (lowN 32 a) (lowN 32 b)
 else if op = 28 then hold32_ne (lowN 32 a) (lowN 32 b)
 else if op = 29 then hold32_gt (lowN 32 a) (lowN 32 b)
 else if op = 30 then hold32_ge (lowN 32 a) (lowN 32 b)
 else if op = 31 then hold32_lt (lowN 32 a) (lowN 32 b)
 else if op = 32 then hold32_le (lowN 32 a) (lowN 32 b)
 else if op = 33 then hold32_sgt (lowN 32 a) (lowN 32 b)
 else if op = 34 then hold32_sge (lowN 32 a) (lowN 32 b)
 else if op = 35 then hold32_slt (lowN 32 a) (lowN 32 b)
 else if op = 36 then hold32_sle (lowN 32 a) (lowN 32 b)
 else if op = 37 then hold32_set (lowN 32 a) (lowN 32 b)
 else false
def holdF (op:Int) (nar:Bool) (a b:Int):Bool:=if nar then hold32F op a b else hold64F op a b
theorem holds_says (op:Int) (nar:Bool) (a b:Int) (ra:i64r a) (rb:i64r b) (h:27 <= op/\op <= 37):Says 94 #[.int .i64 op,.bool nar,.int .i64 a,.int .i64 b] (holdF op nar a b):=by
 unfold i64r at ra rb
 have hcase:op = 27\/op = 28\/op = 29\/op = 30\/op = 31\/op = 32\/op = 33\/op = 34\/op = 35\/op = 36\/op = 37:=by omega
 clear h
 cases nar
 ·rcases hcase with rfl | rfl | rfl | rfl | rfl | rfl | rfl | rfl | rfl | rfl | rfl
  ·exact holds64_eq a b ra rb
  ·exact holds64_ne a b ra rb
  ·exact holds64_gt a b ra rb
  ·exact holds64_ge a b ra rb
  ·exact holds64_lt a b ra rb
  ·exact holds64_le a b ra rb
  ·exact holds64_sgt a b ra rb
  ·exact holds64_sge a b ra rb
  ·exact holds64_slt a b ra rb
  ·exact holds64_sle a b ra rb
  ·exact holds64_set a b ra rb
 ·rcases hcase with rfl | rfl | rfl | rfl | rfl | rfl | rfl | rfl | rfl | rfl | rfl
  ·exact holds32_eq a b ra rb
  ·exact holds32_ne a b ra rb
  ·exact holds32_gt a b ra rb
  ·exact holds32_ge a b ra rb
  ·exact holds32_lt a b ra rb
  ·exact holds32_le a b ra rb
  ·exact holds32_sgt a b ra rb
  ·exact holds32_sge a b ra rb
  ·exact holds32_slt a b ra rb
  ·exact holds32_sle a b ra rb
  ·exact holds32_set a b ra rb
def swapF (size:Int) (t:Bool) (a:Int):Int:=if size = 16 then wrap64 ((swp 2 t a:Nat):Int) else if size = 32 then wrap64 ((swp 4 t a:Nat):Int) else if size = 64 then wrap64 ((swp 8 t a:Nat):Int) else 0
theorem swap_told (size:Int) (t:Bool) (a:Int) (ra:i64r a) (w:World) :
 Calls Tryz.prog 86 #[.int .i64 size,.bool t,.int .i64 a] w fun e w'=>e = .returned (.int .i64 (swapF size t a))/\w = w':=by
 unfold i64r at ra
 by_cases h1:size = 16
 ·subst h1
  cases t
  ·rw [show swapF 16 false a = wrap64 ((swp 2 false a:Nat):Int) by unfold swapF;rw [if_pos rfl]];exact swap16_false a ra w
  ·rw [show swapF 16 true a = wrap64 ((swp 2 true a:Nat):Int) by unfold swapF;rw [if_pos rfl]];exact swap16_true a ra w
 ·by_cases h2:size = 32
  ·subst h2
   cases t
   ·rw [show swapF 32 false a = wrap64 ((swp 4 false a:Nat):Int) by unfold swapF;rw [if_neg (by decide)];rw [if_pos rfl]];exact swap32_false a ra w
   ·rw [show swapF 32 true a = wrap64 ((swp 4 true a:Nat):Int) by unfold swapF;rw [if_neg (by decide)];rw [if_pos rfl]];exact swap32_true a ra w
  ·by_cases h3:size = 64
   ·subst h3
    cases t
    ·rw [show swapF 64 false a = wrap64 ((swp 8 false a:Nat):Int) by unfold swapF;rw [if_neg (by decide)];rw [if_neg (by decide)];rw [if_pos rfl]];exact swap64_false a ra w
    ·rw [show swapF 64 true a = wrap64 ((swp 8 true a:Nat):Int) by unfold swapF;rw [if_neg (by decide)];rw [if_neg (by decide)];rw [if_pos rfl]];exact swap64_true a ra w
   ·rw [show swapF size t a = 0 by unfold swapF;rw [if_neg h1,if_neg h2,if_neg h3]]
    exact swap_other size t a ⟨h1,h2,h3⟩ w
theorem swap_r (size:Int) (t:Bool) (a:Int):i64r (swapF size t a):=by
 unfold swapF
 split
 ·exact wrap64_r _
 ·split
  ·exact wrap64_r _
  ·split
   ·exact wrap64_r _
   ·exact zero_r
def extF (size:Int) (nar:Bool) (a:Int):Int:=
 if size = 8 then (if nar then ext 8 a % 4294967296 else ext 8 a) else if size = 16 then (if nar then ext 16 a % 4294967296 else ext 16 a) else if size = 32 then (if nar then 0 else ext 32 a) else 0
theorem extend_told (size:Int) (nar:Bool) (a:Int) (w:World) :
 Calls Tryz.prog 85 #[.int .i64 size,.bool nar,.int .i64 a] w fun e w'=>e = .returned (.int .i64 (extF size nar a))/\w = w':=by
 by_cases h1:size = 8
 ·subst h1
  cases nar
  ·exact extend_wide8 a w
  ·exact extend_nar8 a w
 ·by_cases h2:size = 16
  ·subst h2
   cases nar
   ·exact extend_wide16 a w
   ·exact extend_nar16 a w
  ·by_cases h3:size = 32
   ·subst h3
    cases nar
    ·exact extend_wide32 a w
    ·exact extend_nar32 a w
   ·rw [show extF size nar a = 0 by unfold extF;rw [if_neg h1,if_neg h2,if_neg h3]]
    exact extend_none size nar a h1 h2 h3 w
theorem extend_r (size:Int) (nar:Bool) (a:Int):i64r (extF size nar a):=by
 have e8:=ext_range 8 a (by decide)
 have e16:=ext_range 16 a (by decide)
 have e32:=ext_range 32 a (by decide)
 unfold i64r extF
 repeat' split
 all_goals omega
end Go.Proofs.YtdepknffpnnmmaaGreat
