import Derived.Test.YtdepknffpnnmmaaGreatJ3a
import Derived.ChangeKeysEq
import Derived.Laws.StructEq
import Derived.Deep.MidRow
set_option maxRecDepth 100000
namespace Go.Proofs.YtdepknffpnnmmaaGreat
open Go.RowKit
set_option linter.unusedVariables false
set_option linter.unusedSimpArgs false
theorem run_part_agg {P : Program} {t : TypeId} {d : TypeDesc} {n : Nat} (hu : P.underlying t = some d) (hd : d.isRow = true) (hi : (P.info? t).map (·.size) = some n) (cs : Array Value) (off : Nat) (w : World) : (part t cs off).run P w = .ok (.agg (cs.extract off (off + n))) w := by
 cases hq : P.info? t with
 | none => simp [hq] at hi
 | some i =>
   have hs : i.size = n := by simpa [hq] using hi
   have hagg : (isAgg t).run P w = .ok true w := by
    unfold isAgg
    rw [Sem.run_bind, run_underlying hu w]
    cases d <;> simp_all
   simp [part, Sem.run_bind, hagg, sizeOf, typeInfo, hq, hs]
theorem eqf_cons {P : Program} {d : Nat} {xs ys : Array Value} {f : Field} {fs : List Field} {a b : Value} {w : World} (hn : f.name ≠ "_") (ha : (part f.type xs f.offset).run P w = .ok a w) (hb : (part f.type ys f.offset).run P w = .ok b w) (he : (Op.equalIn d f.type a b).run P w = .ok true w) (ht : (Op.eqFields d xs ys fs).run P w = .ok true w) : (Op.eqFields d xs ys (f :: fs)).run P w = .ok true w := by
 unfold Op.eqFields
 rw [if_pos hn]
 simp only [Sem.run_bind, ha, hb, he, Result.andThen_ok, Bool.not_true, Bool.false_eq_true, if_false]
 exact ht
theorem eqi_all {P : Program} {d : Nat} {e : TypeId} {c : Nat} {xs : Array Value} {w : World} : ∀ is : List Nat, (∀ i ∈ is, ∃ a, (part e xs (i * c)).run P w = .ok a w /\ (Op.equalIn d e a a).run P w = .ok true w) -> (Op.eqItems d e c xs xs is).run P w = .ok true w
 | [], _ => by simp [Op.eqItems]
 | i :: is, h => by
   obtain ⟨a, ha, he⟩ := h i (List.mem_cons_self ..)
   unfold Op.eqItems
   simp only [Sem.run_bind, ha, he, Result.andThen_ok, Bool.not_true, Bool.false_eq_true, if_false]
   exact eqi_all is fun j hj => h j (List.mem_cons_of_mem _ hj)
theorem int_refl (d : Nat) (t : TypeId) (k : IntKind) (a : Int) (h : Tryz.prog.underlying t = some (.int k)) (w : World) : (Op.equalIn (d + 1) t (.int k a) (.int k a)).run Tryz.prog w = .ok true w := by
 rw [run_equalIn_int w d t k k a a h]
 simp
theorem val_refl (a b c d : Int) (n : Nat) (w : World) : (Op.equalIn (n + 2) 55 (.agg #[.int .i64 a, .int .i64 b, .int .i64 c, .int .i64 d]) (.agg #[.int .i64 a, .int .i64 b, .int .i64 c, .int .i64 d])).run Tryz.prog w = .ok true w := by
 rw [run_equalIn_struct w (n + 1) 55 _ _ (by kernel_rfl) (by kernel_rfl)]
 obtain ⟨f0, f1, f2, f3, hf, h0, h1, h2, h3⟩ : ∃ f0 f1 f2 f3 : Field, (Tryz.prog.fieldsOf 55).toList = [f0, f1, f2, f3] /\ (f0.name ≠ "_" /\ f0.type = 3 /\ f0.offset = 0) /\ (f1.name ≠ "_" /\ f1.type = 3 /\ f1.offset = 1) /\ (f2.name ≠ "_" /\ f2.type = 3 /\ f2.offset = 2) /\ (f3.name ≠ "_" /\ f3.type = 3 /\ f3.offset = 3) := ⟨_, _, _, _, rfl, by decide, by decide, by decide, by decide⟩
 rw [hf]
 refine eqf_cons h0.1 (a := .int .i64 a) (b := .int .i64 a) (by rw [h0.2.1, h0.2.2]; rfl) (by rw [h0.2.1, h0.2.2]; rfl) (by rw [h0.2.1]; exact int_refl n 3 .i64 a (by kernel_rfl) w) ?_
 refine eqf_cons h1.1 (a := .int .i64 b) (b := .int .i64 b) (by rw [h1.2.1, h1.2.2]; rfl) (by rw [h1.2.1, h1.2.2]; rfl) (by rw [h1.2.1]; exact int_refl n 3 .i64 b (by kernel_rfl) w) ?_
 refine eqf_cons h2.1 (a := .int .i64 c) (b := .int .i64 c) (by rw [h2.2.1, h2.2.2]; rfl) (by rw [h2.2.1, h2.2.2]; rfl) (by rw [h2.2.1]; exact int_refl n 3 .i64 c (by kernel_rfl) w) ?_
 refine eqf_cons h3.1 (a := .int .i64 d) (b := .int .i64 d) (by rw [h3.2.1, h3.2.2]; rfl) (by rw [h3.2.1, h3.2.2]; rfl) (by rw [h3.2.1]; exact int_refl n 3 .i64 d (by kernel_rfl) w) ?_
 rfl
theorem take_row {cs sub : List Value} {a n : Nat} (hn : sub.length = n) (h : ∀ j, j < n -> cs[a + j]? = sub[j]?) : cs.toArray.extract a (a + n) = sub.toArray := by
 rw [List.extract_toArray]
 congr 1
 rw [show cs.extract a (a + n) = (cs.drop a).take n from by simp [List.extract_eq_take_drop]]
 apply List.ext_getElem?
 intro j
 by_cases hj : j < n
 ·rw [List.getElem?_take_of_lt hj, List.getElem?_drop, h j hj]
 ·rw [List.getElem?_take, if_neg hj, List.getElem?_eq_none (by omega)]
theorem regs_refl (rg : List Val) (h : rg.length = 11) (w : World) : (binOp .eql 56 (.agg (regc rg).toArray) (.agg (regc rg).toArray)).run Tryz.prog w = .ok (.bool true) w := by
 rw [run_eql_struct]
 obtain ⟨i, hi⟩ : ∃ i, Tryz.prog.info? 55 = some i := ⟨_, rfl⟩
 have hc : Tryz.prog.cellsOf 55 = 4 := by kernel_rfl
 have hq := run_equalIn_array (P := Tryz.prog) w 9999 (t := 56) (e := 55) (n := 11) (regc rg).toArray (regc rg).toArray Tryz.underlying56 hi
 rw [hc, eqi_all _ (fun k hk => ?_)] at hq
 ·rw [show (10000 : Nat) = 9999 + 1 from rfl, hq]
  rfl
 ·have hk11 : k < 11 := List.mem_range.1 hk
  refine ⟨.agg (rg[k]'(by omega)).cs.toArray, ?_, ?_⟩
  ·rw [run_part_agg (n := 4) Tryz.underlying55 rfl (by kernel_rfl), take_row (n := 4) (sub := (rg[k]'(by omega)).cs) rfl fun j hj => regc_get rg k (by omega) j hj]
  ·obtain ⟨a, b, c, d⟩ := rg[k]'(by omega)
   exact val_refl a b c d 9997 w
theorem slot_refl (x : Slot) (hx : x.b.length = 8) (n : Nat) (w : World) : (Op.equalIn (n + 3) 59 (.agg x.cs.toArray) (.agg x.cs.toArray)).run Tryz.prog w = .ok true w := by
 obtain ⟨⟨k, t, o, y⟩, b, m⟩ := x
 simp only at hx
 match b, hx with
 | [b0, b1, b2, b3, b4, b5, b6, b7], _ =>
   rw [run_equalIn_struct w (n + 2) 59 _ _ (by kernel_rfl) (by kernel_rfl)]
   obtain ⟨f0, f1, f2, hf, h0, h1, h2⟩ : ∃ f0 f1 f2 : Field, (Tryz.prog.fieldsOf 59).toList = [f0, f1, f2] /\ (f0.name ≠ "_" /\ f0.type = 55 /\ f0.offset = 0) /\ (f1.name ≠ "_" /\ f1.type = 57 /\ f1.offset = 4) /\ (f2.name ≠ "_" /\ f2.type = 3 /\ f2.offset = 12) := ⟨_, _, _, rfl, by decide, by decide, by decide⟩
   rw [hf]
   refine eqf_cons h0.1 (a := .agg #[.int .i64 k, .int .i64 t, .int .i64 o, .int .i64 y]) (b := .agg #[.int .i64 k, .int .i64 t, .int .i64 o, .int .i64 y]) (by rw [h0.2.1, h0.2.2]; rfl) (by rw [h0.2.1, h0.2.2]; rfl) (by rw [h0.2.1]; exact val_refl k t o y n w) ?_
   refine eqf_cons h1.1 (a := .agg #[.int .u8 b0, .int .u8 b1, .int .u8 b2, .int .u8 b3, .int .u8 b4, .int .u8 b5, .int .u8 b6, .int .u8 b7]) (b := .agg #[.int .u8 b0, .int .u8 b1, .int .u8 b2, .int .u8 b3, .int .u8 b4, .int .u8 b5, .int .u8 b6, .int .u8 b7]) (by rw [h1.2.1, h1.2.2]; rfl) (by rw [h1.2.1, h1.2.2]; rfl) ?_ ?_
   ·rw [h1.2.1]
    obtain ⟨i, hi⟩ : ∃ i, Tryz.prog.info? 5 = some i := ⟨_, rfl⟩
    have hc : Tryz.prog.cellsOf 5 = 1 := by kernel_rfl
    have hq := run_equalIn_array (P := Tryz.prog) w (n + 1) (t := 57) (e := 5) (n := 8) #[.int .u8 b0, .int .u8 b1, .int .u8 b2, .int .u8 b3, .int .u8 b4, .int .u8 b5, .int .u8 b6, .int .u8 b7] #[.int .u8 b0, .int .u8 b1, .int .u8 b2, .int .u8 b3, .int .u8 b4, .int .u8 b5, .int .u8 b6, .int .u8 b7] Tryz.underlying57 hi
    rw [hc, eqi_all _ (fun k hk => ?_)] at hq
    ·exact hq
    ·have hk8 : k < 8 := List.mem_range.1 hk
     have hc : k = 0 \/ k = 1 \/ k = 2 \/ k = 3 \/ k = 4 \/ k = 5 \/ k = 6 \/ k = 7 := by omega
     rcases hc with rfl | rfl | rfl | rfl | rfl | rfl | rfl | rfl
     all_goals exact ⟨_, rfl, int_refl n 5 .u8 _ (by kernel_rfl) w⟩
   refine eqf_cons h2.1 (a := .int .i64 m) (b := .int .i64 m) (by rw [h2.2.1, h2.2.2]; rfl) (by rw [h2.2.1, h2.2.2]; rfl) (by rw [h2.2.1]; exact int_refl (n + 1) 3 .i64 m (by kernel_rfl) w) ?_
   rfl
theorem stack_refl (sl : List Slot) (h : SlotsOK sl) (w : World) : (binOp .eql 60 (.agg (stc sl).toArray) (.agg (stc sl).toArray)).run Tryz.prog w = .ok (.bool true) w := by
 rw [run_eql_struct]
 obtain ⟨h32, hb⟩ := h
 obtain ⟨i, hi⟩ : ∃ i, Tryz.prog.info? 59 = some i := ⟨_, rfl⟩
 have hc : Tryz.prog.cellsOf 59 = 13 := by kernel_rfl
 have hq := run_equalIn_array (P := Tryz.prog) w 9999 (t := 60) (e := 59) (n := 32) (stc sl).toArray (stc sl).toArray Tryz.underlying60 hi
 rw [hc, eqi_all _ (fun k hk => ?_)] at hq
 ·rw [show (10000 : Nat) = 9999 + 1 from rfl, hq]
  rfl
 ·have hk32 : k < 32 := List.mem_range.1 hk
  have hbk := hb _ (List.getElem_mem (show k < sl.length by omega))
  refine ⟨.agg (sl[k]'(by omega)).cs.toArray, ?_, slot_refl _ hbk 9996 w⟩
  rw [run_part_agg (n := 13) Tryz.underlying59 rfl (by kernel_rfl), take_row (n := 13) (sub := (sl[k]'(by omega)).cs) (Slot.len hbk) fun j hj => stc_get sl hb k (by omega) j hj]
end Go.Proofs.YtdepknffpnnmmaaGreat
