/-
  The machine: a state's fields; New of a program without data and tables, over any bound.
-/
import Derived.Test.YtbkcpepalicbjaaGreatMachBI2
namespace Go.Proofs.YtbkcpepalicbjaaGreat
open Go.RowKit
set_option linter.unusedVariables false
set_option linter.unusedSimpArgs false

theorem statec_tab {s : Mst} (h1 : (regc s.rg).length = 44) (h2 : s.st.length = 416) (xv tv sv : Value) :
    statec s xv tv sv = tab44 (fun i => (regc s.rg).getD i undef) ++ (tab416 (fun i => s.st.getD i undef) ++ [xv, tv, sv, .int .i64 s.at', .int .i64 s.steps, .bool s.done]) := by
  unfold tab44 tab416
  rw [← tab_of 44 _ h1, ← tab_of 416 _ h2]
  rfl
set_option maxRecDepth 1000000 in
theorem field_tab6 (f g : Nat → Value) (xv tv sv : Value) (at' steps : Int) (done : Bool) (w : World) :
    (Instr.field 83 (.agg (tab44 f ++ (tab416 g ++ [xv, tv, sv, Value.int .i64 at', Value.int .i64 steps, Value.bool done])).toArray) 6).run Tryz.prog w = .ok (.int .i64 steps) w := by kernel_rfl
theorem field_steps {s : Mst} (h1 : (regc s.rg).length = 44) (h2 : s.st.length = 416) (xv tv sv : Value) (w : World) : (Instr.field 83 (.agg (statec s xv tv sv).toArray) 6).run Tryz.prog w = .ok (.int .i64 s.steps) w := by
  rw [statec_tab h1 h2]
  exact field_tab6 _ _ xv tv sv _ _ _ w
theorem statec_tail {s : Mst} (h1 : (regc s.rg).length = 44) (h2 : s.st.length = 416) (xv tv sv : Value) :
    (statec s xv tv sv)[463]? = some (.int .i64 s.at') ∧ (statec s xv tv sv)[464]? = some (.int .i64 s.steps) ∧ (statec s xv tv sv)[465]? = some (.bool s.done) := by
  unfold statec
  refine ⟨?_, ?_, ?_⟩ <;> (rw [List.getElem?_append_right (by omega), h1, List.getElem?_append_right (by omega), h2]; rfl)
set_option maxRecDepth 100000 in
theorem new_runH (hi : Int) (code : List Ins) (ctx : List Int) (ca xa : Option Addr) (cc xc : Nat) (hmd : (Prg.mk 0 hi [] [] code).made) (hcl : (ctx.length : Int) ≤ hi) (w : World) (hc : Coded w (.slice ca code.length cc) code) (hx : Held w (.slice xa ctx.length xc) ctx) :
    Calls Tryz.prog 39 #[.agg #[.int .i64 0, .int .i64 hi, .slice none 0 0, .slice none 0 0, .slice ca code.length cc], .agg #[.slice xa ctx.length xc, .slice none 0 0]] w fun e w' =>
      ∃ bx v, e = .returned (.tuple #[.pointer (some ⟨bx, 0, none⟩), .int .i64 0]) ∧ MS w.heap.size w ⟨[], [], code⟩ (st0 ctx) bx v w' := by
  have hft : fitsP 0 hi [] ctx.length [] := ⟨⟨by omega, by omega, rfl⟩, fun i h => absurd h (by simp)⟩
  have h1 : Held w (.slice none ([] : List Int).length 0) [] := ⟨fun x hx => (by cases hx), Or.inl ⟨rfl, Or.inl rfl⟩⟩
  have h2 : Tabs w (.slice none ([] : List (Int × Int)).length 0) [] := ⟨rfl, fun u hu => (by cases hu), Or.inl ⟨rfl, _, _, rfl, by decide⟩⟩
  have h3 : Rowed w (.slice none ([] : List (List Int)).length 0) [] [] := ⟨⟨rfl, fun u hu => (by cases hu), Or.inl ⟨rfl, _, _, rfl, by decide⟩⟩, fun i h => absurd h (by simp)⟩
  refine (new_ok 0 hi [] [] code none none ca xa none 0 0 cc xc 0 ctx [] [] hmd hft w h1 h2 hc hx h3 (fun _ => 0)).mono ?_
  rintro e w' ⟨bx, mb, cv', uv', xv', tv', dv', zv', vals', ρ', rfl, hM, hX, hT, hD, hZ⟩
  refine ⟨bx, ⟨ρ', mb, xv', tv', dv', zv', cv', uv', nils, vals'⟩, rfl, ⟨hM.nb.bel, by have hb := hM.box; rw [← stc_zero] at hb; exact hb, by have := hM.le; omega, hM.rb, hM.codeS, hM.unitsS, ⟨hM.begin'.at', by show w.heap.size ≤ mb; have := hM.begin'.le; omega, hM.begin'.role⟩, hX, hT, hD, hZ, ⟨World.ownsRow_nil _ _ _ _, fun b hb => by cases hb⟩, slots_zero, rfl⟩⟩
set_option maxRecDepth 100000 in
theorem built_prg4 (a : Option Addr) (n c : Nat) : Tryz.prog.built 60 [(4, .slice a n c)] = some #[.int .i64 0, .int .i64 0, .slice none 0 0, .slice none 0 0, .slice a n c] := by kernel_rfl
set_option maxRecDepth 100000 in
theorem built_prg14 (h : Int) (a : Option Addr) (n c : Nat) : Tryz.prog.built 60 [(1, .int .i64 h), (4, .slice a n c)] = some #[.int .i64 0, .int .i64 h, .slice none 0 0, .slice none 0 0, .slice a n c] := by kernel_rfl
set_option maxRecDepth 100000 in
theorem built_inp0 : Tryz.prog.built 62 [] = some #[.slice none 0 0, .slice none 0 0] := by kernel_rfl
theorem run_prg4 (a : Option Addr) (n c : Nat) (w : World) : (Instr.build 60 #[(4, .slice a n c)]).run Tryz.prog w = .ok (.agg #[.int .i64 0, .int .i64 0, .slice none 0 0, .slice none 0 0, .slice a n c]) w := run_build w _ _ _ (built_prg4 a n c)
theorem run_prg14 (h : Int) (a : Option Addr) (n c : Nat) (w : World) : (Instr.build 60 #[(1, .int .i64 h), (4, .slice a n c)]).run Tryz.prog w = .ok (.agg #[.int .i64 0, .int .i64 h, .slice none 0 0, .slice none 0 0, .slice a n c]) w := run_build w _ _ _ (built_prg14 h a n c)
theorem run_inp0 (w : World) : (Instr.build 62 #[]).run Tryz.prog w = .ok (.agg #[.slice none 0 0, .slice none 0 0]) w := run_build w _ _ _ built_inp0
end Go.Proofs.YtbkcpepalicbjaaGreat
