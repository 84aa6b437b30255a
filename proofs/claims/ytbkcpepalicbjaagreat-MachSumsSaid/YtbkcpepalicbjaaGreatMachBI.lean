/-
  The machine: State.
-/
import Derived.Test.YtbkcpepalicbjaaGreatMachX
import Derived.Deep.MidRow
import Derived.Deep.WholeRow
namespace Go.Proofs.YtbkcpepalicbjaaGreat
open Go.RowKit
set_option linter.unusedVariables false
set_option linter.unusedSimpArgs false

theorem rowed_tab {w : World} {base : Nat} {ρ : Nat → Nat} {tv : Value} {vals : List Value} {rows : List (List Int)} (h : TabS w base ρ tv vals rows) (hb : ∀ k (h : k < rows.length), IsBytes rows[k]) : Rowed w tv vals rows := by
  have hl : vals.length = rows.length := by have := h.list.1.1; omega
  refine ⟨reads_own h.list.1 (fun u hu => ?_) (by decide), fun i hi => ?_⟩
  · obtain ⟨k, hk, rfl⟩ := List.getElem_of_mem hu
    obtain ⟨u, hu2, ho⟩ := h.item k (by omega)
    rw [List.getElem?_eq_getElem hk] at hu2
    obtain rfl := Option.some.inj hu2
    obtain ⟨a, c, hv⟩ := own_slice ho.1
    rw [hv]
    rfl
  · obtain ⟨u, hu2, ho⟩ := h.item i hi
    exact ⟨u, hu2, held_of_own ho.1 (hb i hi) rfl⟩
/-- A state as cells. -/
def statec (s : Mst) (xv tv sv : Value) : List Value := regc s.rg ++ (s.st ++ [xv, tv, sv, .int .i64 s.at', .int .i64 s.steps, .bool s.done])
def tab44 (f : Nat → Value) : List Value := (List.range 44).map f
def tab416 (f : Nat → Value) : List Value := (List.range 416).map f
set_option maxRecDepth 1000000 in
theorem built_state (f g : Nat → Value) (a b c : Option Addr) (n1 c1 n2 c2 n3 c3 : Nat) (at' steps : Int) (done : Bool) :
    Tryz.prog.built 83 [(0, .agg (tab44 f).toArray), (1, .agg (tab416 g).toArray), (2, .slice a n1 c1), (3, .slice b n2 c2), (4, .slice c n3 c3), (5, .int .i64 at'), (6, .int .i64 steps), (7, .bool done)] =
      some (tab44 f ++ (tab416 g ++ [Value.slice a n1 c1, Value.slice b n2 c2, Value.slice c n3 c3, Value.int .i64 at', Value.int .i64 steps, Value.bool done])).toArray := by
  kernel_rfl
theorem tab_of (n : Nat) (l : List Value) (h : l.length = n) : l = (List.range n).map fun i => l.getD i undef := by
  apply List.ext_getElem
  · simp [h]
  · intro i h1 h2
    simp [List.getD, h1]
theorem run_state (s : Mst) (h1 : (regc s.rg).length = 44) (h2 : s.st.length = 416) (a b c : Option Addr) (n1 c1 n2 c2 n3 c3 : Nat) (w : World) :
    (Instr.build 83 #[(0, .agg (regc s.rg).toArray), (1, .agg s.st.toArray), (2, .slice a n1 c1), (3, .slice b n2 c2), (4, .slice c n3 c3), (5, .int .i64 s.at'), (6, .int .i64 s.steps), (7, .bool s.done)]).run Tryz.prog w =
      .ok (.agg (statec s (.slice a n1 c1) (.slice b n2 c2) (.slice c n3 c3)).toArray) w := by
  refine run_build w _ _ _ ?_
  have e1 := tab_of 44 _ h1
  have e2 := tab_of 416 _ h2
  have := built_state (fun i => (regc s.rg).getD i undef) (fun i => s.st.getD i undef) a b c n1 c1 n2 c2 n3 c3 s.at' s.steps s.done
  unfold tab44 tab416 at this
  rw [← e1, ← e2] at this
  exact this
end Go.Proofs.YtbkcpepalicbjaaGreat
