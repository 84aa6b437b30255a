/-
  The machine: doer; the map of the begins.
-/
import Derived.Test.YtbkcpepalicbjaaGreatMachN
namespace Go.Proofs.YtbkcpepalicbjaaGreat
open Go.RowKit
set_option linter.unusedVariables false
set_option linter.unusedSimpArgs false

/-- Who does an operation. -/
def doerF (op : Int) : FuncId :=
  if op ≤ 15 then 134 else if op ≤ 19 then 135 else if op ≤ 21 then 136 else if op ≤ 23 then 137 else if op = 24 then 138
  else if op = 25 then 139 else if op = 26 then 140 else if op ≤ 37 then 141 else if op = 38 then 142 else 143
def DoerSays (bx : Nat) (w : World) (F : FuncId) : Ending → World → Prop := fun e w' => e = .returned (.func (Fn.func F) #[.pointer (some ⟨bx, 0, none⟩)] #[]) ∧ w' = w
set_option maxRecDepth 100000 in
set_option maxHeartbeats 1600000 in
theorem doer_of (op : Int) (bx : Nat) (w : World) : Calls Tryz.prog 95 #[.pointer (some ⟨bx, 0, none⟩), .int .i64 op] w (DoerSays bx w (doerF op)) := by
  unfold doerF
  split
  · rename_i h1
    have h1 := decide_eq_true h1
    go_enter Tryz.func95, Tryz.ntmps95
    go_wp2
    exact bodyPost_ret (v := .func (Fn.func 134) #[.pointer (some ⟨bx, 0, none⟩)] #[]) (by simp [results, Tryz.results95, go_sem]) rfl ⟨rfl, rfl⟩
  rename_i h1
  have h1 := decide_eq_false h1
  split
  · rename_i h2
    have h2 := decide_eq_true h2
    go_enter Tryz.func95, Tryz.ntmps95
    go_wp2
    exact bodyPost_ret (v := .func (Fn.func 135) #[.pointer (some ⟨bx, 0, none⟩)] #[]) (by simp [results, Tryz.results95, go_sem]) rfl ⟨rfl, rfl⟩
  rename_i h2
  have h2 := decide_eq_false h2
  split
  · rename_i h3
    have h3 := decide_eq_true h3
    go_enter Tryz.func95, Tryz.ntmps95
    go_wp2
    exact bodyPost_ret (v := .func (Fn.func 136) #[.pointer (some ⟨bx, 0, none⟩)] #[]) (by simp [results, Tryz.results95, go_sem]) rfl ⟨rfl, rfl⟩
  rename_i h3
  have h3 := decide_eq_false h3
  split
  · rename_i h4
    have h4 := decide_eq_true h4
    go_enter Tryz.func95, Tryz.ntmps95
    go_wp2
    exact bodyPost_ret (v := .func (Fn.func 137) #[.pointer (some ⟨bx, 0, none⟩)] #[]) (by simp [results, Tryz.results95, go_sem]) rfl ⟨rfl, rfl⟩
  rename_i h4
  have h4 := decide_eq_false h4
  split
  · rename_i h5
    subst h5
    go_enter Tryz.func95, Tryz.ntmps95
    go_wp2
    exact bodyPost_ret (v := .func (Fn.func 138) #[.pointer (some ⟨bx, 0, none⟩)] #[]) (by simp [results, Tryz.results95, go_sem]) rfl ⟨rfl, rfl⟩
  rename_i h5
  have h5 : (op == 24) = false := by simpa using h5
  split
  · rename_i h6
    subst h6
    go_enter Tryz.func95, Tryz.ntmps95
    go_wp2
    exact bodyPost_ret (v := .func (Fn.func 139) #[.pointer (some ⟨bx, 0, none⟩)] #[]) (by simp [results, Tryz.results95, go_sem]) rfl ⟨rfl, rfl⟩
  rename_i h6
  have h6 : (op == 25) = false := by simpa using h6
  split
  · rename_i h7
    subst h7
    go_enter Tryz.func95, Tryz.ntmps95
    go_wp2
    exact bodyPost_ret (v := .func (Fn.func 140) #[.pointer (some ⟨bx, 0, none⟩)] #[]) (by simp [results, Tryz.results95, go_sem]) rfl ⟨rfl, rfl⟩
  rename_i h7
  have h7 : (op == 26) = false := by simpa using h7
  split
  · rename_i h8
    have h8 := decide_eq_true h8
    go_enter Tryz.func95, Tryz.ntmps95
    go_wp2
    exact bodyPost_ret (v := .func (Fn.func 141) #[.pointer (some ⟨bx, 0, none⟩)] #[]) (by simp [results, Tryz.results95, go_sem]) rfl ⟨rfl, rfl⟩
  rename_i h8
  have h8 := decide_eq_false h8
  split
  · rename_i h9
    subst h9
    go_enter Tryz.func95, Tryz.ntmps95
    go_wp2
    exact bodyPost_ret (v := .func (Fn.func 142) #[.pointer (some ⟨bx, 0, none⟩)] #[]) (by simp [results, Tryz.results95, go_sem]) rfl ⟨rfl, rfl⟩
  · rename_i h9
    have h9 : (op == 38) = false := by simpa using h9
    go_enter Tryz.func95, Tryz.ntmps95
    go_wp2
    exact bodyPost_ret (v := .func (Fn.func 143) #[.pointer (some ⟨bx, 0, none⟩)] #[]) (by simp [results, Tryz.results95, go_sem]) rfl ⟨rfl, rfl⟩

theorem find_at (u : Int) : ∀ (l : List MapEntry) (i j : Nat) (e : MapEntry), l[j]? = some e → e.key = .int .i64 u → (∀ k < j, ∀ e', l[k]? = some e' → ∃ x : Int, e'.key = .int .i64 x ∧ x ≠ u) → Instr.findNow (.int .i64) (.int .i64 u) l i = some (some (i + j, e.val))
  | [], _, _, _, h, _, _ => by simp at h
  | e0 :: l, i, 0, e, h, hk, _ => by
    simp at h
    subst h
    have hq : Instr.sameNow (.int .i64) (.int .i64 u) e0.key = some true := by
      rw [hk]
      show (if IntKind.i64 = IntKind.i64 then some (u == u) else none) = _
      simp
    show (match Instr.sameNow (.int .i64) (.int .i64 u) e0.key with
      | some true => some (some (i, e0.val))
      | some false => Instr.findNow (.int .i64) (.int .i64 u) l (i + 1)
      | none => none) = _
    rw [hq]; rfl
  | e0 :: l, i, j + 1, e, h, hk, hn => by
    obtain ⟨x, hx, hne⟩ := hn 0 (by omega) e0 rfl
    have hq : Instr.sameNow (.int .i64) (.int .i64 u) e0.key = some false := by
      rw [hx]
      show (if IntKind.i64 = IntKind.i64 then some (u == x) else none) = _
      rw [if_pos rfl]
      have : (u == x) = false := by simp; exact fun hc => hne hc.symm
      rw [this]
    show (match Instr.sameNow (.int .i64) (.int .i64 u) e0.key with
      | some true => some (some (i, e0.val))
      | some false => Instr.findNow (.int .i64) (.int .i64 u) l (i + 1)
      | none => none) = _
    rw [hq]
    have := find_at u l (i + 1) j e (by simpa using h) hk (fun k hk' e' he' => hn (k + 1) (by omega) e' (by simpa using he'))
    rw [this, show i + 1 + j = i + (j + 1) by omega]
theorem bents_get (code : List Ins) (n k : Nat) (h : k < n) : (bents code n).toList[k]? = some { key := .int .i64 (unitAt code k : Nat), val := .int .i64 (k : Nat), born := k } := by
  simp [bents, h]
theorem find_begin (code : List Ins) (n k : Nat) (h : k < n) : Instr.findNow (.int .i64) (.int .i64 (unitAt code k : Nat)) (bents code n).toList 0 = some (some (k, .int .i64 (k : Nat))) := by
  have := find_at (unitAt code k : Nat) (bents code n).toList 0 k _ (bents_get code n k h) rfl (fun j hj e' he' => by
    rw [bents_get code n j (by omega)] at he'
    cases he'
    exact ⟨_, rfl, by have := unitAt_lt code j k hj; omega⟩)
  rw [Nat.zero_add] at this
  exact this
theorem find_nowhere (code : List Ins) (n : Nat) (u : Int) (h : ∀ k < n, (unitAt code k : Int) ≠ u) : Instr.findNow (.int .i64) (.int .i64 u) (bents code n).toList 0 = some none := by
  apply find_none
  intro e he
  simp only [bents, List.mem_map, List.mem_range] at he
  obtain ⟨k, hk, rfl⟩ := he
  exact ⟨_, rfl, h k hk⟩
end Go.Proofs.YtbkcpepalicbjaaGreat
