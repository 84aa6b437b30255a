/-
  The doers' small functions; constant; leap; leave.
-/
import Derived.Test.YtbkcpepalicbjaaGreatMachP
namespace Go.Proofs.YtbkcpepalicbjaaGreat
open Go.RowKit
set_option linter.unusedVariables false
set_option linter.unusedSimpArgs false

set_option maxRecDepth 100000 in
set_option maxHeartbeats 1600000 in
theorem numeric_of (k t o x : Int) (w : World) : Calls Tryz.prog 160 #[.agg #[.int .i64 k, .int .i64 t, .int .i64 o, .int .i64 x]] w (Ret w (.bool (k == 1))) := by
  go_enter Tryz.func160, Tryz.ntmps160
  go_wp2
  exact bodyPost_ret (v := .bool (k == 1)) (by simp [results, Tryz.results160, go_sem]) rfl ⟨rfl, (Below.refl _ _).alloc (Nat.le_refl _) _⟩

set_option maxRecDepth 100000 in
set_option maxHeartbeats 1600000 in
theorem second_reg (op : Int) (nar : Bool) (size dst off imm : Int) (d : Nat) (hd : d < 11) (bx : Nat) (cs : List Value) (u : Val) (hu : RegC cs d u) (w : World) (h : Row w bx 146 cs) :
    Calls Tryz.prog 159 #[.pointer (some ⟨bx, 0, none⟩), .agg #[.int .i64 op, .bool nar, .bool true, .int .i64 size, .int .i64 dst, .int .i64 d, .int .i64 off, .int .i64 imm]] w (Ret w (.agg #[.int .i64 u.k, .int .i64 u.t, .int .i64 u.o, .int .i64 u.x])) := by
  obtain ⟨c0, c1, c2, c3⟩ := hu.row h
  have hlt := h.lt
  obtain ⟨k, t, o, x⟩ := u
  simp only at c0 c1 c2 c3 ⊢
  have hj1 : (0 : Int) ≤ (d : Int) := by omega
  have hj2 : (d : Int) < 11 := by omega
  clear h hu
  go_enter Tryz.func159, Tryz.ntmps159
  go_wp2_with fail
  go_region
  go_wp2
  exact bodyPost_ret (v := .agg #[.int .i64 k, .int .i64 t, .int .i64 o, .int .i64 x]) (by simp [results, Tryz.results159, go_sem]) rfl ⟨rfl, (((Below.refl _ _).alloc (Nat.le_refl _) _).alloc (by simp) _).drew⟩

set_option maxRecDepth 100000 in
set_option maxHeartbeats 1600000 in
theorem second_imm (op : Int) (nar : Bool) (size dst src off imm : Int) (bx : Nat) (w : World) :
    Calls Tryz.prog 159 #[.pointer (some ⟨bx, 0, none⟩), .agg #[.int .i64 op, .bool nar, .bool false, .int .i64 size, .int .i64 dst, .int .i64 src, .int .i64 off, .int .i64 imm]] w (Ret w (.agg #[.int .i64 1, .int .i64 0, .int .i64 0, .int .i64 imm])) := by
  go_enter Tryz.func159, Tryz.ntmps159
  go_wp2_with (go_at_call 86; refine (num_of _ _).mono ?_; rintro e w' ⟨rfl, hb⟩; have hr := (box2 w (.cells #[.int .i64 op, .bool nar, .bool false, .int .i64 size, .int .i64 dst, .int .i64 src, .int .i64 off, .int .i64 imm] 23) [.int .i64 0, .int .i64 0, .int .i64 0, .int .i64 0] 76).below hb (by simp); obtain ⟨⟨_, _, _, _⟩, _, _, _, _⟩ := hr.four)
  have hr2 := hr.put4 (.int .i64 1) (.int .i64 0) (.int .i64 0) (.int .i64 imm)
  have hB := bel_put4 (b := w.heap.size + 1) ((((Below.refl w.heap.size w).alloc (Nat.le_refl _) (.cells #[.int .i64 op, .bool nar, .bool false, .int .i64 size, .int .i64 dst, .int .i64 src, .int .i64 off, .int .i64 imm] 23)).alloc (by simp) (.cells #[.int .i64 0, .int .i64 0, .int .i64 0, .int .i64 0] 76)).trans (hb.mono (by simp; omega))) (by omega) 0 (.int .i64 1) (.int .i64 0) (.int .i64 0) (.int .i64 imm)
  simp only [Nat.zero_add] at hB
  obtain ⟨⟨d0, d1, d2, d3⟩, _⟩ := hr2.four
  generalize World.setCell _ _ _ = w2 at hB d0 d1 d2 d3 ⊢
  exact bodyPost_ret (v := .agg #[.int .i64 1, .int .i64 0, .int .i64 0, .int .i64 imm]) (by simp [results, Tryz.results159, go_sem, d0, d1, d2, d3]) rfl ⟨rfl, hB⟩

set_option maxRecDepth 100000 in
set_option maxHeartbeats 1600000 in
theorem leap_of (op : Int) (nar reg : Bool) (size dst src off imm : Int) (bx : Nat) (cs : List Value) (w : World) (h : Row w bx 146 cs) :
    Calls Tryz.prog 140 #[.pointer (some ⟨bx, 0, none⟩), .agg #[.int .i64 op, .bool nar, .bool reg, .int .i64 size, .int .i64 dst, .int .i64 src, .int .i64 off, .int .i64 imm]] w (Wrote w bx cs (if nar then imm else off) 0) := by
  have HF := Lib.hid (FM.begin h op nar reg size dst src off imm)
  have HW := Lib.hid h
  clear h
  cases nar
  all_goals
    go_enter Tryz.func140, Tryz.ntmps140
    go_wp2
  · exact bodyPost_ret (v := .tuple #[.int .i64 off, .int .i64 0]) (by simp [results, Tryz.results140, go_sem]) rfl ⟨rfl, HF.out.mod, HF.out.mach⟩
  · exact bodyPost_ret (v := .tuple #[.int .i64 imm, .int .i64 0]) (by simp [results, Tryz.results140, go_sem]) rfl ⟨rfl, HF.out.mod, HF.out.mach⟩

set_option maxRecDepth 100000 in
set_option maxHeartbeats 1600000 in
theorem leave_of (op : Int) (nar reg : Bool) (size dst src off imm : Int) (bx : Nat) (cs : List Value) (hl : cs.length = 471) (u : Val) (hu : RegC cs 0 u) (w : World) (h : Row w bx 146 cs) :
    Calls Tryz.prog 143 #[.pointer (some ⟨bx, 0, none⟩), .agg #[.int .i64 op, .bool nar, .bool reg, .int .i64 size, .int .i64 dst, .int .i64 src, .int .i64 off, .int .i64 imm]] w (fun e w' => if u.k = 1 then Wrote w bx (cs.set 470 (.bool true)) 0 0 e w' else Wrote w bx cs 0 86 e w') := by
  have HF := Lib.hid (FM.begin h op nar reg size dst src off imm)
  obtain ⟨c0, c1, c2, c3⟩ := hu.row h
  simp only [Nat.zero_mul, Nat.add_zero] at c0 c1 c2 c3
  have hlt := h.lt
  clear h hu
  obtain ⟨k, t, o, x⟩ := u
  simp only at c0 c1 c2 c3 ⊢
  by_cases hk : k = 1
  · subst hk
    simp only [if_true]
    go_enter Tryz.func143, Tryz.ntmps143
    go_wp2_with (go_at_call 160; refine (numeric_of _ _ _ _ _).mono ?_; rintro e w' ⟨rfl, hb⟩; have hF := HF.out.next hb; have hd : w'.cell? ⟨bx, 470, none⟩ = some (cs[470]'(by omega)) := (by rw [hF.mach.cell]; simp [hl]); have hf := hF.mach.free 470)
    have hF2 := hF.set 470 (.bool true)
    generalize World.setCell _ _ _ = w2 at hF2 ⊢
    exact bodyPost_ret (v := .tuple #[.int .i64 0, .int .i64 0]) (by simp [results, Tryz.results143, go_sem]) rfl ⟨rfl, hF2.mod, hF2.mach⟩
  · simp only [if_neg hk]
    have hkb : (k == 1) = false := by simpa using hk
    go_enter Tryz.func143, Tryz.ntmps143
    go_wp2_with (go_at_call 160; refine (numeric_of _ _ _ _ _).mono ?_; rintro e w' ⟨rfl, hb⟩; have hF := HF.out.next hb; rw [hkb])
    exact bodyPost_ret (v := .tuple #[.int .i64 0, .int .i64 86]) (by simp [results, Tryz.results143, go_sem]) rfl ⟨rfl, hF.mod, hF.mach⟩
end Go.Proofs.YtbkcpepalicbjaaGreat
