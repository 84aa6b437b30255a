/-
  math/big: words of numbers below 2^64 each: sums, differences, orders.
-/
import Derived.Test.YtaaidjphacofgaaGreatDoorBigC
import Derived.Laws.CopyOwn
import Derived.Lib.Hide
namespace Go.Proofs.YtaaidjphacofgaaGreatDoor
open Go.RowKit
set_option linter.unusedVariables false
set_option linter.unusedSimpArgs false

/-- The words v hold the magnitude m. -/
def Mag (w : World) (v : Value) (m : Int) : Prop :=
  (m = 0 ∧ ∃ a c, v = .slice a 0 c) ∨
  (0 < m ∧ m < 18446744073709551616 ∧ ∃ g cs, v = .slice (some ⟨g, 0, none⟩) 1 (cs.length + 1) ∧ cs.length ≤ 100 ∧ Row w g 96 (.int .u64 m :: cs)) ∨
  (18446744073709551616 ≤ m ∧ m < 340282366920938463463374607431768211456 ∧ ∃ g cs, v = .slice (some ⟨g, 0, none⟩) 2 (cs.length + 2) ∧ cs.length ≤ 100 ∧
    Row w g 96 (.int .u64 (m % 18446744073709551616) :: .int .u64 (m / 18446744073709551616) :: cs))
theorem Mag.below {w w' : World} {v : Value} {m : Int} (h : Mag w v m) (hB : Below w.heap.size w w') : Mag w' v m := by
  rcases h with h | ⟨h1, h2, g, cs, h3, h4, h5⟩ | ⟨h1, h2, g, cs, h3, h4, h5⟩
  · exact .inl h
  · exact .inr (.inl ⟨h1, h2, g, cs, h3, h4, h5.below hB h5.lt⟩)
  · exact .inr (.inr ⟨h1, h2, g, cs, h3, h4, h5.below hB h5.lt⟩)
/-- Words in memory of their own. -/
def NewMag (w : World) (m : Int) (e : Ending) (w' : World) : Prop :=
  ∃ a n c, e = .returned (.slice a n c) ∧ (0 < n ↔ 0 < m) ∧ Mag w' (.slice a n c) m ∧ Below w.heap.size w w'
theorem word_u64 {x : Int} (h : 0 ≤ x ∧ x < 18446744073709551616) : IntKind.u64.wrap x = x := by simp only [IntKind.wrap, IntKind.bits, IntKind.signed]; simp; omega

theorem cells1 : madeCells #[Value.int .u64 0] 1 = #[.int .u64 0] := by kernel_rfl
theorem make1w (w : World) : (Instr.makeSlice 64 (.int .i64 1) (.int .i64 1)).run Tryz.prog w =
    .ok (.slice (some ⟨w.heap.size, 0, none⟩) 1 1) (w.alloc (.cells #[.int .u64 0] 96)) := by
  obtain ⟨i, hi, hz, hs, hb⟩ := info_parts info_word
  have h := run_make (P := Tryz.prog) w 64 96 i (.int .u64 0) Tryz.underlying64 hi hz .i64 .i64 1 1 (by omega) (by omega) (by rw [hb]; omega) (by omega)
  rw [h]
  simp only [hs, Nat.mul_one, Value.cells]
  show Result.ok (Value.slice _ 1 1) (w.alloc (Obj.cells (madeCells #[Value.int .u64 0] 1) _)) = _
  rw [cells1]
theorem nat_make1 (w : World) : Calls Tryz.prog 104 #[.slice none 0 0, .int .i64 1] w fun e w' => e = .returned (.slice (some ⟨w.heap.size, 0, none⟩) 1 1) ∧
    w' = w.alloc (.cells #[.int .u64 0] 96) := by
  have hm := fun w => make1w w
  go_enter Tryz.func104, Tryz.ntmps104
  go_wp2
  go_ret
  exact ⟨rfl, rfl⟩
set_option maxRecDepth 100000 in
set_option maxHeartbeats 1600000 in
/-- A copy of one word. -/
theorem natset1 (g c : Nat) (x : Int) (hx : 0 < x ∧ x < 18446744073709551616) (hc : 1 ≤ c ∧ c ≤ 101) (w : World) (hg : w.cell? ⟨g, 0, none⟩ = some (.int .u64 x)) (hl : g < w.heap.size) :
    Calls Tryz.prog 101 #[.slice none 0 0, .slice (some ⟨g, 0, none⟩) 1 c] w (NewMag w x) := by
  have HMK := Lib.hid (fun w => nat_make1 w)
  have hr := Row.made w [.int .u64 0] 96
  have hb := below_map w (.cells #[.int .u64 0] 96)
  have hg1 := (World.cell?_of_block (a := ⟨g, 0, none⟩) (hb.block g hl)).trans hg
  have hsz : (Tryz.prog.info? 96).map (·.size) = some 1 := by kernel_rfl
  have hone : ∀ v ∈ [Value.int .u64 x], v.oneCell' = true := by simp [Value.oneCell']
  go_enter Tryz.func101, Tryz.ntmps101
  go_upto_region 2 with (go_at_call 104; refine (HMK.out _).mono ?_; rintro e w1 ⟨rfl, rfl⟩)
  obtain ⟨G, hG⟩ : ∃ b, b = w.heap.size := ⟨_, rfl⟩
  have hGB : w.heap.size ≤ G := Nat.le_of_eq hG.symm
  rw [← hG] at hr
  simp only [← hG]
  clear hG
  generalize World.alloc _ _ = w1 at hr hb hg1 ⊢
  have HG := Lib.hid (show w1.heap[G]? = some (.cells ([Value.int .u64 0]).toArray 96 (0, 0)) from hr)
  have HPOS := Lib.hid (show 0 < [Value.int .u64 x].length → some (⟨G, 0, none⟩ : Addr) = some ⟨G, 0, none⟩ ∧ ∃ ad, some (⟨g, 0, none⟩ : Addr) = some ad ∧ ∀ j v, [Value.int .u64 x][j]? = some v → w1.cell? (ad.add j) = some v from fun _ => ⟨rfl, _, rfl, fun j v hv => by
    match j, hv with
    | 0, hv => simp at hv; subst hv; exact hg1
    | j + 1, hv => simp at hv⟩)
  have HB := Lib.hid (And.intro hb hGB)
  clear hr hb hg1 hg hl
  go_wp2_with (((with_reducible refine wpList_copy_splice (o := ⟨some 11, _, _, _, _, _⟩) rfl (.tmp 9) (.tmp 10) 64 64 rfl 96 Tryz.underlying64 hsz (some ⟨G, 0, none⟩) (some ⟨g, 0, none⟩) 1 1 1 c ?_ ?_ G 0 [Value.int .u64 0] 96 HG.out [Value.int .u64 x] rfl HPOS.out (Nat.le_refl _) hone w.heap.size w HB.out.1 HB.out.2 ?_); rfl; rfl; intro w2 hg2 hB2))
  go_ret
  exact ⟨_, 1, 1, rfl, by omega, .inr (.inl ⟨hx.1, hx.2, G, [], rfl, by simp, hg2.out⟩), hB2⟩

theorem run_u64_add (x y : Int) (hx : 0 ≤ x) (hy : 0 ≤ y) (w : World) :
    (callFunc 123 #[.int .u64 x, .int .u64 y, .int .u64 0]).run Tryz.prog w = .ok (.value (.tuple #[.int .u64 ((x + y) % 18446744073709551616), .int .u64 ((x + y) / 18446744073709551616)])) w := by
  rw [run_callFunc_extern Tryz.func123 (by kernel_rfl) (by kernel_rfl) (by kernel_rfl) (e := add64Entry) (by kernel_rfl), run_add64 x y 0 hx hy (by omega) (by omega)]
  simp only [Result.andThen, Int.add_zero]
theorem bits_addc (x y : Int) (hx : 0 ≤ x ∧ x < 18446744073709551616) (hy : 0 ≤ y ∧ y < 18446744073709551616) (w : World) :
    Calls Tryz.prog 108 #[.int .u64 x, .int .u64 y, .int .u64 0] w fun e w' => e = .returned (.tuple #[.int .u64 ((x + y) % 18446744073709551616), .int .u64 ((x + y) / 18446744073709551616)]) ∧ w = w' := by
  have hr := fun w => run_u64_add x y hx.1 hy.1 w
  have u1 := word_u64 hx
  have u2 := word_u64 hy
  have u3 : IntKind.u64.wrap ((x + y) % 18446744073709551616) = (x + y) % 18446744073709551616 := word_u64 (by omega)
  have u4 : IntKind.u64.wrap ((x + y) / 18446744073709551616) = (x + y) / 18446744073709551616 := word_u64 (by omega)
  generalize (x + y) % 18446744073709551616 = z at hr u3 ⊢
  generalize (x + y) / 18446744073709551616 = k at hr u4 ⊢
  clear hx hy
  go_enter Tryz.func108, Tryz.ntmps108
  go_wp2
  go_ret2
  exact ⟨rfl, rfl⟩
set_option maxRecDepth 100000 in
set_option maxHeartbeats 1600000 in
/-- addVV of one word, with its carry. -/
theorem addvvc (g gx gy cg cx cy : Nat) (x y z0 : Int) (hx : 0 ≤ x ∧ x < 18446744073709551616) (hy : 0 ≤ y ∧ y < 18446744073709551616) (w : World)
    (hgz : w.cell? ⟨g, 0, none⟩ = some (.int .u64 z0)) (hfz : w.frozen? ⟨g, 0, none⟩ = false) (hgx : w.cell? ⟨gx, 0, none⟩ = some (.int .u64 x)) (hgy : w.cell? ⟨gy, 0, none⟩ = some (.int .u64 y)) :
    Calls Tryz.prog 88 #[.slice (some ⟨g, 0, none⟩) 1 cg, .slice (some ⟨gx, 0, none⟩) 1 cx, .slice (some ⟨gy, 0, none⟩) 1 cy] w fun e w' => e = .returned (.int .u64 ((x + y) / 18446744073709551616)) ∧ ∃ k, w' = (w.drewN k).setCell ⟨g, 0, none⟩ (.int .u64 ((x + y) % 18446744073709551616)) := by
  have hba := fun w => bits_addc x y hx hy w
  generalize (x + y) % 18446744073709551616 = z at hba ⊢
  generalize (x + y) / 18446744073709551616 = k at hba ⊢
  have HBA := Lib.hid hba
  clear hba hx hy
  go_enter Tryz.func88, Tryz.ntmps88
  go_wp2
  refine wp_loop_rounds (0+1+1+1) ?_
  rw [rounds_succ]
  go_wp2
  go_quiet ((go_at_call 108; refine Calls.mono (HBA.out (w.drewN _)) ?_; rintro e w' ⟨rfl, rfl⟩; exact ⟨rfl, _, rfl⟩))
  go_wp2
  rw [rounds_succ]
  go_wp2
  go_ret
  exact ⟨rfl, _, rfl⟩
/-- norm of two words, the upper not 0. -/
theorem norm22 (g : Nat) (c : Nat) (y : Int) (hy : y ≠ 0) (hc : 2 ≤ c ∧ c ≤ 101) (w : World) (h1 : w.cell? ⟨g, 1, none⟩ = some (.int .u64 y)) :
    Calls Tryz.prog 107 #[.slice (some ⟨g, 0, none⟩) 2 c] w fun e w' => e = .returned (.slice (some ⟨g, 0, none⟩) 2 c) ∧ ∃ k, w' = w.drewN k := by
  have hb : (y == 0) = false := by simpa using hy
  have h2 : (2 : Int) ≤ (c : Int) := by omega
  clear hy
  go_enter Tryz.func107, Tryz.ntmps107
  go_wp2
  refine wp_loop_rounds (0+1+1) ?_
  rw [rounds_succ]
  go_wp2
  go_ret
  exact ⟨rfl, 0, rfl⟩
end Go.Proofs.YtaaidjphacofgaaGreatDoor
