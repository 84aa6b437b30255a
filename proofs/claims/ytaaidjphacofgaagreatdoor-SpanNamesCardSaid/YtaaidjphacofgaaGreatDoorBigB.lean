/-
  math/big: the sum of two numbers of one word.
-/
import Derived.Test.YtaaidjphacofgaaGreatDoorBigA
import Derived.Test.YtaaidjphacofgaaGreatDoorTake
import Derived.Deep.Cut
import Derived.Deep.CutRange
import Derived.Deep.RegionHeld3
namespace Go.Proofs.YtaaidjphacofgaaGreatDoor
open Go.RowKit
set_option linter.unusedVariables false
set_option linter.unusedSimpArgs false

theorem addVV_enters (args : Array Value) (w : World) : (callFunc 105 args).run Tryz.prog w = .ok (.enter 88 args) w :=
  run_callFunc_twin (twin := "math/big.addVV_g") Tryz.func105 (by kernel_rfl) (by kernel_rfl) (by kernel_rfl) (by kernel_rfl) Tryz.func88 (by kernel_rfl) (by kernel_rfl) (by kernel_rfl) args w
theorem add64_run (x y : Int) (hx : 0 ≤ x) (hy : 0 ≤ y) (h : x + y < 18446744073709551616) (w : World) :
    (callFunc 123 #[.int .u64 x, .int .u64 y, .int .u64 0]).run Tryz.prog w = .ok (.value (.tuple #[.int .u64 (x + y), .int .u64 0])) w := by
  rw [run_callFunc_extern Tryz.func123 (by kernel_rfl) (by kernel_rfl) (by kernel_rfl) (e := add64Entry) (by kernel_rfl), run_add64 x y 0 hx hy (by omega) (by omega)]
  have e1 : (x + y + 0) % 18446744073709551616 = x + y := by omega
  have e2 : (x + y + 0) / 18446744073709551616 = 0 := by omega
  rw [e1, e2]
  rfl
theorem bits_add (x y : Int) (hx : 0 ≤ x) (hy : 0 ≤ y) (h : x + y < 18446744073709551616) (w : World) :
    Calls Tryz.prog 108 #[.int .u64 x, .int .u64 y, .int .u64 0] w fun e w' => e = .returned (.tuple #[.int .u64 (x + y), .int .u64 0]) ∧ w = w' := by
  have hr := fun w => add64_run x y hx hy h w
  have u1 : IntKind.u64.wrap x = x := by simp only [IntKind.wrap, IntKind.bits, IntKind.signed]; simp; omega
  have u2 : IntKind.u64.wrap y = y := by simp only [IntKind.wrap, IntKind.bits, IntKind.signed]; simp; omega
  have u3 : IntKind.u64.wrap (x + y) = x + y := by simp only [IntKind.wrap, IntKind.bits, IntKind.signed]; simp; omega
  generalize x + y = z at hr u3 ⊢
  have HX := Lib.hid h
  clear hx hy h
  go_enter Tryz.func108, Tryz.ntmps108
  go_wp2
  go_ret2
  exact ⟨rfl, rfl⟩
theorem info_word : (Tryz.prog.info? 96).map (fun i => (i.zero, i.size, i.bytes)) = some (some (.int .u64 0), 1, 8) := by kernel_rfl
theorem cells6 : madeCells #[Value.int .u64 0] 6 = #[.int .u64 0, .int .u64 0, .int .u64 0, .int .u64 0, .int .u64 0, .int .u64 0] := by kernel_rfl
/-- make(2) of no words. -/
theorem make6 (w : World) : (Instr.makeSlice 64 (.int .i64 2) (.int .i64 6)).run Tryz.prog w =
    .ok (.slice (some ⟨w.heap.size, 0, none⟩) 2 6) (w.alloc (.cells #[.int .u64 0, .int .u64 0, .int .u64 0, .int .u64 0, .int .u64 0, .int .u64 0] 96)) := by
  obtain ⟨i, hi, hz, hs, hb⟩ := info_parts info_word
  have h := run_make (P := Tryz.prog) w 64 96 i (.int .u64 0) Tryz.underlying64 hi hz .i64 .i64 2 6 (by omega) (by omega) (by rw [hb]; omega) (by omega)
  rw [h]
  simp only [hs, Nat.mul_one, Value.cells]
  show Result.ok (Value.slice _ 2 6) (w.alloc (Obj.cells (madeCells #[Value.int .u64 0] 6) _)) = _
  rw [cells6]
theorem nat_make2 (w : World) : Calls Tryz.prog 104 #[.slice none 0 0, .int .i64 2] w fun e w' => e = .returned (.slice (some ⟨w.heap.size, 0, none⟩) 2 6) ∧
    w' = w.alloc (.cells #[.int .u64 0, .int .u64 0, .int .u64 0, .int .u64 0, .int .u64 0, .int .u64 0] 96) := by
  have hm := fun w => make6 w
  go_enter Tryz.func104, Tryz.ntmps104
  go_wp2
  go_ret
  exact ⟨rfl, rfl⟩

set_option maxRecDepth 100000 in
set_option maxHeartbeats 1600000 in
/-- addVV of one word. -/
theorem addvv1 (g gx gy cg cx cy : Nat) (x y z0 : Int) (hx : 0 ≤ x) (hy : 0 ≤ y) (h : x + y < 18446744073709551616) (w : World)
    (hgz : w.cell? ⟨g, 0, none⟩ = some (.int .u64 z0)) (hfz : w.frozen? ⟨g, 0, none⟩ = false) (hgx : w.cell? ⟨gx, 0, none⟩ = some (.int .u64 x)) (hgy : w.cell? ⟨gy, 0, none⟩ = some (.int .u64 y)) :
    Calls Tryz.prog 88 #[.slice (some ⟨g, 0, none⟩) 1 cg, .slice (some ⟨gx, 0, none⟩) 1 cx, .slice (some ⟨gy, 0, none⟩) 1 cy] w fun e w' => e = .returned (.int .u64 0) ∧ ∃ k, w' = (w.drewN k).setCell ⟨g, 0, none⟩ (.int .u64 (x + y)) := by
  have hba := fun w => bits_add x y hx hy h w
  generalize x + y = z at hba ⊢
  have HBA := Lib.hid hba
  clear hba hx hy h
  go_enter Tryz.func88, Tryz.ntmps88
  go_wp2
  refine wp_loop_rounds (0+1+1+1) ?_
  rw [rounds_succ]
  go_wp2
  go_quiet ((go_at_call 108; refine Calls.mono (HBA.out (w.drewN _)) ?_; rintro e w' ⟨rfl, rfl⟩; exact ⟨rfl, _, rfl⟩))
  go_wp2
  rw [rounds_succ]
  go_wp2
  go_ret
  exact ⟨rfl, _, rfl⟩
set_option maxRecDepth 100000 in
set_option maxHeartbeats 1600000 in
/-- norm of two words, the upper 0. -/
theorem norm21 (g : Nat) (c : Nat) (x : Int) (hx : x ≠ 0) (hc : 2 ≤ c ∧ c ≤ 100) (w : World) (h0 : w.cell? ⟨g, 0, none⟩ = some (.int .u64 x)) (h1 : w.cell? ⟨g, 1, none⟩ = some (.int .u64 0)) :
    Calls Tryz.prog 107 #[.slice (some ⟨g, 0, none⟩) 2 c] w fun e w' => e = .returned (.slice (some ⟨g, 0, none⟩) 1 c) ∧ ∃ k, w' = w.drewN k := by
  have hb : (x == 0) = false := by simpa using hx
  clear hx
  go_enter Tryz.func107, Tryz.ntmps107
  go_wp2
  refine wp_loop_rounds (0+1+1+1) ?_
  rw [rounds_succ]
  go_wp2
  rw [rounds_succ]
  go_wp2
  go_ret
  exact ⟨rfl, 0, rfl⟩
theorem below_map (w : World) (o : Obj) : Below w.heap.size w (w.alloc o) := (Below.refl _ _).alloc (Nat.le_refl _) _
/-- What add leaves: its words in a new block. -/
def NatB (w : World) (m : Int) (e : Ending) (w' : World) : Prop :=
  ∃ g, w.heap.size ≤ g ∧ e = .returned (.slice (some ⟨g, 0, none⟩) 1 6) ∧ Row w' g 96 [.int .u64 m, .int .u64 0, .int .u64 0, .int .u64 0, .int .u64 0, .int .u64 0] ∧ Below w.heap.size w w'
set_option maxRecDepth 100000 in
set_option maxHeartbeats 1600000 in
theorem natadd1 (gx gy cx cy : Nat) (x y : Int) (hx : 0 < x) (hy : 0 < y) (h : x + y < 18446744073709551616) (hcx : 1 ≤ cx ∧ cx ≤ 101) (hcy : 1 ≤ cy ∧ cy ≤ 101) (w : World)
    (hgx : w.cell? ⟨gx, 0, none⟩ = some (.int .u64 x)) (hgy : w.cell? ⟨gy, 0, none⟩ = some (.int .u64 y)) (hlx : gx < w.heap.size) (hly : gy < w.heap.size) :
    Calls Tryz.prog 95 #[.slice none 0 0, .slice (some ⟨gx, 0, none⟩) 1 cx, .slice (some ⟨gy, 0, none⟩) 1 cy] w (NatB w (x + y)) := by
  have hav := addVV_enters
  have hne : x + y ≠ 0 := by omega
  have hmk := fun w => nat_make2 w
  have HMK := Lib.hid hmk
  have hvv := fun g z w a b c d => addvv1 g gx gy 6 cx cy x y z (by omega) (by omega) h w a b c d
  have HVV := Lib.hid hvv
  have hnm := fun g w a b => norm21 g 6 (x + y) hne (by omega) w a b
  have HNM := Lib.hid hnm
  generalize x + y = z at HVV HNM ⊢
  have HX := Lib.hid (And.intro hgx (And.intro hgy (And.intro hlx hly)))
  clear hvv hnm hmk hne h hx hy hgx hgy hlx hly
  go_enter Tryz.func95, Tryz.ntmps95
  go_upto_region 10 with (go_at_call 104; refine (HMK.out _).mono ?_; rintro e w1 ⟨rfl, rfl⟩)
  obtain ⟨hgx, hgy, hlx, hly⟩ := HX.out
  have hb := below_map w (.cells #[.int .u64 0, .int .u64 0, .int .u64 0, .int .u64 0, .int .u64 0, .int .u64 0] 96)
  have hr := Row.made w [.int .u64 0, .int .u64 0, .int .u64 0, .int .u64 0, .int .u64 0, .int .u64 0] 96
  have hgx1 := (World.cell?_of_block (a := ⟨gx, 0, none⟩) (hb.block gx hlx)).trans hgx
  have hgy1 := (World.cell?_of_block (a := ⟨gy, 0, none⟩) (hb.block gy hly)).trans hgy
  generalize World.alloc _ _ = w1 at hb hr hgx1 hgy1 ⊢
  have h1 : (1 : Int) ≤ (cx : Int) := by omega
  have h2 : (1 : Int) ≤ (cy : Int) := by omega
  have HR := Lib.hid (And.intro hr (And.intro hgx1 (And.intro hgy1 hb)))
  clear hgx hgy hlx hly hgx1 hgy1 hr hb HX
  refine wp_region_held_drew (S := fun _ => True) (by kernel_rfl) ?_ (fun hHeld => ?_)
  · trivial
  refine tkw 0 37 ?_
  refine tkw 1 38 ?_
  refine tkw 2 39 ?_
  refine tkw 3 40 ?_
  refine tkw 4 41 ?_
  refine tkw 5 42 ?_
  refine tkw 6 43 ?_
  refine tkw 7 44 ?_
  refine tkw 8 45 ?_
  refine wpAnyH_ready (rs := [9]) (by kernel_rfl) (by simp) ?_
  refine AllReadyH.cons (o := ⟨some 46, _, _, _, _, _⟩) rfl (fun K hK => ?_) AllReadyH.nil
  go_simp
  refine (HVV.out w.heap.size 0 _ ((HR.out.1.drew.cell 0).trans rfl) (HR.out.1.drew.free 0) HR.out.2.1 HR.out.2.2.1).mono ?_
  rintro e w2 ⟨rfl, k, rfl⟩
  refine hK.out _ _ ?_ (fun hHeld => ?_)
  · trivial
  clear hK K hHeld
  try simp only [Act.put, List.setIfInBounds_toArray, List.set_cons_zero, List.set_cons_succ]
  refine tkw 10 9 ?_
  refine wpAnyH_done (by kernel_rfl) ?_ _
  have hr2 := (HR.out.1.drew.drewN k).put 0 (.int .u64 z)
  have hb2 := below_drewN (HR.out.2.2.2.drew) k
  have hb3 := hb2.setCell (p := ⟨w.heap.size, 0, none⟩) (Nat.le_refl w.heap.size) (.int .u64 z)
  generalize World.setCell _ _ _ = w3 at hr2 hb3 ⊢
  have c1 := (hr2.cell 1).trans rfl
  have f1 := hr2.free 1
  have hr4 := hr2.put 1 (.int .u64 0)
  have hb4 := hb3.setCell (p := ⟨w.heap.size, 1, none⟩) (Nat.le_refl w.heap.size) (.int .u64 0)
  have HN := Lib.hid (HNM.out w.heap.size _ ((hr4.cell 0).trans rfl) ((hr4.cell 1).trans rfl))
  have HR4 := Lib.hid (And.intro hr4 hb4)
  clear hr2 hb2 hb3 hr4 hb4
  go_wp2_with (go_at_call 107; refine (HN.out).mono ?_; rintro e w' ⟨rfl, k2, rfl⟩)
  go_ret
  exact ⟨_, Nat.le_refl _, rfl, HR4.out.1.drewN _, below_drewN HR4.out.2 _⟩
end Go.Proofs.YtaaidjphacofgaaGreatDoor
