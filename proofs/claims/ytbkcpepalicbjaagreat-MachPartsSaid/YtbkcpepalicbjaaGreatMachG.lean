/-
  Lists of instructions: package code's Units.
-/
import Derived.Test.YtbkcpepalicbjaaGreatMachF
import Derived.Laws.AppendOwnNone
import Derived.Laws.OwnMore
import Derived.SizedLaws
namespace Go.Proofs.YtbkcpepalicbjaaGreat
open Go.RowKit
set_option linter.unusedVariables false
set_option linter.unusedSimpArgs false

def wideop (op : Int) : Bool := op == 20 || op == 21
set_option maxRecDepth 100000 in
theorem wide_told (op : Int) (w : World) : Calls Tryz.prog 132 #[.int .i64 op] w (Told w (.bool (wideop op))) := by
  have hc : op = 20 ∨ op = 21 ∨ (op ≠ 20 ∧ op ≠ 21) := by omega
  rcases hc with rfl | rfl | ⟨h0, h1⟩
  · rw [show wideop 20 = true by decide]
    go_enter Tryz.func132, Tryz.ntmps132
    go_wp2
    go_ret
    exact ⟨rfl, rfl⟩
  · rw [show wideop 21 = true by decide]
    go_enter Tryz.func132, Tryz.ntmps132
    go_wp2
    go_ret
    exact ⟨rfl, rfl⟩
  · rw [show wideop op = false by simp [wideop, h0, h1]]
    have t0 : (op == 20) = false := by simpa using h0
    have t1 : (op == 21) = false := by simpa using h1
    go_enter Tryz.func132, Tryz.ntmps132
    go_wp2
    go_ret
    exact ⟨rfl, rfl⟩

/-- The unit at which instruction k begins. -/
def unitAt (l : List Ins) : Nat → Nat
  | 0 => 0
  | k + 1 => unitAt l k + (if wideop ((l.map Ins.op).getD k 0) then 2 else 1)
theorem unitAt_le (l : List Ins) : ∀ k, unitAt l k ≤ 2 * k
  | 0 => Nat.le_refl _
  | k + 1 => by have := unitAt_le l k; unfold unitAt; split <;> omega
/-- Numbers in a row. -/
def ztab (n : Nat) (f : Nat → Int) : List Value := (List.range n).map fun i => .int .i64 (f i)
theorem ztab_len (n : Nat) (f : Nat → Int) : (ztab n f).length = n := by simp [ztab]
theorem ztab_succ (n : Nat) (f : Nat → Int) : ztab n f ++ [.int .i64 (f n)] = ztab (n + 1) f := by simp [ztab, List.range_succ]
theorem ztab_get {n i : Nat} (f : Nat → Int) (h : i < n) : (ztab n f)[i]? = some (.int .i64 (f i)) := by simp [ztab, h]
theorem info_i64 : (Tryz.prog.info? 3).map (fun i => (i.zero, i.size, i.bytes)) = some (some (.int .i64 0), 1, 8) := by kernel_rfl
theorem info_split {P : Program} {e : TypeId} {z : Value} {s b : Nat} (h : (P.info? e).map (fun i => (i.zero, i.size, i.bytes)) = some (some z, s, b)) : ∃ i, P.info? e = some i ∧ i.zero = some z ∧ i.size = s ∧ i.bytes = b := by
  cases hi : P.info? e with
  | none => rw [hi] at h; cases h
  | some i => rw [hi] at h; simp at h; exact ⟨i, rfl, h.1, h.2.1, h.2.2⟩
theorem own_stays {w w' : World} {base B : Nat} {e : TypeId} {s : Nat} {v : Value} {n : Nat} {xs : List Value} (h : w.ownsRow base e s v n xs) (hb : Below B w w') (hB : w.heap.size ≤ B) : w'.ownsRow base e s v n xs := by
  rcases h with ⟨hl, hz | ⟨g', cap', cur, rfl, hb', hgg, rest⟩⟩
  · exact ⟨hl, Or.inl hz⟩
  · exact ⟨hl, Or.inr ⟨g', cap', cur, rfl, hb', by rw [hb.block g' (Nat.lt_of_lt_of_le (Array.getElem?_eq_some_iff.1 hgg).1 hB)]; exact hgg, rest⟩⟩

set_option maxRecDepth 100000 in
set_option maxHeartbeats 6400000 in
theorem units_of (v : Value) (l : List Ins) (hl : l.length ≤ 4096) (w : World) (h : Coded w v l) :
    Calls Tryz.prog 82 #[v] w fun e w' => ∃ v', e = .returned v' ∧ w'.ownsRow w.heap.size 3 1 v' (l.length + 1) (ztab (l.length + 1) fun k => unitAt l k) ∧ Below w.heap.size w w' := by
  obtain ⟨i0, hi0, hz0, hz1, hz2⟩ := info_split info_i64
  obtain ⟨a, cap, rfl, hc⟩ := h.open
  obtain ⟨n, hn⟩ : ∃ n, n = l.length := ⟨_, rfl⟩
  rw [← hn] at hl ⊢
  have HC := Lib.hid hc
  have HN := Lib.hid hn
  clear hc hn h
  have ho0 := Lib.hid (World.ownsRow_lit (e := 3) (size := 1) (base := w.heap.size) w #[.int .i64 0] 1 (Nat.le_refl _) (by decide) rfl)
  have hB0 := Lib.hid ((Below.refl w.heap.size w).alloc (Nat.le_refl _) (.cells #[.int .i64 0] 3))
  go_enter Tryz.func82, Tryz.ntmps82
  go_wp2
  go_loopw [3, 4, 10] (fun s3 s4 s wr => ∃ i : Nat, i ≤ n ∧ s = .int .i64 i ∧ s4 = .int .i64 (unitAt l i : Nat) ∧ wr.ownsRow w.heap.size 3 1 s3 (i + 1) (ztab (i + 1) fun k => unitAt l k) ∧ Below w.heap.size w wr) (fun _ _ s _ => n - (intOf s).toNat)
  case atStart => exact ⟨0, Nat.zero_le _, rfl, rfl, ho0.out, hB0.out⟩
  case round =>
    obtain ⟨i, hi, rfl, rfl, hO, hB⟩ := hrel
    have HB := Lib.hid hB
    have HO := Lib.hid hO
    clear hB hO
    by_cases hlt : i < n
    · obtain ⟨b, off, rfl, hb, hcell⟩ := HC.out i (by rw [← HN.out]; exact hlt)
      obtain ⟨x, hx⟩ : ∃ x, x = l[i]'(by rw [← HN.out]; exact hlt) := ⟨_, rfl⟩
      rw [← hx] at hcell
      have hcw : ∀ j, j < 8 → wr.cell? ⟨b, off + i * 8 + j, none⟩ = (x.cs)[j]? := fun j hj => (HB.out.cell (p := ⟨b, off + i * 8 + j, none⟩) hb).trans (hcell j hj)
      have e0 := hcw 0 (by decide)
      have e1 := hcw 1 (by decide)
      have e2 := hcw 2 (by decide)
      have e3 := hcw 3 (by decide)
      have e4 := hcw 4 (by decide)
      have e5 := hcw 5 (by decide)
      have e6 := hcw 6 (by decide)
      have e7 := hcw 7 (by decide)
      have hun : unitAt l (i + 1) = unitAt l i + (if wideop x.op then 2 else 1) := by
        have : (l.map Ins.op).getD i 0 = x.op := by rw [hx]; simp [List.getD, show i < l.length by rw [← HN.out]; exact hlt]
        show unitAt l i + _ = _
        rw [this]
      have hul := unitAt_le l i
      obtain ⟨op, nar, reg, size, dst, src, of, imm⟩ := x
      simp only [Ins.cs, insc, List.getElem?_cons_zero, List.getElem?_cons_succ, Nat.add_zero] at e0 e1 e2 e3 e4 e5 e6 e7
      obtain ⟨U, hU⟩ : ∃ U, U = unitAt l i := ⟨_, rfl⟩
      rw [← hU] at hun hul
      have HU := Lib.hid hU
      have HUN := Lib.hid hun
      clear hcell hcw hx hun
      rw [← hU]
      clear hU
      have hj1 : (0 : Int) ≤ (i : Int) := by omega
      have hj3 : (i : Int) < n := by omega
      go_wp2_with fail
      refine (wide_told _ _).mono ?_
      rintro e w2 ⟨rfl, rfl⟩
      have OB := fun (m : Int) => Obj.cells #[.int .i64 m] 3
      have hbb : Below w.heap.size w (wr.alloc (.cells #[.int .i64 op, .bool nar, .bool reg, .int .i64 size, .int .i64 dst, .int .i64 src, .int .i64 of, .int .i64 imm] 23)) := HB.out.alloc HB.out.size _
      have hoo := own_stays HO.out ((Below.refl wr.heap.size wr).alloc (Nat.le_refl _) (.cells #[.int .i64 op, .bool nar, .bool reg, .int .i64 size, .int .i64 dst, .int .i64 src, .int .i64 of, .int .i64 imm] 23)) (Nat.le_refl _)
      have HBB := Lib.hid hbb
      have HOO := Lib.hid hoo
      clear hbb hoo OB
      obtain ⟨d, hd⟩ : ∃ d, wideop op = d := ⟨_, rfl⟩
      rw [hd]
      have HU2 := HUN.out
      simp only [hd] at HU2
      have HUM := Lib.hid HU2
      clear HU2 hd HUN e0 e1 e2 e3 e4 e5 e6 e7
      generalize wr.alloc (.cells #[.int .i64 op, .bool nar, .bool reg, .int .i64 size, .int .i64 dst, .int .i64 src, .int .i64 of, .int .i64 imm] 23) = w2 at HBB HOO ⊢
      cases d
      · have hm : (((U : Int) + 1) : Int) = ((unitAt l (i + 1) : Nat) : Int) := by have := HUM.out; simp only [Bool.false_eq_true, if_true, if_false] at this; omega
        have HM := Lib.hid hm
        clear hm
        have hbc := HBB.out.alloc HBB.out.size (.cells #[.int .i64 ((U : Int) + 1)] 3)
        have hoc := own_stays HOO.out ((Below.refl w2.heap.size w2).alloc (Nat.le_refl _) (.cells #[.int .i64 ((U : Int) + 1)] 3)) (Nat.le_refl _)
        have hcn : (w2.alloc (.cells #[.int .i64 ((U : Int) + 1)] 3)).cell? ⟨w2.heap.size, 0, none⟩ = some (.int .i64 ((U : Int) + 1)) := by rw [(Row.made w2 [.int .i64 ((U : Int) + 1)] 3).cell]; rfl
        have hnews : ∀ (j : Nat) (u : Value), [(.int .i64 ((U : Int) + 1) : Value)][j]? = some u → (w2.alloc (.cells #[.int .i64 ((U : Int) + 1)] 3)).cell? ((⟨w2.heap.size, 0, none⟩ : Addr).add j) = some u := by
          intro j u hu
          have hj : j = 0 := by cases j with
            | zero => rfl
            | succ j => simp at hu
          subst hj
          simp at hu
          rw [← hu]
          exact hcn
        have hone : ∀ u ∈ [(.int .i64 ((U : Int) + 1) : Value)], u.oneCell' = true := by
          intro u hu
          simp at hu
          subst hu
          rfl
        have HBC := Lib.hid hbc
        have HOC := Lib.hid hoc
        have hm3 : w.heap.size ≤ (w2.alloc (.cells #[.int .i64 ((U : Int) + 1)] 3)).heap.size := hbc.size
        have HM3 := Lib.hid hm3
        clear hbc hoc hm3 hcn
        have hk1 : i + 1 + 1 ≤ maxLen := by unfold maxLen; omega
        have hk2 : (i + 1 + 1) * 8 ≤ 140737488355328 := by omega
        go_wp2_with (at_builtin; refine wpList_append_own _ rfl (.tmp 21) (.tmp 23) 29 rfl w.heap.size 3 i0 (.int .i64 0) 1 8 Tryz.underlying29 hi0 hz0 hz1 hz2 rfl (by decide) u3 (i + 1) _ rfl HOC.out ⟨w2.heap.size, 0, none⟩ 1 1 [.int .i64 ((U : Int) + 1)] rfl rfl hnews hone hk1 hk2 HM3.out ?_; intro v1 w3 hown hgrow _)
        have hB2 : Below w.heap.size w w3 := Below.grown HBC.out hgrow HM3.out (fun j hj => (HOC.out.lt j hj).1)
        have hown2 : w3.ownsRow w.heap.size 3 1 v1 (i + 1 + 1) (ztab (i + 1 + 1) fun k => unitAt l k) := by
          rw [← ztab_succ, ← HM.out]
          exact hown
        have HO2 := Lib.hid hown2
        have HB2 := Lib.hid hB2
        clear hown hgrow hnews hone hown2 hB2
        go_wp2
        go_roundw
        case rel => exact ⟨i + 1, hlt, by go_num, by rw [← HM.out], HO2.out, HB2.out⟩
        case measure => simp [intOf]; omega
      · have hm : (((U : Int) + 1 + 1) : Int) = ((unitAt l (i + 1) : Nat) : Int) := by have := HUM.out; simp only [Bool.false_eq_true, if_true, if_false] at this; omega
        have HM := Lib.hid hm
        clear hm
        have hbc := HBB.out.alloc HBB.out.size (.cells #[.int .i64 ((U : Int) + 1 + 1)] 3)
        have hoc := own_stays HOO.out ((Below.refl w2.heap.size w2).alloc (Nat.le_refl _) (.cells #[.int .i64 ((U : Int) + 1 + 1)] 3)) (Nat.le_refl _)
        have hcn : (w2.alloc (.cells #[.int .i64 ((U : Int) + 1 + 1)] 3)).cell? ⟨w2.heap.size, 0, none⟩ = some (.int .i64 ((U : Int) + 1 + 1)) := by rw [(Row.made w2 [.int .i64 ((U : Int) + 1 + 1)] 3).cell]; rfl
        have hnews : ∀ (j : Nat) (u : Value), [(.int .i64 ((U : Int) + 1 + 1) : Value)][j]? = some u → (w2.alloc (.cells #[.int .i64 ((U : Int) + 1 + 1)] 3)).cell? ((⟨w2.heap.size, 0, none⟩ : Addr).add j) = some u := by
          intro j u hu
          have hj : j = 0 := by cases j with
            | zero => rfl
            | succ j => simp at hu
          subst hj
          simp at hu
          rw [← hu]
          exact hcn
        have hone : ∀ u ∈ [(.int .i64 ((U : Int) + 1 + 1) : Value)], u.oneCell' = true := by
          intro u hu
          simp at hu
          subst hu
          rfl
        have HBC := Lib.hid hbc
        have HOC := Lib.hid hoc
        have hm3 : w.heap.size ≤ (w2.alloc (.cells #[.int .i64 ((U : Int) + 1 + 1)] 3)).heap.size := hbc.size
        have HM3 := Lib.hid hm3
        clear hbc hoc hm3 hcn
        have hk1 : i + 1 + 1 ≤ maxLen := by unfold maxLen; omega
        have hk2 : (i + 1 + 1) * 8 ≤ 140737488355328 := by omega
        go_wp2_with (at_builtin; refine wpList_append_own _ rfl (.tmp 21) (.tmp 23) 29 rfl w.heap.size 3 i0 (.int .i64 0) 1 8 Tryz.underlying29 hi0 hz0 hz1 hz2 rfl (by decide) u3 (i + 1) _ rfl HOC.out ⟨w2.heap.size, 0, none⟩ 1 1 [.int .i64 ((U : Int) + 1 + 1)] rfl rfl hnews hone hk1 hk2 HM3.out ?_; intro v1 w3 hown hgrow _)
        have hB2 : Below w.heap.size w w3 := Below.grown HBC.out hgrow HM3.out (fun j hj => (HOC.out.lt j hj).1)
        have hown2 : w3.ownsRow w.heap.size 3 1 v1 (i + 1 + 1) (ztab (i + 1 + 1) fun k => unitAt l k) := by
          rw [← ztab_succ, ← HM.out]
          exact hown
        have HO2 := Lib.hid hown2
        have HB2 := Lib.hid hB2
        clear hown hgrow hnews hone hown2 hB2
        go_wp2
        go_roundw
        case rel => exact ⟨i + 1, hlt, by go_num, by rw [← HM.out], HO2.out, HB2.out⟩
        case measure => simp [intOf]; omega
    · obtain rfl : i = n := by omega
      go_wp2
      go_ret
      exact ⟨_, rfl, HO.out, HB.out⟩
end Go.Proofs.YtbkcpepalicbjaaGreat
