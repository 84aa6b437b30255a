/-
  Programs: package mach's made.
-/
import Derived.Test.YtbkcpepalicbjaaGreatMachH
namespace Go.Proofs.YtbkcpepalicbjaaGreat
open Go.RowKit
set_option linter.unusedVariables false
set_option linter.unusedSimpArgs false

/-- Tables' sizes, in a row. -/
def tabc (ts : List (Int × Int)) : List Value := ts.flatMap fun t => [.int .i64 t.1, .int .i64 t.2]
theorem tabc_len (ts : List (Int × Int)) : (tabc ts).length = ts.length * 2 := by
  induction ts with
  | nil => rfl
  | cons t ts ih => unfold tabc at ih ⊢; simp [List.flatMap_cons, ih]; omega
theorem tabc_get (ts : List (Int × Int)) : ∀ i (h : i < ts.length), (tabc ts)[i * 2]? = some (.int .i64 ts[i].1) ∧ (tabc ts)[i * 2 + 1]? = some (.int .i64 ts[i].2) := by
  induction ts with
  | nil => intro i h; cases h
  | cons t ts ih =>
    intro i h
    cases i with
    | zero => exact ⟨rfl, rfl⟩
    | succ i =>
      have := ih i (by simpa using h)
      refine ⟨?_, ?_⟩
      · show (tabc (t :: ts))[(i + 1) * 2]? = _
        rw [show (i + 1) * 2 = i * 2 + 2 by omega]
        exact this.1
      · show (tabc (t :: ts))[(i + 1) * 2 + 1]? = _
        rw [show (i + 1) * 2 + 1 = i * 2 + 1 + 2 by omega]
        exact this.2
/-- The slice value v reads as so many tables' sizes. -/
def Tabs (w : World) (v : Value) (ts : List (Int × Int)) : Prop := Reads w 2 v ts.length (tabc ts)
theorem Tabs.open {w : World} {v : Value} {ts : List (Int × Int)} (h : Tabs w v ts) : ∃ a cap, v = .slice a ts.length cap ∧ ∀ i (h : i < ts.length), ∃ b off, a = some ⟨b, off, none⟩ ∧ b < w.heap.size ∧
    w.cell? ⟨b, off + i * 2, none⟩ = some (.int .i64 ts[i].1) ∧ w.cell? ⟨b, off + i * 2 + 1, none⟩ = some (.int .i64 ts[i].2) := by
  obtain ⟨hl, h1, ⟨hz, a, cap, rfl, hm⟩ | ⟨hp, b, off, cap, rfl, hlt, hm, hc, hcell⟩⟩ := h
  · exact ⟨a, cap, by rw [hz], fun i hi => absurd hi (by omega)⟩
  · exact ⟨_, cap, rfl, fun i hi => ⟨b, off, rfl, hlt, by have := hcell _ _ (tabc_get ts i hi).1; exact this, by have := hcell _ _ (tabc_get ts i hi).2; rw [← Nat.add_assoc] at this; exact this⟩⟩

/-- A program. -/
structure Prg where
  lo : Int
  hi : Int
  data : List Int
  tabs : List (Int × Int)
  code : List Ins
def prgc (lo hi : Int) (dv tv cv : Value) : List Value := [.int .i64 lo, .int .i64 hi, dv, tv, cv]
theorem prg_row {w : World} {b : Nat} {e : TypeId} {lo hi : Int} {dv tv cv : Value} (h : Row w b e (prgc lo hi dv tv cv)) :
    w.cell? ⟨b, 0, none⟩ = some (.int .i64 lo) ∧ w.cell? ⟨b, 1, none⟩ = some (.int .i64 hi) ∧ w.cell? ⟨b, 2, none⟩ = some dv ∧ w.cell? ⟨b, 3, none⟩ = some tv ∧ w.cell? ⟨b, 4, none⟩ = some cv :=
  ⟨by rw [h.cell]; rfl, by rw [h.cell]; rfl, by rw [h.cell]; rfl, by rw [h.cell]; rfl, by rw [h.cell]; rfl⟩
/-- Is a table's size one? -/
def TabOK (t : Int × Int) : Prop := 1 ≤ t.1 ∧ t.1 ≤ 64 ∧ 1 ≤ t.2 ∧ t.2 ≤ 64
/-- Is a program well made? -/
def Prg.made (p : Prg) : Prop := (0 ≤ p.lo ∧ p.lo ≤ p.hi ∧ p.hi ≤ 65535 ∧ p.data.length ≤ 4096 ∧ p.tabs.length ≤ 8 ∧ 0 < p.code.length) ∧ (∀ i (h : i < p.tabs.length), TabOK p.tabs[i]) ∧ AllRight p.code ∧
  ∀ i (h : i < p.code.length), p.code[i].op = 21 → p.code[i].imm ≤ p.data.length

/-- Told whether MP holds. -/
def Asked (w : World) (MP : Prop) : Ending → World → Prop := fun e w' => ∃ d : Bool, e = .returned (.bool d) ∧ (d = true ↔ MP) ∧ Below w.heap.size w w'
theorem Asked.no {w w' : World} {MP : Prop} (h : ¬ MP) (hB : Below w.heap.size w w') : Asked w MP (.returned (.bool false)) w' := ⟨false, rfl, ⟨fun h => (by cases h), fun h' => absurd h' h⟩, hB⟩
theorem Asked.yes {w w' : World} {MP : Prop} (h : MP) (hB : Below w.heap.size w w') : Asked w MP (.returned (.bool true)) w' := ⟨true, rfl, ⟨fun _ => h, fun _ => rfl⟩, hB⟩

set_option maxRecDepth 100000 in
set_option maxHeartbeats 16000000 in
theorem made_of (p : Prg) (da ta ca : Option Addr) (dc tc cc : Nat) (hld : p.data.length ≤ 4611686018427387903) (hlt : p.tabs.length ≤ 4611686018427387903) (hlc : p.code.length ≤ 4611686018427387903) (w : World)
    (ht : Tabs w (.slice ta p.tabs.length tc) p.tabs) (hc : Coded w (.slice ca p.code.length cc) p.code) :
    Calls Tryz.prog 79 #[.agg #[.int .i64 p.lo, .int .i64 p.hi, .slice da p.data.length dc, .slice ta p.tabs.length tc, .slice ca p.code.length cc]] w (Asked w p.made) := by
  obtain ⟨lo, hi, data, tabs, code⟩ := p
  simp only at ht hc hld hlt hlc ⊢
  obtain ⟨a1, c1, hv1, ht1⟩ := ht.open
  obtain ⟨rfl, _, rfl⟩ : ta = a1 ∧ tabs.length = tabs.length ∧ tc = c1 := by simpa using hv1
  obtain ⟨a2, c2, hv2, hc1⟩ := hc.open
  obtain ⟨rfl, _, rfl⟩ : ca = a2 ∧ code.length = code.length ∧ cc = c2 := by simpa using hv2
  obtain ⟨nd, hnd⟩ : ∃ n, n = data.length := ⟨_, rfl⟩
  obtain ⟨nt, hnt⟩ : ∃ n, n = tabs.length := ⟨_, rfl⟩
  obtain ⟨nc, hnc⟩ : ∃ n, n = code.length := ⟨_, rfl⟩
  rw [← hnd] at hld
  rw [← hnt] at hlt
  rw [← hnc] at hlc
  simp only [← hnd, ← hnt, ← hnc]
  have hch := fun w' (h : Coded w' (.slice ca nc cc) code) => check_of (.slice ca nc cc) code (by rw [← hnc]; exact hlc) w' h
  rw [← hnc] at hc
  have hr0 : Row (w.alloc (.cells #[.int .i64 lo, .int .i64 hi, .slice da nd dc, .slice ta nt tc, .slice ca nc cc] 60)) w.heap.size 60 (prgc lo hi (.slice da nd dc) (.slice ta nt tc) (.slice ca nc cc)) := Row.made w (prgc lo hi (.slice da nd dc) (.slice ta nt tc) (.slice ca nc cc)) _
  have hB0 := (Below.refl w.heap.size w).alloc (Nat.le_refl _) (.cells #[.int .i64 lo, .int .i64 hi, .slice da nd dc, .slice ta nt tc, .slice ca nc cc] 60)
  have HND := Lib.hid hnd
  have HNT := Lib.hid hnt
  have HNC := Lib.hid hnc
  have HT := Lib.hid ht1
  have HC := Lib.hid hc1
  have HCD := Lib.hid hc
  have HCH := Lib.hid hch
  have HR0 := Lib.hid hr0
  have HB0 := Lib.hid hB0
  have HM := Lib.hid (show (Prg.mk lo hi data tabs code).made ↔ ((0 ≤ lo ∧ lo ≤ hi ∧ hi ≤ 65535 ∧ nd ≤ 4096 ∧ nt ≤ 8 ∧ 0 < nc) ∧ (∀ i (h : i < tabs.length), TabOK tabs[i]) ∧ AllRight code ∧ ∀ i (h : i < code.length), code[i].op = 21 → code[i].imm ≤ nd) by rw [hnd, hnt, hnc]; exact Iff.rfl)
  generalize (Prg.mk lo hi data tabs code).made = MP at HM ⊢
  clear hv1 hv2 hnd hnt hnc ht ht1 hc hc1 hch hr0 hB0
  by_cases hg : 0 ≤ lo ∧ lo ≤ hi ∧ hi ≤ 65535 ∧ nd ≤ 4096 ∧ nt ≤ 8 ∧ 0 < nc
  · have t1 : decide (lo < 0) = false := by simp; omega
    have t2 : decide (hi < lo) = false := by simp; omega
    have t3 : decide (65535 < hi) = false := by simp; omega
    have t4 : decide ((4096 : Int) < (nd : Int)) = false := by simp; omega
    have t5 : decide ((8 : Int) < (nt : Int)) = false := by simp; omega
    have t6 : ((nc : Int) == 0) = false := by simp; omega
    have HG := Lib.hid hg
    clear hg
    go_enter Tryz.func79, Tryz.ntmps79
    go_wp2
    go_loopw [45] (fun s wr => ∃ i : Nat, i ≤ nt ∧ s = .int .i64 i ∧ Below w.heap.size w wr ∧ Row wr w.heap.size 60 (prgc lo hi (.slice da nd dc) (.slice ta nt tc) (.slice ca nc cc)) ∧ ∀ k (h : k < tabs.length), k < i → TabOK tabs[k]) (fun s _ => nt - (intOf s).toNat)
    case atStart => exact ⟨0, Nat.zero_le _, rfl, HB0.out, HR0.out, fun k _ hk => absurd hk (by omega)⟩
    case round =>
      obtain ⟨i, hi', rfl, hB, hR, hT⟩ := hrel
      have HB := Lib.hid hB
      have HR := Lib.hid hR
      have HTB := Lib.hid hT
      clear hB hR hT
      by_cases hlt' : i < nt
      · obtain ⟨b, off, rfl, hb, e0', e1'⟩ := HT.out i (by rw [← HNT.out]; exact hlt')
        obtain ⟨R, hRR⟩ : ∃ R, R = (tabs[i]'(by rw [← HNT.out]; exact hlt')).1 := ⟨_, rfl⟩
        obtain ⟨C, hCC⟩ : ∃ C, C = (tabs[i]'(by rw [← HNT.out]; exact hlt')).2 := ⟨_, rfl⟩
        rw [← hRR] at e0'
        rw [← hCC] at e1'
        have e0 : wr.cell? ⟨b, off + i * 2, none⟩ = some (.int .i64 R) := (HB.out.cell (p := ⟨b, off + i * 2, none⟩) hb).trans e0'
        have e1 : wr.cell? ⟨b, off + i * 2 + 1, none⟩ = some (.int .i64 C) := (HB.out.cell (p := ⟨b, off + i * 2 + 1, none⟩) hb).trans e1'
        have hok : TabOK (tabs[i]'(by rw [← HNT.out]; exact hlt')) ↔ (1 ≤ R ∧ R ≤ 64 ∧ 1 ≤ C ∧ C ≤ 64) := by rw [hRR, hCC]; exact Iff.rfl
        have HOK := Lib.hid hok
        have HBX := Lib.hid (HB.out.alloc HB.out.size (.cells #[.int .i64 R, .int .i64 C] 148))
        have HRX := Lib.hid (HR.out.alloc (.cells #[.int .i64 R, .int .i64 C] 148))
        clear e0' e1' hRR hCC hok
        have hj1 : (0 : Int) ≤ (i : Int) := by omega
        have hj3 : (i : Int) < nt := by omega
        obtain ⟨b1, u1⟩ : ∃ d, decide (R < 1) = d := ⟨_, rfl⟩
        obtain ⟨b2, u2⟩ : ∃ d, decide (64 < R) = d := ⟨_, rfl⟩
        obtain ⟨b3, u3⟩ : ∃ d, decide (C < 1) = d := ⟨_, rfl⟩
        obtain ⟨b4, u4⟩ : ∃ d, decide (64 < C) = d := ⟨_, rfl⟩
        have hcs : (b1 = false ∧ b2 = false ∧ b3 = false ∧ b4 = false ∧ 1 ≤ R ∧ R ≤ 64 ∧ 1 ≤ C ∧ C ≤ 64) ∨ ((b1 = true ∨ (b1 = false ∧ b2 = true) ∨ (b1 = false ∧ b2 = false ∧ b3 = true) ∨ (b1 = false ∧ b2 = false ∧ b3 = false ∧ b4 = true)) ∧ ¬ (1 ≤ R ∧ R ≤ 64 ∧ 1 ≤ C ∧ C ≤ 64)) := by
          rw [← u1, ← u2, ← u3, ← u4]
          simp only [decide_eq_true_eq, decide_eq_false_iff_not]
          omega
        rcases hcs with ⟨rfl, rfl, rfl, rfl, hcs⟩ | ⟨hcs, hno⟩
        · have HO := Lib.hid (HOK.out.2 hcs)
          clear hcs
          go_wp2
          go_roundw
          case rel =>
            exact ⟨i + 1, hlt', by go_num, HBX.out, HRX.out, fun k hk hki => by
              by_cases hke : k = i
              · subst hke; exact HO.out
              · exact HTB.out k hk (by omega)⟩
          case measure => simp [intOf]; omega
        · have HNO := Lib.hid (show ¬ MP from fun h => hno (HOK.out.1 ((HM.out.1 h).2.1 i (by rw [← HNT.out]; exact hlt'))))
          clear hno
          rcases hcs with rfl | ⟨rfl, rfl⟩ | ⟨rfl, rfl, rfl⟩ | ⟨rfl, rfl, rfl, rfl⟩
          all_goals
            go_wp2
            exact bodyPost_ret (v := .bool false) (by simp [results, Tryz.results79, go_sem]) rfl (Asked.no HNO.out HBX.out)
      · obtain rfl : i = nt := by omega
        obtain ⟨c0, c1, c2, c3, c4⟩ := prg_row HR.out
        go_wp2_with fail
        refine (HCH.out _ (HCD.out.below HB.out (Nat.le_refl _))).mono ?_
        rintro e w2 ⟨at', er, rfl, hiff, hB2⟩
        have HIFF := Lib.hid hiff
        have HR2 := Lib.hid (HR.out.below hB2 HR.out.lt)
        have HB2 := Lib.hid (HB.out.trans (hB2.mono HB.out.size))
        clear hB2 hiff c0 c1 c2 c3 c4
        obtain ⟨c0, c1, c2, c3, c4⟩ := prg_row HR2.out
        by_cases hz : er = 0
        · have hne : (er != 0) = false := by simp [hz]
          have HAR := Lib.hid (HIFF.out.1 hz)
          clear hz
          go_wp2
          clear c0 c1 c2 c3 c4
          go_loopw [79] (fun s wr => ∃ j : Nat, j ≤ nc ∧ s = .int .i64 j ∧ Below w.heap.size w wr ∧ Row wr w.heap.size 60 (prgc lo hi (.slice da nd dc) (.slice ta i tc) (.slice ca nc cc)) ∧ ∀ k (h : k < code.length), k < j → code[k].op = 21 → code[k].imm ≤ nd) (fun s _ => nc - (intOf s).toNat)
          case atStart => exact ⟨0, Nat.zero_le _, rfl, HB2.out, HR2.out, fun k _ hk => absurd hk (by omega)⟩
          case round =>
            obtain ⟨j, hj', rfl, hB, hR, hD⟩ := hrel
            have HB3 := Lib.hid hB
            have HR3 := Lib.hid hR
            have HD3 := Lib.hid hD
            clear hB hR hD
            by_cases hltj : j < nc
            · obtain ⟨b, off, rfl, hb, hcell⟩ := HC.out j (by rw [← HNC.out]; exact hltj)
              obtain ⟨x, hx⟩ : ∃ x, x = code[j]'(by rw [← HNC.out]; exact hltj) := ⟨_, rfl⟩
              rw [← hx] at hcell
              have hcw : ∀ jj, jj < 8 → wr.cell? ⟨b, off + j * 8 + jj, none⟩ = (x.cs)[jj]? := fun jj hjj => (HB3.out.cell (p := ⟨b, off + j * 8 + jj, none⟩) hb).trans (hcell jj hjj)
              have e0 := hcw 0 (by decide)
              have e1 := hcw 1 (by decide)
              have e2 := hcw 2 (by decide)
              have e3 := hcw 3 (by decide)
              have e4 := hcw 4 (by decide)
              have e5 := hcw 5 (by decide)
              have e6 := hcw 6 (by decide)
              have e7 := hcw 7 (by decide)
              have hxo : (code[j]'(by rw [← HNC.out]; exact hltj)).op = x.op := by rw [hx]
              have hxi : (code[j]'(by rw [← HNC.out]; exact hltj)).imm = x.imm := by rw [hx]
              obtain ⟨op, nar, reg, size, dst, src, of, imm⟩ := x
              simp only [Ins.cs, insc, List.getElem?_cons_zero, List.getElem?_cons_succ, Nat.add_zero] at e0 e1 e2 e3 e4 e5 e6 e7
              simp only at hxo hxi
              have HXO := Lib.hid hxo
              have HXI := Lib.hid hxi
              have HBX := Lib.hid (HB3.out.alloc HB3.out.size (.cells #[.int .i64 op, .bool nar, .bool reg, .int .i64 size, .int .i64 dst, .int .i64 src, .int .i64 of, .int .i64 imm] 23))
              have HRX := Lib.hid (HR3.out.alloc (.cells #[.int .i64 op, .bool nar, .bool reg, .int .i64 size, .int .i64 dst, .int .i64 src, .int .i64 of, .int .i64 imm] 23))
              have c2 := (prg_row HR3.out).2.2.1
              have hlw := HR3.out.lt
              clear hcell hcw hx hxo hxi
              have hj1 : (0 : Int) ≤ (j : Int) := by omega
              have hj3 : (j : Int) < nc := by omega
              by_cases ho : op = 21
              · have ho1 : (op == 21) = true := by simp [ho]
                have HO := Lib.hid ho
                clear ho
                by_cases hi3 : imm ≤ nd
                · have hi4 : decide ((nd : Int) < imm) = false := by simp; omega
                  have HI := Lib.hid hi3
                  clear hi3
                  go_wp2
                  go_roundw
                  case rel =>
                    exact ⟨j + 1, hltj, by go_num, HBX.out, HRX.out, fun k hk hki hop => by
                      by_cases hke : k = j
                      · subst hke; rw [HXI.out]; exact HI.out
                      · exact HD3.out k hk (by omega) hop⟩
                  case measure => simp [intOf]; omega
                · have hi4 : decide ((nd : Int) < imm) = true := by simp; omega
                  have HNO := Lib.hid (show ¬ MP from fun h => hi3 (by
                    have := (HM.out.1 h).2.2.2 j (by rw [← HNC.out]; exact hltj) (by rw [HXO.out]; exact HO.out)
                    rw [HXI.out] at this
                    exact this))
                  clear hi3
                  go_wp2
                  exact bodyPost_ret (v := .bool false) (by simp [results, Tryz.results79, go_sem]) rfl (Asked.no HNO.out HBX.out)
              · have ho1 : (op == 21) = false := by simp [ho]
                have HO := Lib.hid ho
                clear ho
                go_wp2
                go_roundw
                case rel =>
                  exact ⟨j + 1, hltj, by go_num, HBX.out, HRX.out, fun k hk hki hop => by
                    by_cases hke : k = j
                    · subst hke; rw [HXO.out] at hop; exact absurd hop HO.out
                    · exact HD3.out k hk (by omega) hop⟩
                case measure => simp [intOf]; omega
            · obtain rfl : j = nc := by omega
              have HYES := Lib.hid (show MP from HM.out.2 ⟨HG.out, fun k hk => HTB.out k hk (by rw [HNT.out]; exact hk), HAR.out, fun k hk hop => HD3.out k hk (by rw [HNC.out]; exact hk) hop⟩)
              go_wp2
              exact bodyPost_ret (v := .bool true) (by simp [results, Tryz.results79, go_sem]) rfl (Asked.yes HYES.out HB3.out)
        · have hne : (er != 0) = true := by simp [hz]
          have HNO := Lib.hid (show ¬ MP from fun h => hz (HIFF.out.2 (HM.out.1 h).2.2.1))
          clear hz
          go_wp2
          exact bodyPost_ret (v := .bool false) (by simp [results, Tryz.results79, go_sem]) rfl (Asked.no HNO.out HB2.out)
  · have hbad : lo < 0 ∨ (0 ≤ lo ∧ hi < lo) ∨ (0 ≤ lo ∧ lo ≤ hi ∧ 65535 < hi) ∨ (0 ≤ lo ∧ lo ≤ hi ∧ hi ≤ 65535 ∧ 4096 < nd) ∨ (0 ≤ lo ∧ lo ≤ hi ∧ hi ≤ 65535 ∧ nd ≤ 4096 ∧ 8 < nt) ∨ (0 ≤ lo ∧ lo ≤ hi ∧ hi ≤ 65535 ∧ nd ≤ 4096 ∧ nt ≤ 8 ∧ nc = 0) := by omega
    have HNO := Lib.hid (show ¬ MP from fun h => hg (HM.out.1 h).1)
    clear hg
    obtain ⟨b1, t1⟩ : ∃ d, decide (lo < 0) = d := ⟨_, rfl⟩
    obtain ⟨b2, t2⟩ : ∃ d, decide (hi < lo) = d := ⟨_, rfl⟩
    obtain ⟨b3, t3⟩ : ∃ d, decide (65535 < hi) = d := ⟨_, rfl⟩
    obtain ⟨b4, t4⟩ : ∃ d, decide ((4096 : Int) < (nd : Int)) = d := ⟨_, rfl⟩
    obtain ⟨b5, t5⟩ : ∃ d, decide ((8 : Int) < (nt : Int)) = d := ⟨_, rfl⟩
    obtain ⟨b6, t6⟩ : ∃ d, ((nc : Int) == 0) = d := ⟨_, rfl⟩
    have hcases : b1 = true ∨ (b1 = false ∧ b2 = true) ∨ (b1 = false ∧ b2 = false ∧ b3 = true) ∨ (b1 = false ∧ b2 = false ∧ b3 = false ∧ b4 = true) ∨ (b1 = false ∧ b2 = false ∧ b3 = false ∧ b4 = false ∧ b5 = true) ∨ (b1 = false ∧ b2 = false ∧ b3 = false ∧ b4 = false ∧ b5 = false ∧ b6 = true) := by
      rw [← t1, ← t2, ← t3, ← t4, ← t5, ← t6]
      simp only [decide_eq_true_eq, decide_eq_false_iff_not, beq_iff_eq]
      omega
    clear hbad
    rcases hcases with rfl | ⟨rfl, rfl⟩ | ⟨rfl, rfl, rfl⟩ | ⟨rfl, rfl, rfl, rfl⟩ | ⟨rfl, rfl, rfl, rfl, rfl⟩ | ⟨rfl, rfl, rfl, rfl, rfl, rfl⟩
    all_goals
      go_enter Tryz.func79, Tryz.ntmps79
      go_wp2
      exact bodyPost_ret (v := .bool false) (by simp [results, Tryz.results79, go_sem]) rfl (Asked.no HNO.out HB0.out)
end Go.Proofs.YtbkcpepalicbjaaGreat
