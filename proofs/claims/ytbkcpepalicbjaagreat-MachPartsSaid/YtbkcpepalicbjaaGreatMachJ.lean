/-
  Inputs: package mach's fits.
-/
import Derived.Test.YtbkcpepalicbjaaGreatMachI
import Derived.Test.YtbkcpepalicbjaaGreatBytes
namespace Go.Proofs.YtbkcpepalicbjaaGreat
open Go.RowKit
set_option linter.unusedVariables false
set_option linter.unusedSimpArgs false

/-- The slice value v holds these slice values, which read as these rows of bytes. -/
structure Rowed (w : World) (v : Value) (vals : List Value) (rows : List (List Int)) : Prop where
  reads : Reads w 1 v rows.length vals
  held : ∀ i (h : i < rows.length), ∃ u, vals[i]? = some u ∧ Held w u rows[i]
theorem Rowed.below {w w' : World} {v : Value} {vals : List Value} {rows : List (List Int)} {B : Nat} (h : Rowed w v vals rows) (hb : Below B w w') (hB : w.heap.size ≤ B) : Rowed w' v vals rows :=
  ⟨h.reads.below hb hB, fun i hi => let ⟨u, hu, hh⟩ := h.held i hi; ⟨u, hu, hh.below hb hB⟩⟩
theorem Rowed.open {w : World} {v : Value} {vals : List Value} {rows : List (List Int)} (h : Rowed w v vals rows) : ∃ a cap, v = .slice a rows.length cap ∧ ∀ i (h : i < rows.length), ∃ b off u, a = some ⟨b, off, none⟩ ∧ b < w.heap.size ∧
    vals[i]? = some u ∧ w.cell? ⟨b, off + i, none⟩ = some u ∧ Held w u rows[i] := by
  obtain ⟨⟨hl, h1, ⟨hz, a, cap, rfl, hm⟩ | ⟨hp, b, off, cap, rfl, hlt, hm, hc, hcell⟩⟩, hh⟩ := h
  · exact ⟨a, cap, by rw [hz], fun i hi => absurd hi (by omega)⟩
  · refine ⟨_, cap, rfl, fun i hi => ?_⟩
    obtain ⟨u, hu, hhu⟩ := hh i hi
    exact ⟨b, off, u, rfl, hlt, hu, hcell i u hu, hhu⟩
theorem held_slice {w : World} {v : Value} {xs : List Int} (h : Held w v xs) : ∃ a cap, v = .slice a xs.length cap := by
  obtain ⟨_, ⟨rfl, rfl | ⟨a, cap, rfl, _⟩⟩ | ⟨hp, b, off, cap, rfl, _⟩⟩ := h
  · exact ⟨_, _, rfl⟩
  · exact ⟨_, _, rfl⟩
  · exact ⟨_, _, rfl⟩

def inpc (xv tv : Value) : List Value := [xv, tv]
theorem inp_row {w : World} {b : Nat} {e : TypeId} {xv tv : Value} (h : Row w b e (inpc xv tv)) : w.cell? ⟨b, 0, none⟩ = some xv ∧ w.cell? ⟨b, 1, none⟩ = some tv :=
  ⟨by rw [h.cell]; rfl, by rw [h.cell]; rfl⟩
theorem row_two (w : World) (o : Obj) (cs : List Value) (e : TypeId) : Row ((w.alloc o).alloc (.cells cs.toArray e)) (w.heap.size + 1) e cs := by
  have := Row.made (w.alloc o) cs e
  simpa using this
/-- Does an input fit a program? -/
def fitsP (lo hi : Int) (tabs : List (Int × Int)) (nx : Nat) (rows : List (List Int)) : Prop :=
  (lo ≤ nx ∧ nx ≤ hi ∧ rows.length = tabs.length) ∧ ∀ i (h : i < tabs.length) (h' : i < rows.length), (rows[i].length : Int) = tabs[i].1 * tabs[i].2

set_option maxRecDepth 100000 in
set_option maxHeartbeats 16000000 in
theorem fits_of (lo hi : Int) (tabs : List (Int × Int)) (dv cv : Value) (ta xa ra : Option Addr) (tc xc rc nx : Nat) (vals : List Value) (rows : List (List Int))
    (hlt : tabs.length ≤ 4611686018427387903) (hrl : rows.length ≤ 4611686018427387903) (hxl : nx ≤ 4611686018427387903) (hok : ∀ i (h : i < tabs.length), TabOK tabs[i]) (w : World)
    (ht : Tabs w (.slice ta tabs.length tc) tabs) (hr : Rowed w (.slice ra rows.length rc) vals rows) :
    Calls Tryz.prog 80 #[.agg #[.int .i64 lo, .int .i64 hi, dv, .slice ta tabs.length tc, cv], .agg #[.slice xa nx xc, .slice ra rows.length rc]] w (Asked w (fitsP lo hi tabs nx rows)) := by
  obtain ⟨a1, c1, hv1, ht1⟩ := ht.open
  obtain ⟨rfl, _, rfl⟩ : ta = a1 ∧ tabs.length = tabs.length ∧ tc = c1 := by simpa using hv1
  obtain ⟨a2, c2, hv2, hr1⟩ := hr.open
  obtain ⟨rfl, _, rfl⟩ : ra = a2 ∧ rows.length = rows.length ∧ rc = c2 := by simpa using hv2
  have hM : fitsP lo hi tabs nx rows ↔ ((lo ≤ nx ∧ nx ≤ hi ∧ rows.length = tabs.length) ∧ ∀ i (h : i < tabs.length) (h' : i < rows.length), (rows[i].length : Int) = tabs[i].1 * tabs[i].2) := Iff.rfl
  generalize fitsP lo hi tabs nx rows = MP at hM ⊢
  obtain ⟨nt, hnt⟩ : ∃ n, n = tabs.length := ⟨_, rfl⟩
  obtain ⟨nr, hnr⟩ : ∃ n, n = rows.length := ⟨_, rfl⟩
  rw [← hnt] at hlt
  rw [← hnr] at hrl
  simp only [← hnt, ← hnr]
  have hM2 : MP ↔ ((lo ≤ nx ∧ nx ≤ hi ∧ nr = nt) ∧ ∀ i (h : i < tabs.length) (h' : i < rows.length), (rows[i].length : Int) = tabs[i].1 * tabs[i].2) := by rw [hnt, hnr]; exact hM
  have hr0 : Row ((w.alloc (.cells #[.int .i64 lo, .int .i64 hi, dv, .slice ta nt tc, cv] 60)).alloc (.cells #[.slice xa nx xc, .slice ra nr rc] 62)) w.heap.size 60 (prgc lo hi dv (.slice ta nt tc) cv) := (Row.made w (prgc lo hi dv (.slice ta nt tc) cv) _).alloc _
  have hr2 : Row ((w.alloc (.cells #[.int .i64 lo, .int .i64 hi, dv, .slice ta nt tc, cv] 60)).alloc (.cells #[.slice xa nx xc, .slice ra nr rc] 62)) (w.heap.size + 1) 62 (inpc (.slice xa nx xc) (.slice ra nr rc)) := row_two w _ (inpc (.slice xa nx xc) (.slice ra nr rc)) _
  have hB0 := ((Below.refl w.heap.size w).alloc (Nat.le_refl _) (.cells #[.int .i64 lo, .int .i64 hi, dv, .slice ta nt tc, cv] 60)).alloc (by simp) (.cells #[.slice xa nx xc, .slice ra nr rc] 62)
  have HNT := Lib.hid hnt
  have HNR := Lib.hid hnr
  have HT := Lib.hid ht1
  have HV := Lib.hid hr1
  have HR0 := Lib.hid hr0
  have HR1 := Lib.hid hr2
  have HB0 := Lib.hid hB0
  have HM := Lib.hid hM2
  have HOK := Lib.hid hok
  clear hv1 hv2 hnt hnr ht ht1 hr hr1 hr0 hr2 hB0 hM hM2 hok
  by_cases hg : lo ≤ nx ∧ nx ≤ hi ∧ nr = nt
  · obtain ⟨g1, g2, rfl⟩ := hg
    have t1 : decide ((nx : Int) < lo) = false := by simp; omega
    have t2 : decide (hi < (nx : Int)) = false := by simp; omega
    have t3 : ((nr : Int) != nr) = false := by simp
    have HG := Lib.hid (And.intro g1 g2)
    clear g1 g2
    go_enter Tryz.func80, Tryz.ntmps80
    go_wp2
    go_loopw [33] (fun s wr => ∃ i : Nat, i ≤ nr ∧ s = .int .i64 i ∧ Below w.heap.size w wr ∧ Row wr w.heap.size 60 (prgc lo hi dv (.slice ta nr tc) cv) ∧ Row wr (w.heap.size + 1) 62 (inpc (.slice xa nx xc) (.slice ra nr rc)) ∧
      ∀ k (h : k < tabs.length) (h' : k < rows.length), k < i → (rows[k].length : Int) = tabs[k].1 * tabs[k].2) (fun s _ => nr - (intOf s).toNat)
    case atStart => exact ⟨0, Nat.zero_le _, rfl, HB0.out, HR0.out, HR1.out, fun k _ _ hk => absurd hk (by omega)⟩
    case round =>
      obtain ⟨i, hi', rfl, hB, hR, hR', hT⟩ := hrel
      have HB := Lib.hid hB
      have HR := Lib.hid hR
      have HR' := Lib.hid hR'
      have HTB := Lib.hid hT
      clear hB hR hR' hT
      by_cases hlt' : i < nr
      · obtain ⟨b, off, rfl, hb, e0', e1'⟩ := HT.out i (by rw [← HNT.out]; exact hlt')
        obtain ⟨b2, off2, u, rfl, hb2, hu, e2', hH⟩ := HV.out i (by rw [← HNR.out]; exact hlt')
        obtain ⟨ua, uc, rfl⟩ := held_slice hH
        obtain ⟨R, hRR⟩ : ∃ R, R = (tabs[i]'(by rw [← HNT.out]; exact hlt')).1 := ⟨_, rfl⟩
        obtain ⟨C, hCC⟩ : ∃ C, C = (tabs[i]'(by rw [← HNT.out]; exact hlt')).2 := ⟨_, rfl⟩
        obtain ⟨L, hLL⟩ : ∃ L, L = (rows[i]'(by rw [← HNR.out]; exact hlt')).length := ⟨_, rfl⟩
        rw [← hRR] at e0'
        rw [← hCC] at e1'
        rw [← hLL] at e2'
        have hto := HOK.out i (by rw [← HNT.out]; exact hlt')
        unfold TabOK at hto
        rw [← hRR, ← hCC] at hto
        have hRC : 0 ≤ R * C ∧ R * C ≤ 4096 := by
          obtain ⟨q1, q2, q3, q4⟩ := hto
          have h1 : R * C ≤ 64 * C := Int.mul_le_mul_of_nonneg_right q2 (by omega)
          have h2 : 0 ≤ R * C := Int.mul_nonneg (by omega) (by omega)
          exact ⟨h2, by omega⟩
        have hwr : wrap64 (R * C) = R * C := by unfold wrap64; omega
        have e0 : wr.cell? ⟨b, off + i * 2, none⟩ = some (.int .i64 R) := (HB.out.cell (p := ⟨b, off + i * 2, none⟩) hb).trans e0'
        have e1 : wr.cell? ⟨b, off + i * 2 + 1, none⟩ = some (.int .i64 C) := (HB.out.cell (p := ⟨b, off + i * 2 + 1, none⟩) hb).trans e1'
        have e2 : wr.cell? ⟨b2, off2 + i, none⟩ = some (.slice ua L uc) := (HB.out.cell (p := ⟨b2, off2 + i, none⟩) hb2).trans e2'
        obtain ⟨c0, c1⟩ := inp_row HR'.out
        have hl1 := HR'.out.lt
        have hl2 : b2 < wr.heap.size := Nat.lt_of_lt_of_le hb2 HB.out.size
        have HBX := Lib.hid (HB.out.alloc HB.out.size (.cells #[.int .i64 R, .int .i64 C] 148))
        have HRX := Lib.hid (HR.out.alloc (.cells #[.int .i64 R, .int .i64 C] 148))
        have HRY := Lib.hid (HR'.out.alloc (.cells #[.int .i64 R, .int .i64 C] 148))
        have HEQ := Lib.hid (show ((rows[i]'(by rw [← HNR.out]; exact hlt')).length : Int) = (tabs[i]'(by rw [← HNT.out]; exact hlt')).1 * (tabs[i]'(by rw [← HNT.out]; exact hlt')).2 ↔ (L : Int) = R * C by rw [hRR, hCC, hLL])
        clear e0' e1' e2' hRR hCC hLL hto hRC hH hu
        have hj1 : (0 : Int) ≤ (i : Int) := by omega
        have hj3 : (i : Int) < nr := by omega
        by_cases hq : (L : Int) = R * C
        · have hq1 : ((L : Int) != R * C) = false := by simp [hq]
          have HQ := Lib.hid hq
          clear hq
          go_wp2_with fail
          go_quiet (fail)
          go_wp2
          go_roundw
          case rel =>
            exact ⟨i + 1, hlt', by go_num, bdrewN HBX.out _, HRX.out.drewN _, HRY.out.drewN _, fun k hk hk' hki => by
              by_cases hke : k = i
              · subst hke; exact HEQ.out.2 HQ.out
              · exact HTB.out k hk hk' (by omega)⟩
          case measure => simp [intOf]; omega
        · have hq1 : ((L : Int) != R * C) = true := by simp [hq]
          have HNO := Lib.hid (show ¬ MP from fun h => hq (HEQ.out.1 ((HM.out.1 h).2 i (by rw [← HNT.out]; exact hlt') (by rw [← HNR.out]; exact hlt'))))
          clear hq
          go_wp2_with fail
          go_quiet (fail)
          go_wp2
          exact bodyPost_ret (v := .bool false) (by simp [results, Tryz.results80, go_sem]) rfl (Asked.no HNO.out (bdrewN HBX.out _))
      · obtain rfl : i = nr := by omega
        have HYES := Lib.hid (show MP from HM.out.2 ⟨⟨HG.out.1, HG.out.2, by first | rfl | trivial⟩, fun k hk hk' => HTB.out k hk hk' (by rw [HNT.out]; exact hk)⟩)
        go_wp2
        exact bodyPost_ret (v := .bool true) (by simp [results, Tryz.results80, go_sem]) rfl (Asked.yes HYES.out HB.out)
  · have HNO := Lib.hid (show ¬ MP from fun h => hg (HM.out.1 h).1)
    obtain ⟨b1, t1⟩ : ∃ d, decide ((nx : Int) < lo) = d := ⟨_, rfl⟩
    obtain ⟨b2, t2⟩ : ∃ d, decide (hi < (nx : Int)) = d := ⟨_, rfl⟩
    obtain ⟨b3, t3⟩ : ∃ d, ((nr : Int) != nt) = d := ⟨_, rfl⟩
    have hcases : b1 = true ∨ (b1 = false ∧ b2 = true) ∨ (b1 = false ∧ b2 = false ∧ b3 = true) := by
      rw [← t1, ← t2, ← t3]
      simp only [decide_eq_true_eq, decide_eq_false_iff_not, bne_iff_ne, ne_eq]
      omega
    clear hg
    rcases hcases with rfl | ⟨rfl, rfl⟩ | ⟨rfl, rfl, rfl⟩
    all_goals
      go_enter Tryz.func80, Tryz.ntmps80
      go_wp2
      exact bodyPost_ret (v := .bool false) (by simp [results, Tryz.results80, go_sem]) rfl (Asked.no HNO.out HB0.out)
end Go.Proofs.YtbkcpepalicbjaaGreat
