/-
  MachOffsets: a pointer's offset is moved exactly, within what a pointer may have, and beyond it is a trap; two pointers of a region stand in the order of their offsets; no condition.
-/
import Derived.Test.YtbkcpepalicbjaaGreatMachBE
import Derived.Test.YtbkcpepalicbjaaGreatBuilds
import Derived.Test.YtbkcpepalicbjaaGreatFacts
import Derived.OpenShut
import Derived.Deep.CutBlock
namespace Go.Proofs.YtbkcpepalicbjaaGreat.machOffsets
open Go.ChangeShapes Go.WideShapes Go.ChangeAt Go.RowKit
set_option linter.unusedVariables false
set_option linter.unusedSimpArgs false

def farB (x : Int) : Bool := decide (x < -1048576) || decide (1048576 < x)
theorem far_of (x : Int) (w : World) : Calls Tryz.prog 31 #[.int .i64 x] w fun e w' => e = .returned (.bool (farB x)) ∧ w = w' := by
  unfold farB
  cases h1 : decide (x < -1048576) with
  | true =>
    simp only [Bool.true_or]
    go_enter Tryz.func31, Tryz.ntmps31
    go_wp2
    go_ret
    exact ⟨rfl, rfl⟩
  | false =>
    simp only [Bool.false_or]
    go_enter Tryz.func31, Tryz.ntmps31
    go_wp2
    go_ret
    exact ⟨rfl, rfl⟩
set_option maxRecDepth 100000 in
set_option maxHeartbeats 4000000 in
theorem moves_of (a b : Int) (ra : i64r a) (rb : i64r b) (w : World) : Calls Tryz.prog 30 #[.int .i64 a, .int .i64 b] w fun e w' => e = .returned (.tuple #[.int .i64 (movesF a b).1, .int .i64 (movesF a b).2]) ∧ Below w.heap.size w w' := by
  have HR := Lib.hid (moves_runs a b ra rb)
  have hbe := run_i0
  have hbo := run_i0245
  obtain ⟨r0, h0⟩ : ∃ r, r = (movesF a b).1 := ⟨_, rfl⟩
  obtain ⟨er, h1⟩ : ∃ r, r = (movesF a b).2 := ⟨_, rfl⟩
  rw [← h0, ← h1] at HR ⊢
  clear h0 h1 ra rb
  go_enter Tryz.func30, Tryz.ntmps30
  go_upto_region 1 with fail
  go_cut [6, 7] (fun s6 s7 wx => ∃ (q : Nat) (x1 x2 x3 : Value), s6 = .pointer (some ⟨q, 0, none⟩) ∧ s7 = .int .i64 er ∧ Row wx q 31 [.int .i64 r0, x1, x2, x3] ∧ Below w.heap.size w wx)
  case first =>
    have hK : KL w w := ⟨Below.refl _ _⟩
    go_wp2_with (first
      | (go_at_call 21; refine (wide_of _ _ _).mono ?_; rintro e wW ⟨rfl, hbW⟩; have hK := hK.next hbW)
      | (go_at_call 20; refine (HR.out _ _ _ (coded_new (mvc a b) (by simp [mvc]) (by simp [mvc]) _)).mono ?_; rintro e wR ⟨_, _, _, _, _, _, _, _, _, rfl, hbR⟩))
    go_meet
    case rel => exact ⟨_, _, _, _, rfl, rfl, Row.made _ [_, _, _, _] _, ((hK.next (below_map _ _)).next hbR).bel.alloc (by have := ((hK.next (below_map _ _)).next hbR).bel.size; exact this) _⟩
  case rest =>
    obtain ⟨q, x1, x2, x3, rfl, rfl, hR, hBz⟩ := hcut
    obtain ⟨⟨_, _, _, _⟩, _⟩ := hR.four
    go_wp2_with fail
    exact bodyPost_ret (v := .tuple #[.int .i64 r0, .int .i64 er]) (by simp [results, Tryz.results30, go_sem]) rfl ⟨rfl, hBz⟩
set_option maxRecDepth 100000 in
set_option maxHeartbeats 4000000 in
theorem walk (a : Int) (ra : -9223372036854775808 ≤ a ∧ a ≤ 9223372036854775807) (b : Int) (rb : -9223372036854775808 ≤ b ∧ b ≤ 9223372036854775807) (w : World) :
    Calls Tryz.prog 8 #[.int .i64 a, .int .i64 b] w fun e w' => e = .returned (.bool true) ∧ Below w.heap.size w w' := by
  have HRA := Lib.hid ra
  have HRB := Lib.hid rb
  clear ra rb
  obtain ⟨got, hgot⟩ : ∃ r, r = (movesF a b).1 := ⟨_, rfl⟩
  obtain ⟨er, her⟩ : ∃ r, r = (movesF a b).2 := ⟨_, rfl⟩
  have hmv := fun w => moves_of a b HRA.out HRB.out w
  simp only [← hgot, ← her] at hmv
  have HMV := Lib.hid hmv
  clear hmv
  unfold movesF at hgot her
  cases hA : farB a with
  | true =>
    have hA' : a < -1048576 ∨ 1048576 < a := by unfold farB at hA; simpa using hA
    rw [if_pos hA'] at hgot her
    subst hgot her
    clear hA'
    go_enter Tryz.func8, Tryz.ntmps8
    go_wp2_with (first
      | (go_at_call 30; refine (HMV.out _).mono ?_; rintro e wM ⟨rfl, hbM⟩)
      | (go_at_call 31; refine (far_of _ _).mono ?_; rintro e w' ⟨he, rfl⟩; rw [hA] at he; subst he))
    go_ret
    exact ⟨rfl, hbM⟩
  | false =>
    have hA' : ¬(a < -1048576 ∨ 1048576 < a) := by unfold farB at hA; simp at hA; omega
    rw [if_neg hA'] at hgot her
    have HA := Lib.hid hA'
    have hwab : -4194304 ≤ b ∧ b ≤ 4194304 → wrap64 (a - b) = a - b := by unfold wrap64; omega
    have HWAB := Lib.hid hwab
    clear hA' hwab
    have HGOT := Lib.hid (And.intro hgot her)
    clear hgot her
    go_enter Tryz.func8, Tryz.ntmps8
    go_upto_block 0 with (go_at_call 30; refine (HMV.out _).mono ?_; rintro e wM ⟨rfl, hbM⟩)
    have HB := Lib.hid hbM
    clear hbM
    go_cut [] (fun wx => Below w.heap.size w wx)
    case first =>
      cases q1 : decide (b < -4194304) with
      | true =>
        obtain ⟨hgot, her⟩ := HGOT.out
        rw [if_pos (Or.inl (by simpa using q1))] at hgot her
        have g1 : (er != 85) = false := by rw [her]; rfl
        have g2 : (got != 0) = false := by rw [hgot]; rfl
        clear hgot her
        go_wp2_with (go_at_call 31; refine (far_of _ _).mono ?_; rintro e w' ⟨he, rfl⟩; rw [hA] at he; subst he)
        go_meet
        case rel => exact HB.out
      | false =>
        cases q2 : decide (4194304 < b) with
        | true =>
          obtain ⟨hgot, her⟩ := HGOT.out
          rw [if_pos (Or.inr (Or.inl (by simpa using q2)))] at hgot her
          have g1 : (er != 85) = false := by rw [her]; rfl
          have g2 : (got != 0) = false := by rw [hgot]; rfl
          clear hgot her
          go_wp2_with (go_at_call 31; refine (far_of _ _).mono ?_; rintro e w' ⟨he, rfl⟩; rw [hA] at he; subst he)
          go_meet
          case rel => exact HB.out
        | false =>
          have hw := HWAB.out (by simp at q1 q2; omega)
          cases hAB : farB (a - b) with
          | true =>
            have hAB' : a - b < -1048576 ∨ 1048576 < a - b := by unfold farB at hAB; simpa using hAB
            obtain ⟨hgot, her⟩ := HGOT.out
            rw [if_pos (Or.inr (Or.inr hAB'))] at hgot her
            have g1 : (er != 85) = false := by rw [her]; rfl
            have g2 : (got != 0) = false := by rw [hgot]; rfl
            clear hAB' hgot her
            go_wp2_with (go_at_call 31; refine (far_of _ _).mono ?_; rintro e w' ⟨he, rfl⟩; (first | rw [hA] at he | rw [hAB] at he); subst he)
            go_meet
            case rel => exact HB.out
          | false =>
            have hAB' : ¬(a - b < -1048576 ∨ 1048576 < a - b) := by unfold farB at hAB; simp at hAB; omega
            obtain ⟨hgot, her⟩ := HGOT.out
            rw [if_neg (by simp at q1 q2; omega)] at hgot her
            have g1 : (er != 0) = false := by rw [her]; rfl
            have g2 : (got != a - b) = false := by rw [hgot]; simp
            clear hAB' hgot her
            go_wp2_with (go_at_call 31; refine (far_of _ _).mono ?_; rintro e w' ⟨he, rfl⟩; (first | rw [hA] at he | rw [hAB] at he); subst he)
            go_meet
            case rel => exact HB.out
    case rest =>
      clear HB HGOT HMV HWAB
      have HB := Lib.hid hcut
      clear hcut
      cases hF : farB b with
      | true =>
        go_wp2_with (go_at_call 31; refine (far_of _ _).mono ?_; rintro e w' ⟨he, rfl⟩; rw [hF] at he; subst he)
        go_ret
        exact ⟨rfl, HB.out⟩
      | false =>
        have hF' : ¬(b < -1048576 ∨ 1048576 < b) := by unfold farB at hF; simp at hF; omega
        have HFB := Lib.hid hF'
        clear hF'
        go_wp2_with (go_at_call 31; refine (far_of _ _).mono ?_; rintro e w' ⟨he, rfl⟩; rw [hF] at he; subst he)
        have hbe := run_i0
        have hbo := run_i0245
        have hbi := run_i047
        have hbz := run_i04
        have hbj := run_i02456
        go_loopg [7] 10 (fun g s7 wr => ∃ op : Nat, 27 ≤ op ∧ op ≤ 37 ∧ g = 37 - op ∧ s7 = .int .i64 op ∧ Below w.heap.size w wr)
        case atStart => exact ⟨27, by decide, by decide, rfl, rfl, HB.out⟩
        case round =>
          obtain ⟨op, h1, h2, rfl, rfl, hBr⟩ := hrel
          have HBR := Lib.hid hBr
          clear hBr HB
          by_cases hop : op < 37
          · have hj : decide ((op : Int) < 37) = true := by simp; omega
            have hwo : wrap64 ((op : Int) + 1) = ((op + 1 : Nat) : Int) := by unfold wrap64; omega
            have HOP := Lib.hid (And.intro h1 hop)
            obtain ⟨sg, hsg⟩ : ∃ sg : Int, sg = sgnOp op := ⟨_, rfl⟩
            obtain ⟨r0, hr0⟩ : ∃ r : Int, r = if holdF (sgnOp op) false a b then 1 else 0 := ⟨_, rfl⟩
            have hrun := od_runs op a b (by omega) (by have := HA.out; omega) (by have := HFB.out; omega)
            rw [← hr0] at hrun
            rw [← hsg] at hr0
            have HRUN := Lib.hid hrun
            have hhold := holds_says sg false a b HRA.out HRB.out (by rw [hsg]; unfold sgnOp; split <;> omega)
            have HHOLD := Lib.hid hhold
            clear hrun hhold h2
            have hcase : op < 29 ∨ (29 ≤ op ∧ op ≤ 32) ∨ 32 < op := by omega
            rcases hcase with hc | hc | hc
            · have q1 : decide (29 ≤ (op : Int)) = false := by simp; omega
              obtain rfl : sg = op := by rw [hsg]; unfold sgnOp; rw [if_neg (by omega)]
              clear h1 hop hc hsg
              cases hh : holdF op false a b with
              | true =>
                rw [hh] at hr0
                replace hr0 : r0 = 1 := hr0
                subst hr0
                go_wp2_with (first
                  | (go_at_call 32; refine (HHOLD.out _).mono ?_; rintro e wH ⟨he, hbH⟩; rw [hh] at he; subst he)
                  | (go_at_call 20; refine (HRUN.out _ _ _ (coded_new (odc op a b) (by simp [odc]) (by simp [odc]) _)).mono ?_; rintro e wR ⟨_, _, _, _, _, _, _, _, _, rfl, hbR⟩))
                go_roundg (37 - (op + 1))
                case measure => have := HOP.out; omega
                case rel => exact ⟨op + 1, by have := HOP.out; omega, by have := HOP.out; omega, rfl, by rw [hwo], (((KL.mk HBR.out).next hbH).next (below_map _ _)).next hbR |>.bel.alloc (by have := ((((KL.mk HBR.out).next hbH).next (below_map _ _)).next hbR).bel.size; exact this) _⟩
              | false =>
                rw [hh] at hr0
                replace hr0 : r0 = 0 := hr0
                subst hr0
                go_wp2_with (first
                  | (go_at_call 32; refine (HHOLD.out _).mono ?_; rintro e wH ⟨he, hbH⟩; rw [hh] at he; subst he)
                  | (go_at_call 20; refine (HRUN.out _ _ _ (coded_new (odc op a b) (by simp [odc]) (by simp [odc]) _)).mono ?_; rintro e wR ⟨_, _, _, _, _, _, _, _, _, rfl, hbR⟩))
                go_roundg (37 - (op + 1))
                case measure => have := HOP.out; omega
                case rel => exact ⟨op + 1, by have := HOP.out; omega, by have := HOP.out; omega, rfl, by rw [hwo], (((KL.mk HBR.out).next hbH).next (below_map _ _)).next hbR |>.bel.alloc (by have := ((((KL.mk HBR.out).next hbH).next (below_map _ _)).next hbR).bel.size; exact this) _⟩
            · have q1 : decide (29 ≤ (op : Int)) = true := by simp; omega
              have q2 : decide ((op : Int) ≤ 32) = true := by simp; omega
              have hs : sg = op + 4 := by rw [hsg]; unfold sgnOp; rw [if_pos (by omega)]
              have hw1 : wrap64 ((op : Int) - 29) = (op : Int) - 29 := by unfold wrap64; omega
              have hw2 : wrap64 ((op : Int) - 29 + 33) = sg := by rw [hs]; unfold wrap64; omega
              clear h1 hop hc hsg hs
              cases hh : holdF sg false a b with
              | true =>
                rw [hh] at hr0
                replace hr0 : r0 = 1 := hr0
                subst hr0
                go_wp2_with (first
                  | (go_at_call 32; refine (HHOLD.out _).mono ?_; rintro e wH ⟨he, hbH⟩; rw [hh] at he; subst he)
                  | (go_at_call 20; refine (HRUN.out _ _ _ (coded_new (odc op a b) (by simp [odc]) (by simp [odc]) _)).mono ?_; rintro e wR ⟨_, _, _, _, _, _, _, _, _, rfl, hbR⟩))
                go_roundg (37 - (op + 1))
                case measure => have := HOP.out; omega
                case rel => exact ⟨op + 1, by have := HOP.out; omega, by have := HOP.out; omega, rfl, by rw [hwo], (((KL.mk HBR.out).next hbH).next (below_map _ _)).next hbR |>.bel.alloc (by have := ((((KL.mk HBR.out).next hbH).next (below_map _ _)).next hbR).bel.size; exact this) _⟩
              | false =>
                rw [hh] at hr0
                replace hr0 : r0 = 0 := hr0
                subst hr0
                go_wp2_with (first
                  | (go_at_call 32; refine (HHOLD.out _).mono ?_; rintro e wH ⟨he, hbH⟩; rw [hh] at he; subst he)
                  | (go_at_call 20; refine (HRUN.out _ _ _ (coded_new (odc op a b) (by simp [odc]) (by simp [odc]) _)).mono ?_; rintro e wR ⟨_, _, _, _, _, _, _, _, _, rfl, hbR⟩))
                go_roundg (37 - (op + 1))
                case measure => have := HOP.out; omega
                case rel => exact ⟨op + 1, by have := HOP.out; omega, by have := HOP.out; omega, rfl, by rw [hwo], (((KL.mk HBR.out).next hbH).next (below_map _ _)).next hbR |>.bel.alloc (by have := ((((KL.mk HBR.out).next hbH).next (below_map _ _)).next hbR).bel.size; exact this) _⟩
            · have q1 : decide (29 ≤ (op : Int)) = true := by simp; omega
              have q2 : decide ((op : Int) ≤ 32) = false := by simp; omega
              obtain rfl : sg = op := by rw [hsg]; unfold sgnOp; rw [if_neg (by omega)]
              clear h1 hop hc hsg
              cases hh : holdF op false a b with
              | true =>
                rw [hh] at hr0
                replace hr0 : r0 = 1 := hr0
                subst hr0
                go_wp2_with (first
                  | (go_at_call 32; refine (HHOLD.out _).mono ?_; rintro e wH ⟨he, hbH⟩; rw [hh] at he; subst he)
                  | (go_at_call 20; refine (HRUN.out _ _ _ (coded_new (odc op a b) (by simp [odc]) (by simp [odc]) _)).mono ?_; rintro e wR ⟨_, _, _, _, _, _, _, _, _, rfl, hbR⟩))
                go_roundg (37 - (op + 1))
                case measure => have := HOP.out; omega
                case rel => exact ⟨op + 1, by have := HOP.out; omega, by have := HOP.out; omega, rfl, by rw [hwo], (((KL.mk HBR.out).next hbH).next (below_map _ _)).next hbR |>.bel.alloc (by have := ((((KL.mk HBR.out).next hbH).next (below_map _ _)).next hbR).bel.size; exact this) _⟩
              | false =>
                rw [hh] at hr0
                replace hr0 : r0 = 0 := hr0
                subst hr0
                go_wp2_with (first
                  | (go_at_call 32; refine (HHOLD.out _).mono ?_; rintro e wH ⟨he, hbH⟩; rw [hh] at he; subst he)
                  | (go_at_call 20; refine (HRUN.out _ _ _ (coded_new (odc op a b) (by simp [odc]) (by simp [odc]) _)).mono ?_; rintro e wR ⟨_, _, _, _, _, _, _, _, _, rfl, hbR⟩))
                go_roundg (37 - (op + 1))
                case measure => have := HOP.out; omega
                case rel => exact ⟨op + 1, by have := HOP.out; omega, by have := HOP.out; omega, rfl, by rw [hwo], (((KL.mk HBR.out).next hbH).next (below_map _ _)).next hbR |>.bel.alloc (by have := ((((KL.mk HBR.out).next hbH).next (below_map _ _)).next hbR).bel.size; exact this) _⟩
          · have hj : decide ((op : Int) < 37) = false := by simp; omega
            clear h1 h2 hop
            go_wp2_with fail
            go_ret
            exact ⟨rfl, HBR.out⟩


theorem fact_wf : (Rows.machOffsetsRow.wf (OpenSpec.ofChange Rows.machOffsetsSpec)) = true := by kernel_rfl
theorem fact_rd : (Tryz.f8.params.all ((Tryz.prog).readableRec ·)) = true := by kernel_rfl
theorem fact_nt : (namedTie (Tryz.prog) Rows.machOffsetsRow.named Rows.machOffsetsSpec.vars) = true := by kernel_rfl
theorem fact_s1 : ((Rows.machOffsetsRow.stops == [])) = true := by kernel_rfl
theorem fact_k1 : ((Rows.machOffsetsRow.knobs == [])) = true := by kernel_rfl
theorem fact_ip : ((Rows.machOffsetsRow.inPlace == (Tryz.prog).inPlace 8)) = true := by kernel_rfl
theorem fact_uf : ((Rows.machOffsetsRow.unfollowed == (Tryz.prog).unfollowed 8)) = true := by kernel_rfl
theorem fact_rc : ((Rows.machOffsetsRow.recurses == (Tryz.prog).recurses 8)) = true := by kernel_rfl
theorem fact_nm : ((Rows.machOffsetsRow.named == (Tryz.prog).varsNamed 8)) = true := by kernel_rfl
theorem fact_mp : ((Rows.machOffsetsRow.maps == (Tryz.f8.params.toList ++ Rows.machOffsetsSpec.plain.varTypes (Tryz.prog)).any ((Tryz.prog).mapsRec ·))) = true := by kernel_rfl
theorem fact_if : ((Rows.machOffsetsRow.ifaces == (Tryz.f8.params.toList ++ Rows.machOffsetsSpec.plain.varTypes (Tryz.prog)).any ((Tryz.prog).ifacesRec ·))) = true := by kernel_rfl
theorem fact_mo : ((Rows.machOffsetsRow.mapsOut == (Tryz.prog).mapsAmong Tryz.f8.resultTypes.toList)) = true := by kernel_rfl
theorem fact_lp : ((Rows.machOffsetsRow.loops == (Tryz.f8.params.toList ++ Rows.machOffsetsSpec.plain.varTypes (Tryz.prog)).any ((Tryz.prog).loopsFrom ·))) = true := by kernel_rfl
theorem fact_wk : ((Rows.machOffsetsRow.wideKeys == (Tryz.f8.params.toList ++ Rows.machOffsetsSpec.plain.varTypes (Tryz.prog) ++ Tryz.f8.resultTypes.toList).any ((Tryz.prog).wideKeysFrom ·))) = true := by kernel_rfl
theorem fact_vr : (Rows.machOffsetsSpec.vars.all ((Tryz.prog).varReadable ·)) = true := by kernel_rfl
theorem fact_rr : (Tryz.f8.resultTypes.all (fun t => (Tryz.prog).readableRec t && decide (t < (Tryz.prog).types.size))) = true := by kernel_rfl
theorem fact_io : ((Rows.machOffsetsRow.ifacesOut == Tryz.f8.resultTypes.toList.any ((Tryz.prog).ifacesRec ·))) = true := by kernel_rfl
theorem fact_ol : ((Rows.machOffsetsRow.loopsOut == Tryz.f8.resultTypes.toList.any ((Tryz.prog).loopsFrom ·))) = true := by kernel_rfl
theorem fact_pk : ((Rows.machOffsetsRow.plainKeys == (Tryz.prog).plainKeys)) = true := by kernel_rfl
theorem fact_st : (Rows.machOffsetsRow.shortTexts.isNone) = true := by kernel_rfl
theorem fact_lf : ((Rows.machOffsetsRow.lifted == (Tryz.prog).liftsFinal)) = true := by kernel_rfl
theorem fact_mk : (((Tryz.prog).make == some Rows.machOffsetsRow.make)) = true := by kernel_rfl
theorem fact_kd : ((Rows.machOffsetsRow.kinds == (if Rows.machOffsetsRow.domain.isEmpty then [] else Tryz.f8.params.toList.map fun t => match (Tryz.prog).underlying t with | some (.int k) => some k | _ => none))) = true := by kernel_rfl
theorem fact_pn : ((Rows.machOffsetsRow.pinned == Rows.machOffsetsRow.pinnedBy)) = true := by kernel_rfl
theorem fact_vl : ((Rows.machOffsetsRow.veiled == (Tryz.f8.params.toList ++ Rows.machOffsetsSpec.plain.varTypes (Tryz.prog) ++ Tryz.f8.resultTypes.toList).any ((Tryz.prog).veiledRec ·))) = true := by kernel_rfl
theorem fact_vf : (Rows.machOffsetsRow.veiledFits (Tryz.prog) Tryz.f8.params.toList (Tryz.f8.params.toList ++ Rows.machOffsetsSpec.plain.varTypes (Tryz.prog) ++ Tryz.f8.resultTypes.toList)) = true := by kernel_rfl
set_option maxRecDepth 100000 in
theorem closed : joinedFacts Tryz.prog 8 Tryz.f8 Rows.machOffsetsSpec Rows.machOffsetsRow = true :=
  closed_of fact_wf fact_lo fact_mr fact_rd fact_nt fact_s1 fact_s2 fact_k1 fact_k2 fact_ip fact_uf fact_rc fact_nm fact_mp fact_if fact_mo fact_lp fact_wk fact_vr fact_rr fact_io fact_ol fact_pk fact_st fact_sh fact_me fact_lf fact_mk fact_kd fact_pn fact_vl fact_vf

theorem own : ownKnob Tryz.prog.godebug = none := by kernel_rfl
set_option maxRecDepth 100000 in
theorem lifted (os : Os) (started : os.Started) (H : Type) (enc : TypeId × Value → H) :
    ReturnsInHanded {} Tryz.checked os 8 .any (Rows.machOffsetsSpec.pre6 enc Tryz.prog Tryz.f8 Rows.machOffsetsRow.domain false) (Rows.machOffsetsSpec.post enc Tryz.prog Tryz.f8 false true false false) := by
  refine returnsInHanded_of_change (C := Tryz.checked) own started (by kernel_rfl) Tryz.func8
    (ChangeSpec.witness6 (enc := enc) (C := Tryz.checked) false ⟨#[], #[.int .i64 0, .int .i64 0], []⟩ 8 (by kernel_rfl) (by kernel_rfl) (by kernel_rfl) (by kernel_rfl)) ?_
  intro W base args ds gs before hval0 hW hcnd _
  have hval : ∀ (j : Nat) t v, Tryz.f8.params[j]? = some t → args[j]? = some v → Value.okWide Tryz.prog W .any base t v := hval0
  have hW' := hW
  obtain ⟨p, q, hA0, hV, rfl, hfz, hnd⟩ := hW
  have hA : DataW.TrodAll enc Tryz.prog W 0 (fun _ => true) true Tryz.f8.params.toList args.toList ds p := hA0
  rw [Tryz.params8] at hA hval
  obtain ⟨v0, vs0, d0, ds0, p0, q0, hargs, rfl, rfl, h0, r0⟩ := trodAll_cons hA
  obtain ⟨v1, vs1, d1, ds1, p1, q1, rfl, rfl, rfl, h1, r1⟩ := trodAll_cons r0
  obtain ⟨rfl, rfl, rfl⟩ := trodAll_nil r1
  obtain rfl : args = #[v0, v1] := by cases args; simp_all
  obtain ⟨a0, rfl, rfl, rfl, w0⟩ := open_int Tryz.underlying3 (hval 0 3 v0 rfl rfl) h0
  obtain ⟨a1, rfl, rfl, rfl, w1⟩ := open_int Tryz.underlying3 (hval 1 3 v1 rfl rfl) h1
  refine (walk a0 (range_i64 w0) a1 (range_i64 w1) W).mono fun e W' ⟨he, hb⟩ => ?_
  subst he
  exact ⟨_, rfl, law_post (tb := 4) (by kernel_rfl) (by kernel_rfl) rfl Tryz.underlying4 rfl (fun h => by subst h; rfl) hW' hb⟩

theorem proved : Rows.MachOffsetsSaid :=
  OpenClaim.holds_of_wide 8 Tryz.f8 rfl rfl rfl rfl rfl rfl rfl ⟨rfl, rfl, rfl, rfl, rfl⟩ rfl rfl rfl rfl rfl (by kernel_rfl) Tryz.func8 closed
    (of_decide_eq_true (by kernel_rfl)) (by unfold Func.isWrapper; first | (rw [if_pos (by decide +kernel)]; kernel_rfl) | (rw [if_neg (by decide +kernel)]; exact ⟨rfl, rfl⟩))
    (fun os started H enc _ => lifted os started H enc)
#print axioms proved

end Go.Proofs.YtbkcpepalicbjaaGreat.machOffsets
