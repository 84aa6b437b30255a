/-
  MachAlu: of two numbers every arithmetic instruction leaves what package word says, or its trap, with a register and with a number; no condition.
-/
import Derived.Test.YtbkcpepalicbjaaGreatMachX
import Derived.Test.YtbkcpepalicbjaaGreatFacts
import Derived.OpenShut
namespace Go.Proofs.YtbkcpepalicbjaaGreat.machAlu
open Go.ChangeShapes Go.WideShapes Go.ChangeAt Go.RowKit
set_option linter.unusedVariables false
set_option linter.unusedSimpArgs false

set_option maxRecDepth 100000 in
set_option maxHeartbeats 4000000 in
theorem walk (a : Int) (ra : -9223372036854775808 ≤ a ∧ a ≤ 9223372036854775807) (b : Int) (rb : -9223372036854775808 ≤ b ∧ b ≤ 9223372036854775807) (w : World) :
    Calls Tryz.prog 3 #[.int .i64 a, .int .i64 b] w fun e w' => e = .returned (.bool true) ∧ Below w.heap.size w w' := by
  have hbw := run_areg
  have hbi := run_aimm
  have hbe := run_exit
  have HRA := Lib.hid ra
  have HRB := Lib.hid rb
  clear ra rb
  go_enter Tryz.func3, Tryz.ntmps3
  go_wp2_with fail
  go_loopg [5] 15 (fun g s5 wr => ∃ op : Nat, 1 ≤ op ∧ op ≤ 16 ∧ g = 16 - op ∧ s5 = .int .i64 op ∧ Below w.heap.size w wr)
  case atStart => exact ⟨1, by decide, by decide, rfl, rfl, Below.refl _ _⟩
  case round =>
    obtain ⟨op, ho1, ho2, rfl, rfl, hB⟩ := hrel
    have HB := Lib.hid hB
    clear hB
    by_cases hop : op ≤ 15
    · have hj : decide ((op : Int) ≤ 15) = true := by simp; omega
      have hwo : wrap64 ((op : Int) + 1) = ((op + 1 : Nat) : Int) := by unfold wrap64; omega
      have HO1 := Lib.hid ho1
      have HOP := Lib.hid hop
      clear ho1 ho2 hop
      go_wp2_with fail
      go_loopg [6] 4 (fun g s6 wi => ∃ k : Nat, k ≤ 4 ∧ g = 4 - k ∧ s6 = .int .i64 k ∧ Below w.heap.size w wi)
      case atStart => exact ⟨0, by decide, rfl, rfl, HB.out⟩
      case round =>
        obtain ⟨k, hk, rfl, rfl, hBi⟩ := hrel
        have HBI := Lib.hid hBi
        clear hBi HB
        by_cases hk4 : k < 4
        · have hj2 : decide ((k : Int) < 4) = true := by simp; omega
          have HK4 := Lib.hid hk4
          clear hk hk4
          have hwk : wrap64 ((k : Int) + 1) = ((k + 1 : Nat) : Int) := by have := HK4.out; unfold wrap64; omega
          obtain ⟨nar, hnar⟩ : ∃ nar : Bool, (bits .and .i64 (k : Int) 1 == 1) = nar := ⟨_, rfl⟩
          go_upto_if 30 with fail
          go_cut [8] (fun s8 wx => ∃ (y : Int) (reg : Bool) (src imm : Int), s8 = .int .i64 y ∧ Row wx wr.heap.size 23 (insc op nar reg 0 0 src 0 imm) ∧ Good4 op nar a y reg src imm ∧ Below w.heap.size w wx)
          case first =>
            have hR := Row.made wr (insc op nar true 0 0 3 0 0) 23
            by_cases h14 : op = 14
            · subst h14
              go_wp2_with fail
              go_meet
              case rel =>
                exact ⟨b, false, 0, 0, rfl, (Row.made wr (insc 14 nar false 0 0 0 0 0) 23), good_neg nar a b, HBI.out.alloc (by have := HBI.out.size; omega) _⟩
            · have q14 : ((op : Int) == 14) = false := by simp; omega
              by_cases hk2 : k < 2
              · have q2 : decide (2 ≤ (k : Int)) = false := by simp; omega
                go_wp2_with fail
                go_meet
                case rel =>
                  exact ⟨b, true, 3, 0, rfl, hR, good_reg op nar a b (by have := HO1.out; have := HOP.out; omega) (by omega) HRB.out, HBI.out.alloc (by have := HBI.out.size; omega) _⟩
              · have q2 : decide (2 ≤ (k : Int)) = true := by simp; omega
                have HH := Lib.hid h14
                clear h14
                by_cases hs : 11 ≤ op ∧ op ≤ 13
                · have q3 : decide (11 ≤ (op : Int)) = true := by simp; omega
                  have q4 : decide ((op : Int) ≤ 13) = true := by simp; omega
                  have q5 : decide (4 ≤ (op : Int)) = true := by simp; omega
                  have q6 : decide ((op : Int) ≤ 7) = false := by simp; omega
                  obtain ⟨y, hy⟩ : ∃ y, bits .and .i64 b 31 = y := ⟨_, rfl⟩
                  have hyr : 0 ≤ y ∧ y < 32 := by rw [← hy, and31]; omega
                  have HS := Lib.hid hs
                  have HY := Lib.hid hyr
                  clear hs hyr
                  cases hy0 : (y == 0)
                  all_goals
                    go_wp2_with fail
                    go_meet
                    case rel =>
                      exact ⟨y, false, 0, y, rfl, (Row.made wr (insc op nar false 0 0 0 0 y) 23), good_imm op nar a y (by have := HO1.out; have := HOP.out; omega) (by have := HH.out; omega) (by have := HY.out; omega) (by have := HS.out; omega) (fun _ => HY.out), HBI.out.alloc (by have := HBI.out.size; omega) _⟩
                · have HS := Lib.hid hs
                  obtain ⟨y, hy⟩ : ∃ y, wrap64 (wrap32 b) = y := ⟨_, rfl⟩
                  have hyr : -2147483648 ≤ y ∧ y ≤ 2147483647 := by rw [← hy]; unfold wrap64 wrap32; omega
                  have HY := Lib.hid hyr
                  clear hyr
                  have q34 : (decide (11 ≤ (op : Int)) && decide ((op : Int) ≤ 13)) = false := by simp; omega
                  by_cases h0 : y = 0 ∧ 4 ≤ op ∧ op ≤ 7
                  · have q3 : decide (11 ≤ (op : Int)) = false := by simp; omega
                    have q5 : decide (4 ≤ (op : Int)) = true := by simp; omega
                    have q6 : decide ((op : Int) ≤ 7) = true := by simp; omega
                    have q7 : (y == 0) = true := by simpa using h0.1
                    have H0 := Lib.hid h0
                    clear hs q34 h0
                    go_wp2_with fail
                    go_meet
                    case rel => exact ⟨7, false, 0, 7, rfl, (Row.made wr (insc op nar false 0 0 0 0 7) 23), good_imm op nar a 7 (by have := HO1.out; have := HOP.out; omega) (by have := HH.out; omega) (by decide) (fun _ => by decide) (by have := HS.out; omega), HBI.out.alloc (by have := HBI.out.size; omega) _⟩
                  · have H0 := Lib.hid h0
                    clear h0
                    cases q3 : decide (11 ≤ (op : Int)) with
                    | false =>
                      clear hs q34
                      cases q7 : (y == 0) with
                      | false =>
                        go_wp2_with fail
                        go_meet
                        case rel => exact ⟨y, false, 0, y, congrArg (Value.int .i64) hy, (Row.made wr (insc op nar false 0 0 0 0 y) 23), good_imm op nar a y (by have := HO1.out; have := HOP.out; omega) (by have := HH.out; omega) HY.out (by have := H0.out; omega) (by have := HS.out; omega), HBI.out.alloc (by have := HBI.out.size; omega) _⟩
                      | true =>
                        cases q5 : decide (4 ≤ (op : Int)) with
                        | false =>
                          go_wp2_with fail
                          go_meet
                          case rel => exact ⟨y, false, 0, y, congrArg (Value.int .i64) hy, (Row.made wr (insc op nar false 0 0 0 0 y) 23), good_imm op nar a y (by have := HO1.out; have := HOP.out; omega) (by have := HH.out; omega) HY.out (by have := H0.out; omega) (by have := HS.out; omega), HBI.out.alloc (by have := HBI.out.size; omega) _⟩
                        | true =>
                          have q6 : decide ((op : Int) ≤ 7) = false := by
                            have := H0.out
                            simp at q7 q5 ⊢
                            omega
                          go_wp2_with fail
                          go_meet
                          case rel => exact ⟨y, false, 0, y, congrArg (Value.int .i64) hy, (Row.made wr (insc op nar false 0 0 0 0 y) 23), good_imm op nar a y (by have := HO1.out; have := HOP.out; omega) (by have := HH.out; omega) HY.out (by have := H0.out; omega) (by have := HS.out; omega), HBI.out.alloc (by have := HBI.out.size; omega) _⟩
                    | true =>
                      have q4 : decide ((op : Int) ≤ 13) = false := by rw [q3] at q34; simpa using q34
                      clear hs q34
                      cases q7 : (y == 0) with
                      | false =>
                        go_wp2_with fail
                        go_meet
                        case rel => exact ⟨y, false, 0, y, congrArg (Value.int .i64) hy, (Row.made wr (insc op nar false 0 0 0 0 y) 23), good_imm op nar a y (by have := HO1.out; have := HOP.out; omega) (by have := HH.out; omega) HY.out (by have := H0.out; omega) (by have := HS.out; omega), HBI.out.alloc (by have := HBI.out.size; omega) _⟩
                      | true =>
                        cases q5 : decide (4 ≤ (op : Int)) with
                        | false =>
                          go_wp2_with fail
                          go_meet
                          case rel => exact ⟨y, false, 0, y, congrArg (Value.int .i64) hy, (Row.made wr (insc op nar false 0 0 0 0 y) 23), good_imm op nar a y (by have := HO1.out; have := HOP.out; omega) (by have := HH.out; omega) HY.out (by have := H0.out; omega) (by have := HS.out; omega), HBI.out.alloc (by have := HBI.out.size; omega) _⟩
                        | true =>
                          have q6 : decide ((op : Int) ≤ 7) = false := by
                            have := H0.out
                            simp at q7 q5 ⊢
                            omega
                          go_wp2_with fail
                          go_meet
                          case rel => exact ⟨y, false, 0, y, congrArg (Value.int .i64) hy, (Row.made wr (insc op nar false 0 0 0 0 y) 23), good_imm op nar a y (by have := HO1.out; have := HOP.out; omega) (by have := HH.out; omega) HY.out (by have := H0.out; omega) (by have := HS.out; omega), HBI.out.alloc (by have := HBI.out.size; omega) _⟩
          case rest =>
            obtain ⟨y, reg, src, imm, rfl, hR, hG, hBx⟩ := hcut
            have HK := Lib.hid (KB.mk hR hBx HBI.out.size)
            have HG := Lib.hid hG
            have HAL := Lib.hid (alu_gives op nar a y (by have := HO1.out; have := HOP.out; omega)).1
            clear hR hG hBx HBI
            obtain ⟨c0, c1, c2, c3, c4, c5, c6, c7, _⟩ := HK.out.k
            go_upto_region 20 with (go_at_call 19; refine (HAL.out _).mono ?_; rintro e wA ⟨rfl, hbA⟩; have HKS := Lib.hid (HK.out.next hbA))
            go_cut [11, 12] (fun s11 s12 wx => ∃ (q : Nat) (x1 x2 x3 : Value), s11 = .pointer (some ⟨q, 0, none⟩) ∧ s12 = .int .i64 (aluF op nar a y).2 ∧ Row wx q 31 [.int .i64 (aluF op nar a y).1, x1, x2, x3] ∧ Below w.heap.size w wx)
            case first =>
              have hks := (HKS.out.next (Below.refl _ _).drew).k
              go_region_held3 (fun w' => w'.cell? ⟨wr.heap.size, 0, none⟩ = some (.int .i64 op) ∧ w'.cell? ⟨wr.heap.size, 1, none⟩ = some (.bool nar) ∧ w'.cell? ⟨wr.heap.size, 2, none⟩ = some (.bool reg) ∧ w'.cell? ⟨wr.heap.size, 3, none⟩ = some (.int .i64 0) ∧ w'.cell? ⟨wr.heap.size, 4, none⟩ = some (.int .i64 0) ∧ w'.cell? ⟨wr.heap.size, 5, none⟩ = some (.int .i64 src) ∧ w'.cell? ⟨wr.heap.size, 6, none⟩ = some (.int .i64 0) ∧ w'.cell? ⟨wr.heap.size, 7, none⟩ = some (.int .i64 imm) ∧ KB w wr.heap.size (insc op nar reg 0 0 src 0 imm) w')
                (first
                  | with_reducible assumption
                  | with_reducible exact KB.n (by with_reducible assumption) ((Below.refl _ _).alloc (Nat.le_refl _) _)
                  | with_reducible exact KB.n (KB.n (by with_reducible assumption) ((Below.refl _ _).alloc (Nat.le_refl _) _)) ((Below.refl _ _).alloc (Nat.le_refl _) _)
                  | with_reducible exact KB.p (by with_reducible assumption) hbox _ _ _ _
                  | fail "none")
                (first
                  | (go_at_call 21; refine (wide_of _ _ _).mono ?_; rintro e w' ⟨rfl, hbW⟩; have hbK := KB.n (by with_reducible assumption) hbW; have hib := hbK.2.2.2.2.2.2.2.2.row.lt; first | (with_reducible have hbox := box_new2 (by with_reducible assumption) hbW; obtain ⟨_, ⟨_, _, _, _⟩, _, _, _, _⟩ := hbox.four) | (with_reducible have hbox := box_new (by with_reducible assumption) hbW; obtain ⟨_, ⟨_, _, _, _⟩, _, _, _, _⟩ := hbox.four) | (with_reducible have hbox := box_newd (by with_reducible assumption) hbW; obtain ⟨_, ⟨_, _, _, _⟩, _, _, _, _⟩ := hbox.four) | (with_reducible have hbox := box_newo (by with_reducible assumption) (by assumption) hbW; obtain ⟨_, ⟨_, _, _, _⟩, _, _, _, _⟩ := hbox.four) | (with_reducible have hbox := hbox.old hbW; obtain ⟨_, ⟨_, _, _, _⟩, _, _, _, _⟩ := hbox.four) | (with_reducible have hbox := hbox.oldo hbW; obtain ⟨_, ⟨_, _, _, _⟩, _, _, _, _⟩ := hbox.four) | skip)
                  | (go_at_call 20; refine (HG.out _ _ _ (by first | exact coded4 _ _ _ _ _ _ _ _ | exact coded4n _ _ _ _ _ _ _ _ _ | exact (coded4 _ _ _ _ _ _ _ _).below (below_map _ _) (Nat.le_refl _))).mono ?_; rintro e w' ⟨_, _, _, _, _, _, _, _, _, rfl, hbW⟩; have hbK := KB.n (by with_reducible assumption) hbW; first | (with_reducible have hbox := box_new2 (by with_reducible assumption) hbW; obtain ⟨_, ⟨_, _, _, _⟩, _, _, _, _⟩ := hbox.four) | (with_reducible have hbox := box_new (by with_reducible assumption) hbW; obtain ⟨_, ⟨_, _, _, _⟩, _, _, _, _⟩ := hbox.four) | (with_reducible have hbox := box_newd (by with_reducible assumption) hbW; obtain ⟨_, ⟨_, _, _, _⟩, _, _, _, _⟩ := hbox.four) | (with_reducible have hbox := box_newo (by with_reducible assumption) (by assumption) hbW; obtain ⟨_, ⟨_, _, _, _⟩, _, _, _, _⟩ := hbox.four) | (with_reducible have hbox := hbox.old hbW; obtain ⟨_, ⟨_, _, _, _⟩, _, _, _, _⟩ := hbox.four) | (with_reducible have hbox := hbox.oldo hbW; obtain ⟨_, ⟨_, _, _, _⟩, _, _, _, _⟩ := hbox.four) | skip))
              all_goals
                rename_i hheld
                go_wp2_with fail
                go_meet
                case rel =>
                  first
                    | exact ⟨_, _, _, _, rfl, rfl, hbox.row.put4 _ _ _ _, hheld.2.2.2.2.2.2.2.2.bel⟩
                    | exact ⟨_, _, _, _, rfl, rfl, Row.made _ [_, _, _, _] _, hheld.2.2.2.2.2.2.2.2.bel⟩
            case rest =>
              obtain ⟨q, x1, x2, x3, rfl, rfl, hR, hBz⟩ := hcut
              obtain ⟨⟨_, _, _, _⟩, _⟩ := hR.four
              have HBZ := Lib.hid hBz
              clear hR hBz HK HKS HG HAL hbA c0 c1 c2 c3 c4 c5 c6 c7
              go_wp2_with fail
              go_roundg (4 - (k + 1))
              case measure => have := HK4.out; omega
              case rel => exact ⟨k + 1, by have := HK4.out; omega, rfl, by rw [hwk], HBZ.out⟩
        · have hj2 : decide ((k : Int) < 4) = false := by simp; omega
          clear hk hk4
          go_wp2_with fail
          go_roundg (16 - (op + 1))
          case measure => have := HOP.out; omega
          case rel => exact ⟨op + 1, by omega, by have := HOP.out; omega, rfl, by rw [hwo], HBI.out⟩
    · have hj : decide ((op : Int) ≤ 15) = false := by simp; omega
      clear ho1 ho2 hop
      have hs0 := HB.out.size
      have hb3 := run_add3
      go_upto_region 23 with fail
      go_cut [13, 14] (fun s13 s14 wx => ∃ (q : Nat) (x1 x2 x3 : Value), s13 = .pointer (some ⟨q, 0, none⟩) ∧ s14 = .int .i64 0 ∧ Row wx q 31 [.int .i64 5, x1, x2, x3] ∧ Below w.heap.size w wx)
      case first =>
        go_wp2_with (first
            | (go_at_call 21; refine (wide_of _ _ _).mono ?_; rintro e wW ⟨rfl, hbW⟩; have hK1 := (KL.mk HB.out).next hbW)
            | (go_at_call 20; refine (good3 _ _ _ (coded3 _)).mono ?_; rintro e wR ⟨_, _, _, _, _, _, _, _, _, rfl, hbR⟩))
        go_meet
        case rel => exact ⟨_, _, _, _, rfl, rfl, Row.made _ [_, _, _, _] _, ((hK1.next (below_map _ _)).next hbR).bel.alloc (by have := ((hK1.next (below_map _ _)).next hbR).bel.size; exact this) _⟩
      case rest =>
        obtain ⟨q, x1, x2, x3, rfl, rfl, hR, hBz⟩ := hcut
        obtain ⟨⟨_, _, _, _⟩, _⟩ := hR.four
        have HBZ := Lib.hid hBz
        clear hR hBz
        go_wp2_with fail
        go_ret
        exact ⟨rfl, HBZ.out⟩


theorem fact_wf : (Rows.machAluRow.wf (OpenSpec.ofChange Rows.machAluSpec)) = true := by kernel_rfl
theorem fact_rd : (Tryz.f3.params.all ((Tryz.prog).readableRec ·)) = true := by kernel_rfl
theorem fact_nt : (namedTie (Tryz.prog) Rows.machAluRow.named Rows.machAluSpec.vars) = true := by kernel_rfl
theorem fact_s1 : ((Rows.machAluRow.stops == [])) = true := by kernel_rfl
theorem fact_k1 : ((Rows.machAluRow.knobs == [])) = true := by kernel_rfl
theorem fact_ip : ((Rows.machAluRow.inPlace == (Tryz.prog).inPlace 3)) = true := by kernel_rfl
theorem fact_uf : ((Rows.machAluRow.unfollowed == (Tryz.prog).unfollowed 3)) = true := by kernel_rfl
theorem fact_rc : ((Rows.machAluRow.recurses == (Tryz.prog).recurses 3)) = true := by kernel_rfl
theorem fact_nm : ((Rows.machAluRow.named == (Tryz.prog).varsNamed 3)) = true := by kernel_rfl
theorem fact_mp : ((Rows.machAluRow.maps == (Tryz.f3.params.toList ++ Rows.machAluSpec.plain.varTypes (Tryz.prog)).any ((Tryz.prog).mapsRec ·))) = true := by kernel_rfl
theorem fact_if : ((Rows.machAluRow.ifaces == (Tryz.f3.params.toList ++ Rows.machAluSpec.plain.varTypes (Tryz.prog)).any ((Tryz.prog).ifacesRec ·))) = true := by kernel_rfl
theorem fact_mo : ((Rows.machAluRow.mapsOut == (Tryz.prog).mapsAmong Tryz.f3.resultTypes.toList)) = true := by kernel_rfl
theorem fact_lp : ((Rows.machAluRow.loops == (Tryz.f3.params.toList ++ Rows.machAluSpec.plain.varTypes (Tryz.prog)).any ((Tryz.prog).loopsFrom ·))) = true := by kernel_rfl
theorem fact_wk : ((Rows.machAluRow.wideKeys == (Tryz.f3.params.toList ++ Rows.machAluSpec.plain.varTypes (Tryz.prog) ++ Tryz.f3.resultTypes.toList).any ((Tryz.prog).wideKeysFrom ·))) = true := by kernel_rfl
theorem fact_vr : (Rows.machAluSpec.vars.all ((Tryz.prog).varReadable ·)) = true := by kernel_rfl
theorem fact_rr : (Tryz.f3.resultTypes.all (fun t => (Tryz.prog).readableRec t && decide (t < (Tryz.prog).types.size))) = true := by kernel_rfl
theorem fact_io : ((Rows.machAluRow.ifacesOut == Tryz.f3.resultTypes.toList.any ((Tryz.prog).ifacesRec ·))) = true := by kernel_rfl
theorem fact_ol : ((Rows.machAluRow.loopsOut == Tryz.f3.resultTypes.toList.any ((Tryz.prog).loopsFrom ·))) = true := by kernel_rfl
theorem fact_pk : ((Rows.machAluRow.plainKeys == (Tryz.prog).plainKeys)) = true := by kernel_rfl
theorem fact_st : (Rows.machAluRow.shortTexts.isNone) = true := by kernel_rfl
theorem fact_lf : ((Rows.machAluRow.lifted == (Tryz.prog).liftsFinal)) = true := by kernel_rfl
theorem fact_mk : (((Tryz.prog).make == some Rows.machAluRow.make)) = true := by kernel_rfl
theorem fact_kd : ((Rows.machAluRow.kinds == (if Rows.machAluRow.domain.isEmpty then [] else Tryz.f3.params.toList.map fun t => match (Tryz.prog).underlying t with | some (.int k) => some k | _ => none))) = true := by kernel_rfl
theorem fact_pn : ((Rows.machAluRow.pinned == Rows.machAluRow.pinnedBy)) = true := by kernel_rfl
theorem fact_vl : ((Rows.machAluRow.veiled == (Tryz.f3.params.toList ++ Rows.machAluSpec.plain.varTypes (Tryz.prog) ++ Tryz.f3.resultTypes.toList).any ((Tryz.prog).veiledRec ·))) = true := by kernel_rfl
theorem fact_vf : (Rows.machAluRow.veiledFits (Tryz.prog) Tryz.f3.params.toList (Tryz.f3.params.toList ++ Rows.machAluSpec.plain.varTypes (Tryz.prog) ++ Tryz.f3.resultTypes.toList)) = true := by kernel_rfl
set_option maxRecDepth 100000 in
theorem closed : joinedFacts Tryz.prog 3 Tryz.f3 Rows.machAluSpec Rows.machAluRow = true :=
  closed_of fact_wf fact_lo fact_mr fact_rd fact_nt fact_s1 fact_s2 fact_k1 fact_k2 fact_ip fact_uf fact_rc fact_nm fact_mp fact_if fact_mo fact_lp fact_wk fact_vr fact_rr fact_io fact_ol fact_pk fact_st fact_sh fact_me fact_lf fact_mk fact_kd fact_pn fact_vl fact_vf

theorem own : ownKnob Tryz.prog.godebug = none := by kernel_rfl
set_option maxRecDepth 100000 in
theorem lifted (os : Os) (started : os.Started) (H : Type) (enc : TypeId × Value → H) :
    ReturnsInHanded {} Tryz.checked os 3 .any (Rows.machAluSpec.pre6 enc Tryz.prog Tryz.f3 Rows.machAluRow.domain false) (Rows.machAluSpec.post enc Tryz.prog Tryz.f3 false true false false) := by
  refine returnsInHanded_of_change (C := Tryz.checked) own started (by kernel_rfl) Tryz.func3
    (ChangeSpec.witness6 (enc := enc) (C := Tryz.checked) false ⟨#[], #[.int .i64 0, .int .i64 0], []⟩ 8 (by kernel_rfl) (by kernel_rfl) (by kernel_rfl) (by kernel_rfl)) ?_
  intro W base args ds gs before hval0 hW hcnd _
  have hval : ∀ (j : Nat) t v, Tryz.f3.params[j]? = some t → args[j]? = some v → Value.okWide Tryz.prog W .any base t v := hval0
  have hW' := hW
  obtain ⟨p, q, hA0, hV, rfl, hfz, hnd⟩ := hW
  have hA : DataW.TrodAll enc Tryz.prog W 0 (fun _ => true) true Tryz.f3.params.toList args.toList ds p := hA0
  rw [Tryz.params3] at hA hval
  obtain ⟨v0, vs0, d0, ds0, p0, q0, hargs, rfl, rfl, h0, r0⟩ := trodAll_cons hA
  obtain ⟨v1, vs1, d1, ds1, p1, q1, rfl, rfl, rfl, h1, r1⟩ := trodAll_cons r0
  obtain ⟨rfl, rfl, rfl⟩ := trodAll_nil r1
  obtain rfl : args = #[v0, v1] := by cases args; simp_all
  obtain ⟨a0, rfl, rfl, rfl, w0⟩ := open_int Tryz.underlying3 (hval 0 3 v0 rfl rfl) h0
  obtain ⟨a1, rfl, rfl, rfl, w1⟩ := open_int Tryz.underlying3 (hval 1 3 v1 rfl rfl) h1
  refine (walk a0 (range_i64 w0) a1 (range_i64 w1) W).mono fun e W' ⟨he, hb⟩ => ?_
  subst he
  exact ⟨_, rfl, law_post (tb := 4) (by kernel_rfl) (by kernel_rfl) rfl Tryz.underlying4 rfl (fun h => by subst h; rfl) hW' hb⟩

theorem proved : Rows.MachAluSaid :=
  OpenClaim.holds_of_wide 3 Tryz.f3 rfl rfl rfl rfl rfl rfl rfl ⟨rfl, rfl, rfl, rfl, rfl⟩ rfl rfl rfl rfl rfl (by kernel_rfl) Tryz.func3 closed
    (of_decide_eq_true (by kernel_rfl)) (by unfold Func.isWrapper; first | (rw [if_pos (by decide +kernel)]; kernel_rfl) | (rw [if_neg (by decide +kernel)]; exact ⟨rfl, rfl⟩))
    (fun os started H enc _ => lifted os started H enc)
#print axioms proved

end Go.Proofs.YtbkcpepalicbjaaGreat.machAlu
