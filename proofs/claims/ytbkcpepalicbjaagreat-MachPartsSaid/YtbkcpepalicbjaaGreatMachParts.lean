/-
  MachParts: OpMovs, OpLe, OpBe, OpBswap of any number and every size leave what package word says, and are refused where they must be; no condition.
-/
import Derived.Test.YtbkcpepalicbjaaGreatMachPt
import Derived.OpenShut
namespace Go.Proofs.YtbkcpepalicbjaaGreat.machParts
open Go.ChangeShapes Go.WideShapes Go.ChangeAt Go.RowKit
set_option linter.unusedVariables false
set_option linter.unusedSimpArgs false

theorem closed_of {P : Program} {f : FuncId} {fn : Func} {s : ChangeSpec} {c : OpenClaim} (h_wf : c.wf (OpenSpec.ofChange s) = true) (h_lo : laidOutB P = true) (h_mr : mapsRowed P = true) (h_rd : fn.params.all (P.readableRec ·) = true) (h_nt : namedTie P c.named s.vars = true) (h_s1 : (c.stops == []) = true) (h_s2 : (P.stops == []) = true) (h_k1 : (c.knobs == []) = true) (h_k2 : (P.stopKnobs == []) = true) (h_ip : (c.inPlace == P.inPlace f) = true) (h_uf : (c.unfollowed == P.unfollowed f) = true) (h_rc : (c.recurses == P.recurses f) = true) (h_nm : (c.named == P.varsNamed f) = true) (h_mp : (c.maps == (fn.params.toList ++ s.plain.varTypes P).any (P.mapsRec ·)) = true) (h_if : (c.ifaces == (fn.params.toList ++ s.plain.varTypes P).any (P.ifacesRec ·)) = true) (h_mo : (c.mapsOut == P.mapsAmong fn.resultTypes.toList) = true) (h_lp : (c.loops == (fn.params.toList ++ s.plain.varTypes P).any (P.loopsFrom ·)) = true) (h_wk : (c.wideKeys == (fn.params.toList ++ s.plain.varTypes P ++ fn.resultTypes.toList).any (P.wideKeysFrom ·)) = true) (h_vr : s.vars.all (P.varReadable ·) = true) (h_rr : fn.resultTypes.all (fun t => P.readableRec t && decide (t < P.types.size)) = true) (h_io : (c.ifacesOut == fn.resultTypes.toList.any (P.ifacesRec ·)) = true) (h_ol : (c.loopsOut == fn.resultTypes.toList.any (P.loopsFrom ·)) = true) (h_pk : (c.plainKeys == P.plainKeys) = true) (h_st : c.shortTexts.isNone = true) (h_sh : P.stopsHeard = true) (h_me : P.mayEnter = true) (h_lf : (c.lifted == P.liftsFinal) = true) (h_mk : (P.make == some c.make) = true) (h_kd : (c.kinds == (if c.domain.isEmpty then [] else fn.params.toList.map fun t => match P.underlying t with | some (.int k) => some k | _ => none)) = true) (h_pn : (c.pinned == c.pinnedBy) = true) (h_vl : (c.veiled == (fn.params.toList ++ s.plain.varTypes P ++ fn.resultTypes.toList).any (P.veiledRec ·)) = true) (h_vf : c.veiledFits P fn.params.toList (fn.params.toList ++ s.plain.varTypes P ++ fn.resultTypes.toList) = true) : joinedFacts P f fn s c = true := by
  unfold joinedFacts
  simp only [h_wf, h_lo, h_mr, h_rd, h_nt, h_s1, h_s2, h_k1, h_k2, h_ip, h_uf, h_rc, h_nm, h_mp, h_if, h_mo, h_lp, h_wk, h_vr, h_rr, h_io, h_ol, h_pk, h_st, h_sh, h_me, h_lf, h_mk, h_pn, h_vl, h_vf, Bool.and_true, Bool.true_and]
  exact h_kd
theorem fact_lo : laidOutB (Tryz.prog) = true := by kernel_rfl
theorem fact_mr : mapsRowed (Tryz.prog) = true := by kernel_rfl
theorem fact_s2 : ((Tryz.prog).stops == []) = true := by kernel_rfl
theorem fact_k2 : ((Tryz.prog).stopKnobs == []) = true := by kernel_rfl
theorem fact_sh : (Tryz.prog).stopsHeard = true := by kernel_rfl
theorem fact_me : (Tryz.prog).mayEnter = true := by kernel_rfl
set_option maxRecDepth 100000 in
set_option maxHeartbeats 4000000 in
theorem walk (a : Int) (ra : -9223372036854775808 ≤ a ∧ a ≤ 9223372036854775807) (b : Int) (rb : -9223372036854775808 ≤ b ∧ b ≤ 9223372036854775807) (w : World) :
    Calls Tryz.prog 4 #[.int .i64 a, .int .i64 b] w fun e w' => e = .returned (.bool true) ∧ Below w.heap.size w w' := by
  have hbe := run_exit
  have HRA := Lib.hid ra
  have HRB := Lib.hid rb
  clear ra rb
  go_enter Tryz.func4, Tryz.ntmps4
  go_wp2_with fail
  go_loopg [5] 4 (fun g s5 wr => ∃ sz : Int, s5 = .int .i64 sz ∧ (SzOK sz ∧ 1 ≤ g ∧ sz * 2 ^ g = 128 ∨ sz = 128 ∧ g = 0) ∧ g ≤ 4 ∧ Below w.heap.size w wr)
  case atStart => exact ⟨8, rfl, Or.inl ⟨Or.inl rfl, by decide, rfl⟩, by decide, Below.refl _ _⟩
  case round =>
    obtain ⟨sz, rfl, hsz, hg4, hB⟩ := hrel
    have HB := Lib.hid hB
    clear hB
    by_cases h64 : sz ≤ 64
    · have hj : decide (sz ≤ 64) = true := by simpa using h64
      obtain ⟨hs, hg1, hg⟩ : SzOK sz ∧ 1 ≤ gk ∧ sz * 2 ^ gk = 128 := by
        rcases hsz with h | h
        · exact h
        · omega
      have HS := Lib.hid hs
      have HG := Lib.hid (And.intro hg1 (And.intro hg hg4))
      clear hs hg1 hg hsz h64 hg4
      go_wp2_with fail
      go_loopg [6] 5 (fun g s6 wi => ∃ k : Nat, k ≤ 5 ∧ g = 5 - k ∧ s6 = .int .i64 k ∧ Below w.heap.size w wi)
      case atStart => exact ⟨0, by decide, rfl, rfl, HB.out⟩
      case round =>
        obtain ⟨k, hk, rfl, rfl, hBi⟩ := hrel
        have HBI := Lib.hid hBi
        clear hBi HB
        by_cases hk4 : k < 5
        · have hj2 : decide ((k : Int) < 5) = true := by simp; omega
          have HK4 := Lib.hid hk4
          clear hk
          have hwk : wrap64 ((k : Int) + 1) = ((k + 1 : Nat) : Int) := by unfold wrap64; omega
          have hk1 : (0 : Int) ≤ (k : Int) := by omega
          have hk2 : (k : Int) < 5 := by omega
          have hidx := index_k k hk4
          have hbp := run_part
          obtain ⟨op, hop⟩ : ∃ op, op = opK k := ⟨_, rfl⟩
          rw [← hop] at hidx
          have HOP := Lib.hid hop
          clear hop hk4
          obtain ⟨T, hT⟩ : ∃ T, decide (2 < (k : Int)) = T := ⟨_, rfl⟩
          have HT := Lib.hid hT
          go_upto_if 34 with (go_at_call 22; refine (swap_told _ _ _ HRA.out _).mono ?_; rintro e w' ⟨rfl, rfl⟩)
          go_cut [8] (fun s8 wx => ∃ (nar reg : Bool) (src : Int), insK k sz = ⟨op, nar, reg, sz, 0, src, 0, 0⟩ ∧ s8 = .int .i64 (wantK k sz a) ∧ Row wx wr.heap.size 23 (insc op nar reg sz 0 src 0 0) ∧ Below w.heap.size w wx)
          case first =>
            have hB1 := HBI.out.alloc (by have := HBI.out.size; exact this) (.cells #[.int .i64 op, .bool false, .bool false, .int .i64 sz, .int .i64 0, .int .i64 0, .int .i64 0, .int .i64 0] 23)
            by_cases hk2' : k < 2
            · have q2 : decide ((k : Int) < 2) = true := by simp; omega
              obtain ⟨N, hN⟩ : ∃ N : Bool, ((k : Int) == 1) = N := ⟨_, rfl⟩
              have HN := Lib.hid (And.intro hk2' hN)
              clear hT hk2'
              try simp only [q2]
              go_wp2_with (go_at_call 23; refine (extend_told _ _ _ _).mono ?_; rintro e w' ⟨rfl, rfl⟩)
              go_meet
              case rel =>
                obtain ⟨h2, hN'⟩ := HN.out
                rw [nat_eq1] at hN'
                exact ⟨N, true, 3, by unfold insK; rw [if_pos h2, decide_eq_true h2, hN', ← HOP.out], by unfold wantK; rw [if_pos h2, hN'], Row.made wr (insc op N true sz 0 3 0 0) _, HBI.out.alloc (by have := HBI.out.size; exact this) _⟩
            · have q2 : decide ((k : Int) < 2) = false := by simp; omega
              have HN := Lib.hid hk2'
              clear hT hk2'
              try simp only [q2]
              go_wp2_with fail
              go_meet
              case rel =>
                have h2 := HN.out
                have hT' : T = decide (2 < k) := by rw [← HT.out]; simp; omega
                exact ⟨false, false, 0, by unfold insK; rw [if_neg h2, decide_eq_false h2, show (k == 1) = false by simp; omega, ← HOP.out], by unfold wantK; rw [if_neg h2, hT'], Row.made wr (insc op false false sz 0 0 0 0) _, hB1⟩
          case rest =>
            obtain ⟨nar, reg, src, hins, rfl, hR, hBx⟩ := hcut
            have HINS := Lib.hid hins
            have HK := Lib.hid (KB.mk hR hBx HBI.out.size)
            clear hins hR hBx hT
            go_upto_region 14 with fail
            go_cut [9] (fun s9 wx => s9 = .bool (refK k sz) ∧ KB w wr.heap.size (insc op nar reg sz 0 src 0 0) wx)
            case first =>
              have hs := HS.out
              have hk5 := HK4.out
              have hk' : k = 0 ∨ k = 1 ∨ k = 2 ∨ k = 3 ∨ k = 4 := by omega
              clear hk5 hidx hwk
              rcases hk' with rfl | rfl | rfl | rfl | rfl <;> rcases hs with rfl | rfl | rfl | rfl
              all_goals
                go_wp2_with fail
                go_meet
                case rel => exact ⟨rfl, HK.out⟩
            case rest =>
              obtain ⟨rfl, hK⟩ := hcut
              obtain ⟨rf, hrf⟩ : ∃ rf, rf = refK k sz := ⟨_, rfl⟩
              rw [← hrf]
              have HRF := Lib.hid hrf
              have HK2 := Lib.hid hK
              clear hK HK hrf
              go_upto_if 69 with fail
              go_cut [10] (fun s10 wx => ∃ first : Int, s10 = .int .i64 first ∧ (2 ≤ k → first = a) ∧ KB w wr.heap.size (insc op nar reg sz 0 src 0 0) wx)
              case first =>
                by_cases hk2' : k < 2
                · have q2 : decide (2 ≤ (k : Int)) = false := by simp; omega
                  have HN := Lib.hid hk2'
                  clear hk2'
                  try simp only [q2]
                  go_wp2_with fail
                  go_meet
                  case rel => exact ⟨b, rfl, fun h => absurd h (by have := HN.out; omega), HK2.out⟩
                · have q2 : decide (2 ≤ (k : Int)) = true := by simp; omega
                  clear hk2'
                  try simp only [q2]
                  go_wp2_with fail
                  go_meet
                  case rel => exact ⟨a, rfl, fun _ => rfl, HK2.out⟩
              case rest =>
                obtain ⟨first, rfl, hf, hK⟩ := hcut
                have hG := goodP k HK4.out sz HS.out a first hf HRA.out
                unfold GoodP at hG
                rw [← HRF.out, HINS.out] at hG
                have HG := Lib.hid hG
                have HK3 := Lib.hid hK
                clear hG hK hf HK2
                obtain ⟨er, her⟩ : ∃ er : Int, er = if rf = true then 1 else 0 := ⟨_, rfl⟩
                obtain ⟨r0, hr0⟩ : ∃ r0 : Int, r0 = if rf = true then 0 else wantK k sz a := ⟨_, rfl⟩
                obtain ⟨want, hwant⟩ : ∃ want : Int, want = wantK k sz a := ⟨_, rfl⟩
                rw [← her, ← hr0] at HG
                have HER := Lib.hid (And.intro her (And.intro hr0 hwant))
                rw [← hwant]
                clear her hr0 hwant
                go_upto_region 18 with fail
                go_cut [11, 12] (fun s11 s12 wx => ∃ (q : Nat) (x1 x2 x3 : Value), s11 = .pointer (some ⟨q, 0, none⟩) ∧ s12 = .int .i64 er ∧ Row wx q 31 [.int .i64 r0, x1, x2, x3] ∧ Below w.heap.size w wx)
                case first =>
                  have hks := (HK3.out.next (Below.refl _ _).drew).k
                  go_region_held3 (fun w' => w'.cell? ⟨wr.heap.size, 0, none⟩ = some (.int .i64 op) ∧ w'.cell? ⟨wr.heap.size, 1, none⟩ = some (.bool nar) ∧ w'.cell? ⟨wr.heap.size, 2, none⟩ = some (.bool reg) ∧ w'.cell? ⟨wr.heap.size, 3, none⟩ = some (.int .i64 sz) ∧ w'.cell? ⟨wr.heap.size, 4, none⟩ = some (.int .i64 0) ∧ w'.cell? ⟨wr.heap.size, 5, none⟩ = some (.int .i64 src) ∧ w'.cell? ⟨wr.heap.size, 6, none⟩ = some (.int .i64 0) ∧ w'.cell? ⟨wr.heap.size, 7, none⟩ = some (.int .i64 0) ∧ KB w wr.heap.size (insc op nar reg sz 0 src 0 0) w')
                    (first
                      | with_reducible assumption
                      | with_reducible exact KB.n (by with_reducible assumption) ((Below.refl _ _).alloc (Nat.le_refl _) _)
                      | with_reducible exact KB.n (KB.n (by with_reducible assumption) ((Below.refl _ _).alloc (Nat.le_refl _) _)) ((Below.refl _ _).alloc (Nat.le_refl _) _)
                      | with_reducible exact KB.p (by with_reducible assumption) hbox _ _ _ _
                      | fail "none")
                    (first
                      | (go_at_call 21; refine (wide_of _ _ _).mono ?_; rintro e w' ⟨rfl, hbW⟩; have hbK := KB.n (by with_reducible assumption) hbW; have hib := hbK.2.2.2.2.2.2.2.2.row.lt; first | (with_reducible have hbox := box_new2 (by with_reducible assumption) hbW; obtain ⟨_, ⟨_, _, _, _⟩, _, _, _, _⟩ := hbox.four) | (with_reducible have hbox := box_new (by with_reducible assumption) hbW; obtain ⟨_, ⟨_, _, _, _⟩, _, _, _, _⟩ := hbox.four) | (with_reducible have hbox := box_newd (by with_reducible assumption) hbW; obtain ⟨_, ⟨_, _, _, _⟩, _, _, _, _⟩ := hbox.four) | (with_reducible have hbox := box_newo (by with_reducible assumption) (by assumption) hbW; obtain ⟨_, ⟨_, _, _, _⟩, _, _, _, _⟩ := hbox.four) | (with_reducible have hbox := hbox.old hbW; obtain ⟨_, ⟨_, _, _, _⟩, _, _, _, _⟩ := hbox.four) | (with_reducible have hbox := hbox.oldo hbW; obtain ⟨_, ⟨_, _, _, _⟩, _, _, _, _⟩ := hbox.four) | skip)
                      | (go_at_call 20; refine (HG.out _ _ _ (by first | exact coded4g _ _ _ _ _ _ _ _ _ _ _ | exact coded4gn _ _ _ _ _ _ _ _ _ _ _ _ | exact (coded4g _ _ _ _ _ _ _ _ _ _ _).below (below_map _ _) (Nat.le_refl _))).mono ?_; rintro e w' ⟨_, _, _, _, _, _, _, _, _, rfl, hbW⟩; have hbK := KB.n (by with_reducible assumption) hbW; first | (with_reducible have hbox := box_new2 (by with_reducible assumption) hbW; obtain ⟨_, ⟨_, _, _, _⟩, _, _, _, _⟩ := hbox.four) | (with_reducible have hbox := box_new (by with_reducible assumption) hbW; obtain ⟨_, ⟨_, _, _, _⟩, _, _, _, _⟩ := hbox.four) | (with_reducible have hbox := box_newd (by with_reducible assumption) hbW; obtain ⟨_, ⟨_, _, _, _⟩, _, _, _, _⟩ := hbox.four) | (with_reducible have hbox := box_newo (by with_reducible assumption) (by assumption) hbW; obtain ⟨_, ⟨_, _, _, _⟩, _, _, _, _⟩ := hbox.four) | (with_reducible have hbox := hbox.old hbW; obtain ⟨_, ⟨_, _, _, _⟩, _, _, _, _⟩ := hbox.four) | (with_reducible have hbox := hbox.oldo hbW; obtain ⟨_, ⟨_, _, _, _⟩, _, _, _, _⟩ := hbox.four) | skip))
                  all_goals
                    rename_i hheld
                    go_wp2_with fail
                    go_meet
                    case rel =>
                      first
                        | exact ⟨_, _, _, _, rfl, rfl, hbox.row.put4 _ _ _ _, hheld.2.2.2.2.2.2.2.2.bel⟩
                        | exact ⟨_, _, _, _, rfl, rfl, Row.made _ [_, _, _, _] _, hheld.2.2.2.2.2.2.2.2.bel⟩
                case rest =>
                  obtain ⟨q, x1, x2, x3, rfl, rfl, hR, hBz⟩ := hcut
                  obtain ⟨⟨_, _, _, _⟩, _⟩ := hR.four
                  have HBZ := Lib.hid hBz
                  clear hR hBz HG HK3
                  cases rf with
                  | true =>
                    obtain ⟨rfl, rfl, _⟩ := HER.out
                    go_wp2_with fail
                    go_roundg (5 - (k + 1))
                    case measure => have := HK4.out; omega
                    case rel => exact ⟨k + 1, by have := HK4.out; omega, rfl, by first | rw [hwk] | (push_cast; rfl), HBZ.out⟩
                  | false =>
                    obtain ⟨rfl, h2, h3⟩ := HER.out
                    obtain rfl : r0 = want := by rw [h2, h3]; rfl
                    clear h2 h3
                    go_wp2_with fail
                    go_roundg (5 - (k + 1))
                    case measure => have := HK4.out; omega
                    case rel => exact ⟨k + 1, by have := HK4.out; omega, rfl, by first | rw [hwk] | (push_cast; rfl), HBZ.out⟩
        · have hj2 : decide ((k : Int) < 5) = false := by simp; omega
          clear hk hk4
          have hw2 : wrap64 (2 * sz) = 2 * sz := by have := HS.out; unfold SzOK at this; unfold wrap64; omega
          go_wp2_with fail
          go_roundg (gk - 1)
          case measure => have := HG.out.1; omega
          case rel =>
            obtain ⟨h1, h2, h3⟩ := HG.out
            refine ⟨2 * sz, by first | rw [hw2] | rfl, ?_, by omega, HBI.out⟩
            rcases HS.out with rfl | rfl | rfl | rfl
            · exact Or.inl ⟨Or.inr (Or.inl rfl), by
                have : gk = 4 := by
                  have hc : gk = 1 ∨ gk = 2 ∨ gk = 3 ∨ gk = 4 := by omega
                  rcases hc with rfl | rfl | rfl | rfl <;> first | rfl | (exfalso; revert h2; decide)
                subst this; exact ⟨by decide, by decide⟩⟩
            · exact Or.inl ⟨Or.inr (Or.inr (Or.inl rfl)), by
                have : gk = 3 := by
                  have hc : gk = 1 ∨ gk = 2 ∨ gk = 3 ∨ gk = 4 := by omega
                  rcases hc with rfl | rfl | rfl | rfl <;> first | rfl | (exfalso; revert h2; decide)
                subst this; exact ⟨by decide, by decide⟩⟩
            · exact Or.inl ⟨Or.inr (Or.inr (Or.inr rfl)), by
                have : gk = 2 := by
                  have hc : gk = 1 ∨ gk = 2 ∨ gk = 3 ∨ gk = 4 := by omega
                  rcases hc with rfl | rfl | rfl | rfl <;> first | rfl | (exfalso; revert h2; decide)
                subst this; exact ⟨by decide, by decide⟩⟩
            · exact Or.inr ⟨rfl, by
                have hc : gk = 1 ∨ gk = 2 ∨ gk = 3 ∨ gk = 4 := by omega
                rcases hc with rfl | rfl | rfl | rfl <;> first | rfl | (exfalso; revert h2; decide)⟩
    · have hj : decide (sz ≤ 64) = false := by simpa using h64
      clear hsz h64 hg4
      have hb3 := run_be
      go_upto_region 21 with fail
      go_cut [13, 14] (fun s13 s14 wx => ∃ (q : Nat) (x1 x2 x3 : Value), s13 = .pointer (some ⟨q, 0, none⟩) ∧ s14 = .int .i64 0 ∧ Row wx q 31 [.int .i64 513, x1, x2, x3] ∧ Below w.heap.size w wx)
      case first =>
        go_wp2_with (first
            | (go_at_call 21; refine (wide_of _ _ _).mono ?_; rintro e wW ⟨rfl, hbW⟩; have hK1 := (KL.mk HB.out).next hbW)
            | (go_at_call 20; refine (good_be _ _ _ (coded_be _)).mono ?_; rintro e wR ⟨_, _, _, _, _, _, _, _, _, rfl, hbR⟩))
        go_meet
        case rel => exact ⟨_, _, _, _, rfl, rfl, Row.made _ [_, _, _, _] _, ((hK1.next (below_map _ _)).next hbR).bel.alloc (by have := ((hK1.next (below_map _ _)).next hbR).bel.size; exact this) _⟩
      case rest =>
        obtain ⟨q, x1, x2, x3, rfl, rfl, hR, hBz⟩ := hcut
        obtain ⟨⟨_, _, _, _⟩, _⟩ := hR.four
        have HBZ := Lib.hid hBz
        clear hR hBz
        go_wp2_with fail
        go_ret
        exact ⟨rfl, HBZ.out⟩


theorem fact_wf : (Rows.machPartsRow.wf (OpenSpec.ofChange Rows.machPartsSpec)) = true := by kernel_rfl
theorem fact_rd : (Tryz.f4.params.all ((Tryz.prog).readableRec ·)) = true := by kernel_rfl
theorem fact_nt : (namedTie (Tryz.prog) Rows.machPartsRow.named Rows.machPartsSpec.vars) = true := by kernel_rfl
theorem fact_s1 : ((Rows.machPartsRow.stops == [])) = true := by kernel_rfl
theorem fact_k1 : ((Rows.machPartsRow.knobs == [])) = true := by kernel_rfl
theorem fact_ip : ((Rows.machPartsRow.inPlace == (Tryz.prog).inPlace 4)) = true := by kernel_rfl
theorem fact_uf : ((Rows.machPartsRow.unfollowed == (Tryz.prog).unfollowed 4)) = true := by kernel_rfl
theorem fact_rc : ((Rows.machPartsRow.recurses == (Tryz.prog).recurses 4)) = true := by kernel_rfl
theorem fact_nm : ((Rows.machPartsRow.named == (Tryz.prog).varsNamed 4)) = true := by kernel_rfl
theorem fact_mp : ((Rows.machPartsRow.maps == (Tryz.f4.params.toList ++ Rows.machPartsSpec.plain.varTypes (Tryz.prog)).any ((Tryz.prog).mapsRec ·))) = true := by kernel_rfl
theorem fact_if : ((Rows.machPartsRow.ifaces == (Tryz.f4.params.toList ++ Rows.machPartsSpec.plain.varTypes (Tryz.prog)).any ((Tryz.prog).ifacesRec ·))) = true := by kernel_rfl
theorem fact_mo : ((Rows.machPartsRow.mapsOut == (Tryz.prog).mapsAmong Tryz.f4.resultTypes.toList)) = true := by kernel_rfl
theorem fact_lp : ((Rows.machPartsRow.loops == (Tryz.f4.params.toList ++ Rows.machPartsSpec.plain.varTypes (Tryz.prog)).any ((Tryz.prog).loopsFrom ·))) = true := by kernel_rfl
theorem fact_wk : ((Rows.machPartsRow.wideKeys == (Tryz.f4.params.toList ++ Rows.machPartsSpec.plain.varTypes (Tryz.prog) ++ Tryz.f4.resultTypes.toList).any ((Tryz.prog).wideKeysFrom ·))) = true := by kernel_rfl
theorem fact_vr : (Rows.machPartsSpec.vars.all ((Tryz.prog).varReadable ·)) = true := by kernel_rfl
theorem fact_rr : (Tryz.f4.resultTypes.all (fun t => (Tryz.prog).readableRec t && decide (t < (Tryz.prog).types.size))) = true := by kernel_rfl
theorem fact_io : ((Rows.machPartsRow.ifacesOut == Tryz.f4.resultTypes.toList.any ((Tryz.prog).ifacesRec ·))) = true := by kernel_rfl
theorem fact_ol : ((Rows.machPartsRow.loopsOut == Tryz.f4.resultTypes.toList.any ((Tryz.prog).loopsFrom ·))) = true := by kernel_rfl
theorem fact_pk : ((Rows.machPartsRow.plainKeys == (Tryz.prog).plainKeys)) = true := by kernel_rfl
theorem fact_st : (Rows.machPartsRow.shortTexts.isNone) = true := by kernel_rfl
theorem fact_lf : ((Rows.machPartsRow.lifted == (Tryz.prog).liftsFinal)) = true := by kernel_rfl
theorem fact_mk : (((Tryz.prog).make == some Rows.machPartsRow.make)) = true := by kernel_rfl
theorem fact_kd : ((Rows.machPartsRow.kinds == (if Rows.machPartsRow.domain.isEmpty then [] else Tryz.f4.params.toList.map fun t => match (Tryz.prog).underlying t with | some (.int k) => some k | _ => none))) = true := by kernel_rfl
theorem fact_pn : ((Rows.machPartsRow.pinned == Rows.machPartsRow.pinnedBy)) = true := by kernel_rfl
theorem fact_vl : ((Rows.machPartsRow.veiled == (Tryz.f4.params.toList ++ Rows.machPartsSpec.plain.varTypes (Tryz.prog) ++ Tryz.f4.resultTypes.toList).any ((Tryz.prog).veiledRec ·))) = true := by kernel_rfl
theorem fact_vf : (Rows.machPartsRow.veiledFits (Tryz.prog) Tryz.f4.params.toList (Tryz.f4.params.toList ++ Rows.machPartsSpec.plain.varTypes (Tryz.prog) ++ Tryz.f4.resultTypes.toList)) = true := by kernel_rfl
set_option maxRecDepth 100000 in
theorem closed : joinedFacts Tryz.prog 4 Tryz.f4 Rows.machPartsSpec Rows.machPartsRow = true :=
  closed_of fact_wf fact_lo fact_mr fact_rd fact_nt fact_s1 fact_s2 fact_k1 fact_k2 fact_ip fact_uf fact_rc fact_nm fact_mp fact_if fact_mo fact_lp fact_wk fact_vr fact_rr fact_io fact_ol fact_pk fact_st fact_sh fact_me fact_lf fact_mk fact_kd fact_pn fact_vl fact_vf

theorem own : ownKnob Tryz.prog.godebug = none := by kernel_rfl
set_option maxRecDepth 100000 in
theorem lifted (os : Os) (started : os.Started) (H : Type) (enc : TypeId × Value → H) :
    ReturnsInHanded {} Tryz.checked os 4 .any (Rows.machPartsSpec.pre6 enc Tryz.prog Tryz.f4 Rows.machPartsRow.domain false) (Rows.machPartsSpec.post enc Tryz.prog Tryz.f4 false true false false) := by
  refine returnsInHanded_of_change (C := Tryz.checked) own started (by kernel_rfl) Tryz.func4
    (ChangeSpec.witness6 (enc := enc) (C := Tryz.checked) false ⟨#[], #[.int .i64 0, .int .i64 0], []⟩ 8 (by kernel_rfl) (by kernel_rfl) (by kernel_rfl) (by kernel_rfl)) ?_
  intro W base args ds gs before hval0 hW hcnd _
  have hval : ∀ (j : Nat) t v, Tryz.f4.params[j]? = some t → args[j]? = some v → Value.okWide Tryz.prog W .any base t v := hval0
  have hW' := hW
  obtain ⟨p, q, hA0, hV, rfl, hfz, hnd⟩ := hW
  have hA : DataW.TrodAll enc Tryz.prog W 0 (fun _ => true) true Tryz.f4.params.toList args.toList ds p := hA0
  rw [Tryz.params4] at hA hval
  obtain ⟨v0, vs0, d0, ds0, p0, q0, hargs, rfl, rfl, h0, r0⟩ := trodAll_cons hA
  obtain ⟨v1, vs1, d1, ds1, p1, q1, rfl, rfl, rfl, h1, r1⟩ := trodAll_cons r0
  obtain ⟨rfl, rfl, rfl⟩ := trodAll_nil r1
  obtain rfl : args = #[v0, v1] := by cases args; simp_all
  obtain ⟨a0, rfl, rfl, rfl, w0⟩ := open_int Tryz.underlying3 (hval 0 3 v0 rfl rfl) h0
  obtain ⟨a1, rfl, rfl, rfl, w1⟩ := open_int Tryz.underlying3 (hval 1 3 v1 rfl rfl) h1
  refine (walk a0 (range_i64 w0) a1 (range_i64 w1) W).mono fun e W' ⟨he, hb⟩ => ?_
  subst he
  exact ⟨_, rfl, law_post (tb := 4) (by kernel_rfl) (by kernel_rfl) rfl Tryz.underlying4 rfl (fun h => by subst h; rfl) hW' hb⟩

theorem proved : Rows.MachPartsSaid :=
  OpenClaim.holds_of_wide 4 Tryz.f4 rfl rfl rfl rfl rfl rfl rfl ⟨rfl, rfl, rfl, rfl, rfl⟩ rfl rfl rfl rfl rfl (by kernel_rfl) Tryz.func4 closed
    (of_decide_eq_true (by kernel_rfl)) (by unfold Func.isWrapper; first | (rw [if_pos (by decide +kernel)]; kernel_rfl) | (rw [if_neg (by decide +kernel)]; exact ⟨rfl, rfl⟩))
    (fun os started H enc _ => lifted os started H enc)
#print axioms proved

end Go.Proofs.YtbkcpepalicbjaaGreat.machParts
