/-
  MachJumps: a conditional jump is taken just where package word's Holds says so, with a register and with a number, wide and narrow, over instructions of one unit and of two; to where no instruction begins it is a trap; no condition.
-/
import Derived.Test.YtbkcpepalicbjaaGreatMachBL
import Derived.Test.YtbkcpepalicbjaaGreatFacts
import Derived.OpenShut
namespace Go.Proofs.YtbkcpepalicbjaaGreat.machJumps
open Go.ChangeShapes Go.WideShapes Go.ChangeAt Go.RowKit
set_option linter.unusedVariables false
set_option linter.unusedSimpArgs false

set_option maxRecDepth 100000 in
set_option maxHeartbeats 4000000 in
theorem walk (a : Int) (ra : -9223372036854775808 ≤ a ∧ a ≤ 9223372036854775807) (b : Int) (rb : -9223372036854775808 ≤ b ∧ b ≤ 9223372036854775807) (w : World) :
    Calls Tryz.prog 17 #[.int .i64 a, .int .i64 b] w fun e w' => e = .returned (.bool true) ∧ Below w.heap.size w w' := by
  have hbr := run_i014256
  have hbi := run_i01476
  have HRA := Lib.hid ra
  have HRB := Lib.hid rb
  clear ra rb
  go_enter Tryz.func17, Tryz.ntmps17
  go_wp2_with fail
  go_loopg [5] 11 (fun g s5 wr => ∃ op : Nat, 27 ≤ op ∧ op ≤ 38 ∧ g = 38 - op ∧ s5 = .int .i64 op ∧ Below w.heap.size w wr)
  case atStart => exact ⟨27, by decide, by decide, rfl, rfl, Below.refl _ _⟩
  case round =>
    obtain ⟨op, ho1, ho2, rfl, rfl, hB⟩ := hrel
    have HB := Lib.hid hB
    clear hB
    by_cases hop : op ≤ 37
    · have hj : decide ((op : Int) ≤ 37) = true := by simp; omega
      have hwo : wrap64 ((op : Int) + 1) = ((op + 1 : Nat) : Int) := by unfold wrap64; omega
      have HO1 := Lib.hid ho1
      have HOP := Lib.hid hop
      clear ho1 ho2 hop
      go_wp2_with fail
      go_loopg [6] 4 (fun g s6 wi => ∃ k : Nat, k ≤ 4 ∧ g = 4 - k ∧ s6 = .int .i64 k ∧ Below w.heap.size w wi)
      case atStart => exact ⟨0, by decide, rfl, rfl, HB.out⟩
      case round =>
        obtain ⟨k, hk, rfl, rfl, hBi⟩ := hrel
        have HBI := Lib.hid hBi
        clear hBi HB
        by_cases hk4 : k < 4
        · have hj2 : decide ((k : Int) < 4) = true := by simp; omega
          have HK4 := Lib.hid hk4
          clear hk hk4
          have hwk : wrap64 ((k : Int) + 1) = ((k + 1 : Nat) : Int) := by have := HK4.out; unfold wrap64; omega
          obtain ⟨nar, hnar⟩ : ∃ nar : Bool, (bits .and .i64 (k : Int) 1 == 1) = nar := ⟨_, rfl⟩
          go_upto_if 27 with fail
          go_cut [8] (fun s8 wx => ∃ (y : Int) (reg : Bool) (src imm : Int), s8 = .int .i64 y ∧ Row wx wr.heap.size 23 (insc op nar reg 0 3 src 3 imm) ∧ (∀ off, off = 1 ∨ off = 40 ∨ off = 3 → JIns op nar off y ⟨op, nar, reg, 0, 3, src, off, imm⟩) ∧ i64r y ∧ Below w.heap.size w wx)
          case first =>
            have hor : 27 ≤ (op : Int) ∧ (op : Int) ≤ 37 := by have := HO1.out; have := HOP.out; omega
            have HOR := Lib.hid hor
            clear hor
            by_cases hk2 : k < 2
            · have q2 : decide (2 ≤ (k : Int)) = false := by simp; omega
              clear hk2
              try simp only [q2]
              go_wp2_with fail
              go_meet
              case rel =>
                exact ⟨b, true, 4, 0, rfl, Row.made wr (insc op nar true 0 3 4 3 0) 23, fun off ho => ⟨HOR.out, by omega, Or.inl rfl⟩, HRB.out, HBI.out.alloc (by have := HBI.out.size; exact this) _⟩
            · have q2 : decide (2 ≤ (k : Int)) = true := by simp; omega
              clear hk2
              obtain ⟨y, hy⟩ : ∃ y, wrap64 (wrap32 b) = y := ⟨_, rfl⟩
              have hyr : -2147483648 ≤ y ∧ y ≤ 2147483647 := by rw [← hy]; unfold wrap64 wrap32; omega
              have HY := Lib.hid hyr
              clear hyr
              try simp only [q2]
              go_wp2_with fail
              go_meet
              case rel =>
                exact ⟨y, false, 0, y, congrArg (Value.int .i64) hy, Row.made wr (insc op nar false 0 3 0 3 y) 23, fun off ho => ⟨HOR.out, by omega, Or.inr ⟨HY.out, rfl⟩⟩, by have := HY.out; unfold i64r; omega, HBI.out.alloc (by have := HBI.out.size; exact this) _⟩
          case rest =>
            obtain ⟨y, reg, src, imm, rfl, hR, hJ, hy, hBx⟩ := hcut
            have HK := Lib.hid (KB.mk hR hBx HBI.out.size)
            have HJ := Lib.hid hJ
            have HY := Lib.hid hy
            obtain ⟨r0, hr0⟩ : ∃ r : Int, r = if holdF op nar a y then 1 else 2 := ⟨_, rfl⟩
            have hG := j_runs (hJ 3 (Or.inr (Or.inr rfl))) a HRA.out hy
            rw [← hr0] at hG
            have HG := Lib.hid hG
            have HR0 := Lib.hid hr0
            have HHOLD := Lib.hid (holds_says op nar a y HRA.out hy (by have := HO1.out; have := HOP.out; omega))
            have HNOW := Lib.hid (fun w => nowhere_of op nar reg src imm 3 y (fun off ho => hJ off (by omega)) a HRA.out hy w)
            clear hR hJ hy hBx hr0 hG HBI
            have hbe := run_i0
            have hbm := run_i047
            go_upto_region 12 with fail
            go_cut [9, 10] (fun s9 s10 wx => ∃ (q : Nat) (x1 x2 x3 : Value), s9 = .pointer (some ⟨q, 0, none⟩) ∧ s10 = .int .i64 0 ∧ Row wx q 31 [.int .i64 r0, x1, x2, x3] ∧ KB w wr.heap.size (insc op nar reg 0 3 src 3 imm) wx)
            case first =>
              have hks := (HK.out.next (Below.refl _ _).drew).k
              go_region_held3 (fun w' => w'.cell? ⟨wr.heap.size, 0, none⟩ = some (.int .i64 op) ∧ w'.cell? ⟨wr.heap.size, 1, none⟩ = some (.bool nar) ∧ w'.cell? ⟨wr.heap.size, 2, none⟩ = some (.bool reg) ∧ w'.cell? ⟨wr.heap.size, 3, none⟩ = some (.int .i64 0) ∧ w'.cell? ⟨wr.heap.size, 4, none⟩ = some (.int .i64 3) ∧ w'.cell? ⟨wr.heap.size, 5, none⟩ = some (.int .i64 src) ∧ w'.cell? ⟨wr.heap.size, 6, none⟩ = some (.int .i64 3) ∧ w'.cell? ⟨wr.heap.size, 7, none⟩ = some (.int .i64 imm) ∧ KB w wr.heap.size (insc op nar reg 0 3 src 3 imm) w')
                (first
                  | with_reducible assumption
                  | with_reducible exact KB.n (by with_reducible assumption) ((Below.refl _ _).alloc (Nat.le_refl _) _)
                  | with_reducible exact KB.n (KB.n (by with_reducible assumption) ((Below.refl _ _).alloc (Nat.le_refl _) _)) ((Below.refl _ _).alloc (Nat.le_refl _) _)
                  | with_reducible exact KB.p (by with_reducible assumption) hbox _ _ _ _
                  | fail "none")
                (first
                  | (go_at_call 21; refine (wide_of _ _ _).mono ?_; rintro e w' ⟨rfl, hbW⟩; have hbK := KB.n (by with_reducible assumption) hbW; have hib := hbK.2.2.2.2.2.2.2.2.row.lt; first | (with_reducible have hbox := box_new2 (by with_reducible assumption) hbW; obtain ⟨_, ⟨_, _, _, _⟩, _, _, _, _⟩ := hbox.four) | (with_reducible have hbox := box_new (by with_reducible assumption) hbW; obtain ⟨_, ⟨_, _, _, _⟩, _, _, _, _⟩ := hbox.four) | (with_reducible have hbox := box_newd (by with_reducible assumption) hbW; obtain ⟨_, ⟨_, _, _, _⟩, _, _, _, _⟩ := hbox.four) | (with_reducible have hbox := box_newo (by with_reducible assumption) (by assumption) hbW; obtain ⟨_, ⟨_, _, _, _⟩, _, _, _, _⟩ := hbox.four) | (with_reducible have hbox := hbox.old hbW; obtain ⟨_, ⟨_, _, _, _⟩, _, _, _, _⟩ := hbox.four) | (with_reducible have hbox := hbox.oldo hbW; obtain ⟨_, ⟨_, _, _, _⟩, _, _, _, _⟩ := hbox.four) | skip)
                  | (go_at_call 20; refine (HG.out _ _ _ (by first | exact coded_j7 _ _ _ _ _ _ _ _ _ | exact coded_j7n _ _ _ _ _ _ _ _ _ _ | exact (coded_j7 _ _ _ _ _ _ _ _ _).below (below_map _ _) (Nat.le_refl _))).mono ?_; rintro e w' ⟨_, _, _, _, _, _, _, _, _, rfl, hbW⟩; have hbK := KB.n (by with_reducible assumption) hbW; first | (with_reducible have hbox := box_new2 (by with_reducible assumption) hbW; obtain ⟨_, ⟨_, _, _, _⟩, _, _, _, _⟩ := hbox.four) | (with_reducible have hbox := box_new (by with_reducible assumption) hbW; obtain ⟨_, ⟨_, _, _, _⟩, _, _, _, _⟩ := hbox.four) | (with_reducible have hbox := box_newd (by with_reducible assumption) hbW; obtain ⟨_, ⟨_, _, _, _⟩, _, _, _, _⟩ := hbox.four) | (with_reducible have hbox := box_newo (by with_reducible assumption) (by assumption) hbW; obtain ⟨_, ⟨_, _, _, _⟩, _, _, _, _⟩ := hbox.four) | (with_reducible have hbox := hbox.old hbW; obtain ⟨_, ⟨_, _, _, _⟩, _, _, _, _⟩ := hbox.four) | (with_reducible have hbox := hbox.oldo hbW; obtain ⟨_, ⟨_, _, _, _⟩, _, _, _, _⟩ := hbox.four) | skip))
              all_goals
                rename_i hheld
                go_wp2_with fail
                go_meet
                case rel =>
                  first
                    | exact ⟨_, _, _, _, rfl, rfl, hbox.row.put4 _ _ _ _, hheld.2.2.2.2.2.2.2.2⟩
                    | exact ⟨_, _, _, _, rfl, rfl, Row.made _ [_, _, _, _] _, hheld.2.2.2.2.2.2.2.2⟩
            case rest =>
              obtain ⟨q, x1, x2, x3, rfl, rfl, hR, hKz⟩ := hcut
              obtain ⟨⟨_, _, _, _⟩, _⟩ := hR.four
              obtain ⟨c0, c1, c2, c3, c4, c5, c6, c7, _⟩ := hKz.k
              have HKZ := Lib.hid hKz
              have HRZ := Lib.hid hR
              clear hR hKz HK HG
              cases hh : holdF op nar a y with
              | true =>
                have hr0 := HR0.out
                rw [hh] at hr0
                replace hr0 : r0 = 1 := hr0
                subst hr0
                have hn := HNOW.out
                rw [hh] at hn
                have HN2 := Lib.hid hn
                clear hn HNOW
                go_wp2_with (first
                  | (go_at_call 32; refine (HHOLD.out _).mono ?_; rintro e wH ⟨he, hbH⟩; rw [hh] at he; subst he; obtain ⟨_, _, _, _, _, _, _, _, _⟩ := (HKZ.out.next hbH).k; obtain ⟨⟨_, _, _, _⟩, _⟩ := (HRZ.out.below hbH HRZ.out.lt).four)
                  | (go_at_call 67; refine (HN2.out _).mono ?_; rintro e wN ⟨rfl, hbN⟩))
                go_roundg (4 - (k + 1))
                case measure => have := HK4.out; omega
                case rel => exact ⟨k + 1, by have := HK4.out; omega, rfl, by rw [hwk], ((HKZ.out.next hbH).next hbN).bel⟩
              | false =>
                have hr0 := HR0.out
                rw [hh] at hr0
                replace hr0 : r0 = 2 := hr0
                subst hr0
                have hn := HNOW.out
                rw [hh] at hn
                have HN2 := Lib.hid hn
                clear hn HNOW
                go_wp2_with (first
                  | (go_at_call 32; refine (HHOLD.out _).mono ?_; rintro e wH ⟨he, hbH⟩; rw [hh] at he; subst he; obtain ⟨_, _, _, _, _, _, _, _, _⟩ := (HKZ.out.next hbH).k; obtain ⟨⟨_, _, _, _⟩, _⟩ := (HRZ.out.below hbH HRZ.out.lt).four)
                  | (go_at_call 67; refine (HN2.out _).mono ?_; rintro e wN ⟨rfl, hbN⟩))
                go_roundg (4 - (k + 1))
                case measure => have := HK4.out; omega
                case rel => exact ⟨k + 1, by have := HK4.out; omega, rfl, by rw [hwk], ((HKZ.out.next hbH).next hbN).bel⟩
        · have hj2 : decide ((k : Int) < 4) = false := by simp; omega
          clear hk hk4
          go_wp2_with fail
          go_roundg (38 - (op + 1))
          case measure => have := HOP.out; omega
          case rel => exact ⟨op + 1, by have := HO1.out; omega, by have := HOP.out; omega, rfl, by rw [hwo], HBI.out⟩
    · have hj : decide ((op : Int) ≤ 37) = false := by simp; omega
      clear ho1 ho2 hop
      go_wp2_with fail
      go_ret
      exact ⟨rfl, HB.out⟩


theorem fact_wf : (Rows.machJumpsRow.wf (OpenSpec.ofChange Rows.machJumpsSpec)) = true := by kernel_rfl
theorem fact_rd : (Tryz.f17.params.all ((Tryz.prog).readableRec ·)) = true := by kernel_rfl
theorem fact_nt : (namedTie (Tryz.prog) Rows.machJumpsRow.named Rows.machJumpsSpec.vars) = true := by kernel_rfl
theorem fact_s1 : ((Rows.machJumpsRow.stops == [])) = true := by kernel_rfl
theorem fact_k1 : ((Rows.machJumpsRow.knobs == [])) = true := by kernel_rfl
theorem fact_ip : ((Rows.machJumpsRow.inPlace == (Tryz.prog).inPlace 17)) = true := by kernel_rfl
theorem fact_uf : ((Rows.machJumpsRow.unfollowed == (Tryz.prog).unfollowed 17)) = true := by kernel_rfl
theorem fact_rc : ((Rows.machJumpsRow.recurses == (Tryz.prog).recurses 17)) = true := by kernel_rfl
theorem fact_nm : ((Rows.machJumpsRow.named == (Tryz.prog).varsNamed 17)) = true := by kernel_rfl
theorem fact_mp : ((Rows.machJumpsRow.maps == (Tryz.f17.params.toList ++ Rows.machJumpsSpec.plain.varTypes (Tryz.prog)).any ((Tryz.prog).mapsRec ·))) = true := by kernel_rfl
theorem fact_if : ((Rows.machJumpsRow.ifaces == (Tryz.f17.params.toList ++ Rows.machJumpsSpec.plain.varTypes (Tryz.prog)).any ((Tryz.prog).ifacesRec ·))) = true := by kernel_rfl
theorem fact_mo : ((Rows.machJumpsRow.mapsOut == (Tryz.prog).mapsAmong Tryz.f17.resultTypes.toList)) = true := by kernel_rfl
theorem fact_lp : ((Rows.machJumpsRow.loops == (Tryz.f17.params.toList ++ Rows.machJumpsSpec.plain.varTypes (Tryz.prog)).any ((Tryz.prog).loopsFrom ·))) = true := by kernel_rfl
theorem fact_wk : ((Rows.machJumpsRow.wideKeys == (Tryz.f17.params.toList ++ Rows.machJumpsSpec.plain.varTypes (Tryz.prog) ++ Tryz.f17.resultTypes.toList).any ((Tryz.prog).wideKeysFrom ·))) = true := by kernel_rfl
theorem fact_vr : (Rows.machJumpsSpec.vars.all ((Tryz.prog).varReadable ·)) = true := by kernel_rfl
theorem fact_rr : (Tryz.f17.resultTypes.all (fun t => (Tryz.prog).readableRec t && decide (t < (Tryz.prog).types.size))) = true := by kernel_rfl
theorem fact_io : ((Rows.machJumpsRow.ifacesOut == Tryz.f17.resultTypes.toList.any ((Tryz.prog).ifacesRec ·))) = true := by kernel_rfl
theorem fact_ol : ((Rows.machJumpsRow.loopsOut == Tryz.f17.resultTypes.toList.any ((Tryz.prog).loopsFrom ·))) = true := by kernel_rfl
theorem fact_pk : ((Rows.machJumpsRow.plainKeys == (Tryz.prog).plainKeys)) = true := by kernel_rfl
theorem fact_st : (Rows.machJumpsRow.shortTexts.isNone) = true := by kernel_rfl
theorem fact_lf : ((Rows.machJumpsRow.lifted == (Tryz.prog).liftsFinal)) = true := by kernel_rfl
theorem fact_mk : (((Tryz.prog).make == some Rows.machJumpsRow.make)) = true := by kernel_rfl
theorem fact_kd : ((Rows.machJumpsRow.kinds == (if Rows.machJumpsRow.domain.isEmpty then [] else Tryz.f17.params.toList.map fun t => match (Tryz.prog).underlying t with | some (.int k) => some k | _ => none))) = true := by kernel_rfl
theorem fact_pn : ((Rows.machJumpsRow.pinned == Rows.machJumpsRow.pinnedBy)) = true := by kernel_rfl
theorem fact_vl : ((Rows.machJumpsRow.veiled == (Tryz.f17.params.toList ++ Rows.machJumpsSpec.plain.varTypes (Tryz.prog) ++ Tryz.f17.resultTypes.toList).any ((Tryz.prog).veiledRec ·))) = true := by kernel_rfl
theorem fact_vf : (Rows.machJumpsRow.veiledFits (Tryz.prog) Tryz.f17.params.toList (Tryz.f17.params.toList ++ Rows.machJumpsSpec.plain.varTypes (Tryz.prog) ++ Tryz.f17.resultTypes.toList)) = true := by kernel_rfl
set_option maxRecDepth 100000 in
theorem closed : joinedFacts Tryz.prog 17 Tryz.f17 Rows.machJumpsSpec Rows.machJumpsRow = true :=
  closed_of fact_wf fact_lo fact_mr fact_rd fact_nt fact_s1 fact_s2 fact_k1 fact_k2 fact_ip fact_uf fact_rc fact_nm fact_mp fact_if fact_mo fact_lp fact_wk fact_vr fact_rr fact_io fact_ol fact_pk fact_st fact_sh fact_me fact_lf fact_mk fact_kd fact_pn fact_vl fact_vf

theorem own : ownKnob Tryz.prog.godebug = none := by kernel_rfl
set_option maxRecDepth 100000 in
theorem lifted (os : Os) (started : os.Started) (H : Type) (enc : TypeId × Value → H) :
    ReturnsInHanded {} Tryz.checked os 17 .any (Rows.machJumpsSpec.pre6 enc Tryz.prog Tryz.f17 Rows.machJumpsRow.domain false) (Rows.machJumpsSpec.post enc Tryz.prog Tryz.f17 false true false false) := by
  refine returnsInHanded_of_change (C := Tryz.checked) own started (by kernel_rfl) Tryz.func17
    (ChangeSpec.witness6 (enc := enc) (C := Tryz.checked) false ⟨#[], #[.int .i64 0, .int .i64 0], []⟩ 8 (by kernel_rfl) (by kernel_rfl) (by kernel_rfl) (by kernel_rfl)) ?_
  intro W base args ds gs before hval0 hW hcnd _
  have hval : ∀ (j : Nat) t v, Tryz.f17.params[j]? = some t → args[j]? = some v → Value.okWide Tryz.prog W .any base t v := hval0
  have hW' := hW
  obtain ⟨p, q, hA0, hV, rfl, hfz, hnd⟩ := hW
  have hA : DataW.TrodAll enc Tryz.prog W 0 (fun _ => true) true Tryz.f17.params.toList args.toList ds p := hA0
  rw [Tryz.params17] at hA hval
  obtain ⟨v0, vs0, d0, ds0, p0, q0, hargs, rfl, rfl, h0, r0⟩ := trodAll_cons hA
  obtain ⟨v1, vs1, d1, ds1, p1, q1, rfl, rfl, rfl, h1, r1⟩ := trodAll_cons r0
  obtain ⟨rfl, rfl, rfl⟩ := trodAll_nil r1
  obtain rfl : args = #[v0, v1] := by cases args; simp_all
  obtain ⟨a0, rfl, rfl, rfl, w0⟩ := open_int Tryz.underlying3 (hval 0 3 v0 rfl rfl) h0
  obtain ⟨a1, rfl, rfl, rfl, w1⟩ := open_int Tryz.underlying3 (hval 1 3 v1 rfl rfl) h1
  refine (walk a0 (range_i64 w0) a1 (range_i64 w1) W).mono fun e W' ⟨he, hb⟩ => ?_
  subst he
  exact ⟨_, rfl, law_post (tb := 4) (by kernel_rfl) (by kernel_rfl) rfl Tryz.underlying4 rfl (fun h => by subst h; rfl) hW' hb⟩

theorem proved : Rows.MachJumpsSaid :=
  OpenClaim.holds_of_wide 17 Tryz.f17 rfl rfl rfl rfl rfl rfl rfl ⟨rfl, rfl, rfl, rfl, rfl⟩ rfl rfl rfl rfl rfl (by kernel_rfl) Tryz.func17 closed
    (of_decide_eq_true (by kernel_rfl)) (by unfold Func.isWrapper; first | (rw [if_pos (by decide +kernel)]; kernel_rfl) | (rw [if_neg (by decide +kernel)]; exact ⟨rfl, rfl⟩))
    (fun os started H enc _ => lifted os started H enc)
#print axioms proved

end Go.Proofs.YtbkcpepalicbjaaGreat.machJumps
