/-
  SpanSingle: of single numbers the answer is single: what the arithmetic makes of them; no condition.
-/
import Derived.Test.YtcmplcdbkoodpaaGreatDoorSpanU
import Derived.Test.YtcmplcdbkoodpaaGreatDoorFacts
import Derived.Test.YtcmplcdbkoodpaaGreatDoorTie
import Derived.Test.YtcmplcdbkoodpaaGreatDoorCards
import Derived.SevenTiedAt
import Derived.ProofKit
import Derived.LaidMore
import Derived.OpenShut
import Derived.Lib.SmallJoins
import Derived.Deep.Cut
import Derived.Deep.RegionHeld3
namespace Go.Proofs.YtcmplcdbkoodpaaGreatDoor.spanSingle
open Go.Joins Go.ChangeShapes Go.WideShapes Go.ChangeAt Go.RowKit
set_option linter.unusedVariables false
set_option linter.unusedSimpArgs false

set_option maxRecDepth 100000 in
set_option maxHeartbeats 3200000 in
theorem walk (op : Int) (_ro : -9223372036854775808 ≤ op ∧ op ≤ 9223372036854775807) (na : Bool) (x : Int) (_rx : -9223372036854775808 ≤ x ∧ x ≤ 9223372036854775807) (y : Int) (_ry : -9223372036854775808 ≤ y ∧ y ≤ 9223372036854775807) (w : World) :
    Calls Tryz.prog 4 #[.int .i64 op, .bool na, .int .i64 x, .int .i64 y] w fun e w' => e = .returned (.bool true) ∧ Below w.heap.size w w' := by
  obtain ⟨v, g, h1, h2⟩ := alu_both op na x y
  have H1 := Lib.hid h1
  have H2 := Lib.hid h2
  have HAW := Lib.hid awake_of
  clear h1 h2 _ro _rx _ry
  obtain ⟨d1, e1⟩ : ∃ d, decide (x < -1152921504606846976) = d := ⟨_, rfl⟩
  obtain ⟨d2, e2⟩ : ∃ d, decide (1152921504606846976 < x) = d := ⟨_, rfl⟩
  obtain ⟨d3, e3⟩ : ∃ d, decide (y < -1152921504606846976) = d := ⟨_, rfl⟩
  obtain ⟨d4, e4⟩ : ∃ d, decide (1152921504606846976 < y) = d := ⟨_, rfl⟩
  obtain ⟨d5, e5⟩ : ∃ d, (g != 0) = d := ⟨_, rfl⟩
  obtain ⟨d6, e6⟩ : ∃ d, decide (v < -1152921504606846976) = d := ⟨_, rfl⟩
  obtain ⟨d7, e7⟩ : ∃ d, decide (1152921504606846976 < v) = d := ⟨_, rfl⟩
  have ret : ∀ (P : Prop), P → P := fun _ h => h
  cases d1
  · cases d2
    · cases d3
      · cases d4
        · cases d5
          · cases d6
            · cases d7
              · have hx : -1152921504606846976 ≤ x ∧ x ≤ 1152921504606846976 := by simp at e1 e2; omega
                have hy : -1152921504606846976 ≤ y ∧ y ≤ 1152921504606846976 := by simp at e3 e4; omega
                have hv : -1152921504606846976 ≤ v ∧ v ≤ 1152921504606846976 := by simp at e6 e7; omega
                have hg : g = 0 := by simpa using e5
                subst hg
                have hox : ∀ w, Calls Tryz.prog 14 #[.int .i64 x, .int .i64 x] w (Ret w (.agg #[.int .i64 x, .int .i64 x, .bool false, .bool false])) := fun w => by have h := of_of x x w; rw [ofs_one x hx] at h; exact h
                have hoy : ∀ w, Calls Tryz.prog 14 #[.int .i64 y, .int .i64 y] w (Ret w (.agg #[.int .i64 y, .int .i64 y, .bool false, .bool false])) := fun w => by have h := of_of y y w; rw [ofs_one y hy] at h; exact h
                have hal := fun w => alu_single op na x y v hx hy hv H1.out w
                have HOX := Lib.hid hox
                have HOY := Lib.hid hoy
                have HAL := Lib.hid hal
                clear hox hoy hal hx hy hv H1
                go_enter Tryz.func4, Tryz.ntmps4
                go_wp2_with fail
                refine (H2.out _).mono ?_
                rintro e w1 ⟨rfl, hB1⟩
                have HB1 := Lib.hid hB1
                clear hB1
                go_wp2_with fail
                refine (HOX.out _).mono ?_
                rintro e w2 ⟨rfl, hB2⟩
                have HB2 := Lib.hid (HB1.out.trans (hB2.mono HB1.out.size))
                clear hB2
                go_wp2_with fail
                refine (HOY.out _).mono ?_
                rintro e w3 ⟨rfl, hB3⟩
                have HB3 := Lib.hid (HB2.out.trans (hB3.mono HB2.out.size))
                clear hB3
                go_wp2_with fail
                refine (HAL.out _).mono ?_
                rintro e w4 ⟨rfl, hB4⟩
                have HB4 := Lib.hid (HB3.out.trans (hB4.mono HB3.out.size))
                clear hB4
                go_wp2_with fail
                refine (HAW.out _).mono ?_
                rintro e w5 ⟨rfl, hB5⟩
                have HB5 := Lib.hid (HB4.out.trans (hB5.mono HB4.out.size))
                clear hB5
                go_wp2
                go_ret
                exact ⟨rfl, HB5.out⟩
              · go_enter Tryz.func4, Tryz.ntmps4
                go_wp2_with fail
                refine (H2.out _).mono ?_
                rintro e w1 ⟨rfl, hB1⟩
                have HB1 := Lib.hid hB1
                clear hB1
                go_wp2_with fail
                refine (HAW.out _).mono ?_
                rintro e w2 ⟨rfl, hB2⟩
                have HB2 := Lib.hid (HB1.out.trans (hB2.mono HB1.out.size))
                clear hB2
                go_wp2
                go_ret
                exact ⟨rfl, HB2.out⟩
            · go_enter Tryz.func4, Tryz.ntmps4
              go_wp2_with fail
              refine (H2.out _).mono ?_
              rintro e w1 ⟨rfl, hB1⟩
              have HB1 := Lib.hid hB1
              clear hB1
              go_wp2_with fail
              refine (HAW.out _).mono ?_
              rintro e w2 ⟨rfl, hB2⟩
              have HB2 := Lib.hid (HB1.out.trans (hB2.mono HB1.out.size))
              clear hB2
              go_wp2
              go_ret
              exact ⟨rfl, HB2.out⟩
          · go_enter Tryz.func4, Tryz.ntmps4
            go_wp2_with fail
            refine (H2.out _).mono ?_
            rintro e w1 ⟨rfl, hB1⟩
            have HB1 := Lib.hid hB1
            clear hB1
            go_wp2_with fail
            refine (HAW.out _).mono ?_
            rintro e w2 ⟨rfl, hB2⟩
            have HB2 := Lib.hid (HB1.out.trans (hB2.mono HB1.out.size))
            clear hB2
            go_wp2
            go_ret
            exact ⟨rfl, HB2.out⟩
        · go_enter Tryz.func4, Tryz.ntmps4
          go_wp2_with (go_at_call 12; refine (HAW.out _).mono ?_; rintro e w1 ⟨rfl, hB1⟩)
          go_ret
          exact ⟨rfl, hB1⟩
      · go_enter Tryz.func4, Tryz.ntmps4
        go_wp2_with (go_at_call 12; refine (HAW.out _).mono ?_; rintro e w1 ⟨rfl, hB1⟩)
        go_ret
        exact ⟨rfl, hB1⟩
    · go_enter Tryz.func4, Tryz.ntmps4
      go_wp2_with (go_at_call 12; refine (HAW.out _).mono ?_; rintro e w1 ⟨rfl, hB1⟩)
      go_ret
      exact ⟨rfl, hB1⟩
  · go_enter Tryz.func4, Tryz.ntmps4
    go_wp2_with (go_at_call 12; refine (HAW.out _).mono ?_; rintro e w1 ⟨rfl, hB1⟩)
    go_ret
    exact ⟨rfl, hB1⟩

theorem fact_wf : (Rows.spanSingleRow.wf (OpenSpec.ofChange Rows.spanSingleSpec)) = true := by kernel_rfl
theorem fact_rd : (Tryz.f4.params.all ((Tryz.prog).readableRec ·)) = true := by kernel_rfl
theorem fact_nt : (namedTie (Tryz.prog) Rows.spanSingleRow.named Rows.spanSingleSpec.vars) = true := by kernel_rfl
theorem fact_s1 : ((Rows.spanSingleRow.stops == [])) = true := by kernel_rfl
theorem fact_k1 : ((Rows.spanSingleRow.knobs == [])) = true := by kernel_rfl
theorem fact_ip : ((Rows.spanSingleRow.inPlace == (Tryz.prog).inPlace 4)) = true := by kernel_rfl
theorem fact_uf : ((Rows.spanSingleRow.unfollowed == (Tryz.prog).unfollowed 4)) = true := by kernel_rfl
theorem fact_rc : ((Rows.spanSingleRow.recurses == (Tryz.prog).recurses 4)) = true := by kernel_rfl
theorem fact_nm : ((Rows.spanSingleRow.named == (Tryz.prog).varsNamed 4)) = true := by kernel_rfl
theorem fact_mp : ((Rows.spanSingleRow.maps == (Tryz.f4.params.toList ++ Rows.spanSingleSpec.plain.varTypes (Tryz.prog)).any ((Tryz.prog).mapsRec ·))) = true := by kernel_rfl
theorem fact_if : ((Rows.spanSingleRow.ifaces == (Tryz.f4.params.toList ++ Rows.spanSingleSpec.plain.varTypes (Tryz.prog)).any ((Tryz.prog).ifacesRec ·))) = true := by kernel_rfl
theorem fact_mo : ((Rows.spanSingleRow.mapsOut == (Tryz.prog).mapsAmong Tryz.f4.resultTypes.toList)) = true := by kernel_rfl
theorem fact_lp : ((Rows.spanSingleRow.loops == (Tryz.f4.params.toList ++ Rows.spanSingleSpec.plain.varTypes (Tryz.prog)).any ((Tryz.prog).loopsFrom ·))) = true := by kernel_rfl
theorem fact_wk : ((Rows.spanSingleRow.wideKeys == (Tryz.f4.params.toList ++ Rows.spanSingleSpec.plain.varTypes (Tryz.prog) ++ Tryz.f4.resultTypes.toList).any ((Tryz.prog).wideKeysFrom ·))) = true := by kernel_rfl
theorem fact_vr : (Rows.spanSingleSpec.vars.all ((Tryz.prog).varReadable ·)) = true := by kernel_rfl
theorem fact_rr : (Tryz.f4.resultTypes.all (fun t => (Tryz.prog).readableRec t && decide (t < (Tryz.prog).types.size))) = true := by kernel_rfl
theorem fact_io : ((Rows.spanSingleRow.ifacesOut == Tryz.f4.resultTypes.toList.any ((Tryz.prog).ifacesRec ·))) = true := by kernel_rfl
theorem fact_ol : ((Rows.spanSingleRow.loopsOut == Tryz.f4.resultTypes.toList.any ((Tryz.prog).loopsFrom ·))) = true := by kernel_rfl
theorem fact_pk : ((Rows.spanSingleRow.plainKeys == (Tryz.prog).plainKeys)) = true := by kernel_rfl
theorem fact_st : (Rows.spanSingleRow.shortTexts.isNone) = true := by kernel_rfl
theorem fact_lf : ((Rows.spanSingleRow.lifted == (Tryz.prog).liftsFinal)) = true := by kernel_rfl
theorem fact_mk : (((Tryz.prog).make == some Rows.spanSingleRow.make)) = true := by kernel_rfl
theorem fact_kd : ((Rows.spanSingleRow.kinds == (if Rows.spanSingleRow.domain.isEmpty then [] else Tryz.f4.params.toList.map fun t => match (Tryz.prog).underlying t with | some (.int k) => some k | _ => none))) = true := by kernel_rfl
theorem fact_pn : ((Rows.spanSingleRow.pinned == Rows.spanSingleRow.pinnedBy)) = true := by kernel_rfl
theorem fact_vl : ((Rows.spanSingleRow.veiled == (Tryz.f4.params.toList ++ Rows.spanSingleSpec.plain.varTypes (Tryz.prog) ++ Tryz.f4.resultTypes.toList).any ((Tryz.prog).veiledRec ·))) = true := by kernel_rfl
theorem fact_vf : (Rows.spanSingleRow.veiledFits (Tryz.prog) Tryz.f4.params.toList (Tryz.f4.params.toList ++ Rows.spanSingleSpec.plain.varTypes (Tryz.prog) ++ Tryz.f4.resultTypes.toList)) = true := by kernel_rfl
set_option maxRecDepth 100000 in
theorem closed : joinedFacts Tryz.prog 4 Tryz.f4 Rows.spanSingleSpec Rows.spanSingleRow = true :=
  closed_of fact_wf fact_lo fact_mr fact_rd fact_nt fact_s1 fact_s2 fact_k1 fact_k2 fact_ip fact_uf fact_rc fact_nm fact_mp fact_if fact_mo fact_lp fact_wk fact_vr fact_rr fact_io fact_ol fact_pk fact_st fact_sh fact_me fact_lf fact_mk fact_kd fact_pn fact_vl fact_vf

theorem own : ownKnob Tryz.prog.godebug = none := by kernel_rfl
abbrev laidL : List (String × DataW Unit) := Rows.spanSingleRow.laid
theorem door_met (os : Os) (args : Array Value) : laidMetH Tryz.prog laidL ((World.doorLaid Tryz.prog 39 os).forCall (fun _ _ => 0) ⟨#[], args, []⟩).memory :=
  laidMetH_of_parts3 (fuel := 8) (laidMet_of_run' 8 (by kernel_rfl) (by kernel_rfl)) (by kernel_rfl) (by kernel_rfl)
set_option maxRecDepth 100000 in
theorem lifted (os : Os) (started : os.Started) (H : Type) (enc : TypeId × Value → H) :
    ReturnsInHanded {} Tryz.checked os 4 .any (fun w args => (Rows.spanSingleSpec.pre enc Tryz.prog Tryz.f4 [] false w args ∧ laidMetH Tryz.prog laidL w) ∧ sizedMet enc Tryz.prog Tryz.f4 (OpenSpec.ofChange Rows.spanSingleSpec) false w args)
      (Rows.spanSingleSpec.post enc Tryz.prog Tryz.f4 false true false false) := by
  refine returnsInHanded_of_change_and (C := Tryz.checked) (X := fun w _ => laidMetH Tryz.prog laidL w) (fun _ _ _ hh h => h.of_heap hh) own started (by kernel_rfl) Tryz.func4
    (ChangeSpec.witness_shaped (enc := enc) (C := Tryz.checked) (os := os) (X := fun w _ => laidMetH Tryz.prog laidL w) false (World.doorLaid Tryz.prog 39 os) #[.int .i64 0, .bool false, .int .i64 0, .int .i64 0] 8 rfl (World.shaped_of_RefB (by kernel_rfl) (by kernel_rfl)) (by kernel_rfl) (by kernel_rfl) (by kernel_rfl) (door_met os _)) ?_
  intro W base args ds gs before hval0 hW _ hsz0 hL0 _
  clear hL0
  have hval : ∀ (j : Nat) t v, Tryz.f4.params[j]? = some t → args[j]? = some v → Value.okWide Tryz.prog W .any base t v := hval0
  have hW' := hW
  obtain ⟨p, q, hA0, hV, rfl, hfz, hnd⟩ := hW
  have hA : DataW.TrodAll enc Tryz.prog W 0 (fun _ => true) true Tryz.f4.params.toList args.toList ds p := hA0
  rw [Tryz.params4] at hA hval
  obtain ⟨v0, vs0, d0, ds0, p0, q0, hargs, rfl, rfl, h0, r0⟩ := trodAll_cons hA
  obtain ⟨v1, vs1, d1, ds1, p1, q1, rfl, rfl, rfl, h1, r1⟩ := trodAll_cons r0
  obtain ⟨v2, vs2, d2, ds2, p2, q2, rfl, rfl, rfl, h2, r2⟩ := trodAll_cons r1
  obtain ⟨v3, vs3, d3, ds3, p3, q3, rfl, rfl, rfl, h3, r3⟩ := trodAll_cons r2
  obtain ⟨rfl, rfl, rfl⟩ := trodAll_nil r3
  obtain rfl : args = #[v0, v1, v2, v3] := by cases args; simp_all
  obtain ⟨a0, rfl, rfl, rfl, w0⟩ := open_int Tryz.underlying3 (hval 0 3 v0 rfl rfl) h0
  obtain ⟨a1, rfl, rfl, rfl⟩ := open_bool Tryz.underlying4 (hval 1 4 v1 rfl rfl) h1
  obtain ⟨a2, rfl, rfl, rfl, w2⟩ := open_int Tryz.underlying3 (hval 2 3 v2 rfl rfl) h2
  obtain ⟨a3, rfl, rfl, rfl, w3⟩ := open_int Tryz.underlying3 (hval 3 3 v3 rfl rfl) h3
  refine (walk a0 (range_i64 w0) a1 a2 (range_i64 w2) a3 (range_i64 w3) W).mono fun e W' ⟨he, hb⟩ => ?_
  subst he
  exact ⟨_, rfl, law_post (tb := 4) (by kernel_rfl) (by kernel_rfl) rfl Tryz.underlying4 rfl (fun h => by subst h; rfl) hW' hb⟩

theorem proved : Rows.SpanSingleSaid :=
  OpenClaim.holds_of_wide 4 Tryz.f4 rfl rfl rfl rfl rfl rfl rfl ⟨rfl, rfl, rfl, rfl, rfl⟩ rfl rfl rfl rfl rfl (by kernel_rfl) Tryz.func4 closed
    (of_decide_eq_true (by kernel_rfl)) (by unfold Func.isWrapper; first | (rw [if_pos (by decide +kernel)]; kernel_rfl) | (rw [if_neg (by decide +kernel)]; exact ⟨rfl, rfl⟩))
    (fun os started H enc _ => lifted os started H enc)

theorem card : Rows.SpanSingleCardSaid :=
  Claim7.holds_tied_plain_at .later [] [.data, .data, .data, .data, .data, .data, .data] true Rows.spanSingleCard.stood.harness true
    proved (fun _ h => by cases h) (by as_aux_lemma => kernel_rfl) (fun _ h => by cases h) spanSingle_row_tie rfl ⟨rfl, rfl⟩ (by as_aux_lemma => kernel_rfl) rfl
    (fun f fn hf hfn => by
      obtain rfl : f = 4 := Option.some.inj ((show Tryz.prog.funcNamed "warrant/warrantlaw06.SpanSingle" = some 4 by as_aux_lemma => kernel_rfl).symm.trans hf) |>.symm
      obtain rfl : fn = Tryz.f4 := (Option.some.inj (Tryz.func4.symm.trans hfn)).symm
      exact ⟨by as_aux_lemma => kernel_rfl, fun j t ht => by
        rw [Tryz.params4] at ht
        have hm : t ∈ [3, 4, 3, 3] := by simpa using Array.mem_of_getElem? ht
        have hall : ([3, 4, 3, 3].all fun u => !Tryz.prog.wantsStandIn u) = true := by kernel_rfl
        exact (show Tryz.prog.wantsStandIn t = false by simpa using List.all_eq_true.1 hall t hm)⟩)
    (by as_aux_lemma => kernel_rfl)
#print axioms card

end Go.Proofs.YtcmplcdbkoodpaaGreatDoor.spanSingle
