/-
  SpanZeros: what NotZero promises of any span, and tells of a single number; no condition.
-/
import Derived.Test.YtcmplcdbkoodpaaGreatDoorSpanQ
import Derived.Test.YtcmplcdbkoodpaaGreatDoorBigG
import Derived.Test.YtcmplcdbkoodpaaGreatDoorFacts
import Derived.Test.YtcmplcdbkoodpaaGreatDoorTie
import Derived.Test.YtcmplcdbkoodpaaGreatDoorCards
import Derived.SevenTiedAt
import Derived.ProofKit
import Derived.LaidMore
import Derived.OpenShut
import Derived.Lib.SmallJoins
import Derived.Deep.Cut
namespace Go.Proofs.YtcmplcdbkoodpaaGreatDoor.spanZeros
open Go.Joins Go.ChangeShapes Go.WideShapes Go.ChangeAt Go.RowKit
set_option linter.unusedVariables false
set_option linter.unusedSimpArgs false

/-- A number of a span of which NotZero holds. -/
theorem nz_low (na : Bool) (E F v : Int) (h : E ≤ v ∧ v ≤ F) (hn : nzv na E F = true) : (if na then v % 4294967296 else v) ≠ 0 := by
  unfold nzv at hn
  cases na
  · simp at hn ⊢; omega
  · simp only [if_true, decide_eq_true_eq] at hn ⊢
    unfold llo at hn
    split at hn
    · omega
    · split at hn
      · omega
      · omega
theorem bne_of {y : Int} {z : Bool} (h : (y == 0) = z) : (y != 0) = !z := by rw [← h]; rfl
/-- A single number. -/
theorem ofs_one (x : Int) (h : -1152921504606846976 ≤ x ∧ x ≤ 1152921504606846976) : ofs x x = .agg #[.int .i64 x, .int .i64 x, .bool false, .bool false] := by
  unfold ofs oflo ofhi
  rw [if_neg (by omega), if_neg (by omega), if_neg (by omega), if_neg (by omega), if_neg (by omega)]
  rw [show decide (x < -1152921504606846976) = false by simp; omega, show decide (1152921504606846976 < x) = false by simp; omega]
theorem nz_one (na : Bool) (x : Int) (h : -1152921504606846976 ≤ x ∧ x ≤ 1152921504606846976) : nzv na (elo x x false false) (ehi x x false false) = !((if na then x % 4294967296 else x) == 0) := by
  have hs : Snd x x false false := by rw [snd_ff]; omega
  unfold elo ehi
  rw [if_pos hs, if_pos hs]
  cases na
  · unfold nzv
    simp only [Bool.false_eq_true, if_false]
    by_cases h0 : x = 0
    · subst h0; decide
    · rw [show (x == 0) = false by simpa using h0]
      by_cases h1 : 0 < x
      · simp [h1]
      · simp [h1]; omega
  · unfold nzv llo
    simp only [Bool.false_eq_true, if_false, if_true]
    by_cases h0 : x % 4294967296 = 0
    · rw [show (x % 4294967296 == 0) = true by simpa using h0]
      split
      · simp; omega
      · simp; omega
    · rw [show (x % 4294967296 == 0) = false by simpa using h0]
      split
      · simp; omega
      · simp; omega

set_option maxRecDepth 100000 in
set_option maxHeartbeats 3200000 in
theorem walk (na : Bool) (lo hi : Int) (p q : Bool) (x : Int) (rx : -9223372036854775808 ≤ x ∧ x ≤ 9223372036854775807) (w : World) :
    Calls Tryz.prog 5 #[.bool na, .agg #[.int .i64 lo, .int .i64 hi, .bool p, .bool q], .int .i64 x] w fun e w' => e = .returned (.bool true) ∧ Below w.heap.size w w' := by
  have HAW := Lib.hid awake_of
  have HIN := Lib.hid (fun w => inside_of lo hi p q x w)
  have hi2 := insv_in lo hi p q x rx
  obtain ⟨v, hv⟩ : ∃ v, v = insv lo hi p q x := ⟨_, rfl⟩
  rw [← hv] at HIN hi2
  have HNZ := Lib.hid (fun w => notzero_of na lo hi p q w)
  obtain ⟨nz, hnz⟩ : ∃ z, z = nzv na (elo lo hi p q) (ehi lo hi p q) := ⟨_, rfl⟩
  rw [← hnz] at HNZ
  have hlow : nz = true → (if na then v % 4294967296 else v) ≠ 0 := fun h => nz_low na _ _ v hi2 (hnz ▸ h)
  obtain ⟨z, hz⟩ : ∃ z, ((if na then v % 4294967296 else v) == 0) = z := ⟨_, rfl⟩
  have hnzz : (nz && z) = false := by
    cases nz <;> cases z <;> simp
    exact hlow rfl (by simpa using hz)
  have hand := half_and v
  have hand2 := half_and x
  have HOF := Lib.hid (fun w => of_of x x w)
  obtain ⟨d1, h1⟩ : ∃ d, decide (x < -1152921504606846976) = d := ⟨_, rfl⟩
  obtain ⟨d2, h2⟩ : ∃ d, decide (1152921504606846976 < x) = d := ⟨_, rfl⟩
  have HR0 := Lib.hid (Row.made w (spc lo hi p q) 23)
  have HB0 := Lib.hid ((Below.refl w.heap.size w).alloc (Nat.le_refl _) (.cells #[.int .i64 lo, .int .i64 hi, .bool p, .bool q] 23))
  obtain ⟨A, B, P, Q, ho⟩ := ofs_form x x
  rw [ho] at HOF
  have HO := Lib.hid ho
  obtain ⟨z2, hz2⟩ : ∃ z, ((if na then x % 4294967296 else x) == 0) = z := ⟨_, rfl⟩
  have hone : d1 = false → d2 = false → ∀ w, Calls Tryz.prog 16 #[.bool na, .agg #[.int .i64 A, .int .i64 B, .bool P, .bool Q]] w (Ret w (.bool (!z2))) := by
    intro e1 e2 w
    have hx : -1152921504606846976 ≤ x ∧ x ≤ 1152921504606846976 := by
      rw [e1] at h1; rw [e2] at h2
      simp at h1 h2
      omega
    rw [ofs_one x hx] at ho
    simp only [Value.agg.injEq, Array.mk.injEq, List.cons.injEq, Value.int.injEq, Value.bool.injEq, true_and, and_true] at ho
    obtain ⟨rfl, rfl, rfl, rfl⟩ := ho
    have h := notzero_of na x x false false w
    rw [nz_one na x hx, hz2] at h
    exact h
  have HONE := Lib.hid hone
  clear hv hi2 hnz hlow rx ho hone
  cases na
  all_goals
    simp only [Bool.false_eq_true, if_false, if_true] at hz hz2
    cases nz
    all_goals cases z
    all_goals first | (simp at hnzz; done) | skip
    all_goals clear hnzz
    all_goals
      go_enter Tryz.func5, Tryz.ntmps5
      go_wp2_with fail
      refine (HIN.out _).mono ?_
      rintro e w1 ⟨rfl, hB⟩
      have HR1 := Lib.hid (HR0.out.below hB HR0.out.lt)
      have HB1 := Lib.hid (HB0.out.trans (hB.mono HB0.out.size))
      clear hB
      obtain ⟨⟨c0, c1, c2, c3⟩, _⟩ := spc_row HR1.out
      go_wp2_with fail
      refine (HNZ.out _).mono ?_
      rintro e w2 ⟨rfl, hB⟩
      have HB2 := Lib.hid (HB1.out.trans (hB.mono HB1.out.size))
      clear hB c0 c1 c2 c3 HR1 HB1
      go_wp2_with (go_at_call 12; refine (HAW.out _).mono ?_; rintro e w3 ⟨rfl, hB⟩; have HB3 := Lib.hid (HB2.out.trans (hB.mono HB2.out.size)); clear hB)
      refine (HOF.out _).mono ?_
      rintro e w4 ⟨rfl, hB⟩
      have hb4 := HB3.out.trans (hB.mono HB3.out.size)
      have HB4 := Lib.hid (hb4.trans ((Below.refl _ _).alloc (Nat.le_refl _) (.cells #[.int .i64 A, .int .i64 B, .bool P, .bool Q] 23) |>.mono hb4.size))
      clear hB hb4 HB2 HB3
      cases d1
      · cases d2
        · cases z2
          all_goals
            have hz5 := bne_of hz2
            simp only [Bool.not_false, Bool.not_true] at hz5
            go_wp2_with fail
            refine (HONE.out (by trivial) (by trivial) _).mono ?_
            rintro e w5 ⟨rfl, hB⟩
            have HB5 := Lib.hid (HB4.out.trans (hB.mono HB4.out.size))
            clear hB
            go_wp2
            go_ret
            exact ⟨rfl, HB5.out⟩
        · go_wp2
          go_ret
          exact ⟨rfl, HB4.out⟩
      · go_wp2
        go_ret
        exact ⟨rfl, HB4.out⟩

theorem fact_wf : (Rows.spanZerosRow.wf (OpenSpec.ofChange Rows.spanZerosSpec)) = true := by kernel_rfl
theorem fact_rd : (Tryz.f5.params.all ((Tryz.prog).readableRec ·)) = true := by kernel_rfl
theorem fact_nt : (namedTie (Tryz.prog) Rows.spanZerosRow.named Rows.spanZerosSpec.vars) = true := by kernel_rfl
theorem fact_s1 : ((Rows.spanZerosRow.stops == [])) = true := by kernel_rfl
theorem fact_k1 : ((Rows.spanZerosRow.knobs == [])) = true := by kernel_rfl
theorem fact_ip : ((Rows.spanZerosRow.inPlace == (Tryz.prog).inPlace 5)) = true := by kernel_rfl
theorem fact_uf : ((Rows.spanZerosRow.unfollowed == (Tryz.prog).unfollowed 5)) = true := by kernel_rfl
theorem fact_rc : ((Rows.spanZerosRow.recurses == (Tryz.prog).recurses 5)) = true := by kernel_rfl
theorem fact_nm : ((Rows.spanZerosRow.named == (Tryz.prog).varsNamed 5)) = true := by kernel_rfl
theorem fact_mp : ((Rows.spanZerosRow.maps == (Tryz.f5.params.toList ++ Rows.spanZerosSpec.plain.varTypes (Tryz.prog)).any ((Tryz.prog).mapsRec ·))) = true := by kernel_rfl
theorem fact_if : ((Rows.spanZerosRow.ifaces == (Tryz.f5.params.toList ++ Rows.spanZerosSpec.plain.varTypes (Tryz.prog)).any ((Tryz.prog).ifacesRec ·))) = true := by kernel_rfl
theorem fact_mo : ((Rows.spanZerosRow.mapsOut == (Tryz.prog).mapsAmong Tryz.f5.resultTypes.toList)) = true := by kernel_rfl
theorem fact_lp : ((Rows.spanZerosRow.loops == (Tryz.f5.params.toList ++ Rows.spanZerosSpec.plain.varTypes (Tryz.prog)).any ((Tryz.prog).loopsFrom ·))) = true := by kernel_rfl
theorem fact_wk : ((Rows.spanZerosRow.wideKeys == (Tryz.f5.params.toList ++ Rows.spanZerosSpec.plain.varTypes (Tryz.prog) ++ Tryz.f5.resultTypes.toList).any ((Tryz.prog).wideKeysFrom ·))) = true := by kernel_rfl
theorem fact_vr : (Rows.spanZerosSpec.vars.all ((Tryz.prog).varReadable ·)) = true := by kernel_rfl
theorem fact_rr : (Tryz.f5.resultTypes.all (fun t => (Tryz.prog).readableRec t && decide (t < (Tryz.prog).types.size))) = true := by kernel_rfl
theorem fact_io : ((Rows.spanZerosRow.ifacesOut == Tryz.f5.resultTypes.toList.any ((Tryz.prog).ifacesRec ·))) = true := by kernel_rfl
theorem fact_ol : ((Rows.spanZerosRow.loopsOut == Tryz.f5.resultTypes.toList.any ((Tryz.prog).loopsFrom ·))) = true := by kernel_rfl
theorem fact_pk : ((Rows.spanZerosRow.plainKeys == (Tryz.prog).plainKeys)) = true := by kernel_rfl
theorem fact_st : (Rows.spanZerosRow.shortTexts.isNone) = true := by kernel_rfl
theorem fact_lf : ((Rows.spanZerosRow.lifted == (Tryz.prog).liftsFinal)) = true := by kernel_rfl
theorem fact_mk : (((Tryz.prog).make == some Rows.spanZerosRow.make)) = true := by kernel_rfl
theorem fact_kd : ((Rows.spanZerosRow.kinds == (if Rows.spanZerosRow.domain.isEmpty then [] else Tryz.f5.params.toList.map fun t => match (Tryz.prog).underlying t with | some (.int k) => some k | _ => none))) = true := by kernel_rfl
theorem fact_pn : ((Rows.spanZerosRow.pinned == Rows.spanZerosRow.pinnedBy)) = true := by kernel_rfl
theorem fact_vl : ((Rows.spanZerosRow.veiled == (Tryz.f5.params.toList ++ Rows.spanZerosSpec.plain.varTypes (Tryz.prog) ++ Tryz.f5.resultTypes.toList).any ((Tryz.prog).veiledRec ·))) = true := by kernel_rfl
theorem fact_vf : (Rows.spanZerosRow.veiledFits (Tryz.prog) Tryz.f5.params.toList (Tryz.f5.params.toList ++ Rows.spanZerosSpec.plain.varTypes (Tryz.prog) ++ Tryz.f5.resultTypes.toList)) = true := by kernel_rfl
set_option maxRecDepth 100000 in
theorem closed : joinedFacts Tryz.prog 5 Tryz.f5 Rows.spanZerosSpec Rows.spanZerosRow = true :=
  closed_of fact_wf fact_lo fact_mr fact_rd fact_nt fact_s1 fact_s2 fact_k1 fact_k2 fact_ip fact_uf fact_rc fact_nm fact_mp fact_if fact_mo fact_lp fact_wk fact_vr fact_rr fact_io fact_ol fact_pk fact_st fact_sh fact_me fact_lf fact_mk fact_kd fact_pn fact_vl fact_vf

theorem own : ownKnob Tryz.prog.godebug = none := by kernel_rfl
abbrev laidL : List (String × DataW Unit) := Rows.spanZerosRow.laid
theorem door_met (os : Os) (args : Array Value) : laidMetH Tryz.prog laidL ((World.doorLaid Tryz.prog 39 os).forCall (fun _ _ => 0) ⟨#[], args, []⟩).memory :=
  laidMetH_of_parts3 (fuel := 8) (laidMet_of_run' 8 (by kernel_rfl) (by kernel_rfl)) (by kernel_rfl) (by kernel_rfl)
set_option maxRecDepth 100000 in
theorem lifted (os : Os) (started : os.Started) (H : Type) (enc : TypeId × Value → H) :
    ReturnsInHanded {} Tryz.checked os 5 .any (fun w args => (Rows.spanZerosSpec.pre enc Tryz.prog Tryz.f5 [] false w args ∧ laidMetH Tryz.prog laidL w) ∧ sizedMet enc Tryz.prog Tryz.f5 (OpenSpec.ofChange Rows.spanZerosSpec) false w args)
      (Rows.spanZerosSpec.post enc Tryz.prog Tryz.f5 false true false false) := by
  refine returnsInHanded_of_change_and (C := Tryz.checked) (X := fun w _ => laidMetH Tryz.prog laidL w) (fun _ _ _ hh h => h.of_heap hh) own started (by kernel_rfl) Tryz.func5
    (ChangeSpec.witness_shaped (enc := enc) (C := Tryz.checked) (os := os) (X := fun w _ => laidMetH Tryz.prog laidL w) false (World.doorLaid Tryz.prog 39 os) #[.bool false, .agg #[.int .i64 0, .int .i64 0, .bool false, .bool false], .int .i64 0] 8 rfl (World.shaped_of_RefB (by kernel_rfl) (by kernel_rfl)) (by kernel_rfl) (by kernel_rfl) (by kernel_rfl) (door_met os _)) ?_
  intro W base args ds gs before hval0 hW _ hsz0 hL0 _
  clear hL0
  have hval : ∀ (j : Nat) t v, Tryz.f5.params[j]? = some t → args[j]? = some v → Value.okWide Tryz.prog W .any base t v := hval0
  have hW' := hW
  obtain ⟨p, q, hA0, hV, rfl, hfz, hnd⟩ := hW
  have hA : DataW.TrodAll enc Tryz.prog W 0 (fun _ => true) true Tryz.f5.params.toList args.toList ds p := hA0
  rw [Tryz.params5] at hA hval
  obtain ⟨v0, vs0, d0, ds0, p0, q0, hargs, rfl, rfl, h0, r0⟩ := trodAll_cons hA
  obtain ⟨v1, vs1, d1, ds1, p1, q1, rfl, rfl, rfl, h1, r1⟩ := trodAll_cons r0
  obtain ⟨v2, vs2, d2, ds2, p2, q2, rfl, rfl, rfl, h2, r2⟩ := trodAll_cons r1
  obtain ⟨rfl, rfl, rfl⟩ := trodAll_nil r2
  obtain rfl : args = #[v0, v1, v2] := by cases args; simp_all
  obtain ⟨a0, rfl, rfl, rfl⟩ := open_bool Tryz.underlying4 (hval 0 4 v0 rfl rfl) h0
  obtain ⟨c10, c11, c12, c13, y10, y11, y12, y13, m1, rfl, rfl, rfl, hy10, hy11, hy12, hy13⟩ := open_agg4 Tryz.underlying23 (by kernel_rfl) (show Tryz.prog.cellsOf 23 = 4 by kernel_rfl) (hval 1 23 v1 rfl rfl) h1
  obtain ⟨a10, e10, rfl, w10⟩ := DataW.trod_int Tryz.underlying3 hy10
  obtain ⟨a11, e11, rfl, w11⟩ := DataW.trod_int Tryz.underlying3 hy11
  obtain ⟨a12, e12, rfl⟩ := DataW.trod_bool Tryz.underlying4 hy12
  obtain ⟨a13, e13, rfl⟩ := DataW.trod_bool Tryz.underlying4 hy13
  simp at e10 e11 e12 e13
  subst e10 e11 e12 e13
  obtain ⟨a2, rfl, rfl, rfl, w2⟩ := open_int Tryz.underlying3 (hval 2 3 v2 rfl rfl) h2
  refine (walk a0 a10 a11 a12 a13 a2 (range_i64 w2) W).mono fun e W' ⟨he, hb⟩ => ?_
  subst he
  exact ⟨_, rfl, law_post (tb := 4) (by kernel_rfl) (by kernel_rfl) rfl Tryz.underlying4 rfl (fun h => by subst h; rfl) hW' hb⟩

theorem proved : Rows.SpanZerosSaid :=
  OpenClaim.holds_of_wide 5 Tryz.f5 rfl rfl rfl rfl rfl rfl rfl ⟨rfl, rfl, rfl, rfl, rfl⟩ rfl rfl rfl rfl rfl (by kernel_rfl) Tryz.func5 closed
    (of_decide_eq_true (by kernel_rfl)) (by unfold Func.isWrapper; first | (rw [if_pos (by decide +kernel)]; kernel_rfl) | (rw [if_neg (by decide +kernel)]; exact ⟨rfl, rfl⟩))
    (fun os started H enc _ => lifted os started H enc)

theorem card : Rows.SpanZerosCardSaid :=
  Claim7.holds_tied_plain_at .later [] [.data, .data, .data, .data, .data, .data, .data] true Rows.spanZerosCard.stood.harness true
    proved (fun _ h => by cases h) (by as_aux_lemma => kernel_rfl) (fun _ h => by cases h) spanZeros_row_tie rfl ⟨rfl, rfl⟩ (by as_aux_lemma => kernel_rfl) rfl
    (fun f fn hf hfn => by
      obtain rfl : f = 5 := Option.some.inj ((show Tryz.prog.funcNamed "warrant/warrantlaw06.SpanZeros" = some 5 by as_aux_lemma => kernel_rfl).symm.trans hf) |>.symm
      obtain rfl : fn = Tryz.f5 := (Option.some.inj (Tryz.func5.symm.trans hfn)).symm
      exact ⟨by as_aux_lemma => kernel_rfl, fun j t ht => by
        rw [Tryz.params5] at ht
        have hm : t ∈ [4, 23, 3] := by simpa using Array.mem_of_getElem? ht
        have hall : ([4, 23, 3].all fun u => !Tryz.prog.wantsStandIn u) = true := by kernel_rfl
        exact (show Tryz.prog.wantsStandIn t = false by simpa using List.all_eq_true.1 hall t hm)⟩)
    (by as_aux_lemma => kernel_rfl)
#print axioms card

end Go.Proofs.YtcmplcdbkoodpaaGreatDoor.spanZeros
