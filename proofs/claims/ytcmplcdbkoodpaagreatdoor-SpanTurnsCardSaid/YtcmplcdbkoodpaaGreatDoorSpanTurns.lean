/-
  SpanTurns: every Swap and every Extend of a span is the document's; no condition.
-/
import Derived.Test.YtcmplcdbkoodpaaGreatDoorSpanT
import Derived.Test.YtcmplcdbkoodpaaGreatDoorBigG
import Derived.Test.YtcmplcdbkoodpaaGreatDoorFacts
import Derived.Test.YtcmplcdbkoodpaaGreatDoorTie
import Derived.Test.YtcmplcdbkoodpaaGreatDoorCards
import Derived.SevenTiedAt
import Derived.ProofKit
import Derived.LaidMore
import Derived.OpenShut
import Derived.Lib.SmallJoins
import Derived.Deep.Cut
import Derived.Deep.RegionHeld3
namespace Go.Proofs.YtcmplcdbkoodpaaGreatDoor.spanTurns
open Go.Joins Go.ChangeShapes Go.WideShapes Go.ChangeAt Go.RowKit
set_option linter.unusedVariables false
set_option linter.unusedSimpArgs false

set_option maxRecDepth 100000 in
set_option maxHeartbeats 3200000 in
theorem walk (size : Int) (rs : -9223372036854775808 ≤ size ∧ size ≤ 9223372036854775807) (t : Bool) (lo hi : Int) (p q : Bool) (w : World) :
    Calls Tryz.prog 7 #[.int .i64 size, .bool t, .agg #[.int .i64 lo, .int .i64 hi, .bool p, .bool q]] w fun e w' => e = .returned (.bool true) ∧ Below w.heap.size w w' := by
  obtain ⟨A, B, P, Q, s1, s2, _⟩ := swap_spans size t lo hi p q
  obtain ⟨A', B', P', Q', e1, e2, _⟩ := ext_spans size t lo hi p q
  have HS1 := Lib.hid s1
  have HS2 := Lib.hid s2
  have HE1 := Lib.hid e1
  have HE2 := Lib.hid e2
  have HAW := Lib.hid awake_of
  have r1 : Row (w.alloc (.cells #[.int .i64 lo, .int .i64 hi, .bool p, .bool q] 23)) w.heap.size 23 (spc lo hi p q) := Row.made w (spc lo hi p q) _
  have HR := Lib.hid (And.intro r1 (below_map w (.cells #[.int .i64 lo, .int .i64 hi, .bool p, .bool q] 23)))
  clear r1
  clear s1 s2 e1 e2 rs
  go_enter Tryz.func7, Tryz.ntmps7
  go_upto_region 1 with fail
  generalize World.alloc _ _ = wa at HR ⊢
  have hB : Below wa.heap.size wa wa.drew := (Below.refl _ _).drew
  refine wp_region_held_drew (S := fun w' => w'.cell? ⟨w.heap.size, 0, none⟩ = some (.int .i64 lo) ∧ w'.cell? ⟨w.heap.size, 1, none⟩ = some (.int .i64 hi) ∧ w'.cell? ⟨w.heap.size, 2, none⟩ = some (.bool p) ∧ w'.cell? ⟨w.heap.size, 3, none⟩ = some (.bool q)) (by kernel_rfl) ?_ (fun hHeld => ?_)
  · (try dsimp only); exact ⟨((HR.out.1.below hB HR.out.1.lt).cell 0).trans rfl, ((HR.out.1.below hB HR.out.1.lt).cell 1).trans rfl, ((HR.out.1.below hB HR.out.1.lt).cell 2).trans rfl, ((HR.out.1.below hB HR.out.1.lt).cell 3).trans rfl⟩
  refine tkw 0 7 ?_
  refine tkw 1 8 ?_
  refine tkw 2 9 ?_
  refine tkw 4 11 ?_
  refine tkw 5 12 ?_
  refine tkw 6 13 ?_
  refine wpAnyH_ready (rs := [3]) (by kernel_rfl) (by simp) ?_
  refine AllReadyH.cons (o := ⟨some 10, _, _, _, _, _⟩) rfl (fun K hK => ?_) AllReadyH.nil
  go_simp
  go_at_call 22
  refine (HS1.out _).mono ?_
  rintro e w3 ⟨rfl, kb⟩
  replace hB := hB.trans (kb.mono hB.size)
  clear kb
  refine hK.out _ _ ?_ (fun hHeld => ?_)
  · (try dsimp only); exact ⟨((HR.out.1.below hB HR.out.1.lt).cell 0).trans rfl, ((HR.out.1.below hB HR.out.1.lt).cell 1).trans rfl, ((HR.out.1.below hB HR.out.1.lt).cell 2).trans rfl, ((HR.out.1.below hB HR.out.1.lt).cell 3).trans rfl⟩
  clear hK K
  try simp only [Act.put, List.setIfInBounds_toArray, List.set_cons_zero, List.set_cons_succ]
  refine wpAnyH_ready (rs := [7]) (by kernel_rfl) (by simp) ?_
  refine AllReadyH.cons (o := ⟨some 14, _, _, _, _, _⟩) rfl (fun K hK => ?_) AllReadyH.nil
  go_simp
  go_at_call 23
  refine (HS2.out _).mono ?_
  rintro e w7 ⟨rfl, kb⟩
  replace hB := hB.trans (kb.mono hB.size)
  clear kb
  refine hK.out _ _ ?_ (fun hHeld => ?_)
  · (try dsimp only); exact ⟨((HR.out.1.below hB HR.out.1.lt).cell 0).trans rfl, ((HR.out.1.below hB HR.out.1.lt).cell 1).trans rfl, ((HR.out.1.below hB HR.out.1.lt).cell 2).trans rfl, ((HR.out.1.below hB HR.out.1.lt).cell 3).trans rfl⟩
  clear hK K
  try simp only [Act.put, List.setIfInBounds_toArray, List.set_cons_zero, List.set_cons_succ]
  refine tkw 8 15 ?_
  refine tkw 9 16 ?_
  refine tkw 10 17 ?_
  refine tkw 11 18 ?_
  refine tkw 12 19 ?_
  refine tkw 14 21 ?_
  refine tkw 15 22 ?_
  refine tkw 16 23 ?_
  refine wpAnyH_ready (rs := [13]) (by kernel_rfl) (by simp) ?_
  refine AllReadyH.cons (o := ⟨some 20, _, _, _, _, _⟩) rfl (fun K hK => ?_) AllReadyH.nil
  go_simp
  go_at_call 24
  refine (HE1.out _).mono ?_
  rintro e w13 ⟨rfl, kb⟩
  replace hB := hB.trans (kb.mono hB.size)
  clear kb
  refine hK.out _ _ ?_ (fun hHeld => ?_)
  · (try dsimp only); exact ⟨((HR.out.1.below hB HR.out.1.lt).cell 0).trans rfl, ((HR.out.1.below hB HR.out.1.lt).cell 1).trans rfl, ((HR.out.1.below hB HR.out.1.lt).cell 2).trans rfl, ((HR.out.1.below hB HR.out.1.lt).cell 3).trans rfl⟩
  clear hK K
  try simp only [Act.put, List.setIfInBounds_toArray, List.set_cons_zero, List.set_cons_succ]
  refine wpAnyH_ready (rs := [17]) (by kernel_rfl) (by simp) ?_
  refine AllReadyH.cons (o := ⟨some 24, _, _, _, _, _⟩) rfl (fun K hK => ?_) AllReadyH.nil
  go_simp
  go_at_call 25
  refine (HE2.out _).mono ?_
  rintro e w17 ⟨rfl, kb⟩
  replace hB := hB.trans (kb.mono hB.size)
  clear kb
  refine hK.out _ _ ?_ (fun hHeld => ?_)
  · (try dsimp only); exact ⟨((HR.out.1.below hB HR.out.1.lt).cell 0).trans rfl, ((HR.out.1.below hB HR.out.1.lt).cell 1).trans rfl, ((HR.out.1.below hB HR.out.1.lt).cell 2).trans rfl, ((HR.out.1.below hB HR.out.1.lt).cell 3).trans rfl⟩
  clear hK K
  try simp only [Act.put, List.setIfInBounds_toArray, List.set_cons_zero, List.set_cons_succ]
  refine tkw 18 25 ?_
  refine tkw 19 26 ?_
  refine tkw 20 27 ?_
  refine wpAnyH_ready (rs := [21]) (by kernel_rfl) (by simp) ?_
  refine AllReadyH.cons (o := ⟨some 28, _, _, _, _, _⟩) rfl (fun K hK => ?_) AllReadyH.nil
  go_simp
  go_at_call 12
  refine (HAW.out _).mono ?_
  rintro e w21 ⟨rfl, kb⟩
  replace hB := hB.trans (kb.mono hB.size)
  clear kb
  refine hK.out _ _ ?_ (fun hHeld => ?_)
  · (try dsimp only); exact ⟨((HR.out.1.below hB HR.out.1.lt).cell 0).trans rfl, ((HR.out.1.below hB HR.out.1.lt).cell 1).trans rfl, ((HR.out.1.below hB HR.out.1.lt).cell 2).trans rfl, ((HR.out.1.below hB HR.out.1.lt).cell 3).trans rfl⟩
  clear hK K
  try simp only [Act.put, List.setIfInBounds_toArray, List.set_cons_zero, List.set_cons_succ]
  refine tkw 22 29 ?_
  refine tkw 23 6 ?_
  refine wpAnyH_done (by kernel_rfl) ?_ _
  have HF := Lib.hid (HR.out.2.trans (hB.mono HR.out.2.size))
  clear hB hHeld
  go_wp2
  go_ret
  exact ⟨rfl, HF.out⟩

theorem fact_wf : (Rows.spanTurnsRow.wf (OpenSpec.ofChange Rows.spanTurnsSpec)) = true := by kernel_rfl
theorem fact_rd : (Tryz.f7.params.all ((Tryz.prog).readableRec ·)) = true := by kernel_rfl
theorem fact_nt : (namedTie (Tryz.prog) Rows.spanTurnsRow.named Rows.spanTurnsSpec.vars) = true := by kernel_rfl
theorem fact_s1 : ((Rows.spanTurnsRow.stops == [])) = true := by kernel_rfl
theorem fact_k1 : ((Rows.spanTurnsRow.knobs == [])) = true := by kernel_rfl
theorem fact_ip : ((Rows.spanTurnsRow.inPlace == (Tryz.prog).inPlace 7)) = true := by kernel_rfl
theorem fact_uf : ((Rows.spanTurnsRow.unfollowed == (Tryz.prog).unfollowed 7)) = true := by kernel_rfl
theorem fact_rc : ((Rows.spanTurnsRow.recurses == (Tryz.prog).recurses 7)) = true := by kernel_rfl
theorem fact_nm : ((Rows.spanTurnsRow.named == (Tryz.prog).varsNamed 7)) = true := by kernel_rfl
theorem fact_mp : ((Rows.spanTurnsRow.maps == (Tryz.f7.params.toList ++ Rows.spanTurnsSpec.plain.varTypes (Tryz.prog)).any ((Tryz.prog).mapsRec ·))) = true := by kernel_rfl
theorem fact_if : ((Rows.spanTurnsRow.ifaces == (Tryz.f7.params.toList ++ Rows.spanTurnsSpec.plain.varTypes (Tryz.prog)).any ((Tryz.prog).ifacesRec ·))) = true := by kernel_rfl
theorem fact_mo : ((Rows.spanTurnsRow.mapsOut == (Tryz.prog).mapsAmong Tryz.f7.resultTypes.toList)) = true := by kernel_rfl
theorem fact_lp : ((Rows.spanTurnsRow.loops == (Tryz.f7.params.toList ++ Rows.spanTurnsSpec.plain.varTypes (Tryz.prog)).any ((Tryz.prog).loopsFrom ·))) = true := by kernel_rfl
theorem fact_wk : ((Rows.spanTurnsRow.wideKeys == (Tryz.f7.params.toList ++ Rows.spanTurnsSpec.plain.varTypes (Tryz.prog) ++ Tryz.f7.resultTypes.toList).any ((Tryz.prog).wideKeysFrom ·))) = true := by kernel_rfl
theorem fact_vr : (Rows.spanTurnsSpec.vars.all ((Tryz.prog).varReadable ·)) = true := by kernel_rfl
theorem fact_rr : (Tryz.f7.resultTypes.all (fun t => (Tryz.prog).readableRec t && decide (t < (Tryz.prog).types.size))) = true := by kernel_rfl
theorem fact_io : ((Rows.spanTurnsRow.ifacesOut == Tryz.f7.resultTypes.toList.any ((Tryz.prog).ifacesRec ·))) = true := by kernel_rfl
theorem fact_ol : ((Rows.spanTurnsRow.loopsOut == Tryz.f7.resultTypes.toList.any ((Tryz.prog).loopsFrom ·))) = true := by kernel_rfl
theorem fact_pk : ((Rows.spanTurnsRow.plainKeys == (Tryz.prog).plainKeys)) = true := by kernel_rfl
theorem fact_st : (Rows.spanTurnsRow.shortTexts.isNone) = true := by kernel_rfl
theorem fact_lf : ((Rows.spanTurnsRow.lifted == (Tryz.prog).liftsFinal)) = true := by kernel_rfl
theorem fact_mk : (((Tryz.prog).make == some Rows.spanTurnsRow.make)) = true := by kernel_rfl
theorem fact_kd : ((Rows.spanTurnsRow.kinds == (if Rows.spanTurnsRow.domain.isEmpty then [] else Tryz.f7.params.toList.map fun t => match (Tryz.prog).underlying t with | some (.int k) => some k | _ => none))) = true := by kernel_rfl
theorem fact_pn : ((Rows.spanTurnsRow.pinned == Rows.spanTurnsRow.pinnedBy)) = true := by kernel_rfl
theorem fact_vl : ((Rows.spanTurnsRow.veiled == (Tryz.f7.params.toList ++ Rows.spanTurnsSpec.plain.varTypes (Tryz.prog) ++ Tryz.f7.resultTypes.toList).any ((Tryz.prog).veiledRec ·))) = true := by kernel_rfl
theorem fact_vf : (Rows.spanTurnsRow.veiledFits (Tryz.prog) Tryz.f7.params.toList (Tryz.f7.params.toList ++ Rows.spanTurnsSpec.plain.varTypes (Tryz.prog) ++ Tryz.f7.resultTypes.toList)) = true := by kernel_rfl
set_option maxRecDepth 100000 in
theorem closed : joinedFacts Tryz.prog 7 Tryz.f7 Rows.spanTurnsSpec Rows.spanTurnsRow = true :=
  closed_of fact_wf fact_lo fact_mr fact_rd fact_nt fact_s1 fact_s2 fact_k1 fact_k2 fact_ip fact_uf fact_rc fact_nm fact_mp fact_if fact_mo fact_lp fact_wk fact_vr fact_rr fact_io fact_ol fact_pk fact_st fact_sh fact_me fact_lf fact_mk fact_kd fact_pn fact_vl fact_vf

theorem own : ownKnob Tryz.prog.godebug = none := by kernel_rfl
abbrev laidL : List (String × DataW Unit) := Rows.spanTurnsRow.laid
theorem door_met (os : Os) (args : Array Value) : laidMetH Tryz.prog laidL ((World.doorLaid Tryz.prog 39 os).forCall (fun _ _ => 0) ⟨#[], args, []⟩).memory :=
  laidMetH_of_parts3 (fuel := 8) (laidMet_of_run' 8 (by kernel_rfl) (by kernel_rfl)) (by kernel_rfl) (by kernel_rfl)
set_option maxRecDepth 100000 in
theorem lifted (os : Os) (started : os.Started) (H : Type) (enc : TypeId × Value → H) :
    ReturnsInHanded {} Tryz.checked os 7 .any (fun w args => (Rows.spanTurnsSpec.pre enc Tryz.prog Tryz.f7 [] false w args ∧ laidMetH Tryz.prog laidL w) ∧ sizedMet enc Tryz.prog Tryz.f7 (OpenSpec.ofChange Rows.spanTurnsSpec) false w args)
      (Rows.spanTurnsSpec.post enc Tryz.prog Tryz.f7 false true false false) := by
  refine returnsInHanded_of_change_and (C := Tryz.checked) (X := fun w _ => laidMetH Tryz.prog laidL w) (fun _ _ _ hh h => h.of_heap hh) own started (by kernel_rfl) Tryz.func7
    (ChangeSpec.witness_shaped (enc := enc) (C := Tryz.checked) (os := os) (X := fun w _ => laidMetH Tryz.prog laidL w) false (World.doorLaid Tryz.prog 39 os) #[.int .i64 0, .bool false, .agg #[.int .i64 0, .int .i64 0, .bool false, .bool false]] 8 rfl (World.shaped_of_RefB (by kernel_rfl) (by kernel_rfl)) (by kernel_rfl) (by kernel_rfl) (by kernel_rfl) (door_met os _)) ?_
  intro W base args ds gs before hval0 hW _ hsz0 hL0 _
  clear hL0
  have hval : ∀ (j : Nat) t v, Tryz.f7.params[j]? = some t → args[j]? = some v → Value.okWide Tryz.prog W .any base t v := hval0
  have hW' := hW
  obtain ⟨p, q, hA0, hV, rfl, hfz, hnd⟩ := hW
  have hA : DataW.TrodAll enc Tryz.prog W 0 (fun _ => true) true Tryz.f7.params.toList args.toList ds p := hA0
  rw [Tryz.params7] at hA hval
  obtain ⟨v0, vs0, d0, ds0, p0, q0, hargs, rfl, rfl, h0, r0⟩ := trodAll_cons hA
  obtain ⟨v1, vs1, d1, ds1, p1, q1, rfl, rfl, rfl, h1, r1⟩ := trodAll_cons r0
  obtain ⟨v2, vs2, d2, ds2, p2, q2, rfl, rfl, rfl, h2, r2⟩ := trodAll_cons r1
  obtain ⟨rfl, rfl, rfl⟩ := trodAll_nil r2
  obtain rfl : args = #[v0, v1, v2] := by cases args; simp_all
  obtain ⟨a0, rfl, rfl, rfl, w0⟩ := open_int Tryz.underlying3 (hval 0 3 v0 rfl rfl) h0
  obtain ⟨a1, rfl, rfl, rfl⟩ := open_bool Tryz.underlying4 (hval 1 4 v1 rfl rfl) h1
  obtain ⟨c20, c21, c22, c23, y20, y21, y22, y23, m2, rfl, rfl, rfl, hy20, hy21, hy22, hy23⟩ := open_agg4 Tryz.underlying23 (by kernel_rfl) (show Tryz.prog.cellsOf 23 = 4 by kernel_rfl) (hval 2 23 v2 rfl rfl) h2
  obtain ⟨a20, e20, rfl, w20⟩ := DataW.trod_int Tryz.underlying3 hy20
  obtain ⟨a21, e21, rfl, w21⟩ := DataW.trod_int Tryz.underlying3 hy21
  obtain ⟨a22, e22, rfl⟩ := DataW.trod_bool Tryz.underlying4 hy22
  obtain ⟨a23, e23, rfl⟩ := DataW.trod_bool Tryz.underlying4 hy23
  simp at e20 e21 e22 e23
  subst e20 e21 e22 e23
  refine (walk a0 (range_i64 w0) a1 a20 a21 a22 a23 W).mono fun e W' ⟨he, hb⟩ => ?_
  subst he
  exact ⟨_, rfl, law_post (tb := 4) (by kernel_rfl) (by kernel_rfl) rfl Tryz.underlying4 rfl (fun h => by subst h; rfl) hW' hb⟩

theorem proved : Rows.SpanTurnsSaid :=
  OpenClaim.holds_of_wide 7 Tryz.f7 rfl rfl rfl rfl rfl rfl rfl ⟨rfl, rfl, rfl, rfl, rfl⟩ rfl rfl rfl rfl rfl (by kernel_rfl) Tryz.func7 closed
    (of_decide_eq_true (by kernel_rfl)) (by unfold Func.isWrapper; first | (rw [if_pos (by decide +kernel)]; kernel_rfl) | (rw [if_neg (by decide +kernel)]; exact ⟨rfl, rfl⟩))
    (fun os started H enc _ => lifted os started H enc)

theorem card : Rows.SpanTurnsCardSaid :=
  Claim7.holds_tied_plain_at .later [] [.data, .data, .data, .data, .data, .data, .data] true Rows.spanTurnsCard.stood.harness true
    proved (fun _ h => by cases h) (by as_aux_lemma => kernel_rfl) (fun _ h => by cases h) spanTurns_row_tie rfl ⟨rfl, rfl⟩ (by as_aux_lemma => kernel_rfl) rfl
    (fun f fn hf hfn => by
      obtain rfl : f = 7 := Option.some.inj ((show Tryz.prog.funcNamed "warrant/warrantlaw06.SpanTurns" = some 7 by as_aux_lemma => kernel_rfl).symm.trans hf) |>.symm
      obtain rfl : fn = Tryz.f7 := (Option.some.inj (Tryz.func7.symm.trans hfn)).symm
      exact ⟨by as_aux_lemma => kernel_rfl, fun j t ht => by
        rw [Tryz.params7] at ht
        have hm : t ∈ [3, 4, 23] := by simpa using Array.mem_of_getElem? ht
        have hall : ([3, 4, 23].all fun u => !Tryz.prog.wantsStandIn u) = true := by kernel_rfl
        exact (show Tryz.prog.wantsStandIn t = false by simpa using List.all_eq_true.1 hall t hm)⟩)
    (by as_aux_lemma => kernel_rfl)
#print axioms card

end Go.Proofs.YtcmplcdbkoodpaaGreatDoor.spanTurns
