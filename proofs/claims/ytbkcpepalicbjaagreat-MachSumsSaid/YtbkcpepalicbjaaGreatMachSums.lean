/-
  MachSums: the program that adds up the bytes of its context does so, of every context, in 4 and 6 for each byte steps, and leaves it as it was; no condition but that the context has at most 2^47 - 4096 bytes, as every slice of bytes has.
-/
import Derived.Test.YtbkcpepalicbjaaGreatMachBM
import Derived.Test.YtbkcpepalicbjaaGreatMachBL
import Derived.Test.YtbkcpepalicbjaaGreatFacts
import Derived.OpenShut
namespace Go.Proofs.YtbkcpepalicbjaaGreat.machSums
open Go.ChangeShapes Go.WideShapes Go.ChangeAt Go.RowKit
set_option linter.unusedVariables false
set_option linter.unusedSimpArgs false

structure KSum (w : World) (ib : Nat) (zs : List Int) (m : Nat) (az : Option Addr) (cz : Nat) (wr : World) : Prop where
  bel : Below w.heap.size w wr
  cod : Coded wr (.slice (some ⟨ib, 0, none⟩) sumc.length 9) sumc
  held : Held wr (.slice az m cz) zs
theorem KSum.cell {w : World} {ib : Nat} {zs : List Int} {m : Nat} {az : Option Addr} {cz : Nat} {wr : World} (h : KSum w ib zs m az cz wr) (i : Nat) (hi : i < zs.length) : ∃ b off, az = some ⟨b, off, none⟩ ∧ wr.cell? ⟨b, off + i, none⟩ = some (.int .u8 (zs.getD i 0)) := by
  obtain ⟨a, c, hv, _, _, _, h0 | ⟨b, off, rfl, _, hc⟩⟩ := h.held.open
  · omega
  · injection hv with e1
    exact ⟨b, off, e1, hc i hi⟩
set_option maxRecDepth 100000 in
set_option maxHeartbeats 8000000 in
theorem walk (v0 : Value) (xs : List Int) (hxl : xs.length ≤ 140737488351232) (w : World) (hX : Held w v0 xs) :
    Calls Tryz.prog 18 #[v0] w fun e w' => e = .returned (.bool true) ∧ Below w.heap.size w w' := by
  obtain ⟨a0, c0, rfl, hc0, hcm0, htk, _⟩ := hX.open
  obtain ⟨n0, hn0⟩ : ∃ n, n = xs.length := ⟨_, rfl⟩
  have HX := Lib.hid hX
  have HTK := Lib.hid htk
  have HN0 := Lib.hid hn0
  rw [← hn0] at hc0 hxl HX HTK ⊢
  clear hX htk hn0
  go_enter Tryz.func18, Tryz.ntmps18
  go_upto_if 14 with fail
  go_cut [0] (fun s0 wx => (∃ (zs : List Int) (m : Nat) (az : Option Addr) (cz : Nat), m = zs.length ∧ s0 = .slice az m cz ∧ Held wx (.slice az m cz) zs ∧ m ≤ 65535) ∧ w = wx)
  case first =>
    by_cases h3 : 65535 < n0
    · have q : decide (65535 < (n0 : Int)) = true := by simp; omega
      have hc : (65535 : Int) ≤ (c0 : Int) := by omega
      have HHH := Lib.hid (HTK.out 65535 (by omega))
      have HLEN := Lib.hid (show (xs.take 65535).length = 65535 by rw [List.length_take, ← HN0.out]; omega)
      clear h3
      try simp only [q]
      go_wp2_with fail
      go_meet
      case rel => exact ⟨⟨xs.take 65535, 65535, a0, c0, HLEN.out.symm, rfl, HHH.out, by decide⟩, rfl⟩
    · have q : decide (65535 < (n0 : Int)) = false := by simp; omega
      have HLE := Lib.hid h3
      clear h3
      try simp only [q]
      go_wp2_with fail
      go_meet
      case rel => exact ⟨⟨xs, n0, a0, c0, HN0.out, rfl, HX.out, by have := HLE.out; omega⟩, rfl⟩
  case rest =>
    obtain ⟨⟨zs, m, az, cz, hm, rfl, hZ, hm6⟩, rfl⟩ := hcut
    have HZ := Lib.hid hZ
    have HM := Lib.hid (And.intro hm hm6)
    clear hm hZ hm6 HX HTK HN0 hc0 hxl hcm0
    have hb0 := run_i0
    have hb04 := run_i04
    have hbj := run_i02456
    have hbl := run_i0345
    have hbr := run_i0245
    have hbi := run_i047
    have hba := run_i06
    go_upto_region 5 with fail
    have hks : KSum w w.heap.size zs m az cz (w.alloc (.cells (codec sumc).toArray 23)) := ⟨below_map w _, coded_new sumc (by decide) (by decide) w, HZ.out.below (below_map w _) (Nat.le_refl _)⟩
    go_wp2_with fail
    go_loopg [4, 5] m (fun g s4 s5 wr => ∃ i : Nat, i ≤ m ∧ g = m - i ∧ s4 = .int .i64 (sumTo zs i) ∧ s5 = .int .i64 i ∧ KSum w w.heap.size zs m az cz wr)
    case atStart => exact ⟨0, Nat.zero_le _, rfl, rfl, rfl, hks⟩
    case round =>
      obtain ⟨i, hi, rfl, rfl, rfl, hK⟩ := hrel
      have HKS := Lib.hid hK
      clear hK hks
      by_cases hlt : i < m
      · have hzi : i < zs.length := by have := HM.out; omega
        obtain ⟨b, off, rfl, e1⟩ := HKS.out.cell i hzi
        have hr := HZ.out.bytes.at' i
        have hT := sumTo_r HZ.out.bytes i
        have hs : sumTo zs (i + 1) = sumTo zs i + zs.getD i 0 := rfl
        obtain ⟨x, hxx⟩ : ∃ x, x = zs.getD i 0 := ⟨_, rfl⟩
        obtain ⟨T, hTT⟩ : ∃ T, T = sumTo zs i := ⟨_, rfl⟩
        obtain ⟨T', hT'⟩ : ∃ T', T' = sumTo zs (i + 1) := ⟨_, rfl⟩
        rw [← hxx] at hr hs e1
        rw [← hTT] at hs hT ⊢
        rw [← hT'] at hs
        have hwT : wrap64 (T + x) = T' := by rw [hs]; have := HM.out; unfold wrap64; omega
        have hwi : wrap64 ((i : Int) + 1) = ((i + 1 : Nat) : Int) := by have := HM.out; unfold wrap64; omega
        have hj : decide ((i : Int) < (m : Int)) = true := by simp; omega
        have HI := Lib.hid (And.intro hlt hT')
        have HR := Lib.hid (And.intro hr hT)
        clear hs hxx hTT hT' hzi hT
        go_wp2_with fail
        go_roundg (m - (i + 1))
        case measure => omega
        case rel => exact ⟨i + 1, by have := HI.out; omega, rfl, congrArg (Value.int .i64) (hwT.trans HI.out.2), congrArg (Value.int .i64) hwi, HKS.out⟩
      · have hj : decide ((i : Int) < (m : Int)) = false := by simp; omega
        obtain rfl : i = m := by omega
        obtain ⟨T, hTT⟩ : ∃ T, T = sumTo zs i := ⟨_, rfl⟩
        obtain ⟨f6, h6⟩ : ∃ n : Nat, n = 6 * i := ⟨_, rfl⟩
        obtain ⟨F, hF⟩ : ∃ n : Nat, n = 3 + 6 * i := ⟨_, rfl⟩
        obtain ⟨G, hG⟩ : ∃ n : Nat, n = 4 + 6 * i := ⟨_, rfl⟩
        have hm6 := HM.out.2
        obtain ⟨s1, s2, hr1, hr2, ⟨hq1, hq2, hq3⟩, ⟨hp1, hp2, hp3⟩, hst, hrg⟩ := sum_pack zs HZ.out.bytes (by have := HM.out; omega) F G (by rw [← HM.out.1]; exact hF) (by rw [← HM.out.1]; exact hG)
        rw [← HM.out.1] at hrg
        rw [← hTT] at hrg ⊢
        have w6 : wrap64 (6 * (i : Int)) = (f6 : Int) := by unfold wrap64; omega
        have w3 : wrap64 (3 + (f6 : Int)) = (F : Int) := by unfold wrap64; omega
        have w4 : wrap64 (4 + (f6 : Int)) = (G : Int) := by unfold wrap64; omega
        have hFl : F < 4611686018427387904 := by omega
        have hcp := copy_of (.slice az i cz) zs wr HKS.out.held (by have := HM.out; omega)
        rw [← HM.out.1] at hcp
        have hnew := fun a c w' (h1 : Coded w' (.slice (some ⟨w.heap.size, 0, none⟩) sumc.length 9) sumc) (h2 : Held w' (.slice a i c) zs) => new_runH 65535 sumc zs (some ⟨w.heap.size, 0, none⟩) a 9 c (sumc_ok.made 65535 (by decide)) (by have := HM.out; omega) w' h1 (by rw [← HM.out.1]; exact h2)
        rw [← HM.out.1] at hnew
        have hrun1 := fun base w0 bx v w' (h : MS base w0 ⟨[], [], sumc⟩ (st0 zs) bx v w') => run_of fxS (st0 zs) F hFl 88 s1 hr1 hq1 (by rw [hq2]; have := HM.out; omega) (by rw [hq3]; exact Nat.zero_le _) base w0 bx v w' h
        have hrun2 := fun base w0 bx v w' (h : MS base w0 ⟨[], [], sumc⟩ s1 bx v w') => run_of fxS s1 1 (by decide) 0 s2 hr2 hp1 (by rw [hp2]; have := HM.out; omega) (by rw [hp3]; exact Nat.zero_le _) base w0 bx v w' h
        have HCP := Lib.hid hcp
        have HNEW := Lib.hid hnew
        have HRUN1 := Lib.hid hrun1
        have HRUN2 := Lib.hid hrun2
        have HRG := Lib.hid hrg
        have HP := Lib.hid (And.intro hp1 (And.intro hp2 hp3))
        have HST := Lib.hid hst
        clear hlt hi hr1 hr2 hq1 hq2 hq3 hp1 hp2 hp3 hst hrg hTT h6 hF hG hcp hnew hrun1 hrun2 hFl hm6
        have hbp := run_prg14
        have hbi2 := run_inp
        go_upto_region 13 with (first
          | (go_at_call 24; refine (HCP.out).mono ?_; rintro e wC ⟨vC, rfl, hown, hbC⟩; obtain ⟨aC, kC, rfl⟩ := own_slice hown)
          | (go_at_call 39; refine (HNEW.out _ _ _ (HKS.out.cod.below hbC (Nat.le_refl _)) (held_of_own hown HZ.out.bytes HM.out.1)).mono ?_; rintro e wN ⟨bx, v, rfl, hM⟩)
          | (go_at_call 51; refine (HRUN1.out _ _ _ _ _ hM).mono ?_; rintro e wR ⟨r0, xv', tv', sv', rfl, hO, v1, hM1, hf, hro⟩; obtain ⟨a1, n1, c1, rfl⟩ := hO.shx; obtain ⟨a2, n2, c2, rfl⟩ := hO.sht; obtain ⟨a3, n3, c3, rfl⟩ := hO.shs))
        have hMA := hM1.next (below_map wR (.cells #[.int .i64 r0, .slice a1 n1 c1, .slice a2 n2 c2, .slice a3 n3 c3] 31))
        have HMA := Lib.hid hMA
        have HH := Lib.hid (HKS.out.held.below hbC (Nat.le_refl _))
        have HB := Lib.hid (HKS.out.bel.trans (hbC.mono HKS.out.bel.size))
        clear hO hM1 hf hro hM hown hbC hMA
        generalize World.alloc _ _ = wA at HMA ⊢
        go_upto_region 14 with (go_at_call 51; go_loud (refine (HRUN2.out _ _ _ _ _ HMA.out).mono ?_; rintro e wS ⟨rr, xv', tv', sv', rfl, hO, v2, hM2, hf, hro⟩; obtain rfl : rr = T := hO.r0 rfl _ HRG.out; have h1 := hO.ctx rfl; rw [HP.out.2.1, ← HM.out.1] at h1; have h3 := hO.sent rfl; rw [HP.out.2.2] at h3; obtain ⟨b1, d1, rfl⟩ := own_slice h1; obtain ⟨b2, m2, d2, rfl⟩ := hO.sht; obtain ⟨b3, d3, rfl⟩ := own_slice h3))
        have h44 : (regc s2.rg).length = 44 := by rw [regc_len, hM2.rgl]
        have h416 : s2.st.length = 416 := hM2.stl
        have hrow := Row.made wS [.int .i64 rr, .slice b1 i d1, .slice b2 m2 d2, .slice b3 0 d3] 31
        have hbS := below_map wS (.cells #[.int .i64 rr, .slice b1 i d1, .slice b2 m2 d2, .slice b3 0 d3] 31)
        have hMB := hM2.next hbS
        have HMB := Lib.hid hMB
        have HROW := Lib.hid hrow
        have HX1 := Lib.hid ((HH.out.below hM2.bel (Nat.le_refl _)).below hbS (Nat.le_refl _))
        have HX2 := Lib.hid ((held_of_own h1 HZ.out.bytes HM.out.1).below hbS (Nat.le_refl _))
        have HBS := Lib.hid ((HB.out.trans (hM2.bel.mono HB.out.size)).alloc (by have := HB.out.size; have := hM2.bel.size; omega) (.cells #[.int .i64 rr, .slice b1 i d1, .slice b2 m2 d2, .slice b3 0 d3] 31))
        have HSA := Lib.hid (fun w' (h : MS wC.heap.size wC fxS s2 bx v2 w') => state_of fxS s2 (by rw [HP.out.2.1]; have := HM.out; omega) (by rw [HP.out.2.2]; exact Nat.zero_le _) (by rw [HP.out.1]; exact Nat.zero_le _) (fun k hk => absurd hk (by rw [HP.out.1]; exact Nat.not_lt_zero k)) wC.heap.size wC bx v2 w' h)
        clear hO hM2 hf hro h1 h3 hrow hbS hMB HMA HH HB
        generalize World.alloc _ _ = wB at HROW HMB HX1 HX2 HBS ⊢
        obtain ⟨⟨_, _, _, _⟩, _⟩ := HROW.out.four
        go_wp2_with (first
          | (go_at_call 27; refine (same_at _ _ zs _ HX2.out HX1.out).mono ?_; rintro e w' ⟨rfl, rfl⟩)
          | (go_at_call 45; go_loud (refine (HSA.out _ HMB.out).mono ?_; rintro e wT ⟨xv, tv, sv, rfl, hA⟩; have hfs := fun w => field_steps h44 h416 xv tv sv w; rw [HST.out] at hfs; obtain ⟨⟨_, _, _, _⟩, _⟩ := (HROW.out.below hA.bel HROW.out.lt).four)))
        go_ret
        exact ⟨rfl, HBS.out.trans (hA.bel.mono HBS.out.size)⟩


theorem fact_wf : (Rows.machSumsRow.wf (OpenSpec.ofChange Rows.machSumsSpec)) = true := by kernel_rfl
theorem fact_rd : (Tryz.f18.params.all ((Tryz.prog).readableRec ·)) = true := by kernel_rfl
theorem fact_nt : (namedTie (Tryz.prog) Rows.machSumsRow.named Rows.machSumsSpec.vars) = true := by kernel_rfl
theorem fact_s1 : ((Rows.machSumsRow.stops == [])) = true := by kernel_rfl
theorem fact_k1 : ((Rows.machSumsRow.knobs == [])) = true := by kernel_rfl
theorem fact_ip : ((Rows.machSumsRow.inPlace == (Tryz.prog).inPlace 18)) = true := by kernel_rfl
theorem fact_uf : ((Rows.machSumsRow.unfollowed == (Tryz.prog).unfollowed 18)) = true := by kernel_rfl
theorem fact_rc : ((Rows.machSumsRow.recurses == (Tryz.prog).recurses 18)) = true := by kernel_rfl
theorem fact_nm : ((Rows.machSumsRow.named == (Tryz.prog).varsNamed 18)) = true := by kernel_rfl
theorem fact_mp : ((Rows.machSumsRow.maps == (Tryz.f18.params.toList ++ Rows.machSumsSpec.plain.varTypes (Tryz.prog)).any ((Tryz.prog).mapsRec ·))) = true := by kernel_rfl
theorem fact_if : ((Rows.machSumsRow.ifaces == (Tryz.f18.params.toList ++ Rows.machSumsSpec.plain.varTypes (Tryz.prog)).any ((Tryz.prog).ifacesRec ·))) = true := by kernel_rfl
theorem fact_mo : ((Rows.machSumsRow.mapsOut == (Tryz.prog).mapsAmong Tryz.f18.resultTypes.toList)) = true := by kernel_rfl
theorem fact_lp : ((Rows.machSumsRow.loops == (Tryz.f18.params.toList ++ Rows.machSumsSpec.plain.varTypes (Tryz.prog)).any ((Tryz.prog).loopsFrom ·))) = true := by kernel_rfl
theorem fact_wk : ((Rows.machSumsRow.wideKeys == (Tryz.f18.params.toList ++ Rows.machSumsSpec.plain.varTypes (Tryz.prog) ++ Tryz.f18.resultTypes.toList).any ((Tryz.prog).wideKeysFrom ·))) = true := by kernel_rfl
theorem fact_vr : (Rows.machSumsSpec.vars.all ((Tryz.prog).varReadable ·)) = true := by kernel_rfl
theorem fact_rr : (Tryz.f18.resultTypes.all (fun t => (Tryz.prog).readableRec t && decide (t < (Tryz.prog).types.size))) = true := by kernel_rfl
theorem fact_io : ((Rows.machSumsRow.ifacesOut == Tryz.f18.resultTypes.toList.any ((Tryz.prog).ifacesRec ·))) = true := by kernel_rfl
theorem fact_ol : ((Rows.machSumsRow.loopsOut == Tryz.f18.resultTypes.toList.any ((Tryz.prog).loopsFrom ·))) = true := by kernel_rfl
theorem fact_pk : ((Rows.machSumsRow.plainKeys == (Tryz.prog).plainKeys)) = true := by kernel_rfl
theorem fact_st : (Rows.machSumsRow.shortTexts.isNone) = true := by kernel_rfl
theorem fact_lf : ((Rows.machSumsRow.lifted == (Tryz.prog).liftsFinal)) = true := by kernel_rfl
theorem fact_mk : (((Tryz.prog).make == some Rows.machSumsRow.make)) = true := by kernel_rfl
theorem fact_kd : ((Rows.machSumsRow.kinds == (if Rows.machSumsRow.domain.isEmpty then [] else Tryz.f18.params.toList.map fun t => match (Tryz.prog).underlying t with | some (.int k) => some k | _ => none))) = true := by kernel_rfl
theorem fact_pn : ((Rows.machSumsRow.pinned == Rows.machSumsRow.pinnedBy)) = true := by kernel_rfl
theorem fact_vl : ((Rows.machSumsRow.veiled == (Tryz.f18.params.toList ++ Rows.machSumsSpec.plain.varTypes (Tryz.prog) ++ Tryz.f18.resultTypes.toList).any ((Tryz.prog).veiledRec ·))) = true := by kernel_rfl
theorem fact_vf : (Rows.machSumsRow.veiledFits (Tryz.prog) Tryz.f18.params.toList (Tryz.f18.params.toList ++ Rows.machSumsSpec.plain.varTypes (Tryz.prog) ++ Tryz.f18.resultTypes.toList)) = true := by kernel_rfl
set_option maxRecDepth 100000 in
theorem closed : joinedFacts Tryz.prog 18 Tryz.f18 Rows.machSumsSpec Rows.machSumsRow = true :=
  closed_of fact_wf fact_lo fact_mr fact_rd fact_nt fact_s1 fact_s2 fact_k1 fact_k2 fact_ip fact_uf fact_rc fact_nm fact_mp fact_if fact_mo fact_lp fact_wk fact_vr fact_rr fact_io fact_ol fact_pk fact_st fact_sh fact_me fact_lf fact_mk fact_kd fact_pn fact_vl fact_vf

theorem own : ownKnob Tryz.prog.godebug = none := by kernel_rfl
set_option maxRecDepth 100000 in
theorem lifted (os : Os) (started : os.Started) (H : Type) (enc : TypeId × Value → H) :
    ReturnsInHanded {} Tryz.checked os 18 .any (Rows.machSumsSpec.pre6 enc Tryz.prog Tryz.f18 Rows.machSumsRow.domain false) (Rows.machSumsSpec.post enc Tryz.prog Tryz.f18 false true false false) := by
  refine returnsInHanded_of_change_sized (C := Tryz.checked) own started (by kernel_rfl) Tryz.func18
    (ChangeSpec.witness6 (enc := enc) (C := Tryz.checked) false ⟨#[], #[.slice none 0 0], []⟩ 8 (by kernel_rfl) (by kernel_rfl) (by kernel_rfl) (by kernel_rfl)) ?_
  intro W base args ds gs before hval0 hW hcnd hsz0 _
  have hsz : (DataW.weightsEach Tryz.prog (Tryz.f18.params.toList ++ Rows.machSumsSpec.plain.varTypes Tryz.prog) (ds ++ gs)).all (· ≤ reachBytes) = true := hsz0
  have hval : ∀ (j : Nat) t v, Tryz.f18.params[j]? = some t → args[j]? = some v → Value.okWide Tryz.prog W .any base t v := hval0
  have hW' := hW
  obtain ⟨p, q, hA0, hV, rfl, hfz, hnd⟩ := hW
  have hA : DataW.TrodAll enc Tryz.prog W 0 (fun _ => true) true Tryz.f18.params.toList args.toList ds p := hA0
  rw [Tryz.params18] at hA hval hsz
  obtain ⟨v0, vs0, d0, ds0, p0, q0, hargs, rfl, rfl, h0, r0⟩ := trodAll_cons hA
  obtain ⟨rfl, rfl, rfl⟩ := trodAll_nil r0
  obtain rfl : args = #[v0] := by cases args; simp_all
  obtain ⟨xs0, hX0, hd0⟩ := bytes_arg (hval 0 27 v0 rfl rfl) h0
  have hl0 : xs0.length ≤ 140737488351232 := by
    rcases hd0 with rfl | ⟨spare, rfl⟩
    · simp
    · have := sized_slice hsz (j := 0) (t := 27) (e := 5) rfl rfl Tryz.underlying27
      rw [show Tryz.prog.bytesOf 5 = 1 by kernel_rfl] at this
      simp only [lits, List.length_map, reachBytes] at this
      omega
  refine (walk v0 xs0 (Nat.le_trans hl0 (by decide)) W hX0).mono fun e W' ⟨he, hb⟩ => ?_
  subst he
  exact ⟨_, rfl, law_post (tb := 4) (by kernel_rfl) (by kernel_rfl) rfl Tryz.underlying4 rfl (fun h => by subst h; rfl) hW' hb⟩

theorem proved : Rows.MachSumsSaid :=
  OpenClaim.holds_of_wide 18 Tryz.f18 rfl rfl rfl rfl rfl rfl rfl ⟨rfl, rfl, rfl, rfl, rfl⟩ rfl rfl rfl rfl rfl (by kernel_rfl) Tryz.func18 closed
    (of_decide_eq_true (by kernel_rfl)) (by unfold Func.isWrapper; first | (rw [if_pos (by decide +kernel)]; kernel_rfl) | (rw [if_neg (by decide +kernel)]; exact ⟨rfl, rfl⟩))
    (fun os started H enc _ => lifted os started H enc)
#print axioms proved

end Go.Proofs.YtbkcpepalicbjaaGreat.machSums
