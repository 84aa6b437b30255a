/-
  SpanLoads: the number of any bytes is one of Bytes' span; no condition.
-/
import Derived.Test.YtcmplcdbkoodpaaGreatDoorSpanQ
import Derived.Test.YtcmplcdbkoodpaaGreatDoorBigG
import Derived.Test.YtcmplcdbkoodpaaGreatDoorRefGet
import Derived.Test.YtcmplcdbkoodpaaGreatDoorFacts
import Derived.Test.YtcmplcdbkoodpaaGreatDoorTie
import Derived.Test.YtcmplcdbkoodpaaGreatDoorCards
import Derived.SevenTiedAt
import Derived.ProofKit
import Derived.LaidMore
import Derived.OpenShut
import Derived.Lib.SmallJoins
import Derived.Lib.BytesEntry
import Derived.SizedLaws
import Derived.Deep.Cut
import Derived.Test.YtcmplcdbkoodpaaGreatDoorTake
import Derived.Deep.RegionHeld3
namespace Go.Proofs.YtcmplcdbkoodpaaGreatDoor.spanLoads
open Go.Joins Go.ChangeShapes Go.WideShapes Go.ChangeAt Go.RowKit
set_option linter.unusedVariables false
set_option linter.unusedSimpArgs false

/-- The span of a size, its parts. -/
def BV (size : Int) (sg : Bool) (A B : Int) (P Q : Bool) : Prop := bytev size sg = .agg #[.int .i64 A, .int .i64 B, .bool P, .bool Q]
theorem bv_of (size : Int) (sg : Bool) : ∃ A B P Q, BV size sg A B P Q ∧ Snd A B P Q := by
  unfold BV bytev
  repeat' split
  all_goals first
    | exact ⟨_, _, _, _, rfl, by decide⟩
    | (unfold ofs; rw [if_neg (by decide)]; exact ⟨_, _, _, _, rfl, by decide⟩)
theorem held_len {w : World} {v : Value} {xs : List Int} (h : Held w v xs) : ∃ a c, v = .slice a xs.length c := by
  obtain ⟨_, ⟨rfl, rfl | ⟨a, c, rfl, _⟩⟩ | ⟨_, b, o, c, rfl, _⟩⟩ := h
  · exact ⟨_, _, rfl⟩
  · exact ⟨_, _, rfl⟩
  · exact ⟨_, _, rfl⟩
theorem has_full (x : Int) (h : -9223372036854775808 ≤ x ∧ x ≤ 9223372036854775807) : hasv 0 0 true true x = true := by
  have hs : Snd 0 0 true true := by decide
  unfold hasv elo ehi
  rw [if_pos hs, if_pos hs]
  simp; omega
theorem has_in (A B x : Int) (hs : Snd A B false false) (h : A ≤ x ∧ x ≤ B) : hasv A B false false x = true := by
  unfold hasv elo ehi
  rw [if_pos hs, if_pos hs]
  simp; omega
theorem get_rng {xs : List Int} (hx : IsBytes xs) (h1 : 1 ≤ xs.length) (h8 : xs.length ≤ 8) (sg : Bool) :
    (sg = true → -(2 ^ (8 * xs.length - 1) : Nat) ≤ getv sg xs ∧ getv sg xs < (2 ^ (8 * xs.length - 1) : Nat)) ∧ (sg = false → xs.length ≤ 7 → 0 ≤ getv sg xs ∧ getv sg xs < (256 ^ xs.length : Nat)) ∧ (-9223372036854775808 ≤ getv sg xs ∧ getv sg xs ≤ 9223372036854775807) := by
  have hlt := num_lt hx
  have hne : ¬ (xs = [] ∨ 8 < xs.length) := by
    rintro (rfl | h)
    · simp at h1
    · omega
  unfold getv
  rw [if_neg hne]
  clear hne
  obtain ⟨N, hN⟩ : ∃ N, N = num xs := ⟨_, rfl⟩
  rw [← hN] at hlt ⊢
  clear hN
  obtain ⟨n, hn⟩ : ∃ n, n = xs.length := ⟨_, rfl⟩
  rw [← hn] at hlt h1 h8 ⊢
  clear hn
  have h : n = 1 ∨ n = 2 ∨ n = 3 ∨ n = 4 ∨ n = 5 ∨ n = 6 ∨ n = 7 ∨ n = 8 := by omega
  rcases h with rfl | rfl | rfl | rfl | rfl | rfl | rfl | rfl
  all_goals
    cases sg
    · simp at hlt ⊢
      unfold wrap64
      omega
    · simp at hlt ⊢
      unfold sgn
      simp
      split <;> omega
theorem get_has {xs : List Int} (hx : IsBytes xs) (h1 : 1 ≤ xs.length) (h8 : xs.length ≤ 8) (sg : Bool) {A B : Int} {P Q : Bool} (hb : BV (xs.length : Int) sg A B P Q) : hasv A B P Q (getv sg xs) = true := by
  obtain ⟨g1, g2, g3⟩ := get_rng hx h1 h8 sg
  obtain ⟨x, hxx⟩ : ∃ x, x = getv sg xs := ⟨_, rfl⟩
  rw [← hxx] at g1 g2 g3 ⊢
  clear hxx
  obtain ⟨n, hn⟩ : ∃ n, n = xs.length := ⟨_, rfl⟩
  rw [← hn] at g1 g2 h1 h8 hb
  clear hn hx
  unfold BV bytev at hb
  have h : n = 1 ∨ n = 2 ∨ n = 4 ∨ (n ≠ 1 ∧ n ≠ 2 ∧ n ≠ 4) := by omega
  rcases h with rfl | rfl | rfl | ⟨n1, n2, n4⟩
  · cases sg
    · have := g2 rfl (by omega)
      simp [ofs, oflo, ofhi] at hb
      obtain ⟨rfl, rfl, rfl, rfl⟩ := hb
      exact has_in _ _ _ (by decide) (by simp at this; omega)
    · have := g1 rfl
      simp [ofs, oflo, ofhi] at hb
      obtain ⟨rfl, rfl, rfl, rfl⟩ := hb
      exact has_in _ _ _ (by decide) (by simp at this; omega)
  · cases sg
    · have := g2 rfl (by omega)
      simp [ofs, oflo, ofhi] at hb
      obtain ⟨rfl, rfl, rfl, rfl⟩ := hb
      exact has_in _ _ _ (by decide) (by simp at this; omega)
    · have := g1 rfl
      simp [ofs, oflo, ofhi] at hb
      obtain ⟨rfl, rfl, rfl, rfl⟩ := hb
      exact has_in _ _ _ (by decide) (by simp at this; omega)
  · cases sg
    · have := g2 rfl (by omega)
      simp [ofs, oflo, ofhi] at hb
      obtain ⟨rfl, rfl, rfl, rfl⟩ := hb
      exact has_in _ _ _ (by decide) (by simp at this; omega)
    · have := g1 rfl
      simp [ofs, oflo, ofhi] at hb
      obtain ⟨rfl, rfl, rfl, rfl⟩ := hb
      exact has_in _ _ _ (by decide) (by simp at this; omega)
  · rw [if_neg (by omega), if_neg (by omega), if_neg (by omega)] at hb
    simp at hb
    obtain ⟨rfl, rfl, rfl, rfl⟩ := hb
    exact has_full x g3

set_option maxRecDepth 100000 in
set_option maxHeartbeats 3200000 in
theorem walk (v : Value) (xs : List Int) (hl : xs.length ≤ 9223372036854775807) (sg : Bool) (w : World) (h : Held w v xs) :
    Calls Tryz.prog 6 #[v, .bool sg] w fun e w' => e = .returned (.bool true) ∧ Below w.heap.size w w' := by
  obtain ⟨a, c, rfl⟩ := held_len h
  obtain ⟨A, B, P, Q, hbv, hsnd⟩ := bv_of (xs.length : Int) sg
  have HBY := Lib.hid (fun w => sbytes_of (xs.length : Int) sg w)
  rw [hbv] at HBY
  have hso : ∀ w, Calls Tryz.prog 18 #[.agg #[.int .i64 A, .int .i64 B, .bool P, .bool Q]] w (Ret w (.bool true)) := fun w => by
    have := lsound_of A B P Q w
    rw [show decide (Snd A B P Q) = true by simpa using hsnd] at this
    exact this
  have HSO := Lib.hid hso
  have HAW := Lib.hid awake_of
  have HFU := Lib.hid full_of
  have HGE := Lib.hid (fun w k => refget_of (.slice a xs.length c) sg xs w k)
  have HHA := Lib.hid (fun v w => has_of A B P Q v w)
  have HH := Lib.hid (And.intro h (And.intro hbv hl))
  obtain ⟨n, hn⟩ : ∃ n : Int, n = (xs.length : Int) := ⟨_, rfl⟩
  have HN := Lib.hid hn
  obtain ⟨d0, e0⟩ : ∃ d, (((xs.length : Nat) : Int) == 0) = d := ⟨_, rfl⟩
  obtain ⟨d8, e8⟩ : ∃ d, decide (8 < ((xs.length : Nat) : Int)) = d := ⟨_, rfl⟩
  clear hso hsnd hbv h hn hl
  go_enter Tryz.func6, Tryz.ntmps6
  go_upto_region 2 with (go_at_call 17; refine (HBY.out _).mono ?_; rintro e w1 ⟨rfl, hB⟩)
  have hm := Row.made w1 [.int .i64 A, .int .i64 B, .bool P, .bool Q] 23
  have hb2 := hB.trans ((below_map w1 (.cells #[.int .i64 A, .int .i64 B, .bool P, .bool Q] 23)).mono hB.size)
  obtain ⟨bs, hbs⟩ : ∃ b, b = w1.heap.size := ⟨_, rfl⟩
  rw [← hbs] at hm
  simp only [← hbs]
  clear hbs hB
  generalize World.alloc _ _ = w2 at hm hb2 ⊢
  have HM := Lib.hid (And.intro hm hb2)
  obtain ⟨⟨c0, c1, c2, c3⟩, _⟩ := spc_row hm
  clear hm hb2
  go_upto_region 4 with (first
    | (go_at_call 18; refine (HSO.out _).mono ?_; rintro e w3 ⟨rfl, hB3⟩)
    | (go_at_call 12; refine (HAW.out _).mono ?_; rintro e w4 ⟨rfl, hB4⟩))
  have hB5 := hB3.trans (hB4.mono hB3.size)
  have HS := Lib.hid (And.intro (HM.out.1.below hB5 HM.out.1.lt) (HM.out.2.trans (hB5.mono HM.out.2.size)))
  clear c0 c1 c2 c3 hB3 hB4 hB5 HM HSO HAW HBY
  obtain ⟨wa, hwa⟩ : ∃ z : World, z = w4 := ⟨_, rfl⟩
  subst hwa
  have hlit : d0 = true ∨ d8 = true → A = 0 ∧ B = 0 ∧ P = true ∧ Q = true := by
    intro hd
    have hb := HH.out.2.1
    unfold BV bytev at hb
    have hn3 : ((xs.length : Nat) : Int) ≠ 1 ∧ ((xs.length : Nat) : Int) ≠ 2 ∧ ((xs.length : Nat) : Int) ≠ 4 := by
      rcases hd with hd | hd
      · rw [hd] at e0
        have h0 := eq_of_beq e0
        omega
      · rw [hd] at e8; simp at e8; omega
    rw [if_neg hn3.1, if_neg hn3.2.1, if_neg hn3.2.2] at hb
    simp at hb
    refine ⟨hb.1.symm, hb.2.1.symm, ?_, ?_⟩ <;> first | exact hb.2.2.1 | exact hb.2.2.1.symm | exact hb.2.2.2 | exact hb.2.2.2.symm
  cases d0
  · cases d8
    · have h01 : 1 ≤ xs.length := by
        rcases Nat.eq_zero_or_pos xs.length with h0 | h0
        · rw [h0] at e0; exact absurd e0 (by decide)
        · exact h0
      have hgh : hasv A B P Q (getv sg xs) = true := get_has HH.out.1.bytes h01 (by simp at e8; omega) sg HH.out.2.1
      clear h01
      clear hlit
      go_upto_region 6 with fail
      have hB : Below wa.heap.size wa wa.drew := (Below.refl _ _).drew
      refine wp_region_held_drew (S := (fun w' => w'.cell? ⟨bs, 0, none⟩ = some (.int .i64 A) ∧ w'.cell? ⟨bs, 1, none⟩ = some (.int .i64 B) ∧ w'.cell? ⟨bs, 2, none⟩ = some (.bool P) ∧ w'.cell? ⟨bs, 3, none⟩ = some (.bool Q))) (by kernel_rfl) ?_ (fun hHeld => ?_)
      · (try dsimp only); exact ⟨((HS.out.1.below hB HS.out.1.lt).cell 0).trans rfl, ((HS.out.1.below hB HS.out.1.lt).cell 1).trans rfl, ((HS.out.1.below hB HS.out.1.lt).cell 2).trans rfl, ((HS.out.1.below hB HS.out.1.lt).cell 3).trans rfl⟩
      refine tkw 0 28 ?_
      refine tkw 1 29 ?_
      refine tkw 2 30 ?_
      refine wpAnyH_ready (rs := [3]) (by kernel_rfl) (by simp) ?_
      refine AllReadyH.cons (o := ⟨some 31, _, _, _, _, _⟩) rfl (fun K hK => ?_) AllReadyH.nil
      go_simp
      go_at_call 21
      refine (HGE.out _ (HH.out.1.below (HS.out.2.trans (hB.mono HS.out.2.size)) (Nat.le_refl _))).mono ?_
      rintro e w5 ⟨rfl, kb⟩
      replace hB := hB.trans (kb.mono hB.size)
      clear kb
      refine hK.out _ _ ?_ (fun hHeld => ?_)
      · (try dsimp only); exact ⟨((HS.out.1.below hB HS.out.1.lt).cell 0).trans rfl, ((HS.out.1.below hB HS.out.1.lt).cell 1).trans rfl, ((HS.out.1.below hB HS.out.1.lt).cell 2).trans rfl, ((HS.out.1.below hB HS.out.1.lt).cell 3).trans rfl⟩
      clear hK K
      try simp only [Act.put, List.setIfInBounds_toArray, List.set_cons_zero, List.set_cons_succ]
      refine wpAnyH_ready (rs := [4]) (by kernel_rfl) (by simp) ?_
      refine AllReadyH.cons (o := ⟨some 32, _, _, _, _, _⟩) rfl (fun K hK => ?_) AllReadyH.nil
      go_simp
      go_at_call 20
      refine (HHA.out _ _).mono ?_
      rintro e w6 ⟨rfl, kb⟩
      rw [hgh]
      replace hB := hB.trans (kb.mono hB.size)
      clear kb
      refine hK.out _ _ ?_ (fun hHeld => ?_)
      · (try dsimp only); exact ⟨((HS.out.1.below hB HS.out.1.lt).cell 0).trans rfl, ((HS.out.1.below hB HS.out.1.lt).cell 1).trans rfl, ((HS.out.1.below hB HS.out.1.lt).cell 2).trans rfl, ((HS.out.1.below hB HS.out.1.lt).cell 3).trans rfl⟩
      clear hK K
      try simp only [Act.put, List.setIfInBounds_toArray, List.set_cons_zero, List.set_cons_succ]
      refine tkw 5 4 ?_
      refine wpAnyH_done (by kernel_rfl) ?_ _
      have HF := Lib.hid (HS.out.2.trans (hB.mono HS.out.2.size))
      clear hB hHeld
      go_wp2
      go_ret
      exact ⟨rfl, HF.out⟩
    · obtain ⟨rfl, rfl, rfl, rfl⟩ := hlit (.inr rfl)
      clear hlit
      go_upto_region 5 with fail
      have hB : Below wa.heap.size wa wa.drew := (Below.refl _ _).drew
      refine wp_region_held_drew (S := (fun w' => w'.cell? ⟨bs, 0, none⟩ = some (.int .i64 0) ∧ w'.cell? ⟨bs, 1, none⟩ = some (.int .i64 0) ∧ w'.cell? ⟨bs, 2, none⟩ = some (.bool true) ∧ w'.cell? ⟨bs, 3, none⟩ = some (.bool true))) (by kernel_rfl) ?_ (fun hHeld => ?_)
      · (try dsimp only); exact ⟨((HS.out.1.below hB HS.out.1.lt).cell 0).trans rfl, ((HS.out.1.below hB HS.out.1.lt).cell 1).trans rfl, ((HS.out.1.below hB HS.out.1.lt).cell 2).trans rfl, ((HS.out.1.below hB HS.out.1.lt).cell 3).trans rfl⟩
      refine tkw 0 25 ?_
      refine wpAnyH_ready (rs := [1]) (by kernel_rfl) (by simp) ?_
      refine AllReadyH.cons (o := ⟨some 26, _, _, _, _, _⟩) rfl (fun K hK => ?_) AllReadyH.nil
      go_simp
      go_at_call 19
      refine (HFU.out _).mono ?_
      rintro e w5 ⟨rfl, kb⟩
      replace hB := hB.trans (kb.mono hB.size)
      clear kb
      refine hK.out _ _ ?_ (fun hHeld => ?_)
      · (try dsimp only); exact ⟨((HS.out.1.below hB HS.out.1.lt).cell 0).trans rfl, ((HS.out.1.below hB HS.out.1.lt).cell 1).trans rfl, ((HS.out.1.below hB HS.out.1.lt).cell 2).trans rfl, ((HS.out.1.below hB HS.out.1.lt).cell 3).trans rfl⟩
      clear hK K
      try simp only [Act.put, List.setIfInBounds_toArray, List.set_cons_zero, List.set_cons_succ]
      refine tkw 2 27 ?_
      refine tkw 3 4 ?_
      refine wpAnyH_done (by kernel_rfl) ?_ _
      have HF := Lib.hid (HS.out.2.trans (hB.mono HS.out.2.size))
      clear hB hHeld
      go_wp2
      go_ret
      exact ⟨rfl, HF.out⟩
  · obtain ⟨rfl, rfl, rfl, rfl⟩ := hlit (.inl rfl)
    clear hlit
    go_upto_region 5 with fail
    have hB : Below wa.heap.size wa wa.drew := (Below.refl _ _).drew
    refine wp_region_held_drew (S := (fun w' => w'.cell? ⟨bs, 0, none⟩ = some (.int .i64 0) ∧ w'.cell? ⟨bs, 1, none⟩ = some (.int .i64 0) ∧ w'.cell? ⟨bs, 2, none⟩ = some (.bool true) ∧ w'.cell? ⟨bs, 3, none⟩ = some (.bool true))) (by kernel_rfl) ?_ (fun hHeld => ?_)
    · (try dsimp only); exact ⟨((HS.out.1.below hB HS.out.1.lt).cell 0).trans rfl, ((HS.out.1.below hB HS.out.1.lt).cell 1).trans rfl, ((HS.out.1.below hB HS.out.1.lt).cell 2).trans rfl, ((HS.out.1.below hB HS.out.1.lt).cell 3).trans rfl⟩
    refine tkw 0 25 ?_
    refine wpAnyH_ready (rs := [1]) (by kernel_rfl) (by simp) ?_
    refine AllReadyH.cons (o := ⟨some 26, _, _, _, _, _⟩) rfl (fun K hK => ?_) AllReadyH.nil
    go_simp
    go_at_call 19
    refine (HFU.out _).mono ?_
    rintro e w5 ⟨rfl, kb⟩
    replace hB := hB.trans (kb.mono hB.size)
    clear kb
    refine hK.out _ _ ?_ (fun hHeld => ?_)
    · (try dsimp only); exact ⟨((HS.out.1.below hB HS.out.1.lt).cell 0).trans rfl, ((HS.out.1.below hB HS.out.1.lt).cell 1).trans rfl, ((HS.out.1.below hB HS.out.1.lt).cell 2).trans rfl, ((HS.out.1.below hB HS.out.1.lt).cell 3).trans rfl⟩
    clear hK K
    try simp only [Act.put, List.setIfInBounds_toArray, List.set_cons_zero, List.set_cons_succ]
    refine tkw 2 27 ?_
    refine tkw 3 4 ?_
    refine wpAnyH_done (by kernel_rfl) ?_ _
    have HF := Lib.hid (HS.out.2.trans (hB.mono HS.out.2.size))
    clear hB hHeld
    go_wp2
    go_ret
    exact ⟨rfl, HF.out⟩

theorem fact_wf : (Rows.spanLoadsRow.wf (OpenSpec.ofChange Rows.spanLoadsSpec)) = true := by kernel_rfl
theorem fact_rd : (Tryz.f6.params.all ((Tryz.prog).readableRec ·)) = true := by kernel_rfl
theorem fact_nt : (namedTie (Tryz.prog) Rows.spanLoadsRow.named Rows.spanLoadsSpec.vars) = true := by kernel_rfl
theorem fact_s1 : ((Rows.spanLoadsRow.stops == [])) = true := by kernel_rfl
theorem fact_k1 : ((Rows.spanLoadsRow.knobs == [])) = true := by kernel_rfl
theorem fact_ip : ((Rows.spanLoadsRow.inPlace == (Tryz.prog).inPlace 6)) = true := by kernel_rfl
theorem fact_uf : ((Rows.spanLoadsRow.unfollowed == (Tryz.prog).unfollowed 6)) = true := by kernel_rfl
theorem fact_rc : ((Rows.spanLoadsRow.recurses == (Tryz.prog).recurses 6)) = true := by kernel_rfl
theorem fact_nm : ((Rows.spanLoadsRow.named == (Tryz.prog).varsNamed 6)) = true := by kernel_rfl
theorem fact_mp : ((Rows.spanLoadsRow.maps == (Tryz.f6.params.toList ++ Rows.spanLoadsSpec.plain.varTypes (Tryz.prog)).any ((Tryz.prog).mapsRec ·))) = true := by kernel_rfl
theorem fact_if : ((Rows.spanLoadsRow.ifaces == (Tryz.f6.params.toList ++ Rows.spanLoadsSpec.plain.varTypes (Tryz.prog)).any ((Tryz.prog).ifacesRec ·))) = true := by kernel_rfl
theorem fact_mo : ((Rows.spanLoadsRow.mapsOut == (Tryz.prog).mapsAmong Tryz.f6.resultTypes.toList)) = true := by kernel_rfl
theorem fact_lp : ((Rows.spanLoadsRow.loops == (Tryz.f6.params.toList ++ Rows.spanLoadsSpec.plain.varTypes (Tryz.prog)).any ((Tryz.prog).loopsFrom ·))) = true := by kernel_rfl
theorem fact_wk : ((Rows.spanLoadsRow.wideKeys == (Tryz.f6.params.toList ++ Rows.spanLoadsSpec.plain.varTypes (Tryz.prog) ++ Tryz.f6.resultTypes.toList).any ((Tryz.prog).wideKeysFrom ·))) = true := by kernel_rfl
theorem fact_vr : (Rows.spanLoadsSpec.vars.all ((Tryz.prog).varReadable ·)) = true := by kernel_rfl
theorem fact_rr : (Tryz.f6.resultTypes.all (fun t => (Tryz.prog).readableRec t && decide (t < (Tryz.prog).types.size))) = true := by kernel_rfl
theorem fact_io : ((Rows.spanLoadsRow.ifacesOut == Tryz.f6.resultTypes.toList.any ((Tryz.prog).ifacesRec ·))) = true := by kernel_rfl
theorem fact_ol : ((Rows.spanLoadsRow.loopsOut == Tryz.f6.resultTypes.toList.any ((Tryz.prog).loopsFrom ·))) = true := by kernel_rfl
theorem fact_pk : ((Rows.spanLoadsRow.plainKeys == (Tryz.prog).plainKeys)) = true := by kernel_rfl
theorem fact_st : (Rows.spanLoadsRow.shortTexts.isNone) = true := by kernel_rfl
theorem fact_lf : ((Rows.spanLoadsRow.lifted == (Tryz.prog).liftsFinal)) = true := by kernel_rfl
theorem fact_mk : (((Tryz.prog).make == some Rows.spanLoadsRow.make)) = true := by kernel_rfl
theorem fact_kd : ((Rows.spanLoadsRow.kinds == (if Rows.spanLoadsRow.domain.isEmpty then [] else Tryz.f6.params.toList.map fun t => match (Tryz.prog).underlying t with | some (.int k) => some k | _ => none))) = true := by kernel_rfl
theorem fact_pn : ((Rows.spanLoadsRow.pinned == Rows.spanLoadsRow.pinnedBy)) = true := by kernel_rfl
theorem fact_vl : ((Rows.spanLoadsRow.veiled == (Tryz.f6.params.toList ++ Rows.spanLoadsSpec.plain.varTypes (Tryz.prog) ++ Tryz.f6.resultTypes.toList).any ((Tryz.prog).veiledRec ·))) = true := by kernel_rfl
theorem fact_vf : (Rows.spanLoadsRow.veiledFits (Tryz.prog) Tryz.f6.params.toList (Tryz.f6.params.toList ++ Rows.spanLoadsSpec.plain.varTypes (Tryz.prog) ++ Tryz.f6.resultTypes.toList)) = true := by kernel_rfl
set_option maxRecDepth 100000 in
theorem closed : joinedFacts Tryz.prog 6 Tryz.f6 Rows.spanLoadsSpec Rows.spanLoadsRow = true :=
  closed_of fact_wf fact_lo fact_mr fact_rd fact_nt fact_s1 fact_s2 fact_k1 fact_k2 fact_ip fact_uf fact_rc fact_nm fact_mp fact_if fact_mo fact_lp fact_wk fact_vr fact_rr fact_io fact_ol fact_pk fact_st fact_sh fact_me fact_lf fact_mk fact_kd fact_pn fact_vl fact_vf

theorem own : ownKnob Tryz.prog.godebug = none := by kernel_rfl
abbrev laidL : List (String × DataW Unit) := Rows.spanLoadsRow.laid
theorem door_met (os : Os) (args : Array Value) : laidMetH Tryz.prog laidL ((World.doorLaid Tryz.prog 39 os).forCall (fun _ _ => 0) ⟨#[], args, []⟩).memory :=
  laidMetH_of_parts3 (fuel := 8) (laidMet_of_run' 8 (by kernel_rfl) (by kernel_rfl)) (by kernel_rfl) (by kernel_rfl)
set_option maxRecDepth 100000 in
theorem lifted (os : Os) (started : os.Started) (H : Type) (enc : TypeId × Value → H) :
    ReturnsInHanded {} Tryz.checked os 6 .any (fun w args => (Rows.spanLoadsSpec.pre enc Tryz.prog Tryz.f6 [] false w args ∧ laidMetH Tryz.prog laidL w) ∧ sizedMet enc Tryz.prog Tryz.f6 (OpenSpec.ofChange Rows.spanLoadsSpec) false w args)
      (Rows.spanLoadsSpec.post enc Tryz.prog Tryz.f6 false true false false) := by
  refine returnsInHanded_of_change_and (C := Tryz.checked) (X := fun w _ => laidMetH Tryz.prog laidL w) (fun _ _ _ hh h => h.of_heap hh) own started (by kernel_rfl) Tryz.func6
    (ChangeSpec.witness_shaped (enc := enc) (C := Tryz.checked) (os := os) (X := fun w _ => laidMetH Tryz.prog laidL w) false (World.doorLaid Tryz.prog 39 os) #[.slice none 0 0, .bool false] 8 rfl (World.shaped_of_RefB (by kernel_rfl) (by kernel_rfl)) (by kernel_rfl) (by kernel_rfl) (by kernel_rfl) (door_met os _)) ?_
  intro W base args ds gs before hval0 hW _ hsz0 hL0 _
  clear hL0
  have hsz : (DataW.weightsEach Tryz.prog (Tryz.f6.params.toList ++ Rows.spanLoadsSpec.plain.varTypes Tryz.prog) (ds ++ gs)).all (· ≤ reachBytes) = true := hsz0
  have hval : ∀ (j : Nat) t v, Tryz.f6.params[j]? = some t → args[j]? = some v → Value.okWide Tryz.prog W .any base t v := hval0
  have hW' := hW
  obtain ⟨p, q, hA0, hV, rfl, hfz, hnd⟩ := hW
  have hA : DataW.TrodAll enc Tryz.prog W 0 (fun _ => true) true Tryz.f6.params.toList args.toList ds p := hA0
  rw [Tryz.params6] at hA hval hsz
  obtain ⟨v0, vs0, d0, ds0, p0, q0, hargs, rfl, rfl, h0, r0⟩ := trodAll_cons hA
  obtain ⟨v1, vs1, d1, ds1, p1, q1, rfl, rfl, rfl, h1, r1⟩ := trodAll_cons r0
  obtain ⟨rfl, rfl, rfl⟩ := trodAll_nil r1
  obtain rfl : args = #[v0, v1] := by cases args; simp_all
  obtain ⟨xs0, hX0, hd0⟩ := bytes_arg (hval 0 34 v0 rfl rfl) h0
  have hl0 : xs0.length ≤ 140737488351232 := by
    rcases hd0 with rfl | ⟨spare, rfl⟩
    · simp
    · have := sized_slice hsz (j := 0) (t := 34) (e := 5) rfl rfl Tryz.underlying34
      rw [show Tryz.prog.bytesOf 5 = 1 by kernel_rfl] at this
      simp only [lits, List.length_map, reachBytes] at this
      omega
  obtain ⟨a1, rfl, rfl, rfl⟩ := open_bool Tryz.underlying4 (hval 1 4 v1 rfl rfl) h1
  refine (walk v0 xs0 (Nat.le_trans hl0 (by decide)) a1 W hX0).mono fun e W' ⟨he, hb⟩ => ?_
  subst he
  exact ⟨_, rfl, law_post (tb := 4) (by kernel_rfl) (by kernel_rfl) rfl Tryz.underlying4 rfl (fun h => by subst h; rfl) hW' hb⟩

theorem proved : Rows.SpanLoadsSaid :=
  OpenClaim.holds_of_wide 6 Tryz.f6 rfl rfl rfl rfl rfl rfl rfl ⟨rfl, rfl, rfl, rfl, rfl⟩ rfl rfl rfl rfl rfl (by kernel_rfl) Tryz.func6 closed
    (of_decide_eq_true (by kernel_rfl)) (by unfold Func.isWrapper; first | (rw [if_pos (by decide +kernel)]; kernel_rfl) | (rw [if_neg (by decide +kernel)]; exact ⟨rfl, rfl⟩))
    (fun os started H enc _ => lifted os started H enc)

theorem card : Rows.SpanLoadsCardSaid :=
  Claim7.holds_tied_plain_at .later [] [.data, .data, .data, .data, .data, .data, .data] true Rows.spanLoadsCard.stood.harness true
    proved (fun _ h => by cases h) (by as_aux_lemma => kernel_rfl) (fun _ h => by cases h) spanLoads_row_tie rfl ⟨rfl, rfl⟩ (by as_aux_lemma => kernel_rfl) rfl
    (fun f fn hf hfn => by
      obtain rfl : f = 6 := Option.some.inj ((show Tryz.prog.funcNamed "warrant/warrantlaw06.SpanLoads" = some 6 by as_aux_lemma => kernel_rfl).symm.trans hf) |>.symm
      obtain rfl : fn = Tryz.f6 := (Option.some.inj (Tryz.func6.symm.trans hfn)).symm
      exact ⟨by as_aux_lemma => kernel_rfl, fun j t ht => by
        rw [Tryz.params6] at ht
        have hm : t ∈ [34, 4] := by simpa using Array.mem_of_getElem? ht
        have hall : ([34, 4].all fun u => !Tryz.prog.wantsStandIn u) = true := by kernel_rfl
        exact (show Tryz.prog.wantsStandIn t = false by simpa using List.all_eq_true.1 hall t hm)⟩)
    (by as_aux_lemma => kernel_rfl)
#print axioms card

end Go.Proofs.YtcmplcdbkoodpaaGreatDoor.spanLoads
