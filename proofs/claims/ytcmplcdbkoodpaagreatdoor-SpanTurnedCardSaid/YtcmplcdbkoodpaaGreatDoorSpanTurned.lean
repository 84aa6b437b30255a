/-
  SpanTurned: of any number of a span Swap, Extend and Low hold what the arithmetic makes of it; no condition.
-/
import Derived.Test.YtcmplcdbkoodpaaGreatDoorSpanT
import Derived.Test.YtcmplcdbkoodpaaGreatDoorBigG
import Derived.Test.YtcmplcdbkoodpaaGreatDoorFacts
import Derived.Test.YtcmplcdbkoodpaaGreatDoorTie
import Derived.Test.YtcmplcdbkoodpaaGreatDoorCards
import Derived.SevenTiedAt
import Derived.ProofKit
import Derived.LaidMore
import Derived.OpenShut
import Derived.Lib.SmallJoins
import Derived.Deep.Cut
import Derived.Deep.RegionHeld3
namespace Go.Proofs.YtcmplcdbkoodpaaGreatDoor.spanTurned
open Go.Joins Go.ChangeShapes Go.WideShapes Go.ChangeAt Go.RowKit
set_option linter.unusedVariables false
set_option linter.unusedSimpArgs false

/-- What the walk keeps: the argument's box. -/
structure K1 (w : World) (lo hi : Int) (p q : Bool) (c : World) : Prop where
  src : Row c w.heap.size 23 (spc lo hi p q)
  bel : Below w.heap.size w c
theorem K1.below {w : World} {lo hi : Int} {p q : Bool} {c c' : World} (h : K1 w lo hi p q c) (hB : Below c.heap.size c c') : K1 w lo hi p q c' := ⟨h.src.below hB h.src.lt, h.bel.trans (hB.mono h.bel.size)⟩
theorem has_true {A B : Int} {P Q : Bool} {x : Int} (h : hasv A B P Q x = true) (w : World) : Calls Tryz.prog 20 #[.agg #[.int .i64 A, .int .i64 B, .bool P, .bool Q], .int .i64 x] w (Ret w (.bool true)) := by
  have := has_of A B P Q x w
  rw [h] at this
  exact this
theorem sound_true {A B : Int} {P Q : Bool} (h : Snd A B P Q) (w : World) : Calls Tryz.prog 18 #[.agg #[.int .i64 A, .int .i64 B, .bool P, .bool Q]] w (Ret w (.bool true)) := by
  have := lsound_of A B P Q w
  rw [show decide (Snd A B P Q) = true by simpa using h] at this
  exact this
set_option maxRecDepth 100000 in
set_option maxHeartbeats 3200000 in
theorem walk (size : Int) (rs : -9223372036854775808 ≤ size ∧ size ≤ 9223372036854775807) (t : Bool) (lo hi : Int) (p q : Bool) (x : Int) (rx : -9223372036854775808 ≤ x ∧ x ≤ 9223372036854775807) (w : World) :
    Calls Tryz.prog 8 #[.int .i64 size, .bool t, .agg #[.int .i64 lo, .int .i64 hi, .bool p, .bool q], .int .i64 x] w fun e w' => e = .returned (.bool true) ∧ Below w.heap.size w w' := by
  have HIN := Lib.hid (fun w => inside_of lo hi p q x w)
  have hi2 := insv_in lo hi p q x rx
  have hr2 := insv_rng lo hi p q x rx
  obtain ⟨v, hv⟩ : ∃ v, v = insv lo hi p q x := ⟨_, rfl⟩
  rw [← hv] at HIN hi2 hr2
  obtain ⟨A, B, P, Q, s1, _, ss, hs⟩ := swap_spans size t lo hi p q
  obtain ⟨A', B', P', Q', e1, _, es, he⟩ := ext_spans size t lo hi p q
  obtain ⟨sv, hsB, hsh⟩ := hs v hr2 hi2.1 hi2.2
  obtain ⟨ev, heB, heh⟩ := he v hr2 hi2.1 hi2.2
  have hlow := fun w => slow_of lo hi p q w
  unfold lowv at hlow
  have hg := low_rng _ _ (ends_le lo hi p q)
  obtain ⟨A2, B2, P2, Q2, ho⟩ := ofs_form (llo (elo lo hi p q) (ehi lo hi p q)) (lhi (elo lo hi p q) (ehi lo hi p q))
  rw [ho] at hlow
  have ls := ofs_snd hg.2.1 ho
  have hlh := ofs_has ho (v % 4294967296) (by omega) (low_has _ _ v hi2)
  have hand := half_and v
  have HS1 := Lib.hid s1
  have HE1 := Lib.hid e1
  have HLO := Lib.hid hlow
  have HSW := Lib.hid hsB.2
  have HEX := Lib.hid heB.2
  have HH1 := Lib.hid (fun w => has_true hsh w)
  have HH2 := Lib.hid (fun w => has_true heh w)
  have HH3 := Lib.hid (fun w => has_true hlh w)
  have HO1 := Lib.hid (fun w => sound_true ss w)
  have HO2 := Lib.hid (fun w => sound_true es w)
  have HO3 := Lib.hid (fun w => sound_true ls w)
  have HAW := Lib.hid awake_of
  have hk : K1 w lo hi p q (w.alloc (.cells #[.int .i64 lo, .int .i64 hi, .bool p, .bool q] 23)) := ⟨Row.made w (spc lo hi p q) _, below_map w _⟩
  have HK := Lib.hid hk
  clear hk s1 e1 hlow hsB heB hsh heh hlh ss es ls hg ho hi2 hr2 hs he hv rx rs
  go_enter Tryz.func8, Tryz.ntmps8
  go_upto_region 2 with (go_at_call 15; refine (HIN.out _).mono ?_; rintro e w1 ⟨rfl, hB⟩)
  have HK1 := Lib.hid (HK.out.below hB)
  clear hB HK
  obtain ⟨⟨c0, c1, c2, c3⟩, _⟩ := spc_row HK1.out.src
  go_upto_region 3 with (go_at_call 22; refine (HS1.out _).mono ?_; rintro e w2 ⟨rfl, hB⟩)
  have hn1 : Row (w2.alloc (.cells #[.int .i64 A, .int .i64 B, .bool P, .bool Q] 23)) w2.heap.size 23 (spc A B P Q) := Row.made w2 (spc A B P Q) _
  have hk2 := (HK1.out.below hB).below (below_map w2 (.cells #[.int .i64 A, .int .i64 B, .bool P, .bool Q] 23))
  obtain ⟨b1, hb1⟩ : ∃ b, b = w2.heap.size := ⟨_, rfl⟩
  rw [← hb1] at hn1
  simp only [← hb1]
  clear hb1 hB c0 c1 c2 c3
  generalize World.alloc _ _ = wb at hn1 hk2 ⊢
  have HK2 := Lib.hid (And.intro hk2 hn1)
  clear hn1 hk2
  obtain ⟨⟨c0, c1, c2, c3⟩, _⟩ := spc_row HK2.out.1.src
  go_upto_region 4 with (go_at_call 24; refine (HE1.out _).mono ?_; rintro e w3 ⟨rfl, hB⟩)
  have hn2 : Row (w3.alloc (.cells #[.int .i64 A', .int .i64 B', .bool P', .bool Q'] 23)) w3.heap.size 23 (spc A' B' P' Q') := Row.made w3 (spc A' B' P' Q') _
  have hk3 := (HK2.out.1.below hB).below (below_map w3 (.cells #[.int .i64 A', .int .i64 B', .bool P', .bool Q'] 23))
  have hn1 := (HK2.out.2.below hB HK2.out.2.lt).alloc (.cells #[.int .i64 A', .int .i64 B', .bool P', .bool Q'] 23)
  obtain ⟨b2, hb2⟩ : ∃ b, b = w3.heap.size := ⟨_, rfl⟩
  rw [← hb2] at hn2
  simp only [← hb2]
  clear hb2 hB c0 c1 c2 c3
  generalize World.alloc _ _ = wc at hn1 hn2 hk3 ⊢
  have HK3 := Lib.hid (And.intro hk3 (And.intro hn1 hn2))
  clear hn1 hn2 hk3
  obtain ⟨⟨c0, c1, c2, c3⟩, _⟩ := spc_row HK3.out.1.src
  go_upto_region 5 with (go_at_call 26; refine (HLO.out _).mono ?_; rintro e w4 ⟨rfl, hB⟩)
  have hn3 : Row (w4.alloc (.cells #[.int .i64 A2, .int .i64 B2, .bool P2, .bool Q2] 23)) w4.heap.size 23 (spc A2 B2 P2 Q2) := Row.made w4 (spc A2 B2 P2 Q2) _
  have hk4 := (HK3.out.1.below hB).below (below_map w4 (.cells #[.int .i64 A2, .int .i64 B2, .bool P2, .bool Q2] 23))
  have hn1 := (HK3.out.2.1.below hB HK3.out.2.1.lt).alloc (.cells #[.int .i64 A2, .int .i64 B2, .bool P2, .bool Q2] 23)
  have hn2 := (HK3.out.2.2.below hB HK3.out.2.2.lt).alloc (.cells #[.int .i64 A2, .int .i64 B2, .bool P2, .bool Q2] 23)
  obtain ⟨b3, hb3⟩ : ∃ b, b = w4.heap.size := ⟨_, rfl⟩
  rw [← hb3] at hn3
  simp only [← hb3]
  clear hb3 hB c0 c1 c2 c3
  generalize World.alloc _ _ = wd at hn1 hn2 hn3 hk4 ⊢
  obtain ⟨⟨c0, c1, c2, c3⟩, _⟩ := spc_row hn1
  obtain ⟨⟨d0, d1, d2, d3⟩, _⟩ := spc_row hn2
  obtain ⟨⟨e0, e1, e2, e3⟩, _⟩ := spc_row hn3
  have HK4 := Lib.hid (And.intro hk4 (And.intro hn1 (And.intro hn2 hn3)))
  clear hn1 hn2 hn3 hk4 HK3 HK2 HK1
  go_upto_region 7 with (first
    | (go_at_call 18; first
        | (refine (HO1.out _).mono ?_; rintro e w5 ⟨rfl, hB⟩; have HK5 := Lib.hid (And.intro (HK4.out.1.below hB) (And.intro (HK4.out.2.1.below hB HK4.out.2.1.lt) (And.intro (HK4.out.2.2.1.below hB HK4.out.2.2.1.lt) (HK4.out.2.2.2.below hB HK4.out.2.2.2.lt)))); clear hB; obtain ⟨⟨d0, d1, d2, d3⟩, _⟩ := spc_row HK5.out.2.2.1)
        | (refine (HO2.out _).mono ?_; rintro e w6 ⟨rfl, hB⟩; have HK6 := Lib.hid (And.intro (HK5.out.1.below hB) (And.intro (HK5.out.2.1.below hB HK5.out.2.1.lt) (And.intro (HK5.out.2.2.1.below hB HK5.out.2.2.1.lt) (HK5.out.2.2.2.below hB HK5.out.2.2.2.lt)))); clear hB; obtain ⟨⟨e0, e1, e2, e3⟩, _⟩ := spc_row HK6.out.2.2.2)
        | (refine (HO3.out _).mono ?_; rintro e w7 ⟨rfl, hB⟩; have HK7 := Lib.hid (And.intro (HK6.out.1.below hB) (And.intro (HK6.out.2.1.below hB HK6.out.2.1.lt) (And.intro (HK6.out.2.2.1.below hB HK6.out.2.2.1.lt) (HK6.out.2.2.2.below hB HK6.out.2.2.2.lt)))); clear hB))
    | (go_at_call 12; refine (HAW.out _).mono ?_; rintro e w8 ⟨rfl, hB⟩; have HK8 := Lib.hid (And.intro (HK7.out.1.below hB) (And.intro (HK7.out.2.1.below hB HK7.out.2.1.lt) (And.intro (HK7.out.2.2.1.below hB HK7.out.2.2.1.lt) (HK7.out.2.2.2.below hB HK7.out.2.2.2.lt)))); clear hB))
  obtain ⟨wa, hwa⟩ : ∃ z : World, z = w8 := ⟨_, rfl⟩
  subst hwa
  have HK := Lib.hid HK8.out
  clear HK4 HK5 HK6 HK7 HK8
  have hB : Below wa.heap.size wa wa.drew := (Below.refl _ _).drew
  refine wp_region_held_drew (S := fun w' => w'.cell? ⟨b1, 0, none⟩ = some (.int .i64 A) ∧ w'.cell? ⟨b1, 1, none⟩ = some (.int .i64 B) ∧ w'.cell? ⟨b1, 2, none⟩ = some (.bool P) ∧ w'.cell? ⟨b1, 3, none⟩ = some (.bool Q) ∧ w'.cell? ⟨b2, 0, none⟩ = some (.int .i64 A') ∧ w'.cell? ⟨b2, 1, none⟩ = some (.int .i64 B') ∧ w'.cell? ⟨b2, 2, none⟩ = some (.bool P') ∧ w'.cell? ⟨b2, 3, none⟩ = some (.bool Q') ∧ w'.cell? ⟨b3, 0, none⟩ = some (.int .i64 A2) ∧ w'.cell? ⟨b3, 1, none⟩ = some (.int .i64 B2) ∧ w'.cell? ⟨b3, 2, none⟩ = some (.bool P2) ∧ w'.cell? ⟨b3, 3, none⟩ = some (.bool Q2)) (by kernel_rfl) ?_ (fun hHeld => ?_)
  · (try dsimp only); exact ⟨((HK.out.2.1.below hB HK.out.2.1.lt).cell 0).trans rfl, ((HK.out.2.1.below hB HK.out.2.1.lt).cell 1).trans rfl, ((HK.out.2.1.below hB HK.out.2.1.lt).cell 2).trans rfl, ((HK.out.2.1.below hB HK.out.2.1.lt).cell 3).trans rfl, ((HK.out.2.2.1.below hB HK.out.2.2.1.lt).cell 0).trans rfl, ((HK.out.2.2.1.below hB HK.out.2.2.1.lt).cell 1).trans rfl, ((HK.out.2.2.1.below hB HK.out.2.2.1.lt).cell 2).trans rfl, ((HK.out.2.2.1.below hB HK.out.2.2.1.lt).cell 3).trans rfl, ((HK.out.2.2.2.below hB HK.out.2.2.2.lt).cell 0).trans rfl, ((HK.out.2.2.2.below hB HK.out.2.2.2.lt).cell 1).trans rfl, ((HK.out.2.2.2.below hB HK.out.2.2.2.lt).cell 2).trans rfl, ((HK.out.2.2.2.below hB HK.out.2.2.2.lt).cell 3).trans rfl⟩
  refine tkw 0 43 ?_
  refine tkw 1 44 ?_
  refine tkw 2 45 ?_
  refine tkw 3 46 ?_
  refine wpAnyH_ready (rs := [4]) (by kernel_rfl) (by simp) ?_
  refine AllReadyH.cons (o := ⟨some 47, _, _, _, _, _⟩) rfl (fun K hK => ?_) AllReadyH.nil
  go_simp
  go_at_call 27
  refine (HSW.out.ret _).mono ?_
  rintro e w4 ⟨rfl, kb⟩
  replace hB := hB.trans (kb.mono hB.size)
  clear kb
  refine hK.out _ _ ?_ (fun hHeld => ?_)
  · (try dsimp only); exact ⟨((HK.out.2.1.below hB HK.out.2.1.lt).cell 0).trans rfl, ((HK.out.2.1.below hB HK.out.2.1.lt).cell 1).trans rfl, ((HK.out.2.1.below hB HK.out.2.1.lt).cell 2).trans rfl, ((HK.out.2.1.below hB HK.out.2.1.lt).cell 3).trans rfl, ((HK.out.2.2.1.below hB HK.out.2.2.1.lt).cell 0).trans rfl, ((HK.out.2.2.1.below hB HK.out.2.2.1.lt).cell 1).trans rfl, ((HK.out.2.2.1.below hB HK.out.2.2.1.lt).cell 2).trans rfl, ((HK.out.2.2.1.below hB HK.out.2.2.1.lt).cell 3).trans rfl, ((HK.out.2.2.2.below hB HK.out.2.2.2.lt).cell 0).trans rfl, ((HK.out.2.2.2.below hB HK.out.2.2.2.lt).cell 1).trans rfl, ((HK.out.2.2.2.below hB HK.out.2.2.2.lt).cell 2).trans rfl, ((HK.out.2.2.2.below hB HK.out.2.2.2.lt).cell 3).trans rfl⟩
  clear hK K
  try simp only [Act.put, List.setIfInBounds_toArray, List.set_cons_zero, List.set_cons_succ]
  refine wpAnyH_ready (rs := [5]) (by kernel_rfl) (by simp) ?_
  refine AllReadyH.cons (o := ⟨some 48, _, _, _, _, _⟩) rfl (fun K hK => ?_) AllReadyH.nil
  go_simp
  go_at_call 20
  refine (HH1.out _).mono ?_
  rintro e w5 ⟨rfl, kb⟩
  replace hB := hB.trans (kb.mono hB.size)
  clear kb
  refine hK.out _ _ ?_ (fun hHeld => ?_)
  · (try dsimp only); exact ⟨((HK.out.2.1.below hB HK.out.2.1.lt).cell 0).trans rfl, ((HK.out.2.1.below hB HK.out.2.1.lt).cell 1).trans rfl, ((HK.out.2.1.below hB HK.out.2.1.lt).cell 2).trans rfl, ((HK.out.2.1.below hB HK.out.2.1.lt).cell 3).trans rfl, ((HK.out.2.2.1.below hB HK.out.2.2.1.lt).cell 0).trans rfl, ((HK.out.2.2.1.below hB HK.out.2.2.1.lt).cell 1).trans rfl, ((HK.out.2.2.1.below hB HK.out.2.2.1.lt).cell 2).trans rfl, ((HK.out.2.2.1.below hB HK.out.2.2.1.lt).cell 3).trans rfl, ((HK.out.2.2.2.below hB HK.out.2.2.2.lt).cell 0).trans rfl, ((HK.out.2.2.2.below hB HK.out.2.2.2.lt).cell 1).trans rfl, ((HK.out.2.2.2.below hB HK.out.2.2.2.lt).cell 2).trans rfl, ((HK.out.2.2.2.below hB HK.out.2.2.2.lt).cell 3).trans rfl⟩
  clear hK K
  try simp only [Act.put, List.setIfInBounds_toArray, List.set_cons_zero, List.set_cons_succ]
  refine tkw 6 49 ?_
  refine tkw 7 50 ?_
  refine tkw 8 51 ?_
  refine tkw 9 52 ?_
  refine tkw 10 53 ?_
  refine wpAnyH_ready (rs := [11]) (by kernel_rfl) (by simp) ?_
  refine AllReadyH.cons (o := ⟨some 54, _, _, _, _, _⟩) rfl (fun K hK => ?_) AllReadyH.nil
  go_simp
  go_at_call 28
  refine (HEX.out.ret _).mono ?_
  rintro e w11 ⟨rfl, kb⟩
  replace hB := hB.trans (kb.mono hB.size)
  clear kb
  refine hK.out _ _ ?_ (fun hHeld => ?_)
  · (try dsimp only); exact ⟨((HK.out.2.1.below hB HK.out.2.1.lt).cell 0).trans rfl, ((HK.out.2.1.below hB HK.out.2.1.lt).cell 1).trans rfl, ((HK.out.2.1.below hB HK.out.2.1.lt).cell 2).trans rfl, ((HK.out.2.1.below hB HK.out.2.1.lt).cell 3).trans rfl, ((HK.out.2.2.1.below hB HK.out.2.2.1.lt).cell 0).trans rfl, ((HK.out.2.2.1.below hB HK.out.2.2.1.lt).cell 1).trans rfl, ((HK.out.2.2.1.below hB HK.out.2.2.1.lt).cell 2).trans rfl, ((HK.out.2.2.1.below hB HK.out.2.2.1.lt).cell 3).trans rfl, ((HK.out.2.2.2.below hB HK.out.2.2.2.lt).cell 0).trans rfl, ((HK.out.2.2.2.below hB HK.out.2.2.2.lt).cell 1).trans rfl, ((HK.out.2.2.2.below hB HK.out.2.2.2.lt).cell 2).trans rfl, ((HK.out.2.2.2.below hB HK.out.2.2.2.lt).cell 3).trans rfl⟩
  clear hK K
  try simp only [Act.put, List.setIfInBounds_toArray, List.set_cons_zero, List.set_cons_succ]
  refine wpAnyH_ready (rs := [12]) (by kernel_rfl) (by simp) ?_
  refine AllReadyH.cons (o := ⟨some 55, _, _, _, _, _⟩) rfl (fun K hK => ?_) AllReadyH.nil
  go_simp
  go_at_call 20
  refine (HH2.out _).mono ?_
  rintro e w12 ⟨rfl, kb⟩
  replace hB := hB.trans (kb.mono hB.size)
  clear kb
  refine hK.out _ _ ?_ (fun hHeld => ?_)
  · (try dsimp only); exact ⟨((HK.out.2.1.below hB HK.out.2.1.lt).cell 0).trans rfl, ((HK.out.2.1.below hB HK.out.2.1.lt).cell 1).trans rfl, ((HK.out.2.1.below hB HK.out.2.1.lt).cell 2).trans rfl, ((HK.out.2.1.below hB HK.out.2.1.lt).cell 3).trans rfl, ((HK.out.2.2.1.below hB HK.out.2.2.1.lt).cell 0).trans rfl, ((HK.out.2.2.1.below hB HK.out.2.2.1.lt).cell 1).trans rfl, ((HK.out.2.2.1.below hB HK.out.2.2.1.lt).cell 2).trans rfl, ((HK.out.2.2.1.below hB HK.out.2.2.1.lt).cell 3).trans rfl, ((HK.out.2.2.2.below hB HK.out.2.2.2.lt).cell 0).trans rfl, ((HK.out.2.2.2.below hB HK.out.2.2.2.lt).cell 1).trans rfl, ((HK.out.2.2.2.below hB HK.out.2.2.2.lt).cell 2).trans rfl, ((HK.out.2.2.2.below hB HK.out.2.2.2.lt).cell 3).trans rfl⟩
  clear hK K
  try simp only [Act.put, List.setIfInBounds_toArray, List.set_cons_zero, List.set_cons_succ]
  refine tkw 13 56 ?_
  refine tkw 14 57 ?_
  refine tkw 15 58 ?_
  refine tkw 16 59 ?_
  refine tkw 17 60 ?_
  refine wpAnyH_ready (rs := [18]) (by kernel_rfl) (by simp) ?_
  refine AllReadyH.cons (o := ⟨some 61, _, _, _, _, _⟩) rfl (fun K hK => ?_) AllReadyH.nil
  go_simp
  go_at_call 20
  refine (HH3.out _).mono ?_
  rintro e w18 ⟨rfl, kb⟩
  replace hB := hB.trans (kb.mono hB.size)
  clear kb
  refine hK.out _ _ ?_ (fun hHeld => ?_)
  · (try dsimp only); exact ⟨((HK.out.2.1.below hB HK.out.2.1.lt).cell 0).trans rfl, ((HK.out.2.1.below hB HK.out.2.1.lt).cell 1).trans rfl, ((HK.out.2.1.below hB HK.out.2.1.lt).cell 2).trans rfl, ((HK.out.2.1.below hB HK.out.2.1.lt).cell 3).trans rfl, ((HK.out.2.2.1.below hB HK.out.2.2.1.lt).cell 0).trans rfl, ((HK.out.2.2.1.below hB HK.out.2.2.1.lt).cell 1).trans rfl, ((HK.out.2.2.1.below hB HK.out.2.2.1.lt).cell 2).trans rfl, ((HK.out.2.2.1.below hB HK.out.2.2.1.lt).cell 3).trans rfl, ((HK.out.2.2.2.below hB HK.out.2.2.2.lt).cell 0).trans rfl, ((HK.out.2.2.2.below hB HK.out.2.2.2.lt).cell 1).trans rfl, ((HK.out.2.2.2.below hB HK.out.2.2.2.lt).cell 2).trans rfl, ((HK.out.2.2.2.below hB HK.out.2.2.2.lt).cell 3).trans rfl⟩
  clear hK K
  try simp only [Act.put, List.setIfInBounds_toArray, List.set_cons_zero, List.set_cons_succ]
  refine tkw 19 62 ?_
  refine tkw 20 8 ?_
  refine wpAnyH_done (by kernel_rfl) ?_ _
  have HF := Lib.hid (HK.out.1.bel.trans (hB.mono HK.out.1.bel.size))
  clear hB hHeld
  go_wp2
  go_ret
  exact ⟨rfl, HF.out⟩

theorem fact_wf : (Rows.spanTurnedRow.wf (OpenSpec.ofChange Rows.spanTurnedSpec)) = true := by kernel_rfl
theorem fact_rd : (Tryz.f8.params.all ((Tryz.prog).readableRec ·)) = true := by kernel_rfl
theorem fact_nt : (namedTie (Tryz.prog) Rows.spanTurnedRow.named Rows.spanTurnedSpec.vars) = true := by kernel_rfl
theorem fact_s1 : ((Rows.spanTurnedRow.stops == [])) = true := by kernel_rfl
theorem fact_k1 : ((Rows.spanTurnedRow.knobs == [])) = true := by kernel_rfl
theorem fact_ip : ((Rows.spanTurnedRow.inPlace == (Tryz.prog).inPlace 8)) = true := by kernel_rfl
theorem fact_uf : ((Rows.spanTurnedRow.unfollowed == (Tryz.prog).unfollowed 8)) = true := by kernel_rfl
theorem fact_rc : ((Rows.spanTurnedRow.recurses == (Tryz.prog).recurses 8)) = true := by kernel_rfl
theorem fact_nm : ((Rows.spanTurnedRow.named == (Tryz.prog).varsNamed 8)) = true := by kernel_rfl
theorem fact_mp : ((Rows.spanTurnedRow.maps == (Tryz.f8.params.toList ++ Rows.spanTurnedSpec.plain.varTypes (Tryz.prog)).any ((Tryz.prog).mapsRec ·))) = true := by kernel_rfl
theorem fact_if : ((Rows.spanTurnedRow.ifaces == (Tryz.f8.params.toList ++ Rows.spanTurnedSpec.plain.varTypes (Tryz.prog)).any ((Tryz.prog).ifacesRec ·))) = true := by kernel_rfl
theorem fact_mo : ((Rows.spanTurnedRow.mapsOut == (Tryz.prog).mapsAmong Tryz.f8.resultTypes.toList)) = true := by kernel_rfl
theorem fact_lp : ((Rows.spanTurnedRow.loops == (Tryz.f8.params.toList ++ Rows.spanTurnedSpec.plain.varTypes (Tryz.prog)).any ((Tryz.prog).loopsFrom ·))) = true := by kernel_rfl
theorem fact_wk : ((Rows.spanTurnedRow.wideKeys == (Tryz.f8.params.toList ++ Rows.spanTurnedSpec.plain.varTypes (Tryz.prog) ++ Tryz.f8.resultTypes.toList).any ((Tryz.prog).wideKeysFrom ·))) = true := by kernel_rfl
theorem fact_vr : (Rows.spanTurnedSpec.vars.all ((Tryz.prog).varReadable ·)) = true := by kernel_rfl
theorem fact_rr : (Tryz.f8.resultTypes.all (fun t => (Tryz.prog).readableRec t && decide (t < (Tryz.prog).types.size))) = true := by kernel_rfl
theorem fact_io : ((Rows.spanTurnedRow.ifacesOut == Tryz.f8.resultTypes.toList.any ((Tryz.prog).ifacesRec ·))) = true := by kernel_rfl
theorem fact_ol : ((Rows.spanTurnedRow.loopsOut == Tryz.f8.resultTypes.toList.any ((Tryz.prog).loopsFrom ·))) = true := by kernel_rfl
theorem fact_pk : ((Rows.spanTurnedRow.plainKeys == (Tryz.prog).plainKeys)) = true := by kernel_rfl
theorem fact_st : (Rows.spanTurnedRow.shortTexts.isNone) = true := by kernel_rfl
theorem fact_lf : ((Rows.spanTurnedRow.lifted == (Tryz.prog).liftsFinal)) = true := by kernel_rfl
theorem fact_mk : (((Tryz.prog).make == some Rows.spanTurnedRow.make)) = true := by kernel_rfl
theorem fact_kd : ((Rows.spanTurnedRow.kinds == (if Rows.spanTurnedRow.domain.isEmpty then [] else Tryz.f8.params.toList.map fun t => match (Tryz.prog).underlying t with | some (.int k) => some k | _ => none))) = true := by kernel_rfl
theorem fact_pn : ((Rows.spanTurnedRow.pinned == Rows.spanTurnedRow.pinnedBy)) = true := by kernel_rfl
theorem fact_vl : ((Rows.spanTurnedRow.veiled == (Tryz.f8.params.toList ++ Rows.spanTurnedSpec.plain.varTypes (Tryz.prog) ++ Tryz.f8.resultTypes.toList).any ((Tryz.prog).veiledRec ·))) = true := by kernel_rfl
theorem fact_vf : (Rows.spanTurnedRow.veiledFits (Tryz.prog) Tryz.f8.params.toList (Tryz.f8.params.toList ++ Rows.spanTurnedSpec.plain.varTypes (Tryz.prog) ++ Tryz.f8.resultTypes.toList)) = true := by kernel_rfl
set_option maxRecDepth 100000 in
theorem closed : joinedFacts Tryz.prog 8 Tryz.f8 Rows.spanTurnedSpec Rows.spanTurnedRow = true :=
  closed_of fact_wf fact_lo fact_mr fact_rd fact_nt fact_s1 fact_s2 fact_k1 fact_k2 fact_ip fact_uf fact_rc fact_nm fact_mp fact_if fact_mo fact_lp fact_wk fact_vr fact_rr fact_io fact_ol fact_pk fact_st fact_sh fact_me fact_lf fact_mk fact_kd fact_pn fact_vl fact_vf

theorem own : ownKnob Tryz.prog.godebug = none := by kernel_rfl
abbrev laidL : List (String × DataW Unit) := Rows.spanTurnedRow.laid
theorem door_met (os : Os) (args : Array Value) : laidMetH Tryz.prog laidL ((World.doorLaid Tryz.prog 39 os).forCall (fun _ _ => 0) ⟨#[], args, []⟩).memory :=
  laidMetH_of_parts3 (fuel := 8) (laidMet_of_run' 8 (by kernel_rfl) (by kernel_rfl)) (by kernel_rfl) (by kernel_rfl)
set_option maxRecDepth 100000 in
theorem lifted (os : Os) (started : os.Started) (H : Type) (enc : TypeId × Value → H) :
    ReturnsInHanded {} Tryz.checked os 8 .any (fun w args => (Rows.spanTurnedSpec.pre enc Tryz.prog Tryz.f8 [] false w args ∧ laidMetH Tryz.prog laidL w) ∧ sizedMet enc Tryz.prog Tryz.f8 (OpenSpec.ofChange Rows.spanTurnedSpec) false w args)
      (Rows.spanTurnedSpec.post enc Tryz.prog Tryz.f8 false true false false) := by
  refine returnsInHanded_of_change_and (C := Tryz.checked) (X := fun w _ => laidMetH Tryz.prog laidL w) (fun _ _ _ hh h => h.of_heap hh) own started (by kernel_rfl) Tryz.func8
    (ChangeSpec.witness_shaped (enc := enc) (C := Tryz.checked) (os := os) (X := fun w _ => laidMetH Tryz.prog laidL w) false (World.doorLaid Tryz.prog 39 os) #[.int .i64 0, .bool false, .agg #[.int .i64 0, .int .i64 0, .bool false, .bool false], .int .i64 0] 8 rfl (World.shaped_of_RefB (by kernel_rfl) (by kernel_rfl)) (by kernel_rfl) (by kernel_rfl) (by kernel_rfl) (door_met os _)) ?_
  intro W base args ds gs before hval0 hW _ hsz0 hL0 _
  clear hL0
  have hval : ∀ (j : Nat) t v, Tryz.f8.params[j]? = some t → args[j]? = some v → Value.okWide Tryz.prog W .any base t v := hval0
  have hW' := hW
  obtain ⟨p, q, hA0, hV, rfl, hfz, hnd⟩ := hW
  have hA : DataW.TrodAll enc Tryz.prog W 0 (fun _ => true) true Tryz.f8.params.toList args.toList ds p := hA0
  rw [Tryz.params8] at hA hval
  obtain ⟨v0, vs0, d0, ds0, p0, q0, hargs, rfl, rfl, h0, r0⟩ := trodAll_cons hA
  obtain ⟨v1, vs1, d1, ds1, p1, q1, rfl, rfl, rfl, h1, r1⟩ := trodAll_cons r0
  obtain ⟨v2, vs2, d2, ds2, p2, q2, rfl, rfl, rfl, h2, r2⟩ := trodAll_cons r1
  obtain ⟨v3, vs3, d3, ds3, p3, q3, rfl, rfl, rfl, h3, r3⟩ := trodAll_cons r2
  obtain ⟨rfl, rfl, rfl⟩ := trodAll_nil r3
  obtain rfl : args = #[v0, v1, v2, v3] := by cases args; simp_all
  obtain ⟨a0, rfl, rfl, rfl, w0⟩ := open_int Tryz.underlying3 (hval 0 3 v0 rfl rfl) h0
  obtain ⟨a1, rfl, rfl, rfl⟩ := open_bool Tryz.underlying4 (hval 1 4 v1 rfl rfl) h1
  obtain ⟨c20, c21, c22, c23, y20, y21, y22, y23, m2, rfl, rfl, rfl, hy20, hy21, hy22, hy23⟩ := open_agg4 Tryz.underlying23 (by kernel_rfl) (show Tryz.prog.cellsOf 23 = 4 by kernel_rfl) (hval 2 23 v2 rfl rfl) h2
  obtain ⟨a20, e20, rfl, w20⟩ := DataW.trod_int Tryz.underlying3 hy20
  obtain ⟨a21, e21, rfl, w21⟩ := DataW.trod_int Tryz.underlying3 hy21
  obtain ⟨a22, e22, rfl⟩ := DataW.trod_bool Tryz.underlying4 hy22
  obtain ⟨a23, e23, rfl⟩ := DataW.trod_bool Tryz.underlying4 hy23
  simp at e20 e21 e22 e23
  subst e20 e21 e22 e23
  obtain ⟨a3, rfl, rfl, rfl, w3⟩ := open_int Tryz.underlying3 (hval 3 3 v3 rfl rfl) h3
  refine (walk a0 (range_i64 w0) a1 a20 a21 a22 a23 a3 (range_i64 w3) W).mono fun e W' ⟨he, hb⟩ => ?_
  subst he
  exact ⟨_, rfl, law_post (tb := 4) (by kernel_rfl) (by kernel_rfl) rfl Tryz.underlying4 rfl (fun h => by subst h; rfl) hW' hb⟩

theorem proved : Rows.SpanTurnedSaid :=
  OpenClaim.holds_of_wide 8 Tryz.f8 rfl rfl rfl rfl rfl rfl rfl ⟨rfl, rfl, rfl, rfl, rfl⟩ rfl rfl rfl rfl rfl (by kernel_rfl) Tryz.func8 closed
    (of_decide_eq_true (by kernel_rfl)) (by unfold Func.isWrapper; first | (rw [if_pos (by decide +kernel)]; kernel_rfl) | (rw [if_neg (by decide +kernel)]; exact ⟨rfl, rfl⟩))
    (fun os started H enc _ => lifted os started H enc)

theorem card : Rows.SpanTurnedCardSaid :=
  Claim7.holds_tied_plain_at .later [] [.data, .data, .data, .data, .data, .data, .data] true Rows.spanTurnedCard.stood.harness true
    proved (fun _ h => by cases h) (by as_aux_lemma => kernel_rfl) (fun _ h => by cases h) spanTurned_row_tie rfl ⟨rfl, rfl⟩ (by as_aux_lemma => kernel_rfl) rfl
    (fun f fn hf hfn => by
      obtain rfl : f = 8 := Option.some.inj ((show Tryz.prog.funcNamed "warrant/warrantlaw06.SpanTurned" = some 8 by as_aux_lemma => kernel_rfl).symm.trans hf) |>.symm
      obtain rfl : fn = Tryz.f8 := (Option.some.inj (Tryz.func8.symm.trans hfn)).symm
      exact ⟨by as_aux_lemma => kernel_rfl, fun j t ht => by
        rw [Tryz.params8] at ht
        have hm : t ∈ [3, 4, 23, 3] := by simpa using Array.mem_of_getElem? ht
        have hall : ([3, 4, 23, 3].all fun u => !Tryz.prog.wantsStandIn u) = true := by kernel_rfl
        exact (show Tryz.prog.wantsStandIn t = false by simpa using List.all_eq_true.1 hall t hm)⟩)
    (by as_aux_lemma => kernel_rfl)
#print axioms card

end Go.Proofs.YtcmplcdbkoodpaaGreatDoor.spanTurned
