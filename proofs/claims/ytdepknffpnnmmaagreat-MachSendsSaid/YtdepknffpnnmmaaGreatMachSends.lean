/-
  MachSends: numbers are sent in their order, up to MaxSent; each further one answers -1, and is not sent; no condition.
-/
import Derived.Test.YtdepknffpnnmmaaGreatMachCD
import Derived.Test.YtdepknffpnnmmaaGreatInts
import Derived.Test.YtdepknffpnnmmaaGreatFacts
import Derived.OpenShut
import Derived.Deep.CutBlock
import Derived.Deep.CutRange
import Derived.Deep.LoopGhost
namespace Go.Proofs.YtdepknffpnnmmaaGreat.machSends
open Go.ChangeShapes Go.WideShapes Go.ChangeAt Go.RowKit
set_option linter.unusedVariables false
set_option linter.unusedSimpArgs false

theorem and62 (x : Int) : bits .and .i64 x 4611686018427387903 = x % 4611686018427387904 := by
  have h := i64_and_mask x 62 (by decide)
  have e : (2 : Int) ^ 62 = 4611686018427387904 := by decide
  rw [e] at h
  exact h
/-- Rows of unlike elements lie apart. -/
theorem own_ne {w : World} {b1 b2 s1 s2 n m : Nat} {e1 e2 : TypeId} {v1 v2 : Value} {xs ys : List Value} (h1 : w.ownsRow b1 e1 s1 v1 n xs) (h2 : w.ownsRow b2 e2 s2 v2 m ys) (hne : e1 ≠ e2) : ∀ g, v1.ownBlock = some g → some g ≠ v2.ownBlock := by
  intro g hg hc
  obtain ⟨_, ⟨rfl, _⟩ | ⟨g1, c1, cur1, rfl, _, hb1, _⟩⟩ := h1
  · cases hg
  · obtain ⟨_, ⟨rfl, _⟩ | ⟨g2, c2, cur2, rfl, _, hb2, _⟩⟩ := h2
    · cases hc
    · obtain rfl : g1 = g := by simpa [Value.ownBlock] using hg
      obtain rfl : g1 = g2 := by simpa [Value.ownBlock] using hc
      rw [hb1] at hb2
      injection hb2 with hb2
      injection hb2 with _ h3
      exact hne h3
theorem own_grow {w w' : World} {base s n : Nat} {e : TypeId} {v : Value} {xs : List Value} {row : Option Nat} (h : w.ownsRow base e s v n xs) (hg : w.grownBy w' row) (hne : ∀ g, v.ownBlock = some g → some g ≠ row) : w'.ownsRow base e s v n xs :=
  ownsRow_stayS h fun b hb => hg.block b (h.lt b hb).2 (hne b hb)
theorem ints_own {w : World} {base n : Nat} {v : Value} {xs : List Int} (h : w.ownsRow base 3 1 v n (i64s xs)) : Ints w v xs := by
  have h0 := h
  obtain ⟨hl, ⟨rfl, h0'⟩ | ⟨g, c, cur, rfl, hb, hg, hc, hm, hs, ht⟩⟩ := h
  · have : xs = [] := List.length_eq_zero_iff.1 (by unfold i64s at hl; rw [List.length_map] at hl; omega)
    subst this
    exact Or.inl ⟨rfl, _, _, rfl⟩
  · have hn : n = xs.length := by unfold i64s at hl; rw [List.length_map] at hl; omega
    subst hn
    by_cases hp : 0 < xs.length
    · refine Or.inr ⟨hp, g, 0, c, rfl, (h0.lt g rfl).2, fun i hi => ?_⟩
      rw [Nat.zero_add, h0.cellAt i (by omega)]
      unfold i64s
      rw [List.getElem?_map, List.getElem?_eq_getElem hi, List.getD_eq_getElem?_getD, List.getElem?_eq_getElem hi]
      rfl
    · have : xs = [] := List.length_eq_zero_iff.1 (by omega)
      subst this
      exact Or.inl ⟨rfl, _, _, rfl⟩
theorem rg_zero {s : Mst} (h : s.rg.length = 11) : s.rg[0]? = some (s.reg 0) := by
  rw [List.getElem?_eq_getElem (by omega), show s.reg 0 = s.rg[0]'(by omega) from s.reg_get 0 (by omega)]
theorem ints_alloc {w : World} {v : Value} {xs : List Int} (h : Ints w v xs) (o : Obj) : Ints (w.alloc o) v xs := by
  rcases h with h | ⟨hp, b, off, cap, hv, hlt, hc⟩
  · exact Or.inl h
  · exact Or.inr ⟨hp, b, off, cap, hv, by simp; omega, fun i hi => ((below_map w o).cell (p := ⟨b, off + i, none⟩) hlt).trans (hc i hi)⟩
theorem runs_here {first : Int} {k : Nat} {n : Nat} {base : Nat} {ca : Option Addr} {cc : Nat} {w' : World} {Q : World → Ending → World → Prop} (H : ∀ (ca : Option Addr) (cc : Nat) (w' : World), Coded w' (.slice ca (sendc first k).length cc) (sendc first k) → Calls Tryz.prog 9 #[.slice ca (sendc first k).length cc, .slice none 0 0] w' (Q w'))
    (h : w'.ownsRow base 25 8 (.slice ca (n + 1) cc) (n + 1) (codec (sendL first k ++ (if k = 0 then [insWide 0 0] else [])) ++ codec [insExit])) : Calls Tryz.prog 9 #[.slice ca (n + 1) cc, .slice none 0 0] w' (Q w') := by
  rw [← codec_append] at h
  have hl : n + 1 = (sendc first k).length := by
    have h1 := h.1
    rw [codec_len] at h1
    show n + 1 = (sendL first k ++ (if k = 0 then [insWide 0 0] else []) ++ [insExit]).length
    omega
  obtain ⟨g, cap, rest, hv, hg, hrow, hle, hmx⟩ := own_code h rfl (by omega)
  injection hv with e1 e2 e3
  subst e1 e3
  have hc := coded_rest hrow (n + 1) cc hl hle hmx (by omega)
  have h2 := H (some ⟨g, 0, none⟩) cc w'
  rw [← hl] at h2
  exact h2 hc
set_option maxRecDepth 100000 in
set_option maxHeartbeats 8000000 in
theorem walk (many : Int) (rm : -9223372036854775808 ≤ many ∧ many ≤ 9223372036854775807) (first : Int) (rf : -9223372036854775808 ≤ first ∧ first ≤ 9223372036854775807) (w : World) :
    Calls Tryz.prog 3 #[.int .i64 many, .int .i64 first] w fun e w' => e = .returned (.bool true) ∧ Below w.heap.size w w' := by
  clear rm rf
  have hm62 := and62 many
  obtain ⟨B, hB⟩ : ∃ B : Nat, many % 4611686018427387904 = B := ⟨(many % 4611686018427387904).toNat, by omega⟩
  rw [hB] at hm62
  obtain ⟨k, hk⟩ : ∃ k : Nat, k = B % 80 := ⟨_, rfl⟩
  have hk80 : k < 80 := by omega
  have htm : (B : Int).tmod 80 = (k : Int) := by rw [hk]; rfl
  have hwt : IntKind.i64.wrap (k : Int) = (k : Int) := IntWalk.i64_in _ (by omega)
  have HK := Lib.hid hk80
  clear hB hk hk80
  obtain ⟨i0, hi0, hz0, hz1, hz2⟩ := info_split info_ins
  obtain ⟨u0, hu0, hy0, hy1, hy2⟩ := info_parts (show (Tryz.prog.info? 3).map (fun i => (i.zero, i.size, i.bytes)) = some (some (.int .i64 0), 1, 8) by kernel_rfl)
  have hbe := run_i0
  have hbc := run_i07
  go_enter Tryz.func3, Tryz.ntmps3
  go_wp2_with fail
  clear hm62 htm hwt
  go_loopg [6, 7, 8] k (fun gh s6 s7 s8 wr => ∃ (i n6 n7 : Nat) (a6 : Option Addr) (c6 : Nat) (a7 : Option Addr) (c7 : Nat), i ≤ k ∧ gh = k - i ∧ s8 = .int .i64 i ∧ n6 = 2 * i ∧ n7 = (wantL first i).length ∧ s6 = .slice a6 n6 c6 ∧ s7 = .slice a7 n7 c7 ∧ World.ownsRow wr w.heap.size 25 8 (.slice a6 n6 c6) n6 (codec (sendL first i)) ∧ World.ownsRow wr w.heap.size 3 1 (.slice a7 n7 c7) n7 (i64s (wantL first i)) ∧ Below w.heap.size w wr)
  case atStart => exact ⟨0, 0, 0, none, 0, none, 0, Nat.zero_le _, rfl, rfl, rfl, rfl, rfl, rfl, World.ownsRow_nil _ _ _ _, World.ownsRow_nil _ _ _ _, Below.refl _ _⟩
  case round =>
    obtain ⟨i, n6, n7, a6, c6, a7, c7, hik, rfl, rfl, hn6, hn7, rfl, rfl, ho6, ho7, hb⟩ := hrel
    have HO := Lib.hid (And.intro ho6 (And.intro ho7 hb))
    have HN := Lib.hid (And.intro hn6 (And.intro hn7 (wantL_len first i)))
    by_cases hi : i < k
    · have hj : decide ((i : Int) < (k : Int)) = true := by simp; omega
      have hjn : decide (i < k) = true := by simp; omega
      obtain ⟨f, hfi⟩ : ∃ f : Int, first + (i : Int) = f := ⟨_, rfl⟩
      obtain ⟨i1, hi1⟩ : ∃ i1 : Nat, i + 1 = i1 := ⟨_, rfl⟩
      have hii : (i : Int) + 1 = (i1 : Int) := by omega
      have HI := Lib.hid (And.intro hi (And.intro hi1 hfi))
      have hm3 : n6 + 2 ≤ maxLen := by have := HK.out; unfold maxLen; omega
      have hm4 : (n6 + 2) * 56 ≤ 140737488355328 := by have := HK.out; omega
      have hm5 : n7 + 1 ≤ maxLen := by have := HN.out.2.2; have := HK.out; unfold maxLen; rw [hn7, HN.out.2.2]; split <;> omega
      have hm6 : (n7 + 1) * 8 ≤ 140737488355328 := by rw [hn7, HN.out.2.2]; split <;> omega
      have HM3 := Lib.hid (And.intro hm3 hm4)
      have HM5 := Lib.hid (And.intro hm5 hm6)
      clear ho6 ho7 hb hn6 hn7 hi hi1 hik hm3 hm4 hm5 hm6
      obtain ⟨w0, rfl⟩ : ∃ w0, w0 = wr := ⟨_, rfl⟩
      go_upto_region 7 with fail
      go_cut [6] from 20 to 27 (fun s6 wx => ∃ a6' c6', s6 = .slice a6' (n6 + 2) c6' ∧ World.ownsRow wx w.heap.size 25 8 (Value.slice a6' (n6 + 2) c6') (n6 + 2) (codec (sendL first i1)) ∧ World.ownsRow wx w.heap.size 3 1 (.slice a7 n7 c7) n7 (i64s (wantL first i)) ∧ Below w.heap.size w wx)
      case first =>
        go_wp2_with (first
          | (go_at_call 8; go_loud (refine (wide_of _ _ _).mono ?_; rintro e wW ⟨rfl, hbW⟩; have ho6 := own_stays HO.out.1 hbW (Nat.le_refl _); have ho7 := own_stays HO.out.2.1 hbW (Nat.le_refl _); have hbw := HO.out.2.2.trans (hbW.mono HO.out.2.2.size)))
          | (at_builtin; go_loud (refine wpList_append_own _ rfl (.tmp 20) (.tmp 26) 22 rfl w.heap.size 25 i0 (.agg #[.int .i64 0, .bool false, .bool false, .int .i64 0, .int .i64 0, .int .i64 0, .int .i64 0, .int .i64 0]) 8 56 Tryz.underlying22 hi0 hz0 hz1 hz2 rfl (by decide) (.slice a6 n6 c6) n6 _ rfl (ho6.alloc _) ⟨wW.heap.size, 0, none⟩ 2 2 (codec [insWide 1 (wrap64 f), insCall]) rfl rfl (news_new wW (codec [insWide 1 (wrap64 f), insCall]) 25) (codec_one _) HM3.out.1 HM3.out.2 (by have := hbw.size; simp; omega) ?_; intro v3 w3 hown3 hgrow _)))
        obtain ⟨a3, c3, rfl⟩ := own_slice hown3
        have hB3 : Below w.heap.size w w3 := Below.grown (hbw.alloc hbw.size _) hgrow (by have := hbw.size; simp; omega) (fun j hj => (ho6.lt j hj).1)
        go_wp2_with fail
        go_meet
        case rel => exact ⟨a3, c3, rfl, by rw [← HI.out.2.1]; show World.ownsRow _ _ _ _ _ _ (codec (sendL first i ++ [insWide 1 (wrap64 (first + i)), insCall])); rw [codec_append, HI.out.2.2]; exact hown3, own_grow (ho7.alloc _) hgrow (own_ne ho7 ho6 (by decide)), hB3⟩
      case rest =>
        obtain ⟨a6', c6', rfl, ho6, ho7, hb⟩ := hcut
        have HO2 := Lib.hid (And.intro ho6 (And.intro ho7 hb))
        clear ho6 ho7 hb HO
        obtain ⟨w1, rfl⟩ : ∃ w1, w1 = wc := ⟨_, rfl⟩
        have HWI := Lib.hid (show wrap64 (i1 : Int) = (i1 : Int) by have := HK.out; have := HI.out; unfold wrap64; omega)
        by_cases h64 : i < 64
        · have q64 : decide ((i : Int) < 64) = true := by simp; omega
          have q64n : decide (i < 64) = true := by simp; omega
          have H64 := Lib.hid h64
          clear h64
          have hwi := HWI.out
          go_wp2_with (at_builtin; go_loud (refine wpList_append_own _ rfl (.tmp 30) (.tmp 34) 23 rfl w.heap.size 3 u0 (.int .i64 0) 1 8 Tryz.underlying23 hu0 hy0 hy1 hy2 rfl (by decide) (.slice a7 n7 c7) n7 _ rfl (HO2.out.2.1.alloc _) ⟨w1.heap.size, 0, none⟩ 1 1 [.int .i64 (wrap64 f)] rfl rfl (news_new w1 [.int .i64 (wrap64 f)] 3) (by simp [Value.oneCell']) HM5.out.1 HM5.out.2 (by have := HO2.out.2.2.size; simp; omega) ?_; intro v3 w3 hown3 hgrow _; obtain ⟨a3, c3, rfl⟩ := own_slice hown3))
          clear hwi
          have hB3 : Below w.heap.size w w3 := Below.grown (HO2.out.2.2.alloc HO2.out.2.2.size _) hgrow (by have := HO2.out.2.2.size; simp; omega) (fun j hj => (HO2.out.2.1.lt j hj).1)
          go_roundg (k - i1)
          case measure => have := HI.out; omega
          case rel =>
            have hw1 : wantL first i1 = wantL first i ++ [wrap64 f] := by rw [← HI.out.2.1, ← HI.out.2.2]; show (if i < 64 then _ else _) = _; rw [if_pos H64.out]
            exact ⟨i1, n6 + 2, n7 + 1, a6', c6', a3, c3, by have := HI.out; omega, rfl, by first | rfl | exact congrArg (Value.int .i64) HWI.out, by have := HN.out.1; have := HI.out.2.1; omega, by rw [hw1, List.length_append, ← HN.out.2.1]; rfl, rfl, rfl, own_grow (HO2.out.1.alloc _) hgrow (own_ne HO2.out.1 HO2.out.2.1 (by decide)), by rw [hw1]; unfold i64s; rw [List.map_append]; exact hown3, hB3⟩
        · have q64 : decide ((i : Int) < 64) = false := by simp; omega
          have q64n : decide (i < 64) = false := by simp; omega
          have H64 := Lib.hid h64
          clear h64
          have hwi := HWI.out
          go_wp2_with fail
          clear hwi
          go_roundg (k - i1)
          case measure => have := HI.out; omega
          case rel =>
            have hw1 : wantL first i1 = wantL first i := by rw [← HI.out.2.1]; show (if i < 64 then _ else _) = _; rw [if_neg H64.out]
            exact ⟨i1, n6 + 2, n7, a6', c6', a7, c7, by have := HI.out; omega, rfl, by first | rfl | exact congrArg (Value.int .i64) HWI.out, by have := HN.out.1; have := HI.out.2.1; omega, by rw [hw1]; exact HN.out.2.1, rfl, rfl, HO2.out.1, by rw [hw1]; exact HO2.out.2.1, HO2.out.2.2⟩
    · have hj : decide ((i : Int) < (k : Int)) = false := by simp; omega
      have hjn : decide (i < k) = false := by simp; omega
      obtain rfl : i = k := by omega
      clear ho6 ho7 hb hn6 hn7 hi hik
      have HOE := HO
      go_upto_if 37 with fail
      obtain ⟨R, hR⟩ : ∃ R : Int, (if 64 < i then -1 else 0) = R := ⟨_, rfl⟩
      have HR := Lib.hid hR
      clear hR hj hjn
      go_cut [9] from 36 to 37 (fun s9 wx => s9 = .int .i64 R ∧ wr = wx)
      case first =>
        by_cases h64 : 64 < i
        · have q64 : decide (64 < (i : Int)) = true := by simp; omega
          have q64n : decide (64 < i) = true := by simp; omega
          have h := HR.out
          rw [if_pos h64] at h
          have HH := Lib.hid h
          clear h h64
          try simp only [q64]
          try simp only [q64n]
          go_wp2_with fail
          go_meet
          case rel => exact ⟨by rw [HH.out], rfl⟩
        · have q64 : decide (64 < (i : Int)) = false := by simp; omega
          have q64n : decide (64 < i) = false := by simp; omega
          have h := HR.out
          rw [if_neg h64] at h
          have HH := Lib.hid h
          clear h h64
          try simp only [q64]
          try simp only [q64n]
          go_wp2_with fail
          go_meet
          case rel => exact ⟨by rw [HH.out], rfl⟩
      case rest =>
        obtain ⟨rfl, hwx⟩ := hcut
        subst hwx
        go_upto_if 39 with fail
        go_cut [6] from 38 to 43 (fun s6 wx => ∃ (n : Nat) (a : Option Addr) (c : Nat), s6 = .slice a n c ∧ n ≤ 160 ∧ World.ownsRow wx w.heap.size 25 8 (Value.slice a n c) n (codec (sendL first i ++ (if i = 0 then [insWide 0 0] else []))) ∧ World.ownsRow wx w.heap.size 3 1 (.slice a7 n7 c7) n7 (i64s (wantL first i)) ∧ Below w.heap.size w wx)
        case first =>
          by_cases h0 : i = 0
          · have q0 : ((i : Int) == 0) = true := by rw [h0]; rfl
            have H0 := Lib.hid h0
            have hn0 : n6 + 1 ≤ maxLen := by have := HN.out.1; unfold maxLen; omega
            have hn1 : (n6 + 1) * 56 ≤ 140737488355328 := by have := HN.out.1; omega
            clear h0
            try simp only [q0]
            go_wp2_with (first
              | (go_at_call 8; go_loud (refine (wide_of _ _ _).mono ?_; rintro e wW ⟨rfl, hbW⟩; have ho6 := own_stays HO.out.1 hbW (Nat.le_refl _); have ho7 := own_stays HO.out.2.1 hbW (Nat.le_refl _); have hbw := HO.out.2.2.trans (hbW.mono HO.out.2.2.size)))
              | (at_builtin; go_loud (refine wpList_append_own _ rfl (.tmp 40) (.tmp 42) 22 rfl w.heap.size 25 i0 (.agg #[.int .i64 0, .bool false, .bool false, .int .i64 0, .int .i64 0, .int .i64 0, .int .i64 0, .int .i64 0]) 8 56 Tryz.underlying22 hi0 hz0 hz1 hz2 rfl (by decide) (.slice a6 n6 c6) n6 _ rfl (ho6.alloc _) ⟨wW.heap.size, 0, none⟩ 1 1 (codec [insWide 0 0]) rfl rfl (news_new wW (codec [insWide 0 0]) 25) (codec_one _) hn0 hn1 (by have := hbw.size; simp; omega) ?_; intro v3 w3 hown3 hgrow _; obtain ⟨a3, c3, rfl⟩ := own_slice hown3)))
            have hB3 : Below w.heap.size w w3 := Below.grown (hbw.alloc hbw.size _) hgrow (by have := hbw.size; simp; omega) (fun j hj => (ho6.lt j hj).1)
            go_meet
            case rel => exact ⟨n6 + 1, a3, c3, rfl, by have := HN.out.1; have := H0.out; omega, by rw [if_pos H0.out, codec_append]; exact hown3, own_grow (ho7.alloc _) hgrow (own_ne ho7 ho6 (by decide)), hB3⟩
          · have q0 : ((i : Int) == 0) = false := by simp; omega
            have H0 := Lib.hid h0
            clear h0
            try simp only [q0]
            go_wp2_with fail
            go_meet
            case rel => exact ⟨n6, a6, c6, rfl, by have := HN.out.1; have := HK.out; omega, by rw [if_neg H0.out, List.append_nil]; exact HO.out.1, HO.out.2.1, HO.out.2.2⟩
        case rest =>
          obtain ⟨n, a, c, rfl, hn, ho6, ho7, hb⟩ := hcut
          have HO2 := Lib.hid (And.intro ho6 (And.intro ho7 hb))
          have hm3 : n + 1 ≤ maxLen := by unfold maxLen; omega
          have hm4 : (n + 1) * 56 ≤ 140737488355328 := by omega
          clear ho6 ho7 hb hn HO HOE
          obtain ⟨w1, rfl⟩ : ∃ w1, w1 = wc := ⟨_, rfl⟩
          obtain ⟨s2, hrun, hx2, hs2⟩ := send_run first i (by have := HK.out; omega)
          have hgl : s2.rg.length = 11 := by
            have h := (X.run_R do_emitK ((sendc_ok first i (by have := HK.out; omega)).code do_emitK) 1048576 (st0 []) (good0 (sendc first i) [] IsBytes.nil (by simp)) (sendc_ok first i (by have := HK.out; omega)).len.1 (by show (0 : Int) ≤ 0; decide) (by show (0 : Int) + 1048576 < _; decide)).2.regs.1
            rw [hrun] at h
            exact h
          have HRN := Lib.hid (fun (ca : Option Addr) (cc : Nat) (w' : World) hc => X.runs_any (sendc first i) do_emitK (sendc_ok first i (by have := HK.out; omega)) [] IsBytes.nil (by simp) 0 s2 hrun ca cc (.slice none 0 0) w' hc ⟨fun x hx => (by cases hx), Or.inl ⟨rfl, Or.inl rfl⟩⟩)
          have HX2 := Lib.hid (And.intro (rg_zero hgl) (And.intro (hx2.trans HR.out) hs2))
          clear hrun hx2 hs2 hgl
          go_upto_region 15 with fail
          go_cut [10, 11] from 44 to 51 (fun s10 s11 wx => ∃ (bo : Nat) (v1 v2 : Value) (b3 : Option Addr) (n3 c3 : Nat), s10 = .pointer (some ⟨bo, 0, none⟩) ∧ s11 = .int .i64 0 ∧ Row wx bo 30 [.int .i64 R, v1, v2, .slice b3 n3 c3] ∧ Ints wx (.slice b3 n3 c3) (wantL first i) ∧ Ints wx (.slice a7 n7 c7) (wantL first i) ∧ Below w.heap.size w wx)
          case first =>
            go_wp2_with (first
              | (at_builtin; go_loud (refine wpList_append_own _ rfl (.tmp 45) (.tmp 47) 22 rfl w.heap.size 25 i0 (.agg #[.int .i64 0, .bool false, .bool false, .int .i64 0, .int .i64 0, .int .i64 0, .int .i64 0, .int .i64 0]) 8 56 Tryz.underlying22 hi0 hz0 hz1 hz2 rfl (by decide) (.slice a n c) n _ rfl (HO2.out.1.alloc _) ⟨w1.heap.size, 0, none⟩ 1 1 (codec [insExit]) rfl rfl (news_new w1 (codec [insExit]) 25) (codec_one _) hm3 hm4 (by have := HO2.out.2.2.size; simp; omega) ?_; intro v3 w3 hown3 hgrow _; obtain ⟨a3, c3, rfl⟩ := own_slice hown3; have hB3 : Below w.heap.size w w3 := Below.grown (HO2.out.2.2.alloc HO2.out.2.2.size _) hgrow (by have := HO2.out.2.2.size; simp; omega) (fun j hj => (HO2.out.1.lt j hj).1); have hw3 := own_grow (HO2.out.2.1.alloc _) hgrow (own_ne HO2.out.2.1 HO2.out.1 (by decide))))
              | (go_at_call 9; go_loud (refine (runs_here HRN.out hown3).mono ?_; rintro e wR ⟨r0, a1, n1, c1, b2, n2, c2, b3, n3, c3', rfl, hO, hbR⟩)))
            have hr0 : r0 = R := (hO.r0 rfl _ (show s2.rg[0]? = some (s2.reg 0) from HX2.out.1)).trans HX2.out.2.1
            subst hr0
            have hs3 := hO.sent rfl
            rw [HX2.out.2.2] at hs3
            have hi3 := ints_own hs3
            have hi7 := ints_own (own_stays hw3 hbR (Nat.le_refl _))
            have hBR := hB3.trans (hbR.mono hB3.size)
            go_meet
            case rel => exact ⟨wR.heap.size, _, _, b3, n3, c3', rfl, rfl, Row.made wR [.int .i64 r0, .slice a1 n1 c1, .slice b2 n2 c2, .slice b3 n3 c3'] _, ints_alloc hi3 _, ints_alloc hi7 _, hBR.alloc hBR.size _⟩
          case rest =>
            obtain ⟨bo, v1, v2, b3, n3, c3, rfl, rfl, hbo, hi3, hi7, hb⟩ := hcut
            have HII := Lib.hid (And.intro hi3 (And.intro hi7 hb))
            have hcc := hbo.four.1
            obtain ⟨o0, o1, o2, o3⟩ := hcc
            have hll : (wantL first i).length ≤ 9223372036854775807 := by rw [wantL_len]; split <;> omega
            have HLL := Lib.hid hll
            clear hbo hi3 hi7 hb hm3 hm4 hll
            obtain ⟨w9, rfl⟩ : ∃ w9, w9 = wc := ⟨_, rfl⟩
            go_wp2_with (go_at_call 10; go_loud (refine (ints_same _ _ (wantL first i) HLL.out _ HII.out.1 HII.out.2.1).mono ?_; rintro e wS ⟨rfl, nS, rfl⟩))
            exact bodyPost_ret (v := .bool true) (by simp [results, Tryz.results3, go_sem]) rfl ⟨rfl, below_drewN HII.out.2.2 nS⟩


theorem fact_wf : (Rows.machSendsRow.wf (OpenSpec.ofChange Rows.machSendsSpec)) = true := by kernel_rfl
theorem fact_rd : (Tryz.f3.params.all ((Tryz.prog).readableRec ·)) = true := by kernel_rfl
theorem fact_nt : (namedTie (Tryz.prog) Rows.machSendsRow.named Rows.machSendsSpec.vars) = true := by kernel_rfl
theorem fact_s1 : ((Rows.machSendsRow.stops == [])) = true := by kernel_rfl
theorem fact_k1 : ((Rows.machSendsRow.knobs == [])) = true := by kernel_rfl
theorem fact_ip : ((Rows.machSendsRow.inPlace == (Tryz.prog).inPlace 3)) = true := by kernel_rfl
theorem fact_uf : ((Rows.machSendsRow.unfollowed == (Tryz.prog).unfollowed 3)) = true := by kernel_rfl
theorem fact_rc : ((Rows.machSendsRow.recurses == (Tryz.prog).recurses 3)) = true := by kernel_rfl
theorem fact_nm : ((Rows.machSendsRow.named == (Tryz.prog).varsNamed 3)) = true := by kernel_rfl
theorem fact_mp : ((Rows.machSendsRow.maps == (Tryz.f3.params.toList ++ Rows.machSendsSpec.plain.varTypes (Tryz.prog)).any ((Tryz.prog).mapsRec ·))) = true := by kernel_rfl
theorem fact_if : ((Rows.machSendsRow.ifaces == (Tryz.f3.params.toList ++ Rows.machSendsSpec.plain.varTypes (Tryz.prog)).any ((Tryz.prog).ifacesRec ·))) = true := by kernel_rfl
theorem fact_mo : ((Rows.machSendsRow.mapsOut == (Tryz.prog).mapsAmong Tryz.f3.resultTypes.toList)) = true := by kernel_rfl
theorem fact_lp : ((Rows.machSendsRow.loops == (Tryz.f3.params.toList ++ Rows.machSendsSpec.plain.varTypes (Tryz.prog)).any ((Tryz.prog).loopsFrom ·))) = true := by kernel_rfl
theorem fact_wk : ((Rows.machSendsRow.wideKeys == (Tryz.f3.params.toList ++ Rows.machSendsSpec.plain.varTypes (Tryz.prog) ++ Tryz.f3.resultTypes.toList).any ((Tryz.prog).wideKeysFrom ·))) = true := by kernel_rfl
theorem fact_vr : (Rows.machSendsSpec.vars.all ((Tryz.prog).varReadable ·)) = true := by kernel_rfl
theorem fact_rr : (Tryz.f3.resultTypes.all (fun t => (Tryz.prog).readableRec t && decide (t < (Tryz.prog).types.size))) = true := by kernel_rfl
theorem fact_io : ((Rows.machSendsRow.ifacesOut == Tryz.f3.resultTypes.toList.any ((Tryz.prog).ifacesRec ·))) = true := by kernel_rfl
theorem fact_ol : ((Rows.machSendsRow.loopsOut == Tryz.f3.resultTypes.toList.any ((Tryz.prog).loopsFrom ·))) = true := by kernel_rfl
theorem fact_pk : ((Rows.machSendsRow.plainKeys == (Tryz.prog).plainKeys)) = true := by kernel_rfl
theorem fact_st : (Rows.machSendsRow.shortTexts.isNone) = true := by kernel_rfl
theorem fact_lf : ((Rows.machSendsRow.lifted == (Tryz.prog).liftsFinal)) = true := by kernel_rfl
theorem fact_mk : (((Tryz.prog).make == some Rows.machSendsRow.make)) = true := by kernel_rfl
theorem fact_kd : ((Rows.machSendsRow.kinds == (if Rows.machSendsRow.domain.isEmpty then [] else Tryz.f3.params.toList.map fun t => match (Tryz.prog).underlying t with | some (.int k) => some k | _ => none))) = true := by kernel_rfl
theorem fact_pn : ((Rows.machSendsRow.pinned == Rows.machSendsRow.pinnedBy)) = true := by kernel_rfl
theorem fact_vl : ((Rows.machSendsRow.veiled == (Tryz.f3.params.toList ++ Rows.machSendsSpec.plain.varTypes (Tryz.prog) ++ Tryz.f3.resultTypes.toList).any ((Tryz.prog).veiledRec ·))) = true := by kernel_rfl
theorem fact_vf : (Rows.machSendsRow.veiledFits (Tryz.prog) Tryz.f3.params.toList (Tryz.f3.params.toList ++ Rows.machSendsSpec.plain.varTypes (Tryz.prog) ++ Tryz.f3.resultTypes.toList)) = true := by kernel_rfl
set_option maxRecDepth 100000 in
theorem closed : joinedFacts Tryz.prog 3 Tryz.f3 Rows.machSendsSpec Rows.machSendsRow = true :=
  closed_of fact_wf fact_lo fact_mr fact_rd fact_nt fact_s1 fact_s2 fact_k1 fact_k2 fact_ip fact_uf fact_rc fact_nm fact_mp fact_if fact_mo fact_lp fact_wk fact_vr fact_rr fact_io fact_ol fact_pk fact_st fact_sh fact_me fact_lf fact_mk fact_kd fact_pn fact_vl fact_vf

theorem own : ownKnob Tryz.prog.godebug = none := by kernel_rfl
set_option maxRecDepth 100000 in
theorem lifted (os : Os) (started : os.Started) (H : Type) (enc : TypeId × Value → H) :
    ReturnsInHanded {} Tryz.checked os 3 .any (Rows.machSendsSpec.pre6 enc Tryz.prog Tryz.f3 Rows.machSendsRow.domain false) (Rows.machSendsSpec.post enc Tryz.prog Tryz.f3 false true false false) := by
  refine returnsInHanded_of_change (C := Tryz.checked) own started (by kernel_rfl) Tryz.func3
    (ChangeSpec.witness6 (enc := enc) (C := Tryz.checked) false ⟨#[], #[.int .i64 0, .int .i64 0], []⟩ 8 (by kernel_rfl) (by kernel_rfl) (by kernel_rfl) (by kernel_rfl)) ?_
  intro W base args ds gs before hval0 hW hcnd _
  have hval : ∀ (j : Nat) t v, Tryz.f3.params[j]? = some t → args[j]? = some v → Value.okWide Tryz.prog W .any base t v := hval0
  have hW' := hW
  obtain ⟨p, q, hA0, hV, rfl, hfz, hnd⟩ := hW
  have hA : DataW.TrodAll enc Tryz.prog W 0 (fun _ => true) true Tryz.f3.params.toList args.toList ds p := hA0
  rw [Tryz.params3] at hA hval
  obtain ⟨v0, vs0, d0, ds0, p0, q0, hargs, rfl, rfl, h0, r0⟩ := trodAll_cons hA
  obtain ⟨v1, vs1, d1, ds1, p1, q1, rfl, rfl, rfl, h1, r1⟩ := trodAll_cons r0
  obtain ⟨rfl, rfl, rfl⟩ := trodAll_nil r1
  obtain rfl : args = #[v0, v1] := by cases args; simp_all
  obtain ⟨a0, rfl, rfl, rfl, w0⟩ := open_int Tryz.underlying3 (hval 0 3 v0 rfl rfl) h0
  obtain ⟨a1, rfl, rfl, rfl, w1⟩ := open_int Tryz.underlying3 (hval 1 3 v1 rfl rfl) h1
  refine (walk a0 (range_i64 w0) a1 (range_i64 w1) W).mono fun e W' ⟨he, hb⟩ => ?_
  subst he
  exact ⟨_, rfl, law_post (tb := 4) (by kernel_rfl) (by kernel_rfl) rfl Tryz.underlying4 rfl (fun h => by subst h; rfl) hW' hb⟩

theorem proved : Rows.MachSendsSaid :=
  OpenClaim.holds_of_wide 3 Tryz.f3 rfl rfl rfl rfl rfl rfl rfl ⟨rfl, rfl, rfl, rfl, rfl⟩ rfl rfl rfl rfl rfl (by kernel_rfl) Tryz.func3 closed
    (of_decide_eq_true (by kernel_rfl)) (by unfold Func.isWrapper; first | (rw [if_pos (by decide +kernel)]; kernel_rfl) | (rw [if_neg (by decide +kernel)]; exact ⟨rfl, rfl⟩))
    (fun os started H enc _ => lifted os started H enc)
#print axioms proved

end Go.Proofs.YtdepknffpnnmmaaGreat.machSends
