/-
  MachPointers: a pointer that is stored in an aligned slot comes back from there, and from nowhere else; no condition.
-/
import Derived.Test.YtbkcpepalicbjaaGreatMachBP
import Derived.Test.YtbkcpepalicbjaaGreatFacts
import Derived.OpenShut
import Derived.Deep.CutBlock
import Derived.Deep.CutRange
namespace Go.Proofs.YtbkcpepalicbjaaGreat.machPointers
open Go.ChangeShapes Go.WideShapes Go.ChangeAt Go.RowKit
set_option linter.unusedVariables false
set_option linter.unusedSimpArgs false

theorem andm (x : Int) (n : Nat) (hn : n < 63) (m q : Int) (hm : (2 : Int) ^ n - 1 = m) (hq : (2 : Int) ^ n = q) : bits .and .i64 x m = x % q := by
  have h := i64_and_mask x n (by omega)
  rw [hm, hq] at h
  exact h
def srcF (c : Nat) : Int := if c = 0 then 1 else if c = 1 then 10 else 4
theorem srcF_ok (c : Nat) : SrcM (srcF c) := by
  unfold srcF SrcM
  split
  · exact Or.inl rfl
  · split
    · exact Or.inr (Or.inl rfl)
    · exact Or.inr (Or.inr rfl)
theorem index_s0 (w : World) : (Instr.index 51 (.agg #[.int .i64 1, .int .i64 10, .int .i64 4]) (.int .i64 0)).run Tryz.prog w = .ok (.int .i64 1) w := by kernel_rfl
theorem index_s1 (w : World) : (Instr.index 51 (.agg #[.int .i64 1, .int .i64 10, .int .i64 4]) (.int .i64 1)).run Tryz.prog w = .ok (.int .i64 10) w := by kernel_rfl
theorem index_s2 (w : World) : (Instr.index 51 (.agg #[.int .i64 1, .int .i64 10, .int .i64 4]) (.int .i64 2)).run Tryz.prog w = .ok (.int .i64 4) w := by kernel_rfl
theorem index_src (c : Nat) (hc : c < 3) (w : World) : (Instr.index 51 (.agg #[.int .i64 1, .int .i64 10, .int .i64 4]) (.int .i64 c)).run Tryz.prog w = .ok (.int .i64 (srcF c)) w := by
  have hk' : c = 0 ∨ c = 1 ∨ c = 2 := by omega
  rcases hk' with rfl | rfl | rfl
  · exact index_s0 w
  · exact index_s1 w
  · exact index_s2 w
theorem J8 (x : Int) {v : Value} (h : v = .int .i64 (x % 8)) : ∃ j0 : Nat, j0 < 8 ∧ v = .int .i64 j0 :=
  ⟨(x % 8).toNat, by omega, by rw [h, Int.toNat_of_nonneg (by omega)]⟩
theorem codec_at4 {src o a : Int} {x y : Ins} {rest : List Value} {j : Nat} {u : Value} (h : y.cs[j]? = some u) : (codec (po src o a x y) ++ rest)[32 + j]? = some u := by
  have hj : j < 8 := by
    rcases Nat.lt_or_ge j 8 with h' | h'
    · exact h'
    · rw [List.getElem?_eq_none (by rw [Ins.cs_len]; exact h')] at h; cases h
  rw [← h, List.getElem?_append_left (by rw [codec_len]; simp [po]; omega)]
  have hc : j = 0 ∨ j = 1 ∨ j = 2 ∨ j = 3 ∨ j = 4 ∨ j = 5 ∨ j = 6 ∨ j = 7 := by omega
  rcases hc with rfl | rfl | rfl | rfl | rfl | rfl | rfl | rfl <;> rfl
theorem codec_at3 {src o a : Int} {x y : Ins} {rest : List Value} {j : Nat} {u : Value} (h : x.cs[j]? = some u) : (codec (po src o a x y) ++ rest)[24 + j]? = some u := by
  have hj : j < 8 := by
    rcases Nat.lt_or_ge j 8 with h' | h'
    · exact h'
    · rw [List.getElem?_eq_none (by rw [Ins.cs_len]; exact h')] at h; cases h
  rw [← h, List.getElem?_append_left (by rw [codec_len]; simp [po]; omega)]
  have hc : j = 0 ∨ j = 1 ∨ j = 2 ∨ j = 3 ∨ j = 4 ∨ j = 5 ∨ j = 6 ∨ j = 7 := by omega
  rcases hc with rfl | rfl | rfl | rfl | rfl | rfl | rfl | rfl <;> rfl
theorem codec_at2 {o : Int} {x : Ins} {rest : List Value} {j : Nat} {u : Value} (h : x.cs[j]? = some u) : (codec (pl o x) ++ rest)[16 + j]? = some u := by
  have hj : j < 8 := by
    rcases Nat.lt_or_ge j 8 with h' | h'
    · exact h'
    · rw [List.getElem?_eq_none (by rw [Ins.cs_len]; exact h')] at h; cases h
  rw [← h]
  have hc : j = 0 ∨ j = 1 ∨ j = 2 ∨ j = 3 ∨ j = 4 ∨ j = 5 ∨ j = 6 ∨ j = 7 := by omega
  rcases hc with rfl | rfl | rfl | rfl | rfl | rfl | rfl | rfl <;> rfl
theorem codec_sp0 {o src a : Int} {j : Nat} {u : Value} (h : (insMov 4 10).cs[j]? = some u) : (codec [insMov 4 10, insOpi 1 4 (-o), insStore 8 10 src a])[0 + j]? = some u := by
  have hj : j < 8 := by
    rcases Nat.lt_or_ge j 8 with h' | h'
    · exact h'
    · rw [List.getElem?_eq_none (by rw [Ins.cs_len]; exact h')] at h; cases h
  rw [← h]
  have hc : j = 0 ∨ j = 1 ∨ j = 2 ∨ j = 3 ∨ j = 4 ∨ j = 5 ∨ j = 6 ∨ j = 7 := by omega
  rcases hc with rfl | rfl | rfl | rfl | rfl | rfl | rfl | rfl <;> rfl
theorem codec_sp1 {o src a : Int} {j : Nat} {u : Value} (h : (insOpi 1 4 (-o)).cs[j]? = some u) : (codec [insMov 4 10, insOpi 1 4 (-o), insStore 8 10 src a])[8 + j]? = some u := by
  have hj : j < 8 := by
    rcases Nat.lt_or_ge j 8 with h' | h'
    · exact h'
    · rw [List.getElem?_eq_none (by rw [Ins.cs_len]; exact h')] at h; cases h
  rw [← h]
  have hc : j = 0 ∨ j = 1 ∨ j = 2 ∨ j = 3 ∨ j = 4 ∨ j = 5 ∨ j = 6 ∨ j = 7 := by omega
  rcases hc with rfl | rfl | rfl | rfl | rfl | rfl | rfl | rfl <;> rfl
set_option maxRecDepth 100000 in
set_option maxHeartbeats 8000000 in
theorem walk (slot : Int) (r1 : -9223372036854775808 ≤ slot ∧ slot ≤ 9223372036854775807) (kind : Int) (r2 : -9223372036854775808 ≤ kind ∧ kind ≤ 9223372036854775807) (part : Int) (r3 : -9223372036854775808 ≤ part ∧ part ≤ 9223372036854775807) (off : Int) (r4 : -9223372036854775808 ≤ off ∧ off ≤ 9223372036854775807) (w : World) :
    Calls Tryz.prog 9 #[.int .i64 slot, .int .i64 kind, .int .i64 part, .int .i64 off] w fun e w' => e = .returned (.bool true) ∧ Below w.heap.size w w' := by
  clear r1 r2 r4
  have hm31 := andm slot 5 (by decide) 31 32 rfl rfl
  obtain ⟨k, hk⟩ : ∃ k : Nat, slot % 32 = k := ⟨(slot % 32).toNat, by omega⟩
  have hk32 : k < 32 := by omega
  rw [hk] at hm31
  have hm62 := andm off 62 (by decide) 4611686018427387903 4611686018427387904 (by decide) (by decide)
  obtain ⟨B, hB⟩ : ∃ B : Nat, off % 4611686018427387904 = B := ⟨(off % 4611686018427387904).toNat, by omega⟩
  rw [hB] at hm62
  obtain ⟨oo, hoo⟩ : ∃ oo : Nat, oo = B % 1000 := ⟨_, rfl⟩
  have hol : oo ≤ 999 := by omega
  have htm : (B : Int).tmod 1000 = (oo : Int) := by rw [hoo]; rfl
  have hwt : IntKind.i64.wrap (oo : Int) = (oo : Int) := IntWalk.i64_in _ (by omega)
  have hk62 := andm kind 62 (by decide) 4611686018427387903 4611686018427387904 (by decide) (by decide)
  obtain ⟨C, hC⟩ : ∃ C : Nat, kind % 4611686018427387904 = C := ⟨(kind % 4611686018427387904).toNat, by omega⟩
  rw [hC] at hk62
  obtain ⟨cc, hcc⟩ : ∃ cc : Nat, cc = C % 3 := ⟨_, rfl⟩
  have hcl : cc < 3 := by omega
  have htc : (C : Int).tmod 3 = (cc : Int) := by rw [hcc]; rfl
  have hwc : IntKind.i64.wrap (cc : Int) = (cc : Int) := IntWalk.i64_in _ (by omega)
  obtain ⟨src, hsrc⟩ : ∃ src, src = srcF cc := ⟨_, rfl⟩
  have hidx := index_src cc hcl
  rw [← hsrc] at hidx
  have HS : Hid (SrcM src) := Lib.hid (by rw [hsrc]; exact srcF_ok cc)
  have hw8 : wrap64 (8 * (k : Int)) = 8 * (k : Int) := by unfold wrap64; omega
  obtain ⟨a, ha⟩ : ∃ a : Int, 8 * (k : Int) - 256 = a := ⟨_, rfl⟩
  have hwa : wrap64 (8 * (k : Int) - 256) = a := by unfold wrap64; omega
  have hwo : wrap64 (-(oo : Int)) = -(oo : Int) := by unfold wrap64; omega
  have HA := Lib.hid ha
  have HK := Lib.hid hk32
  have HO := Lib.hid (show (0 : Int) ≤ (oo : Int) ∧ (oo : Int) ≤ 999 by omega)
  have hm3 := andm part 2 (by decide) 3 4 rfl rfl
  clear ha hk hk32 hB hoo hol hC hcc hcl hsrc
  have hbe := run_i0
  have hbm := run_i0425
  have hbs := run_i034625
  have hbl := run_i03456
  have hba := run_i047
  have hbo := run_i0245
  have hbi := run_i03467
  obtain ⟨i0, hi0, hz0, hz1, hz2⟩ := info_split info_ins
  go_enter Tryz.func9, Tryz.ntmps9
  go_upto_region 5 with fail
  try simp only [hwa]
  clear hm31 hm62 htm hwt hk62 htc hwc hidx hw8 hwa
  go_cut [13] from 46 to 53 (fun s13 wx => ∃ sb, s13 = .slice (some ⟨sb, 0, none⟩) 3 3 ∧ w.heap.size ≤ sb ∧ Row wx sb 23 (codec [insMov 4 10, insOpi 1 4 (-(oo : Int)), insStore 8 10 src a]) ∧ Below w.heap.size w wx)
  case first =>
    go_wp2_with fail
    go_meet
    case rel => exact ⟨_, rfl, Nat.le_refl _, Row.made w (codec [insMov 4 10, insOpi 1 4 (-(oo : Int)), insStore 8 10 src a]) _, below_map w _⟩
  case rest =>
    obtain ⟨sb, rfl, hsb, hSP, hBL⟩ := hcut
    obtain ⟨w5, rfl⟩ : ∃ w5, w5 = wc := ⟨_, rfl⟩
    have HSP := Lib.hid (And.intro hsb (And.intro hSP hBL))
    clear hsb hSP hBL hwo
    go_upto_region 6 with fail
    go_cut [14] from 54 to 63 (fun s14 wx => ∃ g cap rest, s14 = .slice (some ⟨g, 0, none⟩) 7 cap ∧ w5.heap.size ≤ g ∧ Row wx g 23 (codec (pb src oo a) ++ rest) ∧ 7 ≤ cap ∧ cap ≤ maxLen ∧ Below w5.heap.size w5 wx)
    case first =>
      go_wp2_with (first
        | (go_at_call 33; go_loud (refine (copycode_of [insMov 4 10, insOpi 1 4 (-(oo : Int)), insStore 8 10 src a] _ 3 _ rfl (by decide) (by decide) _ (coded_row (l := [insMov 4 10, insOpi 1 4 (-(oo : Int)), insStore 8 10 src a]) HSP.out.2.1 (by simp) (by simp))).mono ?_; rintro e wC ⟨vC, rfl, hown, hbC⟩; obtain ⟨aC, kC, rfl⟩ := own_slice hown))
        | (at_builtin; go_loud (refine wpList_append_own _ rfl (.tmp 55) (.tmp 62) 35 rfl w5.heap.size 23 i0 (.agg #[.int .i64 0, .bool false, .bool false, .int .i64 0, .int .i64 0, .int .i64 0, .int .i64 0, .int .i64 0]) 8 56 Tryz.underlying35 hi0 hz0 hz1 hz2 rfl (by decide) (.slice aC 3 kC) 3 _ rfl (hown.alloc _) ⟨wC.heap.size, 0, none⟩ 4 4 (codec [insLoad 22 8 5 10 a, insOp 2 5 src, insMov 0 5, insExit]) rfl rfl (news_new wC (codec [insLoad 22 8 5 10 a, insOp 2 5 src, insMov 0 5, insExit]) 23) (codec_one _) (by decide) (by decide) (by have := hbC.size; simp; omega) ?_; intro v1 w1 hown1 hgrow _)))
      have hB1 : Below w5.heap.size w5 w1 := Below.grown (hbC.alloc hbC.size _) hgrow (by have := hbC.size; simp; omega) (fun j hj => (hown.lt j hj).1)
      obtain ⟨g, cap, rest, rfl, hg, hrow, hc1, hc2⟩ := own_code (l := pb src oo a) hown1 rfl (by decide)
      go_wp2_with fail
      go_meet
      case rel => exact ⟨g, cap, rest, rfl, hg, hrow, hc1, hc2, hB1⟩
    case rest =>
      obtain ⟨g, cap, rest, rfl, hg, hrow, hc1, hc2, hB1⟩ := hcut
      have HR := Lib.hid (And.intro hg (And.intro hrow (And.intro hc1 hc2)))
      have HB1 := Lib.hid hB1
      clear hg hrow hc1 hc2 hB1
      obtain ⟨w6, rfl⟩ : ∃ w6, w6 = wc := ⟨_, rfl⟩
      go_upto_region 7 with fail
      go_cut [15, 16] from 64 to 69 (fun s15 s16 wx => ∃ q x1 x2 x3, s15 = .pointer (some ⟨q, 0, none⟩) ∧ s16 = .int .i64 0 ∧ KPt w sb q g [insMov 4 10, insOpi 1 4 (-(oo : Int)), insStore 8 10 src a] [.int .i64 0, x1, x2, x3] (pb src oo a) rest wx)
      case first =>
        obtain ⟨s2, hr, h0, hx⟩ := pb_run (src := src) (o := oo) HS.out HO.out k HK.out [1]
        rw [HA.out] at hr
        have HRK := Lib.hid (runs_ok (pb src oo a) (pb_ok HS.out HO.out (by have := HA.out; have := HK.out; omega)) [1] (by unfold IsBytes; decide) (by decide) s2 hr 0 h0 [1] hx (by unfold IsBytes; decide) 1 rfl 7 rfl (some ⟨g, 0, none⟩) cap _ _ (coded_rest (HR.out.2.1.alloc (.cells #[.int .u8 1] 5)) 7 cap rfl HR.out.2.2.1 HR.out.2.2.2 (by decide)) (held1 w6 5))
        clear hr h0 hx
        go_wp2_with (go_at_call 20; refine HRK.out.mono ?_; rintro e wR ⟨b1, c1, b2, n2, c2, b3, n3, c3, rfl, hO, hbR⟩)
        go_meet
        case rel =>
          have hb : Below w6.heap.size w6 wR := (below_map w6 _).trans (hbR.mono (by simp))
          have hB5 := (HSP.out.2.2.trans (HB1.out.mono HSP.out.2.2.size))
          have hq : w6.heap.size ≤ wR.heap.size := hb.size
          have h5 := HB1.out.size
          have hl1 := HSP.out.2.1.lt
          have hl2 := HR.out.2.1.lt
          have hsz := HSP.out.2.2.size
          exact ⟨wR.heap.size, _, _, _, rfl, rfl, (hB5.trans (hb.mono hB5.size)).alloc (by omega) _, ((HSP.out.2.1.below HB1.out hl1).below hb (by omega)).alloc _, Row.made wR [.int .i64 0, .slice b1 1 c1, .slice b2 n2 c2, .slice b3 n3 c3] _, (HR.out.2.1.below hb hl2).alloc _, HSP.out.1, by omega, by have := HR.out.1; omega, by omega, by have := HR.out.1; omega, by omega⟩
      case rest =>
        obtain ⟨q, x1, x2, x3, rfl, rfl, hK⟩ := hcut
        have HKP := Lib.hid hK
        clear hK HR HB1 HSP
        obtain ⟨w7, rfl⟩ : ∃ w7, w7 = wc := ⟨_, rfl⟩
        obtain ⟨⟨_, _, _, _⟩, _⟩ := HKP.out.box.four
        go_upto_region 10 with fail
        go_cut [17] from 77 to 79 (fun s17 wx => (∃ z : Nat, SizeM z ∧ s17 = .int .i64 z) ∧ w7 = wx)
        case first =>
          have hc : part % 4 = 0 ∨ part % 4 = 1 ∨ part % 4 = 2 ∨ part % 4 = 3 := by omega
          clear r3
          rcases hc with h | h | h | h
          all_goals
            rw [h] at hm3
            clear h
            go_wp2_with fail
            go_meet
            case rel => first | exact ⟨⟨1, Or.inl rfl, rfl⟩, rfl⟩ | exact ⟨⟨2, Or.inr (Or.inl rfl), rfl⟩, rfl⟩ | exact ⟨⟨4, Or.inr (Or.inr (Or.inl rfl)), rfl⟩, rfl⟩ | exact ⟨⟨8, Or.inr (Or.inr (Or.inr rfl)), rfl⟩, rfl⟩
        case rest =>
          obtain ⟨⟨z, hz, rfl⟩, rfl⟩ := hcut
          have HZ := Lib.hid hz
          clear hz hm3
          have hm7 := fun x => andm x 3 (by decide) 7 8 rfl rfl
          go_upto_region 11 with fail
          go_cut [18] from 80 to 82 (fun s18 wx => (∃ j0 : Nat, j0 < 8 ∧ s18 = .int .i64 j0) ∧ w7 = wx)
          case first =>
            go_wp2_with fail
            go_meet
            case rel => exact ⟨J8 _ rfl, rfl⟩
          case rest =>
            obtain ⟨⟨j0, hj0, rfl⟩, rfl⟩ := hcut
            clear hm7 r3
            have hwj : wrap64 ((j0 : Int) + (z : Int)) = (j0 : Int) + (z : Int) := by have h := HZ.out; unfold SizeM at h; unfold wrap64; omega
            obtain ⟨X1, hX1⟩ : ∃ X : Bool, decide (8 < (j0 : Int) + (z : Int)) = X := ⟨_, rfl⟩
            obtain ⟨X2, hX2⟩ : ∃ X : Bool, ((z : Int) == 8) = X := ⟨_, rfl⟩
            have HJ0 := Lib.hid (And.intro hj0 (And.intro hX1 hX2))
            clear hj0
            go_upto_region 12 with fail
            go_cut [90] from 83 to 89 (fun s90 wx => s90 = .bool (X1 || X2) ∧ w7 = wx)
            case first =>
              cases X1
              all_goals
                go_wp2_with fail
                go_meet
                case rel => exact ⟨rfl, rfl⟩
            case rest =>
              obtain ⟨rfl, rfl⟩ := hcut
              clear hwj hX1 hX2
              go_upto_if 90 with fail
              go_cut [17, 18] from 83 to 90 (fun s17 s18 wx => (∃ sz j : Nat, (sz = 1 ∨ sz = 2 ∨ sz = 4) ∧ j + sz ≤ 8 ∧ s17 = .int .i64 sz ∧ s18 = .int .i64 j) ∧ w7 = wx)
              case first =>
                cases hX : (X1 || X2) with
                | true =>
                  go_wp2_with fail
                  go_meet
                  case rel => exact ⟨⟨4, 3, Or.inr (Or.inr rfl), by decide, rfl, rfl⟩, rfl⟩
                | false =>
                  go_wp2_with fail
                  go_meet
                  case rel => exact ⟨⟨z, j0, by
                    obtain ⟨_, h1, h2⟩ := HJ0.out
                    have h3 := HZ.out
                    unfold SizeM at h3
                    rw [Bool.or_eq_false_iff] at hX
                    rw [hX.2, beq_eq_false_iff_ne] at h2
                    omega, by
                    obtain ⟨_, h1, h2⟩ := HJ0.out
                    rw [Bool.or_eq_false_iff] at hX
                    rw [hX.1, decide_eq_false_iff_not] at h1
                    omega, rfl, rfl⟩, rfl⟩
              case rest =>
                obtain ⟨⟨sz, j, hsz, hj8, rfl, rfl⟩, rfl⟩ := hcut
                have HSJ := Lib.hid (And.intro hsz hj8)
                have HAR := Lib.hid (show -256 ≤ a ∧ a ≤ -8 by have := HA.out; have := HK.out; omega)
                clear hsz hj8 HJ0 HZ
                have hwaj : wrap64 (a + (j : Int)) = a + (j : Int) := by have := HAR.out; have := HSJ.out; unfold wrap64; omega
                go_upto_region 14 with fail
                go_cut [19] from 91 to 105 (fun s19 wx => ∃ g cap rest, s19 = .slice (some ⟨g, 0, none⟩) 6 cap ∧ 6 ≤ cap ∧ cap ≤ maxLen ∧ KPt w sb q g [insMov 4 10, insOpi 1 4 (-(oo : Int)), insStore 8 10 src a] [.int .i64 0, x1, x2, x3] (po src oo a (insStorei sz 10 (a + (j : Int)) 77) (insLoad 22 sz 0 10 (a + (j : Int)))) rest wx)
                case first =>
                  go_wp2_with (first
                    | (go_at_call 33; go_loud (refine (copycode_of [insMov 4 10, insOpi 1 4 (-(oo : Int)), insStore 8 10 src a] _ 3 _ rfl (by decide) (by decide) _ (coded_row (l := [insMov 4 10, insOpi 1 4 (-(oo : Int)), insStore 8 10 src a]) HKP.out.sp (by simp) (by simp))).mono ?_; rintro e wC ⟨vC, rfl, hown, hbC⟩; obtain ⟨aC, kC, rfl⟩ := own_slice hown))
                    | (at_builtin; go_loud (refine wpList_append_own _ rfl (.tmp 92) (.tmp 104) 35 rfl w7.heap.size 23 i0 (.agg #[.int .i64 0, .bool false, .bool false, .int .i64 0, .int .i64 0, .int .i64 0, .int .i64 0, .int .i64 0]) 8 56 Tryz.underlying35 hi0 hz0 hz1 hz2 rfl (by decide) (.slice aC 3 kC) 3 _ rfl (hown.alloc _) ⟨wC.heap.size, 0, none⟩ 3 3 (codec [(insStorei sz 10 (a + (j : Int)) 77), (insLoad 22 sz 0 10 (a + (j : Int))), insExit]) rfl rfl (news_new wC (codec [(insStorei sz 10 (a + (j : Int)) 77), (insLoad 22 sz 0 10 (a + (j : Int))), insExit]) 23) (codec_one _) (by decide) (by decide) (by have := hbC.size; simp; omega) ?_; intro v1 w1 hown1 hgrow _)))
                  have hB1 : Below w7.heap.size w7 w1 := Below.grown (hbC.alloc hbC.size _) hgrow (by have := hbC.size; simp; omega) (fun j hj => (hown.lt j hj).1)
                  obtain ⟨g3, cap3, rest3, rfl, hg3, hrow3, hc3, hc4⟩ := own_code (l := po src oo a (insStorei sz 10 (a + (j : Int)) 77) (insLoad 22 sz 0 10 (a + (j : Int)))) hown1 rfl (by decide)
                  go_wp2_with fail
                  go_meet
                  case rel => exact ⟨g3, cap3, rest3, rfl, hc3, hc4, HKP.out.code hB1 hrow3 hg3⟩
                case rest =>
                  obtain ⟨g2, cap2, rest2, rfl, hc1, hc2, hK⟩ := hcut
                  have HKP := Lib.hid hK
                  have HCC := Lib.hid (And.intro hc1 hc2)
                  clear hK hc1 hc2 hwaj
                  obtain ⟨w8, rfl⟩ : ∃ w8, w8 = wc := ⟨_, rfl⟩
                  have hcod := coded_rest HKP.out.row 6 cap2 rfl HCC.out.1 HCC.out.2 (by decide)
                  have HGX := Lib.hid (gi_storei sz 10 (a + (j : Int)) 77 (by have := HSJ.out; unfold SizeM; omega) (by decide) (by have := HAR.out; have := HSJ.out; omega) (by decide))
                  have HGY := Lib.hid (gi_load sz 0 10 (a + (j : Int)) (by have := HSJ.out; unfold SizeM; omega) (by decide) (by decide) (by have := HAR.out; have := HSJ.out; omega))
                  have HAO := Lib.hid (show -32768 ≤ a ∧ a < 32768 by have := HAR.out; omega)
                  obtain ⟨sx, h1, hjunk⟩ := po_run HS.out HO.out k HK.out sz j HSJ.out.1 HSJ.out.2 sz j (by have := HSJ.out; unfold SizeM; omega) HSJ.out.2 (by have := HSJ.out; omega) [] (insLoad 22 sz 0 10 (a + (j : Int))) (by rw [← HA.out])
                  rw [HA.out] at h1
                  have HRK := Lib.hid (runs_nil (po_ok HS.out HO.out HAO.out HGX.out HGY.out) 0 77 sx (h1 rfl rfl).1 (fun _ => (h1 rfl rfl).2) (fun h => absurd rfl h) 6 rfl _ _ _ hcod)
                  clear hcod h1 hjunk
                  go_upto_region 15 with fail
                  go_cut [16] from 106 to 110 (fun s16 wx => s16 = .int .i64 0 ∧ ∃ y1 y2 y3, KPt w sb q g2 [insMov 4 10, insOpi 1 4 (-(oo : Int)), insStore 8 10 src a] [.int .i64 77, y1, y2, y3] (po src oo a (insStorei sz 10 (a + (j : Int)) 77) (insLoad 22 sz 0 10 (a + (j : Int)))) rest2 wx)
                  case first =>
                    go_wp2_with (go_at_call 20; refine HRK.out.mono ?_; rintro e wR ⟨b1, n1, c1, b2, n2, c2, b3, n3, c3, rfl, hbR⟩; have hkr := HKP.out.next hbR; obtain ⟨⟨_, _, _, _⟩, _, _, _, _⟩ := hkr.box.four)
                    go_meet
                    case rel => exact ⟨rfl, _, _, _, hkr.put4 _ _ _ _⟩
                  case rest =>
                    obtain ⟨rfl, y1, y2, y3, hK⟩ := hcut
                    have HKP := Lib.hid hK
                    clear hK HRK
                    obtain ⟨w9, rfl⟩ : ∃ w9, w9 = wc := ⟨_, rfl⟩
                    obtain ⟨⟨_, _, _, _⟩, _⟩ := HKP.out.box.four
                    go_upto_region 18 with fail
                    have hwj1 : wrap64 ((j : Int) - 1) = (j : Int) - 1 := by have := HSJ.out; unfold wrap64; omega
                    go_upto_if 121 with fail
                    go_cut [20] from 118 to 121 (fun s20 wx => (∃ oj : Nat, (oj + 1 = j ∨ j = 0 ∧ oj = 7) ∧ s20 = .int .i64 oj) ∧ w9 = wx)
                    case first =>
                      by_cases hj : j = 0
                      · have q : ((j : Int) == 0) = true := by rw [hj]; rfl
                        try simp only [q]
                        go_wp2_with fail
                        go_meet
                        case rel => exact ⟨⟨7, Or.inr ⟨hj, rfl⟩, rfl⟩, rfl⟩
                      · have q : ((j : Int) == 0) = false := by simp; omega
                        try simp only [q]
                        go_wp2_with fail
                        go_meet
                        case rel => exact ⟨⟨j - 1, Or.inl (by omega), congrArg (Value.int .i64) (by omega)⟩, rfl⟩
                    case rest =>
                      obtain ⟨⟨oj, hoj, rfl⟩, rfl⟩ := hcut
                      have HOJ := Lib.hid hoj
                      clear hoj hwj1
                      have hwo : wrap64 (a + (oj : Int)) = a + (oj : Int) := by have := HAR.out; have := HSJ.out; have := HOJ.out; unfold wrap64; omega
                      obtain ⟨⟨_, _, _, _, _, _, _, _⟩, _, _, _, _, _, _, _, _⟩ := eight32 HKP.out.row (insLoad 22 sz 0 10 (a + (j : Int))) (fun j u hj => codec_at4 hj)
                      have hcap : (6 : Int) ≤ (cap2 : Int) := by have := HCC.out; omega
                      go_upto_region 21 with fail
                      go_cut [] from 122 to 127 (fun wx => KPt w sb q g2 [insMov 4 10, insOpi 1 4 (-(oo : Int)), insStore 8 10 src a] [.int .i64 77, y1, y2, y3] (po src oo a (insStorei sz 10 (a + (j : Int)) 77) (insLoad 22 1 0 10 (a + (oj : Int)))) rest2 wx)
                      case first =>
                        go_wp2_with fail
                        go_meet
                        case rel => exact HKP.out.put 32 (insLoad 22 1 0 10 (a + (oj : Int))) (over_po4 _ _ _ _ _ _ _)
                      case rest =>
                        have HKP2 := Lib.hid hcut
                        clear hcut HKP hwo
                        obtain ⟨w10, rfl⟩ : ∃ w10, w10 = wc := ⟨_, rfl⟩
                        have HGO := Lib.hid (gi_load 1 0 10 (a + (oj : Int)) (Or.inl rfl) (by decide) (by decide) (by have := HAR.out; have := HSJ.out; have := HOJ.out; omega))
                        obtain ⟨sx, hjunk, h2⟩ := po_run HS.out HO.out k HK.out sz j HSJ.out.1 HSJ.out.2 1 oj (Or.inl rfl) (by have := HOJ.out; have := HSJ.out; omega) (by decide) [] (insLoad 22 1 0 10 (a + (oj : Int))) (by rw [← HA.out])
                        rw [HA.out] at h2
                        have HRK := Lib.hid (runs_nil (po_ok HS.out HO.out HAO.out HGX.out HGO.out) 82 0 sx (h2 rfl (by have := HOJ.out; omega)) (fun h => absurd h (by decide)) (fun _ => rfl) 6 rfl _ _ _ (coded_rest HKP2.out.row 6 cap2 rfl HCC.out.1 HCC.out.2 (by decide)))
                        clear h2 hjunk
                        go_upto_region 22 with fail
                        go_cut [16] from 128 to 132 (fun s16 wx => s16 = .int .i64 82 ∧ KPt w sb q g2 [insMov 4 10, insOpi 1 4 (-(oo : Int)), insStore 8 10 src a] [.int .i64 77, y1, y2, y3] (po src oo a (insStorei sz 10 (a + (j : Int)) 77) (insLoad 22 1 0 10 (a + (oj : Int)))) rest2 wx)
                        case first =>
                          go_wp2_with (go_at_call 20; refine HRK.out.mono ?_; rintro e wR ⟨b1, n1, c1, b2, n2, c2, b3, n3, c3, rfl, hbR⟩)
                          go_meet
                          case rel => exact ⟨rfl, HKP2.out.next hbR⟩
                        case rest =>
                          obtain ⟨rfl, hK⟩ := hcut
                          have HKP := Lib.hid hK
                          clear hK HRK HKP2
                          obtain ⟨w11, rfl⟩ : ∃ w11, w11 = wc := ⟨_, rfl⟩
                          have hwaj : wrap64 (a + (j : Int)) = a + (j : Int) := by have := HAR.out; have := HSJ.out; unfold wrap64; omega
                          obtain ⟨⟨_, _, _, _, _, _, _, _⟩, _, _, _, _, _, _, _, _⟩ := eight24 HKP.out.row (insStorei sz 10 (a + (j : Int)) 77) (fun j u hj => codec_at3 hj)
                          go_upto_region 25 with fail
                          go_cut [] from 135 to 141 (fun wx => KPt w sb q g2 [insMov 4 10, insOpi 1 4 (-(oo : Int)), insStore 8 10 src a] [.int .i64 77, y1, y2, y3] (po src oo a (insLoad 22 sz 0 10 (a + (j : Int))) (insLoad 22 1 0 10 (a + (oj : Int)))) rest2 wx)
                          case first =>
                            go_wp2_with fail
                            go_meet
                            case rel => exact HKP.out.put 24 (insLoad 22 sz 0 10 (a + (j : Int))) (over_po3 _ _ _ _ _ _ _)
                          case rest =>
                            have HKP2 := Lib.hid hcut
                            clear hcut HKP hwaj
                            obtain ⟨w12, rfl⟩ : ∃ w12, w12 = wc := ⟨_, rfl⟩
                            have h3 := pk_run HS.out HO.out k HK.out sz (8 * k + j) 0 (by have := HSJ.out; unfold SizeM; omega) (by have := HSJ.out; have := HK.out; omega) (by have := HSJ.out; omega) (by have := HSJ.out; omega) (fun h => by have := HSJ.out; omega) (a + (j : Int)) (by have := HA.out; omega) [] (insLoad 22 1 0 10 (a + (oj : Int)))
                            rw [HA.out] at h3
                            have HRK := Lib.hid (runs_nil (po_ok HS.out HO.out HAO.out HGY.out HGO.out) 80 0 _ h3 (fun h => absurd h (by decide)) (fun _ => rfl) 6 rfl _ _ _ (coded_rest HKP2.out.row 6 cap2 rfl HCC.out.1 HCC.out.2 (by decide)))
                            clear h3
                            go_upto_region 26 with fail
                            go_cut [16] from 142 to 146 (fun s16 wx => s16 = .int .i64 80 ∧ KPt w sb q g2 [insMov 4 10, insOpi 1 4 (-(oo : Int)), insStore 8 10 src a] [.int .i64 77, y1, y2, y3] (po src oo a (insLoad 22 sz 0 10 (a + (j : Int))) (insLoad 22 1 0 10 (a + (oj : Int)))) rest2 wx)
                            case first =>
                              go_wp2_with (go_at_call 20; refine HRK.out.mono ?_; rintro e wR ⟨b1, n1, c1, b2, n2, c2, b3, n3, c3, rfl, hbR⟩)
                              go_meet
                              case rel => exact ⟨rfl, HKP2.out.next hbR⟩
                            case rest =>
                              obtain ⟨rfl, hK⟩ := hcut
                              have HKO := Lib.hid hK
                              clear hK HRK HKP2
                              obtain ⟨w13, rfl⟩ : ∃ w13, w13 = wc := ⟨_, rfl⟩
                              have hm63 := andm off 6 (by decide) 63 64 rfl rfl
                              obtain ⟨e6, he6⟩ : ∃ e6 : Nat, off % 64 = e6 := ⟨(off % 64).toNat, by omega⟩
                              rw [he6] at hm63
                              have he6l : e6 < 64 := by omega
                              have hm7 := andm off 3 (by decide) 7 8 rfl rfl
                              obtain ⟨e7, he7⟩ : ∃ e7 : Nat, off % 8 = e7 := ⟨(off % 8).toNat, by omega⟩
                              rw [he7] at hm7
                              have he7l : e7 < 8 := by omega
                              obtain ⟨b6, hb6⟩ : ∃ b6 : Int, -9 - (e6 : Int) = b6 := ⟨_, rfl⟩
                              have hwb : wrap64 (-9 - (e6 : Int)) = b6 := by unfold wrap64; omega
                              have HE6 := Lib.hid (And.intro he6l (And.intro he7l hb6))
                              have HM7 := Lib.hid hm7
                              clear he6 he7 he6l he7l hb6 hm7
                              go_upto_region 27 with fail
                              go_cut [21] from 147 to 158 (fun s21 wx => ∃ g4 cap4 rest4, s21 = .slice (some ⟨g4, 0, none⟩) 5 cap4 ∧ 5 ≤ cap4 ∧ cap4 ≤ maxLen ∧ Row wx g4 23 (codec (pl oo (insStore 8 10 src b6)) ++ rest4) ∧ w13.heap.size ≤ g4 ∧ Below w13.heap.size w13 wx)
                              case first =>
                                have hc2 := coded_rest (l := [insMov 4 10, insOpi 1 4 (-(oo : Int))]) (rest := codec [insStore 8 10 src a]) (show Row w13 sb 23 (codec [insMov 4 10, insOpi 1 4 (-(oo : Int))] ++ codec [insStore 8 10 src a]) from HKO.out.sp) 2 3 rfl (by decide) (by decide) (by decide)
                                have HC2 := Lib.hid hc2
                                clear hc2
                                go_wp2_with (first
                                  | (go_at_call 33; go_loud (refine (copycode_of [insMov 4 10, insOpi 1 4 (-(oo : Int))] _ 2 _ rfl (by decide) (by decide) _ HC2.out).mono ?_; rintro e wC ⟨vC, rfl, hown, hbC⟩; obtain ⟨aC, kC, rfl⟩ := own_slice hown))
                                  | (at_builtin; go_loud (refine wpList_append_own _ rfl (.tmp 149) (.tmp 157) 35 rfl w13.heap.size 23 i0 (.agg #[.int .i64 0, .bool false, .bool false, .int .i64 0, .int .i64 0, .int .i64 0, .int .i64 0, .int .i64 0]) 8 56 Tryz.underlying35 hi0 hz0 hz1 hz2 rfl (by decide) (.slice aC 2 kC) 2 _ rfl (hown.alloc _) ⟨wC.heap.size, 0, none⟩ 3 3 (codec [insStore 8 10 src b6, insMovi 0 1, insExit]) rfl rfl (news_new wC (codec [insStore 8 10 src b6, insMovi 0 1, insExit]) 23) (codec_one _) (by decide) (by decide) (by have := hbC.size; simp; omega) ?_; intro v1 w1 hown1 hgrow _)))
                                have hB1 : Below w13.heap.size w13 w1 := Below.grown (hbC.alloc hbC.size _) hgrow (by have := hbC.size; simp; omega) (fun j hj => (hown.lt j hj).1)
                                obtain ⟨g4, cap4, rest4, rfl, hg4, hrow4, hc5, hc6⟩ := own_code (l := pl oo (insStore 8 10 src b6)) hown1 rfl (by decide)
                                go_wp2_with fail
                                go_meet
                                case rel => exact ⟨g4, cap4, rest4, rfl, hc5, hc6, hrow4, hg4, hB1⟩
                              case rest =>
                                obtain ⟨g4, cap4, rest4, rfl, hc5, hc6, hrow4, hg4, hB4⟩ := hcut
                                have HCC4 := Lib.hid (And.intro hc5 (And.intro hc6 hg4))
                                have HR4 := Lib.hid (And.intro hrow4 hB4)
                                clear hc5 hc6 hrow4 hg4 hB4 hwb
                                obtain ⟨w14, rfl⟩ : ∃ w14, w14 = wc := ⟨_, rfl⟩
                                obtain ⟨F, R0, sx, hrF, hR0, hR1, hF⟩ : ∃ (F R0 : Int) (sx : Mst), runF ⟨[], [], pl oo (insStore 8 10 src b6)⟩ 1048576 (st0 []) = (F, sx) ∧ (F = 0 → (sx.reg 0).x = R0) ∧ (F ≠ 0 → R0 = 0) ∧ (F = 86 ∨ F = 0 ∧ (9 + (e6 : Int)) % 8 = 0) := by
                                  obtain ⟨sx, p1, p2⟩ := pl_stack (src := src) (o := oo) HS.out HO.out (247 - e6) (by omega) b6 (by have := HE6.out; omega) []
                                  by_cases h8 : (247 - e6) % 8 = 0
                                  · exact ⟨0, 1, sx, (p2 h8).1, fun _ => (p2 h8).2, fun h => absurd rfl h, Or.inr ⟨rfl, by have := HE6.out; omega⟩⟩
                                  · exact ⟨86, 0, sx, p1 h8, fun h => absurd h (by decide), fun _ => rfl, Or.inl rfl⟩
                                have HF := Lib.hid hF
                                have HRK := Lib.hid (runs_nil (pl_ok HO.out (gi_store 8 10 src b6 (by unfold SizeM; omega) (by decide) HS.out.r (by have := HE6.out; omega))) F R0 sx hrF hR0 hR1 5 rfl _ _ _ (coded_rest HR4.out.1 5 cap4 rfl HCC4.out.1 HCC4.out.2.1 (by decide)))
                                clear hrF hR0 hR1 hF
                                go_upto_region 28 with fail
                                go_cut [23] from 159 to 163 (fun s23 wx => s23 = .int .i64 F ∧ Below w14.heap.size w14 wx)
                                case first =>
                                  go_wp2_with (go_at_call 20; refine HRK.out.mono ?_; rintro e wR ⟨b1, n1, c1, b2, n2, c2, b3, n3, c3, rfl, hbR⟩)
                                  go_meet
                                  case rel => exact ⟨rfl, hbR.alloc hbR.size _⟩
                                case rest =>
                                  obtain ⟨rfl, hb⟩ := hcut
                                  have HR5 := Lib.hid (And.intro (HR4.out.1.below hb HR4.out.1.lt) (HR4.out.2.trans (hb.mono HR4.out.2.size)))
                                  clear hb HRK HR4
                                  obtain ⟨w15, rfl⟩ : ∃ w15, w15 = wc := ⟨_, rfl⟩
                                  obtain ⟨⟨_, _, _, _, _, _, _, _⟩, _, _, _, _, _, _, _, _⟩ := eight16 HR5.out.1 (insStore 8 10 src b6) (fun j u hj => codec_at2 hj)
                                  have hm7 := HM7.out
                                  have hcap : (5 : Int) ≤ (cap4 : Int) := by have := HCC4.out; omega
                                  go_upto_region 29 with fail
                                  go_cut [] from 164 to 169 (fun wx => Row wx g4 23 (codec (pl oo (insStore 8 1 src e7)) ++ rest4) ∧ Below w13.heap.size w13 wx)
                                  case first =>
                                    go_wp2_with fail
                                    go_meet
                                    case rel => exact ⟨by have h := HR5.out.1.over8 16 (insStore 8 1 src e7); rw [over_pl] at h; exact h, below_put8 HR5.out.2 HCC4.out.2.2 16 (insStore 8 1 src e7)⟩
                                  case rest =>
                                    have HR6 := Lib.hid hcut
                                    clear hcut HR5
                                    obtain ⟨w16, rfl⟩ : ∃ w16, w16 = wc := ⟨_, rfl⟩
                                    have HPL := Lib.hid (pl_ok (x := insStore 8 1 src e7) HO.out (gi_store 8 1 src e7 (by unfold SizeM; omega) (by decide) HS.out.r (by have := HE6.out; omega)))
                                    obtain ⟨z20, hz20⟩ : ∃ z : List Value, z = utab 20 (fun _ => 0) := ⟨_, rfl⟩
                                    have hmk : ∀ w : World, (Instr.makeSlice 27 (.int .i64 20) (.int .i64 20)).run Tryz.prog w = .ok (.slice (some ⟨w.heap.size, 0, none⟩) 20 20) (w.alloc (.cells z20.toArray 5)) := by rw [hz20]; exact make_bytes 20 (by decide)
                                    obtain ⟨zz, hzz⟩ : ∃ zz : List Int, zz = List.replicate 20 0 := ⟨_, rfl⟩
                                    have hzh : Held (w16.alloc (.cells z20.toArray 5)) (.slice (some ⟨w16.heap.size, 0, none⟩) 20 20) zz := by rw [hz20, hzz]; exact held0 w16 20 (by decide)
                                    obtain ⟨sy, q1, hjunk⟩ := pl_ctx (src := src) (o := oo) HS.out HO.out e7 zz
                                    have HRK := Lib.hid (runs_trap8 (pl oo (insStore 8 1 src e7)) HPL.out zz hzh.bytes (by rw [hzz]; simp) 86 (by decide) sy (q1 (by have := HE6.out; rw [hzz]; simp; omega)) 5 rfl _ _ _ _ (coded_rest (HR6.out.1.alloc (.cells z20.toArray 5)) 5 cap4 rfl HCC4.out.1 HCC4.out.2.1 (by decide)) hzh)
                                    clear hz20 hzz hzh q1 hjunk
                                    go_upto_region 30 with fail
                                    go_cut [25] from 170 to 175 (fun s25 wx => s25 = .int .i64 86 ∧ Below w16.heap.size w16 wx)
                                    case first =>
                                      go_wp2_with (go_at_call 20; refine HRK.out.mono ?_; rintro e wR ⟨b1, n1, c1, b2, n2, c2, b3, n3, c3, rfl, hbR⟩; have hbR2 := (below_map w16 _).trans (hbR.mono (by simp)))
                                      go_meet
                                      case rel => exact ⟨rfl, hbR2.alloc hbR2.size _⟩
                                    case rest =>
                                      obtain ⟨rfl, hb⟩ := hcut
                                      have HR7 := Lib.hid (And.intro (HR6.out.1.below hb HR6.out.1.lt) (HR6.out.2.trans (hb.mono HR6.out.2.size)))
                                      clear hb HRK HR6 hmk
                                      obtain ⟨w17, rfl⟩ : ∃ w17, w17 = wc := ⟨_, rfl⟩
                                      obtain ⟨n7, hn7⟩ : ∃ n7 : Nat, n7 = 7 + e7 := ⟨_, rfl⟩
                                      have he7n : 7 + (e7 : Int) = (n7 : Int) := by omega
                                      have hmk7 := make_bytes n7 (by have := HE6.out; omega)
                                      obtain ⟨z7, hz7⟩ : ∃ z : List Value, z = utab n7 (fun _ => 0) := ⟨_, rfl⟩
                                      rw [← hz7] at hmk7
                                      obtain ⟨zz, hzz⟩ : ∃ zz : List Int, zz = List.replicate n7 0 := ⟨_, rfl⟩
                                      have hzh : Held (w17.alloc (.cells z7.toArray 5)) (.slice (some ⟨w17.heap.size, 0, none⟩) n7 n7) zz := by rw [hz7, hzz]; exact held0 w17 n7 (by have := HE6.out; omega)
                                      obtain ⟨sy, hjunk, q1⟩ := pl_ctx (src := src) (o := oo) HS.out HO.out e7 zz
                                      have HRK := Lib.hid (runs_trap8 (pl oo (insStore 8 1 src e7)) HPL.out zz hzh.bytes (by rw [hzz]; simp; have := HE6.out; omega) 81 (by decide) sy (q1 (by rw [hzz]; simp; omega)) 5 rfl _ _ _ _ (coded_rest (HR7.out.1.alloc (.cells z7.toArray 5)) 5 cap4 rfl HCC4.out.1 HCC4.out.2.1 (by decide)) hzh)
                                      clear hz7 hzz hzh q1 hjunk
                                      have hm7 := HM7.out
                                      have hwn7 : wrap64 (n7 : Int) = (n7 : Int) := by have := HE6.out; unfold wrap64; omega
                                      clear hn7
                                      go_upto_region 31 with fail
                                      go_cut [27] from 176 to 184 (fun s27 wx => s27 = .int .i64 81 ∧ Below w17.heap.size w17 wx)
                                      case first =>
                                        go_wp2_with (go_at_call 20; refine HRK.out.mono ?_; rintro e wR ⟨b1, n1, c1, b2, n2, c2, b3, n3, c3, rfl, hbR⟩; have hbR2 := (below_map w17 _).trans (hbR.mono (by simp)))
                                        go_meet
                                        case rel => exact ⟨rfl, hbR2.alloc hbR2.size _⟩
                                      case rest =>
                                        obtain ⟨rfl, hb⟩ := hcut
                                        have HO13 := Lib.hid (HKO.out.next (HR7.out.2.trans (hb.mono HR7.out.2.size)))
                                        clear hb HRK HR7 hmk7 he7n hwn7 hm7 HKO
                                        obtain ⟨w18, rfl⟩ : ∃ w18, w18 = wc := ⟨_, rfl⟩
                                        go_upto_if 188 with fail
                                        go_cut [] from 187 to 207 (fun wx => Row wx sb 23 (codec [insMov 4 10, insOpi 1 4 (-(oo : Int)), insStore 8 10 src a]) ∧ Below w.heap.size w wx)
                                        case first =>
                                          by_cases hk0 : 0 < k
                                          · have qk : decide (0 < (k : Int)) = true := by simp; omega
                                            have qkn : decide (0 < k) = true := by simp; omega
                                            obtain ⟨⟨_, _, _, _, _, _, _, _⟩, _, _, _, _, _, _, _, _⟩ := eight24 HO13.out.row (insLoad 22 sz 0 10 (a + (j : Int))) (fun j u hj => codec_at3 hj)
                                            have hwa4 : wrap64 (a - 4) = a - 4 := by have := HAR.out; unfold wrap64; omega
                                            have hcap : (6 : Int) ≤ (cap2 : Int) := by have := HCC.out; omega
                                            have HK0 := Lib.hid hk0
                                            clear hk0
                                            try simp only [qk]
                                            try simp only [qkn]
                                            go_upto_region 35 with fail
                                            go_cut [] from 189 to 193 (fun wx => KPt w sb q g2 [insMov 4 10, insOpi 1 4 (-(oo : Int)), insStore 8 10 src a] [.int .i64 77, y1, y2, y3] (po src oo a (insLoad 22 8 0 10 (a - 4)) (insLoad 22 1 0 10 (a + (oj : Int)))) rest2 wx)
                                            case first =>
                                              go_wp2_with fail
                                              go_meet
                                              case rel => exact HO13.out.put 24 (insLoad 22 8 0 10 (a - 4)) (over_po3 _ _ _ _ _ _ _)
                                            case rest =>
                                              have HO14 := Lib.hid hcut
                                              clear hcut hwa4
                                              obtain ⟨w19, rfl⟩ : ∃ w19, w19 = wc := ⟨_, rfl⟩
                                              have h3 := pk_run HS.out HO.out k HK.out 8 (8 * k - 4) 4 (by unfold SizeM; omega) (by have := HK.out; omega) (by decide) (by have := HK0.out; omega) (fun _ => by have := HK0.out; omega) (a - 4) (by have := HA.out; have := HK0.out; omega) [] (insLoad 22 1 0 10 (a + (oj : Int)))
                                              rw [HA.out] at h3
                                              have HRK := Lib.hid (runs_nil (po_ok HS.out HO.out HAO.out (gi_load 8 0 10 (a - 4) (by unfold SizeM; omega) (by decide) (by decide) (by have := HAR.out; omega)) HGO.out) 80 0 _ h3 (fun h => absurd h (by decide)) (fun _ => rfl) 6 rfl _ _ _ (coded_rest HO14.out.row 6 cap2 rfl HCC.out.1 HCC.out.2 (by decide)))
                                              clear h3
                                              go_upto_region 36 with fail
                                              go_cut [29] from 194 to 198 (fun s29 wx => s29 = .int .i64 80 ∧ Below w19.heap.size w19 wx)
                                              case first =>
                                                go_wp2_with (go_at_call 20; refine HRK.out.mono ?_; rintro e wR ⟨b1, n1, c1, b2, n2, c2, b3, n3, c3, rfl, hbR⟩)
                                                go_meet
                                                case rel => exact ⟨rfl, hbR.alloc hbR.size _⟩
                                              case rest =>
                                                obtain ⟨rfl, hb⟩ := hcut
                                                have HO15 := Lib.hid (HO14.out.next hb)
                                                clear hb HRK
                                                obtain ⟨w20, rfl⟩ : ∃ w20, w20 = wc := ⟨_, rfl⟩
                                                obtain ⟨⟨_, _, _, _, _, _, _, _⟩, _, _, _, _, _, _, _, _⟩ := eight24 HO15.out.row (insLoad 22 8 0 10 (a - 4)) (fun j u hj => codec_at3 hj)
                                                have hwaj : wrap64 (a + (j : Int)) = a + (j : Int) := by have := HAR.out; have := HSJ.out; unfold wrap64; omega
                                                go_wp2_with fail
                                                go_meet
                                                case rel =>
                                                  have h := HO15.out.put (l' := po src oo a (insLoad 22 sz 0 10 (a + (j : Int))) (insLoad 22 1 0 10 (a + (oj : Int)))) 24 (insLoad 22 sz 0 10 (a + (j : Int))) (over_po3 _ _ _ _ _ _ _)
                                                  exact ⟨h.sp, h.bel⟩
                                          · have qk : decide (0 < (k : Int)) = false := by simp; omega
                                            have qkn : decide (0 < k) = false := by simp; omega
                                            clear hk0
                                            try simp only [qk]
                                            try simp only [qkn]
                                            go_wp2_with fail
                                            go_meet
                                            case rel => exact ⟨HO13.out.sp, HO13.out.bel⟩
                                        case rest =>
                                          have HSB := Lib.hid hcut
                                          clear hcut HO13
                                          obtain ⟨w21, rfl⟩ : ∃ w21, w21 = wc := ⟨_, rfl⟩
                                          obtain ⟨⟨_, _, _, _, _, _, _, _⟩, _⟩ := eight0 HSB.out.1 (insMov 4 10) (fun j u hj => codec_sp0 hj)
                                          obtain ⟨⟨_, _, _, _, _, _, _, _⟩, _⟩ := eight8 HSB.out.1 (insOpi 1 4 (-(oo : Int))) (fun j u hj => codec_sp1 hj)
                                          go_upto_region 40 with fail
                                          go_cut [30] from 208 to 217 (fun s30 wx => ∃ g5, s30 = .slice (some ⟨g5, 0, none⟩) 4 4 ∧ Row wx g5 23 (codec (pt src oo)) ∧ Below w.heap.size w wx)
                                          case first =>
                                            have hltg := HSB.out.1.lt
                                            go_region
                                            go_wp2_with fail
                                            go_meet
                                            case rel =>
                                              have hm := Row.made w21 (codec (pt src oo)) 23
                                              exact ⟨_, rfl, hm.below (Below.refl _ _).drew hm.lt, (HSB.out.2.alloc HSB.out.2.size _).drew⟩
                                          case rest =>
                                            obtain ⟨g5, rfl, hR5, hB5⟩ := hcut
                                            have HR5 := Lib.hid (And.intro hR5 hB5)
                                            clear hR5 hB5
                                            obtain ⟨w22, rfl⟩ : ∃ w22, w22 = wc := ⟨_, rfl⟩
                                            obtain ⟨sz2, hrt⟩ := pt_run (src := src) (o := oo) HS.out HO.out []
                                            have HRK := Lib.hid (runs_nil (pt_ok HS.out HO.out) 86 0 sz2 hrt (fun h => absurd h (by decide)) (fun _ => rfl) 4 rfl _ _ _ (coded_row (l := pt src oo) HR5.out.1 (by simp [pt]) (by simp [pt])))
                                            clear hrt
                                            go_upto_region 41 with fail
                                            go_cut [32] from 218 to 222 (fun s32 wx => s32 = .int .i64 86 ∧ Below w22.heap.size w22 wx)
                                            case first =>
                                              go_wp2_with (go_at_call 20; refine HRK.out.mono ?_; rintro e wR ⟨b1, n1, c1, b2, n2, c2, b3, n3, c3, rfl, hbR⟩)
                                              go_meet
                                              case rel => exact ⟨rfl, hbR.alloc hbR.size _⟩
                                            case rest =>
                                              obtain ⟨rfl, hb⟩ := hcut
                                              have HBE := Lib.hid (HR5.out.2.trans (hb.mono HR5.out.2.size))
                                              clear hb HRK
                                              have htm6 : (9 + (e6 : Int)) % 8 = 0 → (-9 - (e6 : Int)).tmod 8 = 0 := fun h => by
                                                rw [show (-9 - (e6 : Int)) = -(9 + (e6 : Int)) by omega, Int.neg_tmod, Int.tmod_eq_emod_of_nonneg (by omega), h]
                                                rfl
                                              have hwb6 : wrap64 (-9 - (e6 : Int)) = -9 - (e6 : Int) := by have := HE6.out; unfold wrap64; omega
                                              rcases HF.out with h | ⟨h, h8⟩
                                              · subst h
                                                clear htm6 hwb6
                                                go_wp2_with fail
                                                go_ret
                                                exact ⟨rfl, HBE.out⟩
                                              · subst h
                                                have ht := htm6 h8
                                                clear htm6 h8
                                                go_wp2_with fail
                                                go_ret
                                                exact ⟨rfl, HBE.out⟩


theorem fact_wf : (Rows.machPointersRow.wf (OpenSpec.ofChange Rows.machPointersSpec)) = true := by kernel_rfl
theorem fact_rd : (Tryz.f9.params.all ((Tryz.prog).readableRec ·)) = true := by kernel_rfl
theorem fact_nt : (namedTie (Tryz.prog) Rows.machPointersRow.named Rows.machPointersSpec.vars) = true := by kernel_rfl
theorem fact_s1 : ((Rows.machPointersRow.stops == [])) = true := by kernel_rfl
theorem fact_k1 : ((Rows.machPointersRow.knobs == [])) = true := by kernel_rfl
theorem fact_ip : ((Rows.machPointersRow.inPlace == (Tryz.prog).inPlace 9)) = true := by kernel_rfl
theorem fact_uf : ((Rows.machPointersRow.unfollowed == (Tryz.prog).unfollowed 9)) = true := by kernel_rfl
theorem fact_rc : ((Rows.machPointersRow.recurses == (Tryz.prog).recurses 9)) = true := by kernel_rfl
theorem fact_nm : ((Rows.machPointersRow.named == (Tryz.prog).varsNamed 9)) = true := by kernel_rfl
theorem fact_mp : ((Rows.machPointersRow.maps == (Tryz.f9.params.toList ++ Rows.machPointersSpec.plain.varTypes (Tryz.prog)).any ((Tryz.prog).mapsRec ·))) = true := by kernel_rfl
theorem fact_if : ((Rows.machPointersRow.ifaces == (Tryz.f9.params.toList ++ Rows.machPointersSpec.plain.varTypes (Tryz.prog)).any ((Tryz.prog).ifacesRec ·))) = true := by kernel_rfl
theorem fact_mo : ((Rows.machPointersRow.mapsOut == (Tryz.prog).mapsAmong Tryz.f9.resultTypes.toList)) = true := by kernel_rfl
theorem fact_lp : ((Rows.machPointersRow.loops == (Tryz.f9.params.toList ++ Rows.machPointersSpec.plain.varTypes (Tryz.prog)).any ((Tryz.prog).loopsFrom ·))) = true := by kernel_rfl
theorem fact_wk : ((Rows.machPointersRow.wideKeys == (Tryz.f9.params.toList ++ Rows.machPointersSpec.plain.varTypes (Tryz.prog) ++ Tryz.f9.resultTypes.toList).any ((Tryz.prog).wideKeysFrom ·))) = true := by kernel_rfl
theorem fact_vr : (Rows.machPointersSpec.vars.all ((Tryz.prog).varReadable ·)) = true := by kernel_rfl
theorem fact_rr : (Tryz.f9.resultTypes.all (fun t => (Tryz.prog).readableRec t && decide (t < (Tryz.prog).types.size))) = true := by kernel_rfl
theorem fact_io : ((Rows.machPointersRow.ifacesOut == Tryz.f9.resultTypes.toList.any ((Tryz.prog).ifacesRec ·))) = true := by kernel_rfl
theorem fact_ol : ((Rows.machPointersRow.loopsOut == Tryz.f9.resultTypes.toList.any ((Tryz.prog).loopsFrom ·))) = true := by kernel_rfl
theorem fact_pk : ((Rows.machPointersRow.plainKeys == (Tryz.prog).plainKeys)) = true := by kernel_rfl
theorem fact_st : (Rows.machPointersRow.shortTexts.isNone) = true := by kernel_rfl
theorem fact_lf : ((Rows.machPointersRow.lifted == (Tryz.prog).liftsFinal)) = true := by kernel_rfl
theorem fact_mk : (((Tryz.prog).make == some Rows.machPointersRow.make)) = true := by kernel_rfl
theorem fact_kd : ((Rows.machPointersRow.kinds == (if Rows.machPointersRow.domain.isEmpty then [] else Tryz.f9.params.toList.map fun t => match (Tryz.prog).underlying t with | some (.int k) => some k | _ => none))) = true := by kernel_rfl
theorem fact_pn : ((Rows.machPointersRow.pinned == Rows.machPointersRow.pinnedBy)) = true := by kernel_rfl
theorem fact_vl : ((Rows.machPointersRow.veiled == (Tryz.f9.params.toList ++ Rows.machPointersSpec.plain.varTypes (Tryz.prog) ++ Tryz.f9.resultTypes.toList).any ((Tryz.prog).veiledRec ·))) = true := by kernel_rfl
theorem fact_vf : (Rows.machPointersRow.veiledFits (Tryz.prog) Tryz.f9.params.toList (Tryz.f9.params.toList ++ Rows.machPointersSpec.plain.varTypes (Tryz.prog) ++ Tryz.f9.resultTypes.toList)) = true := by kernel_rfl
set_option maxRecDepth 100000 in
theorem closed : joinedFacts Tryz.prog 9 Tryz.f9 Rows.machPointersSpec Rows.machPointersRow = true :=
  closed_of fact_wf fact_lo fact_mr fact_rd fact_nt fact_s1 fact_s2 fact_k1 fact_k2 fact_ip fact_uf fact_rc fact_nm fact_mp fact_if fact_mo fact_lp fact_wk fact_vr fact_rr fact_io fact_ol fact_pk fact_st fact_sh fact_me fact_lf fact_mk fact_kd fact_pn fact_vl fact_vf

theorem own : ownKnob Tryz.prog.godebug = none := by kernel_rfl
set_option maxRecDepth 100000 in
theorem lifted (os : Os) (started : os.Started) (H : Type) (enc : TypeId × Value → H) :
    ReturnsInHanded {} Tryz.checked os 9 .any (Rows.machPointersSpec.pre6 enc Tryz.prog Tryz.f9 Rows.machPointersRow.domain false) (Rows.machPointersSpec.post enc Tryz.prog Tryz.f9 false true false false) := by
  refine returnsInHanded_of_change (C := Tryz.checked) own started (by kernel_rfl) Tryz.func9
    (ChangeSpec.witness6 (enc := enc) (C := Tryz.checked) false ⟨#[], #[.int .i64 0, .int .i64 0, .int .i64 0, .int .i64 0], []⟩ 8 (by kernel_rfl) (by kernel_rfl) (by kernel_rfl) (by kernel_rfl)) ?_
  intro W base args ds gs before hval0 hW hcnd _
  have hval : ∀ (j : Nat) t v, Tryz.f9.params[j]? = some t → args[j]? = some v → Value.okWide Tryz.prog W .any base t v := hval0
  have hW' := hW
  obtain ⟨p, q, hA0, hV, rfl, hfz, hnd⟩ := hW
  have hA : DataW.TrodAll enc Tryz.prog W 0 (fun _ => true) true Tryz.f9.params.toList args.toList ds p := hA0
  rw [Tryz.params9] at hA hval
  obtain ⟨v0, vs0, d0, ds0, p0, q0, hargs, rfl, rfl, h0, r0⟩ := trodAll_cons hA
  obtain ⟨v1, vs1, d1, ds1, p1, q1, rfl, rfl, rfl, h1, r1⟩ := trodAll_cons r0
  obtain ⟨v2, vs2, d2, ds2, p2, q2, rfl, rfl, rfl, h2, r2⟩ := trodAll_cons r1
  obtain ⟨v3, vs3, d3, ds3, p3, q3, rfl, rfl, rfl, h3, r3⟩ := trodAll_cons r2
  obtain ⟨rfl, rfl, rfl⟩ := trodAll_nil r3
  obtain rfl : args = #[v0, v1, v2, v3] := by cases args; simp_all
  obtain ⟨a0, rfl, rfl, rfl, w0⟩ := open_int Tryz.underlying3 (hval 0 3 v0 rfl rfl) h0
  obtain ⟨a1, rfl, rfl, rfl, w1⟩ := open_int Tryz.underlying3 (hval 1 3 v1 rfl rfl) h1
  obtain ⟨a2, rfl, rfl, rfl, w2⟩ := open_int Tryz.underlying3 (hval 2 3 v2 rfl rfl) h2
  obtain ⟨a3, rfl, rfl, rfl, w3⟩ := open_int Tryz.underlying3 (hval 3 3 v3 rfl rfl) h3
  refine (walk a0 (range_i64 w0) a1 (range_i64 w1) a2 (range_i64 w2) a3 (range_i64 w3) W).mono fun e W' ⟨he, hb⟩ => ?_
  subst he
  exact ⟨_, rfl, law_post (tb := 4) (by kernel_rfl) (by kernel_rfl) rfl Tryz.underlying4 rfl (fun h => by subst h; rfl) hW' hb⟩

theorem proved : Rows.MachPointersSaid :=
  OpenClaim.holds_of_wide 9 Tryz.f9 rfl rfl rfl rfl rfl rfl rfl ⟨rfl, rfl, rfl, rfl, rfl⟩ rfl rfl rfl rfl rfl (by kernel_rfl) Tryz.func9 closed
    (of_decide_eq_true (by kernel_rfl)) (by unfold Func.isWrapper; first | (rw [if_pos (by decide +kernel)]; kernel_rfl) | (rw [if_neg (by decide +kernel)]; exact ⟨rfl, rfl⟩))
    (fun os started H enc _ => lifted os started H enc)
#print axioms proved

end Go.Proofs.YtbkcpepalicbjaaGreat.machPointers
