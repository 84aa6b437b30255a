/-
  MachAtoms: every atomic instruction, of 4 and 8 bytes, leaves in memory what word says, and in Src or r0 what stood there; no condition.
-/
import Derived.Test.YtbkcpepalicbjaaGreatMachCC
import Derived.Test.YtbkcpepalicbjaaGreatFacts
import Derived.OpenShut
import Derived.Deep.CutBlock
import Derived.Deep.CutRange
import Derived.Deep.RegionLaw
import Derived.Laws.CopyOwn
namespace Go.Proofs.YtbkcpepalicbjaaGreat.machAtoms
open Go.ChangeShapes Go.WideShapes Go.ChangeAt Go.RowKit
set_option linter.unusedVariables false
set_option linter.unusedSimpArgs false

theorem KL.k {w wx : World} {b1 b2 k : Nat} {imm : Int} {hs : List (Value × List Int)} (hk : (i64l kindL)[k]? = some (.int .i64 imm)) (h : KG w [(b1, 3, i64l kindL), (b2, 3, i64l opL)] hs wx) : wx.cell? ⟨b1, k, none⟩ = some (.int .i64 imm) ∧ KG w [(b1, 3, i64l kindL), (b2, 3, i64l opL)] hs wx :=
  ⟨by rw [(h.row (b := b1) (t := 3) (cs := i64l kindL) (by simp)).cell]; exact hk, h⟩
theorem KL.n {w wx w' : World} {b1 b2 k : Nat} {imm : Int} {hs : List (Value × List Int)} (h : wx.cell? ⟨b1, k, none⟩ = some (.int .i64 imm) ∧ KG w [(b1, 3, i64l kindL), (b2, 3, i64l opL)] hs wx) (hb : Below wx.heap.size wx w') : w'.cell? ⟨b1, k, none⟩ = some (.int .i64 imm) ∧ KG w [(b1, 3, i64l kindL), (b2, 3, i64l opL)] hs w' :=
  ⟨(hb.cell (World.block_lt_of_cell? _ _ h.1)).trans h.1, h.2.next hb⟩
set_option maxRecDepth 100000 in
set_option maxHeartbeats 16000000 in
theorem walk (old : Int) (ro : -9223372036854775808 ≤ old ∧ old ≤ 9223372036854775807) (src : Int) (rs : -9223372036854775808 ≤ src ∧ src ≤ 9223372036854775807) (r0 : Int) (rr : -9223372036854775808 ≤ r0 ∧ r0 ≤ 9223372036854775807) (w : World) :
    Calls Tryz.prog 6 #[.int .i64 old, .int .i64 src, .int .i64 r0] w fun e w' => e = .returned (.bool true) ∧ Below w.heap.size w w' := by
  have HRS := Lib.hid (show i64r src from rs)
  have HRR := Lib.hid (show i64r r0 from rr)
  clear ro rs rr
  obtain ⟨i0, hi0, hz0, hz1, hz2⟩ := info_split info_ins
  obtain ⟨u0, hu0, hy0, hy1, hy2⟩ := info_parts info_u8
  have hbe := run_i0
  have hba := run_i03457
  have hbm := run_i0245
  obtain ⟨zs, hzs⟩ : ∃ zs : List Int, zs = putl 8 old ++ [5] := ⟨_, rfl⟩
  have HZL := Lib.hid (show zs.length = 9 by rw [hzs, List.length_append, putl_length]; rfl)
  have HZB := Lib.hid (show IsBytes zs by rw [hzs]; exact (putl_bytes 8 old).append (fun x hx => by simp at hx; subst hx; decide))
  have HZS := Lib.hid hzs
  clear hzs
  go_enter Tryz.func6, Tryz.ntmps6
  go_wp2_with (go_at_call 28; refine (atoms_of _).mono ?_; rintro e wT ⟨b1, b2, rfl, hk1, hk2, hbT⟩)
  go_loopg [9] 2 (fun g s9 wr => ∃ S : Nat, (S = 4 ∨ S = 8 ∨ S = 12) ∧ g = 3 - S / 4 ∧ s9 = .int .i64 S ∧ KG w [(b1, 3, i64l kindL), (b2, 3, i64l opL)] [] wr)
  case atStart => exact ⟨4, Or.inl rfl, rfl, rfl, ⟨hbT, fun r hr => by
    rcases List.mem_cons.1 hr with rfl | hr
    · exact hk1
    · rw [List.mem_singleton.1 hr]; exact hk2, fun p hp => absurd hp (by simp)⟩⟩
  case round =>
    clear hk1 hk2 hbT
    obtain ⟨S, hS, rfl, rfl, hK⟩ := hrel
    have HK := Lib.hid hK
    clear hK
    by_cases h12 : S = 12
    · have hj : decide ((S : Int) ≤ 8) = false := by simp; omega
      have HS := Lib.hid h12
      clear hS h12
      go_wp2_with fail
      go_ret
      exact ⟨rfl, HK.out.bel⟩
    · have hj : decide ((S : Int) ≤ 8) = true := by simp; omega
      have hw4 : wrap64 ((S : Int) + 4) = ((S + 4 : Nat) : Int) := by unfold wrap64; omega
      have HS := Lib.hid (show S = 4 ∨ S = 8 by omega)
      clear hS h12
      go_wp2_with fail
      go_loopg [10] 10 (fun g s10 wi => ∃ k : Nat, k ≤ 10 ∧ g = 10 - k ∧ s10 = .int .i64 k ∧ KG w [(b1, 3, i64l kindL), (b2, 3, i64l opL)] [] wi)
      case atStart => exact ⟨0, by decide, rfl, rfl, HK.out⟩
      case round =>
        obtain ⟨k, hk, rfl, rfl, hKi⟩ := hrel
        have HKI := Lib.hid hKi
        clear hKi HK
        by_cases hk10 : k < 10
        · have hj2 : decide ((k : Int) < 10) = true := by simp; omega
          have hwk : wrap64 ((k : Int) + 1) = ((k + 1 : Nat) : Int) := by unfold wrap64; omega
          have hlk1 : (0 : Int) ≤ (k : Int) := Int.natCast_nonneg _
          have hlk2 : (k : Int) < 10 := by omega
          obtain ⟨imm, op, ht1, ht2, hKd, hpair, hodd, ho1, ho2⟩ := table_at k hk10
          have HT1 := Lib.hid ht1
          have HT2 := Lib.hid ht2
          have HKD := Lib.hid hKd
          have HPAIR := Lib.hid hpair
          have HODD := Lib.hid hodd
          have HOP := Lib.hid (And.intro ho1 ho2)
          have HK10 := Lib.hid hk10
          clear ht1 ht2 hKd hpair hodd ho1 ho2 hk hk10
          obtain ⟨W, hW⟩ : ∃ W : Int, getv false (zs.take S) = W := ⟨_, rfl⟩
          obtain ⟨NW, hNW⟩ : ∃ NW, NW = (aluF op false W src).1 := ⟨_, rfl⟩
          obtain ⟨G0, hG0⟩ : ∃ G0 : Int, getv false (putl S r0) = G0 := ⟨_, rfl⟩
          have hmix := mix_now S HS.out imm op r0 src W NW HRR.out HPAIR.out HRS.out hNW
          rw [hG0] at hmix
          obtain ⟨NW2, hN2⟩ : ∃ NW2 : Int, (if imm = 241 ∧ W ≠ G0 then W else NW) = NW2 := ⟨_, rfl⟩
          rw [hN2] at hmix
          have HAL := Lib.hid (fun w => by
            have h := (alu_gives op false W src HOP.out).1 w
            rw [hmix.1, ← hNW] at h
            exact h)
          have HMIX := Lib.hid hmix.2
          have HW := Lib.hid hW
          have HG0 := Lib.hid hG0
          have HN2 := Lib.hid hN2
          clear hmix hW hNW hG0 hN2
          go_upto_region 8 with fail
          go_cut [11] from 37 to 40 (fun s11 wx => ∃ a9 c9, s11 = .slice a9 9 c9 ∧ KG w [(b1, 3, i64l kindL), (b2, 3, i64l opL)] [(.slice a9 9 c9, zs)] wx)
          case first =>
            go_wp2_with (first
              | (go_at_call 25; refine (put_of 8 _ old rfl (by decide) (by decide) _).mono ?_; rintro e wP ⟨bP, rfl, hge, hrowP, hbP⟩; have hownP := own_of_row (n := 8) hrowP hge (by unfold utab; simp) (by decide))
              | (at_builtin; refine wpList_append_own _ rfl (.tmp 38) (.tmp 39) 27 rfl wr.heap.size 5 u0 (.int .u8 0) 1 1 Tryz.underlying27 hu0 hy0 hy1 hy2 rfl (by decide) (.slice (some ⟨bP, 0, none⟩) 8 8) 8 _ rfl (hownP.alloc _) ⟨wP.heap.size, 0, none⟩ 1 1 [.int .u8 5] rfl rfl (bytes_new_news wP [5] _) (bytes_one [5]) (by decide) (by decide) (by have := hbP.size; simp; omega) ?_; intro v3 w3 hown3 hgrow _))
            obtain ⟨a3, c3, rfl⟩ := own_slice hown3
            have hB3 : Below wr.heap.size wr w3 := Below.grown (hbP.alloc hbP.size _) hgrow (by have := hbP.size; simp; omega) (fun j hj => (hownP.lt j hj).1)
            have el : (utab 8 fun i => old / 2 ^ (8 * i) % 256) ++ [Value.int .u8 5] = u8s zs := by rw [HZS.out]; unfold u8s utab putl; rw [List.map_append, List.map_map]; rfl
            rw [el] at hown3
            go_wp2_with fail
            go_meet
            case rel => exact ⟨a3, c3, rfl, (HKI.out.next hB3).addHeld (held_of_own hown3 HZB.out HZL.out.symm)⟩
          case rest =>
            obtain ⟨a9, c9, rfl, hK⟩ := hcut
            have HK := Lib.hid hK
            obtain ⟨hcS, hhS⟩ := held_prefix (hK.helds _ (List.mem_singleton.2 rfl)) S (by have := HS.out; omega) HZL.out.symm
            have HHS := Lib.hid hhS
            obtain ⟨w8, rfl⟩ : ∃ w8, w8 = wc := ⟨_, rfl⟩
            clear hK hhS HKI
            go_upto_region 10 with (go_at_call 26; refine (get_of _ false _ _ HHS.out).mono ?_; rintro e wG ⟨he, rfl⟩; rw [HW.out] at he; subst he)
            have hc2 : w8.cell? ⟨b2, k, none⟩ = some (.int .i64 op) := by rw [(HK.out.row (b := b2) (t := 3) (cs := i64l opL) (by simp)).cell]; exact HT2.out
            clear hcS HHS
            go_cut [13, 14] from 45 to 54 (fun s13 s14 wx => s13 = .int .i64 NW ∧ s14 = .int .i64 0 ∧ KG w [(b1, 3, i64l kindL), (b2, 3, i64l opL)] [(.slice a9 9 c9, zs)] wx)
            case first =>
              go_wp2_with (go_at_call 19; refine (HAL.out _).mono ?_; rintro e wA ⟨rfl, hbA⟩)
              go_meet
              case rel => exact ⟨rfl, rfl, HK.out.next hbA⟩
            case rest =>
              obtain ⟨rfl, rfl, hK⟩ := hcut
              have HK := Lib.hid hK
              have hc1 := (KL.k HT1.out hK).1
              clear hK hc2 HAL
              obtain ⟨w10, rfl⟩ : ∃ w10, w10 = wc := ⟨_, rfl⟩
              go_upto_region 11 with fail
              go_cut [67] from 55 to 66 (fun s67 wx => s67 = .bool ((imm == 241) && (W != G0)) ∧ KG w [(b1, 3, i64l kindL), (b2, 3, i64l opL)] [(.slice a9 9 c9, zs)] wx)
              case first =>
                cases q : (imm == 241) with
                | false =>
                  go_wp2_with fail
                  go_meet
                  case rel => exact ⟨by rw [q]; rfl, HK.out⟩
                | true =>
                  go_wp2_with (first
                    | (go_at_call 25; refine (put_of S _ r0 rfl (by have := HS.out; omega) (by have := HS.out; omega) _).mono ?_; rintro e wP ⟨bP, rfl, hge, hrowP, hbP⟩; have hP := held_utab hrowP (by have := HS.out; omega))
                    | (go_at_call 26; refine (get_of _ false _ _ hP).mono ?_; rintro e wG ⟨he, rfl⟩; rw [HG0.out] at he; subst he))
                  go_meet
                  case rel => exact ⟨by rw [q]; rfl, HK.out.next hbP⟩
              case rest =>
                obtain ⟨rfl, hK⟩ := hcut
                have HK := Lib.hid hK
                have hc1 := (KL.k HT1.out hK).1
                clear hK
                obtain ⟨w11, rfl⟩ : ∃ w11, w11 = wc := ⟨_, rfl⟩
                obtain ⟨XB, hX⟩ : ∃ XB : Bool, ((imm == 241) && (W != G0)) = XB := ⟨_, rfl⟩
                have hNX : (if XB then W else NW) = NW2 := by
                  rw [← hX, ← HN2.out]
                  by_cases h : imm = 241 ∧ W ≠ G0
                  · rw [if_pos h, if_pos (by simp [h.1, h.2])]
                  · rw [if_neg h, if_neg (by simp; intro h1; by_cases h2 : W = G0; exact h2; exact absurd ⟨h1, h2⟩ h)]
                have HNX := Lib.hid hNX
                rw [hX]
                clear hX hNX
                go_upto_if 67 with fail
                go_cut [13] from 67 to 68 (fun s13 wx => s13 = .int .i64 NW2 ∧ w11 = wx)
                case first =>
                  cases XB with
                  | true =>
                    go_wp2_with fail
                    go_meet
                    case rel => exact ⟨by rw [← HNX.out]; rfl, rfl⟩
                  | false =>
                    go_wp2_with fail
                    go_meet
                    case rel => exact ⟨by rw [← HNX.out]; rfl, rfl⟩
                case rest =>
                  obtain ⟨rfl, rfl⟩ := hcut
                  obtain ⟨ZZ, hZZ⟩ : ∃ ZZ : Int, atz imm r0 W = ZZ := ⟨_, rfl⟩
                  obtain ⟨LL, hLL⟩ : ∃ LL : Int, atl imm src W = LL := ⟨_, rfl⟩
                  have HZZ := Lib.hid hZZ
                  have HLL := Lib.hid hLL
                  clear hZZ hLL HNX
                  go_upto_if 75 with fail
                  go_cut [15, 16] from 75 to 79 (fun s15 s16 wx => s15 = .int .i64 LL ∧ s16 = .int .i64 ZZ ∧ w11 = wx)
                  case first =>
                    cases q : (imm == 241) with
                    | true =>
                      have h241 : imm = 241 := by simpa using q
                      have hz := HZZ.out
                      have hl := HLL.out
                      unfold atz at hz
                      unfold atl at hl
                      rw [if_pos h241] at hz hl
                      have HH := Lib.hid (And.intro hz hl)
                      clear h241 hz hl
                      try simp only [q]
                      go_wp2_with fail
                      go_meet
                      case rel => exact ⟨by rw [HH.out.2], by rw [HH.out.1], rfl⟩
                    | false =>
                      have h241 : imm ≠ 241 := by simpa using q
                      have hz := HZZ.out
                      have hl := HLL.out
                      have ho := HODD.out h241
                      unfold atz at hz
                      unfold atl at hl
                      rw [if_neg h241] at hz hl
                      by_cases h4 : 4 ≤ k
                      · have q4 : decide (4 ≤ (k : Int)) = true := by simp; omega
                        rw [if_pos (ho.2 h4)] at hl
                        have HH := Lib.hid (And.intro hz hl)
                        clear h241 hz hl ho h4
                        try simp only [q]
                        go_wp2_with fail
                        go_meet
                        case rel => exact ⟨by rw [HH.out.2], by rw [HH.out.1], rfl⟩
                      · have q4 : decide (4 ≤ (k : Int)) = false := by simp; omega
                        rw [if_neg (fun h => h4 (ho.1 h))] at hl
                        have HH := Lib.hid (And.intro hz hl)
                        clear h241 hz hl ho h4
                        try simp only [q]
                        go_wp2_with fail
                        go_meet
                        case rel => exact ⟨by rw [HH.out.2], by rw [HH.out.1], rfl⟩
                  case rest =>
                    obtain ⟨rfl, rfl, rfl⟩ := hcut
                    go_upto_region 19 with fail
                    obtain ⟨want, hwant⟩ : ∃ want : List Int, want = overF zs 0 (putl S NW2) := ⟨_, rfl⟩
                    have HWANT := Lib.hid hwant
                    clear hwant hc1
                    go_cut [17] from 80 to 81 (fun s17 wx => ∃ g7 c7 rest, s17 = .slice (some ⟨g7, 0, none⟩) 9 c7 ∧ w11.heap.size ≤ g7 ∧ Row wx g7 5 (u8s zs ++ rest) ∧ 9 ≤ c7 ∧ c7 ≤ maxLen ∧ Below w11.heap.size w11 wx)
                    case first =>
                      have hcp := copy_of (.slice a9 9 c9) zs w11 (HK.out.helds _ (List.mem_singleton.2 rfl)) (by rw [HZL.out]; decide)
                      rw [HZL.out] at hcp
                      have HCP := Lib.hid hcp
                      clear hcp
                      go_wp2_with (go_at_call 24; refine HCP.out.mono ?_; rintro e wC ⟨vC, rfl, hown, hbC⟩)
                      obtain ⟨g7, c7, rest, rfl, hg7, hrow7, h9, hmx, _⟩ := own_row (m := 9) hown (by decide)
                      go_wp2_with fail
                      go_meet
                      case rel => exact ⟨g7, c7, rest, rfl, hg7, hrow7, h9, hmx, hbC⟩
                    case rest =>
                      obtain ⟨g7, c7, rest, rfl, hg7, hrow7, h9, hmx, hb7⟩ := hcut
                      have HR7 := Lib.hid (And.intro hg7 (And.intro hrow7 (And.intro h9 (And.intro hmx hb7))))
                      clear hg7 hrow7 h9 hmx hb7
                      obtain ⟨w19, rfl⟩ : ∃ w19, w19 = wc := ⟨_, rfl⟩
                      go_upto_region 20 with fail
                      go_cut [] from 82 to 86 (fun wx => KG w [(b1, 3, i64l kindL), (b2, 3, i64l opL)] [(.slice a9 9 c9, zs), (.slice (some ⟨g7, 0, none⟩) 9 c7, want)] wx)
                      case first =>
                        have hs8 : (Tryz.prog.info? 5).map (·.size) = some 1 := by rw [hu0]; simp [hy1]
                        have hu8 := Tryz.underlying27
                        go_wp2_with (first
                          | (go_at_call 25; go_loud (refine (put_of S _ NW2 rfl (by have := HS.out; omega) (by have := HS.out; omega) _).mono ?_; rintro e wP ⟨bP, rfl, hge, hrowP, hbP⟩; have hcells := put_cells hrowP; have hlenp : (u8s (putl S NW2)).length = Nat.min S 9 := (by unfold u8s; rw [List.length_map, putl_length]; exact (Nat.min_eq_left (show S ≤ 9 by have := HS.out; omega)).symm); have hgr : wP.heap[g7]? = some (.cells (u8s zs ++ rest).toArray 5 (0, 0)) := HR7.out.2.1.below hbP HR7.out.2.1.lt))
                          | (((with_reducible refine wpList_copy_splice (o := ⟨some 86, _, _, _, _, _⟩) rfl (.tmp 82) (.tmp 85) 27 27 rfl 5 hu8 hs8 (some ⟨g7, 0, none⟩) (some ⟨bP, 0, none⟩) 9 c7 S S ?_ ?_ g7 0 (u8s zs ++ rest) 5 hgr (u8s (putl S NW2)) hlenp (fun _ => ⟨rfl, ⟨bP, 0, none⟩, rfl, hcells⟩) (by unfold u8s; simp [putl_length, HZL.out]; have := HS.out; omega) (u8s_one (putl S NW2)) w11.heap.size w11 (HR7.out.2.2.2.2.trans (hbP.mono HR7.out.2.2.2.2.size)) HR7.out.1 ?_); rfl; rfl; intro wE hgE hbE)))
                        go_wp2_with fail
                        go_meet
                        case rel =>
                          have hh : Held wE (.slice (some ⟨g7, 0, none⟩) 9 c7) want := by rw [HWANT.out]; exact splice_held hgE.out HZL.out.symm HR7.out.2.2.1 HR7.out.2.2.2.1 (by rw [putl_length, HZL.out]; have := HS.out; omega) HZB.out (putl_bytes S NW2)
                          have h := (HK.out.next hbE).addHeld hh
                          exact ⟨h.bel, h.rows, fun p hp => h.helds p (by simp only [List.mem_cons, List.not_mem_nil, or_false] at hp ⊢; exact hp.symm)⟩
                      case rest =>
                        have HK := Lib.hid hcut
                        clear hcut HR7
                        obtain ⟨w20, rfl⟩ : ∃ w20, w20 = wc := ⟨_, rfl⟩
                        go_upto_region 21 with fail
                        go_cut [18] from 87 to 98 (fun s18 wx => ∃ g, s18 = .slice (some ⟨g, 0, none⟩) 4 4 ∧ w20.heap.size ≤ g ∧ Row wx g 23 (codec (atc S imm r0 src)) ∧ Below w20.heap.size w20 wx)
                        case first =>
                          have hks := KL.k HT1.out (HK.out.rebase.next (Below.refl _ _).drew)
                          go_region_held3 (fun w' => w'.cell? ⟨b1, k, none⟩ = some (.int .i64 imm) ∧ KG w20 [(b1, 3, i64l kindL), (b2, 3, i64l opL)] [(.slice a9 9 c9, zs), (.slice (some ⟨g7, 0, none⟩) 9 c7, want)] w')
                            (first
                              | with_reducible assumption
                              | with_reducible exact KL.n (by with_reducible assumption) hbW
                              | with_reducible exact KL.n (by with_reducible assumption) ((Below.refl _ _).alloc (Nat.le_refl _) _)
                              | fail "none")
                            (first
                              | (go_at_call 21; refine (wide_of _ _ _).mono ?_; rintro e w' ⟨rfl, hbW⟩; have hKW := KL.n (by with_reducible assumption) hbW))
                          all_goals
                            rename_i hheld
                            go_wp2_with fail
                            go_meet
                            case rel => exact ⟨_, rfl, hKW.2.bel.size, Row.made _ (codec (atc S imm r0 src)) _, hheld.2.bel⟩
                        case rest =>
                          obtain ⟨g, rfl, hg20, hrowg, hb21⟩ := hcut
                          have HG := Lib.hid (And.intro hg20 (And.intro hrowg hb21))
                          clear hg20 hrowg hb21 hc1
                          obtain ⟨w21, rfl⟩ : ∃ w21, w21 = wc := ⟨_, rfl⟩
                          obtain ⟨s1, s2, ⟨hr1, hz1, hx1⟩, ⟨hr2, hz2, hx2⟩⟩ := atom_runs S imm r0 src zs (by rw [HZL.out]; have := HS.out; omega)
                          rw [HW.out, HMIX.out, ← HWANT.out] at hx1 hx2
                          rw [HW.out, HZZ.out] at hz1
                          rw [HW.out, HLL.out] at hz2
                          have HWB := Lib.hid (show IsBytes want by rw [HWANT.out]; exact overF_bytes HZB.out (putl_bytes S NW2) 0)
                          have HWL := Lib.hid (show 9 = want.length by rw [HWANT.out, over_len _ _ _ (by rw [putl_length, HZL.out]; have := HS.out; omega), HZL.out])
                          have HR1 := Lib.hid (X.runs_ok (atc S imm r0 src) do_atomK (atc_ok S imm r0 src (by have := HS.out; omega) HKD.out HRR.out HRS.out) zs HZB.out (by rw [HZL.out]; decide) s1 hr1 ZZ hz1 want hx1 HWB.out 9 HWL.out 4 rfl _ _ _ _ (coded_row (l := atc S imm r0 src) HG.out.2.1 (by simp [atc]) (by simp [atc])) ((HK.out.helds (.slice a9 9 c9, zs) (by simp)).below HG.out.2.2 (Nat.le_refl _)))
                          have HR2 := Lib.hid (X.runs_ok (atd S imm r0 src) do_atomK (atd_ok S imm r0 src (by have := HS.out; omega) HKD.out HRR.out HRS.out) zs HZB.out (by rw [HZL.out]; decide) s2 hr2 LL hz2 want hx2 HWB.out 9 HWL.out 5 rfl)
                          clear hr1 hz1 hx1 hr2 hz2 hx2
                          go_upto_region 22 with fail
                          go_cut [19, 20] from 99 to 104 (fun s19 s20 wx => ∃ q g1 c1 rest x2 x3, s19 = .pointer (some ⟨q, 0, none⟩) ∧ s20 = .int .i64 0 ∧ w21.heap.size ≤ q ∧ w21.heap.size ≤ g1 ∧ OutR q g1 c1 ZZ want rest x2 x3 wx ∧ Below w21.heap.size w21 wx)
                          case first =>
                            go_wp2_with (go_at_call 20; go_loud (refine HR1.out.mono ?_; rintro e wR ⟨a1, c1, b2', n2, c2, b3, n3, c3, rfl, hO, hbR⟩; obtain ⟨g1, c1', rest1, hv, hg1, hrow1, h9, hmx, _⟩ := own_row (m := 9) hO (by decide); injection hv with e1 e2 e3; subst e1 e3))
                            go_meet
                            case rel => exact ⟨wR.heap.size, g1, c1, rest1, _, _, rfl, rfl, hbR.size, hg1, ⟨Row.made wR [.int .i64 ZZ, .slice (some ⟨g1, 0, none⟩) 9 c1, .slice b2' n2 c2, .slice b3 n3 c3] _, hrow1.alloc _, h9, hmx⟩, hbR.alloc hbR.size _⟩
                          case rest =>
                            obtain ⟨q1, g1, c1, rest1, x2, x3, rfl, rfl, hq1, hg1, hO1, hb22⟩ := hcut
                            have HO1 := Lib.hid hO1
                            have hgl := HG.out.2.1.lt
                            have HNE := Lib.hid (show q1 ≠ g ∧ g1 ≠ g by omega)
                            have HG2 := Lib.hid (And.intro (HG.out.2.1.below hb22 hgl) (HG.out.2.2.trans (hb22.mono HG.out.2.2.size)))
                            clear hq1 hg1 hO1 hb22 hgl HR1
                            obtain ⟨w22, rfl⟩ : ∃ w22, w22 = wc := ⟨_, rfl⟩
                            obtain ⟨⟨_, _, _, _, _, _, _, _⟩, _, _, _, _, _, _, _, _⟩ := eight24 HG2.out.1 insExit (fun j u hj => eight_at4 hj)
                            go_upto_region 23 with fail
                            go_cut [] from 105 to 107 (fun wx => Row wx g 23 (over8 (codec (atc S imm r0 src)) 24 (insMov 0 3)) ∧ OutR q1 g1 c1 ZZ want rest1 x2 x3 wx ∧ Below w20.heap.size w20 wx)
                            case first =>
                              go_wp2_with fail
                              go_meet
                              case rel => exact ⟨HG2.out.1.over8 24 (insMov 0 3), HO1.out.put8 (k := 24) HNE.out.1 HNE.out.2 (insMov 0 3), below_put8 HG2.out.2 HG.out.1 24 (insMov 0 3)⟩
                            case rest =>
                              obtain ⟨hrow, hO1, hb23⟩ := hcut
                              have HX := Lib.hid (And.intro hrow (And.intro hO1 hb23))
                              clear hrow hO1 hb23 HG2 HO1
                              obtain ⟨w23, rfl⟩ : ∃ w23, w23 = wc := ⟨_, rfl⟩
                              go_upto_region 24 with fail
                              go_cut [21, 22] from 108 to 116 (fun s21 s22 wx => ∃ q g2 c2 rest y2 y3, s21 = .pointer (some ⟨q, 0, none⟩) ∧ s22 = .int .i64 0 ∧ OutR q g2 c2 LL want rest y2 y3 wx ∧ OutR q1 g1 c1 ZZ want rest1 x2 x3 wx ∧ Below w20.heap.size w20 wx)
                              case first =>
                                have hown8 := own8_of_row (n := 4) HX.out.1 HG.out.1 (by unfold over8; simp [codec_len, atc]) (by decide)
                                have HOWN8 := Lib.hid hown8
                                clear hown8
                                go_wp2_with (first
                                  | (at_builtin; go_loud (refine wpList_append_own _ rfl (.tmp 109) (.tmp 111) 35 rfl w20.heap.size 23 i0 (.agg #[.int .i64 0, .bool false, .bool false, .int .i64 0, .int .i64 0, .int .i64 0, .int .i64 0, .int .i64 0]) 8 56 Tryz.underlying35 hi0 hz0 hz1 hz2 rfl (by decide) (.slice (some ⟨g, 0, none⟩) 4 4) 4 _ rfl (HOWN8.out.alloc _) ⟨w23.heap.size, 0, none⟩ 1 1 (codec [insExit]) rfl rfl (news_new w23 (codec [insExit]) 23) (codec_one _) (by decide) (by decide) (by have := HX.out.2.2.size; simp; omega) ?_; intro v3 w3 hown3 hgrow _; obtain ⟨a3, c3, rfl⟩ := own_slice hown3; rw [over_at4] at hown3; have hB3 : Below w20.heap.size w20 w3 := Below.grown (HX.out.2.2.alloc HX.out.2.2.size _) hgrow (by have := HX.out.2.2.size; simp; omega) (fun j hj => by injection hj with hj; rw [← hj]; exact HG.out.1); have hcod : Coded w3 (.slice a3 5 c3) (atd S imm r0 src) := reads_own hown3 (codec_one _) (by decide); have hhc := (HK.out.helds (.slice a9 9 c9, zs) (by simp)).below hB3 (Nat.le_refl _); have hO3 := (HX.out.2.1.next (below_map w23 _)).grow HNE.out.1 HNE.out.2 hgrow))
                                  | (go_at_call 20; go_loud (refine (HR2.out _ _ _ _ hcod hhc).mono ?_; rintro e wR ⟨a2, c2, b2', n2, c2', b3, n3, c3', rfl, hO, hbR⟩; obtain ⟨g2, c2'', rest2, hv, hg2, hrow2, h9, hmx, _⟩ := own_row (m := 9) hO (by decide); injection hv with e1 e2 e3; subst e1 e3)))
                                go_meet
                                case rel => exact ⟨wR.heap.size, g2, c2, rest2, _, _, rfl, rfl, ⟨Row.made wR [.int .i64 LL, .slice (some ⟨g2, 0, none⟩) 9 c2, .slice b2' n2 c2', .slice b3 n3 c3'] _, hrow2.alloc _, h9, hmx⟩, (hO3.next hbR).next (below_map wR _), (hB3.trans (hbR.mono hB3.size)).alloc (Nat.le_trans hB3.size hbR.size) _⟩
                              case rest =>
                                obtain ⟨q2, g2, c2, rest2, y2, y3, rfl, rfl, hO2, hO1, hb24⟩ := hcut
                                have HKX := Lib.hid (HK.out.next hb24)
                                have HH1 := Lib.hid (hO1.held HWL.out HWB.out)
                                have HH2 := Lib.hid (hO2.held HWL.out HWB.out)
                                obtain ⟨⟨_, _, _, _⟩, _⟩ := hO1.box.four
                                obtain ⟨⟨_, _, _, _⟩, _⟩ := hO2.box.four
                                have HH7 := Lib.hid (HKX.out.helds (.slice (some ⟨g7, 0, none⟩) 9 c7, want) (by simp))
                                clear hO1 hO2 hb24 HX HR2 HK HG
                                go_wp2_with (first
                                  | (go_at_call 27; refine (same_at _ _ want _ HH1.out HH7.out).mono ?_; rintro e wS ⟨rfl, rfl⟩)
                                  | (go_at_call 27; refine (same_at _ _ want _ HH2.out HH7.out).mono ?_; rintro e wS ⟨rfl, rfl⟩))
                                go_roundg (10 - (k + 1))
                                case measure => have := HK10.out; omega
                                case rel => exact ⟨k + 1, by have := HK10.out; omega, rfl, by first | rfl | exact congrArg (Value.int .i64) hwk, ⟨HKX.out.bel, HKX.out.rows, fun p hp => absurd hp (by simp)⟩⟩
        · have hj2 : decide ((k : Int) < 10) = false := by simp; omega
          have HK10 := Lib.hid (show k = 10 by omega)
          clear hk hk10
          go_wp2_with fail
          go_roundg (3 - (S + 4) / 4)
          case measure => have := HS.out; omega
          case rel => exact ⟨S + 4, by have := HS.out; omega, rfl, by first | rfl | exact congrArg (Value.int .i64) hw4, HKI.out⟩


theorem fact_wf : (Rows.machAtomsRow.wf (OpenSpec.ofChange Rows.machAtomsSpec)) = true := by kernel_rfl
theorem fact_rd : (Tryz.f6.params.all ((Tryz.prog).readableRec ·)) = true := by kernel_rfl
theorem fact_nt : (namedTie (Tryz.prog) Rows.machAtomsRow.named Rows.machAtomsSpec.vars) = true := by kernel_rfl
theorem fact_s1 : ((Rows.machAtomsRow.stops == [])) = true := by kernel_rfl
theorem fact_k1 : ((Rows.machAtomsRow.knobs == [])) = true := by kernel_rfl
theorem fact_ip : ((Rows.machAtomsRow.inPlace == (Tryz.prog).inPlace 6)) = true := by kernel_rfl
theorem fact_uf : ((Rows.machAtomsRow.unfollowed == (Tryz.prog).unfollowed 6)) = true := by kernel_rfl
theorem fact_rc : ((Rows.machAtomsRow.recurses == (Tryz.prog).recurses 6)) = true := by kernel_rfl
theorem fact_nm : ((Rows.machAtomsRow.named == (Tryz.prog).varsNamed 6)) = true := by kernel_rfl
theorem fact_mp : ((Rows.machAtomsRow.maps == (Tryz.f6.params.toList ++ Rows.machAtomsSpec.plain.varTypes (Tryz.prog)).any ((Tryz.prog).mapsRec ·))) = true := by kernel_rfl
theorem fact_if : ((Rows.machAtomsRow.ifaces == (Tryz.f6.params.toList ++ Rows.machAtomsSpec.plain.varTypes (Tryz.prog)).any ((Tryz.prog).ifacesRec ·))) = true := by kernel_rfl
theorem fact_mo : ((Rows.machAtomsRow.mapsOut == (Tryz.prog).mapsAmong Tryz.f6.resultTypes.toList)) = true := by kernel_rfl
theorem fact_lp : ((Rows.machAtomsRow.loops == (Tryz.f6.params.toList ++ Rows.machAtomsSpec.plain.varTypes (Tryz.prog)).any ((Tryz.prog).loopsFrom ·))) = true := by kernel_rfl
theorem fact_wk : ((Rows.machAtomsRow.wideKeys == (Tryz.f6.params.toList ++ Rows.machAtomsSpec.plain.varTypes (Tryz.prog) ++ Tryz.f6.resultTypes.toList).any ((Tryz.prog).wideKeysFrom ·))) = true := by kernel_rfl
theorem fact_vr : (Rows.machAtomsSpec.vars.all ((Tryz.prog).varReadable ·)) = true := by kernel_rfl
theorem fact_rr : (Tryz.f6.resultTypes.all (fun t => (Tryz.prog).readableRec t && decide (t < (Tryz.prog).types.size))) = true := by kernel_rfl
theorem fact_io : ((Rows.machAtomsRow.ifacesOut == Tryz.f6.resultTypes.toList.any ((Tryz.prog).ifacesRec ·))) = true := by kernel_rfl
theorem fact_ol : ((Rows.machAtomsRow.loopsOut == Tryz.f6.resultTypes.toList.any ((Tryz.prog).loopsFrom ·))) = true := by kernel_rfl
theorem fact_pk : ((Rows.machAtomsRow.plainKeys == (Tryz.prog).plainKeys)) = true := by kernel_rfl
theorem fact_st : (Rows.machAtomsRow.shortTexts.isNone) = true := by kernel_rfl
theorem fact_lf : ((Rows.machAtomsRow.lifted == (Tryz.prog).liftsFinal)) = true := by kernel_rfl
theorem fact_mk : (((Tryz.prog).make == some Rows.machAtomsRow.make)) = true := by kernel_rfl
theorem fact_kd : ((Rows.machAtomsRow.kinds == (if Rows.machAtomsRow.domain.isEmpty then [] else Tryz.f6.params.toList.map fun t => match (Tryz.prog).underlying t with | some (.int k) => some k | _ => none))) = true := by kernel_rfl
theorem fact_pn : ((Rows.machAtomsRow.pinned == Rows.machAtomsRow.pinnedBy)) = true := by kernel_rfl
theorem fact_vl : ((Rows.machAtomsRow.veiled == (Tryz.f6.params.toList ++ Rows.machAtomsSpec.plain.varTypes (Tryz.prog) ++ Tryz.f6.resultTypes.toList).any ((Tryz.prog).veiledRec ·))) = true := by kernel_rfl
theorem fact_vf : (Rows.machAtomsRow.veiledFits (Tryz.prog) Tryz.f6.params.toList (Tryz.f6.params.toList ++ Rows.machAtomsSpec.plain.varTypes (Tryz.prog) ++ Tryz.f6.resultTypes.toList)) = true := by kernel_rfl
set_option maxRecDepth 100000 in
theorem closed : joinedFacts Tryz.prog 6 Tryz.f6 Rows.machAtomsSpec Rows.machAtomsRow = true :=
  closed_of fact_wf fact_lo fact_mr fact_rd fact_nt fact_s1 fact_s2 fact_k1 fact_k2 fact_ip fact_uf fact_rc fact_nm fact_mp fact_if fact_mo fact_lp fact_wk fact_vr fact_rr fact_io fact_ol fact_pk fact_st fact_sh fact_me fact_lf fact_mk fact_kd fact_pn fact_vl fact_vf

theorem own : ownKnob Tryz.prog.godebug = none := by kernel_rfl
set_option maxRecDepth 100000 in
theorem lifted (os : Os) (started : os.Started) (H : Type) (enc : TypeId × Value → H) :
    ReturnsInHanded {} Tryz.checked os 6 .any (Rows.machAtomsSpec.pre6 enc Tryz.prog Tryz.f6 Rows.machAtomsRow.domain false) (Rows.machAtomsSpec.post enc Tryz.prog Tryz.f6 false true false false) := by
  refine returnsInHanded_of_change (C := Tryz.checked) own started (by kernel_rfl) Tryz.func6
    (ChangeSpec.witness6 (enc := enc) (C := Tryz.checked) false ⟨#[], #[.int .i64 0, .int .i64 0, .int .i64 0], []⟩ 8 (by kernel_rfl) (by kernel_rfl) (by kernel_rfl) (by kernel_rfl)) ?_
  intro W base args ds gs before hval0 hW hcnd _
  have hval : ∀ (j : Nat) t v, Tryz.f6.params[j]? = some t → args[j]? = some v → Value.okWide Tryz.prog W .any base t v := hval0
  have hW' := hW
  obtain ⟨p, q, hA0, hV, rfl, hfz, hnd⟩ := hW
  have hA : DataW.TrodAll enc Tryz.prog W 0 (fun _ => true) true Tryz.f6.params.toList args.toList ds p := hA0
  rw [Tryz.params6] at hA hval
  obtain ⟨v0, vs0, d0, ds0, p0, q0, hargs, rfl, rfl, h0, r0⟩ := trodAll_cons hA
  obtain ⟨v1, vs1, d1, ds1, p1, q1, rfl, rfl, rfl, h1, r1⟩ := trodAll_cons r0
  obtain ⟨v2, vs2, d2, ds2, p2, q2, rfl, rfl, rfl, h2, r2⟩ := trodAll_cons r1
  obtain ⟨rfl, rfl, rfl⟩ := trodAll_nil r2
  obtain rfl : args = #[v0, v1, v2] := by cases args; simp_all
  obtain ⟨a0, rfl, rfl, rfl, w0⟩ := open_int Tryz.underlying3 (hval 0 3 v0 rfl rfl) h0
  obtain ⟨a1, rfl, rfl, rfl, w1⟩ := open_int Tryz.underlying3 (hval 1 3 v1 rfl rfl) h1
  obtain ⟨a2, rfl, rfl, rfl, w2⟩ := open_int Tryz.underlying3 (hval 2 3 v2 rfl rfl) h2
  refine (walk a0 (range_i64 w0) a1 (range_i64 w1) a2 (range_i64 w2) W).mono fun e W' ⟨he, hb⟩ => ?_
  subst he
  exact ⟨_, rfl, law_post (tb := 4) (by kernel_rfl) (by kernel_rfl) rfl Tryz.underlying4 rfl (fun h => by subst h; rfl) hW' hb⟩

theorem proved : Rows.MachAtomsSaid :=
  OpenClaim.holds_of_wide 6 Tryz.f6 rfl rfl rfl rfl rfl rfl rfl ⟨rfl, rfl, rfl, rfl, rfl⟩ rfl rfl rfl rfl rfl (by kernel_rfl) Tryz.func6 closed
    (of_decide_eq_true (by kernel_rfl)) (by unfold Func.isWrapper; first | (rw [if_pos (by decide +kernel)]; kernel_rfl) | (rw [if_neg (by decide +kernel)]; exact ⟨rfl, rfl⟩))
    (fun os started H enc _ => lifted os started H enc)
#print axioms proved

end Go.Proofs.YtbkcpepalicbjaaGreat.machAtoms
