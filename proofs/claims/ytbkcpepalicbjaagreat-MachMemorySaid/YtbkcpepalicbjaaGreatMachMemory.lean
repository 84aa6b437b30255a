/-
  MachMemory: what is stored at a place of the context or the stack is loaded again from there, no other byte has changed; beyond the region, and from bytes that were not written, it is a trap; no condition but that the context has at most 2^47 - 4096 bytes, as every slice of bytes has.
-/
import Derived.Test.YtbkcpepalicbjaaGreatMachBN
import Derived.Test.YtbkcpepalicbjaaGreatFacts
import Derived.OpenShut
import Derived.Deep.CutBlock
import Derived.Deep.RegionLaw
import Derived.Laws.CopyOwn
namespace Go.Proofs.YtbkcpepalicbjaaGreat.machMemory
open Go.ChangeShapes Go.WideShapes Go.ChangeAt Go.RowKit
set_option linter.unusedVariables false
set_option linter.unusedSimpArgs false

theorem and3 (x : Int) : bits .and .i64 x 3 = x % 4 := by
  have h := i64_and_mask x 2 (by decide)
  have e : (2 : Int) ^ 2 = 4 := rfl
  rw [e] at h
  exact h
theorem and62 (x : Int) : bits .and .i64 x 4611686018427387903 = x % 4611686018427387904 := by
  have h := i64_and_mask x 62 (by decide)
  have e : (2 : Int) ^ 62 = 4611686018427387904 := by decide
  rw [e] at h
  exact h
set_option maxRecDepth 100000 in
set_option maxHeartbeats 8000000 in
theorem walk (v0 : Value) (xs : List Int) (hxl : xs.length ≤ 140737488351232) (at' : Int) (ra : -9223372036854775808 ≤ at' ∧ at' ≤ 9223372036854775807) (vv : Int) (rv : -9223372036854775808 ≤ vv ∧ vv ≤ 9223372036854775807) (size : Int) (rs : -9223372036854775808 ≤ size ∧ size ≤ 9223372036854775807) (fill : Int) (rf : -9223372036854775808 ≤ fill ∧ fill ≤ 9223372036854775807) (w : World) (hX : Held w v0 xs) :
    Calls Tryz.prog 5 #[v0, .int .i64 at', .int .i64 vv, .int .i64 size, .int .i64 fill] w fun e w' => e = .returned (.bool true) ∧ Below w.heap.size w w' := by
  have hm3 := and3 size
  obtain ⟨A, hA⟩ : ∃ A : Nat, at' % 4611686018427387904 = A := ⟨(at' % 4611686018427387904).toNat, by omega⟩
  have hm62 := and62 at'
  rw [hA] at hm62
  have HCOPY := Lib.hid (copy_of v0 xs w hX (by omega))
  have HXB := Lib.hid hX.bytes
  have HXL := Lib.hid hxl
  have HRV := Lib.hid rv
  clear hA hX hxl rv ra rf
  obtain ⟨i0, hi0, hz0, hz1, hz2⟩ := info_parts info_u8
  go_enter Tryz.func5, Tryz.ntmps5
  go_upto_region 1 with fail
  go_cut [11] (fun s11 wx => (∃ k : Nat, SizeM k ∧ s11 = .int .i64 k) ∧ w = wx)
  case first =>
    have hc : size % 4 = 0 ∨ size % 4 = 1 ∨ size % 4 = 2 ∨ size % 4 = 3 := by omega
    clear rs
    rcases hc with h | h | h | h
    all_goals
      rw [h] at hm3
      clear h
      go_wp2_with fail
      go_meet
      case rel => first | exact ⟨⟨1, Or.inl rfl, rfl⟩, rfl⟩ | exact ⟨⟨2, Or.inr (Or.inl rfl), rfl⟩, rfl⟩ | exact ⟨⟨4, Or.inr (Or.inr (Or.inl rfl)), rfl⟩, rfl⟩ | exact ⟨⟨8, Or.inr (Or.inr (Or.inr rfl)), rfl⟩, rfl⟩
  case rest =>
    obtain ⟨⟨k, hk, rfl⟩, rfl⟩ := hcut
    have HK := Lib.hid hk
    clear hk hm3 rs
    obtain ⟨n0, hn0⟩ : ∃ n, n = xs.length := ⟨_, rfl⟩
    have HN0 := Lib.hid hn0
    rw [← hn0] at HCOPY HXL
    clear hn0
    go_wp2_with (go_at_call 24; refine (HCOPY.out).mono ?_; rintro e wC ⟨vC, rfl, hown, hbC⟩; obtain ⟨aC, kC, rfl⟩ := own_slice hown)
    go_loopg [0] (8 - n0) (fun g s0 wr => ∃ (ys : List Int) (n : Nat) (ay : Option Addr) (cy : Nat), n = ys.length ∧ s0 = .slice ay n cy ∧ IsBytes ys ∧ n ≤ 140737488351240 ∧ g = 8 - n ∧ wr.ownsRow w.heap.size 5 1 (.slice ay n cy) n (u8s ys) ∧ Below w.heap.size w wr)
    case atStart => exact ⟨xs, n0, aC, kC, HN0.out, rfl, HXB.out, by have := HXL.out; omega, rfl, hown, hbC⟩
    case round =>
      obtain ⟨ys, n, ay, cy, hn, rfl, hyb, hnl, hg, hoy, hby⟩ := hrel
      by_cases h8 : n < 8
      · have hj : decide ((n : Int) < 8) = true := by simp; omega
        have HN := Lib.hid (And.intro hn (And.intro hyb (And.intro h8 hg)))
        have HO := Lib.hid hoy
        have HB := Lib.hid hby
        have hm3 : n + 1 ≤ maxLen := by unfold maxLen; omega
        have hm4 : (n + 1) * 1 ≤ 140737488355328 := by omega
        have hsB := hby.size
        clear hn hyb h8 hnl hg hoy hby hown hbC
        go_wp2_with (at_builtin; refine wpList_append_own _ rfl (.tmp 27) (.tmp 30) 27 rfl w.heap.size 5 i0 (.int .u8 0) 1 1 Tryz.underlying27 hi0 hz0 hz1 hz2 rfl (by decide) _ n _ rfl (HO.out.alloc _) ⟨wr.heap.size, 0, none⟩ 1 1 [.int .u8 _] rfl rfl (bytes_new_news wr [_] _) (bytes_one [_]) hm3 hm4 (by simp; omega) ?_; intro v3 w3 hown3 hgrow _)
        obtain ⟨a3, c3, rfl⟩ := own_slice hown3
        have hB3 : Below w.heap.size w w3 := Below.grown (HB.out.alloc hsB _) hgrow (by simp; omega) (fun j hj => Nat.le_trans (Nat.le_refl _) (HO.out.lt j hj).1)
        have el : (u8s ys) ++ [Value.int .u8 (fill % 256)] = u8s (ys ++ [fill % 256]) := by unfold u8s; rw [List.map_append]; rfl
        rw [el] at hown3
        go_roundg (8 - (n + 1))
        case measure => have := HN.out; omega
        case rel => exact ⟨ys ++ [fill % 256], n + 1, a3, c3, by rw [List.length_append, ← HN.out.1]; rfl, rfl, HN.out.2.1.append (fun z hz => by simp at hz; subst hz; omega), by have := HN.out; omega, rfl, hown3, hB3⟩
      · have hj : decide ((n : Int) < 8) = false := by simp; omega
        have HN := Lib.hid (And.intro hn (And.intro hyb (And.intro h8 hnl)))
        have HO := Lib.hid (held_of_own hoy hyb hn)
        have HB := Lib.hid hby
        clear hn hyb h8 hnl hg hoy hby hown hbC
        go_upto_if 34 with fail
        go_cut [0] (fun s0 wx => ∃ (zs : List Int) (m : Nat) (az : Option Addr) (cz : Nat), m = zs.length ∧ s0 = .slice az m cz ∧ Held wx (.slice az m cz) zs ∧ 8 ≤ m ∧ m ≤ 300 ∧ Below w.heap.size w wx)
        case first =>
          by_cases h3 : 300 < n
          · have q : decide (300 < (n : Int)) = true := by simp; omega
            have hop := HO.out.open
            obtain ⟨a', c', hv, h1, h2, h3', _⟩ := hop
            rw [← HN.out.1] at hv h1 h3'
            injection hv with e1 e2 e3
            subst e1 e3
            have hc : (300 : Int) ≤ (cy : Int) := by omega
            have hh := h3' 300 (by omega)
            have HHH := Lib.hid hh
            have HLEN := Lib.hid (show (ys.take 300).length = 300 by rw [List.length_take, ← HN.out.1]; omega)
            clear hh h3' h1 h2 h3
            try simp only [q]
            go_wp2_with fail
            go_meet
            case rel => exact ⟨ys.take 300, 300, ay, cy, HLEN.out.symm, rfl, HHH.out, by decide, by decide, HB.out⟩
          · have q : decide (300 < (n : Int)) = false := by simp; omega
            have HLE := Lib.hid h3
            clear h3
            try simp only [q]
            go_wp2_with fail
            go_meet
            case rel => exact ⟨ys, n, ay, cy, HN.out.1, rfl, HO.out, by have := HN.out; omega, by have := HLE.out; omega, HB.out⟩
        case rest =>
          obtain ⟨zs, m, az, cz, hm, rfl, hZ, hm8, hm300, hBz⟩ := hcut
          have HZ := Lib.hid hZ
          have HM := Lib.hid (And.intro hm (And.intro hm8 hm300))
          have HBZ := Lib.hid hBz
          obtain ⟨t, ht⟩ : ∃ t : Nat, t = A % (m + 2) := ⟨_, rfl⟩
          have htl : t ≤ m + 1 := by have := Nat.mod_lt A (show 0 < m + 2 by omega); omega
          have hz2 : ¬((m : Int) + 2 = 0) := by omega
          have hw2 : wrap64 ((m : Int) + 2) = (m : Int) + 2 := by unfold wrap64; omega
          have htm : (A : Int).tmod ((m : Int) + 2) = (t : Int) := by rw [ht]; rfl
          have hwt : IntKind.i64.wrap (t : Int) = (t : Int) := IntWalk.i64_in _ (by omega)
          have HT := Lib.hid (And.intro htl (And.intro htl htl))
          clear ht htl hZ hm hm8 hm300 hBz HO HN HB HXB HXL HCOPY HN0 hj
          have hbe := run_i0
          have hbm := run_i0425
          have hbs := run_i034625
          have hbl := run_i03456
          have hwz : ∃ wz, wz = wc := ⟨_, rfl⟩
          obtain ⟨wz, rfl⟩ := hwz
          go_upto_region 9 with (go_at_call 21; refine (wide_of _ _ _).mono ?_; rintro e wW ⟨rfl, hbW⟩)
          have hZ1 := (HZ.out.below hbW (Nat.le_refl _)).below (below_map wW (.cells (codec (pmc k vv t)).toArray 23)) (Nat.le_refl _)
          have hB1 := (hbW).alloc hbW.size (.cells (codec (pmc k vv t)).toArray 23)
          have hC1 := coded_new (pmc k vv t) (by simp [pmc]) (by simp [pmc]) wW
          have HZ1 := Lib.hid hZ1
          have HB1 := Lib.hid hB1
          have HC1 := Lib.hid hC1
          clear hZ1 hB1 hC1 hbW
          obtain ⟨wA, hwA⟩ : ∃ wA, wA = wW.alloc (.cells (codec (pmc k vv t)).toArray 23) := ⟨_, rfl⟩
          rw [← hwA] at HZ1 HB1 HC1
          have hk1 : 1 ≤ k := by have := HK.out; unfold SizeM at this; omega
          have hk8 : k ≤ 8 := by have := HK.out; unfold SizeM at this; omega
          have hpok := pmc_ok k vv t HK.out HRV.out (by have := HM.out; have := HT.out; omega)
          obtain ⟨s2, hg, hbd⟩ := pm_run k vv t HK.out zs
          by_cases htk : t + k ≤ m
          · obtain ⟨hg1, hg2, hg3⟩ := hg (by have := HM.out; omega)
            obtain ⟨R, hR⟩ : ∃ R, getv false (putl k vv) = R := ⟨_, rfl⟩
            obtain ⟨ys, hys⟩ : ∃ ys, overF zs t (putl k vv) = ys := ⟨_, rfl⟩
            have hpl : t + (putl k vv).length ≤ zs.length := by rw [putl_length]; have := HM.out; omega
            have hyb : IsBytes ys := by rw [← hys]; exact overF_bytes HZ.out.bytes (putl_bytes k vv) t
            have hyl : m = ys.length := by rw [← hys, overF_len hpl]; exact HM.out.1
            have hRK := runs_ok (pmc k vv t) hpok zs HZ.out.bytes (by have := HM.out; omega) s2 hg1 R (hg2.trans hR) ys (hg3.trans hys) hyb m hyl 5 rfl _ _ _ _ HC1.out HZ1.out
            have HRK := Lib.hid hRK
            have HR := Lib.hid hR
            have HYS := Lib.hid hys
            have HYB := Lib.hid (And.intro hyb (And.intro hyl hpl))
            have HTK := Lib.hid htk
            have hq : decide ((m : Int) < (t : Int) + (k : Int)) = false := by simp; omega
            have hwtk : wrap64 ((t : Int) + (k : Int)) = (t : Int) + (k : Int) := by have := HM.out; have := HT.out; unfold wrap64; omega
            have HK18 := Lib.hid (And.intro hk1 hk8)
            clear hpok hg hbd hg1 hg2 hg3 hR hys hpl hyb hyl hRK hk1 hk8 htk
            subst hwA
            go_upto_region 12 with (go_at_call 20; refine HRK.out.mono ?_; rintro e wR ⟨a1, c1, a2, n2, c2, a3, n3, c3, rfl, hO1, hbR⟩)
            have hH1 := held_of_own hO1 HYB.out.1 HYB.out.2.1
            have hbo := below_map wR (.cells #[.int .i64 R, .slice a1 m c1, .slice a2 n2 c2, .slice a3 n3 c3] 31)
            have HBX := Lib.hid (Row.made wR [.int .i64 R, .slice a1 m c1, .slice a2 n2 c2, .slice a3 n3 c3] 31)
            have HA := Lib.hid ((HZ1.out.below hbR (Nat.le_refl _)).below hbo (Nat.le_refl _))
            have HB2 := Lib.hid (hH1.below hbo (Nat.le_refl _))
            have HLQ := Lib.hid (show wz.heap.size ≤ wR.heap.size from Nat.le_trans HB1.out.size hbR.size)
            have HBL := Lib.hid ((HB1.out.trans (hbR.mono HB1.out.size)).alloc HLQ.out (.cells #[.int .i64 R, .slice a1 m c1, .slice a2 n2 c2, .slice a3 n3 c3] 31))
            clear hH1 hO1 hbR hbo HZ1 HB1 HC1 HRK
            generalize World.alloc _ _ = wB at HBX HA HB2 HBL ⊢
            have hcp := copy_of (.slice az m cz) zs wB HA.out (by have := HM.out; omega)
            rw [← HM.out.1] at hcp
            have HCP := Lib.hid hcp
            clear hcp
            go_upto_region 13 with (go_at_call 24; go_loud (refine (HCP.out).mono ?_; rintro e wC ⟨vC, rfl, hown, hbC⟩; obtain ⟨g, cap, rest, rfl, hgb, hrow, hmc, hcm, hcl⟩ := own_row hown (by have := HM.out; omega)))
            have HROWG := Lib.hid hrow
            have HGB := Lib.hid (And.intro hgb (And.intro hcm hcl))
            have HBC := Lib.hid hbC
            clear hown hrow hgb hcm hcl hbC
            go_cut [] (fun wx => KM wz wR.heap.size R (.slice a1 m c1) (.slice (some ⟨g, 0, none⟩) m cap) (.slice a2 n2 c2) (.slice a3 n3 c3) ys wx)
            case first =>
              have htk := HTK.out
              have hk1 := HK18.out.1
              have hk8 := HK18.out.2
              have ht1 : t ≤ m := by omega
              have ht2 : t < cap := by omega
              have ht3 : t ≤ cap := by omega
              have ht4 : ¬ cap = t := by omega
              have HT4 := Lib.hid (And.intro hk1 (And.intro hk8 htk))
              clear htk hk1 hk8
              have hcells := fun (wP : World) (bP : Nat) (hr : Row wP bP 5 (utab k fun i => vv / 2 ^ (8 * i) % 256)) => bytes_news (w := wP) (b := bP) (off := 0) (xs := putl k vv) (fun i hi => by rw [putl_length] at hi; rw [Nat.zero_add, hr.cell, utab_get _ hi, putl_get vv hi])
              have HCELLS := Lib.hid hcells
              clear hcells
              have hu8 := Tryz.underlying27
              have hs8 : (Tryz.prog.info? 5).map (·.size) = some 1 := by rw [hi0]; exact congrArg some hz1
              go_region_law (first
                | (go_simp; go_at_call 25; refine (put_of k k vv rfl HT4.out.1 HT4.out.2.1 _).mono ?_; rintro e wP ⟨bP, rfl, hge, hrowP, hbP⟩; have hgP := (HROWG.out.drew).below hbP (HROWG.out.lt))
                | (refine step_copy_splice rfl (.tmp 72) (.tmp 75) 27 27 rfl 5 hu8 hs8 (some ⟨g, t, none⟩) (some ⟨bP, 0, none⟩) (m - t) (cap - t) k k rfl rfl g t (u8s zs ++ rest) 5 hgP (u8s (putl k vv)) (((List.length_map _).trans (putl_length k vv)).trans (Nat.min_eq_left (by have := HT4.out; omega)).symm) (fun _ => ⟨rfl, ⟨bP, 0, none⟩, rfl, HCELLS.out _ _ hrowP⟩) (by rw [HGB.out.2.2]; unfold u8s; rw [List.length_map, putl_length]; have := HT4.out; omega) (bytes_one _) wB.heap.size wB (HBC.out.drew.trans (hbP.mono HBC.out.size)) HGB.out.1 ?_; intro wE hgE hbE))
              go_wp2_with fail
              go_meet
              case rel =>
                exact ⟨HBL.out.trans (hbE.mono HBL.out.size), HBX.out.below hbE HBX.out.lt, HB2.out.below hbE (Nat.le_refl _), by rw [← HYS.out]; exact splice_held hgE.out HM.out.1 hmc HGB.out.2.1 HYB.out.2.2 HZ.out.bytes (putl_bytes k vv)⟩
            case rest =>
              have HKM := Lib.hid hcut
              have HBCZ := Lib.hid hcut.bel
              clear hcut HROWG HGB HBC HA HB2 HBL HBX HCP
              have hnR : (R != R) = false := by simp
              go_upto_region 14 with fail
              go_cut [94] (fun s94 wx => s94 = .bool false ∧ KM wz wR.heap.size R (.slice a1 m c1) (.slice (some ⟨g, 0, none⟩) m cap) (.slice a2 n2 c2) (.slice a3 n3 c3) ys wx)
              case first =>
                have hks := (HKM.out.next (Below.refl _ _).drew).k
                go_region_held3 (fun w' => w'.cell? ⟨wR.heap.size, 0, none⟩ = some (.int .i64 R) ∧ w'.cell? ⟨wR.heap.size, 1, none⟩ = some (.slice a1 m c1) ∧ KM wz wR.heap.size R (.slice a1 m c1) (.slice (some ⟨g, 0, none⟩) m cap) (.slice a2 n2 c2) (.slice a3 n3 c3) ys w')
                  (first
                    | with_reducible assumption
                    | with_reducible exact KM.n (by with_reducible assumption) hbP
                    | fail "none")
                  (first
                    | (go_at_call 25; refine (put_of k k vv rfl HK18.out.1 HK18.out.2 _).mono ?_; rintro e wP ⟨bP, rfl, hge, hrowP, hbP⟩; have hP := held_utab hrowP HK18.out.2)
                    | (go_at_call 26; refine (get_of _ false _ _ hP).mono ?_; rintro e wG ⟨he, rfl⟩; rw [HR.out] at he; subst he)
                    | (go_at_call 27; refine (KM.same (by with_reducible assumption)).mono ?_; rintro e wG ⟨rfl, rfl⟩))
                all_goals
                  rename_i hheld
                  go_wp2_with fail
                  go_meet
                  case rel => exact ⟨rfl, hheld.2.2⟩
              case rest =>
                obtain ⟨rfl, hK⟩ := hcut
                have HKN := Lib.hid (And.intro hK.bel hK.box)
                clear hK HKM HR HYS HYB hnR HTK HBCZ
                obtain ⟨s, hs⟩ : ∃ s : Nat, s = A % 257 := ⟨_, rfl⟩
                have hsl : s ≤ 256 := by have := Nat.mod_lt A (show 0 < 257 by decide); omega
                have htm : (A : Int).tmod 257 = (s : Int) := by rw [hs]; rfl
                have hwt : IntKind.i64.wrap (s : Int) = (s : Int) := IntWalk.i64_in _ (by omega)
                have hs1 : wrap64 ((s : Int) - 256) = (s : Int) - 256 := by unfold wrap64; omega
                have HW2 := Lib.hid (show wrap64 ((s : Int) - 257) = (s : Int) - 257 by unfold wrap64; omega)
                have HW3 := Lib.hid (show wrap64 ((s : Int) + (k : Int)) = (s : Int) + (k : Int) by have := HK18.out; unfold wrap64; omega)
                have HSL := Lib.hid hsl
                clear hs hsl
                go_upto_if 111 with (go_at_call 21; refine (wide_of _ _ _).mono ?_; rintro e wW2 ⟨rfl, hbW2⟩)
                clear hs1 htm hwt hwtk hw2 hq
                have hKS := ks_new k vv ((s : Int) - 256) ((s : Int) - 256) HKN.out.1 HKN.out.2 hbW2 HLQ.out
                have HKS := Lib.hid hKS
                clear hKS HKN hbW2
                generalize World.alloc _ _ = wX at HKS ⊢
                go_cut [] (fun wx => ∃ op : Int, (op = 22 ∧ k = 8 ∨ op = 23 ∧ (k = 1 ∨ k = 2 ∨ k = 4)) ∧ KS wz wR.heap.size wW2.heap.size [.int .i64 R, .slice a1 m c1, .slice a2 n2 c2, .slice a3 n3 c3] (codec (psc op k vv ((s : Int) - 256) ((s : Int) - 256))) wx)
                case first =>
                  by_cases h8 : k = 8
                  · have q8 : ((k : Int) == 8) = true := by rw [h8]; rfl
                    have H8 := Lib.hid h8
                    obtain ⟨hc16, _, hf16, _⟩ := HKS.out.f
                    clear h8
                    simp only [q8]
                    clear q8
                    go_wp2_with fail
                    go_meet
                    case rel => exact ⟨22, Or.inl ⟨rfl, H8.out⟩, HKS.out.op8⟩
                  · have q8 : ((k : Int) == 8) = false := by rw [beq_eq_false_iff_ne]; intro h; exact h8 (Int.ofNat_inj.1 h)
                    have H8 := Lib.hid h8
                    clear h8
                    simp only [q8]
                    clear q8
                    go_wp2_with fail
                    go_meet
                    case rel => exact ⟨23, Or.inr ⟨rfl, by have h1 := HK.out; have h2 := H8.out; unfold SizeM at h1; omega⟩, HKS.out⟩
                case rest =>
                  obtain ⟨op, hop, hK2⟩ := hcut
                  have HOP := Lib.hid hop
                  have HKS2 := Lib.hid hK2
                  clear HKS hK2 hop
                  have hc2 := HKS2.out.coded
                  have hz2 := HZ.out.below HKS2.out.bel (Nat.le_refl _)
                  have hpok2 := psc_ok op k vv ((s : Int) - 256) ((s : Int) - 256) HOP.out HRV.out (by have := HSL.out; omega) (by have := HSL.out; omega)
                  obtain ⟨s3, p1, p2, p3, p4⟩ := ps_run op k s s vv ((s : Int) - 256) HOP.out (by omega) zs
                  by_cases hsk : s + k ≤ 256
                  · obtain ⟨hg1, hg2, hg3⟩ := p2 hsk rfl
                    obtain ⟨R2, hR2⟩ : ∃ R, getv true (putl k vv) = R := ⟨_, rfl⟩
                    have HRK2 := Lib.hid (runs_ok (psc op k vv ((s : Int) - 256) ((s : Int) - 256)) hpok2 zs HZ.out.bytes (by have := HM.out; omega) s3 hg1 R2 (hg2.trans hR2) zs hg3 HZ.out.bytes m HM.out.1 4 rfl _ _ _ _ hc2 hz2)
                    have HR2 := Lib.hid hR2
                    have HSK := Lib.hid hsk
                    have q2 : decide (256 < (s : Int) + (k : Int)) = false := by simp; omega
                    clear hg1 hg2 hg3 hR2 hsk p1 p2 p3 p4 hc2 hz2 hpok2
                    have hs3 := HW3.out
                    go_upto_region 21 with (go_at_call 20; go_loud (refine HRK2.out.mono ?_; rintro e wR2 ⟨a4, c4, b2, e2, f2, b3, e3, f3, rfl, hO2, hbR2⟩; have hks2 := HKS2.out.next hbR2; obtain ⟨⟨_, _, _, _⟩, _, _, _, _⟩ := hks2.box.four))
                    have HKS3 := Lib.hid (hks2.put4 (.int .i64 R2) (.slice a4 m c4) (.slice b2 e2 f2) (.slice b3 e3 f3))
                    have HH4 := Lib.hid (held_of_own (own_put4 hO2 HKS2.out.box.lt (.int .i64 R2) (.slice a4 m c4) (.slice b2 e2 f2) (.slice b3 e3 f3)) HZ.out.bytes HM.out.1)
                    clear hO2 hks2 HRK2 hbR2
                    generalize World.setCell _ _ _ = wY at HKS3 HH4 ⊢
                    go_upto_region 23 with fail
                    clear hs3
                    have hnR2 : (R2 != R2) = false := by simp
                    go_cut [144] (fun s144 wx => s144 = .bool false ∧ Below wY.heap.size wY wx)
                    case first =>
                      have hks := (KM.next ⟨Below.refl _ _, HKS3.out.box, HH4.out, HZ.out.below HKS3.out.bel (Nat.le_refl _)⟩ (Below.refl _ _).drew : KM wY wR.heap.size R2 (.slice a4 m c4) (.slice az m cz) (.slice b2 e2 f2) (.slice b3 e3 f3) zs wY.drew).k
                      go_region_held3 (fun w' => w'.cell? ⟨wR.heap.size, 0, none⟩ = some (.int .i64 R2) ∧ w'.cell? ⟨wR.heap.size, 1, none⟩ = some (.slice a4 m c4) ∧ KM wY wR.heap.size R2 (.slice a4 m c4) (.slice az m cz) (.slice b2 e2 f2) (.slice b3 e3 f3) zs w')
                      (first
                        | with_reducible assumption
                        | with_reducible exact KM.n (by with_reducible assumption) hbP
                        | fail "none")
                      (first
                        | (go_at_call 25; refine (put_of k k vv rfl HK18.out.1 HK18.out.2 _).mono ?_; rintro e wP ⟨bP, rfl, hge, hrowP, hbP⟩; have hP := held_utab hrowP HK18.out.2)
                        | (go_at_call 26; refine (get_of _ true _ _ hP).mono ?_; rintro e wG ⟨he, rfl⟩; rw [HR2.out] at he; subst he)
                        | (go_at_call 27; refine (KM.same (by with_reducible assumption)).mono ?_; rintro e wG ⟨rfl, rfl⟩))
                      all_goals
                        rename_i hheld
                        go_wp2_with fail
                        go_meet
                        case rel => exact ⟨rfl, hheld.2.2.bel⟩
                    case rest =>
                      obtain ⟨rfl, hB4⟩ := hcut
                      have HKS4 := Lib.hid (HKS3.out.next hB4)
                      obtain ⟨_, hc22, _, hf22⟩ := HKS4.out.f
                      clear hB4 hnR2 HH4 HR2
                      have hs2 := HW2.out
                      go_upto_region 26 with fail
                      clear hs2
                      have HKS5 := Lib.hid (HKS4.out.off ((s : Int) - 257))
                      clear hf22 hc22 HKS4 HKS3 HKS2
                      generalize World.setCell _ _ _ = wV at HKS5 ⊢
                      by_cases h0 : s = 0
                      · have q0 : ((s : Int) == 0) = true := by rw [h0]; rfl
                        have q5 : decide ((s : Int) + (k : Int) < 256) = true := by have := HK18.out; simp; omega
                        have q6 : decide (0 < (s : Int)) = false := by simp; omega
                        have q6n : decide (0 < s) = false := by simp; omega
                        have H0 := Lib.hid h0
                        obtain ⟨_, hc22, _, hf22⟩ := HKS5.out.f
                        clear h0
                        go_upto_region 28 with fail
                        have HKS6 := Lib.hid (HKS5.out.off 1)
                        clear hf22 hc22 HKS5
                        generalize World.setCell _ _ _ = wU at HKS6 ⊢
                        have hc3 := HKS6.out.coded
                        have hpok3 := psc_ok op k vv ((s : Int) - 256) 1 HOP.out HRV.out (by have := HSL.out; omega) (by omega)
                        obtain ⟨s4, p1, p2, p3, p4⟩ := ps_run op k s 257 vv 1 HOP.out (by decide) zs
                        have HRB3 := Lib.hid (runs_trap8 _ hpok3 zs HZ.out.bytes (by have := HM.out; omega) 81 (by decide) s4 (p3 HSK.out (by omega)) 4 rfl _ _ _ _ hc3 (HZ.out.below HKS6.out.bel (Nat.le_refl _)))
                        clear hc3 hpok3 p1 p2 p3 p4
                        have hs3 := HW3.out
                        go_wp2_with (go_at_call 20; refine HRB3.out.mono ?_; rintro e wR3 ⟨_, _, _, _, _, _, _, _, _, rfl, hbR3⟩)
                        go_ret
                        exact ⟨rfl, HBZ.out.trans ((HKS6.out.bel.trans (hbR3.mono HKS6.out.bel.size)).mono HBZ.out.size)⟩
                      · have q0 : ((s : Int) == 0) = false := by simp; omega
                        have q6 : decide (0 < (s : Int)) = true := by simp; omega
                        have q6n : decide (0 < s) = true := by simp; omega
                        have hc3 := HKS5.out.coded
                        have hpok3 := psc_ok op k vv ((s : Int) - 256) ((s : Int) - 257) HOP.out HRV.out (by have := HSL.out; omega) (by have := HSL.out; omega)
                        obtain ⟨s4, p1, p2, p3, p4⟩ := ps_run op k s (s - 1) vv ((s : Int) - 257) HOP.out (by omega) zs
                        have HRB3 := Lib.hid (runs_trap8 _ hpok3 zs HZ.out.bytes (by have := HM.out; omega) 82 (by decide) s4 (p4 HSK.out (by omega)) 4 rfl _ _ _ _ hc3 (HZ.out.below HKS5.out.bel (Nat.le_refl _)))
                        clear hc3 hpok3 p1 p2 p3 p4 h0
                        by_cases h5 : s + k < 256
                        · have q5 : decide ((s : Int) + (k : Int) < 256) = true := by simp; omega
                          clear h5
                          have hs3 := HW3.out
                          go_wp2_with (go_at_call 20; refine HRB3.out.mono ?_; rintro e wR3 ⟨_, _, _, _, _, _, _, _, _, rfl, hbR3⟩)
                          go_ret
                          exact ⟨rfl, HBZ.out.trans ((HKS5.out.bel.trans (hbR3.mono HKS5.out.bel.size)).mono HBZ.out.size)⟩
                        · have q5 : decide ((s : Int) + (k : Int) < 256) = false := by simp; omega
                          clear h5
                          have hs3 := HW3.out
                          go_wp2_with (go_at_call 20; refine HRB3.out.mono ?_; rintro e wR3 ⟨_, _, _, _, _, _, _, _, _, rfl, hbR3⟩)
                          go_ret
                          exact ⟨rfl, HBZ.out.trans ((HKS5.out.bel.trans (hbR3.mono HKS5.out.bel.size)).mono HBZ.out.size)⟩
                  · have HRB2 := Lib.hid (runs_trap8 _ hpok2 zs HZ.out.bytes (by have := HM.out; omega) 81 (by decide) s3 (p1 (by omega)) 4 rfl _ _ _ _ hc2 hz2)
                    have q2 : decide (256 < (s : Int) + (k : Int)) = true := by simp; omega
                    clear hsk p1 p2 p3 p4 hc2 hz2 hpok2
                    have hs3 := HW3.out
                    go_upto_region 21 with (go_at_call 20; go_loud (refine HRB2.out.mono ?_; rintro e wR2 ⟨a4, m4, c4, b2, e2, f2, b3, e3, f3, rfl, hbR2⟩; have hks2 := HKS2.out.next hbR2; obtain ⟨⟨_, _, _, _⟩, _, _, _, _⟩ := hks2.box.four))
                    have HKS3 := Lib.hid (hks2.put4 (.int .i64 0) (.slice a4 m4 c4) (.slice b2 e2 f2) (.slice b3 e3 f3))
                    clear hks2 HRB2 hbR2
                    generalize World.setCell _ _ _ = wY at HKS3 ⊢
                    go_wp2_with fail
                    go_ret
                    exact ⟨rfl, HBZ.out.trans (HKS3.out.bel.mono HBZ.out.size)⟩
          · have hRB := runs_trap8 (pmc k vv t) hpok zs HZ.out.bytes (by have := HM.out; omega) 81 (by decide) s2 (hbd (by have := HM.out; omega)) 5 rfl _ _ _ _ HC1.out HZ1.out
            have HRB := Lib.hid hRB
            have hq : decide ((m : Int) < (t : Int) + (k : Int)) = true := by simp; omega
            have hwtk : wrap64 ((t : Int) + (k : Int)) = (t : Int) + (k : Int) := by have := HM.out; have := HT.out; unfold wrap64; omega
            clear hpok hg hbd hRB htk hk1 hk8
            subst hwA
            go_wp2_with (go_at_call 20; refine HRB.out.mono ?_; rintro e wR ⟨_, _, _, _, _, _, _, _, _, rfl, hbR⟩)
            go_ret
            exact ⟨rfl, (HBZ.out.trans ((HB1.out.trans (hbR.mono HB1.out.size)).mono HBZ.out.size)).alloc (by have := HBZ.out.size; have := HB1.out.size; have := hbR.size; omega) _⟩


theorem fact_wf : (Rows.machMemoryRow.wf (OpenSpec.ofChange Rows.machMemorySpec)) = true := by kernel_rfl
theorem fact_rd : (Tryz.f5.params.all ((Tryz.prog).readableRec ·)) = true := by kernel_rfl
theorem fact_nt : (namedTie (Tryz.prog) Rows.machMemoryRow.named Rows.machMemorySpec.vars) = true := by kernel_rfl
theorem fact_s1 : ((Rows.machMemoryRow.stops == [])) = true := by kernel_rfl
theorem fact_k1 : ((Rows.machMemoryRow.knobs == [])) = true := by kernel_rfl
theorem fact_ip : ((Rows.machMemoryRow.inPlace == (Tryz.prog).inPlace 5)) = true := by kernel_rfl
theorem fact_uf : ((Rows.machMemoryRow.unfollowed == (Tryz.prog).unfollowed 5)) = true := by kernel_rfl
theorem fact_rc : ((Rows.machMemoryRow.recurses == (Tryz.prog).recurses 5)) = true := by kernel_rfl
theorem fact_nm : ((Rows.machMemoryRow.named == (Tryz.prog).varsNamed 5)) = true := by kernel_rfl
theorem fact_mp : ((Rows.machMemoryRow.maps == (Tryz.f5.params.toList ++ Rows.machMemorySpec.plain.varTypes (Tryz.prog)).any ((Tryz.prog).mapsRec ·))) = true := by kernel_rfl
theorem fact_if : ((Rows.machMemoryRow.ifaces == (Tryz.f5.params.toList ++ Rows.machMemorySpec.plain.varTypes (Tryz.prog)).any ((Tryz.prog).ifacesRec ·))) = true := by kernel_rfl
theorem fact_mo : ((Rows.machMemoryRow.mapsOut == (Tryz.prog).mapsAmong Tryz.f5.resultTypes.toList)) = true := by kernel_rfl
theorem fact_lp : ((Rows.machMemoryRow.loops == (Tryz.f5.params.toList ++ Rows.machMemorySpec.plain.varTypes (Tryz.prog)).any ((Tryz.prog).loopsFrom ·))) = true := by kernel_rfl
theorem fact_wk : ((Rows.machMemoryRow.wideKeys == (Tryz.f5.params.toList ++ Rows.machMemorySpec.plain.varTypes (Tryz.prog) ++ Tryz.f5.resultTypes.toList).any ((Tryz.prog).wideKeysFrom ·))) = true := by kernel_rfl
theorem fact_vr : (Rows.machMemorySpec.vars.all ((Tryz.prog).varReadable ·)) = true := by kernel_rfl
theorem fact_rr : (Tryz.f5.resultTypes.all (fun t => (Tryz.prog).readableRec t && decide (t < (Tryz.prog).types.size))) = true := by kernel_rfl
theorem fact_io : ((Rows.machMemoryRow.ifacesOut == Tryz.f5.resultTypes.toList.any ((Tryz.prog).ifacesRec ·))) = true := by kernel_rfl
theorem fact_ol : ((Rows.machMemoryRow.loopsOut == Tryz.f5.resultTypes.toList.any ((Tryz.prog).loopsFrom ·))) = true := by kernel_rfl
theorem fact_pk : ((Rows.machMemoryRow.plainKeys == (Tryz.prog).plainKeys)) = true := by kernel_rfl
theorem fact_st : (Rows.machMemoryRow.shortTexts.isNone) = true := by kernel_rfl
theorem fact_lf : ((Rows.machMemoryRow.lifted == (Tryz.prog).liftsFinal)) = true := by kernel_rfl
theorem fact_mk : (((Tryz.prog).make == some Rows.machMemoryRow.make)) = true := by kernel_rfl
theorem fact_kd : ((Rows.machMemoryRow.kinds == (if Rows.machMemoryRow.domain.isEmpty then [] else Tryz.f5.params.toList.map fun t => match (Tryz.prog).underlying t with | some (.int k) => some k | _ => none))) = true := by kernel_rfl
theorem fact_pn : ((Rows.machMemoryRow.pinned == Rows.machMemoryRow.pinnedBy)) = true := by kernel_rfl
theorem fact_vl : ((Rows.machMemoryRow.veiled == (Tryz.f5.params.toList ++ Rows.machMemorySpec.plain.varTypes (Tryz.prog) ++ Tryz.f5.resultTypes.toList).any ((Tryz.prog).veiledRec ·))) = true := by kernel_rfl
theorem fact_vf : (Rows.machMemoryRow.veiledFits (Tryz.prog) Tryz.f5.params.toList (Tryz.f5.params.toList ++ Rows.machMemorySpec.plain.varTypes (Tryz.prog) ++ Tryz.f5.resultTypes.toList)) = true := by kernel_rfl
set_option maxRecDepth 100000 in
theorem closed : joinedFacts Tryz.prog 5 Tryz.f5 Rows.machMemorySpec Rows.machMemoryRow = true :=
  closed_of fact_wf fact_lo fact_mr fact_rd fact_nt fact_s1 fact_s2 fact_k1 fact_k2 fact_ip fact_uf fact_rc fact_nm fact_mp fact_if fact_mo fact_lp fact_wk fact_vr fact_rr fact_io fact_ol fact_pk fact_st fact_sh fact_me fact_lf fact_mk fact_kd fact_pn fact_vl fact_vf

theorem own : ownKnob Tryz.prog.godebug = none := by kernel_rfl
set_option maxRecDepth 100000 in
theorem lifted (os : Os) (started : os.Started) (H : Type) (enc : TypeId × Value → H) :
    ReturnsInHanded {} Tryz.checked os 5 .any (Rows.machMemorySpec.pre6 enc Tryz.prog Tryz.f5 Rows.machMemoryRow.domain false) (Rows.machMemorySpec.post enc Tryz.prog Tryz.f5 false true false false) := by
  refine returnsInHanded_of_change_sized (C := Tryz.checked) own started (by kernel_rfl) Tryz.func5
    (ChangeSpec.witness6 (enc := enc) (C := Tryz.checked) false ⟨#[], #[.slice none 0 0, .int .i64 0, .int .i64 0, .int .i64 0, .int .i64 0], []⟩ 8 (by kernel_rfl) (by kernel_rfl) (by kernel_rfl) (by kernel_rfl)) ?_
  intro W base args ds gs before hval0 hW hcnd hsz0 _
  have hsz : (DataW.weightsEach Tryz.prog (Tryz.f5.params.toList ++ Rows.machMemorySpec.plain.varTypes Tryz.prog) (ds ++ gs)).all (· ≤ reachBytes) = true := hsz0
  have hval : ∀ (j : Nat) t v, Tryz.f5.params[j]? = some t → args[j]? = some v → Value.okWide Tryz.prog W .any base t v := hval0
  have hW' := hW
  obtain ⟨p, q, hA0, hV, rfl, hfz, hnd⟩ := hW
  have hA : DataW.TrodAll enc Tryz.prog W 0 (fun _ => true) true Tryz.f5.params.toList args.toList ds p := hA0
  rw [Tryz.params5] at hA hval hsz
  obtain ⟨v0, vs0, d0, ds0, p0, q0, hargs, rfl, rfl, h0, r0⟩ := trodAll_cons hA
  obtain ⟨v1, vs1, d1, ds1, p1, q1, rfl, rfl, rfl, h1, r1⟩ := trodAll_cons r0
  obtain ⟨v2, vs2, d2, ds2, p2, q2, rfl, rfl, rfl, h2, r2⟩ := trodAll_cons r1
  obtain ⟨v3, vs3, d3, ds3, p3, q3, rfl, rfl, rfl, h3, r3⟩ := trodAll_cons r2
  obtain ⟨v4, vs4, d4, ds4, p4, q4, rfl, rfl, rfl, h4, r4⟩ := trodAll_cons r3
  obtain ⟨rfl, rfl, rfl⟩ := trodAll_nil r4
  obtain rfl : args = #[v0, v1, v2, v3, v4] := by cases args; simp_all
  obtain ⟨xs0, hX0, hd0⟩ := bytes_arg (hval 0 27 v0 rfl rfl) h0
  have hl0 : xs0.length ≤ 140737488351232 := by
    rcases hd0 with rfl | ⟨spare, rfl⟩
    · simp
    · have := sized_slice hsz (j := 0) (t := 27) (e := 5) rfl rfl Tryz.underlying27
      rw [show Tryz.prog.bytesOf 5 = 1 by kernel_rfl] at this
      simp only [lits, List.length_map, reachBytes] at this
      omega
  obtain ⟨a1, rfl, rfl, rfl, w1⟩ := open_int Tryz.underlying3 (hval 1 3 v1 rfl rfl) h1
  obtain ⟨a2, rfl, rfl, rfl, w2⟩ := open_int Tryz.underlying3 (hval 2 3 v2 rfl rfl) h2
  obtain ⟨a3, rfl, rfl, rfl, w3⟩ := open_int Tryz.underlying3 (hval 3 3 v3 rfl rfl) h3
  obtain ⟨a4, rfl, rfl, rfl, w4⟩ := open_int Tryz.underlying3 (hval 4 3 v4 rfl rfl) h4
  refine (walk v0 xs0 (Nat.le_trans hl0 (by decide)) a1 (range_i64 w1) a2 (range_i64 w2) a3 (range_i64 w3) a4 (range_i64 w4) W hX0).mono fun e W' ⟨he, hb⟩ => ?_
  subst he
  exact ⟨_, rfl, law_post (tb := 4) (by kernel_rfl) (by kernel_rfl) rfl Tryz.underlying4 rfl (fun h => by subst h; rfl) hW' hb⟩

theorem proved : Rows.MachMemorySaid :=
  OpenClaim.holds_of_wide 5 Tryz.f5 rfl rfl rfl rfl rfl rfl rfl ⟨rfl, rfl, rfl, rfl, rfl⟩ rfl rfl rfl rfl rfl (by kernel_rfl) Tryz.func5 closed
    (of_decide_eq_true (by kernel_rfl)) (by unfold Func.isWrapper; first | (rw [if_pos (by decide +kernel)]; kernel_rfl) | (rw [if_neg (by decide +kernel)]; exact ⟨rfl, rfl⟩))
    (fun os started H enc _ => lifted os started H enc)
#print axioms proved

end Go.Proofs.YtbkcpepalicbjaaGreat.machMemory
