/-
  MachHelps: a call answers what help says of the bytes that stand there; a copy and a fill change just their piece; a piece that does not lie in its region is a trap; no condition but that the context has at most 2^47 - 4096 bytes, as every slice of bytes has.
-/
import Derived.Test.YtdepknffpnnmmaaGreatMachCF
import Derived.Test.YtdepknffpnnmmaaGreatFacts
import Derived.Test.YtdepknffpnnmmaaGreatBuilds
import Derived.OpenShut
import Derived.Deep.CutBlock
import Derived.Deep.CutRange
import Derived.Deep.LoopGhost
import Derived.Deep.RegionLaw
namespace Go.Proofs.YtdepknffpnnmmaaGreat.machHelps
open Go.ChangeShapes Go.WideShapes Go.ChangeAt Go.RowKit
set_option linter.unusedVariables false
set_option linter.unusedSimpArgs false

theorem and62 (x : Int) : bits .and .i64 x 4611686018427387903 = x % 4611686018427387904 := by
  have h := i64_and_mask x 62 (by decide)
  have e : (2 : Int) ^ 62 = 4611686018427387904 := by decide
  rw [e] at h
  exact h
theorem mod_of (x : Int) (d : Nat) (hd : 0 < d) : ∃ m r : Nat, bits .and .i64 x 4611686018427387903 = (m : Int) ∧ (m : Int).tmod (d : Int) = (r : Int) ∧ r < d := by
  refine ⟨(x % 4611686018427387904).toNat, (x % 4611686018427387904).toNat % d, ?_, rfl, Nat.mod_lt _ hd⟩
  rw [and62]
  omega
set_option maxRecDepth 100000 in
set_option maxHeartbeats 8000000 in
theorem walk (v0 : Value) (xs : List Int) (hxl : xs.length ≤ 140737488351232) (fr : Int) (rfr : -9223372036854775808 ≤ fr ∧ fr ≤ 9223372036854775807) (dst : Int) (rto : -9223372036854775808 ≤ dst ∧ dst ≤ 9223372036854775807) (size : Int) (rs : -9223372036854775808 ≤ size ∧ size ≤ 9223372036854775807) (x : Int) (rx : -9223372036854775808 ≤ x ∧ x ≤ 9223372036854775807) (w : World) (hX : Held w v0 xs) :
    Calls Tryz.prog 4 #[v0, .int .i64 fr, .int .i64 dst, .int .i64 size, .int .i64 x] w fun e w' => e = .returned (.bool true) ∧ Below w.heap.size w w' := by
  have HCOPY := Lib.hid (copy_of v0 xs w hX (by omega))
  have HXB := Lib.hid hX.bytes
  have HRX := Lib.hid (And.intro rx rs)
  obtain ⟨n0, hn0⟩ : ∃ n, n = xs.length := ⟨_, rfl⟩
  have HN0 := Lib.hid hn0
  rw [← hn0] at HCOPY hxl
  have HXL := Lib.hid hxl
  clear hxl hn0 hX rfr rto rs rx
  go_enter Tryz.func4, Tryz.ntmps4
  go_upto_if 37 with (go_at_call 11; go_loud (refine (HCOPY.out).mono ?_; rintro e wC ⟨vC, rfl, hown, hbC⟩; obtain ⟨aC, kC, rfl⟩ := own_slice hown))
  have HO := Lib.hid (held_of_own hown HXB.out HN0.out)
  have HB := Lib.hid hbC
  clear hown hbC HCOPY
  go_cut [0] from 35 to 39 (fun s0 wx => ∃ (cx : List Int) (N : Nat) (a : Option Addr) (c : Nat), N = cx.length ∧ s0 = .slice a N c ∧ Held wx (.slice a N c) cx ∧ N ≤ 300 ∧ Below w.heap.size w wx)
  case first =>
    by_cases h3 : 300 < n0
    · have q : decide (300 < (n0 : Int)) = true := by simp; omega
      have hop := HO.out.open
      obtain ⟨a', c', hv, h1, h2, h3', _⟩ := hop
      rw [← HN0.out] at hv h1 h3'
      injection hv with e1 e2 e3
      subst e1 e3
      have hc : (300 : Int) ≤ (kC : Int) := by omega
      have hh := h3' 300 (by omega)
      have HHH := Lib.hid hh
      have HLEN := Lib.hid (show (xs.take 300).length = 300 by rw [List.length_take, ← HN0.out]; omega)
      clear hh h3' h1 h2 h3
      try simp only [q]
      go_wp2_with fail
      go_meet
      case rel => exact ⟨xs.take 300, 300, aC, kC, HLEN.out.symm, rfl, HHH.out, by decide, HB.out⟩
    · have q : decide (300 < (n0 : Int)) = false := by simp; omega
      have HLE := Lib.hid h3
      clear h3
      try simp only [q]
      go_wp2_with fail
      go_meet
      case rel => exact ⟨xs, n0, aC, kC, HN0.out, rfl, HO.out, by have := HLE.out; omega, HB.out⟩
  case rest =>
    obtain ⟨cx, N, a0, c0, hN, rfl, hZ, hN300, hB0⟩ := hcut
    have HN := Lib.hid (And.intro hN hN300)
    have hcb := hZ.bytes
    have HCB := Lib.hid hcb
    have HK := Lib.hid (⟨hB0, fun r hr => absurd hr (by simp), fun p hp h0 => (by rw [List.mem_singleton.1 hp]; exact hZ)⟩ : KH w [] [(0, .slice a0 N c0, cx)] wc)
    obtain ⟨A, f, hA, hf, hfl⟩ := mod_of fr (N + 1) (by omega)
    obtain ⟨B, t, hB, ht, htl⟩ := mod_of dst (N + 1) (by omega)
    obtain ⟨C, k, hC, hk, hkl⟩ := mod_of size (N + 2) (by omega)
    have hz1 : ¬ ((N : Int) + 1 = 0) := by omega
    have hz2 : ¬ ((N : Int) + 2 = 0) := by omega
    rw [show ((N + 1 : Nat) : Int) = (N : Int) + 1 from rfl] at hf ht
    rw [show ((N + 2 : Nat) : Int) = (N : Int) + 2 from rfl] at hk
    have hwf : IntKind.i64.wrap (f : Int) = (f : Int) := IntWalk.i64_in _ (by omega)
    have hwt : IntKind.i64.wrap (t : Int) = (t : Int) := IntWalk.i64_in _ (by omega)
    have hwk : IntKind.i64.wrap (k : Int) = (k : Int) := IntWalk.i64_in _ (by omega)
    have HL := Lib.hid (And.intro hfl (And.intro htl hkl))
    obtain ⟨FK, hFK⟩ : ∃ z : Nat, f + k = z := ⟨_, rfl⟩
    obtain ⟨TK, hTK⟩ : ∃ z : Nat, t + k = z := ⟨_, rfl⟩
    have HFK := Lib.hid (And.intro hFK hTK)
    have HWFK := Lib.hid (show wrap64 ((f : Int) + (k : Int)) = (FK : Int) by rw [← hFK]; unfold wrap64; omega)
    have HWFI := Lib.hid (show IntKind.i64.wrap ((f : Int) + (k : Int)) = (FK : Int) from (IntWalk.i64_in _ (by omega)).trans (by omega))
    have HWTI := Lib.hid (show IntKind.i64.wrap ((t : Int) + (k : Int)) = (TK : Int) from (IntWalk.i64_in _ (by omega)).trans (by omega))
    have HWTK := Lib.hid (show wrap64 ((t : Int) + (k : Int)) = (TK : Int) by rw [← hTK]; unfold wrap64; omega)
    clear hN hN300 hZ hB0 hcb hfl htl hkl hFK hTK HXB HN0 HXL HO HB
    have HW1 := Lib.hid (show wrap64 ((N : Int) + 1) = (N : Int) + 1 by have := HN.out; unfold wrap64; omega)
    have HW2 := Lib.hid (show wrap64 ((N : Int) + 2) = (N : Int) + 2 by have := HN.out; unfold wrap64; omega)
    obtain ⟨w1, rfl⟩ : ∃ z, z = wc := ⟨_, rfl⟩
    have hw1 := HW1.out
    go_upto_region 6 with fail
    clear hA hf hwf hB ht hwt hw1 hz1
    have hw2 := HW2.out
    go_upto_region 7 with fail
    clear hC hk hwk hw2 hz2
    have hwfk := HWFK.out
    go_upto_region 8 with fail
    clear hwfk
    go_cut [14, 15] from 58 to 72 (fun s14 s15 wx => s14 = .bool (decide (FK ≤ N)) ∧ s15 = .bool (decide (FK ≤ N) && decide (TK ≤ N)) ∧ w1 = wx)
    case first =>
      have hwtk := HWTK.out
      cases q1 : decide (FK ≤ N) with
      | false =>
        have q1i : decide ((FK : Int) ≤ (N : Int)) = false := by simp at q1 ⊢; omega
        clear hwtk
        go_wp2_with fail
        go_meet
        case rel => exact ⟨by rw [q1], by rw [q1]; rfl, rfl⟩
      | true =>
        have q1i : decide ((FK : Int) ≤ (N : Int)) = true := by simp at q1 ⊢; omega
        go_wp2_with fail
        go_meet
        case rel => exact ⟨by rw [q1], by rw [q1]; simp, rfl⟩
    case rest =>
      obtain ⟨rfl, rfl, hwx⟩ := hcut
      subst hwx
      obtain ⟨FT, hFT⟩ : ∃ z : Bool, decide (FK ≤ N) = z := ⟨_, rfl⟩
      obtain ⟨BT, hBT⟩ : ∃ z : Bool, (FT && decide (TK ≤ N)) = z := ⟨_, rfl⟩
      have hFTi : decide ((FK : Int) ≤ (N : Int)) = FT := by rw [← hFT]; simp
      simp only [hFT, hFTi, hBT]
      obtain ⟨E1, hE1⟩ : ∃ E : Int, (if f + k ≤ cx.length then 0 else 87) = E := ⟨_, rfl⟩
      obtain ⟨E2, hE2⟩ : ∃ E : Int, (if f + k ≤ cx.length ∧ t + k ≤ cx.length then 0 else 87) = E := ⟨_, rfl⟩
      have hf3 : f ≤ 300 := by have := HL.out; have := HN.out; omega
      have ht3 : t ≤ 300 := by have := HL.out; have := HN.out; omega
      have hk3 : k ≤ 301 := by have := HL.out; have := HN.out; omega
      have hcl : cx.length ≤ 65535 := by have := HN.out; omega
      obtain ⟨R1, hR1⟩ : ∃ R : Int, (if f + k ≤ cx.length then sumv ((cx.drop f).take k) x else 0) = R := ⟨_, rfl⟩
      obtain ⟨R5, hR5⟩ : ∃ R : Int, (if f + k ≤ cx.length then findv ((cx.drop f).take k) (x % 256) else 0) = R := ⟨_, rfl⟩
      obtain ⟨R4, hR4⟩ : ∃ R : Int, (if f + k ≤ cx.length ∧ t + k ≤ cx.length ∧ (4 : Int) = 4 then cmpv ((cx.drop t).take k) ((cx.drop f).take k) else 0) = R := ⟨_, rfl⟩
      obtain ⟨R8, hR8⟩ : ∃ R : Int, wrap64 ((mixv (un x) (un size) : Nat) : Int) = R := ⟨_, rfl⟩
      have hr1 := one_run cx f k x 1 (Or.inl rfl) hf3 hk3
      have hr5 := one_run cx f k x 5 (Or.inr rfl) hf3 hk3
      have hr4 := two_run cx f t k 4 (Or.inr rfl) hf3 ht3 hk3
      have hr2 := two_run cx f t k 2 (Or.inl rfl) hf3 ht3 hk3
      have hr3 := fill_run cx f k x hf3 hk3
      have hr8 := mix_run cx x size
      rw [if_pos (show (1 : Int) = 1 from rfl), hR1, hE1] at hr1
      rw [if_neg (show ¬ (5 : Int) = 1 by decide), hR5, hE1] at hr5
      rw [if_neg (show ¬ (4 : Int) = 2 by decide), hR4, hE2] at hr4
      rw [if_pos (show (2 : Int) = 2 from rfl), if_neg (show ¬ (f + k ≤ cx.length ∧ t + k ≤ cx.length ∧ (2 : Int) = 4) from fun h => absurd h.2.2 (by decide)), hE2] at hr2
      rw [hE1] at hr3
      rw [hR8] at hr8
      obtain ⟨CP, hCP⟩ : ∃ z, overF cx t ((cx.drop f).take k) = z := ⟨_, rfl⟩
      obtain ⟨FL, hFL⟩ : ∃ z, overF cx f (List.replicate k (x % 256)) = z := ⟨_, rfl⟩
      rw [hCP] at hr2
      rw [hFL] at hr3
      have HC1 := Lib.hid (fun n hn ca cc w' hc hx => rb_any (oneC f k x 1) do_callK (oneC_ok f k x 1 hf3 hk3 HRX.out.1 (by decide)) cx HCB.out hcl E1 R1 cx hr1 n hn ca cc (.slice a0 N c0) w' hc hx)
      have HC5 := Lib.hid (fun n hn ca cc w' hc hx => rb_any (oneC f k x 5) do_callK (oneC_ok f k x 5 hf3 hk3 HRX.out.1 (by decide)) cx HCB.out hcl E1 R5 cx hr5 n hn ca cc (.slice a0 N c0) w' hc hx)
      have HC4 := Lib.hid (fun n hn ca cc w' hc hx => rb_any (twoC f t k 4) do_callK (twoC_ok f t k 4 hf3 ht3 hk3 (by decide)) cx HCB.out hcl E2 R4 cx hr4 n hn ca cc (.slice a0 N c0) w' hc hx)
      have HC2 := Lib.hid (fun n hn ca cc w' hc hx => rb_any (twoC f t k 2) do_callK (twoC_ok f t k 2 hf3 ht3 hk3 (by decide)) cx HCB.out hcl E2 0 CP hr2 n hn ca cc (.slice a0 N c0) w' hc hx)
      have HC3 := Lib.hid (fun n hn ca cc w' hc hx => rb_any (fillC f k x) do_callK (fillC_ok f k x hf3 hk3 HRX.out.1) cx HCB.out hcl E1 0 FL hr3 n hn ca cc (.slice a0 N c0) w' hc hx)
      have HC8 := Lib.hid (fun n hn ca cc w' hc hx => rb_any (mixC x size) do_callK (mixC_ok x size HRX.out.1 HRX.out.2) cx HCB.out hcl 0 R8 cx hr8 n hn ca cc (.slice a0 N c0) w' hc hx)
      have HR := Lib.hid (And.intro hR1 (And.intro hR5 (And.intro hR4 (And.intro hR8 (And.intro hCP hFL)))))
      have HE := Lib.hid (And.intro hE1 hE2)
      have HFT := Lib.hid (And.intro hFT hBT)
      clear hE1 hE2 hf3 ht3 hk3 hcl hR1 hR5 hR4 hR8 hr1 hr5 hr4 hr2 hr3 hr8 hCP hFL hFT hBT hFTi
      have hbe := run_i0
      have hbc := run_i07
      have hbm := run_i047
      have hbs := run_i0245
      go_upto_region 9 with fail
      go_cut [16] from 73 to 81 (fun s wx => ∃ q, s = .slice (some ⟨q, 0, none⟩) 5 5 ∧ BX w1 q 25 (codec (oneC f k x 1)) wx)
      case first =>
        go_wp2_with (go_at_call 8; go_loud (refine (wide_of _ _ _).mono ?_; rintro e wW ⟨rfl, hbW⟩))
        go_meet
        case rel => exact ⟨_, rfl, ⟨(hbW).alloc hbW.size _, Row.made wW (codec (oneC f k x 1)) _, hbW.size⟩⟩
      case rest =>
        obtain ⟨q, rfl, hbx⟩ := hcut
        have HBX := Lib.hid hbx
        clear hbx
        obtain ⟨wq, rfl⟩ : ∃ z, z = wc := ⟨_, rfl⟩
        have HQL := Lib.hid (show q < wq.heap.size from HBX.out.row.lt)
        go_upto_region 10 with fail
        go_cut [17, 18] from 82 to 87 (fun so se wx => ∃ qo v1 v2 v3, so = .pointer (some ⟨qo, 0, none⟩) ∧ se = .int .i64 E1 ∧ Row wx qo 30 [.int .i64 R1, v1, v2, v3] ∧ wq.heap.size ≤ qo ∧ Below wq.heap.size wq wx)
        case first =>
          go_wp2_with (go_at_call 9; go_loud (refine (HC1.out 5 rfl _ _ _ (coded_row (l := oneC f k x 1) HBX.out.row (by show 0 < 5; decide) (by show 5 ≤ 4096; decide)) ((HK.out.next HBX.out.bel).helds _ mem0 rfl)).mono ?_; rintro e wR ⟨a1, n1, c1, a2, n2, c2, a3, n3, c3, rfl, hHd, hbR⟩))
          go_meet
          case rel => exact ⟨wR.heap.size, _, _, _, rfl, rfl, Row.made wR [.int .i64 R1, .slice a1 n1 c1, .slice a2 n2 c2, .slice a3 n3 c3] _, hbR.size, hbR.alloc hbR.size _⟩
        case rest =>
          obtain ⟨qS, S1, S2, S3, rfl, rfl, hro, hqo, hbo⟩ := hcut
          have HRO := Lib.hid (And.intro hro hqo)
          have HB2 := Lib.hid (HBX.out.next hbo)
          clear hro hqo hbo HBX
          obtain ⟨wr, rfl⟩ : ∃ z, z = wc := ⟨_, rfl⟩
          go_upto_region 11 with fail
          go_cut [] from 88 to 90 (fun wx => BX w1 q 25 (codec (oneC f k x 5)) wx ∧ Row wx qS 30 [.int .i64 R1, S1, S2, S3])
          case first =>
            have hlt := HB2.out.row.lt
            have hfz := HB2.out.row.free 31
            have hce : wr.cell? ⟨q, 31, none⟩ = some _ := HB2.out.row.cell 31
            go_wp2_with fail
            go_meet
            case rel => exact ⟨HB2.out.put 31 _, HRO.out.1.other _ _ (by have := HRO.out.2; have := HQL.out; show qS ≠ q; omega)⟩
          case rest =>
            obtain ⟨hbx, hro⟩ := hcut
            have HBX := Lib.hid hbx
            have HRQ := Lib.hid hro
            clear hbx hro HB2 HRO
            obtain ⟨wq, rfl⟩ : ∃ z, z = wc := ⟨_, rfl⟩
            go_upto_region 12 with fail
            go_cut [19, 20] from 91 to 96 (fun so se wx => ∃ qo v1 v2 v3, so = .pointer (some ⟨qo, 0, none⟩) ∧ se = .int .i64 E1 ∧ Row wx qo 30 [.int .i64 R5, v1, v2, v3] ∧ wq.heap.size ≤ qo ∧ Below wq.heap.size wq wx)
            case first =>
              go_wp2_with (go_at_call 9; go_loud (refine (HC5.out 5 rfl _ _ _ (coded_row (l := oneC f k x 5) HBX.out.row (by show 0 < 5; decide) (by show 5 ≤ 4096; decide)) ((HK.out.next HBX.out.bel).helds _ mem0 rfl)).mono ?_; rintro e wR ⟨a1, n1, c1, a2, n2, c2, a3, n3, c3, rfl, hHd, hbR⟩))
              go_meet
              case rel => exact ⟨wR.heap.size, _, _, _, rfl, rfl, Row.made wR [.int .i64 R5, .slice a1 n1 c1, .slice a2 n2 c2, .slice a3 n3 c3] _, hbR.size, hbR.alloc hbR.size _⟩
            case rest =>
              obtain ⟨qF, F1, F2, F3, rfl, rfl, hro, hqo, hbo⟩ := hcut
              have hK := HK.out.next (HBX.out.bel.trans (hbo.mono HBX.out.bel.size))
              have hK := hK.addRow (HRQ.out.below hbo HRQ.out.lt)
              have hK := hK.addRow hro
              clear HK
              have HK := Lib.hid hK
              clear hK hro hqo hbo HBX HRQ
              obtain ⟨w2, rfl⟩ : ∃ z, z = wc := ⟨_, rfl⟩
              go_upto_region 13 with fail
              go_cut [21] from 97 to 106 (fun s wx => ∃ q, s = .slice (some ⟨q, 0, none⟩) 6 6 ∧ BX w2 q 25 (codec (twoC f t k 4)) wx)
              case first =>
                go_wp2_with fail
                go_meet
                case rel => exact ⟨_, rfl, ⟨(Below.refl _ _).alloc (Nat.le_refl _) _, Row.made w2 (codec (twoC f t k 4)) _, Nat.le_refl _⟩⟩
              case rest =>
                obtain ⟨q, rfl, hbx⟩ := hcut
                have HBX := Lib.hid hbx
                clear hbx
                obtain ⟨wq, rfl⟩ : ∃ z, z = wc := ⟨_, rfl⟩
                have HQL := Lib.hid (show q < wq.heap.size from HBX.out.row.lt)
                go_upto_region 14 with fail
                go_cut [22, 23] from 107 to 112 (fun so se wx => ∃ qo v1 v2 v3, so = .pointer (some ⟨qo, 0, none⟩) ∧ se = .int .i64 E2 ∧ Row wx qo 30 [.int .i64 R4, v1, v2, v3] ∧ wq.heap.size ≤ qo ∧ Below wq.heap.size wq wx)
                case first =>
                  go_wp2_with (go_at_call 9; go_loud (refine (HC4.out 6 rfl _ _ _ (coded_row (l := twoC f t k 4) HBX.out.row (by show 0 < 6; decide) (by show 6 ≤ 4096; decide)) ((HK.out.next HBX.out.bel).helds _ mem0 rfl)).mono ?_; rintro e wR ⟨a1, n1, c1, a2, n2, c2, a3, n3, c3, rfl, hHd, hbR⟩))
                  go_meet
                  case rel => exact ⟨wR.heap.size, _, _, _, rfl, rfl, Row.made wR [.int .i64 R4, .slice a1 n1 c1, .slice a2 n2 c2, .slice a3 n3 c3] _, hbR.size, hbR.alloc hbR.size _⟩
                case rest =>
                  obtain ⟨qD, D1, D2, D3, rfl, rfl, hro, hqo, hbo⟩ := hcut
                  have HRO := Lib.hid (And.intro hro hqo)
                  have HB2 := Lib.hid (HBX.out.next hbo)
                  clear hro hqo hbo HBX
                  obtain ⟨wr, rfl⟩ : ∃ z, z = wc := ⟨_, rfl⟩
                  go_upto_region 15 with fail
                  go_cut [] from 113 to 115 (fun wx => BX w2 q 25 (codec (twoC f t k 2)) wx ∧ Row wx qD 30 [.int .i64 R4, D1, D2, D3])
                  case first =>
                    have hlt := HB2.out.row.lt
                    have hfz := HB2.out.row.free 39
                    have hce : wr.cell? ⟨q, 39, none⟩ = some _ := HB2.out.row.cell 39
                    go_wp2_with fail
                    go_meet
                    case rel => exact ⟨HB2.out.put 39 _, HRO.out.1.other _ _ (by have := HRO.out.2; have := HQL.out; show qD ≠ q; omega)⟩
                  case rest =>
                    obtain ⟨hbx, hro⟩ := hcut
                    have HBX := Lib.hid hbx
                    have HRQ := Lib.hid hro
                    clear hbx hro HB2 HRO
                    obtain ⟨wq, rfl⟩ : ∃ z, z = wc := ⟨_, rfl⟩
                    go_upto_region 16 with fail
                    go_cut [24, 25] from 116 to 121 (fun so se wx => ∃ qo v1 v2 v3, so = .pointer (some ⟨qo, 0, none⟩) ∧ se = .int .i64 E2 ∧ Row wx qo 30 [.int .i64 0, v1, v2, v3] ∧ wq.heap.size ≤ qo ∧ Below wq.heap.size wq wx ∧ (E2 = 0 → Held wx v1 CP))
                    case first =>
                      go_wp2_with (go_at_call 9; go_loud (refine (HC2.out 6 rfl _ _ _ (coded_row (l := twoC f t k 2) HBX.out.row (by show 0 < 6; decide) (by show 6 ≤ 4096; decide)) ((HK.out.next HBX.out.bel).helds _ mem0 rfl)).mono ?_; rintro e wR ⟨a1, n1, c1, a2, n2, c2, a3, n3, c3, rfl, hHd, hbR⟩))
                      go_meet
                      case rel => exact ⟨wR.heap.size, _, _, _, rfl, rfl, Row.made wR [.int .i64 0, .slice a1 n1 c1, .slice a2 n2 c2, .slice a3 n3 c3] _, hbR.size, hbR.alloc hbR.size _, fun h0 => (hHd h0).below (below_map wR _) (Nat.le_refl _)⟩
                    case rest =>
                      obtain ⟨qM, M1, M2, M3, rfl, rfl, hro, hqo, hbo, hHd⟩ := hcut
                      have hK := HK.out.next (HBX.out.bel.trans (hbo.mono HBX.out.bel.size))
                      have hK := hK.addRow (HRQ.out.below hbo HRQ.out.lt)
                      have hK := hK.addRow hro
                      have hK := hK.addHeld hHd
                      clear HK
                      have HK := Lib.hid hK
                      clear hK hro hqo hbo HBX HRQ hHd
                      obtain ⟨w3, rfl⟩ : ∃ z, z = wc := ⟨_, rfl⟩
                      go_upto_region 17 with fail
                      go_cut [26] from 122 to 130 (fun s wx => ∃ q, s = .slice (some ⟨q, 0, none⟩) 5 5 ∧ BX w3 q 25 (codec (fillC f k x)) wx)
                      case first =>
                        go_wp2_with (go_at_call 8; go_loud (refine (wide_of _ _ _).mono ?_; rintro e wW ⟨rfl, hbW⟩))
                        go_meet
                        case rel => exact ⟨_, rfl, ⟨(hbW).alloc hbW.size _, Row.made wW (codec (fillC f k x)) _, hbW.size⟩⟩
                      case rest =>
                        obtain ⟨q, rfl, hbx⟩ := hcut
                        have HBX := Lib.hid hbx
                        clear hbx
                        obtain ⟨wq, rfl⟩ : ∃ z, z = wc := ⟨_, rfl⟩
                        go_upto_region 18 with fail
                        go_cut [27, 28] from 131 to 136 (fun so se wx => ∃ qo v1 v2 v3, so = .pointer (some ⟨qo, 0, none⟩) ∧ se = .int .i64 E1 ∧ Row wx qo 30 [.int .i64 0, v1, v2, v3] ∧ wq.heap.size ≤ qo ∧ Below wq.heap.size wq wx ∧ (E1 = 0 → Held wx v1 FL))
                        case first =>
                          go_wp2_with (go_at_call 9; go_loud (refine (HC3.out 5 rfl _ _ _ (coded_row (l := fillC f k x) HBX.out.row (by show 0 < 5; decide) (by show 5 ≤ 4096; decide)) ((HK.out.next HBX.out.bel).helds _ mem1 rfl)).mono ?_; rintro e wR ⟨a1, n1, c1, a2, n2, c2, a3, n3, c3, rfl, hHd, hbR⟩))
                          go_meet
                          case rel => exact ⟨wR.heap.size, _, _, _, rfl, rfl, Row.made wR [.int .i64 0, .slice a1 n1 c1, .slice a2 n2 c2, .slice a3 n3 c3] _, hbR.size, hbR.alloc hbR.size _, fun h0 => (hHd h0).below (below_map wR _) (Nat.le_refl _)⟩
                        case rest =>
                          obtain ⟨qL, L1, L2, L3, rfl, rfl, hro, hqo, hbo, hHd⟩ := hcut
                          have hK := HK.out.next (HBX.out.bel.trans (hbo.mono HBX.out.bel.size))
                          have hK := hK.addRow hro
                          have hK := hK.addHeld hHd
                          clear HK
                          have HK := Lib.hid hK
                          clear hK hro hqo hbo HBX hHd
                          obtain ⟨w4, rfl⟩ : ∃ z, z = wc := ⟨_, rfl⟩
                          go_upto_region 19 with fail
                          go_cut [29, 30] from 137 to 148 (fun so se wx => ∃ qo v1 v2 v3, so = .pointer (some ⟨qo, 0, none⟩) ∧ se = .int .i64 0 ∧ Row wx qo 30 [.int .i64 R8, v1, v2, v3] ∧ Below w4.heap.size w4 wx)
                          case first =>
                            go_wp2_with (first
                              | (go_at_call 8; go_loud (refine (wide_of _ _ _).mono ?_; rintro e wW ⟨rfl, hbW⟩; first | (have hbT := Below.trans (by with_reducible assumption) (Below.mono hbW (Below.size (by with_reducible assumption)))) | (have hbT := hbW)))
                              | (go_at_call 9; go_loud (refine (HC8.out 4 rfl _ _ _ (coded_row (l := mixC x size) (Row.made _ (codec (mixC x size)) _) (by show 0 < 4; decide) (by show 4 ≤ 4096; decide)) ((HK.out.next (Below.alloc hbT (Below.size hbT) _)).helds _ mem2 rfl)).mono ?_; rintro e wR ⟨a1, n1, c1, a2, n2, c2, a3, n3, c3, rfl, hHd, hbR⟩)))
                            have hbA := (Below.alloc hbT (Below.size hbT) (.cells (codec (mixC x size)).toArray 25))
                            have hbB := hbA.trans (hbR.mono hbA.size)
                            go_meet
                            case rel => exact ⟨wR.heap.size, _, _, _, rfl, rfl, Row.made wR [.int .i64 R8, .slice a1 n1 c1, .slice a2 n2 c2, .slice a3 n3 c3] _, hbB.alloc hbB.size _⟩
                          case rest =>
                            obtain ⟨qX, X1, X2, X3, rfl, rfl, hro, hbo⟩ := hcut
                            have hK := (HK.out.next hbo).addRow hro
                            clear HK
                            have HK := Lib.hid hK
                            clear hK hro hbo HC1 HC2 HC3 HC4 HC5 HC8 hbe hbc hbm hbs
                            obtain ⟨w9, rfl⟩ : ∃ z, z = wc := ⟨_, rfl⟩
                            have HMX := Lib.hid (fun (w' : World) => (by have h := mix_of x size w'; rw [HR.out.2.2.2.1] at h; exact h : Calls Tryz.prog 12 #[.int .i64 x, .int .i64 size] w' fun e w'' => e = .returned (.int .i64 R8) ∧ w' = w''))
                            have hnR : (R8 != R8) = false := by simp
                            go_upto_region 20 with fail
                            go_cut [158] from 149 to 158 (fun s158 wx => s158 = .bool false ∧ KY w9 wx)
                            case first =>
                              have hks : w9.drew.cell? ⟨qX, 0, none⟩ = some (.int .i64 R8) ∧ KY w9 w9.drew := ⟨((HK.out.row mem0).below (Below.refl _ _).drew (HK.out.row mem0).lt).four.1.1, ⟨(Below.refl _ _).drew⟩⟩
                              go_region_held3 (fun w' => w'.cell? ⟨qX, 0, none⟩ = some (.int .i64 R8) ∧ KY w9 w')
                                (first
                                  | with_reducible assumption
                                  | fail "none")
                                ((go_at_call 12; go_loud (refine (HMX.out _).mono ?_; rintro e wS ⟨rfl, rfl⟩)))
                              all_goals
                                rename_i hheld
                                go_wp2_with fail
                                go_meet
                                case rel => exact ⟨rfl, hheld.2⟩
                            case rest =>
                              obtain ⟨rfl, hKY⟩ := hcut
                              have hK := HK.out.next hKY.bel
                              clear HK
                              have HK := Lib.hid hK
                              clear hK hKY hnR HMX
                              obtain ⟨w10, rfl⟩ : ∃ z, z = wc := ⟨_, rfl⟩
                              cases FT with
                              | false =>
                                have hFK : ¬ FK ≤ N := by simpa using HFT.out.1
                                obtain rfl : E1 = 87 := by rw [← HE.out.1, if_neg (by have := HFK.out; have := HN.out; omega)]
                                obtain rfl : E2 = 87 := by rw [← HE.out.2, if_neg (by have := HFK.out; have := HN.out; omega)]
                                clear hFK
                                go_wp2_with fail
                                exact bodyPost_ret (v := .bool true) (by simp [results, Tryz.results4, go_sem]) rfl ⟨rfl, HK.out.bel⟩
                              | true =>
                                have hFK : FK ≤ N := by simpa using HFT.out.1
                                obtain rfl : E1 = 0 := by rw [← HE.out.1, if_pos (by have := HFK.out; have := HN.out; omega)]
                                have hfc : f + k ≤ cx.length := by have := HFK.out; have := HN.out; omega
                                have hr1 := HR.out.1
                                have hr5 := HR.out.2.1
                                rw [if_pos hfc] at hr1 hr5
                                obtain ⟨pA, pC, hps, hpH⟩ := piece_slice (HK.out.held mem2 rfl) HN.out.1 f k FK HFK.out.1 hFK
                                have HPS := Lib.hid hps
                                have HPH := Lib.hid hpH
                                have HR1 := Lib.hid hr1
                                have HR5 := Lib.hid hr5
                                have HFKN := Lib.hid hFK
                                have HCPY := Lib.hid (fun (w' : World) (hH : Held w' (.slice a0 N c0) cx) => copy_of (.slice a0 N c0) cx w' hH (by have := HN.out; omega))
                                clear hFK hfc hr1 hr5 hps hpH
                                go_upto_region 24 with fail
                                go_cut [31] from 179 to 180 (fun s31 wx => ∃ aW cW, s31 = .slice aW N cW ∧ wx.ownsRow w10.heap.size 5 1 (.slice aW N cW) N (u8s cx) ∧ Below w10.heap.size w10 wx)
                                case first =>
                                  go_wp2_with (go_at_call 11; go_loud (refine (HCPY.out _ (HK.out.held mem2 rfl)).mono ?_; rintro e wC ⟨vC, rfl, hown, hbC⟩; rw [← HN.out.1] at hown; obtain ⟨aC, kC, rfl⟩ := own_slice hown))
                                  go_meet
                                  case rel => exact ⟨aC, kC, rfl, hown, hbC⟩
                                case rest =>
                                  obtain ⟨aW, cW, rfl, hown, hbw⟩ := hcut
                                  have HOW := Lib.hid hown
                                  have HBW := Lib.hid hbw
                                  clear hown hbw
                                  obtain ⟨w11, rfl⟩ : ∃ z, z = wc := ⟨_, rfl⟩
                                  obtain ⟨c, hc⟩ : ∃ c, x % 256 = c := ⟨_, rfl⟩
                                  have hu8 := u8_low x
                                  rw [hc] at hu8
                                  have hFL := HR.out.2.2.2.2.2
                                  rw [hc] at hFL
                                  have HFL := Lib.hid hFL
                                  have HC := Lib.hid (show 0 ≤ c ∧ c ≤ 255 by omega)
                                  clear hFL hc
                                  go_upto_block 0 with fail
                                  go_cut [32] from 182 to 193 (fun s32 wx => Held wx (.slice aW N cW) FL ∧ Below w10.heap.size w10 wx)
                                  case first =>
                                    have hwfk := HWFK.out
                                    have hu := HFK.out.1
                                    have hFN := HFKN.out
                                    by_cases hk0 : k = 0
                                    · obtain rfl : FK = f := by omega
                                      have HK0 := Lib.hid hk0
                                      have hj : decide ((FK : Int) < (FK : Int)) = false := by simp
                                      have hjn : decide (FK < FK) = false := by simp
                                      clear hk0 hu hFN
                                      go_wp2_with fail
                                      go_loopg [32] 0 (fun gh s32 wr => s32 = .int .i64 FK ∧ w11 = wr)
                                      case atStart => exact ⟨rfl, rfl⟩
                                      case round =>
                                        obtain ⟨rfl, rfl⟩ := hrel
                                        go_wp2_with fail
                                        go_meet
                                        case rel => exact ⟨by
                                          have h := held_of_own HOW.out HCB.out HN.out.1
                                          rw [← HFL.out, HK0.out]
                                          show Held w11 _ (overF cx FK [])
                                          rw [overF_nil]
                                          exact h, HBW.out⟩
                                    · obtain ⟨g, cap, rst, hv, hgb, hrow, hcap, hcm, hcl⟩ := own_row HOW.out (by omega)
                                      injection hv with e1 e2 e3
                                      subst e1 e3
                                      have HRW := Lib.hid hrow
                                      have HG := Lib.hid (And.intro hgb (And.intro hcap (And.intro hcm hcl)))
                                      clear hrow hgb hcap hcm hcl hk0 hu hFN
                                      go_wp2_with fail
                                      go_loopg [32] k (fun gh s32 wr => ∃ i fi : Nat, i ≤ k ∧ gh = k - i ∧ f + i = fi ∧ s32 = .int .i64 fi ∧ Row wr g 5 (u8s (overF cx f (List.replicate i c)) ++ rst) ∧ Below w10.heap.size w10 wr)
                                      case atStart => exact ⟨0, f, Nat.zero_le _, rfl, rfl, rfl, by show Row w11 g _ (u8s (overF cx f []) ++ rst); rw [overF_nil]; exact HRW.out, HBW.out⟩
                                      case round =>
                                        obtain ⟨i, fi, hik, rfl, hfi, rfl, hR, hBr⟩ := hrel
                                        have HRR := Lib.hid hR
                                        have HBR := Lib.hid hBr
                                        by_cases hi : i < k
                                        · have hFk := HFK.out.1
                                          have hFN := HFKN.out
                                          have hNl := HN.out.1
                                          have hj : decide ((fi : Int) < (FK : Int)) = true := by simp; omega
                                          have hjn : decide (fi < FK) = true := by simp; omega
                                          have hfN : fi < N := by omega
                                          have hol : (overF cx f (List.replicate i c)).length = cx.length := overF_len (by rw [List.length_replicate]; omega)
                                          have hce : ∃ z, wr.cell? ⟨g, fi, none⟩ = some z := ⟨_, (hR.cell fi).trans (List.getElem?_eq_getElem (by rw [List.length_append]; unfold u8s; rw [List.length_map]; omega))⟩
                                          obtain ⟨z, hz⟩ := hce
                                          have hfz := hR.free fi
                                          have hlt := hR.lt
                                          obtain ⟨fj, hfj⟩ : ∃ z : Nat, fi + 1 = z := ⟨_, rfl⟩
                                          have hfji : (fi : Int) + 1 = (fj : Int) := by omega
                                          have HWJ := Lib.hid (show wrap64 (fj : Int) = (fj : Int) by have := HN.out; unfold wrap64; omega)
                                          have HI := Lib.hid (And.intro hi (And.intro hfi (And.intro hfj (And.intro hol hfN))))
                                          have hq1 : (0 : Int) ≤ (fi : Int) := Int.natCast_nonneg _
                                          have hq2 : (fi : Int) < (N : Int) := by omega
                                          clear hi hfi hfj hol hR hBr hik hFk hFN hNl
                                          have hwj := HWJ.out
                                          go_wp2_with fail
                                          clear hwj
                                          go_roundg (k - (i + 1))
                                          case measure => have := HI.out; omega
                                          case rel =>
                                            refine ⟨i + 1, fj, by have := HI.out; omega, rfl, by have := HI.out; omega, by first | rfl | exact congrArg (Value.int .i64) HWJ.out, ?_, HBR.out.setCell HG.out.1 _⟩
                                            have h := HRR.out.put fi (.int .u8 c)
                                            rw [u8s_set _ _ _ _ (by have := HI.out; have := HN.out; omega), ← HI.out.2.1, over_snoc _ _ _ _ (by have := HI.out; have := HN.out; omega)] at h
                                            rw [← HI.out.2.1]
                                            exact h
                                        · obtain rfl : i = k := by omega
                                          obtain rfl : fi = FK := by have := HFK.out.1; omega
                                          have hj : decide ((fi : Int) < (fi : Int)) = false := by simp
                                          have hjn : decide (fi < fi) = false := by simp
                                          clear hi hR hBr hik hfi
                                          go_wp2_with fail
                                          go_meet
                                          case rel => exact ⟨by
                                            have hl : i + f ≤ cx.length := by have := HFK.out.1; have := HFKN.out; have := HN.out; omega
                                            have h := rest_held (m := N) HRR.out (by rw [overF_len (by rw [List.length_replicate]; omega)]; exact HN.out.1) HG.out.2.1 HG.out.2.2.1 (overF_bytes HCB.out (rep_bytes i c HC.out) f)
                                            rw [HFL.out] at h
                                            exact h, HBR.out⟩
                                  case rest =>
                                    obtain ⟨hHW, hbw⟩ := hcut
                                    have hK := HK.out.next hbw
                                    clear HK
                                    have HK := Lib.hid (hK.addHeld (e := 0) fun _ => hHW)
                                    clear hK hbw hHW HOW HBW hu8
                                    obtain ⟨w12, rfl⟩ : ∃ z, z = wc := ⟨_, rfl⟩
                                    have HSUM := Lib.hid (fun (w' : World) (hY : KY w12 w') => (by have h := sum_of (.slice pA k pC) ((cx.drop f).take k) (by rw [List.length_take, List.length_drop]; have := HN.out; omega) x w' (HPH.out w' ((HK.out.next hY.bel).held mem3 rfl)); rw [HR1.out] at h; exact h : Calls Tryz.prog 13 #[.slice pA k pC, .int .i64 x] w' fun e w'' => e = .returned (.int .i64 R1) ∧ w' = w''))
                                    have HFND := Lib.hid (fun (w' : World) (hY : KY w12 w') => (by have h := find_of (.slice pA k pC) ((cx.drop f).take k) x w' (HPH.out w' ((HK.out.next hY.bel).held mem3 rfl)); rw [HR5.out] at h; exact h : Calls Tryz.prog 14 #[.slice pA k pC, .int .i64 x] w' fun e w'' => e = .returned (.int .i64 R5) ∧ w' = w''))
                                    have HSAM := Lib.hid (fun (w' : World) (hY : KY w12 w') => (same_at L1 (.slice aW N cW) FL w' ((HK.out.next hY.bel).held mem1 rfl) ((HK.out.next hY.bel).held mem0 rfl) : Calls Tryz.prog 15 #[L1, .slice aW N cW] w' fun e w'' => e = .returned (.bool true) ∧ w' = w''))
                                    have hnR1 : (R1 != R1) = false := by simp
                                    have hnR5 : (R5 != R5) = false := by simp
                                    have hps := HPS.out
                                    have hwfk := HWFK.out
                                    have hwfi := HWFI.out
                                    go_upto_region 29 with fail
                                    go_cut [241] from 194 to 241 (fun s wx => s = .bool false ∧ KY w12 wx)
                                    case first =>
                                      have hbd : Below w12.heap.size w12 w12.drew := (Below.refl _ _).drew
                                      have hks : w12.drew.cell? ⟨qS, 0, none⟩ = some (.int .i64 R1) ∧ w12.drew.cell? ⟨qF, 0, none⟩ = some (.int .i64 R5) ∧ w12.drew.cell? ⟨qL, 0, none⟩ = some (.int .i64 0) ∧ w12.drew.cell? ⟨qL, 1, none⟩ = some L1 ∧ KY w12 w12.drew := ⟨((HK.out.next hbd).row mem5).four.1.1, ((HK.out.next hbd).row mem4).four.1.1, ((HK.out.next hbd).row mem1).four.1.1, ((HK.out.next hbd).row mem1).four.1.2.1, ⟨hbd⟩⟩
                                      go_region_held3 (fun w' => w'.cell? ⟨qS, 0, none⟩ = some (.int .i64 R1) ∧ w'.cell? ⟨qF, 0, none⟩ = some (.int .i64 R5) ∧ w'.cell? ⟨qL, 0, none⟩ = some (.int .i64 0) ∧ w'.cell? ⟨qL, 1, none⟩ = some L1 ∧ KY w12 w')
                                        (first
                                          | with_reducible assumption
                                          | fail "none")
                                        (first
                                          | (go_at_call 13; go_loud (refine (HSUM.out _ (by with_reducible exact hks.2.2.2.2)).mono ?_; rintro e wS ⟨rfl, rfl⟩))
                                          | (go_at_call 14; go_loud (refine (HFND.out _ (by with_reducible exact hks.2.2.2.2)).mono ?_; rintro e wS ⟨rfl, rfl⟩))
                                          | (go_at_call 15; go_loud (refine (HSAM.out _ (by with_reducible exact hks.2.2.2.2)).mono ?_; rintro e wS ⟨rfl, rfl⟩)))
                                      all_goals
                                        rename_i hheld
                                        go_wp2_with fail
                                        go_meet
                                        case rel => exact ⟨rfl, hheld.2.2.2.2⟩
                                    case rest =>
                                      obtain ⟨rfl, hKY⟩ := hcut
                                      have hK := HK.out.next hKY.bel
                                      clear HK
                                      have HK := Lib.hid hK
                                      clear hK hKY hnR1 hnR5 HSUM HFND HSAM hps hwfk hwfi
                                      obtain ⟨w13, rfl⟩ : ∃ z, z = wc := ⟨_, rfl⟩
                                      cases BT with
                                      | false =>
                                        obtain rfl : E2 = 87 := by
                                          have h := HFT.out.2
                                          simp at h
                                          rw [← HE.out.2, if_neg (by have := HFK.out; have := HN.out; omega)]
                                        go_wp2_with fail
                                        exact bodyPost_ret (v := .bool true) (by simp [results, Tryz.results4, go_sem]) rfl ⟨rfl, HK.out.bel⟩
                                      | true =>
                                        have hTK : TK ≤ N := by
                                          have h := HFT.out.2
                                          simpa using h
                                        obtain rfl : E2 = 0 := by rw [← HE.out.2, if_pos (by have := HFK.out; have := HN.out; have := HFKN.out; omega)]
                                        have hr4 := HR.out.2.2.1
                                        rw [if_pos ⟨by have := HFK.out; have := HN.out; have := HFKN.out; omega, by have := HFK.out; have := HN.out; omega, rfl⟩] at hr4
                                        obtain ⟨tA, tC, hts, htH⟩ := piece_slice (HK.out.held mem3 rfl) HN.out.1 t k TK HFK.out.2 hTK
                                        have HTS := Lib.hid hts
                                        have HTH := Lib.hid htH
                                        have HR4 := Lib.hid hr4
                                        have HTKN := Lib.hid hTK
                                        clear hts htH hr4 hTK
                                        go_upto_region 33 with fail
                                        go_cut [31] from 250 to 251 (fun s31 wx => ∃ aV cV, s31 = .slice aV N cV ∧ wx.ownsRow w13.heap.size 5 1 (.slice aV N cV) N (u8s cx) ∧ Below w13.heap.size w13 wx)
                                        case first =>
                                          go_wp2_with (go_at_call 11; go_loud (refine (HCPY.out _ (HK.out.held mem3 rfl)).mono ?_; rintro e wC ⟨vC, rfl, hown, hbC⟩; rw [← HN.out.1] at hown; obtain ⟨aC, kC, rfl⟩ := own_slice hown))
                                          go_meet
                                          case rel => exact ⟨aC, kC, rfl, hown, hbC⟩
                                        case rest =>
                                          obtain ⟨aV, cV, rfl, hown, hbw⟩ := hcut
                                          have HOW := Lib.hid hown
                                          have HBW := Lib.hid hbw
                                          clear hown hbw
                                          obtain ⟨w14, rfl⟩ : ∃ z, z = wc := ⟨_, rfl⟩
                                          have HCPP := Lib.hid (fun (w' : World) (hY : KY w14 w') => copy_of (.slice pA k pC) ((cx.drop f).take k) w' (HPH.out w' ((HK.out.next (HBW.out.trans (hY.bel.mono HBW.out.size))).held mem3 rfl)) (by rw [List.length_take, List.length_drop]; have := HN.out; omega))
                                          have HPL := Lib.hid (show ((cx.drop f).take k).length = k by rw [List.length_take, List.length_drop]; have := HFK.out; have := HN.out; have := HFKN.out; omega)
                                          have HPB := Lib.hid (show IsBytes ((cx.drop f).take k) from fun z hz => HCB.out z (List.mem_of_mem_drop (List.mem_of_mem_take hz)))
                                          go_upto_region 34 with fail
                                          go_cut [] from 252 to 262 (fun wx => Held wx (.slice aV N cV) CP ∧ Below w13.heap.size w13 wx)
                                          case first =>
                                            have hps := HPS.out
                                            have hwfk := HWFK.out
                                            have hwfi := HWFI.out
                                            have hu8 := Tryz.underlying27
                                            have hs8 : (Tryz.prog.info? 5).map (·.size) = some 1 := by kernel_rfl
                                            by_cases hk0 : k = 0
                                            · have hsl := fun w' => slice_lo aV N cV t (by have := HL.out; omega) w'
                                              obtain ⟨sA, sC, hse⟩ : ∃ sA sC, ∀ w', (Instr.slice 27 (.slice aV N cV) (some (.int .i64 t)) none none).run Tryz.prog w' = .ok (.slice sA (N - t) sC) w' := ⟨_, _, hsl⟩
                                              have HK0 := Lib.hid hk0
                                              clear hsl hk0
                                              go_region_law (first
                                                | (go_simp; go_at_call 11; refine (HCPP.out _ ⟨(Below.refl _ _).drew⟩).mono ?_; rintro e wC ⟨vC, rfl, hown, hbC⟩; rw [HPL.out] at hown; obtain ⟨aC, kC, rfl⟩ := own_slice hown)
                                                | (refine step_copy_nothing rfl (.tmp 254) (.tmp 261) 27 27 rfl 5 hu8 hs8 sA aC (N - t) sC k kC rfl rfl (by rw [HK0.out]; exact Nat.min_eq_left (Nat.zero_le _)) ?_))
                                              go_wp2_with fail
                                              go_meet
                                              case rel => exact ⟨by
                                                have h := held_of_own HOW.out HCB.out HN.out.1
                                                rw [← HR.out.2.2.2.2.1, HK0.out]
                                                show Held _ _ (overF cx t ((cx.drop f).take 0))
                                                rw [List.take_zero, overF_nil]
                                                exact h.below ((Below.refl _ _).drew.trans (hbC.mono (Nat.le_refl _))) (Nat.le_refl _), HBW.out.trans (((Below.refl _ _).drew.trans (hbC.mono (Nat.le_refl _))).mono HBW.out.size)⟩
                                            · obtain ⟨g, cap, rst, hv, hgb, hrow, hcap, hcm, hcl⟩ := own_row HOW.out (by have := HFK.out; have := HFKN.out; omega)
                                              injection hv with e1 e2 e3
                                              subst e1 e3
                                              have hse := fun w' => slice_at (g := g) (c := cV) (show t < N by have := HFK.out; have := HTKN.out; omega) hcap w'
                                              have HRW := Lib.hid hrow
                                              have HG := Lib.hid (And.intro hgb (And.intro hcap (And.intro hcm (And.intro hcl hk0))))
                                              clear hrow hgb hcap hcm hcl hk0
                                              go_region_law (first
                                                | (go_simp; go_at_call 11; refine (HCPP.out _ ⟨(Below.refl _ _).drew⟩).mono ?_; rintro e wC ⟨vC, rfl, hown, hbC⟩; rw [HPL.out] at hown; obtain ⟨gp, capP, rstP, rfl, hgpb, hrowP, _, _, _⟩ := own_row hown (by have := HG.out; omega); have hgC := (HRW.out.drew).below hbC HRW.out.lt)
                                                | (refine step_copy_splice rfl (.tmp 254) (.tmp 261) 27 27 rfl 5 hu8 hs8 (some ⟨g, t, none⟩) (some ⟨gp, 0, none⟩) (N - t) (cV - t) k capP rfl rfl g t (u8s cx ++ rst) 5 hgC (u8s ((cx.drop f).take k)) (by unfold u8s; rw [List.length_map, HPL.out]; exact (Nat.min_eq_left (by have := HFK.out; have := HTKN.out; omega)).symm) (fun _ => ⟨rfl, ⟨gp, 0, none⟩, rfl, rest_cells hrowP⟩) (by rw [HG.out.2.2.2.1]; unfold u8s; rw [List.length_map, HPL.out]; have := HFK.out; have := HTKN.out; have := HG.out; omega) (bytes_one _) w13.heap.size w13 (HBW.out.drew.trans (hbC.mono HBW.out.size)) HG.out.1 ?_; intro wE hgE hbE))
                                              go_wp2_with fail
                                              go_meet
                                              case rel => exact ⟨by
                                                rw [← HR.out.2.2.2.2.1]
                                                exact splice_held hgE.out HN.out.1 HG.out.2.1 HG.out.2.2.1 (by rw [HPL.out]; have := HFK.out; have := HTKN.out; have := HN.out; omega) HCB.out HPB.out, hbE⟩
                                          case rest =>
                                            obtain ⟨hHV, hbw⟩ := hcut
                                            have hK := HK.out.next hbw
                                            clear HK
                                            have HK := Lib.hid (hK.addHeld (e := 0) fun _ => hHV)
                                            clear hK hbw hHV HOW HBW HCPP
                                            obtain ⟨w15, rfl⟩ : ∃ z, z = wc := ⟨_, rfl⟩
                                            have HDIF := Lib.hid (fun (w' : World) (hY : KY w15 w') => (by have h := diff_of (.slice tA k tC) (.slice pA k pC) ((cx.drop t).take k) ((cx.drop f).take k) w' (HTH.out w' ((HK.out.next hY.bel).held mem4 rfl)) (HPH.out w' ((HK.out.next hY.bel).held mem4 rfl)); rw [HR4.out] at h; exact h : Calls Tryz.prog 16 #[.slice tA k tC, .slice pA k pC] w' fun e w'' => e = .returned (.int .i64 R4) ∧ w' = w''))
                                            have HSAM := Lib.hid (fun (w' : World) (hY : KY w15 w') => (same_at M1 (.slice aV N cV) CP w' ((HK.out.next hY.bel).held mem3 rfl) ((HK.out.next hY.bel).held mem0 rfl) : Calls Tryz.prog 15 #[M1, .slice aV N cV] w' fun e w'' => e = .returned (.bool true) ∧ w' = w''))
                                            have heR4 : (R4 == R4) = true := by simp
                                            have hps := HPS.out
                                            have hts := HTS.out
                                            have hwfk := HWFK.out
                                            have HWTK' := HWTK
                                            go_upto_region 35 with fail
                                            go_cut [10] from 263 to 297 (fun s wx => s = .bool true ∧ KY w15 wx)
                                            case first =>
                                              have hwtk := HWTK.out
                                              have hwfi := HWFI.out
                                              have hwti := HWTI.out
                                              have hbd : Below w15.heap.size w15 w15.drew := (Below.refl _ _).drew
                                              have hks : w15.drew.cell? ⟨qD, 0, none⟩ = some (.int .i64 R4) ∧ w15.drew.cell? ⟨qM, 0, none⟩ = some (.int .i64 0) ∧ w15.drew.cell? ⟨qM, 1, none⟩ = some M1 ∧ KY w15 w15.drew := ⟨((HK.out.next hbd).row mem3).four.1.1, ((HK.out.next hbd).row mem2).four.1.1, ((HK.out.next hbd).row mem2).four.1.2.1, ⟨hbd⟩⟩
                                              go_region_held3 (fun w' => w'.cell? ⟨qD, 0, none⟩ = some (.int .i64 R4) ∧ w'.cell? ⟨qM, 0, none⟩ = some (.int .i64 0) ∧ w'.cell? ⟨qM, 1, none⟩ = some M1 ∧ KY w15 w')
                                                (first
                                                  | with_reducible assumption
                                                  | fail "none")
                                                (first
                                                  | (go_at_call 16; go_loud (refine (HDIF.out _ (by with_reducible exact hks.2.2.2)).mono ?_; rintro e wS ⟨rfl, rfl⟩))
                                                  | (go_at_call 15; go_loud (refine (HSAM.out _ (by with_reducible exact hks.2.2.2)).mono ?_; rintro e wS ⟨rfl, rfl⟩)))
                                              all_goals
                                                rename_i hheld
                                                go_wp2_with fail
                                                go_meet
                                                case rel => exact ⟨rfl, hheld.2.2.2⟩
                                            case rest =>
                                              obtain ⟨rfl, hKY⟩ := hcut
                                              go_wp2_with fail
                                              exact bodyPost_ret (v := .bool true) (by simp [results, Tryz.results4, go_sem]) rfl ⟨rfl, (HK.out.next hKY.bel).bel⟩


theorem fact_wf : (Rows.machHelpsRow.wf (OpenSpec.ofChange Rows.machHelpsSpec)) = true := by kernel_rfl
theorem fact_rd : (Tryz.f4.params.all ((Tryz.prog).readableRec ·)) = true := by kernel_rfl
theorem fact_nt : (namedTie (Tryz.prog) Rows.machHelpsRow.named Rows.machHelpsSpec.vars) = true := by kernel_rfl
theorem fact_s1 : ((Rows.machHelpsRow.stops == [])) = true := by kernel_rfl
theorem fact_k1 : ((Rows.machHelpsRow.knobs == [])) = true := by kernel_rfl
theorem fact_ip : ((Rows.machHelpsRow.inPlace == (Tryz.prog).inPlace 4)) = true := by kernel_rfl
theorem fact_uf : ((Rows.machHelpsRow.unfollowed == (Tryz.prog).unfollowed 4)) = true := by kernel_rfl
theorem fact_rc : ((Rows.machHelpsRow.recurses == (Tryz.prog).recurses 4)) = true := by kernel_rfl
theorem fact_nm : ((Rows.machHelpsRow.named == (Tryz.prog).varsNamed 4)) = true := by kernel_rfl
theorem fact_mp : ((Rows.machHelpsRow.maps == (Tryz.f4.params.toList ++ Rows.machHelpsSpec.plain.varTypes (Tryz.prog)).any ((Tryz.prog).mapsRec ·))) = true := by kernel_rfl
theorem fact_if : ((Rows.machHelpsRow.ifaces == (Tryz.f4.params.toList ++ Rows.machHelpsSpec.plain.varTypes (Tryz.prog)).any ((Tryz.prog).ifacesRec ·))) = true := by kernel_rfl
theorem fact_mo : ((Rows.machHelpsRow.mapsOut == (Tryz.prog).mapsAmong Tryz.f4.resultTypes.toList)) = true := by kernel_rfl
theorem fact_lp : ((Rows.machHelpsRow.loops == (Tryz.f4.params.toList ++ Rows.machHelpsSpec.plain.varTypes (Tryz.prog)).any ((Tryz.prog).loopsFrom ·))) = true := by kernel_rfl
theorem fact_wk : ((Rows.machHelpsRow.wideKeys == (Tryz.f4.params.toList ++ Rows.machHelpsSpec.plain.varTypes (Tryz.prog) ++ Tryz.f4.resultTypes.toList).any ((Tryz.prog).wideKeysFrom ·))) = true := by kernel_rfl
theorem fact_vr : (Rows.machHelpsSpec.vars.all ((Tryz.prog).varReadable ·)) = true := by kernel_rfl
theorem fact_rr : (Tryz.f4.resultTypes.all (fun t => (Tryz.prog).readableRec t && decide (t < (Tryz.prog).types.size))) = true := by kernel_rfl
theorem fact_io : ((Rows.machHelpsRow.ifacesOut == Tryz.f4.resultTypes.toList.any ((Tryz.prog).ifacesRec ·))) = true := by kernel_rfl
theorem fact_ol : ((Rows.machHelpsRow.loopsOut == Tryz.f4.resultTypes.toList.any ((Tryz.prog).loopsFrom ·))) = true := by kernel_rfl
theorem fact_pk : ((Rows.machHelpsRow.plainKeys == (Tryz.prog).plainKeys)) = true := by kernel_rfl
theorem fact_st : (Rows.machHelpsRow.shortTexts.isNone) = true := by kernel_rfl
theorem fact_lf : ((Rows.machHelpsRow.lifted == (Tryz.prog).liftsFinal)) = true := by kernel_rfl
theorem fact_mk : (((Tryz.prog).make == some Rows.machHelpsRow.make)) = true := by kernel_rfl
theorem fact_kd : ((Rows.machHelpsRow.kinds == (if Rows.machHelpsRow.domain.isEmpty then [] else Tryz.f4.params.toList.map fun t => match (Tryz.prog).underlying t with | some (.int k) => some k | _ => none))) = true := by kernel_rfl
theorem fact_pn : ((Rows.machHelpsRow.pinned == Rows.machHelpsRow.pinnedBy)) = true := by kernel_rfl
theorem fact_vl : ((Rows.machHelpsRow.veiled == (Tryz.f4.params.toList ++ Rows.machHelpsSpec.plain.varTypes (Tryz.prog) ++ Tryz.f4.resultTypes.toList).any ((Tryz.prog).veiledRec ·))) = true := by kernel_rfl
theorem fact_vf : (Rows.machHelpsRow.veiledFits (Tryz.prog) Tryz.f4.params.toList (Tryz.f4.params.toList ++ Rows.machHelpsSpec.plain.varTypes (Tryz.prog) ++ Tryz.f4.resultTypes.toList)) = true := by kernel_rfl
set_option maxRecDepth 100000 in
theorem closed : joinedFacts Tryz.prog 4 Tryz.f4 Rows.machHelpsSpec Rows.machHelpsRow = true :=
  closed_of fact_wf fact_lo fact_mr fact_rd fact_nt fact_s1 fact_s2 fact_k1 fact_k2 fact_ip fact_uf fact_rc fact_nm fact_mp fact_if fact_mo fact_lp fact_wk fact_vr fact_rr fact_io fact_ol fact_pk fact_st fact_sh fact_me fact_lf fact_mk fact_kd fact_pn fact_vl fact_vf

theorem own : ownKnob Tryz.prog.godebug = none := by kernel_rfl
set_option maxRecDepth 100000 in
theorem lifted (os : Os) (started : os.Started) (H : Type) (enc : TypeId × Value → H) :
    ReturnsInHanded {} Tryz.checked os 4 .any (Rows.machHelpsSpec.pre6 enc Tryz.prog Tryz.f4 Rows.machHelpsRow.domain false) (Rows.machHelpsSpec.post enc Tryz.prog Tryz.f4 false true false false) := by
  refine returnsInHanded_of_change_sized (C := Tryz.checked) own started (by kernel_rfl) Tryz.func4
    (ChangeSpec.witness6 (enc := enc) (C := Tryz.checked) false ⟨#[], #[.slice none 0 0, .int .i64 0, .int .i64 0, .int .i64 0, .int .i64 0], []⟩ 8 (by kernel_rfl) (by kernel_rfl) (by kernel_rfl) (by kernel_rfl)) ?_
  intro W base args ds gs before hval0 hW hcnd hsz0 _
  have hsz : (DataW.weightsEach Tryz.prog (Tryz.f4.params.toList ++ Rows.machHelpsSpec.plain.varTypes Tryz.prog) (ds ++ gs)).all (· ≤ reachBytes) = true := hsz0
  have hval : ∀ (j : Nat) t v, Tryz.f4.params[j]? = some t → args[j]? = some v → Value.okWide Tryz.prog W .any base t v := hval0
  have hW' := hW
  obtain ⟨p, q, hA0, hV, rfl, hfz, hnd⟩ := hW
  have hA : DataW.TrodAll enc Tryz.prog W 0 (fun _ => true) true Tryz.f4.params.toList args.toList ds p := hA0
  rw [Tryz.params4] at hA hval hsz
  obtain ⟨v0, vs0, d0, ds0, p0, q0, hargs, rfl, rfl, h0, r0⟩ := trodAll_cons hA
  obtain ⟨v1, vs1, d1, ds1, p1, q1, rfl, rfl, rfl, h1, r1⟩ := trodAll_cons r0
  obtain ⟨v2, vs2, d2, ds2, p2, q2, rfl, rfl, rfl, h2, r2⟩ := trodAll_cons r1
  obtain ⟨v3, vs3, d3, ds3, p3, q3, rfl, rfl, rfl, h3, r3⟩ := trodAll_cons r2
  obtain ⟨v4, vs4, d4, ds4, p4, q4, rfl, rfl, rfl, h4, r4⟩ := trodAll_cons r3
  obtain ⟨rfl, rfl, rfl⟩ := trodAll_nil r4
  obtain rfl : args = #[v0, v1, v2, v3, v4] := by cases args; simp_all
  obtain ⟨xs0, hX0, hd0⟩ := bytes_arg (hval 0 27 v0 rfl rfl) h0
  have hl0 : xs0.length ≤ 140737488351232 := by
    rcases hd0 with rfl | ⟨spare, rfl⟩
    · simp
    · have := sized_slice hsz (j := 0) (t := 27) (e := 5) rfl rfl Tryz.underlying27
      rw [show Tryz.prog.bytesOf 5 = 1 by kernel_rfl] at this
      simp only [lits, List.length_map, reachBytes] at this
      omega
  obtain ⟨a1, rfl, rfl, rfl, w1⟩ := open_int Tryz.underlying3 (hval 1 3 v1 rfl rfl) h1
  obtain ⟨a2, rfl, rfl, rfl, w2⟩ := open_int Tryz.underlying3 (hval 2 3 v2 rfl rfl) h2
  obtain ⟨a3, rfl, rfl, rfl, w3⟩ := open_int Tryz.underlying3 (hval 3 3 v3 rfl rfl) h3
  obtain ⟨a4, rfl, rfl, rfl, w4⟩ := open_int Tryz.underlying3 (hval 4 3 v4 rfl rfl) h4
  refine (walk v0 xs0 (Nat.le_trans hl0 (by decide)) a1 (range_i64 w1) a2 (range_i64 w2) a3 (range_i64 w3) a4 (range_i64 w4) W hX0).mono fun e W' ⟨he, hb⟩ => ?_
  subst he
  exact ⟨_, rfl, law_post (tb := 4) (by kernel_rfl) (by kernel_rfl) rfl Tryz.underlying4 rfl (fun h => by subst h; rfl) hW' hb⟩

theorem proved : Rows.MachHelpsSaid :=
  OpenClaim.holds_of_wide 4 Tryz.f4 rfl rfl rfl rfl rfl rfl rfl ⟨rfl, rfl, rfl, rfl, rfl⟩ rfl rfl rfl rfl rfl (by kernel_rfl) Tryz.func4 closed
    (of_decide_eq_true (by kernel_rfl)) (by unfold Func.isWrapper; first | (rw [if_pos (by decide +kernel)]; kernel_rfl) | (rw [if_neg (by decide +kernel)]; exact ⟨rfl, rfl⟩))
    (fun os started H enc _ => lifted os started H enc)
#print axioms proved

end Go.Proofs.YtdepknffpnnmmaaGreat.machHelps
