/-
  The reference's Get.
-/
import Derived.Test.YtcmplcdbkoodpaaGreatDoorGetPut
import Derived.Test.YtcmplcdbkoodpaaGreatDoorRefA
import Derived.Laws.OwnMore
namespace Go.Proofs.YtcmplcdbkoodpaaGreatDoor
open Go.RowKit
set_option linter.unusedVariables false

theorem info_int : (Tryz.prog.info? 3).map (fun i => (i.zero, i.size, i.bytes)) = some (some (.int .i64 0), 1, 8) := by kernel_rfl
theorem itab_len (n : Nat) (g : Nat → Int) : (itab n g).length = n := by simp [itab]
theorem itab_append (m n : Nat) (f g h : Nat → Int) (h1 : ∀ i, i < m → h i = f i) (h2 : ∀ i, i < n → h (m + i) = g i) : itab m f ++ itab n g = itab (m + n) h := by
  apply List.ext_getElem?
  intro t
  by_cases h3 : t < m
  · rw [List.getElem?_append_left (by rw [itab_len]; exact h3), itab_get _ h3, itab_get _ (by omega), h1 t h3]
  · rw [List.getElem?_append_right (by rw [itab_len]; omega), itab_len]
    by_cases h4 : t - m < n
    · rw [itab_get _ h4, itab_get _ (show t < m + n by omega), ← h2 _ h4, show m + (t - m) = t by omega]
    · rw [List.getElem?_eq_none (by rw [itab_len]; omega), List.getElem?_eq_none (by rw [itab_len]; omega)]
theorem bits_append (X c k : Nat) (hX : X < 2 ^ k) (n : Nat) : itab k (bit X) ++ itab n (bit c) = itab (k + n) (bit (X + 2 ^ k * c)) := by
  refine itab_append _ _ _ _ _ (fun i hi => ?_) (fun i hi => ?_)
  · unfold bit
    have e : 2 ^ k = 2 ^ i * (2 * 2 ^ (k - i - 1)) := by rw [← Nat.pow_succ', ← Nat.pow_add]; congr 1; omega
    rw [e, Nat.mul_assoc, Nat.add_mul_div_left _ _ (Nat.two_pow_pos i), Nat.mul_assoc, Nat.add_mul_mod_self_left]
  · unfold bit
    rw [Nat.pow_add, ← Nat.div_div_eq_div_mul, Nat.add_mul_div_left _ _ (Nat.two_pow_pos k), Nat.div_eq_of_lt hX, Nat.zero_add]

theorem number_nil (a : Option Addr) (cap : Nat) (w : World) : Calls Tryz.prog 43 #[.slice a 0 cap] w fun e w' => e = .returned (.int .i64 0) ∧ w = w' := by
  go_enter Tryz.func43, Tryz.ntmps43
  go_wp2
  go_loop [3, 4] (fun v s => v = .int .i64 0 ∧ s = .int .i64 (-1)) (fun _ _ => 0)
  case atStart => exact ⟨rfl, rfl⟩
  case round =>
    obtain ⟨rfl, rfl⟩ := hrel
    go_wp2
    go_ret
    exact ⟨rfl, rfl⟩
theorem signed_nil (a : Option Addr) (cap : Nat) (w : World) : Calls Tryz.prog 47 #[.slice a 0 cap] w fun e w' => e = .returned (.int .i64 0) ∧ w = w' := by
  go_enter Tryz.func47, Tryz.ntmps47
  go_wp2_with fail
  refine (number_nil a cap _).mono ?_
  rintro e w1 ⟨rfl, rfl⟩
  go_wp2
  go_ret
  exact ⟨rfl, rfl⟩
theorem wrap64_small (x : Nat) (h : x < 2 ^ 62) : wrap64 (x : Int) = x := by unfold wrap64; omega
set_option maxHeartbeats 800000 in
theorem signed_mid (b off n cap x : Nat) (hn1 : 8 ≤ n) (hn2 : n ≤ 56) (hx : x < 2 ^ n) (w : World) (hb : Bits w b off n x) :
    Calls Tryz.prog 47 #[.slice (some ⟨b, off, none⟩) n cap] w fun e w' => e = .returned (.int .i64 (sgn n x)) ∧ ∃ k, w' = w.drewN k := by
  have h64 : ((n : Int) == 64) = false := by rw [beq_eq_false_iff_ne]; omega
  have h0 : ((n : Int) == 0) = false := by rw [beq_eq_false_iff_ne]; omega
  have e1 := hb.2 (n - 1) (by omega)
  have ei : ((n : Int) - 1).toNat = n - 1 := by omega
  have hp : 2 ^ n = 2 * 2 ^ (n - 1) := by rw [← Nat.pow_succ']; congr 1; omega
  have hp1 : (2 : Int) ^ n = ((2 ^ n : Nat) : Int) := by simp
  have hpl : 2 ^ n ≤ 2 ^ 56 := Nat.pow_le_pow_right (by decide) hn2
  have hnum : ∀ w, Bits w b off n x → Calls Tryz.prog 43 #[.slice (some ⟨b, off, none⟩) n cap] w fun e w' => e = .returned (.int .i64 (x : Int)) ∧ w = w' := fun w hb => by
    have := number_any b off n cap x (by omega) hx w hb
    rwa [wrap64_small x (by omega)] at this
  have HNUM := Lib.hid hnum
  clear hnum
  by_cases hs : x < 2 ^ (n - 1)
  · have hbit : bit x (n - 1) = 0 := by unfold bit; rw [Nat.div_eq_of_lt hs]; rfl
    rw [hbit] at e1
    have HS := Lib.hid (show sgn n x = (x : Int) by unfold sgn; rw [if_pos hs])
    clear hbit hs hp hp1 hpl hx
    go_enter Tryz.func47, Tryz.ntmps47
    go_wp2_with fail
    refine (HNUM.out _ hb).mono ?_
    rintro e w1 ⟨rfl, rfl⟩
    go_wp2
    go_ret
    exact ⟨ret_int HS.out.symm, 0, rfl⟩
  · have hbit : bit x (n - 1) = 1 := by
      have hd : x / 2 ^ (n - 1) = 1 := by
        have h1 : x / 2 ^ (n - 1) < 2 := Nat.div_lt_of_lt_mul (by omega)
        have h2 : 1 ≤ x / 2 ^ (n - 1) := (Nat.one_le_div_iff (Nat.two_pow_pos _)).2 (by omega)
        omega
      unfold bit; rw [hd]; rfl
    rw [hbit] at e1
    have HS := Lib.hid (show sgn n x = (x : Int) - 2 ^ n by unfold sgn; rw [if_neg hs])
    have hx2 : x < 72057594037927936 := by omega
    have hpi : (2 : Int) ^ n ≤ 72057594037927936 := by rw [hp1]; omega
    have hpi0 : (0 : Int) < 2 ^ n := Int.pow_pos (by decide)
    have hbq : ∀ k, Bits (w.drewN k) b off n x := fun k => hb
    clear hbit hs hp hp1 hpl hx
    go_enter Tryz.func47, Tryz.ntmps47
    go_wp2
    go_quiet ((go_at_call 43; exact Calls.quiet_of_same ((HNUM.out _ (hbq _)).mono fun e w' ⟨he, hw⟩ => ⟨he, hw.symm⟩)))
    go_wp2
    go_ret
    exact ⟨ret_int HS.out.symm, nq, rfl⟩
theorem signed_64 (b off cap n x : Nat) (hn : n = 64) (hx : x < 2 ^ n) (w : World) (hb : Bits w b off n x) :
    Calls Tryz.prog 47 #[.slice (some ⟨b, off, none⟩) n cap] w fun e w' => e = .returned (.int .i64 (sgn n x)) ∧ w = w' := by
  have h64 : ((n : Int) == 64) = true := by rw [beq_iff_eq]; omega
  have HN := Lib.hid hn
  have HX := Lib.hid hx
  clear hn hx
  go_enter Tryz.func47, Tryz.ntmps47
  go_wp2_with fail
  refine (number_any b off n cap x (by have := HN.out; omega) HX.out _ hb).mono ?_
  rintro e w1 ⟨rfl, rfl⟩
  go_wp2
  go_ret
  refine ⟨ret_int ?_, rfl⟩
  have hx := HX.out
  have hn := HN.out
  subst hn
  rw [sgn64 (by omega)]

set_option maxRecDepth 100000 in
set_option maxHeartbeats 1600000 in
theorem refget_of (v : Value) (sg : Bool) (xs : List Int) (w : World) (h : Held w v xs) :
    Calls Tryz.prog 21 #[v, .bool sg] w fun e w' => e = .returned (.int .i64 (getv sg xs)) ∧ Below w.heap.size w w' := by
  have hx := h.bytes
  have hsl : ∃ a cap, v = .slice a xs.length cap ∧ xs.length ≤ maxLen ∧ ∀ i, i < xs.length → ∃ b off, a = some ⟨b, off, none⟩ ∧ b < w.heap.size ∧ w.cell? ⟨b, off + i, none⟩ = some (.int .u8 (xs.getD i 0)) := by
    obtain ⟨_, ⟨rfl, rfl | ⟨a, cap, rfl, _⟩⟩ | ⟨_, b, off, cap, rfl, hcap, hcm, hlt, hcell⟩⟩ := h
    · exact ⟨_, _, rfl, by decide, fun i hi => by simp at hi⟩
    · exact ⟨_, _, rfl, by decide, fun i hi => by simp at hi⟩
    · exact ⟨_, _, rfl, Nat.le_trans hcap hcm, fun i hi => ⟨b, off, rfl, hlt, hcell i hi⟩⟩
  obtain ⟨a, cap, rfl, hm, hc⟩ := hsl
  unfold maxLen at hm
  by_cases h8 : 8 < xs.length
  · have HE := Lib.hid (show getv sg xs = 0 by unfold getv; rw [if_pos (Or.inr h8)])
    clear hc h hx
    obtain ⟨n, hn⟩ : ∃ n, n = xs.length := ⟨_, rfl⟩
    rw [← hn] at h8 hm ⊢
    clear hn
    go_enter Tryz.func21, Tryz.ntmps21
    go_wp2
    go_ret
    exact ⟨ret_int HE.out.symm, Below.refl _ _⟩
  · have hlen : xs.length ≤ 8 := by omega
    clear hm
    have hnl := fun k hk => num_take_lt hx k hk
    have hsn := fun k hk => num_snoc xs k hk
    have HV := Lib.hid (show getv sg xs = if xs.length = 0 then 0 else if sg then sgn (8 * xs.length) (num xs) else wrap64 (num xs) by
      unfold getv
      by_cases h0 : xs = []
      · subst h0; simp
      · have : xs.length ≠ 0 := fun h => h0 (List.length_eq_zero_iff.1 h)
        rw [if_neg (fun hh => hh.elim (fun hh => h0 hh) (fun hh => h8 hh)), if_neg this])
    obtain ⟨n, hn⟩ : ∃ n, n = xs.length := ⟨_, rfl⟩
    rw [← hn] at hc hlen hnl hsn HV ⊢
    have HTK := Lib.hid (show num (xs.take n) = num xs by rw [List.take_of_length_le (by omega)])
    have HC := Lib.hid hc
    have HX := Lib.hid hx
    have HNL := Lib.hid hnl
    have HSN := Lib.hid hsn
    clear hn hc hx h h8 hnl hsn
    obtain ⟨i0, hi0, hz0, hz1, hz2⟩ := info_parts info_int
    go_enter Tryz.func21, Tryz.ntmps21
    go_wp2
    go_loopw [5, 6] (fun v s wr => ∃ (k : Nat) (v0 : Value), v0 = v ∧ k ≤ n ∧ s = .int .i64 k ∧ wr.ownsRow w.heap.size 3 1 v0 (8 * k) (itab (8 * k) (bit (num (xs.take k)))) ∧ Below w.heap.size w wr) (fun _ s _ => n - (intOf s).toNat)
    case atStart => exact ⟨0, _, rfl, Nat.zero_le _, rfl, World.ownsRow_nil _ _ _ _, Below.refl _ _⟩
    case round =>
      obtain ⟨k, v0, hv0, hk, rfl, hO, hB⟩ := hrel
      subst hv0
      by_cases hlt : k < n
      · obtain ⟨b, off, rfl, hb1, e1⟩ := HC.out k hlt
        have e1 := (hB.cell (p := ⟨b, off + k, none⟩) hb1).trans e1
        have hr := HX.out.at' k
        obtain ⟨c, hcc⟩ : ∃ c, c = xs.getD k 0 := ⟨_, rfl⟩
        rw [← hcc] at hr e1
        have hs := hB.size
        have HO := Lib.hid hO
        have HCC := Lib.hid hcc
        have HB := Lib.hid hB
        clear hcc hO hB
        go_wp2_with fail
        refine (row_any c 8 8 rfl (by decide) _).mono ?_
        rintro e w1 ⟨g, rfl, hg, hR, hB1⟩
        have hs1 := hB1.size
        have HO1 : Hid (w1.ownsRow w.heap.size 3 1 v0 (8 * k) (itab (8 * k) (bit (num (xs.take k))))) := Lib.hid (by
          rcases HO.out with ⟨hl, hz | ⟨g', cap', cur, rfl, hb, hgg, rest⟩⟩
          · exact ⟨hl, Or.inl hz⟩
          · exact ⟨hl, Or.inr ⟨g', cap', cur, rfl, hb, by rw [hB1.block g' (Array.getElem?_eq_some_iff.1 hgg).1]; exact hgg, rest⟩⟩)
        have hun : un c = c.toNat := by unfold un; omega
        rw [hun] at hR
        have hcn : c.toNat < 2 ^ 8 := by omega
        have hnews : ∀ (j : Nat) (u : Value), (itab 8 (bit c.toNat))[j]? = some u → w1.cell? ((⟨g, 0, none⟩ : Addr).add j) = some u := by
          intro j u hu
          have hplain : (⟨g, 0, none⟩ : Addr).add j = ⟨g, j, none⟩ := by unfold Addr.add; split <;> simp_all
          rw [hplain, hR.cell j, hu]
        have hone : ∀ u ∈ itab 8 (bit c.toNat), u.oneCell' = true := by
          intro u hu
          obtain ⟨x, _, rfl⟩ := List.mem_map.1 hu
          rfl
        have hil : (itab 8 (bit c.toNat)).length = 8 * 1 := by rw [itab_len]
        have hm1 : 8 * k + 8 ≤ maxLen := by unfold maxLen; omega
        have hm2 : (8 * k + 8) * 8 ≤ 140737488355328 := by omega
        have hm3 : w.heap.size ≤ w1.heap.size := Nat.le_trans hs hs1
        obtain ⟨cells, hcells⟩ : ∃ cells, cells = itab 8 (bit c.toNat) := ⟨_, rfl⟩
        rw [← hcells] at hnews hone hil
        have HCL := Lib.hid hcells
        clear hcells hR
        go_wp2_with (at_builtin; refine wpList_append_own _ rfl (.tmp 16) (.tmp 22) 68 rfl w.heap.size 3 i0 (.int .i64 0) 1 8 Tryz.underlying68 hi0 hz0 hz1 hz2 rfl (by decide) v0 (8 * k) _ rfl HO1.out ⟨g, 0, none⟩ 8 8 cells rfl hil hnews hone hm1 hm2 hm3 ?_; intro v1 w2 hown hgrow _)
        have hB2 : Below w.heap.size w w2 := Below.grown (HB.out.trans (hB1.mono hs)) hgrow hm3 (fun j hj => (HO1.out.lt j hj).1)
        have hown2 : w2.ownsRow w.heap.size 3 1 v1 (8 * (k + 1)) (itab (8 * (k + 1)) (bit (num (xs.take (k + 1))))) := by
          rw [HCL.out, bits_append _ _ _ (HNL.out k (by omega))] at hown
          rw [HSN.out k hlt, pow256, ← HCC.out, show 8 * (k + 1) = 8 * k + 8 by omega]
          exact hown
        clear hown hgrow hnews hone hil
        go_wp2
        go_roundw
        case rel => exact ⟨k + 1, _, rfl, hlt, by go_num, hown2, hB2⟩
        case measure => simp [intOf]; omega
      · obtain rfl : k = n := by omega
        rw [HTK.out] at hO
        have hnl := HNL.out k (Nat.le_refl _)
        rw [HTK.out] at hnl
        obtain ⟨X, hX⟩ : ∃ X, X = num xs := ⟨_, rfl⟩
        rw [← hX] at hO hnl
        rw [← hX] at HV
        have HB := Lib.hid hB
        have hs := hB.size
        clear hX hB
        by_cases hk0 : k = 0
        · subst hk0
          obtain ⟨a1, c1, rfl⟩ : ∃ a1 c1, v0 = .slice a1 0 c1 := by
            rcases hO.2 with ⟨rfl, _⟩ | ⟨g, c1, cur, rfl, _⟩
            · exact ⟨_, _, rfl⟩
            · exact ⟨_, _, rfl⟩
          clear hO hnl
          cases sg
          · go_wp2_with fail
            refine (number_nil _ _ _).mono ?_
            rintro e w1 ⟨rfl, rfl⟩
            go_wp2
            go_ret
            exact ⟨ret_int (by rw [HV.out]; simp), HB.out⟩
          · go_wp2_with fail
            refine (signed_nil _ _ _).mono ?_
            rintro e w1 ⟨rfl, rfl⟩
            go_wp2
            go_ret
            exact ⟨ret_int (by rw [HV.out]; simp), HB.out⟩
        · obtain ⟨g, c1, cur, rfl, hb, hgg, _⟩ : ∃ g c1 cur, v0 = .slice (some ⟨g, 0, none⟩) (8 * k) c1 ∧ w.heap.size ≤ g ∧ wr.heap[g]? = some (.cells cur 3 (0, 0)) ∧ True := by
            rcases hO.2 with ⟨rfl, h0⟩ | ⟨g, c1, cur, rfl, hb, hg, _⟩
            · omega
            · exact ⟨_, _, _, rfl, hb, hg, trivial⟩
          have hbits : Bits wr g 0 (8 * k) X := ⟨(Array.getElem?_eq_some_iff.1 hgg).1, fun i hi => by rw [Nat.zero_add, hO.cellAt i (by omega), itab_get _ hi]⟩
          have HBT := Lib.hid hbits
          have HNL2 := Lib.hid hnl
          have HK0 := Lib.hid hk0
          obtain ⟨m, hm⟩ : ∃ m, m = 8 * k := ⟨_, rfl⟩
          rw [← hm] at HBT HNL2 HV ⊢
          have HM := Lib.hid hm
          clear hbits hnl hO hgg hk0 hm
          cases sg
          · go_wp2_with fail
            refine (number_any g 0 m c1 X (by have := HM.out; omega) HNL2.out _ HBT.out).mono ?_
            rintro e w1 ⟨rfl, rfl⟩
            go_wp2
            go_ret
            exact ⟨ret_int (by rw [HV.out, if_neg HK0.out, if_neg (by simp)]), HB.out⟩
          · by_cases h64 : m = 64
            · have H64 := Lib.hid h64
              clear h64
              go_wp2_with fail
              refine (signed_64 g 0 c1 m X H64.out HNL2.out _ HBT.out).mono ?_
              rintro e w1 ⟨rfl, rfl⟩
              go_wp2
              go_ret
              exact ⟨ret_int (by rw [HV.out, if_neg HK0.out, if_pos trivial]), HB.out⟩
            · have H64 := Lib.hid h64
              clear h64
              go_wp2_with fail
              refine (signed_mid g 0 m c1 X (by have := HM.out; have := HK0.out; omega) (by have := HM.out; have := H64.out; omega) HNL2.out _ HBT.out).mono ?_
              rintro e w1 ⟨rfl, nq, hw⟩
              have hB1 : Below w.heap.size w w1 := by rw [hw]; exact below_drewN HB.out nq
              clear hw
              go_wp2
              go_ret
              exact ⟨ret_int (by rw [HV.out, if_neg HK0.out, if_pos trivial]), hB1⟩
end Go.Proofs.YtcmplcdbkoodpaaGreatDoor
