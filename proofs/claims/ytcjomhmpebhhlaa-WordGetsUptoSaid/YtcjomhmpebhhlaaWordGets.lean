/-
  WordGets: every Get of any bytes, on lent bytes; under the bound of the Upto statement.
-/
import Derived.Test.YtcjomhmpebhhlaaLendB
import Derived.Test.YtcjomhmpebhhlaaRefGet
import Derived.Test.YtcjomhmpebhhlaaPart
import Derived.Test.YtcjomhmpebhhlaaHelpBulk
import Derived.OpenShut
import Derived.JoinedCond
import Derived.BigQuiet
namespace Go.Proofs.Ytcjomhmpebhhlaa.wordGets
open Go.ChangeShapes Go.WideShapes Go.ChangeAt Go.RowKit
set_option linter.unusedVariables false

theorem get_12 : getv false [1, 2] = 513 := by
  unfold getv
  rw [if_neg (by simp), if_neg (by simp)]
  show wrap64 ((513 : Nat) : Int) = 513
  unfold wrap64
  omega

set_option maxRecDepth 100000 in
set_option maxHeartbeats 6400000 in
theorem walk (bv : Value) (xs : List Int) (hl : xs.length ≤ 1048576) (w : World) (h : Held w bv xs) :
    Calls Try.prog 4 #[bv] w fun e w' => e = .returned (.bool true) ∧ Below w.heap.size w w' := by
  have HH := Lib.hid h
  obtain ⟨a, cap, rfl, hcap, hcm, htk, _⟩ := h.open
  unfold maxLen at hcm
  obtain ⟨n, hn⟩ : ∃ n, n = xs.length := ⟨_, rfl⟩
  rw [← hn] at HH htk hcap ⊢
  have HN := Lib.hid hn
  have HL := Lib.hid hl
  have HTK := Lib.hid htk
  clear hn hl htk h
  go_enter Try.func4, Try.ntmps4
  go_wp2
  have hR0 : Room (w.alloc (.cells #[.slice none 0 0] 34)) w.heap.size (w.alloc (.cells #[.slice none 0 0] 34)).heap.size := ⟨none, 0, Row.made w [.slice none 0 0] _, Or.inl ⟨rfl, rfl⟩⟩
  have hB0 := (Below.refl w.heap.size w).alloc (Nat.le_refl _) (.cells #[.slice none 0 0] 34)
  have hlt0 : w.heap.size < (w.alloc (.cells #[.slice none 0 0] 34)).heap.size := by simp
  obtain ⟨hb, hhb⟩ : ∃ hb, hb = w.heap.size := ⟨_, rfl⟩
  have hst : w.heap.size ≤ hb := by omega
  go_loopw [4] (fun s wr => ∃ k : Nat, k ≤ n + 1 ∧ k ≤ 13 ∧ s = .int .i64 k ∧ Room wr w.heap.size wr.heap.size ∧ Below w.heap.size w wr ∧ w.heap.size < wr.heap.size) (fun s _ => n + 1 - (intOf s).toNat)
  case atStart => exact ⟨0, Nat.zero_le _, Nat.zero_le _, rfl, hR0, hB0, hlt0⟩
  case round =>
    clear hR0 hB0 hlt0
    obtain ⟨k, hk1, hk2, rfl, hR, hB, hlt⟩ := hrel
    have HR := Lib.hid hR
    have HB := Lib.hid hB
    have HLT := Lib.hid hlt
    clear hR hB hlt
    by_cases hin : k ≤ n ∧ k ≤ 12
    · obtain ⟨hkn, hk12⟩ := hin
      have d1 : decide ((k : Int) ≤ n) = true := by simp; omega
      have d2 : decide ((k : Int) ≤ 12) = true := by simp; omega
      have i1 : (k : Int) ≤ (cap : Int) := by omega
      obtain ⟨ys, hys⟩ : ∃ ys, ys = xs.take k := ⟨_, rfl⟩
      have hyl : ys.length = k := by rw [hys, List.length_take, ← HN.out]; omega
      have hY := (HTK.out k hkn).below HB.out (Nat.le_refl _)
      rw [← hys] at hY
      have HY := Lib.hid hY
      have HYL := Lib.hid hyl
      clear hys hyl hY
      go_wp2_with fail
      refine (copy_of _ ys _ HY.out (by rw [HYL.out]; omega)).mono ?_
      rintro e w2 ⟨v', rfl, hown, hB1⟩
      rw [HYL.out] at hown
      have hs1 := hB1.size
      have hY2 := held_of_own hown HY.out.bytes HYL.out.symm
      have hR2 := HR.out.below hB1
      have HY2 := Lib.hid hY2
      have HR2 := Lib.hid hR2
      have HO := Lib.hid hown
      have HB1 := Lib.hid hB1
      clear hown hY2 hR2 hB1
      go_wp2_with fail
      refine (lend_any _ wr.heap.size v' ys (by rw [HYL.out]; omega) _ HY2.out hs1 HR2.out).mono ?_
      rintro e w3 ⟨rb, L, f, rfl, hO3, hrb, hfr, hB3, hs3⟩
      rw [HYL.out]
      have hlt := HLT.out
      have hY3 : Held w3 v' ys := HY2.out.kept hs3 (fun b hbk => by
        have := HO.out.lt b hbk
        exact hfr b this.2 (by omega) (by omega))
      have hG3 := hO3.held HY.out.bytes
      rw [HYL.out] at hG3
      have hBw : Below w.heap.size w w3 := HB.out.trans ((HB1.out.mono (by omega)).trans (hB3.mono (by omega)))
      have HY3 := Lib.hid hY3
      have HG3 := Lib.hid hG3
      have HO3 := Lib.hid hO3
      have HBW := Lib.hid hBw
      have hs3' : w.heap.size ≤ w3.heap.size := by omega
      have hrb2 := hO3.2.2.1
      clear hrb hfr hB3 hY3 hG3 hO3 hBw HY2 HR2 HO HB1 HR HB HY
      go_wp2_with fail
      refine (get_of _ false ys _ HG3.out).mono ?_
      rintro e w' ⟨rfl, rfl⟩
      go_wp2_with fail
      refine (get_of _ true ys _ HG3.out).mono ?_
      rintro e w' ⟨rfl, rfl⟩
      obtain ⟨V1, hV1⟩ : ∃ V1, V1 = getv false ys := ⟨_, rfl⟩
      obtain ⟨V2, hV2⟩ : ∃ V2, V2 = getv true ys := ⟨_, rfl⟩
      have e1 : (V1 != V1) = false := by simp
      have e2 : (V2 != V2) = false := by simp
      rw [← hV1, ← hV2]
      have HV1 := Lib.hid hV1
      have HV2 := Lib.hid hV2
      clear hV1 hV2
      go_wp2_with fail
      refine (refget_of _ false ys _ HY3.out).mono ?_
      rintro e w4 ⟨rfl, hB4⟩
      rw [← HV1.out]
      have HB4 := Lib.hid hB4
      have HY4 := Lib.hid (HY3.out.below hB4 (Nat.le_refl _))
      clear hB4
      go_wp2_with fail
      refine (refget_of _ true ys _ HY4.out).mono ?_
      rintro e w5 ⟨rfl, hB5⟩
      rw [← HV2.out]
      have hs4 := HB4.out.size
      have hs5 := hB5.size
      have HBX := Lib.hid (HB4.out.trans (hB5.mono hs4))
      have HY5 := Lib.hid (HY4.out.below hB5 (Nat.le_refl _))
      have HO5 := Lib.hid (HO3.out.below HBX.out)
      clear hB5
      go_wp2_with fail
      refine (back_any _ rb L f v' ys (by rw [HYL.out]; omega) _ HY5.out HO5.out).mono ?_
      rintro e w6 ⟨rfl, hR6, hfr6, hB6⟩
      have hrl := HO5.out.2.2.2.2.2.lt
      have hB6' := hB6 w.heap.size (by omega)
      have hs6 := (hB6 rb (Nat.le_refl _)).size
      have hsz : w5.heap.size ≤ w6.heap.size := (hB6 0 (Nat.zero_le _)).size
      have hBz := HBW.out.trans ((HBX.out.mono hs3').trans hB6')
      have hRz := hR6 w6.heap.size (by omega)
      have HBZ := Lib.hid hBz
      have HRZ := Lib.hid hRz
      have HSZ := Lib.hid (show w.heap.size < w6.heap.size by omega)
      clear hR6 hfr6 hB6 hB6' hBz hRz
      go_wp2
      go_roundw
      case rel => exact ⟨k + 1, by omega, by omega, by go_num, HRZ.out, HBZ.out, HSZ.out⟩
      case measure => simp [intOf]; omega
    · have hX := HH.out.below HB.out (Nat.le_refl _)
      have HX := Lib.hid hX
      clear hX
      have hgo : (decide ((k : Int) ≤ n) = false) ∨ (decide ((k : Int) ≤ n) = true ∧ decide ((k : Int) ≤ 12) = false) := by
        by_cases h1 : k ≤ n
        · right
          constructor
          · simp; omega
          · simp; omega
        · left
          simp; omega
      clear hin
      rcases hgo with d1 | ⟨d1, d2⟩
      · have i1 : (n : Int) < k := by simpa using d1
        have i2 : ¬ ((k : Int) ≤ n) := by omega
        go_wp2_with fail
        refine (lend_any _ wr.heap.size _ xs HL.out _ HX.out (Nat.le_refl _) HR.out).mono ?_
        rintro e w3 ⟨rb, L, f, rfl, hO3, hrb, hfr, hB3, hs3⟩
        have hlt := HLT.out
        have hG3 := hO3.held HH.out.bytes
        have hBw : Below w.heap.size w w3 := HB.out.trans hB3
        have HX3 := Lib.hid (HH.out.below hBw (Nat.le_refl _))
        have HG3 := Lib.hid hG3
        have HO3 := Lib.hid hO3
        have HBW := Lib.hid hBw
        have hs3' : w.heap.size ≤ w3.heap.size := by omega
        have hrb2 := hO3.2.2.1
        clear hrb hfr hB3 hG3 hO3 hBw HX HR HB
        go_wp2_with fail
        refine (get_of _ true xs _ HG3.out).mono ?_
        rintro e w' ⟨rfl, rfl⟩
        obtain ⟨V2, hV2⟩ : ∃ V2, V2 = getv true xs := ⟨_, rfl⟩
        have e2 : (V2 == V2) = true := by simp
        rw [← hV2]
        have HV2 := Lib.hid hV2
        clear hV2
        go_wp2_with fail
        refine (refget_of _ true xs _ HX3.out).mono ?_
        rintro e w5 ⟨rfl, hB5⟩
        rw [← HV2.out]
        have hs5 := hB5.size
        have HBX := Lib.hid hB5
        have HY5 := Lib.hid (HX3.out.below hB5 (Nat.le_refl _))
        have HO5 := Lib.hid (HO3.out.below HBX.out)
        clear hB5
        go_wp2_with fail
        refine (back_any _ rb L f _ xs HL.out _ HY5.out HO5.out).mono ?_
        rintro e w6 ⟨rfl, hR6, hfr6, hB6⟩
        have hB6' := hB6 w.heap.size (by omega)
        have hBz := HBW.out.trans ((HBX.out.mono hs3').trans hB6')
        have HBZ := Lib.hid (hBz.alloc hBz.size (.cells #[.int .u8 1, .int .u8 2] 5))
        have hlit : Held (w6.alloc (.cells #[.int .u8 1, .int .u8 2] 5)) (.slice (some ⟨w6.heap.size, 0, none⟩) 2 2) [1, 2] :=
          held_row (xs := [1, 2]) (cap := 2) (Row.made w6 [.int .u8 1, .int .u8 2] _) (by unfold IsBytes; decide) (by decide) (by decide) (fun i hi => by
            have : i = 0 ∨ i = 1 := by simp at hi; omega
            rcases this with rfl | rfl <;> rfl)
        have HLIT := Lib.hid hlit
        clear hR6 hfr6 hB6 hB6' hBz hlit
        go_wp2_with fail
        refine (get_of _ false [1, 2] _ HLIT.out).mono ?_
        rintro e w' ⟨rfl, rfl⟩
        rw [get_12]
        go_wp2
        go_ret
        exact ⟨rfl, HBZ.out⟩
      · have i1 : (k : Int) ≤ n := by simpa using d1
        have i2 : (12 : Int) < k := by simpa using d2
        have i3 : ¬ ((k : Int) ≤ 12) := by omega
        go_wp2_with fail
        refine (lend_any _ wr.heap.size _ xs HL.out _ HX.out (Nat.le_refl _) HR.out).mono ?_
        rintro e w3 ⟨rb, L, f, rfl, hO3, hrb, hfr, hB3, hs3⟩
        have hlt := HLT.out
        have hG3 := hO3.held HH.out.bytes
        have hBw : Below w.heap.size w w3 := HB.out.trans hB3
        have HX3 := Lib.hid (HH.out.below hBw (Nat.le_refl _))
        have HG3 := Lib.hid hG3
        have HO3 := Lib.hid hO3
        have HBW := Lib.hid hBw
        have hs3' : w.heap.size ≤ w3.heap.size := by omega
        have hrb2 := hO3.2.2.1
        clear hrb hfr hB3 hG3 hO3 hBw HX HR HB
        go_wp2_with fail
        refine (get_of _ true xs _ HG3.out).mono ?_
        rintro e w' ⟨rfl, rfl⟩
        obtain ⟨V2, hV2⟩ : ∃ V2, V2 = getv true xs := ⟨_, rfl⟩
        have e2 : (V2 == V2) = true := by simp
        rw [← hV2]
        have HV2 := Lib.hid hV2
        clear hV2
        go_wp2_with fail
        refine (refget_of _ true xs _ HX3.out).mono ?_
        rintro e w5 ⟨rfl, hB5⟩
        rw [← HV2.out]
        have hs5 := hB5.size
        have HBX := Lib.hid hB5
        have HY5 := Lib.hid (HX3.out.below hB5 (Nat.le_refl _))
        have HO5 := Lib.hid (HO3.out.below HBX.out)
        clear hB5
        go_wp2_with fail
        refine (back_any _ rb L f _ xs HL.out _ HY5.out HO5.out).mono ?_
        rintro e w6 ⟨rfl, hR6, hfr6, hB6⟩
        have hB6' := hB6 w.heap.size (by omega)
        have hBz := HBW.out.trans ((HBX.out.mono hs3').trans hB6')
        have HBZ := Lib.hid (hBz.alloc hBz.size (.cells #[.int .u8 1, .int .u8 2] 5))
        have hlit : Held (w6.alloc (.cells #[.int .u8 1, .int .u8 2] 5)) (.slice (some ⟨w6.heap.size, 0, none⟩) 2 2) [1, 2] :=
          held_row (xs := [1, 2]) (cap := 2) (Row.made w6 [.int .u8 1, .int .u8 2] _) (by unfold IsBytes; decide) (by decide) (by decide) (fun i hi => by
            have : i = 0 ∨ i = 1 := by simp at hi; omega
            rcases this with rfl | rfl <;> rfl)
        have HLIT := Lib.hid hlit
        clear hR6 hfr6 hB6 hB6' hBz hlit
        go_wp2_with fail
        refine (get_of _ false [1, 2] _ HLIT.out).mono ?_
        rintro e w' ⟨rfl, rfl⟩
        rw [get_12]
        go_wp2
        go_ret
        exact ⟨rfl, HBZ.out⟩


theorem own : ownKnob Try.prog.godebug = none := by kernel_rfl
set_option maxRecDepth 100000 in
theorem contract (H : Type) (enc : TypeId × Value → H) (W : World) (base : Nat) (args : Array Value) (ds gs : List (DataW H)) (before : List MemPlace)
    (hval : ∀ (j : Nat) t v, Try.f4.params[j]? = some t → args[j]? = some v → Value.okWide Try.prog W .any base t v)
    (hW : DataW.Whole enc Try.prog Try.f4.params.toList Rows.wordGetsSpec.vars false W args.toList ds gs before) (hk : Rows.uptoSmall H (ds ++ gs) = true) :
    Calls Try.prog 4 args W fun e W' => ∃ v, e = .returned v ∧ Rows.wordGetsSpec.post enc Try.prog Try.f4 false true false false W args v W' := by
  have hW' := hW
  obtain ⟨p, q, hA0, hV, rfl, hfz, hnd⟩ := hW
  have hA : DataW.TrodAll enc Try.prog W 0 (fun _ => true) true Try.f4.params.toList args.toList ds p := hA0
  rw [Try.params4] at hA hval
  obtain ⟨v0, vs0, d0, ds0, p0, q0, hargs, rfl, rfl, h0, r0⟩ := trodAll_cons hA
  obtain ⟨rfl, rfl, rfl⟩ := trodAll_nil r0
  obtain rfl : args = #[v0] := by cases args; exact congrArg Array.mk hargs
  obtain ⟨xs0, hX0, hd0⟩ := bytes_arg (hval 0 27 v0 rfl rfl) h0
  have hl0 : xs0.length ≤ 1048576 := by
    rcases hd0 with rfl | ⟨spare, rfl⟩
    · simp
    · have h := bulks.short hk (elems := lits .u8 xs0) (spare := lits .u8 spare) (by simp)
      simpa [lits] using h
  refine (walk v0 xs0 hl0 W hX0).mono fun e W' ⟨he, hb⟩ => ?_
  subst he
  exact ⟨_, rfl, law_post (tb := 4) (by kernel_rfl) (by kernel_rfl) rfl Try.underlying4 rfl (fun h => by subst h; rfl) hW' hb⟩

set_option maxRecDepth 100000 in
theorem lifted (os : Os) (started : os.Started) (H : Type) (enc : TypeId × Value → H) (F : Stop.Interp) :
    ReturnsInHanded {} Try.checked os 4 .any ((Rows.OpenSpec.upto Rows.wordGetsSpec).pre6 enc Try.prog Try.f4 Rows.wordGetsUptoRow.domain false) (((Rows.OpenSpec.upto Rows.wordGetsSpec).at F).post enc Try.prog Try.f4 false true false false) := by
  refine returnsInHanded_of_cond (C := Try.checked) (s := Rows.OpenSpec.upto Rows.wordGetsSpec) (k := Rows.uptoSmall) rfl own started (by kernel_rfl) Try.func4
    (OpenSpec.witness (enc := enc) (C := Try.checked) (s := Rows.OpenSpec.upto Rows.wordGetsSpec) (k := Rows.uptoSmall) rfl false ⟨#[], #[.slice none 0 0], []⟩ 8 (by kernel_rfl) (by kernel_rfl) (by kernel_rfl)
      (x := ([.nil], [], [])) (by kernel_rfl) rfl (by kernel_rfl)) ?_
  intro W base args ds gs before hval hW _ hk _
  exact contract H enc W base args ds gs before hval hW hk

theorem proved : Rows.WordGetsUptoSaid :=
  OpenClaim.holds_of_cond 4 Try.f4 rfl rfl rfl rfl rfl rfl rfl ⟨rfl, rfl, rfl, rfl, rfl⟩ rfl rfl rfl rfl rfl (by kernel_rfl) Try.func4 (by kernel_rfl)
    (of_decide_eq_true (by kernel_rfl)) (by unfold Func.isWrapper; first | (rw [if_pos (by decide +kernel)]; kernel_rfl) | (rw [if_neg (by decide +kernel)]; exact ⟨rfl, rfl⟩))
    (fun os started H enc _ F => lifted os started H enc F)
#print axioms proved

end Go.Proofs.Ytcjomhmpebhhlaa.wordGets
