/-
  HelpSigs: every Sig, and it is new memory; no condition.
-/
import Derived.Test.YtcjomhmpebhhlaaRefSig
import Derived.OpenShut
namespace Go.Proofs.Ytcjomhmpebhhlaa.helpSigs
open Go.ChangeShapes Go.WideShapes Go.ChangeAt Go.RowKit
set_option linter.unusedVariables false

theorem ownsRow_below {w w' : World} {base : Nat} {e : TypeId} {v : Value} {n : Nat} {xs : List Value} (h : w.ownsRow base e 1 v n xs) (hB : Below w.heap.size w w') : w'.ownsRow base e 1 v n xs :=
  ownsRow_stay h fun b hb => hB.block b (h.lt b hb).2
/-- The cells of a Sig. -/
def sigc (v : Value) (lo hi : Int) (p q : Bool) : List Value := [v, .int .i64 lo, .int .i64 hi, .bool p, .bool q]
theorem sigc_cells {w : World} {base b : Nat} {v : Value} {lo hi : Int} {p q : Bool} (h : w.ownsRow base 51 1 (.slice (some ⟨b, 0, none⟩) 5 5) 5 (sigc v lo hi p q)) :
    w.cell? ⟨b, 0, none⟩ = some v ∧ w.cell? ⟨b, 1, none⟩ = some (.int .i64 lo) ∧ w.cell? ⟨b, 2, none⟩ = some (.int .i64 hi) ∧ w.cell? ⟨b, 3, none⟩ = some (.bool p) ∧ w.cell? ⟨b, 4, none⟩ = some (.bool q) :=
  ⟨by rw [h.cellAt 0 (by decide)]; rfl, by rw [h.cellAt 1 (by decide)]; rfl, by rw [h.cellAt 2 (by decide)]; rfl, by rw [h.cellAt 3 (by decide)]; rfl, by rw [h.cellAt 4 (by decide)]; rfl⟩
theorem sigc_row {w : World} {b : Nat} {v : Value} {lo hi : Int} {p q : Bool} (h : Row w b 51 (sigc v lo hi p q)) :
    w.cell? ⟨b, 0, none⟩ = some v ∧ w.cell? ⟨b, 1, none⟩ = some (.int .i64 lo) ∧ w.cell? ⟨b, 2, none⟩ = some (.int .i64 hi) ∧ w.cell? ⟨b, 3, none⟩ = some (.bool p) ∧ w.cell? ⟨b, 4, none⟩ = some (.bool q) :=
  ⟨by rw [h.cell]; rfl, by rw [h.cell]; rfl, by rw [h.cell]; rfl, by rw [h.cell]; rfl, by rw [h.cell]; rfl⟩

set_option maxRecDepth 100000 in
set_option maxHeartbeats 6400000 in
theorem walk (id : Int) (rid : -9223372036854775808 ≤ id ∧ id ≤ 9223372036854775807) (w : World) :
    Calls Try.prog 6 #[.int .i64 id] w fun e w' => e = .returned (.bool true) ∧ Below w.heap.size w w' := by
  clear rid
  obtain ⟨xs, lo, hi, p, q, ok, hxl, hS, hR⟩ := sig_any id
  have HS := Lib.hid hS
  have HR := Lib.hid hR
  have hoo : (ok != ok) = false := by simp
  clear hS hR
  obtain ⟨n, hn⟩ : ∃ n, n = xs.length := ⟨_, rfl⟩
  rw [← hn] at hxl
  have HN := Lib.hid hn
  clear hn
  go_enter Try.func6, Try.ntmps6
  go_wp2_with fail
  refine (known_any _).mono ?_
  rintro e w1 ⟨rfl, hB⟩
  have hs := hB.size
  go_wp2_with fail
  have hrow := Row.made w1 [.int .i64 0, .slice none 0 0, .slice none 0 0, .slice none 0 0, .slice none 0 0, .bool false] 49
  have hG0 := Led.good_new _ w1.heap.size w1.heap.size (Nat.le_refl _) hrow
  have hB0 := hB.alloc hs (.cells #[.int .i64 0, .slice none 0 0, .slice none 0 0, .slice none 0 0, .slice none 0 0, .bool false] 49)
  refine (HR.out _).mono ?_
  rintro e w2 ⟨vw, rfl, hown, hB2⟩
  have hG1 := hG0.give hB2 (by rw [List.length_map]; exact hown)
  have hB1 := hB0.trans (hB2.mono hB0.size)
  obtain ⟨aw, cw, rfl⟩ := Led.own_form hown
  rw [← HN.out] at hG1 ⊢
  have hbox := own_of_row (base := w2.heap.size) (Row.made w2 (sigc (.slice aw n cw) lo hi p q) 51) (Nat.le_refl _) (by show 5 ≤ maxLen; decide)
  have hG2 := hG1.give ((Below.refl w2.heap.size w2).alloc (Nat.le_refl _) (.cells (sigc (.slice aw n cw) lo hi p q).toArray 51)) hbox
  have hB3 := hB1.alloc hB1.size (.cells (sigc (.slice aw n cw) lo hi p q).toArray 51)
  have HG2 := Lib.hid hG2
  have HB3 := Lib.hid hB3
  have HHS := Lib.hid hs
  clear hB hrow hG0 hB0 hown hG1 hB1 hB2 hbox hG2 hB3 hs
  obtain ⟨bw, hbw⟩ : ∃ bw, bw = w2.heap.size := ⟨_, rfl⟩
  obtain ⟨lb, hlb⟩ : ∃ lb, lb = w1.heap.size := ⟨_, rfl⟩
  go_wp2
  go_loopw [6] (fun s wr => ∃ (k : Nat) (tot : Int) (kk : Nat) (A : List (Value × List Value × TypeId)), k ≤ 4 ∧ s = .int .i64 k ∧ Led.Good wr w1.heap.size w1.heap.size 0 tot kk A ∧ 0 ≤ tot ∧ tot ≤ 5 * k ∧ kk ≤ 6 * k ∧ 2 ≤ A.length ∧
    A[0]? = some (.slice aw n cw, xs.map (Value.int .i64), 3) ∧ A[1]? = some (.slice (some ⟨w2.heap.size, 0, none⟩) 5 5, sigc (.slice aw n cw) lo hi p q, 51) ∧ Below w.heap.size w wr) (fun s _ => 4 - (intOf s).toNat)
  case atStart => exact ⟨0, 0, 0, _, Nat.zero_le _, rfl, HG2.out, by decide, by decide, by decide, by show 2 ≤ 2; decide, rfl, rfl, HB3.out⟩
  case round =>
    clear HG2 HB3
    obtain ⟨k, tot, kk, A, hk, rfl, hG, ht1, ht2, hkk, hAl, hA0, hA1, hB⟩ := hrel
    have HG := Lib.hid hG
    have HB := Lib.hid hB
    have HA0 := Lib.hid hA0
    have HA1 := Lib.hid hA1
    have HT := Lib.hid (show 0 ≤ tot ∧ tot ≤ 5 * k ∧ kk ≤ 6 * k ∧ 2 ≤ A.length from ⟨ht1, ht2, hkk, hAl⟩)
    clear hG hB hA0 hA1 ht1 ht2 hkk hAl
    by_cases hlt : k < 4
    · have k1 : (k : Int) < 4 := by omega
      go_wp2_with fail
      refine (HS.out _).mono ?_
      rintro e w4 ⟨vs, rfl, hown, hB4⟩
      obtain ⟨a5, c5, rfl⟩ := Led.own_form hown
      have hG4 := HG.out.give hB4 (by rw [List.length_map]; exact hown)
      have hlr := HB.out.size
      have hB4w := HB.out.trans (hB4.mono hlr)
      have hal := (Below.refl w4.heap.size w4).alloc (Nat.le_refl _) (.cells #[.slice a5 n c5, .int .i64 lo, .int .i64 hi, .bool p, .bool q] 51)
      rw [← HN.out] at hG4 ⊢
      have hG5 := hG4.below hal
      have hB5 := hB4w.alloc hB4w.size (.cells #[.slice a5 n c5, .int .i64 lo, .int .i64 hi, .bool p, .bool q] 51)
      have hrs : Row (w4.alloc (.cells #[.slice a5 n c5, .int .i64 lo, .int .i64 hi, .bool p, .bool q] 51)) w4.heap.size 51 (sigc (.slice a5 n c5) lo hi p q) := Row.made w4 (sigc (.slice a5 n c5) lo hi p q) 51
      have hA1' : (A ++ [(Value.slice a5 n c5, xs.map (Value.int .i64), 3)])[1]? = some (.slice (some ⟨w2.heap.size, 0, none⟩) 5 5, sigc (.slice aw n cw) lo hi p q, 51) := by rw [List.getElem?_append_left (by have := HT.out; omega)]; exact HA1.out
      have hA0' : (A ++ [(Value.slice a5 n c5, xs.map (Value.int .i64), 3)])[0]? = some (.slice aw n cw, xs.map (Value.int .i64), 3) := by rw [List.getElem?_append_left (by have := HT.out; omega)]; exact HA0.out
      have hAj : (A ++ [(Value.slice a5 n c5, xs.map (Value.int .i64), 3)])[A.length]? = some (.slice a5 n c5, xs.map (Value.int .i64), 3) := by rw [List.getElem?_append_right (Nat.le_refl _)]; simp
      obtain ⟨c0, c1, c2, c3, c4⟩ := sigc_cells (hG5.aside hA1')
      obtain ⟨e0, e1, e2, e3, e4⟩ := sigc_row hrs
      have hi1 := Led.ints_of_own (hG5.aside hAj) (by simp)
      have hi2 := Led.ints_of_own (hG5.aside hA0') (by simp)
      have HG5 := Lib.hid hG5
      have HB5 := Lib.hid hB5
      have HRS := Lib.hid hrs
      have HAJ := Lib.hid hAj
      have HAA0 := Lib.hid hA0'
      have HAA1 := Lib.hid hA1'
      have HI1 := Lib.hid hi1
      have HI2 := Lib.hid hi2
      clear hown hB4 hG4 hB4w hal hG5 hB5 hrs hAj hA0' hA1' hi1 hi2 hlr
      go_wp2_with fail
      refine (ints_same _ _ xs (by rw [← HN.out]; omega) _ HI1.out HI2.out).mono ?_
      rintro e w6 ⟨rfl, nq, hw6⟩
      have hG6 : Led.Good w6 w1.heap.size w1.heap.size 0 tot kk (A ++ [(Value.slice a5 n c5, xs.map (Value.int .i64), 3)]) := by rw [hw6]; exact HG5.out.below (below_drewN (Below.refl _ _) nq)
      have hB6 : Below w.heap.size w w6 := by rw [hw6]; exact below_drewN HB5.out nq
      have hr6 : Row w6 w4.heap.size 51 (sigc (.slice a5 n c5) lo hi p q) := by rw [hw6]; exact HRS.out.drewN nq
      clear c0 c1 c2 c3 c4 e0 e1 e2 e3 e4 hw6
      obtain ⟨e0, e1, e2, e3, e4⟩ := sigc_row hr6
      have HG6 := Lib.hid hG6
      have HB6 := Lib.hid hB6
      clear hG6 hB6 hr6
      go_wp2_with fail
      refine (Led.own_good _ _ 0 tot kk (.slice a5 n c5) xs A.length _ _ HG6.out HAJ.out (by have := HT.out; omega) (by decide) (by have := HT.out; omega) (by show xs.length ≤ _; rw [← HN.out]; omega) (by rw [← HN.out]; omega)).mono ?_
      rintro e w7 ⟨rfl, hB7, hG7⟩
      have hB7w := HB6.out.trans (hB7.mono HHS.out)
      obtain ⟨ys, lo2, hi2, p2, q2, ok2, hyl, hS2, hR2⟩ := sig_any ((k : Int) + 1)
      obtain ⟨m, hm⟩ : ∃ m, m = ys.length := ⟨_, rfl⟩
      rw [← hm] at hyl
      have HM := Lib.hid hm
      have HS2 := Lib.hid hS2
      have HR2 := Lib.hid hR2
      have HG7 := Lib.hid hG7
      have HB7 := Lib.hid hB7w
      clear hB7 hG7 hB7w hS2 hR2 hm e0 e1 e2 e3 e4
      go_wp2_with fail
      refine (HS2.out _).mono ?_
      rintro e w8 ⟨vt, rfl, hownt, hB8⟩
      obtain ⟨at8, ct8, rfl⟩ := Led.own_form hownt
      rw [← HM.out] at hownt ⊢
      have hG8 := (HG7.out.below hB8).below ((Below.refl w8.heap.size w8).alloc (Nat.le_refl _) (.cells #[.slice at8 m ct8, .int .i64 lo2, .int .i64 hi2, .bool p2, .bool q2] 51))
      have hl7 := HB7.out.size
      have hB8w := HB7.out.trans (hB8.mono hl7)
      have hB8a := hB8w.alloc hB8w.size (.cells #[.slice at8 m ct8, .int .i64 lo2, .int .i64 hi2, .bool p2, .bool q2] 51)
      have hr8 : Row (w8.alloc (.cells #[.slice at8 m ct8, .int .i64 lo2, .int .i64 hi2, .bool p2, .bool q2] 51)) w8.heap.size 51 (sigc (.slice at8 m ct8) lo2 hi2 p2 q2) := Row.made w8 (sigc (.slice at8 m ct8) lo2 hi2 p2 q2) 51
      have ho8 := hownt.alloc (.cells #[.slice at8 m ct8, .int .i64 lo2, .int .i64 hi2, .bool p2, .bool q2] 51)
      have HG8 := Lib.hid hG8
      have HB8 := Lib.hid hB8a
      have HR8 := Lib.hid hr8
      have HO8 := Lib.hid ho8
      clear hownt hB8 hG8 hl7 hB8w hB8a hr8 ho8
      go_wp2_with fail
      refine (HR2.out _).mono ?_
      rintro e w9 ⟨vv, rfl, hownv, hB9⟩
      obtain ⟨av9, cv9, rfl⟩ := Led.own_form hownv
      rw [← HM.out] at hownv ⊢
      have hG9 := (HG8.out.below hB9).below ((Below.refl w9.heap.size w9).alloc (Nat.le_refl _) (.cells #[.slice av9 m cv9, .int .i64 lo2, .int .i64 hi2, .bool p2, .bool q2] 51))
      have hl8 := HB8.out.size
      have hB9w := HB8.out.trans (hB9.mono hl8)
      have hB9a := hB9w.alloc hB9w.size (.cells #[.slice av9 m cv9, .int .i64 lo2, .int .i64 hi2, .bool p2, .bool q2] 51)
      have hr9 : Row (w9.alloc (.cells #[.slice av9 m cv9, .int .i64 lo2, .int .i64 hi2, .bool p2, .bool q2] 51)) w9.heap.size 51 (sigc (.slice av9 m cv9) lo2 hi2 p2 q2) := Row.made w9 (sigc (.slice av9 m cv9) lo2 hi2 p2 q2) 51
      have hr8 := (HR8.out.below hB9 HR8.out.lt).alloc (.cells #[.slice av9 m cv9, .int .i64 lo2, .int .i64 hi2, .bool p2, .bool q2] 51)
      have hi1 := Led.ints_of_own ((ownsRow_below HO8.out hB9).alloc (.cells #[.slice av9 m cv9, .int .i64 lo2, .int .i64 hi2, .bool p2, .bool q2] 51)) HM.out
      have hi2' := Led.ints_of_own (hownv.alloc (.cells #[.slice av9 m cv9, .int .i64 lo2, .int .i64 hi2, .bool p2, .bool q2] 51)) HM.out
      obtain ⟨c0, c1, c2, c3, c4⟩ := sigc_row hr8
      obtain ⟨e0, e1, e2, e3, e4⟩ := sigc_row hr9
      have HG9 := Lib.hid hG9
      have HB9 := Lib.hid hB9a
      have HR8' := Lib.hid hr8
      have HR9 := Lib.hid hr9
      have HI1' := Lib.hid hi1
      have HI2' := Lib.hid hi2'
      clear hownv hB9 hG9 hl8 hB9w hB9a hr9 hr8 hi1 hi2'
      go_wp2_with fail
      refine (ints_same _ _ ys (by rw [← HM.out]; omega) _ HI1'.out HI2'.out).mono ?_
      rintro e w10 ⟨rfl, nr, hw10⟩
      have hG10 : Led.Good w10 w1.heap.size w1.heap.size 0 (tot + xs.length) (kk + 6) ((A ++ [(Value.slice a5 n c5, xs.map (Value.int .i64), 3)]).set A.length (.slice none 0 0, [], 3)) := by rw [hw10]; exact HG9.out.below (below_drewN (Below.refl _ _) nr)
      have hB10 : Below w.heap.size w w10 := by rw [hw10]; exact below_drewN HB9.out nr
      have hr8 : Row w10 w8.heap.size 51 (sigc (.slice at8 m ct8) lo2 hi2 p2 q2) := by rw [hw10]; exact HR8'.out.drewN nr
      have hr9 : Row w10 w9.heap.size 51 (sigc (.slice av9 m cv9) lo2 hi2 p2 q2) := by rw [hw10]; exact HR9.out.drewN nr
      clear c0 c1 c2 c3 c4 e0 e1 e2 e3 e4 hw10
      obtain ⟨c0, c1, c2, c3, c4⟩ := sigc_row hr8
      obtain ⟨e0, e1, e2, e3, e4⟩ := sigc_row hr9
      have HG10 := Lib.hid hG10
      have HB10 := Lib.hid hB10
      have hz0 : ((A ++ [(Value.slice a5 n c5, xs.map (Value.int .i64), 3)]).set A.length (.slice none 0 0, [], 3))[0]? = some (.slice aw n cw, xs.map (Value.int .i64), 3) := by
        rw [List.getElem?_set, if_neg (by have := HT.out; omega)]; exact HAA0.out
      have hz1 : ((A ++ [(Value.slice a5 n c5, xs.map (Value.int .i64), 3)]).set A.length (.slice none 0 0, [], 3))[1]? = some (.slice (some ⟨w2.heap.size, 0, none⟩) 5 5, sigc (.slice aw n cw) lo hi p q, 51) := by
        rw [List.getElem?_set, if_neg (by have := HT.out; omega)]; exact HAA1.out
      have HZ0 := Lib.hid hz0
      have HZ1 := Lib.hid hz1
      clear hG10 hB10 hr8 hr9 hz0 hz1
      go_wp2
      go_roundw
      case rel =>
        have ht := HT.out
        have hxn := HN.out
        exact ⟨k + 1, _, _, _, hlt, by go_num, HG10.out, by omega, by omega, by omega, by rw [List.length_set, List.length_append]; simp; omega, HZ0.out, HZ1.out, HB10.out⟩
      case measure => simp [intOf]; omega
    · obtain rfl : k = 4 := by omega
      go_wp2_with fail
      refine (Led.done_good _ _ 0 tot kk A _ HG.out (by have := HT.out; omega) (by have := HT.out; omega)).mono ?_
      rintro e w9 ⟨rfl, hB9⟩
      go_wp2
      go_ret
      exact ⟨rfl, HB.out.trans (hB9.mono HHS.out)⟩


theorem own : ownKnob Try.prog.godebug = none := by kernel_rfl
set_option maxRecDepth 100000 in
theorem lifted (os : Os) (started : os.Started) (H : Type) (enc : TypeId × Value → H) :
    ReturnsInHanded {} Try.checked os 6 .any (Rows.helpSigsSpec.pre6 enc Try.prog Try.f6 Rows.helpSigsRow.domain false) (Rows.helpSigsSpec.post enc Try.prog Try.f6 false true false false) := by
  refine returnsInHanded_of_change (C := Try.checked) own started (by kernel_rfl) Try.func6
    (ChangeSpec.witness6 (enc := enc) (C := Try.checked) false ⟨#[], #[.int .i64 0], []⟩ 8 (by kernel_rfl) (by kernel_rfl) (by kernel_rfl) (by kernel_rfl)) ?_
  intro W base args ds gs before hval0 hW hcnd _
  have hval : ∀ (j : Nat) t v, Try.f6.params[j]? = some t → args[j]? = some v → Value.okWide Try.prog W .any base t v := hval0
  have hW' := hW
  obtain ⟨p, q, hA0, hV, rfl, hfz, hnd⟩ := hW
  have hA : DataW.TrodAll enc Try.prog W 0 (fun _ => true) true Try.f6.params.toList args.toList ds p := hA0
  rw [Try.params6] at hA hval
  obtain ⟨v0, vs0, d0, ds0, p0, q0, hargs, rfl, rfl, h0, r0⟩ := trodAll_cons hA
  obtain ⟨rfl, rfl, rfl⟩ := trodAll_nil r0
  obtain rfl : args = #[v0] := by cases args; simp_all
  obtain ⟨a0, rfl, rfl, rfl, w0⟩ := open_int Try.underlying3 (hval 0 3 v0 rfl rfl) h0
  refine (walk a0 (range_i64 w0) W).mono fun e W' ⟨he, hb⟩ => ?_
  subst he
  exact ⟨_, rfl, law_post (tb := 4) (by kernel_rfl) (by kernel_rfl) rfl Try.underlying4 rfl (fun h => by subst h; rfl) hW' hb⟩

theorem proved : Rows.HelpSigsSaid :=
  OpenClaim.holds_of_wide 6 Try.f6 rfl rfl rfl rfl rfl rfl rfl ⟨rfl, rfl, rfl, rfl, rfl⟩ rfl rfl rfl rfl rfl (by kernel_rfl) Try.func6 (by kernel_rfl)
    (of_decide_eq_true (by kernel_rfl)) (by unfold Func.isWrapper; first | (rw [if_pos (by decide +kernel)]; kernel_rfl) | (rw [if_neg (by decide +kernel)]; exact ⟨rfl, rfl⟩))
    (fun os started H enc _ => lifted os started H enc)
#print axioms proved

end Go.Proofs.Ytcjomhmpebhhlaa.helpSigs
