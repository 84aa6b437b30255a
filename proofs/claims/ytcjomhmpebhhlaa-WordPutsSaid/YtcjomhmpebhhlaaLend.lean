/-
  The lender of bytes: a new room, the bytes in it, marks behind them.
-/
import Derived.Test.YtcjomhmpebhhlaaUtab
import Derived.Laws.CopyOwn
import Derived.StillTailTactics
import Derived.Deep.QuietTactic
import Derived.BigQuiet
import Derived.Deep.RegionHeld3
import Derived.Outline
namespace Go.Proofs.Ytcjomhmpebhhlaa
open Go.RowKit
set_option linter.unusedVariables false

def mark (i : Nat) : Int := (151 + 7 * (i : Int)) % 256
theorem mark_range (i : Nat) : 0 ≤ mark i ∧ mark i ≤ 255 := by unfold mark; omega
theorem u8_mod (x : Int) : IntKind.u8.wrap x = x % 256 := by simp [IntKind.wrap, IntKind.bits, IntKind.signed]
theorem behind_of (i : Nat) (hi : i ≤ 1000000000) (w : World) : Calls Try.prog 46 #[.int .i64 i] w fun e w' => e = .returned (.int .u8 (mark i)) ∧ w = w' := by
  go_enter Try.func46, Try.ntmps46
  go_wp2
  go_ret
  exact ⟨ret_int (u8_mod _), rfl⟩
/-- What the room holds: the bytes, then i marks. -/
def lent (xs : List Int) (i t : Nat) : Int := if t < xs.length then xs.getD t 0 else if t < xs.length + i then mark (t - xs.length) else 0

theorem lent_range {xs : List Int} (h : IsBytes xs) (i t : Nat) : 0 ≤ lent xs i t ∧ lent xs i t ≤ 255 := by
  unfold lent
  split
  · exact h.at' t
  · split
    · exact mark_range _
    · omega
theorem lent_start (xs : List Int) (L : Nat) (hL : xs.length ≤ L) : splice (utab L fun _ => 0) 0 (xs.map (Value.int .u8)) = utab L (lent xs 0) := by
  unfold splice
  apply List.ext_getElem?
  intro t
  rw [List.take_zero, List.nil_append, Nat.zero_add, List.length_map]
  by_cases ht : t < xs.length
  · rw [List.getElem?_append_left (by simpa using ht), utab_get _ (by omega)]
    simp [lent, ht, List.getD]
  · rw [List.getElem?_append_right (by simpa using ht), List.getElem?_drop]
    by_cases h2 : t < L
    · rw [utab_get _ h2, List.length_map, show xs.length + (t - xs.length) = t by omega, utab_get _ h2]
      simp [lent, ht]
    · rw [List.length_map, show xs.length + (t - xs.length) = t by omega, List.getElem?_eq_none (by simp [utab]; omega), List.getElem?_eq_none (by simp [utab]; omega)]
theorem lent_step {wr : World} {xs : List Int} {L i b : Nat} {e : TypeId} (hR : Row wr b e (utab L (lent xs i))) : Row (wr.setCell ⟨b, xs.length + i, none⟩ (.int .u8 (mark i))) b e (utab L (lent xs (i + 1))) := by
  have h := hR.put (xs.length + i) (.int .u8 (mark i))
  rw [utab_set] at h
  rwa [utab_congr (h := lent xs (i + 1))] at h
  intro t _
  unfold lent
  by_cases h1 : t = xs.length + i
  · subst h1
    rw [if_pos rfl, if_neg (by omega), if_pos (by omega), Nat.add_sub_cancel_left]
  · rw [if_neg h1]
    by_cases h2 : t < xs.length
    · rw [if_pos h2, if_pos h2]
    · rw [if_neg h2, if_neg h2]
      by_cases h3 : t < xs.length + i
      · rw [if_pos h3, if_pos (by omega)]
      · rw [if_neg h3, if_neg (by omega)]
/-- What Lend leaves: a new room. -/
def Lent (w : World) (hb : Nat) (xs : List Int) (e : Ending) (w' : World) : Prop :=
  e = .returned (.slice (some ⟨w.heap.size, 0, none⟩) xs.length (4 * xs.length + 200)) ∧
  Row w' hb 34 [.slice (some ⟨w.heap.size, 0, none⟩) (4 * xs.length + 200) (4 * xs.length + 200)] ∧
  Row w' w.heap.size 5 (utab (4 * xs.length + 200) (lent xs (xs.length + 70))) ∧
  (∀ q, q < w.heap.size → q ≠ hb → w'.heap[q]? = w.heap[q]?) ∧ Below hb w w'

set_option maxRecDepth 100000 in
set_option maxHeartbeats 1600000 in
theorem lend_new (hb : Nat) (bv : Value) (xs : List Int) (hl : xs.length ≤ 1048576) (w : World) (hX : Held w bv xs) (hR : Row w hb 34 [.slice none 0 0]) :
    Calls Try.prog 15 #[.pointer (some ⟨hb, 0, none⟩), bv] w (Lent w hb xs) := by
  have hx := hX.bytes
  have hsl : ∃ a cap, bv = .slice a xs.length cap ∧ (0 < xs.length → ∃ b off, a = some ⟨b, off, none⟩ ∧ b < w.heap.size ∧ ∀ i, i < xs.length → w.cell? ⟨b, off + i, none⟩ = some (.int .u8 (xs.getD i 0))) := by
    obtain ⟨_, ⟨rfl, rfl | ⟨a, cap, rfl, _⟩⟩ | ⟨_, b, off, cap, rfl, _, _, hlt, hcell⟩⟩ := hX
    · exact ⟨_, _, rfl, fun h => by simp at h⟩
    · exact ⟨_, _, rfl, fun h => by simp at h⟩
    · exact ⟨_, _, rfl, fun h => ⟨b, off, rfl, hlt, hcell⟩⟩
  obtain ⟨a, cap, rfl, hc⟩ := hsl
  obtain ⟨k, hk⟩ : ∃ k, k = xs.length := ⟨_, rfl⟩
  rw [← hk] at hl hc
  show Calls _ _ #[_, .slice a xs.length cap] _ _
  rw [← hk]
  have HK := Lib.hid hk
  have HX := Lib.hid hx
  have HC := Lib.hid hc
  clear hk hx hc hX
  have hmk : ∀ w : World, (Instr.makeSlice 27 (.int .i64 (4 * (k : Int) + 200)) (.int .i64 (4 * (k : Int) + 200))).run Try.prog w =
      .ok (.slice (some ⟨w.heap.size, 0, none⟩) (4 * k + 200) (4 * k + 200)) (w.alloc (.cells (utab (4 * k + 200) (fun _ => 0)).toArray 5)) := fun w => by
    have h := make_bytes (4 * k + 200) (by omega) w
    have e : (((4 * k + 200 : Nat)) : Int) = 4 * (k : Int) + 200 := by omega
    rwa [e] at h
  have hlt := hR.lt
  have q0 := hR.cell 0
  simp only [List.getElem?_cons_zero] at q0
  have hRa := hR.alloc (.cells (utab (4 * k + 200) (fun _ => 0)).toArray 5)
  have q1 := hRa.cell 0
  have f1 := hRa.free 0
  simp only [List.getElem?_cons_zero] at q1
  have hU := Row.made w (utab (4 * k + 200) (fun _ => 0)) 5
  obtain ⟨Z, hZ⟩ : ∃ Z, Z = utab (4 * k + 200) (fun _ => 0) := ⟨_, rfl⟩
  rw [← hZ] at hU hRa q1 f1
  obtain ⟨W0, hW0⟩ : ∃ W0, W0 = (w.setCell ⟨hb, 0, none⟩ (.slice (some ⟨w.heap.size, 0, none⟩) (4 * k + 200) (4 * k + 200))).alloc (.cells Z.toArray 5) := ⟨_, rfl⟩
  have hne : w.heap.size ≠ hb := by omega
  have hG : W0.heap[w.heap.size]? = some (.cells Z.toArray 5 (0, 0)) := by
    have := Row.made (w.setCell ⟨hb, 0, none⟩ (.slice (some ⟨w.heap.size, 0, none⟩) (4 * k + 200) (4 * k + 200))) Z 5
    rw [hW0]
    simpa [Row] using this
  have hH0 : Row W0 hb 34 [.slice (some ⟨w.heap.size, 0, none⟩) (4 * k + 200) (4 * k + 200)] := by rw [hW0]; exact (hR.put 0 _).alloc _
  have hO : ∀ q, q < w.heap.size → q ≠ hb → W0.heap[q]? = w.heap[q]? := fun q hq hqb => by
    rw [hW0, Below.heap_alloc _ _ _ (by simpa using hq), Below.heap_setCell _ _ _ _ hqb]
  have hBh : Below hb w W0 := by rw [hW0]; exact ((Below.refl hb w).setCell (Nat.le_refl _) _).alloc (by simp; omega) _
  have hZl : Z.length = 4 * k + 200 := by rw [hZ]; simp [utab]
  have hcs : (xs.map (Value.int .u8)).length = k := by simp [HK.out]
  have hn1 : (xs.map (Value.int .u8)).length = Nat.min k (4 * k + 200) := by rw [hcs]; exact (Nat.min_eq_left (by omega)).symm
  have hfit : 0 + (xs.map (Value.int .u8)).length ≤ Z.length := by rw [hcs, hZl]; omega
  have hpos : 0 < (xs.map (Value.int .u8)).length → (some ⟨w.heap.size, 0, none⟩ : Option Addr) = some ⟨w.heap.size, 0, none⟩ ∧ ∃ ad, a = some ad ∧ ∀ j v, (xs.map (Value.int .u8))[j]? = some v → W0.cell? (ad.add j) = some v := by
    intro hp
    rw [hcs] at hp
    obtain ⟨b, off, ha, hb1, hcell⟩ := HC.out hp
    have hbh : b ≠ hb := by
      rintro rfl
      have h1 := hcell 0 hp
      rw [hR.cell] at h1
      cases off <;> simp at h1
    refine ⟨rfl, _, ha, fun j v hv => ?_⟩
    have hj := bytes_news (w := W0) (b := b) (off := off) (xs := xs) (fun i hi => by
      rw [← hcell i (by rw [HK.out]; exact hi)]
      exact World.cell?_of_block (hO b hb1 hbh)) j v hv
    exact hj
  have hon := bytes_one xs
  have hsz : (Try.prog.info? 5).map (·.size) = some 1 := by kernel_rfl
  have HR := Lib.hid hR
  have HU := Lib.hid hU
  have HG := Lib.hid hG
  have HH0 := Lib.hid hH0
  have HO := Lib.hid hO
  have HBH := Lib.hid hBh
  have HN1 := Lib.hid hn1
  have HFIT := Lib.hid hfit
  have HPOS := Lib.hid hpos
  have HZ := Lib.hid hZ
  have HZL := Lib.hid hZl
  have HCS := Lib.hid hcs
  rw [← hZ] at hmk
  subst hW0
  clear hR hRa hU hG hH0 hO hBh hn1 hfit hpos hZ hZl hcs
  go_enter Try.func15, Try.ntmps15
  go_wp2_with (((with_reducible refine wpList_copy_splice (o := ⟨some 30, _, _, _, _, _⟩) rfl (.tmp 28) (.tmp 29) 27 27 rfl 5 Try.underlying27 hsz (some ⟨w.heap.size, 0, none⟩) a (4 * k + 200) (4 * k + 200) k cap ?_ ?_ w.heap.size 0 Z 5 HG.out (xs.map (Value.int .u8)) HN1.out HPOS.out HFIT.out hon w.heap.size _ (Below.refl _ _) (Nat.le_refl _) ?_); rfl; rfl; intro w2 hg2 hB2))
  have hRb : Row w2 w.heap.size 5 (utab (4 * k + 200) (lent xs 0)) := by
    have h := hg2.out
    rw [HZ.out, lent_start xs _ (by have := HK.out; omega)] at h
    exact h
  have hH2 := HH0.out.below hB2 hlt
  have hO2 : ∀ q, q < w.heap.size → q ≠ hb → w2.heap[q]? = w.heap[q]? := fun q hq hqb => by rw [hB2.block q hq]; exact HO.out q hq hqb
  have hBh2 := HBH.out.trans (hB2.mono (Nat.le_of_lt hlt))
  have HRB := Lib.hid hRb
  have HH2 := Lib.hid hH2
  have HO2 := Lib.hid hO2
  have HBH2 := Lib.hid hBh2
  clear hg2 hB2 hRb hH2 hO2 hBh2 q0 q1 f1 hmk hon hsz
  go_wp2
  go_loopw [6] (fun s wr => ∃ i : Nat, i ≤ k + 70 ∧ s = .int .i64 i ∧ Row wr w.heap.size 5 (utab (4 * k + 200) (lent xs i)) ∧ Below w.heap.size w2 wr) (fun s _ => k + 70 - (intOf s).toNat)
  case atStart => exact ⟨0, Nat.zero_le _, rfl, HRB.out, Below.refl _ _⟩
  case round =>
    obtain ⟨i, hi, rfl, hR, hB⟩ := hrel
    have hH := HH2.out.below hB hlt
    have q0 := hH.cell 0
    simp only [List.getElem?_cons_zero] at q0
    by_cases hlt2 : i < k + 70
    · have q1 := (hR.cell (k + i)).trans (utab_get _ (by omega))
      have f1 := hR.free (k + i)
      obtain ⟨z, hz⟩ : ∃ z, z = lent xs i (k + i) := ⟨_, rfl⟩
      rw [← hz] at q1
      have HR := Lib.hid hR
      have HB := Lib.hid hB
      have hL1 : (k : Int) + i < 4 * k + 200 := by omega
      clear hR hB hH hz
      go_wp2
      have hbe := behind_of i (by omega) wr.drew
      have hw2 : (0 : Int) ≤ (k : Int) + i := by omega
      have hw3 : ((k : Int) + i).toNat = k + i := by omega
      have hw1 : IntKind.i64.wrap ((k : Int) + i) = (k : Int) + i := IntWalk.i64_in _ (by omega)
      go_still_tail 10, (by kernel_rfl)
      still_call (hbe.mono fun e w'' ⟨h1, h2⟩ => ⟨h1, h2.symm⟩)
      repeat still_step
      refine wpStill_nil ?_
      change wpList _ _ _ _ _ wr.drew
      have q2 : wr.drew.cell? ⟨w.heap.size, k + i, none⟩ = some (.int .u8 z) := q1
      have f2 : wr.drew.frozen? ⟨w.heap.size, k + i, none⟩ = false := f1
      generalize hwd : wr.drew = wd at q2 f2
      have HWD := Lib.hid hwd
      clear hwd hw1 hw2 hw3 hbe
      go_wp2
      go_roundw
      case rel =>
        refine ⟨i + 1, hlt2, by go_num, ?_, ?_⟩
        · have hw : Row wd w.heap.size 5 (utab (4 * k + 200) (lent xs i)) := HWD.out ▸ HR.out.drew
          have := lent_step hw
          rwa [← HK.out] at this
        · have hb' : Below w.heap.size w2 wd := HWD.out ▸ HB.out.drew
          exact hb'.setCell (Nat.le_refl _) _
      case measure => simp [intOf]; omega
    · obtain rfl : i = k + 70 := by omega
      go_wp2
      go_ret
      have e := HK.out
      refine ⟨by rw [← e]; rfl, by rw [← e]; exact hH, by rw [← e]; exact hR, fun q hq hqb => ?_, HBH2.out.trans (hB.mono (Nat.le_of_lt hlt))⟩
      rw [hB.block q hq]; exact HO2.out q hq hqb

/-- A list that a function says. -/
def flist (k : Nat) (g : Nat → Int) : List Int := (List.range k).map g
theorem flist_length (k : Nat) (g : Nat → Int) : (flist k g).length = k := by simp [flist]
theorem flist_at {k i : Nat} (g : Nat → Int) (h : i < k) : (flist k g).getD i 0 = g i := by simp [flist, List.getD, h]
theorem flist_bytes (k : Nat) (g : Nat → Int) (h : ∀ t, 0 ≤ g t ∧ g t ≤ 255) : IsBytes (flist k g) := fun x hx => by
  obtain ⟨i, _, rfl⟩ := List.mem_map.1 hx
  exact h i
theorem held_flist {w : World} {b L k : Nat} {g : Nat → Int} {e : TypeId} (hR : Row w b e (utab L g)) (hg : ∀ t, 0 ≤ g t ∧ g t ≤ 255) (hk : k ≤ L) (hL : L ≤ maxLen) : Held w (.slice (some ⟨b, 0, none⟩) k L) (flist k g) := by
  have := held_row (xs := flist k g) (cap := L) hR (flist_bytes k g hg) (by rw [flist_length]; exact hk) hL (fun i hi => by
    rw [flist_length] at hi
    rw [utab_get _ (by omega), flist_at g hi])
  rwa [flist_length] at this
theorem flist_lent (xs : List Int) (i : Nat) : flist xs.length (lent xs i) = xs := by
  apply List.ext_getElem?
  intro t
  by_cases ht : t < xs.length
  · simp [flist, lent, ht, List.getD]
  · rw [List.getElem?_eq_none (by rw [flist_length]; omega), List.getElem?_eq_none (by omega)]
/-- What the room holds when i bytes have been turned back. -/
def given (xs : List Int) (i t : Nat) : Int := if t < i ∧ t < xs.length then bits .xor .u8 (xs.getD t 0) 90 else lent xs (xs.length + 70) t
theorem xor_u8 (x : Int) (h : 0 ≤ x ∧ x ≤ 255) : 0 ≤ bits .xor .u8 x 90 ∧ bits .xor .u8 x 90 ≤ 255 := by
  have e : bits .xor .u8 x 90 = IntKind.u8.wrap ((BitVec.ofInt 8 x ^^^ BitVec.ofInt 8 90).toNat : Int) := rfl
  rw [e, u8_mod]; omega
theorem given_range {xs : List Int} (h : IsBytes xs) (i t : Nat) : 0 ≤ given xs i t ∧ given xs i t ≤ 255 := by
  unfold given
  split
  · exact xor_u8 _ (h.at' t)
  · exact lent_range h _ t
theorem given_start (xs : List Int) (L : Nat) : utab L (given xs 0) = utab L (lent xs (xs.length + 70)) := utab_congr fun t _ => by
  unfold given; rw [if_neg (by omega)]
theorem given_step {wr : World} {xs : List Int} {L i b : Nat} {e : TypeId} (hi : i < xs.length) (hR : Row wr b e (utab L (given xs i))) : Row (wr.setCell ⟨b, i, none⟩ (.int .u8 (bits .xor .u8 (xs.getD i 0) 90))) b e (utab L (given xs (i + 1))) := by
  have h := hR.put i (.int .u8 (bits .xor .u8 (xs.getD i 0) 90))
  rw [utab_set] at h
  rwa [utab_congr (h := given xs (i + 1))] at h
  intro t _
  unfold given
  by_cases h1 : t = i
  · subst h1
    rw [if_pos rfl, if_pos ⟨by omega, hi⟩]
  · rw [if_neg h1]
    by_cases h2 : t < i ∧ t < xs.length
    · rw [if_pos h2, if_pos ⟨by omega, h2.2⟩]
    · rw [if_neg h2, if_neg (by omega)]

set_option maxRecDepth 100000 in
set_option maxHeartbeats 3200000 in
theorem back_of (hb rb L : Nat) (bv : Value) (xs : List Int) (hl : xs.length ≤ 1048576) (hL : 2 * xs.length + 70 ≤ L) (hLm : L ≤ 1000000000) (hne : rb ≠ hb) (w : World) (hX : Held w bv xs)
    (hR : Row w hb 34 [.slice (some ⟨rb, 0, none⟩) L L]) (hU : Row w rb 5 (utab L (lent xs (xs.length + 70)))) :
    Calls Try.prog 18 #[.pointer (some ⟨hb, 0, none⟩), bv] w fun e w' => e = .returned (.bool true) ∧ Row w' hb 34 [.slice (some ⟨rb, 0, none⟩) L L] ∧
      Row w' rb 5 (utab L (given xs xs.length)) ∧ (∀ q, q ≠ rb → w'.heap[q]? = w.heap[q]?) ∧ (∀ B, B ≤ rb → Below B w w') := by
  have hx := hX.bytes
  have hsl : ∃ a cap, bv = .slice a xs.length cap := by
    obtain ⟨_, ⟨rfl, rfl | ⟨a, cap, rfl, _⟩⟩ | ⟨_, b, off, cap, rfl, _⟩⟩ := hX
    · exact ⟨_, _, rfl⟩
    · exact ⟨_, _, rfl⟩
    · exact ⟨_, _, rfl⟩
  obtain ⟨a, cap, rfl⟩ := hsl
  have hin := held_flist (k := xs.length) hU (lent_range hx _) (by omega) (by unfold maxLen; omega)
  rw [flist_lent] at hin
  obtain ⟨k, hk⟩ : ∃ k, k = xs.length := ⟨_, rfl⟩
  rw [← hk] at hl hL hX hin hU ⊢
  have HK := Lib.hid hk
  have HX := Lib.hid hx
  have HH := Lib.hid hX
  have HIN := Lib.hid hin
  have HR := Lib.hid hR
  have HU := Lib.hid hU
  have q0 := hR.cell 0
  simp only [List.getElem?_cons_zero] at q0
  clear hk hx hX hin hR hU
  go_enter Try.func18, Try.ntmps18
  go_wp2_with fail
  refine (same_at _ _ _ _ HIN.out HH.out).mono ?_
  rintro e w1 ⟨rfl, rfl⟩
  go_wp2
  go_loopw [6, 7] (fun o s wr => ∃ i : Nat, i ≤ k + 70 ∧ o = .bool true ∧ s = .int .i64 i ∧ Row wr hb 34 [.slice (some ⟨rb, 0, none⟩) L L] ∧ Row wr rb 5 (utab L (lent xs (k + 70))) ∧ (∀ q, q ≠ rb → wr.heap[q]? = w.heap[q]?) ∧ (∀ B, B ≤ rb → Below B w wr)) (fun _ s _ => k + 70 - (intOf s).toNat)
  case atStart => exact ⟨0, Nat.zero_le _, rfl, rfl, HR.out, HU.out, fun _ _ => rfl, fun B _ => Below.refl B w⟩
  case round =>
    clear q0
    obtain ⟨i, hi, rfl, rfl, hR, hU, hO, hB⟩ := hrel
    have q0 := hR.cell 0
    simp only [List.getElem?_cons_zero] at q0
    by_cases hlt : i < k + 70
    · have q1 := (hU.cell (k + i)).trans (utab_get _ (by omega))
      have hm : lent xs (k + 70) (k + i) = mark i := by
        unfold lent
        rw [← HK.out, if_neg (by omega), if_pos (by omega), Nat.add_sub_cancel_left]
      rw [hm] at q1
      obtain ⟨m, hm2⟩ : ∃ m, m = mark i := ⟨_, rfl⟩
      have hbe := fun w => behind_of i (by omega) w
      rw [← hm2] at q1 hbe
      have hmm : (m == m) = true := by simp
      have HR1 := Lib.hid hR
      have HU1 := Lib.hid hU
      have HO1 := Lib.hid hO
      have HB1 := Lib.hid hB
      have HBE := Lib.hid hbe
      clear hR hU hO hB hm hm2 hbe
      go_wp2
      have hw2 : (0 : Int) ≤ (k : Int) + i := by omega
      have hw3 : ((k : Int) + i).toNat = k + i := by omega
      have hw4 : (k : Int) + i < L := by omega
      have hw1 : IntKind.i64.wrap ((k : Int) + i) = (k : Int) + i := IntWalk.i64_in _ (by omega)
      go_quiet ((go_at_call 46; exact Calls.quiet_of_same ((HBE.out _).mono fun e w' ⟨h1, h2⟩ => ⟨h1, h2.symm⟩)))
      clear hw1 hw2 hw3 hw4
      go_wp2
      go_roundw
      case rel => exact ⟨i + 1, hlt, rfl, by go_num, HR1.out.drewN _, HU1.out.drewN _, HO1.out, fun B h => below_drewN (HB1.out B h) _⟩
      case measure => simp [intOf]; omega
    · have HIK := Lib.hid (show i = k + 70 by omega)
      go_wp2
      clear hlt
      go_loopw [8] (fun s wr => ∃ i : Nat, i ≤ k ∧ s = .int .i64 i ∧ Row wr hb 34 [.slice (some ⟨rb, 0, none⟩) L L] ∧ Row wr rb 5 (utab L (given xs i)) ∧ (∀ q, q ≠ rb → wr.heap[q]? = w.heap[q]?) ∧ (∀ B, B ≤ rb → Below B w wr)) (fun s _ => k - (intOf s).toNat)
      case atStart => exact ⟨0, Nat.zero_le _, rfl, hR, by rw [given_start, ← HK.out]; exact hU, hO, hB⟩
      case round =>
        clear q0 hR hU hO hB
        obtain ⟨j, hj, rfl, hR, hU, hO, hB⟩ := hrel
        have q0 := hR.cell 0
        simp only [List.getElem?_cons_zero] at q0
        by_cases hlt2 : j < k
        · have q1 := (hU.cell j).trans (utab_get _ (by omega))
          have f1 := hU.free j
          have hx1 := HX.out.at' j
          have hg : given xs j j = xs.getD j 0 := by
            unfold given lent
            rw [if_neg (by omega), if_pos (by have := HK.out; omega)]
          rw [hg] at q1
          obtain ⟨x, hx⟩ : ∃ x, x = xs.getD j 0 := ⟨_, rfl⟩
          rw [← hx] at q1 hx1
          have HXX := Lib.hid hx
          have HR1 := Lib.hid hR
          have HU1 := Lib.hid hU
          have HO1 := Lib.hid hO
          have HB1 := Lib.hid hB
          clear hR hU hO hB hg hx
          have hw4 : (j : Int) < L := by omega
          have hw2 : (0 : Int) ≤ (j : Int) := by omega
          go_wp2
          go_still_tail 14, (by kernel_rfl)
          change wpList _ _ _ _ _ wr.drew
          have q2 : wr.drew.cell? ⟨rb, j, none⟩ = some (.int .u8 x) := q1
          have f2 : wr.drew.frozen? ⟨rb, j, none⟩ = false := f1
          generalize hwd : wr.drew = wd at q2 f2
          have HWD := Lib.hid hwd
          clear hwd
          go_wp2
          go_roundw
          case rel =>
            have hwr : Row wd rb 5 (utab L (given xs j)) := HWD.out ▸ HU1.out.drew
            have hst := given_step (by rw [← HK.out]; exact hlt2) hwr
            rw [← HXX.out] at hst
            refine ⟨j + 1, hlt2, by go_num, ?_, hst, ?_, ?_⟩
            · have : Row wd hb 34 [.slice (some ⟨rb, 0, none⟩) L L] := HWD.out ▸ HR1.out.drew
              exact this.other _ _ (Ne.symm hne)
            · intro q hq
              rw [Below.heap_setCell _ _ _ _ hq]
              have : wd.heap = wr.heap := by rw [← HWD.out]; rfl
              rw [this]; exact HO1.out q hq
            · intro B h
              have : Below B w wd := HWD.out ▸ (HB1.out B h).drew
              exact this.setCell h _
          case measure => simp [intOf]; omega
        · obtain rfl : j = k := by omega
          go_wp2
          go_ret
          exact ⟨rfl, hR, by first | exact hU | (rw [← HK.out]; exact hU), hO, hB⟩
end Go.Proofs.Ytcjomhmpebhhlaa
