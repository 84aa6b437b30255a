/-
  Bytes: slices that read as lists of numbers from 0 to 255; SameBytes and CopyBytes.
-/
import Derived.Test.YtbkcpepalicbjaaGreatRows
import Derived.Test.YtbkcpepalicbjaaGreatBase
import Derived.Test.YtbkcpepalicbjaaGreatBits
import Derived.WalkSpells
import Derived.WalkLawsBesides
import Derived.Laws.BytesArg
import Derived.Laws.AppendOwnNone
import Derived.Lib.Hide
import Derived.OpenShut
import Derived.SizedLaws
namespace Go.Proofs.YtbkcpepalicbjaaGreat
open Go.RowKit Go.ChangeShapes Go.WideShapes
set_option linter.unusedVariables false

def IsBytes (xs : List Int) : Prop := ∀ x ∈ xs, 0 ≤ x ∧ x ≤ 255
theorem IsBytes.at {xs : List Int} (h : IsBytes xs) {i : Nat} (hi : i < xs.length) : 0 ≤ xs.getD i 0 ∧ xs.getD i 0 ≤ 255 := by
  have : xs.getD i 0 = xs[i] := by simp [List.getD, hi]
  rw [this]; exact h _ (List.getElem_mem hi)
theorem IsBytes.at' {xs : List Int} (h : IsBytes xs) (i : Nat) : 0 ≤ xs.getD i 0 ∧ xs.getD i 0 ≤ 255 := by
  by_cases hi : i < xs.length
  · exact h.at hi
  · simp [List.getD, List.getElem?_eq_none (show xs.length ≤ i by omega)]
theorem IsBytes.take {xs : List Int} (h : IsBytes xs) (k : Nat) : IsBytes (xs.take k) := fun x hx => h x (List.mem_of_mem_take hx)
theorem IsBytes.append {xs ys : List Int} (h : IsBytes xs) (h2 : IsBytes ys) : IsBytes (xs ++ ys) := fun x hx => by
  rcases List.mem_append.1 hx with hx | hx
  · exact h x hx
  · exact h2 x hx
theorem IsBytes.nil : IsBytes [] := fun x hx => by cases hx

/-- The slice value v reads as the bytes xs. -/
def Held (w : World) (v : Value) (xs : List Int) : Prop :=
  IsBytes xs ∧ ((xs = [] ∧ (v = .slice none 0 0 ∨ ∃ a cap, v = .slice (some a) 0 cap ∧ cap ≤ maxLen)) ∨
    (0 < xs.length ∧ ∃ b off cap, v = .slice (some ⟨b, off, none⟩) xs.length cap ∧ xs.length ≤ cap ∧ cap ≤ maxLen ∧ b < w.heap.size ∧
      ∀ i, i < xs.length → w.cell? ⟨b, off + i, none⟩ = some (.int .u8 (xs.getD i 0))))

theorem Held.bytes {w : World} {v : Value} {xs : List Int} (h : Held w v xs) : IsBytes xs := h.1
theorem Held.below {w w' : World} {v : Value} {xs : List Int} {B : Nat} (h : Held w v xs) (hb : Below B w w') (hB : w.heap.size ≤ B) : Held w' v xs := by
  obtain ⟨h0, h | ⟨hp, b, off, cap, rfl, hc, hm, hlt, hcell⟩⟩ := h
  · exact ⟨h0, Or.inl h⟩
  · exact ⟨h0, Or.inr ⟨hp, b, off, cap, rfl, hc, hm, Nat.lt_of_lt_of_le hlt hb.size, fun i hi => (hb.cell (p := ⟨b, off + i, none⟩) (show b < B by omega)).trans (hcell i hi)⟩⟩
theorem Held.drewN {w : World} {v : Value} {xs : List Int} (h : Held w v xs) (n : Nat) : Held (w.drewN n) v xs := h.below (below_drewN (Below.refl w.heap.size w) n) (Nat.le_refl _)

theorem held_of_own {w : World} {base n : Nat} {v : Value} {xs : List Int} (h : w.ownsRow base 5 1 v n (xs.map (Value.int .u8))) (hx : IsBytes xs) (hn : n = xs.length) : Held w v xs := by
  subst hn
  have h0 := h
  obtain ⟨hlen, h⟩ := h
  rcases h with ⟨rfl, h1⟩ | ⟨g, cap, cur, rfl, hb, hg, h1, h2, h3, h4⟩
  · exact ⟨hx, Or.inl ⟨List.length_eq_zero_iff.1 h1, Or.inl rfl⟩⟩
  · by_cases hp : 0 < xs.length
    · refine ⟨hx, Or.inr ⟨hp, g, 0, cap, rfl, h1, h2, lt_of_block hg, fun i hi => ?_⟩⟩
      rw [Nat.zero_add, h0.cellAt i (by omega)]
      simp [List.getD, hi]
    · have : xs = [] := List.length_eq_zero_iff.1 (by omega)
      subst this
      exact ⟨hx, Or.inl ⟨rfl, Or.inr ⟨_, cap, rfl, h2⟩⟩⟩

theorem held_nil (w : World) : Held w (.slice none 0 0) [] := ⟨IsBytes.nil, Or.inl ⟨rfl, Or.inl rfl⟩⟩
theorem held_row {w : World} {b cap : Nat} {xs : List Int} {e : TypeId} {cs : List Value} (hR : Row w b e cs) (hx : IsBytes xs) (h1 : xs.length ≤ cap) (h2 : cap ≤ maxLen) (hc : ∀ i, i < xs.length → cs[i]? = some (.int .u8 (xs.getD i 0))) :
    Held w (.slice (some ⟨b, 0, none⟩) xs.length cap) xs := by
  by_cases hp : 0 < xs.length
  · exact ⟨hx, Or.inr ⟨hp, b, 0, cap, rfl, h1, h2, hR.lt, fun i hi => by rw [Nat.zero_add, hR.cell i]; exact hc i hi⟩⟩
  · have : xs = [] := List.length_eq_zero_iff.1 (by omega)
    subst this
    exact ⟨hx, Or.inl ⟨rfl, Or.inr ⟨_, cap, rfl, h2⟩⟩⟩

/-- What `string(b)` makes of it. -/
theorem Held.str {w : World} {v : Value} {xs : List Int} (h : Held w v xs) : (convert 27 9 v).run Tryz.prog w = .ok (.string (strOfNums xs)) w := by
  obtain ⟨_, ⟨rfl, rfl | ⟨a, cap, rfl, _⟩⟩ | ⟨hp, b, off, cap, rfl, hc, hm, hlt, hcell⟩⟩ := h
  · exact run_convert_bytes_nil (P := Tryz.prog) w _ _ Tryz.underlying27 Tryz.underlying5 0 0 _ Tryz.underlying9
  · rw [run_convert_bytes_string w _ _ _ _ 0 cap Tryz.underlying27 Tryz.underlying5 Tryz.underlying9, run_bytesToString w a 0 cap [] (by simpa using run_loadCells_list (P := Tryz.prog) w a [] (fun j v hj => by cases hj))]
    rfl
  · exact run_convert_bytes_arg (P := Tryz.prog) w _ _ Tryz.underlying27 Tryz.underlying5 b off _ cap xs rfl hcell _ Tryz.underlying9

theorem u8_inj {x y : Int} (hx : 0 ≤ x ∧ x ≤ 255) (hy : 0 ≤ y ∧ y ≤ 255) (h : UInt8.ofNat x.toNat = UInt8.ofNat y.toNat) : x = y := by
  have := congrArg UInt8.toNat h
  simp only [UInt8.toNat_ofNat'] at this
  omega
theorem strOf_inj {xs ys : List Int} (hx : IsBytes xs) (hy : IsBytes ys) (h : xs.map (fun n => UInt8.ofNat n.toNat) = ys.map (fun n => UInt8.ofNat n.toNat)) : xs = ys := by
  induction xs generalizing ys with
  | nil => cases ys with
    | nil => rfl
    | cons y ys => simp at h
  | cons x xs ih => cases ys with
    | nil => simp at h
    | cons y ys =>
      simp only [List.map_cons, List.cons.injEq] at h
      rw [u8_inj (hx x (by simp)) (hy y (by simp)) h.1, ih (fun z hz => hx z (by simp [hz])) (fun z hz => hy z (by simp [hz])) h.2]

theorem str_beq {xs ys : List Int} (hx : IsBytes xs) (hy : IsBytes ys) : (xs.map (fun n => UInt8.ofNat n.toNat) == ys.map (fun n => UInt8.ofNat n.toNat)) = decide (xs = ys) := by
  by_cases h : xs = ys
  · subst h; simp
  · have : ¬ (xs.map (fun n => UInt8.ofNat n.toNat) = ys.map (fun n => UInt8.ofNat n.toNat)) := fun h2 => h (strOf_inj hx hy h2)
    simp [h, this]

theorem info_u8 : (Tryz.prog.info? 5).map (fun i => (i.zero, i.size, i.bytes)) = some (some (.int .u8 0), 1, 1) := by kernel_rfl

theorem bytes_news {w : World} {b off : Nat} {xs : List Int} (h : ∀ i, i < xs.length → w.cell? ⟨b, off + i, none⟩ = some (.int .u8 (xs.getD i 0))) :
    ∀ j u, (xs.map (Value.int .u8))[j]? = some u → w.cell? ((⟨b, off, none⟩ : Addr).add j) = some u := by
  intro j u hu
  have hj : j < xs.length := by
    rcases Nat.lt_or_ge j xs.length with h | h
    · exact h
    · simp [List.getElem?_eq_none (show (xs.map (Value.int .u8)).length ≤ j by simpa using h)] at hu
  have hplain : (⟨b, off, none⟩ : Addr).add j = ⟨b, off + j, none⟩ := by unfold Addr.add; split <;> simp_all
  rw [hplain, h j hj]
  simp [hj] at hu
  subst hu
  simp [List.getD, hj]
theorem bytes_one (xs : List Int) : ∀ u ∈ xs.map (Value.int .u8), u.oneCell' = true := by
  intro u hu
  obtain ⟨x, _, rfl⟩ := List.mem_map.1 hu
  rfl

theorem bytes_new_news (w : World) (xs : List Int) (e : TypeId) : ∀ (j : Nat) (u : Value), (xs.map (Value.int .u8))[j]? = some u → (w.alloc (.cells (xs.map (Value.int .u8)).toArray e)).cell? ((⟨w.heap.size, 0, none⟩ : Addr).add j) = some u := by
  intro j u hu
  have hplain : (⟨w.heap.size, 0, none⟩ : Addr).add j = ⟨w.heap.size, j, none⟩ := by unfold Addr.add; split <;> simp_all
  rw [hplain, (Row.made w (xs.map (Value.int .u8)) e).cell j, hu]
theorem cells_u8 : Tryz.prog.cellsOf 5 = 1 := by kernel_rfl
set_option maxRecDepth 100000 in
/-- An argument of type []byte. -/
theorem bytes_arg {H : Type} {enc : TypeId × Value → H} {W : World} {base : Nat} {v : Value} {d : DataW H} {p : List MemPlace}
    (hv : Value.okWide Tryz.prog W .any base 27 v) (h : DataW.Trod enc Tryz.prog W 0 (fun _ => true) true 27 v d p) :
    ∃ xs : List Int, Held W v xs ∧ (xs = [] ∨ ∃ spare, d = .slice (lits .u8 xs) (lits .u8 spare)) := by
  obtain ⟨a0, len, cap, rfl⟩ := okWide_slice Tryz.underlying27 hv
  obtain ⟨fuel, hf⟩ := h
  rcases open_ints Tryz.underlying27 Tryz.underlying5 cells_u8 hf with ⟨hcs, hx⟩ | ⟨a, len', cap', zs, hcs, _, hl, hm, hz, hx, hcell, hwz⟩
  · simp [Value.cells] at hcs
    exact ⟨[], by obtain ⟨rfl, rfl, rfl⟩ := hcs; exact held_nil W, Or.inl rfl⟩
  · simp [Value.cells] at hcs
    obtain ⟨rfl, rfl, rfl⟩ := hcs
    simp only [if_true] at hz
    have hb : IsBytes (zs.take len) := by
      intro x hx
      have := hwz x (List.mem_of_mem_take hx)
      simp [Lit.wf, IntKind.min, IntKind.max, IntKind.signed, IntKind.bits] at this
      omega
    have hlen : (zs.take len).length = len := by rw [List.length_take]; omega
    refine ⟨zs.take len, ⟨hb, ?_⟩, Or.inr ⟨zs.drop len, (Prod.mk.inj hx).1⟩⟩
    by_cases hp : 0 < len
    · right
      obtain ⟨b, off, rfl, hc⟩ := ints_at hcell (by omega)
      refine ⟨by omega, b, off, cap, by rw [hlen], by omega, hm, ?_, ?_⟩
      · exact World.block_lt_of_cell? W _ (hc 0 (by omega))
      · intro i hi
        rw [hc i (by omega)]
        rw [hlen] at hi
        simp [List.getD, hi]
    · left
      have : len = 0 := by omega
      subst this
      exact ⟨by simp, Or.inr ⟨a, cap, rfl, hm⟩⟩

set_option maxHeartbeats 400000 in
theorem same_of (v1 v2 : Value) (xs ys : List Int) (w : World) (h1 : Held w v1 xs) (h2 : Held w v2 ys) :
    Calls Tryz.prog 27 #[v1, v2] w fun e w' => e = .returned (.bool (decide (xs = ys))) ∧ w = w' := by
  have s1 := h1.str
  have s2 := h2.str
  have hb := str_beq h1.bytes h2.bytes
  have HB := Lib.hid hb
  clear hb
  go_enter Tryz.func27, Tryz.ntmps27
  go_wp2
  go_ret
  exact ⟨ret_bool (by rw [ByteArray.toList_eq, ByteArray.toList_eq]; exact HB.out), rfl⟩

theorem same_at (v1 v2 : Value) (xs : List Int) (w : World) (h1 : Held w v1 xs) (h2 : Held w v2 xs) :
    Calls Tryz.prog 27 #[v1, v2] w fun e w' => e = .returned (.bool true) ∧ w = w' :=
  (same_of v1 v2 xs xs w h1 h2).mono fun e w' ⟨he, hw⟩ => ⟨he.trans (ret_bool (by simp)), hw⟩

set_option maxHeartbeats 800000 in
theorem copy_of (v : Value) (xs : List Int) (w : World) (h : Held w v xs) (hl : xs.length ≤ 140737488355328) :
    Calls Tryz.prog 24 #[v] w fun e w' => ∃ v', e = .returned v' ∧ w'.ownsRow w.heap.size 5 1 v' xs.length (xs.map (Value.int .u8)) ∧ Below w.heap.size w w' := by
  obtain ⟨i0, hi, hz0, hz1, hz2⟩ := info_parts info_u8
  obtain ⟨hx, ⟨rfl, rfl | ⟨a, cap, rfl, hcap⟩⟩ | ⟨hp, b, off, cap, rfl, hc, hm, hlt, hcell⟩⟩ := h
  · go_enter Tryz.func24, Tryz.ntmps24
    go_wp2_with (at_builtin; refine wpList_append_own_none rfl (.const (.slice none 0 0)) (.tmp 3) 27 rfl w.heap.size 5 i0 1 Tryz.underlying27 hi (.slice none 0 0) 0 [] rfl (World.ownsRow_nil _ _ _ _) rfl ?_)
    go_ret
    exact ⟨_, rfl, World.ownsRow_nil _ _ _ _, Below.refl _ _⟩
  · go_enter Tryz.func24, Tryz.ntmps24
    go_wp2_with (at_builtin; refine wpList_append_own _ rfl (.const (.slice none 0 0)) (.tmp 3) 27 rfl w.heap.size 5 i0 (.int .u8 0) 1 1 Tryz.underlying27 hi hz0 hz1 hz2 rfl (by decide) (.slice none 0 0) 0 [] rfl (World.ownsRow_nil _ _ _ _) a 0 _ [] rfl rfl (fun j u hu => by cases hu) (fun u hu => by cases hu) (by unfold maxLen; omega) (by omega) (Nat.le_refl _) ?_; intro v1 w1 hown hgrow _)
    have hB := Below.grown (Below.refl _ _) hgrow (Nat.le_refl _) (fun k hk => by cases hk)
    go_wp2
    go_ret
    exact ⟨_, rfl, hown, hB⟩
  · have hn := bytes_news hcell
    have ho := bytes_one xs
    go_enter Tryz.func24, Tryz.ntmps24
    go_wp2_with (at_builtin; refine wpList_append_own _ rfl (.const (.slice none 0 0)) (.tmp 3) 27 rfl w.heap.size 5 i0 (.int .u8 0) 1 1 Tryz.underlying27 hi hz0 hz1 hz2 rfl (by decide) (.slice none 0 0) 0 [] rfl (World.ownsRow_nil _ _ _ _) ⟨b, off, none⟩ xs.length _ (xs.map (Value.int .u8)) rfl (by simp) hn ho (by unfold maxLen; omega) (by omega) (Nat.le_refl _) ?_; intro v1 w1 hown hgrow _)
    have hB := Below.grown (Below.refl _ _) hgrow (Nat.le_refl _) (fun k hk => by cases hk)
    rw [Nat.zero_add, List.nil_append] at hown
    go_wp2
    go_ret
    exact ⟨_, rfl, hown, hB⟩
end Go.Proofs.YtbkcpepalicbjaaGreat
