/-
  Bytes: slices that read as lists of numbers from 0 to 255; SameBytes and CopyBytes.
-/
import Derived.Test.YtaaidjphacofgaaGreatDoorRows
import Derived.Test.YtaaidjphacofgaaGreatDoorBase
import Derived.Test.YtaaidjphacofgaaGreatDoorBits
import Derived.WalkSpells
import Derived.WalkLawsBesides
import Derived.Laws.BytesArg
import Derived.Laws.AppendOwnNone
import Derived.Lib.Hide
import Derived.OpenShut
import Derived.SizedLaws
namespace Go.Proofs.YtaaidjphacofgaaGreatDoor
open Go.RowKit Go.ChangeShapes Go.WideShapes
set_option linter.unusedVariables false

def IsBytes (xs : List Int) : Prop := ∀ x ∈ xs, 0 ≤ x ∧ x ≤ 255
theorem IsBytes.at {xs : List Int} (h : IsBytes xs) {i : Nat} (hi : i < xs.length) : 0 ≤ xs.getD i 0 ∧ xs.getD i 0 ≤ 255 := by
  have : xs.getD i 0 = xs[i] := by simp [List.getD, hi]
  rw [this]; exact h _ (List.getElem_mem hi)
theorem IsBytes.at' {xs : List Int} (h : IsBytes xs) (i : Nat) : 0 ≤ xs.getD i 0 ∧ xs.getD i 0 ≤ 255 := by
  by_cases hi : i < xs.length
  · exact h.at hi
  · simp [List.getD, List.getElem?_eq_none (show xs.length ≤ i by omega)]
theorem IsBytes.take {xs : List Int} (h : IsBytes xs) (k : Nat) : IsBytes (xs.take k) := fun x hx => h x (List.mem_of_mem_take hx)
theorem IsBytes.append {xs ys : List Int} (h : IsBytes xs) (h2 : IsBytes ys) : IsBytes (xs ++ ys) := fun x hx => by
  rcases List.mem_append.1 hx with hx | hx
  · exact h x hx
  · exact h2 x hx
theorem IsBytes.nil : IsBytes [] := fun x hx => by cases hx

/-- The slice value v reads as the bytes xs. -/
def Held (w : World) (v : Value) (xs : List Int) : Prop :=
  IsBytes xs ∧ ((xs = [] ∧ (v = .slice none 0 0 ∨ ∃ a cap, v = .slice (some a) 0 cap ∧ cap ≤ maxLen)) ∨
    (0 < xs.length ∧ ∃ b off cap, v = .slice (some ⟨b, off, none⟩) xs.length cap ∧ xs.length ≤ cap ∧ cap ≤ maxLen ∧ b < w.heap.size ∧
      ∀ i, i < xs.length → w.cell? ⟨b, off + i, none⟩ = some (.int .u8 (xs.getD i 0))))

theorem Held.bytes {w : World} {v : Value} {xs : List Int} (h : Held w v xs) : IsBytes xs := h.1
theorem Held.below {w w' : World} {v : Value} {xs : List Int} {B : Nat} (h : Held w v xs) (hb : Below B w w') (hB : w.heap.size ≤ B) : Held w' v xs := by
  obtain ⟨h0, h | ⟨hp, b, off, cap, rfl, hc, hm, hlt, hcell⟩⟩ := h
  · exact ⟨h0, Or.inl h⟩
  · exact ⟨h0, Or.inr ⟨hp, b, off, cap, rfl, hc, hm, Nat.lt_of_lt_of_le hlt hb.size, fun i hi => (hb.cell (p := ⟨b, off + i, none⟩) (show b < B by omega)).trans (hcell i hi)⟩⟩
theorem Held.drewN {w : World} {v : Value} {xs : List Int} (h : Held w v xs) (n : Nat) : Held (w.drewN n) v xs := h.below (below_drewN (Below.refl w.heap.size w) n) (Nat.le_refl _)

theorem held_of_own {w : World} {base n : Nat} {v : Value} {xs : List Int} (h : w.ownsRow base 5 1 v n (xs.map (Value.int .u8))) (hx : IsBytes xs) (hn : n = xs.length) : Held w v xs := by
  subst hn
  have h0 := h
  obtain ⟨hlen, h⟩ := h
  rcases h with ⟨rfl, h1⟩ | ⟨g, cap, cur, rfl, hb, hg, h1, h2, h3, h4⟩
  · exact ⟨hx, Or.inl ⟨List.length_eq_zero_iff.1 h1, Or.inl rfl⟩⟩
  · by_cases hp : 0 < xs.length
    · refine ⟨hx, Or.inr ⟨hp, g, 0, cap, rfl, h1, h2, lt_of_block hg, fun i hi => ?_⟩⟩
      rw [Nat.zero_add, h0.cellAt i (by omega)]
      simp [List.getD, hi]
    · have : xs = [] := List.length_eq_zero_iff.1 (by omega)
      subst this
      exact ⟨hx, Or.inl ⟨rfl, Or.inr ⟨_, cap, rfl, h2⟩⟩⟩

theorem held_nil (w : World) : Held w (.slice none 0 0) [] := ⟨IsBytes.nil, Or.inl ⟨rfl, Or.inl rfl⟩⟩
theorem held_row {w : World} {b cap : Nat} {xs : List Int} {e : TypeId} {cs : List Value} (hR : Row w b e cs) (hx : IsBytes xs) (h1 : xs.length ≤ cap) (h2 : cap ≤ maxLen) (hc : ∀ i, i < xs.length → cs[i]? = some (.int .u8 (xs.getD i 0))) :
    Held w (.slice (some ⟨b, 0, none⟩) xs.length cap) xs := by
  by_cases hp : 0 < xs.length
  · exact ⟨hx, Or.inr ⟨hp, b, 0, cap, rfl, h1, h2, hR.lt, fun i hi => by rw [Nat.zero_add, hR.cell i]; exact hc i hi⟩⟩
  · have : xs = [] := List.length_eq_zero_iff.1 (by omega)
    subst this
    exact ⟨hx, Or.inl ⟨rfl, Or.inr ⟨_, cap, rfl, h2⟩⟩⟩

/-- What `string(b)` makes of it. -/
theorem Held.str {w : World} {v : Value} {xs : List Int} (h : Held w v xs) : (convert 201 9 v).run Tryz.prog w = .ok (.string (strOfNums xs)) w := by
  obtain ⟨_, ⟨rfl, rfl | ⟨a, cap, rfl, _⟩⟩ | ⟨hp, b, off, cap, rfl, hc, hm, hlt, hcell⟩⟩ := h
  · exact run_convert_bytes_nil (P := Tryz.prog) w _ _ Tryz.underlying201 Tryz.underlying5 0 0 _ Tryz.underlying9
  · rw [run_convert_bytes_string w _ _ _ _ 0 cap Tryz.underlying201 Tryz.underlying5 Tryz.underlying9, run_bytesToString w a 0 cap [] (by simpa using run_loadCells_list (P := Tryz.prog) w a [] (fun j v hj => by cases hj))]
    rfl
  · exact run_convert_bytes_arg (P := Tryz.prog) w _ _ Tryz.underlying201 Tryz.underlying5 b off _ cap xs rfl hcell _ Tryz.underlying9

theorem u8_inj {x y : Int} (hx : 0 ≤ x ∧ x ≤ 255) (hy : 0 ≤ y ∧ y ≤ 255) (h : UInt8.ofNat x.toNat = UInt8.ofNat y.toNat) : x = y := by
  have := congrArg UInt8.toNat h
  simp only [UInt8.toNat_ofNat'] at this
  omega
theorem strOf_inj {xs ys : List Int} (hx : IsBytes xs) (hy : IsBytes ys) (h : xs.map (fun n => UInt8.ofNat n.toNat) = ys.map (fun n => UInt8.ofNat n.toNat)) : xs = ys := by
  induction xs generalizing ys with
  | nil => cases ys with
    | nil => rfl
    | cons y ys => simp at h
  | cons x xs ih => cases ys with
    | nil => simp at h
    | cons y ys =>
      simp only [List.map_cons, List.cons.injEq] at h
      rw [u8_inj (hx x (by simp)) (hy y (by simp)) h.1, ih (fun z hz => hx z (by simp [hz])) (fun z hz => hy z (by simp [hz])) h.2]

theorem str_beq {xs ys : List Int} (hx : IsBytes xs) (hy : IsBytes ys) : (xs.map (fun n => UInt8.ofNat n.toNat) == ys.map (fun n => UInt8.ofNat n.toNat)) = decide (xs = ys) := by
  by_cases h : xs = ys
  · subst h; simp
  · have : ¬ (xs.map (fun n => UInt8.ofNat n.toNat) = ys.map (fun n => UInt8.ofNat n.toNat)) := fun h2 => h (strOf_inj hx hy h2)
    simp [h, this]

theorem info_u8 : (Tryz.prog.info? 5).map (fun i => (i.zero, i.size, i.bytes)) = some (some (.int .u8 0), 1, 1) := by kernel_rfl

theorem bytes_news {w : World} {b off : Nat} {xs : List Int} (h : ∀ i, i < xs.length → w.cell? ⟨b, off + i, none⟩ = some (.int .u8 (xs.getD i 0))) :
    ∀ j u, (xs.map (Value.int .u8))[j]? = some u → w.cell? ((⟨b, off, none⟩ : Addr).add j) = some u := by
  intro j u hu
  have hj : j < xs.length := by
    rcases Nat.lt_or_ge j xs.length with h | h
    · exact h
    · simp [List.getElem?_eq_none (show (xs.map (Value.int .u8)).length ≤ j by simpa using h)] at hu
  have hplain : (⟨b, off, none⟩ : Addr).add j = ⟨b, off + j, none⟩ := by unfold Addr.add; split <;> simp_all
  rw [hplain, h j hj]
  simp [hj] at hu
  subst hu
  simp [List.getD, hj]
theorem bytes_one (xs : List Int) : ∀ u ∈ xs.map (Value.int .u8), u.oneCell' = true := by
  intro u hu
  obtain ⟨x, _, rfl⟩ := List.mem_map.1 hu
  rfl

theorem bytes_new_news (w : World) (xs : List Int) (e : TypeId) : ∀ (j : Nat) (u : Value), (xs.map (Value.int .u8))[j]? = some u → (w.alloc (.cells (xs.map (Value.int .u8)).toArray e)).cell? ((⟨w.heap.size, 0, none⟩ : Addr).add j) = some u := by
  intro j u hu
  have hplain : (⟨w.heap.size, 0, none⟩ : Addr).add j = ⟨w.heap.size, j, none⟩ := by unfold Addr.add; split <;> simp_all
  rw [hplain, (Row.made w (xs.map (Value.int .u8)) e).cell j, hu]
theorem cells_u8 : Tryz.prog.cellsOf 5 = 1 := by kernel_rfl
set_option maxRecDepth 100000 in
/-- An argument of type []byte. -/
theorem bytes_arg {H : Type} {enc : TypeId × Value → H} {W : World} {base : Nat} {v : Value} {d : DataW H} {p : List MemPlace}
    (hv : Value.okWide Tryz.prog W .any base 201 v) (h : DataW.Trod enc Tryz.prog W 0 (fun _ => true) true 201 v d p) :
    ∃ xs : List Int, Held W v xs ∧ (xs = [] ∨ ∃ spare, d = .slice (lits .u8 xs) (lits .u8 spare)) := by
  obtain ⟨a0, len, cap, rfl⟩ := okWide_slice Tryz.underlying201 hv
  obtain ⟨fuel, hf⟩ := h
  rcases open_ints Tryz.underlying201 Tryz.underlying5 cells_u8 hf with ⟨hcs, hx⟩ | ⟨a, len', cap', zs, hcs, _, hl, hm, hz, hx, hcell, hwz⟩
  · simp [Value.cells] at hcs
    exact ⟨[], by obtain ⟨rfl, rfl, rfl⟩ := hcs; exact held_nil W, Or.inl rfl⟩
  · simp [Value.cells] at hcs
    obtain ⟨rfl, rfl, rfl⟩ := hcs
    simp only [if_true] at hz
    have hb : IsBytes (zs.take len) := by
      intro x hx
      have := hwz x (List.mem_of_mem_take hx)
      simp [Lit.wf, IntKind.min, IntKind.max, IntKind.signed, IntKind.bits] at this
      omega
    have hlen : (zs.take len).length = len := by rw [List.length_take]; omega
    refine ⟨zs.take len, ⟨hb, ?_⟩, Or.inr ⟨zs.drop len, (Prod.mk.inj hx).1⟩⟩
    by_cases hp : 0 < len
    · right
      obtain ⟨b, off, rfl, hc⟩ := ints_at hcell (by omega)
      refine ⟨by omega, b, off, cap, by rw [hlen], by omega, hm, ?_, ?_⟩
      · exact World.block_lt_of_cell? W _ (hc 0 (by omega))
      · intro i hi
        rw [hc i (by omega)]
        rw [hlen] at hi
        simp [List.getD, hi]
    · left
      have : len = 0 := by omega
      subst this
      exact ⟨by simp, Or.inr ⟨a, cap, rfl, hm⟩⟩

end Go.Proofs.YtaaidjphacofgaaGreatDoor
