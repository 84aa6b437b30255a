/-
  Parts of slices of bytes.
-/
import Derived.Test.YtcjomhmpebhhlaaBytes
namespace Go.Proofs.Ytcjomhmpebhhlaa
open Go.RowKit
set_option linter.unusedVariables false

/-- Bytes that are an argument: the slice, its beginnings, its cells. -/
theorem Held.open {w : World} {v : Value} {xs : List Int} (h : Held w v xs) : ∃ a cap, v = .slice a xs.length cap ∧ xs.length ≤ cap ∧ cap ≤ maxLen ∧ (∀ k, k ≤ xs.length → Held w (.slice a k cap) (xs.take k)) ∧
    (xs.length = 0 ∧ (a = none ∧ cap = 0 ∨ ∃ a', a = some a') ∨ ∃ b off, a = some ⟨b, off, none⟩ ∧ b < w.heap.size ∧ ∀ i, i < xs.length → w.cell? ⟨b, off + i, none⟩ = some (.int .u8 (xs.getD i 0))) := by
  have hx := h.bytes
  obtain ⟨_, ⟨rfl, rfl | ⟨a, cap, rfl, hcm⟩⟩ | ⟨hp, b, off, cap, rfl, hcap, hcm, hlt, hcell⟩⟩ := h
  · exact ⟨_, _, rfl, Nat.le_refl _, by decide, fun k hk => by obtain rfl : k = 0 := by simpa using hk
                                                               exact held_nil w, Or.inl ⟨rfl, Or.inl ⟨rfl, rfl⟩⟩⟩
  · exact ⟨_, _, rfl, Nat.zero_le _, hcm, fun k hk => by obtain rfl : k = 0 := by simpa using hk
                                                         exact ⟨IsBytes.nil, Or.inl ⟨rfl, Or.inr ⟨_, _, rfl, hcm⟩⟩⟩, Or.inl ⟨rfl, Or.inr ⟨_, rfl⟩⟩⟩
  · refine ⟨_, _, rfl, hcap, hcm, fun k hk => ⟨hx.take k, ?_⟩, Or.inr ⟨b, off, rfl, hlt, hcell⟩⟩
    have hkl : (xs.take k).length = k := by rw [List.length_take]; omega
    by_cases hk0 : 0 < k
    · refine Or.inr ⟨by omega, b, off, cap, by rw [hkl], by omega, hcm, hlt, fun i hi => ?_⟩
      rw [hkl] at hi
      rw [hcell i (by omega)]
      simp [List.getD, hi]
    · obtain rfl : k = 0 := by omega
      exact Or.inl ⟨by simp, Or.inr ⟨_, _, rfl, hcm⟩⟩
/-- A part of a slice. -/
theorem held_part {w : World} {b off n cap : Nat} {xs : List Int} (hx : IsBytes xs) (hn : n = xs.length) (hcap : n ≤ cap) (hcm : cap ≤ maxLen) (hlt : b < w.heap.size) (hcell : ∀ i, i < n → w.cell? ⟨b, off + i, none⟩ = some (.int .u8 (xs.getD i 0)))
    (i k : Nat) (hik : i + k ≤ n) : Held w (.slice (some ⟨b, off + i, none⟩) k (cap - i)) ((xs.drop i).take k) := by
  have hb : IsBytes ((xs.drop i).take k) := fun x hx' => hx x (List.mem_of_mem_drop (List.mem_of_mem_take hx'))
  have hl : ((xs.drop i).take k).length = k := by rw [List.length_take, List.length_drop]; omega
  refine ⟨hb, ?_⟩
  by_cases hk : 0 < k
  · refine Or.inr ⟨by omega, b, off + i, cap - i, by rw [hl], by omega, by omega, hlt, fun j hj => ?_⟩
    rw [hl] at hj
    rw [Nat.add_assoc, hcell (i + j) (by omega)]
    simp [List.getD, hj]
  · obtain rfl : k = 0 := by omega
    exact Or.inl ⟨by simp, Or.inr ⟨_, _, rfl, by omega⟩⟩
theorem slice_lh (a : Option Addr) (len cap l h : Nat) (h1 : l ≤ h) (h2 : h ≤ cap) (w : World) :
    (Instr.slice 27 (.slice a len cap) (some (.int .i64 l)) (some (.int .i64 h)) none).run Try.prog w = .ok (.slice (if cap = l then a else a.map (·.add (l * 1))) (h - l) (cap - l)) w := by
  have hs : (sizeOf (Try.prog.elem 27)).run Try.prog w = .ok 1 w := by kernel_rfl
  rw [run_slice_lh w 27 a len cap (by kernel_rfl) .i64 .i64 l h (by omega) (by omega) (by omega), hs]
  rfl
end Go.Proofs.Ytcjomhmpebhhlaa
