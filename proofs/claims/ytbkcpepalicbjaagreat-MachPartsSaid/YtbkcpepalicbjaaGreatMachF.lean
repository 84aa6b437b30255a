/-
  Lists of instructions: package code's Check.
-/
import Derived.Test.YtbkcpepalicbjaaGreatMachE
import Derived.WalkSpells
import Derived.WalkLawsBesides
import Derived.Laws.AppendOwnNone
import Derived.Laws.OwnMore
import Derived.SizedLaws
namespace Go.Proofs.YtbkcpepalicbjaaGreat
open Go.RowKit
set_option linter.unusedVariables false

/-- An instruction. -/
structure Ins where
  op : Int
  nar : Bool
  reg : Bool
  size : Int
  dst : Int
  src : Int
  off : Int
  imm : Int
def Ins.cs (i : Ins) : List Value := insc i.op i.nar i.reg i.size i.dst i.src i.off i.imm
def Ins.right (i : Ins) : Int := rightc (formedv i.op i.nar i.reg i.size) (usesD i.op) (usesS i.op i.reg) (usesO i.op i.nar) (usesI i.op i.nar i.reg) (immFitsv i.op i.nar i.imm) (isRegv i.dst (writesDstv i.op)) (isRegv i.src (writesSrcv i.op i.imm)) i.dst i.src i.off i.imm

/-- The slice value v, of n elements of so many cells each, reads as these cells. -/
def Reads (w : World) (size : Nat) (v : Value) (n : Nat) (cs : List Value) : Prop :=
  cs.length = n * size ∧ (∀ u ∈ cs, u.oneCell' = true) ∧ ((n = 0 ∧ ∃ a cap, v = .slice a 0 cap ∧ cap ≤ maxLen) ∨ (0 < n ∧ ∃ b off cap, v = .slice (some ⟨b, off, none⟩) n cap ∧ b < w.heap.size ∧ cap ≤ maxLen ∧ n ≤ cap ∧ ∀ j u, cs[j]? = some u → w.cell? ⟨b, off + j, none⟩ = some u))
theorem Reads.below {w w' : World} {size : Nat} {v : Value} {n : Nat} {cs : List Value} {B : Nat} (h : Reads w size v n cs) (hb : Below B w w') (hB : w.heap.size ≤ B) : Reads w' size v n cs := by
  obtain ⟨hl, h1, h | ⟨hp, b, off, cap, rfl, hlt, hm, hc, hcell⟩⟩ := h
  · exact ⟨hl, h1, Or.inl h⟩
  · exact ⟨hl, h1, Or.inr ⟨hp, b, off, cap, rfl, Nat.lt_of_lt_of_le hlt hb.size, hm, hc, fun j u hj => (hb.cell (p := ⟨b, off + j, none⟩) (show b < B by omega)).trans (hcell j u hj)⟩⟩
theorem reads_own {w : World} {base size n : Nat} {e : TypeId} {v : Value} {cs : List Value} (h : w.ownsRow base e size v n cs) (h1 : ∀ u ∈ cs, u.oneCell' = true) (hs : 0 < size) : Reads w size v n cs := by
  have h0 := h
  obtain ⟨hl, ⟨rfl, rfl⟩ | ⟨g, cap, cur, rfl, hb, hg, hc, hm, hz, ht⟩⟩ := h
  · exact ⟨hl, h1, Or.inl ⟨rfl, _, _, rfl, Nat.zero_le _⟩⟩
  · by_cases hn : n = 0
    · subst hn
      exact ⟨hl, h1, Or.inl ⟨rfl, _, _, rfl, hm⟩⟩
    · refine ⟨hl, h1, Or.inr ⟨by omega, g, 0, cap, rfl, lt_of_block hg, hm, hc, fun j u hj => ?_⟩⟩
      have hjl : j < n * size := by
        by_cases hh : j < cs.length
        · omega
        · rw [List.getElem?_eq_none (by omega)] at hj; cases hj
      rw [Nat.zero_add, h0.cellAt j hjl]
      exact hj

theorem Ins.cs_len (i : Ins) : i.cs.length = 8 := rfl
theorem Ins.cs_one (i : Ins) : ∀ u ∈ i.cs, u.oneCell' = true := by
  intro u hu
  simp only [Ins.cs, insc, List.mem_cons, List.not_mem_nil, or_false] at hu
  rcases hu with rfl | rfl | rfl | rfl | rfl | rfl | rfl | rfl <;> rfl
/-- Instructions, as cells. -/
def codec (l : List Ins) : List Value := l.flatMap Ins.cs
theorem codec_len (l : List Ins) : (codec l).length = l.length * 8 := by
  induction l with
  | nil => rfl
  | cons x l ih => unfold codec at ih ⊢; rw [List.flatMap_cons, List.length_append, ih, Ins.cs_len, List.length_cons]; omega
theorem codec_one (l : List Ins) : ∀ u ∈ codec l, u.oneCell' = true := by
  intro u hu
  obtain ⟨x, _, hx⟩ := List.mem_flatMap.1 hu
  exact x.cs_one u hx
theorem codec_get (l : List Ins) : ∀ i (h : i < l.length) j, j < 8 → (codec l)[i * 8 + j]? = (l[i].cs)[j]? := by
  induction l with
  | nil => intro i h; cases h
  | cons x l ih =>
    intro i h j hj
    have hc : codec (x :: l) = x.cs ++ codec l := by unfold codec; rw [List.flatMap_cons]
    rw [hc]
    cases i with
    | zero => rw [List.getElem?_append_left (by rw [Ins.cs_len]; omega), Nat.zero_mul, Nat.zero_add]; rfl
    | succ i =>
      rw [List.getElem?_append_right (by rw [Ins.cs_len]; omega), Ins.cs_len, show (i + 1) * 8 + j - 8 = i * 8 + j by omega]
      exact ih i (by simpa using h) j hj

/-- The slice value v reads as the instructions l. -/
def Coded (w : World) (v : Value) (l : List Ins) : Prop := Reads w 8 v l.length (codec l)
theorem Coded.below {w w' : World} {v : Value} {l : List Ins} {B : Nat} (h : Coded w v l) (hb : Below B w w') (hB : w.heap.size ≤ B) : Coded w' v l := Reads.below h hb hB
/-- What a walk over it needs. -/
theorem Coded.open {w : World} {v : Value} {l : List Ins} (h : Coded w v l) : ∃ a cap, v = .slice a l.length cap ∧ ∀ i (h : i < l.length), ∃ b off, a = some ⟨b, off, none⟩ ∧ b < w.heap.size ∧
    ∀ j, j < 8 → w.cell? ⟨b, off + i * 8 + j, none⟩ = (l[i].cs)[j]? := by
  obtain ⟨hl, h1, ⟨hz, a, cap, rfl, hm⟩ | ⟨hp, b, off, cap, rfl, hlt, hm, hc, hcell⟩⟩ := h
  · exact ⟨a, cap, by rw [hz], fun i hi => absurd hi (by omega)⟩
  · refine ⟨_, cap, rfl, fun i hi => ⟨b, off, rfl, hlt, fun j hj => ?_⟩⟩
    have hg := codec_get l i hi j hj
    have hjl : j < (l[i].cs).length := by rw [Ins.cs_len]; exact hj
    rw [List.getElem?_eq_getElem hjl] at hg ⊢
    have := hcell _ _ hg
    rw [← Nat.add_assoc] at this
    exact this

/-- Is all of a program's code right? -/
def AllRight (l : List Ins) : Prop := l.length ≤ 4096 ∧ ∀ i (h : i < l.length), l[i].right = 0

set_option maxRecDepth 100000 in
set_option maxHeartbeats 3200000 in
theorem check_of (v : Value) (l : List Ins) (hl : l.length ≤ 4611686018427387903) (w : World) (h : Coded w v l) :
    Calls Tryz.prog 131 #[v] w fun e w' => ∃ at' er, e = .returned (.tuple #[.int .i64 at', .int .i64 er]) ∧ (er = 0 ↔ AllRight l) ∧ Below w.heap.size w w' := by
  obtain ⟨a, cap, rfl, hc⟩ := h.open
  obtain ⟨n, hn⟩ : ∃ n, n = l.length := ⟨_, rfl⟩
  rw [← hn] at hl ⊢
  have HC := Lib.hid hc
  have HN := Lib.hid hn
  clear hc hn h
  go_enter Tryz.func131, Tryz.ntmps131
  go_wp2
  go_loopw [9] (fun s wr => ∃ i : Nat, i ≤ n ∧ s = .int .i64 i ∧ Below w.heap.size w wr ∧ i ≤ 4096 ∧ ∀ k (h : k < l.length), k < i → l[k].right = 0) (fun s _ => n - (intOf s).toNat)
  case atStart => exact ⟨0, Nat.zero_le _, rfl, Below.refl _ _, by decide, fun k _ hk => absurd hk (by omega)⟩
  case round =>
    obtain ⟨i, hi, rfl, hB, hi4, hr⟩ := hrel
    have HB := Lib.hid hB
    have HR := Lib.hid hr
    clear hB hr
    by_cases hlt : i < n
    · obtain ⟨b, off, rfl, hb, hcell⟩ := HC.out i (by rw [← HN.out]; exact hlt)
      obtain ⟨x, hx⟩ : ∃ x, x = l[i]'(by rw [← HN.out]; exact hlt) := ⟨_, rfl⟩
      rw [← hx] at hcell
      have hcw : ∀ j, j < 8 → wr.cell? ⟨b, off + i * 8 + j, none⟩ = (x.cs)[j]? := fun j hj => (HB.out.cell (p := ⟨b, off + i * 8 + j, none⟩) hb).trans (hcell j hj)
      have e0 := hcw 0 (by decide)
      have e1 := hcw 1 (by decide)
      have e2 := hcw 2 (by decide)
      have e3 := hcw 3 (by decide)
      have e4 := hcw 4 (by decide)
      have e5 := hcw 5 (by decide)
      have e6 := hcw 6 (by decide)
      have e7 := hcw 7 (by decide)
      obtain ⟨op, nar, reg, size, dst, src, of, imm⟩ := x
      simp only [Ins.cs, insc, List.getElem?_cons_zero, List.getElem?_cons_succ, Nat.add_zero] at e0 e1 e2 e3 e4 e5 e6 e7
      have HX := Lib.hid hx
      clear hcell hcw hx
      have hj1 : (0 : Int) ≤ (i : Int) := by omega
      have hj3 : (i : Int) < n := by omega
      by_cases h4 : i = 4096
      · have h5 : ((i : Int) == 4096) = true := by simp [h4]
        have H4 := Lib.hid h4
        clear h4
        have HB2 := Lib.hid (HB.out.alloc HB.out.size (.cells #[.int .i64 op, .bool nar, .bool reg, .int .i64 size, .int .i64 dst, .int .i64 src, .int .i64 of, .int .i64 imm] 23))
        go_wp2
        exact bodyPost_ret (v := .tuple #[.int .i64 i, .int .i64 25]) (by simp [results, Tryz.results131, go_sem]) rfl ⟨_, _, rfl, ⟨fun h => absurd h (by decide), fun h => absurd h.1 (by have := HN.out; have := H4.out; omega)⟩, HB2.out⟩
      · have h5 : ((i : Int) == 4096) = false := by simp; omega
        have H4 := Lib.hid h4
        clear h4
        have HB2 := Lib.hid (HB.out.alloc HB.out.size (.cells #[.int .i64 op, .bool nar, .bool reg, .int .i64 size, .int .i64 dst, .int .i64 src, .int .i64 of, .int .i64 imm] 23))
        have hri := fun w => right_of op nar reg size dst src of imm w
        have hxr : (l[i]'(by rw [← HN.out]; exact hlt)).right = rightc (formedv op nar reg size) (usesD op) (usesS op reg) (usesO op nar) (usesI op nar reg) (immFitsv op nar imm) (isRegv dst (writesDstv op)) (isRegv src (writesSrcv op imm)) dst src of imm := by rw [← HX.out]; rfl
        obtain ⟨R, hR⟩ : ∃ R, rightc (formedv op nar reg size) (usesD op) (usesS op reg) (usesO op nar) (usesI op nar reg) (immFitsv op nar imm) (isRegv dst (writesDstv op)) (isRegv src (writesSrcv op imm)) dst src of imm = R := ⟨_, rfl⟩
        rw [hR] at hri hxr
        have HRI := Lib.hid hri
        have HXR := Lib.hid hxr
        clear hri hxr hR
        go_wp2_with fail
        refine (HRI.out _).mono ?_
        rintro e w2 ⟨rfl, hB⟩
        have HB3 := Lib.hid (HB2.out.trans (hB.mono HB2.out.size))
        clear hB e0 e1 e2 e3 e4 e5 e6 e7
        by_cases hz : R = 0
        · have h6 : (R != 0) = false := by simp [hz]
          have HZ := Lib.hid hz
          clear hz
          go_wp2
          go_roundw
          case rel =>
            exact ⟨i + 1, hlt, by go_num, HB3.out, by have := H4.out; have := HB3.out; omega, fun k hk hki => by
              by_cases hke : k = i
              · subst hke
                rw [HXR.out, HZ.out]
              · exact HR.out k hk (by omega)⟩
          case measure => simp [intOf]; omega
        · have h6 : (R != 0) = true := by simp [hz]
          have HZ := Lib.hid hz
          clear hz
          go_wp2
          exact bodyPost_ret (v := .tuple #[.int .i64 i, .int .i64 R]) (by simp [results, Tryz.results131, go_sem]) rfl ⟨_, _, rfl, ⟨fun h => absurd h HZ.out, fun h => by
            have := h.2 i (by rw [← HN.out]; exact hlt)
            rw [HXR.out] at this
            exact this⟩, HB3.out⟩
    · obtain rfl : i = n := by omega
      go_wp2
      exact bodyPost_ret (v := .tuple #[.int .i64 0, .int .i64 0]) (by simp [results, Tryz.results131, go_sem]) rfl ⟨_, _, rfl, ⟨fun _ => ⟨by rw [← HN.out]; exact hi4, fun k hk => HR.out k hk (by rw [HN.out]; exact hk)⟩, fun _ => rfl⟩, HB.out⟩
end Go.Proofs.YtbkcpepalicbjaaGreat
