/-
  Rows of the call's own by role, of any size; package mach's copies.
-/
import Derived.Test.YtbkcpepalicbjaaGreatMachJ
import Derived.Test.YtbkcpepalicbjaaGreatRoles
namespace Go.Proofs.YtbkcpepalicbjaaGreat
open Go.RowKit
set_option linter.unusedVariables false
set_option linter.unusedSimpArgs false

/-- The slice v owns the cells xs, n elements, in a block of the role r. -/
def OwnS (w : World) (base : Nat) (ρ : Nat → Nat) (r : Nat) (e : TypeId) (size : Nat) (v : Value) (n : Nat) (xs : List Value) : Prop :=
  w.ownsRow base e size v n xs ∧ ∀ b, v.ownBlock = some b → ρ b = r
theorem ownsRow_stayS {w w' : World} {base size : Nat} {e : TypeId} {v : Value} {n : Nat} {xs : List Value} (h : w.ownsRow base e size v n xs) (hk : ∀ b, v.ownBlock = some b → w'.heap[b]? = w.heap[b]?) : w'.ownsRow base e size v n xs := by
  obtain ⟨hl, hz | ⟨g, cap, cur, rfl, hb, hg, rest⟩⟩ := h
  · exact ⟨hl, Or.inl hz⟩
  · exact ⟨hl, Or.inr ⟨g, cap, cur, rfl, hb, by rw [hk g rfl]; exact hg, rest⟩⟩
theorem OwnS.move {w w' : World} {base size n : Nat} {ρ ρ' : Nat → Nat} {r r' : Nat} {e : TypeId} {v : Value} {xs : List Value} (h : OwnS w base ρ r e size v n xs)
    (hf : ∀ q, q < w.heap.size → ρ q = r → w'.heap[q]? = w.heap[q]? ∧ ρ' q = r') : OwnS w' base ρ' r' e size v n xs := by
  have hlt := h.1.lt
  exact ⟨ownsRow_stayS h.1 fun b hb => (hf b (hlt b hb).2 (h.2 b hb)).1, fun b hb => (hf b (hlt b hb).2 (h.2 b hb)).2⟩
theorem OwnS.below {w w' : World} {base size n : Nat} {ρ : Nat → Nat} {r : Nat} {e : TypeId} {v : Value} {xs : List Value} (h : OwnS w base ρ r e size v n xs) (hb : Below w.heap.size w w') : OwnS w' base ρ r e size v n xs :=
  h.move fun q hq hr => ⟨hb.block q hq, hr⟩
/-- New blocks take a role. -/
def newRole (ρ : Nat → Nat) (s r : Nat) : Nat → Nat := fun b => if s ≤ b then r else ρ b
theorem OwnS.role {w w' : World} {base size n : Nat} {ρ : Nat → Nat} {r : Nat} {e : TypeId} {v : Value} {xs : List Value} (h : OwnS w base ρ r e size v n xs) (hb : Below w.heap.size w w') (r' : Nat) : OwnS w' base (newRole ρ w.heap.size r') r e size v n xs :=
  h.move fun q hq hr => ⟨hb.block q hq, by unfold newRole; rw [if_neg (by omega)]; exact hr⟩
theorem own_new {w w' : World} {base size n : Nat} {e : TypeId} {v : Value} {xs : List Value} (h : w'.ownsRow w.heap.size e size v n xs) (hB : base ≤ w.heap.size) (ρ : Nat → Nat) (r : Nat) : OwnS w' base (newRole ρ w.heap.size r) r e size v n xs :=
  ⟨by
    obtain ⟨hl, hz | ⟨g, cap, cur, hv, hb, rest⟩⟩ := h
    · exact ⟨hl, Or.inl hz⟩
    · exact ⟨hl, Or.inr ⟨g, cap, cur, hv, Nat.le_trans hB hb, rest⟩⟩, fun b hb => by unfold newRole; rw [if_pos (h.lt b hb).1]⟩

/-- Bytes, as cells. -/
def u8s (xs : List Int) : List Value := xs.map (Value.int .u8)
theorem u8s_one (xs : List Int) : ∀ u ∈ u8s xs, u.oneCell' = true := by
  intro u hu
  obtain ⟨x, _, rfl⟩ := List.mem_map.1 hu
  rfl
theorem reads_held {w : World} {v : Value} {xs : List Int} (h : Held w v xs) : Reads w 1 v xs.length (u8s xs) := by
  refine ⟨by simp [u8s], u8s_one xs, ?_⟩
  obtain ⟨_, ⟨rfl, rfl | ⟨a, cap, rfl, hc⟩⟩ | ⟨hp, b, off, cap, rfl, hc, hm, hlt, hcell⟩⟩ := h
  · exact Or.inl ⟨rfl, _, _, rfl, by decide⟩
  · exact Or.inl ⟨rfl, _, _, rfl, hc⟩
  · refine Or.inr ⟨hp, b, off, cap, rfl, hlt, hm, hc, fun j u hj => ?_⟩
    have hjl : j < xs.length := by
      by_cases hh : j < xs.length
      · exact hh
      · rw [List.getElem?_eq_none (by simp [u8s]; omega)] at hj; cases hj
    rw [hcell j hjl]
    simp [u8s, hjl] at hj
    simp [List.getD, hjl, hj]

/-- Copies, so far. -/
structure CopS (w wr : World) (ρ ρ' : Nat → Nat) (r i : Nat) (s3 : Value) (vals' : List Value) (rows : List (List Int)) : Prop where
  bel : Below w.heap.size w wr
  role : ∀ b, b < w.heap.size → ρ' b = ρ b
  list : OwnS wr w.heap.size ρ' r 27 1 s3 i vals'
  item : ∀ k (h : k < rows.length), k < i → ∃ u, vals'[k]? = some u ∧ OwnS wr w.heap.size ρ' (r + 1 + k) 5 1 u rows[k].length (u8s rows[k])
theorem CopS.begin (w : World) (ρ : Nat → Nat) (r : Nat) (rows : List (List Int)) : CopS w w ρ ρ r 0 (.slice none 0 0) [] rows :=
  ⟨Below.refl _ _, fun _ _ => rfl, ⟨World.ownsRow_nil _ _ _ _, fun b hb => by cases hb⟩, fun k _ hk => absurd hk (by omega)⟩
theorem CopS.clone {w wr w1 : World} {ρ ρ' : Nat → Nat} {r i : Nat} {s3 : Value} {vals' : List Value} {rows : List (List Int)} (h : CopS w wr ρ ρ' r i s3 vals' rows) (hB : Below wr.heap.size wr w1) :
    CopS w w1 ρ (newRole ρ' wr.heap.size (r + 1 + i)) r i s3 vals' rows :=
  ⟨h.bel.trans (hB.mono h.bel.size), fun b hb => by unfold newRole; rw [if_neg (by have := h.bel.size; omega)]; exact h.role b hb, h.list.role hB _, fun k hk hki => by
    obtain ⟨u, hu, ho⟩ := h.item k hk hki
    exact ⟨u, hu, ho.role hB _⟩⟩
theorem CopS.alloc {w wr : World} {ρ ρ' : Nat → Nat} {r i : Nat} {s3 : Value} {vals' : List Value} {rows : List (List Int)} (h : CopS w wr ρ ρ' r i s3 vals' rows) (o : Obj) : CopS w (wr.alloc o) ρ ρ' r i s3 vals' rows :=
  have hB := (Below.refl wr.heap.size wr).alloc (Nat.le_refl _) o
  ⟨h.bel.trans (hB.mono h.bel.size), h.role, h.list.below hB, fun k hk hki => by
    obtain ⟨u, hu, ho⟩ := h.item k hk hki
    exact ⟨u, hu, ho.below hB⟩⟩
theorem CopS.append {w wr w2 : World} {ρ ρ' : Nat → Nat} {r i : Nat} {s3 v1 : Value} {vals' : List Value} {rows : List (List Int)} (h : CopS w wr ρ ρ' r i s3 vals' rows) (hi : i < rows.length)
    (h1 : OwnS wr w.heap.size ρ' (r + 1 + i) 5 1 v1 rows[i].length (u8s rows[i])) {g cap : Nat}
    (hown : w2.ownsRow w.heap.size 27 1 (.slice (some ⟨g, 0, none⟩) (i + 1) cap) (i + 1) (vals' ++ [v1])) (hgrow : wr.grownBy w2 s3.ownBlock) (hnew : s3.ownBlock = some g ∨ g = wr.heap.size) :
    CopS w w2 ρ (fun b => if b = g then r else ρ' b) r (i + 1) (.slice (some ⟨g, 0, none⟩) (i + 1) cap) (vals' ++ [v1]) rows := by
  have hl := h.list.1.1
  have hstay : ∀ {k : Nat} {u : Value} {n : Nat} {xs : List Value}, OwnS wr w.heap.size ρ' (r + 1 + k) 5 1 u n xs → OwnS w2 w.heap.size (fun b => if b = g then r else ρ' b) (r + 1 + k) 5 1 u n xs := by
    intro k u n xs ho
    refine ho.move fun q hq hr => ?_
    have hne : s3.ownBlock ≠ some q := fun hc => by
      have := h.list.2 q hc
      omega
    refine ⟨hgrow.block q hq (Ne.symm hne), ?_⟩
    show (if q = g then r else ρ' q) = _
    rw [if_neg fun hc => ?_]
    · exact hr
    · subst hc
      rcases hnew with hn | hn
      · exact hne hn
      · omega
  refine ⟨Below.grown h.bel hgrow h.bel.size fun b hb => (h.list.1.lt b hb).1, fun b hb => ?_, ⟨hown, fun b hb => by cases hb; exact if_pos rfl⟩, fun k hk hki => ?_⟩
  · show (if b = g then r else ρ' b) = _
    have : b ≠ g := by
      have := (hown.lt g rfl).1
      omega
    rw [if_neg this]
    exact h.role b hb
  · by_cases hke : k = i
    · subst hke
      exact ⟨v1, by rw [List.getElem?_append_right (by omega), show k - vals'.length = 0 by omega]; rfl, hstay h1⟩
    · obtain ⟨u, hu, ho⟩ := h.item k hk (by omega)
      exact ⟨u, by rw [List.getElem?_append_left (by omega)]; exact hu, hstay ho⟩

theorem info_sb : (Tryz.prog.info? 27).map (fun i => (i.zero, i.size, i.bytes)) = some (some (.slice none 0 0), 1, 24) := by kernel_rfl

set_option maxRecDepth 100000 in
set_option maxHeartbeats 6400000 in
theorem copies_of (v : Value) (vals : List Value) (rows : List (List Int)) (hl : rows.length ≤ 1000000) (hb : ∀ i (h : i < rows.length), rows[i].length ≤ 140737488355328) (w : World) (h : Rowed w v vals rows) (ρ : Nat → Nat) (r : Nat) :
    Calls Tryz.prog 84 #[v] w fun e w' => ∃ v' vals' ρ', e = .returned v' ∧ CopS w w' ρ ρ' r rows.length v' vals' rows := by
  obtain ⟨i0, hi0, hz0, hz1, hz2⟩ := info_split info_sb
  obtain ⟨a, cap, rfl, hc⟩ := h.open
  obtain ⟨n, hn⟩ : ∃ n, n = rows.length := ⟨_, rfl⟩
  rw [← hn] at hl ⊢
  have HC := Lib.hid hc
  have HN := Lib.hid hn
  have HLB := Lib.hid hb
  clear hc hn h hb
  go_enter Tryz.func84, Tryz.ntmps84
  go_wp2
  go_loopw [3, 8] (fun s3 s wr => ∃ (i : Nat) (vals' : List Value) (ρ' : Nat → Nat), i ≤ n ∧ s = .int .i64 i ∧ CopS w wr ρ ρ' r i s3 vals' rows) (fun _ s _ => n - (intOf s).toNat)
  case atStart => exact ⟨0, [], ρ, Nat.zero_le _, rfl, CopS.begin w ρ r rows⟩
  case round =>
    obtain ⟨i, vals', ρ', hi, rfl, hS⟩ := hrel
    have HS := Lib.hid hS
    clear hS
    by_cases hlt : i < n
    · obtain ⟨b, off, u, rfl, hb, hu, e0', hH⟩ := HC.out i (by rw [← HN.out]; exact hlt)
      have e0 : wr.cell? ⟨b, off + i, none⟩ = some u := (HS.out.bel.cell (p := ⟨b, off + i, none⟩) hb).trans e0'
      have hcl := fun w' (h : Reads w' 1 u (rows[i]'(by rw [← HN.out]; exact hlt)).length (u8s (rows[i]'(by rw [← HN.out]; exact hlt)))) => clone_byte u _ _ w' h (by have := HLB.out i (by rw [← HN.out]; exact hlt); omega)
      have hrd := (reads_held hH).below HS.out.bel (Nat.le_refl _)
      have HCL := Lib.hid hcl
      have HRD := Lib.hid hrd
      clear hcl hrd e0' hH hu
      have hj1 : (0 : Int) ≤ (i : Int) := by omega
      have hj3 : (i : Int) < n := by omega
      go_wp2_with fail
      refine (HCL.out _ HRD.out).mono ?_
      rintro e w1 ⟨v1, rfl, hown1, hB1⟩
      obtain ⟨a1, n1, c1, rfl⟩ : ∃ a1 n1 c1, v1 = .slice a1 n1 c1 := by rcases hown1.2 with ⟨rfl, _⟩ | ⟨g, c, cur, rfl, _⟩ <;> exact ⟨_, _, _, rfl⟩
      have hS1 := HS.out.clone hB1
      have hO1 := own_new (base := w.heap.size) hown1 HS.out.bel.size ρ' (r + 1 + i)
      have hS2 := hS1.alloc (.cells #[.slice a1 n1 c1] 27)
      have hO2 := hO1.below ((Below.refl w1.heap.size w1).alloc (Nat.le_refl _) (.cells #[.slice a1 n1 c1] 27))
      have hnews : ∀ (j : Nat) (x : Value), [Value.slice a1 n1 c1][j]? = some x → (w1.alloc (.cells #[.slice a1 n1 c1] 27)).cell? ((⟨w1.heap.size, 0, none⟩ : Addr).add j) = some x := by
        intro j x hx
        have hj : j = 0 := by cases j with
          | zero => rfl
          | succ j => simp at hx
        subst hj
        simp at hx
        rw [← hx]
        show (w1.alloc (.cells #[.slice a1 n1 c1] 27)).cell? ⟨w1.heap.size, 0, none⟩ = _
        rw [(Row.made w1 [.slice a1 n1 c1] 27).cell]
        rfl
      have hone : ∀ x ∈ [Value.slice a1 n1 c1], x.oneCell' = true := by
        intro x hx
        simp at hx
        subst hx
        rfl
      have HS2 := Lib.hid hS2
      have HO2 := Lib.hid hO2
      have HLT := Lib.hid (show i < rows.length by rw [← HN.out]; exact hlt)
      have hm1 : i + 1 ≤ maxLen := by unfold maxLen; omega
      have hm2 : (i + 1) * 24 ≤ 140737488355328 := by omega
      have hm3 : w.heap.size ≤ (w1.alloc (.cells #[.slice a1 n1 c1] 27)).heap.size := hS2.bel.size
      have HM3 := Lib.hid hm3
      clear hS1 hO1 hS2 hO2 hown1 hB1 hm3 e0
      go_wp2_with (at_builtin; refine wpList_append_keep rfl (.tmp 12) (.tmp 15) 28 rfl w.heap.size 27 i0 (.slice none 0 0) 24 Tryz.underlying28 hi0 hz0 hz1 hz2 rfl _ i _ rfl HS2.out.list.1 ⟨w1.heap.size, 0, none⟩ 1 1 [.slice a1 n1 c1] rfl rfl hnews hone (by decide) hm1 hm2 HM3.out ?_; intro g2 cap2 w2 hown hgrow hnew hlt2 hkeep)
      have HS3 := Lib.hid (HS2.out.append HLT.out HO2.out hown hgrow hnew)
      clear hown hgrow hnew hlt2 hkeep hnews hone
      go_wp2
      go_roundw
      case rel => exact ⟨i + 1, _, _, hlt, by go_num, HS3.out⟩
      case measure => simp [intOf]; omega
    · obtain rfl : i = n := by omega
      go_wp2
      go_ret
      exact ⟨_, _, _, rfl, HS.out⟩
end Go.Proofs.YtbkcpepalicbjaaGreat
