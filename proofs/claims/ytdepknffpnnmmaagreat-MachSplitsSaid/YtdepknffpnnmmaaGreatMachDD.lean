import Derived.Test.YtdepknffpnnmmaaGreatMachDA
import Derived.Deep.LoopGhost
set_option maxRecDepth 100000
set_option maxHeartbeats 6400000
namespace Go.Proofs.YtdepknffpnnmmaaGreat
open Go.RowKit
set_option linter.unusedVariables false
set_option linter.unusedSimpArgs false
theorem copy_code (v : Value) (n : Nat) (cs : List Value) (w : World) (h : Reads w 8 v n cs) (hl : n * 56 <= 140737488355328) :
 Calls Tryz.prog 51 #[v] w fun e w' => ∃ v', e = .returned v' /\ w'.ownsRow w.heap.size 25 8 v' n cs /\ Below w.heap.size w w' := by
 obtain ⟨i0, hi0, hz0, hz1, hz2⟩ := info_split info_ins
 obtain ⟨hcl, h1, h⟩ := h
 have hm1 : 0 + n <= maxLen := by unfold maxLen; omega
 have hm2 : (0 + n) * 56 <= 140737488355328 := by omega
 rcases h with ⟨rfl, a, cap, rfl, hcap⟩ | ⟨hp, b, off, cap, rfl, hlt, hm, hc, hcell⟩
 ·obtain rfl : cs = [] := List.length_eq_zero_iff.1 (by omega)
  cases a with
  | none =>
    go_enter Tryz.func51, Tryz.ntmps51
    go_wp2_with (at_builtin; refine wpList_append_own_none rfl (.const (.slice none 0 0)) (.tmp 3) 22 rfl w.heap.size 25 i0 8 Tryz.underlying22 hi0 (.slice none 0 0) 0 [] rfl (World.ownsRow_nil _ _ _ _) rfl ?_)
    go_ret
    exact ⟨_, rfl, World.ownsRow_nil _ _ _ _, Below.refl _ _⟩
  | some ad =>
    go_enter Tryz.func51, Tryz.ntmps51
    go_wp2_with (at_builtin; refine wpList_append_own _ rfl (.const (.slice none 0 0)) (.tmp 3) 22 rfl w.heap.size 25 i0 (.agg #[.int .i64 0, .bool false, .bool false, .int .i64 0, .int .i64 0, .int .i64 0, .int .i64 0, .int .i64 0]) 8 56 Tryz.underlying22 hi0 hz0 hz1 hz2 rfl (by decide) (.slice none 0 0) 0 [] rfl (World.ownsRow_nil _ _ _ _) ad 0 _ [] rfl rfl (fun j u hu => by cases hu) (fun u hu => by cases hu) (by decide) (by decide) (Nat.le_refl _) ?_; intro v1 w1 hown hgrow _)
    have hB := Below.grown (Below.refl _ _) hgrow (Nat.le_refl _) (fun k hk => by cases hk)
    go_wp2
    go_ret
    exact ⟨_, rfl, hown, hB⟩
 ·have hnews : ∀ j u, cs[j]? = some u → w.cell? ((⟨b, off, none⟩ : Addr).add j) = some u := fun j u hj => by
   rw [show (⟨b, off, none⟩ : Addr).add j = ⟨b, off + j, none⟩ by unfold Addr.add; split <;> simp_all]
   exact hcell j u hj
  have HN := Lib.hid (And.intro hcl (And.intro h1 (And.intro hnews (And.intro hm1 hm2))))
  clear hcl h1 hnews hm1 hm2 hcell hp hl hlt hm hc
  go_enter Tryz.func51, Tryz.ntmps51
  go_wp2_with (at_builtin; refine wpList_append_own _ rfl (.const (.slice none 0 0)) (.tmp 3) 22 rfl w.heap.size 25 i0 (.agg #[.int .i64 0, .bool false, .bool false, .int .i64 0, .int .i64 0, .int .i64 0, .int .i64 0, .int .i64 0]) 8 56 Tryz.underlying22 hi0 hz0 hz1 hz2 rfl (by decide) (.slice none 0 0) 0 [] rfl (World.ownsRow_nil _ _ _ _) ⟨b, off, none⟩ n cap cs rfl HN.out.1 HN.out.2.2.1 HN.out.2.1 HN.out.2.2.2.1 HN.out.2.2.2.2 (Nat.le_refl _) ?_; intro v1 w1 hown hgrow _)
  have hB := Below.grown (Below.refl _ _) hgrow (Nat.le_refl _) (fun k hk => by cases hk)
  rw [Nat.zero_add, List.nil_append] at hown
  go_wp2
  go_ret
  exact ⟨_, rfl, hown, hB⟩
theorem copy_tables (v : Value) (n : Nat) (cs : List Value) (w : World) (h : Reads w 2 v n cs) (hl : n * 16 <= 140737488355328) :
 Calls Tryz.prog 27 #[v] w fun e w' => ∃ v', e = .returned v' /\ w'.ownsRow w.heap.size 101 2 v' n cs /\ Below w.heap.size w w' := by
 obtain ⟨i0, hi0, hz0, hz1, hz2⟩ := info_split info_tab
 obtain ⟨hcl, h1, h⟩ := h
 have hm1 : 0 + n <= maxLen := by unfold maxLen; omega
 have hm2 : (0 + n) * 16 <= 140737488355328 := by omega
 rcases h with ⟨rfl, a, cap, rfl, hcap⟩ | ⟨hp, b, off, cap, rfl, hlt, hm, hc, hcell⟩
 ·obtain rfl : cs = [] := List.length_eq_zero_iff.1 (by omega)
  cases a with
  | none =>
    go_enter Tryz.func27, Tryz.ntmps27
    go_wp2_with (at_builtin; refine wpList_append_own_none rfl (.const (.slice none 0 0)) (.tmp 3) 42 rfl w.heap.size 101 i0 2 Tryz.underlying42 hi0 (.slice none 0 0) 0 [] rfl (World.ownsRow_nil _ _ _ _) rfl ?_)
    go_ret
    exact ⟨_, rfl, World.ownsRow_nil _ _ _ _, Below.refl _ _⟩
  | some ad =>
    go_enter Tryz.func27, Tryz.ntmps27
    go_wp2_with (at_builtin; refine wpList_append_own _ rfl (.const (.slice none 0 0)) (.tmp 3) 42 rfl w.heap.size 101 i0 (.agg #[.int .i64 0, .int .i64 0]) 2 16 Tryz.underlying42 hi0 hz0 hz1 hz2 rfl (by decide) (.slice none 0 0) 0 [] rfl (World.ownsRow_nil _ _ _ _) ad 0 _ [] rfl rfl (fun j u hu => by cases hu) (fun u hu => by cases hu) (by decide) (by decide) (Nat.le_refl _) ?_; intro v1 w1 hown hgrow _)
    have hB := Below.grown (Below.refl _ _) hgrow (Nat.le_refl _) (fun k hk => by cases hk)
    go_wp2
    go_ret
    exact ⟨_, rfl, hown, hB⟩
 ·have hnews : ∀ j u, cs[j]? = some u → w.cell? ((⟨b, off, none⟩ : Addr).add j) = some u := fun j u hj => by
   rw [show (⟨b, off, none⟩ : Addr).add j = ⟨b, off + j, none⟩ by unfold Addr.add; split <;> simp_all]
   exact hcell j u hj
  have HN := Lib.hid (And.intro hcl (And.intro h1 (And.intro hnews (And.intro hm1 hm2))))
  clear hcl h1 hnews hm1 hm2 hcell hp hl hlt hm hc
  go_enter Tryz.func27, Tryz.ntmps27
  go_wp2_with (at_builtin; refine wpList_append_own _ rfl (.const (.slice none 0 0)) (.tmp 3) 42 rfl w.heap.size 101 i0 (.agg #[.int .i64 0, .int .i64 0]) 2 16 Tryz.underlying42 hi0 hz0 hz1 hz2 rfl (by decide) (.slice none 0 0) 0 [] rfl (World.ownsRow_nil _ _ _ _) ⟨b, off, none⟩ n cap cs rfl HN.out.1 HN.out.2.2.1 HN.out.2.1 HN.out.2.2.2.1 HN.out.2.2.2.2 (Nat.le_refl _) ?_; intro v1 w1 hown hgrow _)
  have hB := Below.grown (Below.refl _ _) hgrow (Nat.le_refl _) (fun k hk => by cases hk)
  rw [Nat.zero_add, List.nil_append] at hown
  go_wp2
  go_ret
  exact ⟨_, rfl, hown, hB⟩
theorem copy_rows (v : Value) (vals : List Value) (rows : List (List Int)) (hl : rows.length <= 5864062014805) (hb : ∀ i (h : i < rows.length), rows[i].length <= 140737488355328) (w : World) (h : Rowed w v vals rows) (ρ : Nat -> Nat) (r : Nat) :
 Calls Tryz.prog 29 #[v] w fun e w' => ∃ v' vals' ρ', e = .returned v' /\ CopS w w' ρ ρ' r rows.length v' vals' rows := by
 obtain ⟨i0, hi0, hz0, hz1, hz2⟩ := info_split info_sb
 obtain ⟨a, cap, rfl, hc⟩ := h.open
 obtain ⟨n, hn⟩ : ∃ n, n = rows.length := ⟨_, rfl⟩
 rw [<- hn] at hl ⊢
 have HC := Lib.hid hc
 have HN := Lib.hid hn
 have HLB := Lib.hid hb
 have HLL := Lib.hid hl
 clear hc hn h hb hl
 go_enter Tryz.func29, Tryz.ntmps29
 go_wp2
 go_loopw [3, 4] (fun s3 s wr => ∃ (i : Nat) (vals' : List Value) (ρ' : Nat -> Nat), i <= n /\ s = .int .i64 i /\ CopS w wr ρ ρ' r i s3 vals' rows) (fun _ s _ => n - (intOf s).toNat)
 case atStart => exact ⟨0, [], ρ, Nat.zero_le _, rfl, CopS.begin w ρ r rows⟩
 case round =>
  obtain ⟨i, vals', ρ', hi, rfl, hS⟩ := hrel
  have HS := Lib.hid hS
  clear hS
  by_cases hlt : i < n
  ·obtain ⟨b, off, u, rfl, hb, hu, e0', hH⟩ := HC.out i (by rw [<- HN.out]; exact hlt)
   have e0 : wr.cell? ⟨b, off + i, none⟩ = some u := (HS.out.bel.cell (p := ⟨b, off + i, none⟩) hb).trans e0'
   have HCL := Lib.hid (fun w' (h : Held w' u (rows[i]'(by rw [<- HN.out]; exact hlt))) => copy_of u _ w' h (HLB.out i (by rw [<- HN.out]; exact hlt)))
   have HRD := Lib.hid (hH.below HS.out.bel (Nat.le_refl _))
   clear e0' hH hu
   have hj1 : (0 : Int) <= (i : Int) := by omega
   have hj3 : (i : Int) < n := by omega
   go_wp2_with fail
   refine (HCL.out _ HRD.out).mono ?_
   rintro e w1 ⟨v1, rfl, hown1, hB1⟩
   obtain ⟨a1, n1, c1, rfl⟩ : ∃ a1 n1 c1, v1 = .slice a1 n1 c1 := by rcases hown1.2 with ⟨rfl, _⟩ | ⟨g, c, cur, rfl, _⟩ <;> exact ⟨_, _, _, rfl⟩
   have hS1 := HS.out.clone hB1
   have hO1 := own_new (base := w.heap.size) hown1 HS.out.bel.size ρ' (r + 1 + i)
   have hS2 := hS1.alloc (.cells #[.slice a1 n1 c1] 27)
   have hO2 := hO1.below ((Below.refl w1.heap.size w1).alloc (Nat.le_refl _) (.cells #[.slice a1 n1 c1] 27))
   have hnews : ∀ (j : Nat) (x : Value), [Value.slice a1 n1 c1][j]? = some x -> (w1.alloc (.cells #[.slice a1 n1 c1] 27)).cell? ((⟨w1.heap.size, 0, none⟩ : Addr).add j) = some x := by
    intro j x hx
    have hj : j = 0 := by cases j with
     | zero => rfl
     | succ j => simp at hx
    subst hj
    simp at hx
    rw [<- hx]
    show (w1.alloc (.cells #[.slice a1 n1 c1] 27)).cell? ⟨w1.heap.size, 0, none⟩ = _
    rw [(Row.made w1 [.slice a1 n1 c1] 27).cell]
    rfl
   have hone : ∀ x ∈ [Value.slice a1 n1 c1], x.oneCell' = true := by
    intro x hx
    simp at hx
    subst hx
    rfl
   have HS2 := Lib.hid hS2
   have HO2 := Lib.hid hO2
   have HLT := Lib.hid (show i < rows.length by rw [<- HN.out]; exact hlt)
   have hm1 : i + 1 <= maxLen := by have := HLL.out; unfold maxLen; omega
   have hm2 : (i + 1) * 24 <= 140737488355328 := by have := HLL.out; omega
   have hm3 : w.heap.size <= (w1.alloc (.cells #[.slice a1 n1 c1] 27)).heap.size := hS2.bel.size
   have HM3 := Lib.hid (And.intro hm3 (And.intro hm1 hm2))
   clear hS1 hO1 hS2 hO2 hown1 hB1 hm3 e0 hm1 hm2
   go_wp2_with (at_builtin; refine wpList_append_keep rfl (.tmp 11) (.tmp 17) 28 rfl w.heap.size 27 i0 (.slice none 0 0) 24 Tryz.underlying28 hi0 hz0 hz1 hz2 rfl _ i _ rfl HS2.out.list.1 ⟨w1.heap.size, 0, none⟩ 1 1 [.slice a1 n1 c1] rfl rfl hnews hone (by decide) HM3.out.2.1 HM3.out.2.2 HM3.out.1 ?_; intro g2 cap2 w2 hown hgrow hnew hlt2 hkeep)
   have HS3 := Lib.hid (HS2.out.append HLT.out HO2.out hown hgrow hnew)
   clear hown hgrow hnew hlt2 hkeep hnews hone
   have hwi : wrap64 ((i : Int) + 1) = ((i + 1 : Nat) : Int) := by have := HLL.out; unfold wrap64; omega
   go_wp2
   go_roundw
   case rel => exact ⟨i + 1, _, _, hlt, by rw [hwi], HS3.out⟩
   case measure =>
    rw [hwi]
    show n - ((i + 1 : Nat) : Int).toNat < n - ((i : Nat) : Int).toNat
    omega
  ·obtain rfl : i = n := by omega
   go_wp2
   go_ret
   exact ⟨_, _, _, rfl, HS.out⟩
structure KP (w : World) (pb rb : Nat) (e : TypeId) (ps : List Value) (n : Nat) (w' : World) : Prop where
 bel : Below w.heap.size w w'
 box : Row w' pb e ps
 res : ∃ cs, Row w' rb e cs /\ cs.length = n
 ne : pb ≠ rb
 lp : w.heap.size <= pb
 lr : w.heap.size <= rb
section
variable {w w1 w2 : World} {pb rb n : Nat} {e : TypeId} {ps : List Value}
theorem KP.next (h : KP w pb rb e ps n w1) (hb : Below w1.heap.size w1 w2) : KP w pb rb e ps n w2 := ⟨h.bel.trans (hb.mono h.bel.size), h.box.below hb h.box.lt, let ⟨cs, hr, hl⟩ := h.res; ⟨cs, hr.below hb hr.lt, hl⟩, h.ne, h.lp, h.lr⟩
theorem KP.put (h : KP w pb rb e ps n w1) (i : Nat) (x : Value) : KP w pb rb e ps n (w1.setCell ⟨rb, i, none⟩ x) := ⟨h.bel.setCell h.lr x, h.box.other _ _ h.ne, let ⟨cs, hr, hl⟩ := h.res; ⟨cs.set i x, hr.put i x, by rw [List.length_set]; exact hl⟩, h.ne, h.lp, h.lr⟩
theorem KP.at' (h : KP w pb rb e ps n w1) (i : Nat) (hi : i < n) : (∃ x, w1.cell? ⟨rb, i, none⟩ = some x) /\ w1.frozen? ⟨rb, i, none⟩ = false /\ rb < w1.heap.size := by
 obtain ⟨cs, hr, hl⟩ := h.res
 exact ⟨⟨_, (hr.cell i).trans (List.getElem?_eq_getElem (by omega))⟩, hr.free i, hr.lt⟩
theorem KP.k5 {a b c d f : Value} (h : KP w pb rb e [a, b, c, d, f] n w1) : w1.cell? ⟨pb, 0, none⟩ = some a /\ w1.cell? ⟨pb, 1, none⟩ = some b /\ w1.cell? ⟨pb, 2, none⟩ = some c /\ w1.cell? ⟨pb, 3, none⟩ = some d /\ w1.cell? ⟨pb, 4, none⟩ = some f /\ KP w pb rb e [a, b, c, d, f] n w1 := ⟨by rw [h.box.cell]; rfl, by rw [h.box.cell]; rfl, by rw [h.box.cell]; rfl, by rw [h.box.cell]; rfl, by rw [h.box.cell]; rfl, h⟩
theorem KP.n5 {a b c d f : Value} (h : w1.cell? ⟨pb, 0, none⟩ = some a /\ w1.cell? ⟨pb, 1, none⟩ = some b /\ w1.cell? ⟨pb, 2, none⟩ = some c /\ w1.cell? ⟨pb, 3, none⟩ = some d /\ w1.cell? ⟨pb, 4, none⟩ = some f /\ KP w pb rb e [a, b, c, d, f] n w1) (hb : Below w1.heap.size w1 w2) : w2.cell? ⟨pb, 0, none⟩ = some a /\ w2.cell? ⟨pb, 1, none⟩ = some b /\ w2.cell? ⟨pb, 2, none⟩ = some c /\ w2.cell? ⟨pb, 3, none⟩ = some d /\ w2.cell? ⟨pb, 4, none⟩ = some f /\ KP w pb rb e [a, b, c, d, f] n w2 := (h.2.2.2.2.2.next hb).k5
theorem KP.s5 {a b c d f : Value} (h : w1.cell? ⟨pb, 0, none⟩ = some a /\ w1.cell? ⟨pb, 1, none⟩ = some b /\ w1.cell? ⟨pb, 2, none⟩ = some c /\ w1.cell? ⟨pb, 3, none⟩ = some d /\ w1.cell? ⟨pb, 4, none⟩ = some f /\ KP w pb rb e [a, b, c, d, f] n w1) (x0 x1 x2 x3 x4 : Value) (W : World) (hW : W = ((((w1.setCell ⟨rb, 0, none⟩ x0).setCell ⟨rb, 1, none⟩ x1).setCell ⟨rb, 2, none⟩ x2).setCell ⟨rb, 3, none⟩ x3).setCell ⟨rb, 4, none⟩ x4) : W.cell? ⟨pb, 0, none⟩ = some a /\ W.cell? ⟨pb, 1, none⟩ = some b /\ W.cell? ⟨pb, 2, none⟩ = some c /\ W.cell? ⟨pb, 3, none⟩ = some d /\ W.cell? ⟨pb, 4, none⟩ = some f /\ KP w pb rb e [a, b, c, d, f] n W := by
 subst hW
 exact (((((h.2.2.2.2.2.put 0 x0).put 1 x1).put 2 x2).put 3 x3).put 4 x4).k5
end
end Go.Proofs.YtdepknffpnnmmaaGreat
