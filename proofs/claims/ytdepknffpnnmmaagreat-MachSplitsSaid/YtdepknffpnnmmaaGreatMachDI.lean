import Derived.Test.YtdepknffpnnmmaaGreatMachDF
import Derived.Test.YtdepknffpnnmmaaGreatInts
import Derived.Deep.WholeRow
import Derived.Deep.MidRow
set_option maxRecDepth 100000
set_option maxHeartbeats 1600000
namespace Go.Proofs.YtdepknffpnnmmaaGreat
open Go.RowKit
set_option linter.unusedVariables false
set_option linter.unusedSimpArgs false
theorem Rowed.drewN {w : World} {v : Value} {vals : List Value} {rows : List (List Int)} (h : Rowed w v vals rows) (n : Nat) : Rowed (w.drewN n) v vals rows := h.below (below_drewN (Below.refl w.heap.size w) n) (Nat.le_refl _)
theorem same_rows (v1 v2 : Value) (vals1 vals2 : List Value) (rows : List (List Int)) (hl : rows.length <= 9223372036854775807) (w : World) (h1 : Rowed w v1 vals1 rows) (h2 : Rowed w v2 vals2 rows) :
 Calls Tryz.prog 39 #[v1, v2] w fun e w' => e = .returned (.bool true) /\ ∃ n, w' = w.drewN n := by
 obtain ⟨a1, k1, rfl, hc1⟩ := h1.open
 obtain ⟨a2, k2, rfl, hc2⟩ := h2.open
 obtain ⟨n, hn⟩ : ∃ n, n = rows.length := ⟨_, rfl⟩
 rw [<- hn] at hl ⊢
 have HN := Lib.hid (And.intro hn hl)
 have HC1 := Lib.hid hc1
 have HC2 := Lib.hid hc2
 clear hn hl hc1 hc2 h1 h2
 have hnn : ((n : Int) != n) = false := by simp
 go_enter Tryz.func39, Tryz.ntmps39
 go_wp2
 go_loopw [5] (fun s wr => ∃ i : Nat, i <= n /\ s = .int .i64 i /\ ∃ k, wr = w.drewN k) (fun s _ => n - (intOf s).toNat)
 case atStart => exact ⟨0, Nat.zero_le _, rfl, 0, rfl⟩
 case round =>
  obtain ⟨i, hi, rfl, k, rfl⟩ := hrel
  by_cases hlt : i < n
  ·have hlr : i < rows.length := by have := HN.out.1; omega
   obtain ⟨b1, o1, u1, rfl, hb1, hu1, e1, hh1⟩ := HC1.out i hlr
   obtain ⟨b2, o2, u2, rfl, hb2, hu2, e2, hh2⟩ := HC2.out i hlr
   obtain ⟨row, hrow⟩ : ∃ row, row = rows[i] := ⟨_, rfl⟩
   rw [<- hrow] at hh1 hh2
   have hmk : ∀ w' : World, (∃ k, w' = w.drewN k) -> w'.cell? ⟨b1, o1 + i, none⟩ = some u1 /\ w'.cell? ⟨b2, o2 + i, none⟩ = some u2 /\ Held w' u1 row /\ Held w' u2 row /\ ∃ k, w' = w.drewN k := by
    rintro _ ⟨j, rfl⟩
    exact ⟨e1, e2, hh1.drewN j, hh2.drewN j, j, rfl⟩
   have HMK := Lib.hid hmk
   have HSM := Lib.hid (fun (w' : World) (hS : w'.cell? ⟨b1, o1 + i, none⟩ = some u1 /\ w'.cell? ⟨b2, o2 + i, none⟩ = some u2 /\ Held w' u1 row /\ Held w' u2 row /\ ∃ k, w' = w.drewN k) => same_at u1 u2 row w' hS.2.2.1 hS.2.2.2.1)
   have hwi : wrap64 ((i : Int) + 1) = ((i + 1 : Nat) : Int) := by have := HN.out.2; unfold wrap64; omega
   have hj1 : (0 : Int) <= (i : Int) := by omega
   have hj3 : (i : Int) < n := by omega
   clear hmk hb1 hb2 hu1 hu2 e1 e2 hh1 hh2 hrow
   go_wp2_with fail
   go_region_held3 (fun w' : World => w'.cell? ⟨b1, o1 + i, none⟩ = some u1 /\ w'.cell? ⟨b2, o2 + i, none⟩ = some u2 /\ Held w' u1 row /\ Held w' u2 row /\ ∃ k, w' = w.drewN k)
    (first
      | with_reducible assumption
      | exact HMK.out _ ⟨k + 1, rfl⟩)
    (first
      | (go_at_call 15; refine (HSM.out _ (HMK.out _ ⟨k + 1, rfl⟩)).mono ?_; rintro e w' ⟨rfl, rfl⟩))
   rename_i hheld
   go_wp2
   go_roundw
   case rel => exact ⟨i + 1, hlt, by first | rfl | rw [hwi], hheld.2.2.2.2⟩
   case measure =>
    first | rw [hwi] | skip
    show n - ((i + 1 : Nat) : Int).toNat < n - ((i : Nat) : Int).toNat
    omega
  ·obtain rfl : i = n := by omega
   go_wp2
   go_ret
   exact ⟨rfl, k, rfl⟩
theorem same_output (r0 : Int) (xa ta sa xb tb sb : Option Addr) (kxa kta ksa kxb ktb ksb : Nat) (ctx sent : List Int) (rows : List (List Int)) (va vb : List Value) (hrl : rows.length <= 9223372036854775807) (hsl : sent.length <= 9223372036854775807) (w : World)
 (hxa : Held w (.slice xa ctx.length kxa) ctx) (hta : Rowed w (.slice ta rows.length kta) va rows) (hsa : Ints w (.slice sa sent.length ksa) sent)
 (hxb : Held w (.slice xb ctx.length kxb) ctx) (htb : Rowed w (.slice tb rows.length ktb) vb rows) (hsb : Ints w (.slice sb sent.length ksb) sent) :
 Calls Tryz.prog 24 #[.agg #[.int .i64 r0, .slice xa ctx.length kxa, .slice ta rows.length kta, .slice sa sent.length ksa], .agg #[.int .i64 r0, .slice xb ctx.length kxb, .slice tb rows.length ktb, .slice sb sent.length ksb]] w fun e w' => e = .returned (.bool true) /\ Below w.heap.size w w' := by
 have HH := Lib.hid (And.intro hxa (And.intro hxb (And.intro hta (And.intro htb (And.intro hsa (And.intro hsb (And.intro hrl hsl)))))))
 clear hxa hxb hta htb hsa hsb hrl hsl
 have hrr : (r0 == r0) = true := by simp
 go_enter Tryz.func24, Tryz.ntmps24
 go_upto_region 1 with fail
 have hB : ∀ o1 o2, Below w.heap.size w ((w.alloc o1).alloc o2) := fun o1 o2 => (below_map w _).trans ((below_map _ _).mono (by simp))
 have HB := Lib.hid hB
 clear hB
 go_wp2_with (first
  | (go_at_call 15; go_loud (refine (same_at _ _ ctx _ (HH.out.1.below (HB.out _ _) (Nat.le_refl _)) (HH.out.2.1.below (HB.out _ _) (Nat.le_refl _))).mono ?_; rintro e w' ⟨rfl, rfl⟩))
  | (go_at_call 39; go_loud (refine (same_rows _ _ va vb rows HH.out.2.2.2.2.2.2.1 _ (HH.out.2.2.1.below (HB.out _ _) (Nat.le_refl _)) (HH.out.2.2.2.1.below (HB.out _ _) (Nat.le_refl _))).mono ?_; rintro e w' ⟨rfl, n1, rfl⟩))
  | (go_at_call 10; go_loud (refine (ints_same _ _ sent HH.out.2.2.2.2.2.2.2 _ (HH.out.2.2.2.2.1.below (below_drewN (HB.out _ _) _) (Nat.le_refl _)) (HH.out.2.2.2.2.2.1.below (below_drewN (HB.out _ _) _) (Nat.le_refl _))).mono ?_; rintro e w' ⟨rfl, n2, rfl⟩)))
 go_ret
 exact ⟨rfl, by first | exact below_drewN (HB.out _ _) _ | exact below_drewN (below_drewN (HB.out _ _) _) _⟩
end Go.Proofs.YtdepknffpnnmmaaGreat
