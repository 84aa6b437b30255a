import Derived.Test.YtdepknffpnnmmaaGreatMachDS
import Derived.Test.YtdepknffpnnmmaaGreatMachDQ
import Derived.Test.YtdepknffpnnmmaaGreatMachDH
import Derived.Test.YtdepknffpnnmmaaGreatMachDG
import Derived.Deep.CutBlock
namespace Go.Proofs.YtdepknffpnnmmaaGreat
open Go.RowKit
set_option linter.unusedVariables false
set_option linter.unusedSimpArgs false
structure KZ (W : World) (ps xs : List Value) (w : World) : Prop where
 bel : Below W.heap.size W w
 prg : Row w W.heap.size 44 ps
 inp : Row w (W.heap.size + 1) 46 xs
theorem KZ.next {W : World} {ps xs : List Value} {w w' : World} (h : KZ W ps xs w) (hb : Below w.heap.size w w') : KZ W ps xs w' := ⟨h.bel.trans (hb.mono h.bel.size), h.prg.below hb h.prg.lt, h.inp.below hb h.inp.lt⟩
section
variable {W w w' : World} {a b c d f x y : Value}
theorem KZ.k (h : KZ W [a, b, c, d, f] [x, y] w) : w.cell? ⟨W.heap.size, 0, none⟩ = some a /\ w.cell? ⟨W.heap.size, 1, none⟩ = some b /\ w.cell? ⟨W.heap.size, 2, none⟩ = some c /\ w.cell? ⟨W.heap.size, 3, none⟩ = some d /\ w.cell? ⟨W.heap.size, 4, none⟩ = some f /\ w.cell? ⟨W.heap.size + 1, 0, none⟩ = some x /\ w.cell? ⟨W.heap.size + 1, 1, none⟩ = some y /\ KZ W [a, b, c, d, f] [x, y] w :=
 ⟨by rw [h.prg.cell]; rfl, by rw [h.prg.cell]; rfl, by rw [h.prg.cell]; rfl, by rw [h.prg.cell]; rfl, by rw [h.prg.cell]; rfl, by rw [h.inp.cell]; rfl, by rw [h.inp.cell]; rfl, h⟩
theorem KZ.n (h : w.cell? ⟨W.heap.size, 0, none⟩ = some a /\ w.cell? ⟨W.heap.size, 1, none⟩ = some b /\ w.cell? ⟨W.heap.size, 2, none⟩ = some c /\ w.cell? ⟨W.heap.size, 3, none⟩ = some d /\ w.cell? ⟨W.heap.size, 4, none⟩ = some f /\ w.cell? ⟨W.heap.size + 1, 0, none⟩ = some x /\ w.cell? ⟨W.heap.size + 1, 1, none⟩ = some y /\ KZ W [a, b, c, d, f] [x, y] w) (hb : Below w.heap.size w w') :
 w'.cell? ⟨W.heap.size, 0, none⟩ = some a /\ w'.cell? ⟨W.heap.size, 1, none⟩ = some b /\ w'.cell? ⟨W.heap.size, 2, none⟩ = some c /\ w'.cell? ⟨W.heap.size, 3, none⟩ = some d /\ w'.cell? ⟨W.heap.size, 4, none⟩ = some f /\ w'.cell? ⟨W.heap.size + 1, 0, none⟩ = some x /\ w'.cell? ⟨W.heap.size + 1, 1, none⟩ = some y /\ KZ W [a, b, c, d, f] [x, y] w' := (h.2.2.2.2.2.2.2.next hb).k
end
theorem tabs_one (ts : List (Int × Int)) : ∀ u ∈ tabc ts, u.oneCell' = true := by
 intro u hu
 obtain ⟨t, _, ht⟩ := List.mem_flatMap.1 hu
 simp only [List.mem_cons, List.not_mem_nil, or_false] at ht
 rcases ht with rfl | rfl <;> rfl
theorem andS62 (x : Int) : bits .and .i64 x 4611686018427387903 = x % 4611686018427387904 := by
 have h := i64_and_mask x 62 (by decide)
 have e : (2 : Int) ^ 62 = 4611686018427387904 := by decide
 rw [e] at h
 exact h
theorem andS3 (x : Int) : bits .and .i64 x 7 = x % 8 := by
 have h := i64_and_mask x 3 (by decide)
 have e : (2 : Int) ^ 3 = 8 := by decide
 rw [e] at h
 exact h
theorem modS_of (x : Int) (d : Nat) (hd : 0 < d) : ∃ m r : Nat, bits .and .i64 x 4611686018427387903 = (m : Int) /\ (m : Int).tmod (d : Int) = (r : Int) /\ r < d := by
 refine ⟨(x % 4611686018427387904).toNat, (x % 4611686018427387904).toNat % d, ?_, rfl, Nat.mod_lt _ hd⟩
 rw [andS62]
 omega
theorem grow_new {W : World} {P : Nat -> Nat} {w w2 w3 : World} {i : Nat} {fx : Mfix} {s : Mst} {bx : Nat} {v : Mvals} (hG : Ground W P w) (hb : Below w.heap.size w w2) (hM : MS w2.heap.size w2 fx s bx v w3) :
 Ground W (grown (grown P w.heap.size 0) w2.heap.size i) w3 /\ Mine (grown (grown P w.heap.size 0) w2.heap.size i) i fx s bx w3 /\ ∀ j fx' s' b', Mine P j fx' s' b' w -> Mine (grown (grown P w.heap.size 0) w2.heap.size i) j fx' s' b' w3 :=
 ⟨(hG.next hb).next hM.bel, Mine.born hM, fun j fx' s' b' h => (h.next hb).next hM.bel⟩
theorem new_copies (p : Prg) (ctx : List Int) (rows : List (List Int)) (hpd : IsBytes p.data) (hxb : IsBytes ctx) (hrb : ∀ k (h : k < rows.length), IsBytes rows[k])
 (hld : p.data.length <= 140737488355328) (hlt : p.tabs.length * 16 <= 140737488355328) (hlc : p.code.length * 56 <= 140737488355328) (hxl : ctx.length <= 140737488355328) (hrl : rows.length <= 5864062014805)
 (w0 w1 w2 : World) (da ta ca xa ra : Option Addr) (dc tc cc xc rc : Nat) (vals : List Value) (ρ5 : Nat -> Nat)
 (o1 : w1.ownsRow w0.heap.size 5 1 (.slice da p.data.length dc) p.data.length (u8s p.data)) (o2 : w1.ownsRow w0.heap.size 101 2 (.slice ta p.tabs.length tc) p.tabs.length (tabc p.tabs)) (o3 : w1.ownsRow w0.heap.size 25 8 (.slice ca p.code.length cc) p.code.length (codec p.code))
 (hb : Below w1.heap.size w1 w2) (o4 : w2.ownsRow w1.heap.size 5 1 (.slice xa ctx.length xc) ctx.length (u8s ctx)) (o5 : TabS w2 w1.heap.size ρ5 (.slice ra rows.length rc) vals rows) :
 Calls Tryz.prog 18 #[.agg #[.int .i64 p.lo, .int .i64 p.hi, .slice da p.data.length dc, .slice ta p.tabs.length tc, .slice ca p.code.length cc], .agg #[.slice xa ctx.length xc, .slice ra rows.length rc]] w2 fun e w' =>
  (newE p ctx rows = 0 /\ ∃ bx v, e = .returned (.tuple #[.pointer (some ⟨bx, 0, none⟩), .int .i64 0]) /\ MS w2.heap.size w2 ⟨p.data, p.tabs, p.code⟩ (stG ctx rows) bx v w') \/
  (newE p ctx rows ≠ 0 /\ e = .returned (.tuple #[.pointer none, .int .i64 (newE p ctx rows)]) /\ Below w2.heap.size w2 w') :=
 new_any p da ta ca xa ra dc tc cc xc rc ctx vals rows (by omega) (by omega) (by omega) (by omega) (by omega) w2
  ((held_of_own o1 hpd rfl).below hb (Nat.le_refl _)) ((reads_own o2 (tabs_one _) (by decide)).below hb (Nat.le_refl _)) ((reads_own o3 (codec_one _) (by decide)).below hb (Nat.le_refl _)) (held_of_own o4 hxb rfl) (rowed_tabU o5 hrb)
end Go.Proofs.YtdepknffpnnmmaaGreat
