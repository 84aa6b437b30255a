/-
  The Book of bytes that were handed out: what it holds, and its looks (own, look, Holds).
-/
import Derived.Test.YtcjomhmpebhhlaaRoles
import Derived.Test.YtcjomhmpebhhlaaInts
import Derived.Test.YtcjomhmpebhhlaaRefA
import Derived.BigQuiet
import Derived.Deep.RegionHeld3
namespace Go.Proofs.Ytcjomhmpebhhlaa.Led
open Go.RowKit
set_option linter.unusedVariables false

theorem info_num : (Try.prog.info? 3).map (fun i => (i.zero, i.size, i.bytes)) = some (some (.int .i64 0), 1, 8) := by kernel_rfl
def AnyInts (xs : List Int) : Prop := xs.length ≤ 9223372036854775807
theorem ints_of_own {w : World} {base n : Nat} {v : Value} {xs : List Int} (h : w.ownsRow base 3 1 v n (xs.map (Value.int .i64))) (hn : n = xs.length) : Ints w v xs := by
  subst hn
  have h0 := h
  obtain ⟨hlen, h⟩ := h
  rcases h with ⟨rfl, h1⟩ | ⟨g, cap, cur, rfl, hb, hg, h1, h2, h3, h4⟩
  · exact Or.inl ⟨List.length_eq_zero_iff.1 h1, none, 0, rfl⟩
  · by_cases hp : 0 < xs.length
    · refine Or.inr ⟨hp, g, 0, cap, rfl, lt_of_block hg, fun i hi => ?_⟩
      rw [Nat.zero_add, h0.cellAt i (by omega)]
      simp [List.getD, hi]
    · have : xs = [] := List.length_eq_zero_iff.1 (by omega)
      subst this
      exact Or.inl ⟨rfl, _, cap, rfl⟩
def ownv (l j : Nat) : Int := -1000003 * ((l : Int) + 1) - j
def ownl (l n : Nat) : List Value := itab n (ownv l)
theorem ownl_length (l n : Nat) : (ownl l n).length = n := by simp [ownl, itab]
theorem ownl_get (l : Nat) {n j : Nat} (h : j < n) : (ownl l n)[j]? = some (.int .i64 (ownv l j)) := itab_get _ h
/- What a Book holds: F: what lies untouched, with its bytes; ws: the copies of it; K: what was written over or grown, with the number and the length. -/
theorem last7 {a b c d e f g : Prop} (h : a ∧ b ∧ c ∧ d ∧ e ∧ f ∧ g) : g := h.2.2.2.2.2.2
theorem last8 {a b c d e f g i : Prop} (h : a ∧ b ∧ c ∧ d ∧ e ∧ f ∧ g ∧ i) : i := h.2.2.2.2.2.2.2
/-- The book's heap, part by part. -/
structure Core (w : World) (base hb : Nat) (ρ : Nat → Nat) (cnt tot : Int) (vf vw vk vn : Value) (F : List (Value × List Int)) (ws : List Value) (K : List (Value × Nat × Nat)) (A : List (Value × List Value × TypeId)) : Prop where
  row : Row w hb 49 [.int .i64 tot, vf, vw, vk, vn, .bool false]
  rol : ρ hb = 0
  low : base ≤ hb
  fresh : Own1 w base ρ 1 24 vf (F.map (·.1))
  was : Own1 w base ρ 4 24 vw ws
  wlen : ws.length = F.length
  kept : Own1 w base ρ 2 24 vk (K.map (·.1))
  nums : Own1 w base ρ 3 3 vn (K.map fun (x : Value × Nat × Nat) => Value.int .i64 (x.2.1 : Int))
  item : ∀ (i : Nat) (x : Value × List Int), F[i]? = some x → Own1 w base ρ (10 + i) 3 x.1 (x.2.map (Value.int .i64)) ∧ AnyInts x.2
  copy : ∀ (i : Nat) (v : Value) (x : Value × List Int), ws[i]? = some v → F[i]? = some x → Own1 w base ρ 9 3 v (x.2.map (Value.int .i64))
  done : ∀ x ∈ K, Own1 w base ρ 9 3 x.1 (ownl x.2.1 x.2.2)
  side : ∀ (j : Nat) (y : Value × List Value × TypeId), A[j]? = some y → Own1 w base ρ (1000 + j) y.2.2 y.1 y.2.1

theorem Core.calm {w w' : World} {base hb : Nat} {ρ : Nat → Nat} {cnt tot : Int} {vf vw vk vn : Value} {F : List (Value × List Int)} {ws : List Value} {K : List (Value × Nat × Nat)} {A : List (Value × List Value × TypeId)} (h : Core w base hb ρ cnt tot vf vw vk vn F ws K A) (hc : Calm w w') :
    Core w' base hb ρ cnt tot vf vw vk vn F ws K A where
  row := h.row.calm hc
  rol := h.rol
  low := h.low
  fresh := h.fresh.same hc.heap
  was := h.was.same hc.heap
  wlen := h.wlen
  kept := h.kept.same hc.heap
  nums := h.nums.same hc.heap
  item := fun i x hx => ⟨(h.item i x hx).1.same hc.heap, (h.item i x hx).2⟩
  copy := fun i v x hv hx => (h.copy i v x hv hx).same hc.heap
  done := fun x hx => (h.done x hx).same hc.heap
  side := fun j y hy => (h.side j y hy).same hc.heap

set_option maxRecDepth 100000 in
set_option maxHeartbeats 1600000 in
theorem look_of (base hb : Nat) (ρ : Nat → Nat) (cnt tot : Int) (vf vw vk vn : Value) (F : List (Value × List Int)) (ws : List Value) (K : List (Value × Nat × Nat)) {A : List (Value × List Value × TypeId)} (w : World) (hF : F.length ≤ 1000000) (h : Core w base hb ρ cnt tot vf vw vk vn F ws K A) :
    Calls Try.prog 70 #[.pointer (some ⟨hb, 0, none⟩)] w fun e w' => e = .returned (.tuple #[]) ∧ Calm w w' := by
  obtain ⟨af, cf, rfl, h1, h2, hfc⟩ := h.fresh.open
  obtain ⟨aw, cw, rfl, h3, h4, hwc⟩ := h.was.open
  rw [List.length_map] at hfc h1
  show Calls _ _ _ _ _
  have hwl := h.wlen
  have HC := Lib.hid h
  have hr := h.row
  rw [List.length_map] at hr
  obtain ⟨n, hn⟩ : ∃ n, n = F.length := ⟨_, rfl⟩
  rw [← hn] at hfc h1 hwl hr hF
  rw [hwl] at hwc h3 hr
  have HR := Lib.hid hr
  have HFC := Lib.hid hfc
  have HWC := Lib.hid hwc
  have HN := Lib.hid hn
  have HWL := Lib.hid hwl
  clear hfc hwc hn h hr hwl
  go_enter Try.func70, Try.ntmps70
  go_wp2
  go_loopw [2] (fun s wr => ∃ i : Nat, i ≤ n ∧ s = .int .i64 i ∧ Calm w wr) (fun s _ => n - (intOf s).toNat)
  case atStart => exact ⟨0, Nat.zero_le _, rfl, Calm.refl _⟩
  case round =>
    obtain ⟨i, hi, rfl, hCa⟩ := hrel
    have hr := HR.out.calm hCa
    have q2 := hr.cell 1
    have q3 := hr.cell 2
    have q6 := hr.cell 5
    have f6 := hr.free 5
    simp only [List.getElem?_cons_zero, List.getElem?_cons_succ] at q2 q3 q6
    by_cases hlt : i < n
    · obtain ⟨bf, rfl, _, _, _, hf⟩ := HFC.out (by omega)
      obtain ⟨bw, rfl, _, _, _, hw⟩ := HWC.out (by omega)
      have e1 := (hCa.cell _).trans (hf i hlt).1
      have e2 := (hCa.cell _).trans (hw i hlt).1
      obtain ⟨x, hx⟩ : ∃ x, F[i]? = some x := ⟨F[i]'(by have := HN.out; omega), by simp⟩
      obtain ⟨v, hv⟩ : ∃ v, ws[i]? = some v := ⟨ws[i]'(by have := HWL.out; omega), by simp⟩
      rw [List.getElem?_map, hx] at e1
      rw [hv] at e2
      change _ = some x.1 at e1
      have hO := HC.out.item i x hx
      have hW := HC.out.copy i v x hv hx
      have HOL := Lib.hid (show x.2.length ≤ 9223372036854775807 from hO.2)
      have hs1 : ∀ w', Calm w w' → Ints w' x.1 x.2 := fun w' hc => ints_of_own (hO.1.same hc.heap).1 (by simp)
      have hs2 : ∀ w', Calm w w' → Ints w' v x.2 := fun w' hc => ints_of_own (hW.same hc.heap).1 (by simp)
      obtain ⟨u, hu⟩ : ∃ u, x.1 = u := ⟨_, rfl⟩
      have hmk : ∀ w' : World, Calm w w' → w'.cell? ⟨hb, 5, none⟩ = some (.bool false) ∧ w'.cell? ⟨hb, 1, none⟩ = some (.slice (some ⟨bf, 0, none⟩) n cf) ∧ w'.cell? ⟨hb, 2, none⟩ = some (.slice (some ⟨bw, 0, none⟩) n cw) ∧
          w'.cell? ⟨bf, i, none⟩ = some u ∧ w'.cell? ⟨bw, i, none⟩ = some v ∧ w'.frozen? ⟨hb, 5, none⟩ = false ∧ Calm w w' := fun w' hc => by
        have hr' := HR.out.calm hc
        refine ⟨by simpa using hr'.cell 5, by simpa using hr'.cell 1, by simpa using hr'.cell 2, ?_, ?_, hr'.free 5, hc⟩
        · rw [hc.cell, ← hCa.cell, e1, hu]
        · rw [hc.cell, ← hCa.cell, e2]
      rw [hu] at e1 hs1
      have HCA := Lib.hid hCa
      have HS1 := Lib.hid hs1
      have HS2 := Lib.hid hs2
      have HMK := Lib.hid hmk
      clear hf hw hO hW hs1 hs2 hCa hr hu hx hv hmk q3 q6 f6 e1 e2
      have i1 : (i : Int) < n := by omega
      have i2 : (0 : Int) ≤ (i : Int) := by omega
      go_wp2_with fail
      go_region_held3 (fun w' : World => w'.cell? ⟨hb, 5, none⟩ = some (.bool false) ∧ w'.cell? ⟨hb, 1, none⟩ = some (.slice (some ⟨bf, 0, none⟩) n cf) ∧ w'.cell? ⟨hb, 2, none⟩ = some (.slice (some ⟨bw, 0, none⟩) n cw) ∧
          w'.cell? ⟨bf, i, none⟩ = some u ∧ w'.cell? ⟨bw, i, none⟩ = some v ∧ w'.frozen? ⟨hb, 5, none⟩ = false ∧ Calm w w') (first | exact HMK.out _ HCA.out.drew | exact HMK.out _ (last7 (by assumption)) | exact HMK.out _ (HCA.out.drewN _) | exact HMK.out _ (Calm.drewN (last7 (by assumption)) _) | exact HMK.out _ (Calm.set (last7 (by assumption)) (Row.calm HR.out (last7 (by assumption))) rfl))
        (first
          | (go_at_call 34; refine (ints_same _ _ x.2 HOL.out _ (HS1.out _ (last7 (by assumption))) (HS2.out _ (last7 (by assumption)))).mono ?_; rintro e w' ⟨rfl, nq, rfl⟩))
      have hS := last7 (by assumption)
      go_wp2
      go_roundw
      case rel => exact ⟨i + 1, hlt, by go_num, hS⟩
      case measure => simp [intOf]; omega
    · obtain rfl : i = n := by omega
      go_wp2
      go_end0
      exact ⟨rfl, hCa⟩

set_option maxRecDepth 100000 in
set_option maxHeartbeats 3200000 in
theorem holds_of (base hb : Nat) (ρ : Nat → Nat) (cnt tot : Int) (vf vw vk vn : Value) (F : List (Value × List Int)) (ws : List Value) (K : List (Value × Nat × Nat)) {A : List (Value × List Value × TypeId)} (w : World) (hF : F.length ≤ 1000000) (hK : K.length ≤ 1000000)
    (hKl : ∀ x ∈ K, x.2.1 ≤ 1000000 ∧ x.2.2 ≤ 1000000000000) (h : Core w base hb ρ cnt tot vf vw vk vn F ws K A) :
    Calls Try.prog 59 #[.pointer (some ⟨hb, 0, none⟩)] w fun e w' => e = .returned (.bool true) ∧ Calm w w' := by
  have HC := Lib.hid h
  obtain ⟨ak, ck, rfl, h1, h2, hkc⟩ := h.kept.open
  obtain ⟨an, cn, rfl, h3, h4, hnc⟩ := h.nums.open
  rw [List.length_map] at hkc h1 hnc h3
  have hr := h.row
  rw [List.length_map, List.length_map] at hr
  obtain ⟨n, hn⟩ : ∃ n, n = K.length := ⟨_, rfl⟩
  rw [← hn] at hkc h1 hr hK hnc h3
  have HR := Lib.hid hr
  have HKC := Lib.hid hkc
  have HNC := Lib.hid hnc
  have HN := Lib.hid hn
  have HKL := Lib.hid hKl
  have HF := Lib.hid hF
  clear hkc hnc hn h hr hKl hF
  go_enter Try.func59, Try.ntmps59
  go_wp2_with fail
  refine (look_of base hb ρ cnt tot vf vw _ _ F ws K _ HF.out HC.out).mono ?_
  rintro e w1 ⟨rfl, hCa⟩
  go_wp2
  go_loopw [3] (fun s wr => ∃ i : Nat, i ≤ n ∧ s = .int .i64 i ∧ Calm w wr) (fun s _ => n - (intOf s).toNat)
  case atStart => exact ⟨0, Nat.zero_le _, rfl, hCa⟩
  case round =>
    clear hCa
    obtain ⟨i, hi, rfl, hCa⟩ := hrel
    have hr := HR.out.calm hCa
    have q4 := hr.cell 3
    simp only [List.getElem?_cons_zero, List.getElem?_cons_succ] at q4
    by_cases hlt : i < n
    · have i1 : (i : Int) < n := by omega
      have i2 : (0 : Int) ≤ (i : Int) := by omega
      obtain ⟨bk, rfl, _, _, _, hf⟩ := HKC.out (by omega)
      obtain ⟨bn, rfl, _, _, _, hw⟩ := HNC.out (by omega)
      obtain ⟨x, hx⟩ : ∃ x, K[i]? = some x := ⟨K[i]'(by have := HN.out; omega), by simp⟩
      have hxm : x ∈ K := List.mem_of_getElem? hx
      have e1 := (hf i hlt).1
      have e2 := (hw i hlt).1
      rw [List.getElem?_map, hx] at e1 e2
      change _ = some x.1 at e1
      change _ = some (Value.int .i64 (x.2.1 : Int)) at e2
      have hO := HC.out.done x hxm
      obtain ⟨l, hl⟩ : ∃ l, l = x.2.1 := ⟨_, rfl⟩
      obtain ⟨m, hm⟩ : ∃ m, m = x.2.2 := ⟨_, rfl⟩
      have hlm := HKL.out x hxm
      rw [← hl] at e2 hO hlm
      rw [← hm] at hO hlm
      obtain ⟨ag, cg, hv, _, _, hgc⟩ := hO.open
      rw [ownl_length] at hv hgc
      rw [hv] at e1
      have e1' := (hCa.cell _).trans e1
      have HLM := Lib.hid hlm
      have HGC := Lib.hid hgc
      have E1 := Lib.hid e1
      have E2 := Lib.hid e2
      have HCA := Lib.hid hCa
      clear hf hw hx hxm hO hl hm hlm hv hgc e1 e2 hCa hr
      go_wp2
      go_loopw [4] (fun s wr => ∃ j : Nat, j ≤ m ∧ s = .int .i64 j ∧ Calm w wr) (fun s _ => m - (intOf s).toNat)
      case atStart => exact ⟨0, Nat.zero_le _, rfl, HCA.out⟩
      case round =>
        clear e1' q4
        obtain ⟨j, hj, rfl, hCa⟩ := hrel
        have hr := HR.out.calm hCa
        have q4 := hr.cell 3
        simp only [List.getElem?_cons_zero, List.getElem?_cons_succ] at q4
        have e1 := (hCa.cell _).trans E1.out
        by_cases hlt2 : j < m
        · have j1 : (j : Int) < m := by omega
          have j2 : (0 : Int) ≤ (j : Int) := by omega
          have j3 : m ≤ 1000000000000 := by have := HLM.out; omega
          obtain ⟨bg, rfl, _, _, _, hg⟩ := HGC.out (by omega)
          have e3 := (hg j hlt2).1
          rw [ownl_get l hlt2] at e3
          obtain ⟨o, ho⟩ : ∃ o, o = ownv l j := ⟨_, rfl⟩
          rw [← ho] at e3
          have hoo : (o != o) = false := by simp
          have hl3 : l ≤ 1000000 := HLM.out.1
          have hw1 : IntKind.i64.wrap ((l : Int) + 1) = (l : Int) + 1 := IntWalk.i64_in _ (by omega)
          have hw2 : IntKind.i64.wrap (-1000003 * ((l : Int) + 1)) = -1000003 * ((l : Int) + 1) := IntWalk.i64_in _ (by omega)
          have hw3 : IntKind.i64.wrap (-1000003 * ((l : Int) + 1) - (j : Int)) = o := by rw [ho]; exact IntWalk.i64_in _ (by omega)
          have hmk : ∀ w' : World, Calm w w' → w'.cell? ⟨hb, 5, none⟩ = some (.bool false) ∧ w'.cell? ⟨hb, 3, none⟩ = some (.slice (some ⟨bk, 0, none⟩) n ck) ∧ w'.cell? ⟨hb, 4, none⟩ = some (.slice (some ⟨bn, 0, none⟩) n cn) ∧
              w'.cell? ⟨bk, i, none⟩ = some (.slice (some ⟨bg, 0, none⟩) m cg) ∧ w'.cell? ⟨bg, j, none⟩ = some (.int .i64 o) ∧ w'.cell? ⟨bn, i, none⟩ = some (.int .i64 l) ∧ w'.frozen? ⟨hb, 5, none⟩ = false ∧ Calm w w' := fun w' hc => by
            have hr' := HR.out.calm hc
            refine ⟨by simpa using hr'.cell 5, by simpa using hr'.cell 3, by simpa using hr'.cell 4, ?_, ?_, ?_, hr'.free 5, hc⟩
            · rw [hc.cell, E1.out]
            · rw [hc.cell, e3]
            · rw [hc.cell, E2.out]
          have HMK := Lib.hid hmk
          have HO := Lib.hid ho
          have HCA := Lib.hid hCa
          clear hmk hg e3 ho hCa hr
          go_wp2_with fail
          go_region_held3 (fun w' : World => w'.cell? ⟨hb, 5, none⟩ = some (.bool false) ∧ w'.cell? ⟨hb, 3, none⟩ = some (.slice (some ⟨bk, 0, none⟩) n ck) ∧ w'.cell? ⟨hb, 4, none⟩ = some (.slice (some ⟨bn, 0, none⟩) n cn) ∧
              w'.cell? ⟨bk, i, none⟩ = some (.slice (some ⟨bg, 0, none⟩) m cg) ∧ w'.cell? ⟨bg, j, none⟩ = some (.int .i64 o) ∧ w'.cell? ⟨bn, i, none⟩ = some (.int .i64 l) ∧ w'.frozen? ⟨hb, 5, none⟩ = false ∧ Calm w w')
            (first | exact HMK.out _ HCA.out.drew | exact HMK.out _ (last8 (by assumption)) | exact HMK.out _ (Calm.set (last8 (by assumption)) (Row.calm HR.out (last8 (by assumption))) rfl))
            (fail)
          have hS := last8 (by assumption)
          go_wp2
          go_roundw
          case rel => exact ⟨j + 1, hlt2, by go_num, hS⟩
          case measure => simp [intOf]; omega
        · obtain rfl : j = m := by omega
          go_wp2
          go_roundw
          case rel => exact ⟨i + 1, hlt, by go_num, hCa⟩
          case measure => simp [intOf]; omega
    · obtain rfl : i = n := by omega
      have q6 := hr.cell 5
      simp only [List.getElem?_cons_zero, List.getElem?_cons_succ] at q6
      go_wp2
      go_ret
      exact ⟨rfl, hCa⟩
end Go.Proofs.Ytcjomhmpebhhlaa.Led
