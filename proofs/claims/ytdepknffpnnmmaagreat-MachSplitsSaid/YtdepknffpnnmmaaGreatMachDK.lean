import Derived.Test.YtdepknffpnnmmaaGreatMachDE
import Derived.Test.YtdepknffpnnmmaaGreatMachDC
set_option maxRecDepth 100000
set_option maxHeartbeats 1600000
namespace Go.Proofs.YtdepknffpnnmmaaGreat
open Go.RowKit
set_option linter.unusedVariables false
set_option linter.unusedSimpArgs false
theorem new_misfit (lo hi : Int) (data : List Int) (tabs : List (Int × Int)) (code : List Ins) (da ta ca xa ra : Option Addr) (dc tc cc xc rc : Nat) (ctx : List Int) (vals : List Value) (rows : List (List Int))
 (hmd : (Prg.mk lo hi data tabs code).made) (hft : ¬ fitsP lo hi tabs ctx.length rows) (hxl : ctx.length <= 4611686018427387903) (hrl : rows.length <= 4611686018427387903) (w : World)
 (ht : Tabs w (.slice ta tabs.length tc) tabs) (hc : Coded w (.slice ca code.length cc) code) (hr : Rowed w (.slice ra rows.length rc) vals rows) :
 Calls Tryz.prog 18 #[.agg #[.int .i64 lo, .int .i64 hi, .slice da data.length dc, .slice ta tabs.length tc, .slice ca code.length cc], .agg #[.slice xa ctx.length xc, .slice ra rows.length rc]] w (Refused w 3) := by
 have hmd' := hmd
 obtain ⟨⟨m1, m2, m3, m4, m5, m6⟩, m7, m8, m9⟩ := hmd'
 simp only at m1 m2 m3 m4 m5 m6 m7 m8 m9
 have hmade := fun w' (h1 : Tabs w' (.slice ta tabs.length tc) tabs) (h2 : Coded w' (.slice ca code.length cc) code) => made_of (Prg.mk lo hi data tabs code) da ta ca dc tc cc (by simp only; omega) (by simp only; omega) (by simp only; have := m8.1; omega) w' h1 h2
 simp only at hmade
 have hfits := fun w' (h1 : Tabs w' (.slice ta tabs.length tc) tabs) (h2 : Rowed w' (.slice ra rows.length rc) vals rows) => fits_of lo hi tabs (.slice da data.length dc) (.slice ca code.length cc) ta xa ra tc xc rc ctx.length vals rows (by omega) hrl hxl m7 w' h1 h2
 obtain ⟨nd, hnd⟩ : ∃ n, n = data.length := ⟨_, rfl⟩
 obtain ⟨nt, hnt⟩ : ∃ n, n = tabs.length := ⟨_, rfl⟩
 obtain ⟨nc, hnc⟩ : ∃ n, n = code.length := ⟨_, rfl⟩
 obtain ⟨nx, hnx⟩ : ∃ n, n = ctx.length := ⟨_, rfl⟩
 obtain ⟨nr, hnr⟩ : ∃ n, n = rows.length := ⟨_, rfl⟩
 have hft2 := hft
 simp only [<- hnd, <- hnt, <- hnc, <- hnx, <- hnr] at hmade hfits ht hc hr hft2 ⊢
 have hr0 : Row ((w.alloc (.cells #[.int .i64 lo, .int .i64 hi, .slice da nd dc, .slice ta nt tc, .slice ca nc cc] 44)).alloc (.cells #[.slice xa nx xc, .slice ra nr rc] 46)) w.heap.size 44 (prgc lo hi (.slice da nd dc) (.slice ta nt tc) (.slice ca nc cc)) := (Row.made w (prgc lo hi (.slice da nd dc) (.slice ta nt tc) (.slice ca nc cc)) _).alloc _
 have hr2 : Row ((w.alloc (.cells #[.int .i64 lo, .int .i64 hi, .slice da nd dc, .slice ta nt tc, .slice ca nc cc] 44)).alloc (.cells #[.slice xa nx xc, .slice ra nr rc] 46)) (w.heap.size + 1) 46 (inpc (.slice xa nx xc) (.slice ra nr rc)) := row_two w _ (inpc (.slice xa nx xc) (.slice ra nr rc)) _
 have hB0 := ((Below.refl w.heap.size w).alloc (Nat.le_refl _) (.cells #[.int .i64 lo, .int .i64 hi, .slice da nd dc, .slice ta nt tc, .slice ca nc cc] 44)).alloc (by simp) (.cells #[.slice xa nx xc, .slice ra nr rc] 46)
 have HN0 := Lib.hid (NB.mk hr0 hr2 hB0)
 have HMADE := Lib.hid hmade
 have HFITS := Lib.hid hfits
 have HMD := Lib.hid hmd
 have HFT := Lib.hid hft2
 have HT := Lib.hid ht
 have HC := Lib.hid hc
 have HR := Lib.hid hr
 clear hmade hfits hmd hft hft2 ht hc hr hr0 hr2 hB0 m1 m2 m3 m4 m5 m6 m7 m8 m9 hnd hnt hnc hnx hnr hxl hrl
 go_enter Tryz.func18, Tryz.ntmps18
 go_wp2_with fail
 refine (HMADE.out _ (HT.out.below HN0.out.bel (Nat.le_refl _)) (HC.out.below HN0.out.bel (Nat.le_refl _))).mono ?_
 rintro e w1 ⟨d, rfl, hiff, hB⟩
 obtain rfl : d = true := hiff.2 HMD.out
 have HN1 := Lib.hid (HN0.out.below hB)
 clear hB hiff
 obtain ⟨c0, c1, c2, c3, c4⟩ := prg_row HN1.out.rp
 obtain ⟨d0, d1⟩ := inp_row HN1.out.ri
 go_wp2_with fail
 refine (HFITS.out _ (HT.out.below HN1.out.bel (Nat.le_refl _)) (HR.out.below HN1.out.bel (Nat.le_refl _))).mono ?_
 rintro e w2 ⟨d, rfl, hiff, hB⟩
 obtain rfl : d = false := by
  cases d with
  | false => rfl
  | true => exact absurd (hiff.1 rfl) HFT.out
 have HN2 := Lib.hid (HN1.out.below hB)
 clear hB hiff c0 c1 c2 c3 c4 d0 d1
 go_wp2
 exact bodyPost_ret (v := .tuple #[.pointer none, .int .i64 3]) (by simp [results, Tryz.results18, go_sem]) rfl ⟨rfl, HN2.out.bel⟩
noncomputable def newE (p : Prg) (ctx : List Int) (rows : List (List Int)) : Int :=
 open Classical in if p.made then if fitsP p.lo p.hi p.tabs ctx.length rows then 0 else 3 else 1
theorem newE_zero {p : Prg} {ctx : List Int} {rows : List (List Int)} : newE p ctx rows = 0 ↔ p.made /\ fitsP p.lo p.hi p.tabs ctx.length rows := by
 unfold newE
 split
 ·split
  ·exact ⟨fun _ => ⟨by assumption, by assumption⟩, fun _ => rfl⟩
  ·exact ⟨fun h => absurd h (by decide), fun h => absurd h.2 (by assumption)⟩
 ·exact ⟨fun h => absurd h (by decide), fun h => absurd h.1 (by assumption)⟩
theorem new_any (p : Prg) (da ta ca xa ra : Option Addr) (dc tc cc xc rc : Nat) (ctx : List Int) (vals : List Value) (rows : List (List Int))
 (hld : p.data.length <= 4611686018427387903) (hlt : p.tabs.length <= 4611686018427387903) (hlc : p.code.length <= 4611686018427387903) (hxl : ctx.length <= 4611686018427387903) (hrl : rows.length <= 4611686018427387903) (w : World)
 (hd : Held w (.slice da p.data.length dc) p.data) (ht : Tabs w (.slice ta p.tabs.length tc) p.tabs) (hc : Coded w (.slice ca p.code.length cc) p.code)
 (hx : Held w (.slice xa ctx.length xc) ctx) (hr : Rowed w (.slice ra rows.length rc) vals rows) :
 Calls Tryz.prog 18 #[.agg #[.int .i64 p.lo, .int .i64 p.hi, .slice da p.data.length dc, .slice ta p.tabs.length tc, .slice ca p.code.length cc], .agg #[.slice xa ctx.length xc, .slice ra rows.length rc]] w fun e w' =>
  (newE p ctx rows = 0 /\ ∃ bx v, e = .returned (.tuple #[.pointer (some ⟨bx, 0, none⟩), .int .i64 0]) /\ MS w.heap.size w ⟨p.data, p.tabs, p.code⟩ (stG ctx rows) bx v w') \/
  (newE p ctx rows ≠ 0 /\ e = .returned (.tuple #[.pointer none, .int .i64 (newE p ctx rows)]) /\ Below w.heap.size w w') := by
 obtain ⟨lo, hi, data, tabs, code⟩ := p
 simp only at hld hlt hlc hd ht hc ⊢
 by_cases hm : (Prg.mk lo hi data tabs code).made
 ·by_cases hf : fitsP lo hi tabs ctx.length rows
  ·have h0 : newE ⟨lo, hi, data, tabs, code⟩ ctx rows = 0 := newE_zero.2 ⟨hm, hf⟩
   refine (new_G lo hi data tabs code da ta ca xa ra dc tc cc xc rc ctx vals rows hm hf w hd ht hc hx hr).mono ?_
   intro e w' h
   exact Or.inl ⟨h0, h⟩
  ·have h3 : newE ⟨lo, hi, data, tabs, code⟩ ctx rows = 3 := by unfold newE; rw [if_pos hm, if_neg hf]
   refine (new_misfit lo hi data tabs code da ta ca xa ra dc tc cc xc rc ctx vals rows hm hf hxl hrl w ht hc hr).mono ?_
   rintro e w' ⟨he, hB⟩
   exact Or.inr ⟨by rw [h3]; decide, by rw [h3]; exact he, hB⟩
 ·have h1 : newE ⟨lo, hi, data, tabs, code⟩ ctx rows = 1 := by unfold newE; rw [if_neg hm]
  refine (new_bad lo hi data tabs code da ta ca xa ra dc tc cc ctx.length xc rows.length rc hm hld hlt hlc w ht hc).mono ?_
  rintro e w' ⟨he, hB⟩
  exact Or.inr ⟨by rw [h1]; decide, by rw [h1]; exact he, hB⟩
end Go.Proofs.YtdepknffpnnmmaaGreat
