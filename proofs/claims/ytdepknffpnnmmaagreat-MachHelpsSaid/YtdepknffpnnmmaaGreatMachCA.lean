/-
  Runs of programs of any instructions whose doers are known.
-/
import Derived.Test.YtdepknffpnnmmaaGreatMachBN
namespace Go.Proofs.YtdepknffpnnmmaaGreat.X
open Go.RowKit
set_option linter.unusedVariables false
set_option linter.unusedSimpArgs false

/-- Instructions whose doers are known. -/
structure DoK (K : Ins → Prop) : Prop where
  do' : ∀ {fx : Mfix} {s : Mst}, Good fx s → ∀ i, InsOK fx i → K i → DoR (doerF i.op) fx s i (doF fx s i).by' (doF fx s i).er (doF fx s i).s
  no21 : ∀ i, K i → i.op ≠ 21
structure CodeOK (K : Ins → Prop) (fx : Mfix) : Prop where
  len : fx.code.length ≤ 4096
  ins : ∀ i ∈ fx.code, InsOK fx i ∧ K i
  last : ∀ k i, fx.code[k]? = some i → k + 1 = fx.code.length → (26 ≤ i.op ∧ i.op ≤ 37) ∨ i.op = 39
theorem step_R {K : Ins → Prop} {fx : Mfix} {s : Mst} (hK : DoK K) (hc : CodeOK K fx) (h : Good fx s) (hat : s.at' < fx.code.length) (hd : s.done = false) (hst : 0 ≤ s.steps ∧ s.steps < 4611686018427387904) : StepR fx s (stepF fx s).1 (stepF fx s).2 := by
  have hg : fx.code[s.at']? = some fx.code[s.at'] := List.getElem?_eq_getElem hat
  obtain ⟨hi, hk⟩ := hc.ins _ (List.getElem_mem hat)
  refine step_F fx s _ hg hd hc.len ?_ hi.op.2 hst (doF_byr hi) (hK.do' h _ hi hk)
  by_cases hl : s.at' + 1 = fx.code.length
  · rcases hc.last _ _ hg hl with h | h
    · exact Or.inl h
    · exact Or.inr (Or.inl h)
  · exact Or.inr (Or.inr hl)
theorem stepF_count {K : Ins → Prop} {fx : Mfix} {s : Mst} (hK : DoK K) (hc : CodeOK K fx) (hat : s.at' < fx.code.length) : (stepF fx s).2.at' < fx.code.length ∧ s.steps ≤ (stepF fx s).2.steps ∧ (stepF fx s).2.steps ≤ s.steps + 1 := by
  have hg : fx.code[s.at']? = some fx.code[s.at'] := List.getElem?_eq_getElem hat
  obtain ⟨hi, hk⟩ := hc.ins _ (List.getElem_mem hat)
  have hg' : fx.code.getD s.at' ⟨0, false, false, 0, 0, 0, 0, 0⟩ = fx.code[s.at'] := by rw [List.getD_eq_getElem?_getD, hg]; rfl
  obtain ⟨q1, q2⟩ := doF_at (fx := fx) (s := s) hi.op.2
  unfold stepF
  split
  · exact ⟨hat, Int.le_refl _, by show s.steps ≤ s.steps + 1; omega⟩
  · simp only [hg']
    split
    · exact ⟨hat, Int.le_refl _, by show s.steps ≤ s.steps + 1; omega⟩
    · split
      · refine ⟨by show (doF fx s fx.code[s.at']).s.at' < _; rw [q2]; exact hat, ?_, ?_⟩
        · show s.steps ≤ (doF fx s fx.code[s.at']).s.steps + 1; omega
        · show (doF fx s fx.code[s.at']).s.steps + 1 ≤ _; omega
      · split
        · rename_i j hj
          refine ⟨(where_some hj).1, ?_, ?_⟩
          · show s.steps ≤ (doF fx s fx.code[s.at']).s.steps + 1; omega
          · show (doF fx s fx.code[s.at']).s.steps + 1 ≤ _; omega
        · exact ⟨hat, Int.le_refl _, by show s.steps ≤ s.steps + 1; omega⟩
theorem run_R {K : Ins → Prop} {fx : Mfix} (hK : DoK K) (hc : CodeOK K fx) : ∀ (n : Nat) (s : Mst), Good fx s → s.at' < fx.code.length → 0 ≤ s.steps → s.steps + n < 4611686018427387904 →
    Runs fx s n (runF fx n s).1 (runF fx n s).2 ∧ Good fx (runF fx n s).2
  | 0, s, h, hat, h0, hn => by
    unfold runF
    cases hd : s.done with
    | true => exact ⟨Runs.done s 0 hd, h⟩
    | false => exact ⟨Runs.fuel s hd, h⟩
  | n + 1, s, h, hat, h0, hn => by
    unfold runF
    cases hd : s.done with
    | true => exact ⟨Runs.done s _ hd, h⟩
    | false =>
      rw [if_neg (by decide)]
      have hR := step_R hK hc h hat hd ⟨h0, by omega⟩
      have hG : Good fx (stepF fx s).2 := stepF_ok h _ (hc.ins _ (List.getElem_mem hat)).1 (List.getElem?_eq_getElem hat)
      obtain ⟨c1, c2, c3⟩ := stepF_count (s := s) hK hc hat
      by_cases he : (stepF fx s).1 = 0
      · rw [if_pos he]
        obtain ⟨r1, r2⟩ := run_R hK hc n (stepF fx s).2 hG c1 (by omega) (by push_cast at hn; omega)
        rw [he] at hR
        exact ⟨Runs.step _ _ _ _ _ hd hR r1, r2⟩
      · rw [if_neg he]
        exact ⟨Runs.trap _ _ _ _ hd hR he, hG⟩
structure ProgOK (K : Ins → Prop) (code : List Ins) : Prop where
  len : 0 < code.length ∧ code.length ≤ 4096
  ins : ∀ i ∈ code, i.right = 0 ∧ i64r i.imm ∧ K i
  last : ∀ k i, code[k]? = some i → k + 1 = code.length → (26 ≤ i.op ∧ i.op ≤ 37) ∨ i.op = 39
theorem ProgOK.made {K : Ins → Prop} {code : List Ins} (hK : DoK K) (h : ProgOK K code) (hi : Int) (hh : 0 ≤ hi ∧ hi ≤ 65535) : (Prg.mk 0 hi [] [] code).made := by
  refine ⟨⟨by show (0 : Int) ≤ 0; decide, hh.1, hh.2, by show (0 : Nat) ≤ 4096; decide, by show (0 : Nat) ≤ 8; decide, h.len.1⟩, fun i hi => absurd hi (by simp), ⟨h.len.2, fun i hi => (h.ins _ (List.getElem_mem hi)).1⟩, fun i hi ho => ?_⟩
  exact absurd ho (hK.no21 _ (h.ins _ (List.getElem_mem hi)).2.2)
theorem ProgOK.code {K : Ins → Prop} {code : List Ins} (hK : DoK K) (h : ProgOK K code) : CodeOK K ⟨[], [], code⟩ :=
  ⟨h.len.2, fun i hi => ⟨insOK_of_right _ i (h.ins i hi).1 (h.ins i hi).2.1 (fun h21 => absurd h21 (hK.no21 _ (h.ins i hi).2.2)), (h.ins i hi).2.2⟩, h.last⟩
theorem runs_any {K : Ins → Prop} (code : List Ins) (hK : DoK K) (hp : ProgOK K code) (ctx : List Int) (hb : IsBytes ctx) (hcl : ctx.length ≤ 65535) (er : Int) (s2 : Mst) (hr : runF ⟨[], [], code⟩ 1048576 (st0 ctx) = (er, s2)) (ca : Option Addr) (cc : Nat) (xv : Value)
    (w : World) (hc : Coded w (.slice ca code.length cc) code) (hx : Held w xv ctx) :
    Calls Tryz.prog 9 #[.slice ca code.length cc, xv] w (RunsSays w er s2) := by
  obtain ⟨h1, h2⟩ := run_R hK (hp.code hK) 1048576 (st0 ctx) (good0 code ctx hb hcl) hp.len.1 (by show (0 : Int) ≤ 0; decide) (by show (0 : Int) + 1048576 < _; decide)
  rw [hr] at h1 h2
  have hrl := h2.mem.rowsl
  exact runs_of code ctx ca cc xv (hp.made hK 65535 (by decide)) hcl er s2 h1 (List.eq_nil_of_length_eq_zero hrl) h2.mem.ctxl (Nat.le_trans h2.sent.1 (by decide)) w hc hx
theorem runs_r0 {K : Ins → Prop} (code : List Ins) (hK : DoK K) (hp : ProgOK K code) (er : Int) (s2 : Mst) (hr : runF ⟨[], [], code⟩ 1048576 (st0 []) = (er, s2)) (r0 : Int) (h0 : er = 0 → (s2.reg 0).x = r0) (h1 : er ≠ 0 → r0 = 0) (ca : Option Addr) (cc : Nat) (n : Nat) (hn : n = code.length)
    (w : World) (hc : Coded w (.slice ca n cc) code) : Calls Tryz.prog 9 #[.slice ca n cc, .slice none 0 0] w (SeenR w er r0) := by
  subst hn
  have hrl := (run_R hK (hp.code hK) 1048576 (st0 []) (good0 code [] IsBytes.nil (by simp)) hp.len.1 (by show (0 : Int) ≤ 0; decide) (by show (0 : Int) + 1048576 < _; decide)).2.regs.1
  rw [hr] at hrl
  refine (runs_any code hK hp [] IsBytes.nil (by simp) er s2 hr ca cc (.slice none 0 0) w hc ⟨fun x hx => (by cases hx), Or.inl ⟨rfl, Or.inl rfl⟩⟩).mono ?_
  rintro e w' ⟨r0', a1, n1, c1, a2, n2, c2, a3, n3, c3, rfl, hO, hB⟩
  have hr0 : r0' = r0 := by
    by_cases hg : er = 0
    · rw [← h0 hg]
      simp only at hrl
      rw [show s2.reg 0 = s2.rg[0]'(by omega) from s2.reg_get 0 (by omega)]
      exact hO.r0 hg _ (List.getElem?_eq_getElem _)
    · rw [h1 hg]; exact (hO.fail hg).1
  subst hr0
  exact ⟨_, _, _, _, _, _, _, _, _, rfl, hB⟩
theorem runs_ok {K : Ins → Prop} (code : List Ins) (hK : DoK K) (hp : ProgOK K code) (ctx : List Int) (hb : IsBytes ctx) (hcl : ctx.length ≤ 65535) (s2 : Mst) (hr : runF ⟨[], [], code⟩ 1048576 (st0 ctx) = (0, s2)) (r0 : Int) (h0 : (s2.reg 0).x = r0) (ctx' : List Int) (hc' : s2.ctx = ctx') (hb' : IsBytes ctx') (m : Nat) (hm : m = ctx'.length)
    (n : Nat) (hn : n = code.length) (ca : Option Addr) (cc : Nat) (xv : Value) (w : World) (hc : Coded w (.slice ca n cc) code) (hx : Held w xv ctx) :
    Calls Tryz.prog 9 #[.slice ca n cc, xv] w fun e w' => ∃ a1 c1 a2 n2 c2 a3 n3 c3, e = .returned (.tuple #[.agg #[.int .i64 r0, .slice a1 m c1, .slice a2 n2 c2, .slice a3 n3 c3], .int .i64 0]) ∧ w'.ownsRow w.heap.size 5 1 (.slice a1 m c1) m (u8s ctx') ∧ Below w.heap.size w w' := by
  subst hn hc' hm h0
  have hrl := (run_R hK (hp.code hK) 1048576 (st0 ctx) (good0 code ctx hb hcl) hp.len.1 (by show (0 : Int) ≤ 0; decide) (by show (0 : Int) + 1048576 < _; decide)).2.regs.1
  rw [hr] at hrl
  simp only at hrl
  refine (runs_any code hK hp ctx hb hcl 0 s2 hr ca cc xv w hc hx).mono ?_
  rintro e w' ⟨r0', a1, n1, c1, a2, n2, c2, a3, n3, c3, rfl, hO, hB⟩
  have hr0 : r0' = (s2.reg 0).x := by
    rw [show s2.reg 0 = s2.rg[0]'(by omega) from s2.reg_get 0 (by omega)]
    exact hO.r0 rfl _ (List.getElem?_eq_getElem _)
  subst hr0
  have hown := hO.ctx rfl
  obtain ⟨a, c, hv⟩ := own_slice hown
  injection hv with e1 e2 e3
  subst e1 e2 e3
  exact ⟨_, _, _, _, _, _, _, _, rfl, hown, hB⟩
theorem runs_trap8 {K : Ins → Prop} (code : List Ins) (hK : DoK K) (hp : ProgOK K code) (ctx : List Int) (hb : IsBytes ctx) (hcl : ctx.length ≤ 65535) (er : Int) (he : er ≠ 0) (s2 : Mst) (hr : runF ⟨[], [], code⟩ 1048576 (st0 ctx) = (er, s2))
    (n : Nat) (hn : n = code.length) (ca : Option Addr) (cc : Nat) (xv : Value) (w : World) (hc : Coded w (.slice ca n cc) code) (hx : Held w xv ctx) :
    Calls Tryz.prog 9 #[.slice ca n cc, xv] w (SeenR w er 0) := by
  subst hn
  refine (runs_any code hK hp ctx hb hcl er s2 hr ca cc xv w hc hx).mono ?_
  rintro e w' ⟨r0', a1, n1, c1, a2, n2, c2, a3, n3, c3, rfl, hO, hB⟩
  rw [(hO.fail he).1]
  exact ⟨_, _, _, _, _, _, _, _, _, rfl, hB⟩
end Go.Proofs.YtdepknffpnnmmaaGreat.X
