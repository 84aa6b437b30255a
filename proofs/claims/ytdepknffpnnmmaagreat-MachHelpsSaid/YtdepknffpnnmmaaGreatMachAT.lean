/-
  A call's list of arguments, by its number; the doer call, up to its switch.
-/
import Derived.Test.YtdepknffpnnmmaaGreatMachAS
import Derived.Test.YtdepknffpnnmmaaGreatMachAP
import Derived.Test.YtdepknffpnnmmaaGreatMachAV
import Derived.Test.YtdepknffpnnmmaaGreatHelpB
import Derived.Deep.CutRange
import Derived.Deep.CutBlock
import Derived.Deep.AppendLies
import Derived.Deep.LoopGhost
namespace Go.Proofs.YtdepknffpnnmmaaGreat
open Go.RowKit
set_option linter.unusedVariables false
set_option linter.unusedSimpArgs false

def sigA (id : Int) : List Int := if id = 1 ∨ id = 5 then [2, 4, 1, 0, 0] else if id = 2 then [3, 2, 4, 0, 0] else if id = 3 then [3, 1, 4, 0, 0] else if id = 4 then [2, 2, 4, 0, 0] else if id = 6 then [1, 0, 0, 0, 0] else [1, 1, 0, 0, 0]
def sigP (id : Int) : Nat := if id = 1 ∨ id = 5 then 1 else 2
theorem ids {id : Int} (h : 1 ≤ id ∧ id ≤ 8) : id = 1 ∨ id = 2 ∨ id = 3 ∨ id = 4 ∨ id = 5 ∨ id = 6 ∨ id = 7 ∨ id = 8 := by omega
theorem sig_id (id : Int) (h : 1 ≤ id ∧ id ≤ 8) : ∃ lo hi p q, ∀ w, Calls Tryz.prog 96 #[.int .i64 id] w (SigOf (sigA id) lo hi p q w) := by
  rcases ids h with rfl | rfl | rfl | rfl | rfl | rfl | rfl | rfl
  · exact ⟨_, _, _, _, fun w => sig1 w⟩
  · exact ⟨_, _, _, _, fun w => sig2 w⟩
  · exact ⟨_, _, _, _, fun w => sig3 w⟩
  · exact ⟨_, _, _, _, fun w => sig4 w⟩
  · exact ⟨_, _, _, _, fun w => sig5 w⟩
  · exact ⟨_, _, _, _, fun w => sig6 w⟩
  · exact ⟨_, _, _, _, fun w => sig7 w⟩
  · exact ⟨_, _, _, _, fun w => sig8 w⟩
theorem all5 (p : Nat → Prop) : (∀ k, k < 5 → p k) ↔ p 0 ∧ p 1 ∧ p 2 ∧ p 3 ∧ p 4 := by
  constructor
  · intro h
    exact ⟨h 0 (by decide), h 1 (by decide), h 2 (by decide), h 3 (by decide), h 4 (by decide)⟩
  · rintro ⟨h0, h1, h2, h3, h4⟩ k hk
    have hc : k = 0 ∨ k = 1 ∨ k = 2 ∨ k = 3 ∨ k = 4 := by omega
    rcases hc with rfl | rfl | rfl | rfl | rfl <;> assumption
theorem sigP_ok (id : Int) (h : 1 ≤ id ∧ id ≤ 8) : sigP id < 5 ∧ (sigA id).length = 5 ∧ ∀ k, k < 5 → isPtr ((sigA id).getD k 0) = true → k < sigP id ∧ (sigA id).getD (sigP id) 0 = 4 ∧ ∀ j, k < j → j < sigP id → (sigA id).getD j 0 ≠ 4 := by
  rcases ids h with rfl | rfl | rfl | rfl | rfl | rfl | rfl | rfl
  all_goals
    refine ⟨by decide, by decide, fun k hk => ?_⟩
    have hc : k = 0 ∨ k = 1 ∨ k = 2 ∨ k = 3 ∨ k = 4 := by omega
    rcases hc with rfl | rfl | rfl | rfl | rfl
    all_goals
      intro hp
      first
        | exact absurd hp (by decide)
        | (refine ⟨by decide, by decide, fun j h1 h2 => ?_⟩
           have hj : j = 1 := by have h3 : j < 2 := h2; omega
           subst hj
           decide)
        | (refine ⟨by decide, by decide, fun j h1 h2 => ?_⟩
           have h3 : j < 2 := h2
           omega)
        | (refine ⟨by decide, by decide, fun j h1 h2 => ?_⟩
           have h3 : j < 1 := h2
           omega)
theorem asked_eq (fx : Mfix) (s : Mst) (id : Int) (h : 1 ≤ id ∧ id ≤ 8) : ((∀ k, k < 5 → numOK ((sigA id).getD k 0) (s.reg (k + 1 : Nat)) = true) ∧ ∀ k, k < 5 → ptrOKb fx s ((sigA id).getD k 0) (s.reg (k + 1 : Nat)) (s.reg (sigP id + 1 : Nat)).x = true) ↔ askedF fx s id = true := by
  rw [all5, all5]
  rcases ids h with rfl | rfl | rfl | rfl | rfl | rfl | rfl | rfl
  all_goals
    simp [sigA, sigP, numOK, ptrOKb, isPtr, askedF, lensF, and_assoc]
/-- A call's own boxes, the machine as it was. -/
structure KC (w : World) (bx : Nat) (cs : List Value) (op : Int) (nar reg : Bool) (size dst src off imm : Int) (tb : Nat) (sz : List Int) (w' : World) : Prop where
  fm : FM w bx w.heap.size cs op nar reg size dst src off imm w'
  box : Row w' tb 139 (i64m sz)
  lt : w.heap.size ≤ tb
  len : sz.length = 6
theorem KC.next {w wx w' : World} {bx tb : Nat} {cs : List Value} {op : Int} {nar reg : Bool} {size dst src off imm : Int} {sz : List Int} (h : KC w bx cs op nar reg size dst src off imm tb sz wx) (hb : Below wx.heap.size wx w') : KC w bx cs op nar reg size dst src off imm tb sz w' := ⟨h.fm.next hb, h.box.below hb h.box.lt, h.lt, h.len⟩
section
variable {base : Nat} {w0 : World} {fx : Mfix} {s : Mst} {bx : Nat} {v : Mvals}
theorem MS.setd4 {w : World} (h : MS base w0 fx s bx v w) (d : Nat) (hd : d < 11) (u : Val) :
    MS base w0 fx (s.setr d u) bx v ((((w.setCell ⟨bx, 423 + d * 4, none⟩ (.int .i64 u.k)).setCell ⟨bx, 423 + d * 4 + 1, none⟩ (.int .i64 u.t)).setCell ⟨bx, 423 + d * 4 + 2, none⟩ (.int .i64 u.o)).setCell ⟨bx, 423 + d * 4 + 3, none⟩ (.int .i64 u.x)) := by
  have hm := ((((Mod.refl w bx).set (423 + d * 4) (.int .i64 u.k)).set (423 + d * 4 + 1) (.int .i64 u.t)).set (423 + d * 4 + 2) (.int .i64 u.o)).set (423 + d * 4 + 3) (.int .i64 u.x)
  have hr := (((h.box.put (423 + d * 4) (.int .i64 u.k)).put (423 + d * 4 + 1) (.int .i64 u.t)).put (423 + d * 4 + 2) (.int .i64 u.o)).put (423 + d * 4 + 3) (.int .i64 u.x)
  have hs := h.set4 d hd u
  unfold Proofs.YtdepknffpnnmmaaGreat.set4 at hs
  rw [hs] at hr
  exact h.mod hm s.sl (s.rg.set d u) s.at' s.steps s.done h.slw (by rw [List.length_set]; exact h.rgl) hr
theorem MS.setd0 {w : World} (h : MS base w0 fx s bx v w) (k t o x : Int) :
    MS base w0 fx (s.setr 0 ⟨k, t, o, x⟩) bx v ((((w.setCell ⟨bx, 423, none⟩ (.int .i64 k)).setCell ⟨bx, 424, none⟩ (.int .i64 t)).setCell ⟨bx, 425, none⟩ (.int .i64 o)).setCell ⟨bx, 426, none⟩ (.int .i64 x)) := h.setd4 0 (by decide) ⟨k, t, o, x⟩
theorem MS.celd4 {w : World} (h : MS base w0 fx s bx v w) (d : Nat) (hd : d < 11) : ∃ a b c x, (w.cell? ⟨bx, 423 + d * 4, none⟩ = some a ∧ w.cell? ⟨bx, 423 + d * 4 + 1, none⟩ = some b ∧ w.cell? ⟨bx, 423 + d * 4 + 2, none⟩ = some c ∧ w.cell? ⟨bx, 423 + d * 4 + 3, none⟩ = some x) ∧
    w.frozen? ⟨bx, 423 + d * 4, none⟩ = false ∧ w.frozen? ⟨bx, 423 + d * 4 + 1, none⟩ = false ∧ w.frozen? ⟨bx, 423 + d * 4 + 2, none⟩ = false ∧ w.frozen? ⟨bx, 423 + d * 4 + 3, none⟩ = false :=
  have hl := h.len
  ⟨(cellsM s v)[423 + d * 4], (cellsM s v)[423 + d * 4 + 1], (cellsM s v)[423 + d * 4 + 2], (cellsM s v)[423 + d * 4 + 3], ⟨by rw [h.box.cell]; simp [hl], by rw [h.box.cell]; simp [hl], by rw [h.box.cell]; simp [hl], by rw [h.box.cell]; simp [hl]⟩, h.box.free _, h.box.free _, h.box.free _, h.box.free _⟩
theorem MS.celd0 {w : World} (h : MS base w0 fx s bx v w) : ∃ a b c x, (w.cell? ⟨bx, 423, none⟩ = some a ∧ w.cell? ⟨bx, 424, none⟩ = some b ∧ w.cell? ⟨bx, 425, none⟩ = some c ∧ w.cell? ⟨bx, 426, none⟩ = some x) ∧
    w.frozen? ⟨bx, 423, none⟩ = false ∧ w.frozen? ⟨bx, 424, none⟩ = false ∧ w.frozen? ⟨bx, 425, none⟩ = false ∧ w.frozen? ⟨bx, 426, none⟩ = false := h.celd4 0 (by decide)
/-- Registers 1 to k are none. -/
def clr (s : Mst) : Nat → Mst
  | 0 => s
  | k + 1 => (clr s k).setr ((k + 1 : Nat) : Int) noval
theorem endF_clr (s : Mst) (V : Val) (hl : s.rg.length = 11) : endF s V = clr (s.setr 0 V) 5 := by
  obtain ⟨sl, rg, ctx, rows, sent, at', steps, done⟩ := s
  simp only at hl
  have hx : ∃ a0 a1 a2 a3 a4 a5 t, rg = a0 :: a1 :: a2 :: a3 :: a4 :: a5 :: t := by
    rcases rg with _ | ⟨a0, _ | ⟨a1, _ | ⟨a2, _ | ⟨a3, _ | ⟨a4, _ | ⟨a5, t⟩⟩⟩⟩⟩⟩
    all_goals first
      | (simp at hl; done)
      | exact ⟨_, _, _, _, _, _, _, rfl⟩
  obtain ⟨a0, a1, a2, a3, a4, a5, t, rfl⟩ := hx
  rfl
set_option maxRecDepth 100000 in
set_option maxHeartbeats 16000000 in
theorem call_emit (op : Int) (nar reg : Bool) (size dst src off imm : Int) (hid6 : imm = 6) (hG : Good fx s) (w : World) (hM : MS base w0 fx s bx v w) :
    Calls Tryz.prog 75 #[.pointer (some ⟨bx, 0, none⟩), .agg #[.int .i64 op, .bool nar, .bool reg, .int .i64 size, .int .i64 dst, .int .i64 src, .int .i64 off, .int .i64 imm]] w fun e w' =>
      e = .returned (.tuple #[.int .i64 0, .int .i64 (callD fx s ⟨op, nar, reg, size, dst, src, off, imm⟩).er]) ∧ ∃ v', MS base w0 fx (callD fx s ⟨op, nar, reg, size, dst, src, off, imm⟩).s bx v' w' ∧ Fr9 v.ρ w w' ∧ ∀ q, q < w.heap.size → v'.ρ q = v.ρ q := by
  have hid : 1 ≤ imm ∧ imm ≤ 8 := by omega
  have H6 := Lib.hid hid6
  clear hid6
  have hl := hM.len
  have HF := Lib.hid (FM.begin hM.box op nar reg size dst src off imm)
  obtain ⟨D, hD⟩ : ∃ D, D = callD fx s ⟨op, nar, reg, size, dst, src, off, imm⟩ := ⟨_, rfl⟩
  rw [← hD]
  have HD := Lib.hid hD
  have HM := Lib.hid hM
  have HGD := Lib.hid hG
  have HID := Lib.hid hid
  obtain ⟨lo, hi, p1, p2, hsig⟩ := sig_id imm hid
  have HSIG := Lib.hid hsig
  clear hM hD hG hid hsig
  obtain ⟨cs, hcs⟩ : ∃ cs, cs = cellsM s v := ⟨_, rfl⟩
  rw [← hcs] at HF hl
  have HCS := Lib.hid hcs
  clear hcs
  go_enter Tryz.func75, Tryz.ntmps75
  go_upto_region 1 with fail
  generalize World.alloc _ _ = w1 at HF ⊢
  obtain ⟨c0, c1, c2, c3, c4, c5, c6, c7⟩ := HF.out.cells
  go_cut [6, 7] from 16 to 21 (fun s6 s7 wx => ∃ q6 g, s6 = .pointer (some ⟨q6, 0, none⟩) ∧ s7 = .bool true ∧ Row wx q6 136 [.slice (some ⟨g, 0, none⟩) 5 5, .int .i64 lo, .int .i64 hi, .bool p1, .bool p2] ∧ Row wx g 3 (i64m (sigA imm)) ∧ FM w bx w.heap.size cs op nar reg size dst src off imm wx)
  case first =>
    go_wp2_with (go_at_call 96; go_loud (refine (HSIG.out _).mono ?_; rintro e wS ⟨g, rfl, hg, hrow, hbS⟩))
    go_meet
    case rel => exact ⟨_, g, rfl, rfl, Row.made wS [.slice (some ⟨g, 0, none⟩) 5 5, .int .i64 lo, .int .i64 hi, .bool p1, .bool p2] _, hrow.alloc _, (HF.out.next hbS).next (below_map wS _)⟩
  case rest =>
    obtain ⟨q6, g, rfl, rfl, hq6, hgr, hF1⟩ := hcut
    have HS1 := Lib.hid (And.intro hgr hF1)
    have hcell : wc.cell? ⟨q6, 0, none⟩ = some (.slice (some ⟨g, 0, none⟩) 5 5) := by rw [hq6.cell]; rfl
    clear c0 c1 c2 c3 c4 c5 c6 c7 hq6 hgr hF1 HF HSIG
    obtain ⟨w2, rfl⟩ : ∃ w2, w2 = wc := ⟨_, rfl⟩
    go_upto_region 4 with fail
    have HMS := Lib.hid (HM.out.same HS1.out.2.mod (by have h := HS1.out.2.mach; rw [HCS.out] at h; exact h))
    obtain ⟨hP5, hal, hPp⟩ := sigP_ok imm HID.out
    have HASK := Lib.hid (asked_of (sigA imm) hal (sigP imm) hP5 hPp (fun d _ => (reg_ok HGD.out.regs d).ptr) (fun d _ => (reg_ok HGD.out.regs d).x) (fun y hy => (HGD.out.mem.slots y hy).2) g w2 HMS.out HS1.out.1)
    clear hP5 hal hPp
    go_cut [7, 8] from 24 to 30 (fun s7 s8 wx => ∃ tb sz, s7 = .bool (askedF fx s imm) ∧ s8 = .pointer (some ⟨tb, 0, none⟩) ∧ KC w bx cs op nar reg size dst src off imm tb sz wx ∧ (askedF fx s imm = true → sz = szL (sigA imm) (s.reg (sigP imm + 1 : Nat)).x 5))
    case first =>
      go_wp2_with (go_at_call 97; go_loud (refine HASK.out.mono ?_; rintro e wA ⟨hbA, sz, ok, hsl, rfl, hok, hsz⟩))
      go_meet
      case rel =>
        have hoke : ok = askedF fx s imm := by
          have h := hok.trans (asked_eq fx s imm HID.out)
          rw [Bool.eq_iff_iff]
          exact h
        obtain ⟨z0, z1, z2, z3, z4, z5, rfl⟩ := list6 hsl
        refine ⟨_, [z0, z1, z2, z3, z4, z5], by rw [hoke], rfl, ⟨(HS1.out.2.next hbA).next (below_map wA _), Row.made wA (i64m [z0, z1, z2, z3, z4, z5]) _, Nat.le_trans HS1.out.2.mod.size hbA.size, rfl⟩, fun h => hsz (hoke.trans h)⟩
    case rest =>
      obtain ⟨tb, sz, rfl, rfl, hKC, hsz⟩ := hcut
      have HKC := Lib.hid hKC
      have HSZ := Lib.hid hsz
      clear hKC hsz HASK hcell
      obtain ⟨ASK, hASK⟩ : ∃ A : Bool, askedF fx s imm = A := ⟨_, rfl⟩
      rw [hASK]
      have HASK := Lib.hid hASK
      clear hASK
      cases ASK with
      | false =>
        have e := HD.out
        unfold callD at e
        rw [if_neg (by have := HID.out; show ¬ (imm < 1 ∨ 8 < imm); omega), if_pos HASK.out] at e
        have HE := Lib.hid e
        clear e
        go_wp2_with fail
        exact bodyPost_ret (v := .tuple #[.int .i64 0, .int .i64 87]) (by simp [results, Tryz.results75, go_sem]) rfl ⟨by rw [HE.out]; rfl, v, by rw [HE.out]; exact HM.out.same HKC.out.fm.mod (by have h := HKC.out.fm.mach; rw [HCS.out] at h; exact h), Fr9.of_mod HKC.out.fm.mod HM.out.rb, fun _ _ => rfl⟩
      | true =>
        have e := HD.out
        unfold callD at e
        rw [if_neg (by have := HID.out; show ¬ (imm < 1 ∨ 8 < imm); omega), if_neg (by show ¬ (askedF fx s imm = false); rw [HASK.out]; decide)] at e
        have HE := Lib.hid e
        clear e
        obtain ⟨w3, rfl⟩ : ∃ w3, w3 = wc := ⟨_, rfl⟩
        go_upto_region 7 with fail
        go_cut [9] from 33 to 33 (fun s9 wx => ∃ q9, s9 = .pointer (some ⟨q9, 0, none⟩) ∧ Row wx q9 55 [.int .i64 1, .int .i64 0, .int .i64 0, .int .i64 0] ∧ w3.heap.size ≤ q9 ∧ KC w bx cs op nar reg size dst src off imm tb sz wx)
        case first =>
          go_wp2_with (go_at_call 50; refine (num_of _ _).mono ?_; rintro e wN ⟨rfl, hbN⟩)
          go_meet
          case rel => exact ⟨_, rfl, Row.made wN [.int .i64 1, .int .i64 0, .int .i64 0, .int .i64 0] _, hbN.size, (HKC.out.next hbN).next (below_map wN _)⟩
        case rest =>
          obtain ⟨q9, rfl, hq9, hq9l, hKC⟩ := hcut
          have HQ9 := Lib.hid (And.intro hq9 (Nat.le_trans HKC.out.fm.mod.size hq9l))
          have HK9 := Lib.hid hKC
          have HNT := Lib.hid (show tb ≠ q9 by have := HKC.out.box.lt; omega)
          clear hq9 hq9l hKC HKC
          obtain ⟨w4, rfl⟩ : ∃ w4, w4 = wc := ⟨_, rfl⟩
          have HM9 := Lib.hid (HM.out.same HK9.out.fm.mod (by have h := HK9.out.fm.mach; rw [HCS.out] at h; exact h))
          have hrg : ∀ d, d < 11 → w4.cell? ⟨bx, 423 + d * 4 + 3, none⟩ = some (.int .i64 (s.reg (d : Nat)).x) := fun d hd => by
            have h := ((HM9.out.regC d hd).row HM9.out.box).2.2.2
            rw [show s.reg (d : Nat) = s.rg[d]'(by rw [HM9.out.rgl]; exact hd) from s.reg_get d (by rw [HM9.out.rgl]; exact hd)]
            exact h
          obtain ⟨x1, hx1⟩ : ∃ x, (s.reg 1).x = x := ⟨_, rfl⟩
          obtain ⟨x2, hx2⟩ : ∃ x, (s.reg 2).x = x := ⟨_, rfl⟩
          obtain ⟨x3, hx3⟩ : ∃ x, (s.reg 3).x = x := ⟨_, rfl⟩
          have e1 : w4.cell? ⟨bx, 430, none⟩ = some (.int .i64 x1) := by rw [← hx1]; exact hrg 1 (by decide)
          have e2 : w4.cell? ⟨bx, 434, none⟩ = some (.int .i64 x2) := by rw [← hx2]; exact hrg 2 (by decide)
          have e3 : w4.cell? ⟨bx, 438, none⟩ = some (.int .i64 x3) := by rw [← hx3]; exact hrg 3 (by decide)
          have HX := Lib.hid (And.intro hx1 (And.intro hx2 hx3))
          clear hx1 hx2 hx3 hrg
          go_upto_region 8 with fail
          go_cut [10, 11, 12] from 34 to 51 (fun s10 s11 s12 wx => s10 = .int .i64 x1 ∧ s11 = .int .i64 x2 ∧ s12 = .int .i64 x3 ∧ Row wx q9 55 [.int .i64 1, .int .i64 0, .int .i64 0, .int .i64 0] ∧ KC w bx cs op nar reg size dst src off imm tb sz wx)
          case first =>
            have hlt := HK9.out.fm.mach.lt
            go_region
            go_wp2_with fail
            go_meet
            case rel => exact ⟨rfl, rfl, rfl, HQ9.out.1.below (Below.refl _ _).drew HQ9.out.1.lt, HK9.out.next (Below.refl _ _).drew⟩
          case rest =>
            obtain ⟨rfl, rfl, rfl, hq9, hKC⟩ := hcut
            have HQ := Lib.hid (And.intro hq9 HQ9.out.2)
            have HKC := Lib.hid hKC
            clear hq9 hKC e1 e2 e3 HK9 HQ9 HM9
            obtain ⟨w5, rfl⟩ : ∃ w5, w5 = wc := ⟨_, rfl⟩
            obtain ⟨c0, c1, c2, c3, c4, c5, c6, c7⟩ := HKC.out.fm.cells
            go_upto_block 0 with fail
            go_cut [] from 54 to 183 (fun wx => ∃ (S1 : Mst) (k t o x : Int) (v1 : Mvals), D = ⟨0, 0, endF S1 ⟨k, t, o, x⟩⟩ ∧ MS base w0 fx S1 bx v1 wx ∧ Row wx q9 55 [.int .i64 k, .int .i64 t, .int .i64 o, .int .i64 x] ∧ Fr9 v.ρ w wx ∧ (∀ q, q < w.heap.size → v1.ρ q = v.ρ q) ∧ w.heap.size ≤ wx.heap.size)
            case first =>
              have HM5 := Lib.hid (HM.out.same HKC.out.fm.mod (by have h := HKC.out.fm.mach; rw [HCS.out] at h; exact h))
              have HBQ := Lib.hid (show bx ≠ q9 by have := HM.out.box.lt; have := HQ.out.2; omega)
              have HMR := Lib.hid (show Row w5 bx 99 (cellsM s v) by have h := HKC.out.fm.mach; rw [HCS.out] at h; exact h)
              obtain ⟨⟨g0, g1, g2, g3⟩, h0, h1, h2, h3⟩ := HQ.out.1.four
              obtain rfl : imm = 6 := H6.out
              · have e := HE.out
                rw [if_neg (by show ¬ (6 : Int) = 1; decide), if_neg (by show ¬ (6 : Int) = 2; decide), if_neg (by show ¬ (6 : Int) = 3; decide), if_neg (by show ¬ (6 : Int) = 4; decide), if_neg (by show ¬ (6 : Int) = 5; decide), if_pos (by show (6 : Int) = 6; rfl)] at e
                obtain ⟨n, hn⟩ : ∃ n, n = s.sent.length := ⟨_, rfl⟩
                have hown := HM5.out.sentS.1
                rw [← hn] at hown e
                obtain ⟨sa, sc, hsv⟩ := own_slice hown
                have htl := HM5.out.tail.1
                rw [hsv] at htl hown
                have hltm := HM5.out.box.lt
                have hfz := HMR.out.free 467
                have HEE := Lib.hid e
                have HOW := Lib.hid hown
                have HN := Lib.hid (And.intro hn (And.intro hsv HGD.out.sent.1))
                obtain ⟨i0, hi0, hz0, hz1, hz2⟩ := info_parts (show (Tryz.prog.info? 3).map (fun i => (i.zero, i.size, i.bytes)) = some (some (.int .i64 0), 1, 8) by kernel_rfl)
                by_cases h64 : 64 ≤ n
                · have q64 : decide (64 ≤ (n : Int)) = true := by simp; omega
                  have H64 := Lib.hid h64
                  clear e hn hsv hown h64
                  go_wp2_with fail
                  go_meet
                  case rel =>
                    have hmd := HKC.out.fm.mod.new HQ.out.2 3 (.int .i64 (-1))
                    exact ⟨s, 1, 0, 0, -1, v, by rw [HEE.out, if_pos H64.out]; rfl, HM.out.same hmd (HMR.out.other _ _ HBQ.out), HQ.out.1.put 3 (.int .i64 (-1)), Fr9.of_mod hmd HM.out.rb, fun _ _ => rfl, hmd.size⟩
                · have q64 : decide (64 ≤ (n : Int)) = false := by simp; omega
                  have H64 := Lib.hid h64
                  have hm3 : n + 1 ≤ maxLen := by unfold maxLen; omega
                  have hm4 : (n + 1) * 8 ≤ 140737488355328 := by omega
                  have hbs : base ≤ (w5.alloc (.cells #[.int .i64 x1] 3)).heap.size := by have := HM5.out.le; simp; omega
                  clear e hn hsv hown h64
                  go_wp2_with (at_builtin; go_loud (refine wpList_append_lies _ rfl (.tmp 140) (.tmp 142) 23 rfl base 3 i0 (.int .i64 0) 1 8 Tryz.underlying23 hi0 hz0 hz1 hz2 rfl (by decide) (.slice sa n sc) n _ rfl (HOW.out.alloc _) ⟨w5.heap.size, 0, none⟩ 1 1 [.int .i64 x1] rfl rfl (cell_one_new w5 (.int .i64 x1) 3) (by simp [Value.oneCell']) (by decide) hm3 hm4 hbs _ rfl ?_; intro g cap w6 hown6 hgrow hat hlt6; have hsb : ∀ g', (Value.slice sa n sc).ownBlock = some g' → g' < w.heap.size ∧ v.ρ g' = 7 := (fun g' hg' => ⟨(HM.out.sentS.1.lt g' (by rw [HN.out.2.1]; exact hg')).2, HM.out.sentS.2 g' (by rw [HN.out.2.1]; exact hg')⟩); have hne : some bx ≠ (Value.slice sa n sc).ownBlock := (fun hc => by have h7 := (hsb bx hc.symm).2; rw [HM.out.rb] at h7; cases h7); have e467 : w6.cell? ⟨bx, 467, none⟩ = some (.slice sa n sc) := (hgrow.cell_far ⟨bx, 467, none⟩ (by simp; omega) hne).trans (((below_map w5 _).cell (p := ⟨bx, 467, none⟩) hltm).trans htl); have f467 : w6.frozen? ⟨bx, 467, none⟩ = false := (hgrow.frozen_far ⟨bx, 467, none⟩ (by simp; omega) hne).trans ((HMR.out.alloc _).free 467)))
                  go_meet
                  case rel =>
                    have hS := (HM5.out.next (below_map w5 (.cells #[.int .i64 x1] 3))).seven
                    have ho : w6.ownsRow base 3 1 (.slice (some ⟨g, 0, none⟩) (n + 1) cap) (s.sent ++ [x1]).length (i64s (s.sent ++ [x1])) := by
                      have e1 : (s.sent ++ [x1]).length = n + 1 := by rw [List.length_append, ← HN.out.1]; rfl
                      have e2 : i64s (s.sent ++ [x1]) = i64s s.sent ++ [.int .i64 x1] := by unfold i64s; rw [List.map_append]; rfl
                      rw [e1, e2]
                      exact hown6
                    have hgr' : (w5.alloc (.cells #[.int .i64 x1] 3)).grownBy w6 (v7 v (w5.alloc (.cells #[.int .i64 x1] 3))).sv.ownBlock := by
                      show World.grownBy _ _ v.sv.ownBlock
                      rw [HN.out.2.1]
                      exact hgrow
                    have hrr : ∀ g', (Value.slice (some ⟨g, 0, none⟩) (n + 1) cap).ownBlock = some g' → (v7 v (w5.alloc (.cells #[.int .i64 x1] 3))).ρ g' = 7 := fun g' hg' => by
                      obtain rfl : g = g' := by simpa [Value.ownBlock] using hg'
                      rcases hat with hat | hat
                      · have h7 := hsb g hat
                        rw [seven_old g (by have := HKC.out.fm.mod.size; simp; omega)]
                        exact h7.2
                      · exact seven_new (by rw [hat]; exact Nat.le_refl _)
                    have hA := hS.sentapp (sent' := s.sent ++ [x1]) (nv := .slice (some ⟨g, 0, none⟩) (n + 1) cap) ho hgr' hrr
                    have hmz := HKC.out.fm.mod.size
                    refine ⟨{ s with sent := s.sent ++ [x1] }, 1, 0, 0, 0, _, by rw [HEE.out, if_neg H64.out, HX.out.1]; rfl, hA, ?_, fun q hq h9 => ?_, fun q hq => seven_old q (by simp; omega), ?_⟩
                    · have hqr := (HQ.out.1.alloc (.cells #[.int .i64 x1] 3))
                      have hq6 : Row w6 q9 55 [.int .i64 1, .int .i64 0, .int .i64 0, .int .i64 0] := by
                        have hl := hqr.lt
                        unfold Row at hqr ⊢
                        rw [hgrow.block q9 hl (fun hc => by have := (hsb q9 hc.symm).1; have := HQ.out.2; omega)]
                        exact hqr
                      exact hq6.other _ _ (Ne.symm HBQ.out)
                    · rw [Below.heap_setCell _ _ _ _ (by show q ≠ bx; intro hc; rw [hc, HM.out.rb] at h9; cases h9), hgrow.block q (by simp; omega) (fun hc => by have h7 := (hsb q hc.symm).2; rw [h9] at h7; cases h7), (below_map w5 _).block q (by omega)]
                      exact Fr9.of_mod HKC.out.fm.mod HM.out.rb q hq h9
                    · rw [World.size_setCell]
                      have := hgrow.size
                      simp at this
                      omega
            case rest =>
              obtain ⟨S1, k, t, o, x, v1, hDD, hMS, hq9, hfr, hro, hsz⟩ := hcut
              have HDE := Lib.hid hDD
              have HM1 := Lib.hid hMS
              have HFR := Lib.hid (And.intro hfr (And.intro hro hsz))
              obtain ⟨w6, rfl⟩ : ∃ w6, w6 = wc := ⟨_, rfl⟩
              obtain ⟨⟨v0, v1', v2, v3⟩, _⟩ := hq9.four
              obtain ⟨_, _, _, _, ⟨_, _, _, _⟩, _, _, _, _⟩ := hMS.celd0
              have hlt := hMS.box.lt
              have hlt9 := hq9.lt
              clear hDD hMS hq9 hfr hro hsz c0 c1 c2 c3 c4 c5 c6 c7 HKC HQ
              go_upto_region 37 with fail
              go_cut [] from 184 to 188 (fun wx => MS base w0 fx (S1.setr 0 ⟨k, t, o, x⟩) bx v1 wx ∧ Mod w6 wx bx)
              case first =>
                go_region
                go_wp2_with fail
                go_meet
                case rel =>
                  first
                    | exact ⟨(HM1.out.setd0 k t o x).next (Below.refl _ _).drew, (((((Mod.refl w6 bx).set _ _).set _ _).set _ _).set _ _).below (Below.refl _ _).drew⟩
                    | exact ⟨(HM1.out.next (Below.refl _ _).drew).setd0 k t o x, (((((Mod.refl w6 bx).below (Below.refl _ _).drew).set _ _).set _ _).set _ _).set _ _⟩
              case rest =>
                obtain ⟨hMS, hmod⟩ := hcut
                have HM2 := Lib.hid hMS
                have HMOD := Lib.hid hmod
                clear hMS hmod v0 v1' v2 v3 hlt hlt9
                go_wp2_with fail
                go_loopg [15] 5 (fun gh s15 wr => ∃ j : Nat, 1 ≤ j ∧ j ≤ 6 ∧ gh = 6 - j ∧ s15 = .int .i64 j ∧ MS base w0 fx (clr (S1.setr 0 ⟨k, t, o, x⟩) (j - 1)) bx v1 wr ∧ Mod w6 wr bx)
                case atStart => exact ⟨1, by decide, by decide, rfl, rfl, HM2.out, HMOD.out⟩
                case round =>
                  obtain ⟨j, hj1, hj6, rfl, rfl, hMS, hmod⟩ := hrel
                  have HM3 := Lib.hid hMS
                  have HMD := Lib.hid hmod
                  by_cases hj5 : j ≤ 5
                  · have hjj : decide ((j : Int) ≤ 5) = true := by simp; omega
                    obtain ⟨_, _, _, _, ⟨_, _, _, _⟩, _, _, _, _⟩ := hMS.celd4 j (by omega)
                    have hlt := hMS.box.lt
                    obtain ⟨dj, hdj⟩ : ∃ dj, j + 1 = dj := ⟨_, rfl⟩
                    have hjd : (j : Int) + 1 = (dj : Int) := by omega
                    have hwj : wrap64 (dj : Int) = (dj : Int) := by unfold wrap64; omega
                    have hja : (0 : Int) ≤ (j : Int) := Int.natCast_nonneg _
                    have hjb : (j : Int) < 11 := by omega
                    have HJ := Lib.hid (And.intro hdj (And.intro hj1 hj5))
                    clear hMS hmod hdj hj1 hj6 hj5
                    go_wp2_with fail
                    go_roundg (6 - dj)
                    case measure => have := HJ.out; omega
                    case rel =>
                      have h := HM3.out.setd4 j (by have := HJ.out; omega) noval
                      have hc : (clr (S1.setr 0 ⟨k, t, o, x⟩) (j - 1)).setr (j : Int) noval = clr (S1.setr 0 ⟨k, t, o, x⟩) (dj - 1) := by
                        obtain ⟨h1, h2, _⟩ := HJ.out
                        rw [show dj - 1 = (j - 1) + 1 by omega]
                        show _ = (clr (S1.setr 0 ⟨k, t, o, x⟩) (j - 1)).setr (((j - 1) + 1 : Nat) : Int) noval
                        rw [show (j - 1) + 1 = j by omega]
                      rw [hc] at h
                      exact ⟨dj, by have := HJ.out; omega, by have := HJ.out; omega, rfl, by first | rfl | exact congrArg (Value.int .i64) hwj, h, (((HMD.out.set _ _).set _ _).set _ _).set _ _⟩
                  · have hjj : decide ((j : Int) ≤ 5) = false := by simp; omega
                    have HJ := Lib.hid (show j = 6 by omega)
                    clear hMS hmod hj1 hj6 hj5
                    go_wp2_with fail
                    have hend : endF S1 ⟨k, t, o, x⟩ = clr (S1.setr 0 ⟨k, t, o, x⟩) (j - 1) := by rw [HJ.out]; exact endF_clr S1 _ HM1.out.rgl
                    exact bodyPost_ret (v := .tuple #[.int .i64 0, .int .i64 0]) (by simp [results, Tryz.results75, go_sem]) rfl ⟨by rw [HDE.out], v1, by rw [HDE.out, hend]; exact HM3.out, fun q hq h9 => (HMD.out.block q (Nat.lt_of_lt_of_le hq HFR.out.2.2) (fun hc => by rw [hc] at h9; have h0 := HM.out.rb; omega)).trans (HFR.out.1 q hq h9), HFR.out.2.1⟩
end
end Go.Proofs.YtdepknffpnnmmaaGreat
