import Derived.Test.YtdepknffpnnmmaaGreatMachDI
import Derived.Test.YtdepknffpnnmmaaGreatMachBI2
set_option maxRecDepth 100000
set_option maxHeartbeats 4000000
namespace Go.Proofs.YtdepknffpnnmmaaGreat
open Go.RowKit
set_option linter.unusedVariables false
set_option linter.unusedSimpArgs false
theorem statec_reg {s : Mst} {xv tv sv u : Value} {j : Nat} (h : (regc s.rg)[j]? = some u) : (statec s xv tv sv)[j]? = some u := by
 unfold statec
 rw [List.getElem?_append_left (List.getElem?_eq_some_iff.1 h).1]
 exact h
theorem statec_st {s : Mst} (h44 : (regc s.rg).length = 44) {xv tv sv u : Value} {j : Nat} (h : (stc s.sl)[j]? = some u) : (statec s xv tv sv)[44 + j]? = some u := by
 unfold statec
 rw [List.getElem?_append_right (by omega), h44, show 44 + j - 44 = j by omega, List.getElem?_append_left (List.getElem?_eq_some_iff.1 h).1]
 exact h
theorem statec_at {s : Mst} (h44 : (regc s.rg).length = 44) (h416 : s.st.length = 416) (xv tv sv : Value) (i : Nat) (hi : i < 6) : (statec s xv tv sv)[460 + i]? = some (([xv, tv, sv, .int .i64 s.at', .int .i64 s.steps, .bool s.done] : List Value)[i]'hi) := by
 unfold statec
 rw [List.getElem?_append_right (by omega), h44, List.getElem?_append_right (by omega), h416, show 460 + i - 44 - 416 = i by omega]
 exact List.getElem?_eq_getElem hi
theorem infob_regs : (Tryz.prog.info? 56).map (·.size) = some 44 := by kernel_rfl
theorem infob_stack : (Tryz.prog.info? 60).map (·.size) = some 416 := by kernel_rfl
theorem same_state (s : Mst) (hrg : s.rg.length = 11) (hsl : SlotsOK s.sl) (h44 : (regc s.rg).length = 44) (h416 : s.st.length = 416) (xa ta sa xb tb sb : Option Addr) (kxa kta ksa kxb ktb ksb : Nat) (va vb : List Value) (hrl : s.rows.length <= 9223372036854775807) (hnl : s.sent.length <= 9223372036854775807) (w : World)
 (hxa : Held w (.slice xa s.ctx.length kxa) s.ctx) (hta : Rowed w (.slice ta s.rows.length kta) va s.rows) (hsa : Ints w (.slice sa s.sent.length ksa) s.sent)
 (hxb : Held w (.slice xb s.ctx.length kxb) s.ctx) (htb : Rowed w (.slice tb s.rows.length ktb) vb s.rows) (hsb : Ints w (.slice sb s.sent.length ksb) s.sent) :
 Calls Tryz.prog 25 #[.agg (statec s (.slice xa s.ctx.length kxa) (.slice ta s.rows.length kta) (.slice sa s.sent.length ksa)).toArray, .agg (statec s (.slice xb s.ctx.length kxb) (.slice tb s.rows.length ktb) (.slice sb s.sent.length ksb)).toArray] w fun e w' => e = .returned (.bool true) /\ Below w.heap.size w w' := by
 have HH := Lib.hid (And.intro hxa (And.intro hxb (And.intro hta (And.intro htb (And.intro hsa (And.intro hsb (And.intro hrl hnl)))))))
 clear hxa hxb hta htb hsa hsb hrl hnl
 have hq1 := regs_refl s.rg hrg
 have hq2 := stack_refl s.sl hsl
 have HI1 := Lib.hid (show (Tryz.prog.info? 56).map (·.size) = some (regc s.rg).length by rw [h44]; exact infob_regs)
 have HI2 := Lib.hid (show (Tryz.prog.info? 60).map (·.size) = some (stc s.sl).length by rw [show (stc s.sl).length = 416 from h416]; exact infob_stack)
 have haa : (((s.at' : Nat) : Int) == ((s.at' : Nat) : Int)) = true := by simp
 have hss : (s.steps == s.steps) = true := by simp
 have hdd : (s.done == s.done) = true := by simp
 clear hrg hsl
 go_enter Tryz.func25, Tryz.ntmps25
 go_upto_region 1 with fail
 have hB : Below w.heap.size w ((w.alloc (.cells (statec s (.slice xa s.ctx.length kxa) (.slice ta s.rows.length kta) (.slice sa s.sent.length ksa)).toArray 62)).alloc (.cells (statec s (.slice xb s.ctx.length kxb) (.slice tb s.rows.length ktb) (.slice sb s.sent.length ksb)).toArray 62)) := (below_map w _).trans ((below_map _ _).mono (by simp))
 have hB1 : Row ((w.alloc (.cells (statec s (.slice xa s.ctx.length kxa) (.slice ta s.rows.length kta) (.slice sa s.sent.length ksa)).toArray 62)).alloc (.cells (statec s (.slice xb s.ctx.length kxb) (.slice tb s.rows.length ktb) (.slice sb s.sent.length ksb)).toArray 62)) w.heap.size 62 (statec s (.slice xa s.ctx.length kxa) (.slice ta s.rows.length kta) (.slice sa s.sent.length ksa)) := (Row.made w _ _).alloc _
 have hB2 : Row ((w.alloc (.cells (statec s (.slice xa s.ctx.length kxa) (.slice ta s.rows.length kta) (.slice sa s.sent.length ksa)).toArray 62)).alloc (.cells (statec s (.slice xb s.ctx.length kxb) (.slice tb s.rows.length ktb) (.slice sb s.sent.length ksb)).toArray 62)) (w.heap.size + 1) 62 (statec s (.slice xb s.ctx.length kxb) (.slice tb s.rows.length ktb) (.slice sb s.sent.length ksb)) := by
  have := Row.made (w.alloc (.cells (statec s (.slice xa s.ctx.length kxa) (.slice ta s.rows.length kta) (.slice sa s.sent.length ksa)).toArray 62)) (statec s (.slice xb s.ctx.length kxb) (.slice tb s.rows.length ktb) (.slice sb s.sent.length ksb)) 62
  rw [show (w.alloc (.cells (statec s (.slice xa s.ctx.length kxa) (.slice ta s.rows.length kta) (.slice sa s.sent.length ksa)).toArray 62)).heap.size = w.heap.size + 1 by simp] at this
  exact this
 try simp only [show (w.alloc (.cells (statec s (.slice xa s.ctx.length kxa) (.slice ta s.rows.length kta) (.slice sa s.sent.length ksa)).toArray 62)).heap.size = w.heap.size + 1 by simp]
 generalize World.alloc _ _ = wA at hB hB1 hB2 ⊢
 have HB := Lib.hid hB
 have HB1 := Lib.hid hB1
 have HB2 := Lib.hid hB2
 have r10 : wA.rangeAt (w.heap.size) 0 (regc s.rg) := fun j u hj => by rw [Nat.zero_add, HB1.out.cell]; exact statec_reg hj
 have r11 : wA.rangeAt (w.heap.size) 44 (stc s.sl) := fun j u hj => by rw [HB1.out.cell]; exact statec_st h44 hj
 have c10 : wA.cell? ⟨w.heap.size, 460, none⟩ = some (.slice xa s.ctx.length kxa) := (HB1.out.cell 460).trans (statec_at h44 h416 _ _ _ 0 (by decide))
 have c11 : wA.cell? ⟨w.heap.size, 461, none⟩ = some (.slice ta s.rows.length kta) := (HB1.out.cell 461).trans (statec_at h44 h416 _ _ _ 1 (by decide))
 have c12 : wA.cell? ⟨w.heap.size, 462, none⟩ = some (.slice sa s.sent.length ksa) := (HB1.out.cell 462).trans (statec_at h44 h416 _ _ _ 2 (by decide))
 have c13 : wA.cell? ⟨w.heap.size, 463, none⟩ = some (.int .i64 s.at') := (HB1.out.cell 463).trans (statec_at h44 h416 _ _ _ 3 (by decide))
 have c14 : wA.cell? ⟨w.heap.size, 464, none⟩ = some (.int .i64 s.steps) := (HB1.out.cell 464).trans (statec_at h44 h416 _ _ _ 4 (by decide))
 have c15 : wA.cell? ⟨w.heap.size, 465, none⟩ = some (.bool s.done) := (HB1.out.cell 465).trans (statec_at h44 h416 _ _ _ 5 (by decide))
 have r20 : wA.rangeAt (w.heap.size + 1) 0 (regc s.rg) := fun j u hj => by rw [Nat.zero_add, HB2.out.cell]; exact statec_reg hj
 have r21 : wA.rangeAt (w.heap.size + 1) 44 (stc s.sl) := fun j u hj => by rw [HB2.out.cell]; exact statec_st h44 hj
 have c20 : wA.cell? ⟨w.heap.size + 1, 460, none⟩ = some (.slice xb s.ctx.length kxb) := (HB2.out.cell 460).trans (statec_at h44 h416 _ _ _ 0 (by decide))
 have c21 : wA.cell? ⟨w.heap.size + 1, 461, none⟩ = some (.slice tb s.rows.length ktb) := (HB2.out.cell 461).trans (statec_at h44 h416 _ _ _ 1 (by decide))
 have c22 : wA.cell? ⟨w.heap.size + 1, 462, none⟩ = some (.slice sb s.sent.length ksb) := (HB2.out.cell 462).trans (statec_at h44 h416 _ _ _ 2 (by decide))
 have c23 : wA.cell? ⟨w.heap.size + 1, 463, none⟩ = some (.int .i64 s.at') := (HB2.out.cell 463).trans (statec_at h44 h416 _ _ _ 3 (by decide))
 have c24 : wA.cell? ⟨w.heap.size + 1, 464, none⟩ = some (.int .i64 s.steps) := (HB2.out.cell 464).trans (statec_at h44 h416 _ _ _ 4 (by decide))
 have c25 : wA.cell? ⟨w.heap.size + 1, 465, none⟩ = some (.bool s.done) := (HB2.out.cell 465).trans (statec_at h44 h416 _ _ _ 5 (by decide))
 have HR := Lib.hid (And.intro r10 (And.intro r20 (And.intro r11 r21)))
 clear hB hB1 hB2 r10 r20 r11 r21
 go_wp2_with (first
  | refine wpList_load_mid rfl 56 (.tmp 5) rfl w.heap.size 0 rfl (regc s.rg) _ HR.out.1 Tryz.underlying56 rfl HI1.out ?_
  | refine wpList_load_mid rfl 56 (.tmp 7) rfl (w.heap.size + 1) 0 rfl (regc s.rg) _ HR.out.2.1 Tryz.underlying56 rfl HI1.out ?_)
 refine wp_load_mid 60 (.tmp 11) rfl w.heap.size 44 rfl (stc s.sl) _ HR.out.2.2.1 Tryz.underlying60 rfl HI2.out ?_
 go_wp2_with fail
 refine wp_load_mid 60 (.tmp 13) rfl (w.heap.size + 1) 44 rfl (stc s.sl) _ HR.out.2.2.2 Tryz.underlying60 rfl HI2.out ?_
 go_wp2_with (first
  | (go_at_call 15; go_loud (refine (same_at _ _ s.ctx _ (HH.out.1.below HB.out (Nat.le_refl _)) (HH.out.2.1.below HB.out (Nat.le_refl _))).mono ?_; rintro e w' ⟨rfl, rfl⟩))
  | (go_at_call 39; go_loud (refine (same_rows _ _ va vb s.rows HH.out.2.2.2.2.2.2.1 _ (HH.out.2.2.1.below HB.out (Nat.le_refl _)) (HH.out.2.2.2.1.below HB.out (Nat.le_refl _))).mono ?_; rintro e w' ⟨rfl, n1, rfl⟩))
  | (go_at_call 10; go_loud (refine (ints_same _ _ s.sent HH.out.2.2.2.2.2.2.2 _ (HH.out.2.2.2.2.1.below (below_drewN HB.out _) (Nat.le_refl _)) (HH.out.2.2.2.2.2.1.below (below_drewN HB.out _) (Nat.le_refl _))).mono ?_; rintro e w' ⟨rfl, n2, rfl⟩)))
 go_ret
 exact ⟨rfl, by first | exact below_drewN HB.out _ | exact below_drewN (below_drewN HB.out _) _⟩
end Go.Proofs.YtdepknffpnnmmaaGreat
