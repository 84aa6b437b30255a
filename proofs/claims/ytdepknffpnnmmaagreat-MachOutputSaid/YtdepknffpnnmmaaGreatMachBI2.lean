import Derived.Test.YtdepknffpnnmmaaGreatTake
import Derived.Test.YtdepknffpnnmmaaGreatJ5a
set_option maxRecDepth 100000
set_option maxHeartbeats 4000000
namespace Go.Proofs.YtdepknffpnnmmaaGreat
open Go.RowKit
set_option linter.unusedVariables false
set_option linter.unusedSimpArgs false
theorem below_setRow {base:Nat} {w w1:World} (h:Below base w w1) {g:Nat} (hg:base <= g) (cs:Array Value):Below base w (w1.setRow g cs):=
 ⟨h.os,h.tape,h.output,by rw [setRow_size];exact h.size,fun k hk=>by rw [setRow_other _ _ _ _ (by omega)];exact h.block k hk⟩
theorem own_setRow {w:World} {base size n:Nat} {e:TypeId} {v:Value} {xs:List Value} (h:w.ownsRow base e size v n xs) {q:Nat} (hq:q < base) (cs:Array Value):(w.setRow q cs).ownsRow base e size v n xs:=
 ownsRow_stayS h fun b hb=>setRow_other _ _ _ _ (fun hc=>by have:=(h.lt b hb).1;have hc':b = q:=hc;omega)
theorem OwnS.setRow {w:World} {base size n:Nat} {ρ:Nat->Nat} {r:Nat} {e:TypeId} {v:Value} {xs:List Value} (h:OwnS w base ρ r e size v n xs) {q:Nat} (hq:q < base) (cs:Array Value):OwnS (w.setRow q cs) base ρ r e size v n xs:=⟨own_setRow h.1 hq cs,h.2⟩
structure SK (base:Nat) (w0:World) (fx:Mfix) (s:Mst) (bx:Nat) (v:Mvals) (w w1:World):Prop where
 ms0:MS base w0 fx s bx v w
 row:∃ cs:List Value,Row w1 w.heap.size 62 cs/\cs.length = 466
 bel:Below w.heap.size w w1
section
variable {base:Nat} {w0:World} {fx:Mfix} {s:Mst} {bx:Nat} {v:Mvals} {w w1 w2:World}
theorem MS.rangeR (h:MS base w0 fx s bx v w):w.rangeAt bx 423 (regc s.rg):=by
 intro j u hj
 have hl:=h.rl
 have hjl:j < 44:=by
  by_cases hh:j < 44
  ·exact hh
  ·rw [List.getElem?_eq_none (by omega)] at hj;cases hj
 have hb:=h.box
 unfold cellsM at hb
 exact (mrow_reg h.stl hl hb j hjl).trans hj
theorem MS.rangeS (h:MS base w0 fx s bx v w):w.rangeAt bx 0 s.st:=by
 intro j u hj
 have hl:=h.stl
 have hjl:j < 416:=by
  by_cases hh:j < 416
  ·exact hh
  ·rw [List.getElem?_eq_none (by omega)] at hj;cases hj
 have hb:=h.box
 unfold cellsM mrow at hb
 rw [Nat.zero_add,hb.cell,List.getElem?_append_left (by omega)]
 exact hj
theorem SK.ms (h:SK base w0 fx s bx v w w1):MS base w0 fx s bx v w1:=h.ms0.next h.bel
theorem SK.lt (h:SK base w0 fx s bx v w w1):w.heap.size < w1.heap.size:=let ⟨_,hr,_⟩:=h.row;hr.lt
theorem SK.next (h:SK base w0 fx s bx v w w1) (hb:Below w1.heap.size w1 w2):SK base w0 fx s bx v w w2:=⟨h.ms0,let ⟨cs,hr,hl⟩:=h.row;⟨cs,hr.below hb hr.lt,hl⟩,h.bel.trans (hb.mono h.bel.size)⟩
theorem SK.set (h:SK base w0 fx s bx v w w1) {X:List Value} (hX:X.length = 466):SK base w0 fx s bx v w (w1.setRow w.heap.size X.toArray)/\Row (w1.setRow w.heap.size X.toArray) w.heap.size 62 X:=by
 obtain ⟨cs,hr,hl⟩:=h.row
 have h1:Row (w1.setRow w.heap.size X.toArray) w.heap.size 62 X:=setRow_heap w1 w.heap.size cs.toArray X.toArray _ _ hr
 exact ⟨⟨h.ms0,⟨X,h1,hX⟩,below_setRow h.bel (Nat.le_refl _) _⟩,h1⟩
theorem SK.k (h:SK base w0 fx s bx v w w1):w1.cell? ⟨bx,416,none⟩ = some v.xv/\w1.cell? ⟨bx,417,none⟩ = some v.tv/\w1.cell? ⟨bx,467,none⟩ = some v.sv/\w1.cell? ⟨bx,468,none⟩ = some (.int .i64 s.at')/\w1.cell? ⟨bx,469,none⟩ = some (.int .i64 s.steps)/\w1.cell? ⟨bx,470,none⟩ = some (.bool s.done)/\w1.rangeAt bx 423 (regc s.rg)/\w1.rangeAt bx 0 (stc s.sl)/\SK base w0 fx s bx v w w1:=
 ⟨h.ms.heads.1,h.ms.heads.2.1,h.ms.tail.1,h.ms.tail.2.1,h.ms.tail.2.2.1,h.ms.tail.2.2.2,h.ms.rangeR,h.ms.rangeS,h⟩
theorem SK.n (h:w1.cell? ⟨bx,416,none⟩ = some v.xv/\w1.cell? ⟨bx,417,none⟩ = some v.tv/\w1.cell? ⟨bx,467,none⟩ = some v.sv/\w1.cell? ⟨bx,468,none⟩ = some (.int .i64 s.at')/\w1.cell? ⟨bx,469,none⟩ = some (.int .i64 s.steps)/\w1.cell? ⟨bx,470,none⟩ = some (.bool s.done)/\w1.rangeAt bx 423 (regc s.rg)/\w1.rangeAt bx 0 (stc s.sl)/\SK base w0 fx s bx v w w1) (hb:Below w1.heap.size w1 w2) :
 w2.cell? ⟨bx,416,none⟩ = some v.xv/\w2.cell? ⟨bx,417,none⟩ = some v.tv/\w2.cell? ⟨bx,467,none⟩ = some v.sv/\w2.cell? ⟨bx,468,none⟩ = some (.int .i64 s.at')/\w2.cell? ⟨bx,469,none⟩ = some (.int .i64 s.steps)/\w2.cell? ⟨bx,470,none⟩ = some (.bool s.done)/\w2.rangeAt bx 423 (regc s.rg)/\w2.rangeAt bx 0 (stc s.sl)/\SK base w0 fx s bx v w w2:=(h.2.2.2.2.2.2.2.2.next hb).k
end
theorem zstate_size:Tryz.zeroCells62.size = 466:=by kernel_rfl
theorem info_state:(Tryz.prog.info? 62).map (·.size) = some 466:=by kernel_rfl
theorem info_regs:(Tryz.prog.info? 56).map (·.size) = some 44:=by kernel_rfl
theorem info_stack:(Tryz.prog.info? 60).map (·.size) = some 416:=by kernel_rfl
theorem statec_len {s:Mst} (h1:(regc s.rg).length = 44) (h2:s.st.length = 416) (xv tv sv:Value):(statec s xv tv sv).length = 466:=by
 unfold statec
 simp only [List.length_append,List.length_cons,List.length_nil,h1,h2]
theorem statec_one {s:Mst} (a b c:Option Addr) (n1 c1 n2 c2 n3 c3:Nat):∀ u ∈ statec s (.slice a n1 c1) (.slice b n2 c2) (.slice c n3 c3),u.oneCell' = true:=by
 intro u hu
 unfold statec at hu
 simp only [List.mem_append,List.mem_cons,List.not_mem_nil,or_false] at hu
 rcases hu with hu | hu | rfl | rfl | rfl | rfl | rfl | rfl
 ·unfold regc at hu
  obtain ⟨x,_,hx⟩:=List.mem_flatMap.1 hu
  unfold Val.cs at hx
  simp only [List.mem_cons,List.not_mem_nil,or_false] at hx
  rcases hx with rfl | rfl | rfl | rfl <;> rfl
 ·unfold Mst.st stc at hu
  obtain ⟨x,_,hx⟩:=List.mem_flatMap.1 hu
  unfold Slot.cs Val.cs at hx
  simp only [List.mem_append,List.mem_cons,List.not_mem_nil,or_false,List.mem_map] at hx
  rcases hx with (rfl | rfl | rfl | rfl) | ⟨y,_,rfl⟩ | rfl <;> rfl
 all_goals rfl
structure Lab3 (base:Nat) (s:Mst) (xv tv sv:Value) (w:World):Prop where
 at':∃ f vals,OwnS w base f 5 5 1 xv s.ctx.length (u8s s.ctx)/\TabS w base f tv vals s.rows/\OwnS w base f 6 3 1 sv s.sent.length (i64s s.sent)
structure StateA (w:World) (s:Mst) (xv tv sv:Value) (w':World):Prop where
 bel:Below w.heap.size w w'
 ctx:w'.ownsRow w.heap.size 5 1 xv s.ctx.length (u8s s.ctx)
 tabs:∃ ρ vals,TabS w' w.heap.size ρ tv vals s.rows
 sent:w'.ownsRow w.heap.size 3 1 sv s.sent.length (i64s s.sent)
 shx:∃ a n c,xv = .slice a n c
 sht:∃ a n c,tv = .slice a n c
 shs:∃ a n c,sv = .slice a n c
 lab:Lab3 w.heap.size s xv tv sv w'
theorem state_of (fx:Mfix) (s:Mst) (hcl:s.ctx.length <= 65535) (hsl:s.sent.length <= 100000) (hrl:s.rows.length <= 1000000) (hrb:∀ k (h:k < s.rows.length),IsBytes s.rows[k]/\s.rows[k].length <= 140737488355328) (base:Nat) (w0:World) (bx:Nat) (v:Mvals) (w:World) (hM:MS base w0 fx s bx v w) :
 Calls Tryz.prog 22 #[.pointer (some ⟨bx,0,none⟩)] w fun e w'=>∃ xv tv sv,e = .returned (.agg (statec s xv tv sv).toArray)/\StateA w s xv tv sv w':=by
 have hSK:SK base w0 fx s bx v w (w.alloc (.cells Tryz.zeroCells62 62)):=⟨hM,⟨Tryz.zeroCells62.toList,by
  have:=Row.made w Tryz.zeroCells62.toList 62
  rw [Array.toArray_toList] at this
  exact this,by rw [Array.length_toList];exact zstate_size⟩,below_map w _⟩
 have h44:=hM.rl
 have h416:=hM.stl
 have hu1:=Tryz.underlying56
 have hu2:=Tryz.underlying60
 have hi1:(Tryz.prog.info? 56).map (·.size) = some (regc s.rg).length:=by rw [h44];exact info_regs
 have hi2:(Tryz.prog.info? 60).map (·.size) = some (stc s.sl).length:=by rw [show (stc s.sl).length = 416 from h416];exact info_stack
 have hbs:=run_state s h44 h416
 have hRX:∀ w' (hw:w'.cell? ⟨bx,416,none⟩ = some v.xv/\w'.cell? ⟨bx,417,none⟩ = some v.tv/\w'.cell? ⟨bx,467,none⟩ = some v.sv/\w'.cell? ⟨bx,468,none⟩ = some (.int .i64 s.at')/\w'.cell? ⟨bx,469,none⟩ = some (.int .i64 s.steps)/\w'.cell? ⟨bx,470,none⟩ = some (.bool s.done)/\w'.rangeAt bx 423 (regc s.rg)/\w'.rangeAt bx 0 (stc s.sl)/\SK base w0 fx s bx v w w'),Reads w' 1 v.xv s.ctx.length (u8s s.ctx):=fun w' hw=>reads_own hw.2.2.2.2.2.2.2.2.ms.ctxS.1 (u8s_one _) (by decide)
 have hRN:∀ w' (hw:w'.cell? ⟨bx,416,none⟩ = some v.xv/\w'.cell? ⟨bx,417,none⟩ = some v.tv/\w'.cell? ⟨bx,467,none⟩ = some v.sv/\w'.cell? ⟨bx,468,none⟩ = some (.int .i64 s.at')/\w'.cell? ⟨bx,469,none⟩ = some (.int .i64 s.steps)/\w'.cell? ⟨bx,470,none⟩ = some (.bool s.done)/\w'.rangeAt bx 423 (regc s.rg)/\w'.rangeAt bx 0 (stc s.sl)/\SK base w0 fx s bx v w w'),Reads w' 1 v.sv s.sent.length (i64s s.sent):=fun w' hw=>reads_own hw.2.2.2.2.2.2.2.2.ms.sentS.1 (i64s_one _) (by decide)
 have hRT:∀ w' (hw:w'.cell? ⟨bx,416,none⟩ = some v.xv/\w'.cell? ⟨bx,417,none⟩ = some v.tv/\w'.cell? ⟨bx,467,none⟩ = some v.sv/\w'.cell? ⟨bx,468,none⟩ = some (.int .i64 s.at')/\w'.cell? ⟨bx,469,none⟩ = some (.int .i64 s.steps)/\w'.cell? ⟨bx,470,none⟩ = some (.bool s.done)/\w'.rangeAt bx 423 (regc s.rg)/\w'.rangeAt bx 0 (stc s.sl)/\SK base w0 fx s bx v w w'),Rowed w' v.tv v.vals s.rows:=fun w' hw=>rowed_tab hw.2.2.2.2.2.2.2.2.ms.tabS (fun k hk=>(hrb k hk).1)
 have HCB:=Lib.hid (fun w' hw=>clone_byte v.xv s.ctx.length (u8s s.ctx) w' (hRX w' hw) (by omega))
 have HCN:=Lib.hid (fun w' hw=>clone_int v.sv s.sent.length (i64s s.sent) w' (hRN w' hw) (by omega))
 have HCT:=Lib.hid (fun w' hw=>copies_of v.tv v.vals s.rows hrl (fun k hk=>(hrb k hk).2) w' (hRT w' hw) (fun _=>0) 10)
 have hks:=(hSK.next (Below.refl _ _).drew).k
 clear hRX hRN hRT hM
 go_enter Tryz.func22,Tryz.ntmps22
 go_upto_region 1 with fail
 generalize World.alloc _ _ = wA at hSK hks ⊢
 refine wp_region_held_drew (S:=(fun w'=>w'.cell? ⟨bx,416,none⟩ = some v.xv/\w'.cell? ⟨bx,417,none⟩ = some v.tv/\w'.cell? ⟨bx,467,none⟩ = some v.sv/\w'.cell? ⟨bx,468,none⟩ = some (.int .i64 s.at')/\w'.cell? ⟨bx,469,none⟩ = some (.int .i64 s.steps)/\w'.cell? ⟨bx,470,none⟩ = some (.bool s.done)/\w'.rangeAt bx 423 (regc s.rg)/\w'.rangeAt bx 0 (stc s.sl)/\SK base w0 fx s bx v w w')) (by kernel_rfl) ?_ (fun hHeld=>?_)
 ·(try dsimp only);exact hks
 refine tkw 0 3 ?_
 refine tkw 1 4 ?_
 refine tkw 2 5 ?_
 refine wpAnyH_take (i:=3) (oi:=_) (v:=_) rfl (by kernel_rfl) (by kernel_rfl) (by kernel_rfl) (fun _ _ _ h=>h) (yieldsIf_load_mid (by rfl) 56 _ rfl bx 423 rfl (regc s.rg) _ (fun w hSw=>by (try dsimp only at hSw);go_split_ands;assumption) hu1 rfl hi1) (by assumption) ?_
 try simp only [Act.put,List.setIfInBounds_toArray,List.set_cons_zero,List.set_cons_succ]
 refine tkw 4 7 ?_
 refine tkw 5 8 ?_
 refine tkw 6 9 ?_
 refine tkw 7 10 ?_
 refine wpAnyH_take (i:=8) (oi:=_) (v:=_) rfl (by kernel_rfl) (by kernel_rfl) (by kernel_rfl) (fun _ _ _ h=>h) (yieldsIf_load_mid (by rfl) 60 _ rfl bx 0 rfl (stc s.sl) _ (fun w hSw=>by (try dsimp only at hSw);go_split_ands;assumption) hu2 rfl hi2) (by assumption) ?_
 try simp only [Act.put,List.setIfInBounds_toArray,List.set_cons_zero,List.set_cons_succ]
 refine tkw 9 12 ?_
 refine tkw 10 13 ?_
 refine tkw 11 14 ?_
 refine tkw 12 15 ?_
 refine tkw 13 16 ?_
 refine tkw 15 18 ?_
 refine tkw 16 19 ?_
 refine tkw 17 20 ?_
 refine tkw 18 21 ?_
 refine tkw 19 22 ?_
 refine tkw 21 24 ?_
 refine tkw 22 25 ?_
 refine tkw 23 26 ?_
 refine tkw 24 27 ?_
 refine tkw 26 29 ?_
 refine tkw 27 30 ?_
 refine tkw 28 31 ?_
 refine tkw 29 32 ?_
 refine tkw 30 33 ?_
 refine tkw 31 34 ?_
 refine tkw 32 35 ?_
 refine tkw 33 36 ?_
 refine tkw 34 37 ?_
 refine tkw 35 38 ?_
 refine tkw 36 39 ?_
 refine tkw 37 40 ?_
 refine wpAnyH_ready (rs:=[14]) (by kernel_rfl) (by simp) ?_
 refine AllReadyH.cons (o:=_) rfl (fun K hK=>?_) AllReadyH.nil
 go_simp
 (go_at_call 47;refine (HCB.out _ (by with_reducible assumption)).mono ?_;rintro e wC ⟨vC,rfl,hownC,hbC⟩;obtain ⟨aC,kC,rfl⟩:=own_slice hownC)
 refine hK.out _ _ ?_ (fun hHeld=>?_)
 ·(try dsimp only);exact SK.n (by with_reducible assumption) hbC
 clear hK K
 try simp only [Act.put,List.setIfInBounds_toArray,List.set_cons_zero,List.set_cons_succ]
 refine wpAnyH_ready (rs:=[20]) (by kernel_rfl) (by simp) ?_
 refine AllReadyH.cons (o:=_) rfl (fun K hK=>?_) AllReadyH.nil
 go_simp
 (go_at_call 48;refine (HCT.out _ (by with_reducible assumption)).mono ?_;rintro e wT ⟨vT,valsT,ρT,rfl,hT⟩;obtain ⟨aT,kT,rfl⟩:=own_slice hT.list.1)
 refine hK.out _ _ ?_ (fun hHeld=>?_)
 ·(try dsimp only);exact SK.n (by with_reducible assumption) hT.bel
 clear hK K
 try simp only [Act.put,List.setIfInBounds_toArray,List.set_cons_zero,List.set_cons_succ]
 refine wpAnyH_ready (rs:=[25]) (by kernel_rfl) (by simp) ?_
 refine AllReadyH.cons (o:=_) rfl (fun K hK=>?_) AllReadyH.nil
 go_simp
 (go_at_call 52;refine (HCN.out _ (by with_reducible assumption)).mono ?_;rintro e wN ⟨vN,rfl,hownN,hbN⟩;obtain ⟨aN,kN,rfl⟩:=own_slice hownN)
 refine hK.out _ _ ?_ (fun hHeld=>?_)
 ·(try dsimp only);exact SK.n (by with_reducible assumption) hbN
 clear hK K
 try simp only [Act.put,List.setIfInBounds_toArray,List.set_cons_zero,List.set_cons_succ]
 have hSN:=(((hSK.next (Below.refl _ _).drew).next hbC).next hT.bel).next hbN
 refine wpAnyH_take (i:=38) (oi:=⟨some 41,.build 62 #[(0,.tmp 6),(1,.tmp 11),(2,.tmp 17),(3,.tmp 23),(4,.tmp 28),(5,.tmp 32),(6,.tmp 36),(7,.tmp 40)],_,_,_,_⟩) (v:=.agg (statec s (.slice aC s.ctx.length kC) (.slice aT s.rows.length kT) (.slice aN s.sent.length kN)).toArray) rfl (by kernel_rfl) (by kernel_rfl) (by kernel_rfl) (fun _ _ _ h=>h) (Or.inl ⟨by rfl,fun w hSw=>by
  unfold execOp
  simp only [List.map_toArray,List.map_cons,List.map_nil,Sem.run_bind]
  have h:=hbs aC aT aN s.ctx.length kC s.rows.length kT s.sent.length kN w
  change Result.andThen (Sem.run Tryz.prog (Instr.build 62 #[(0,.agg (regc s.rg).toArray),(1,.agg s.st.toArray),(2,.slice aC s.ctx.length kC),(3,.slice aT s.rows.length kT),(4,.slice aN s.sent.length kN),(5,.int .i64 s.at'),(6,.int .i64 s.steps),(7,.bool s.done)]) w) _ = _
  rw [h]
  rfl⟩) (by assumption) ?_
 try simp only [Act.put,List.setIfInBounds_toArray,List.set_cons_zero,List.set_cons_succ]
 have hX:=statec_len h44 h416 (.slice aC s.ctx.length kC) (.slice aT s.rows.length kT) (.slice aN s.sent.length kN)
 have hX1:=statec_one (s:=s) aC aT aN s.ctx.length kC s.rows.length kT s.sent.length kN
 obtain ⟨hS2,hR2⟩:=hSN.set hX
 obtain ⟨old,hro,hlo⟩:=hSN.row
 refine wpAnyH_ready (rs:=[39]) (by kernel_rfl) (by simp) ?_
 refine AllReadyH.cons (o:=⟨none,.store 62 (.tmp 2) (.tmp 41),_,_,_,_⟩) rfl (fun K hK=>?_) AllReadyH.nil
 rw [if_pos (by rfl)]
 refine wp_store_row 62 (.tmp 2) (.tmp 41) rfl w.heap.size _ rfl rfl 62 old.toArray hro (by rw [List.size_toArray,hX];exact info_state) (by rw [List.size_toArray,List.size_toArray,hX,hlo]) (all_oneCell_toArray hX1) ?_
 refine hK.out _ _ ?_ (fun hHeld=>?_)
 ·(try dsimp only);exact hS2.k
 clear hK K
 try simp only [Act.put,List.setIfInBounds_toArray,List.set_cons_zero,List.set_cons_succ]
 refine wpAnyH_done (by kernel_rfl) ?_ _
 go_wp2_with fail
 have hb0:w.heap.size < wA.drew.heap.size:=hks.2.2.2.2.2.2.2.2.lt
 have hsC:wA.drew.heap.size <= wC.heap.size:=hbC.size
 have hsT:wC.heap.size <= wT.heap.size:=hT.bel.size
 have hC:=own_low (own_setRow (own_stays (own_stays hownC hT.bel (Nat.le_refl _)) hbN (Nat.le_refl _)) hb0 (statec s (.slice aC s.ctx.length kC) (.slice aT s.rows.length kT) (.slice aN s.sent.length kN)).toArray) (Nat.le_of_lt hb0)
 have hN:=own_low (own_setRow hownN (show w.heap.size < wT.heap.size by omega) (statec s (.slice aC s.ctx.length kC) (.slice aT s.rows.length kT) (.slice aN s.sent.length kN)).toArray) (show w.heap.size <= wT.heap.size by omega)
 have hTT:TabS wT wC.heap.size ρT (.slice aT s.rows.length kT) valsT s.rows:=⟨hT.list,fun k hk=>hT.item k hk hk⟩
 have hTN:=hTT.next hbN (fun _ _=>rfl)
 have hT2:TabS (wN.setRow w.heap.size (statec s (.slice aC s.ctx.length kC) (.slice aT s.rows.length kT) (.slice aN s.sent.length kN)).toArray) w.heap.size ρT (.slice aT s.rows.length kT) valsT s.rows:=
  ⟨(hTN.list.setRow (show w.heap.size < wC.heap.size by omega) _).low (show w.heap.size <= wC.heap.size by omega),fun k hk=>let ⟨u,hu,ho⟩:=hTN.item k hk;⟨u,hu,(ho.setRow (show w.heap.size < wC.heap.size by omega) _).low (show w.heap.size <= wC.heap.size by omega)⟩⟩
 have hLB:Lab3 w.heap.size s (.slice aC s.ctx.length kC) (.slice aT s.rows.length kT) (.slice aN s.sent.length kN) (wN.setRow w.heap.size (statec s (.slice aC s.ctx.length kC) (.slice aT s.rows.length kT) (.slice aN s.sent.length kN)).toArray):=by
  refine ⟨⟨fun q=>if q < wC.heap.size then 5 else if q < wT.heap.size then ρT q else 6,valsT,⟨hC,fun b hb=>if_pos (hownC.lt b hb).2⟩,⟨⟨hT2.list.1,fun b hb=>?_⟩,fun k hk=>?_⟩,⟨hN,fun b hb=>?_⟩⟩⟩
  ·obtain ⟨l1,l2⟩:=hTT.list.1.lt b hb
   show (if b < wC.heap.size then 5 else if b < wT.heap.size then ρT b else 6) = 10
   rw [if_neg (by omega),if_pos l2]
   exact hTT.list.2 b hb
  ·obtain ⟨u,hu,ho⟩:=hTT.item k hk
   refine ⟨u,hu,(((ho.next hbN (fun _ _=>rfl)).setRow (show w.heap.size < wC.heap.size by omega) _).low (show w.heap.size <= wC.heap.size by omega)).1,fun b hb=>?_⟩
   obtain ⟨l1,l2⟩:=ho.1.lt b hb
   show (if b < wC.heap.size then 5 else if b < wT.heap.size then ρT b else 6) = 11 + k
   rw [if_neg (by omega),if_pos l2]
   exact ho.2 b hb
  ·have l1:=(hownN.lt b hb).1
   show (if b < wC.heap.size then 5 else if b < wT.heap.size then ρT b else 6) = 6
   rw [if_neg (by omega),if_neg (by omega)]
 exact bodyPost_ret (v:=.agg (statec s (.slice aC s.ctx.length kC) (.slice aT s.rows.length kT) (.slice aN s.sent.length kN)).toArray) (results_cell_row (p:=2) Tryz.results22 _ _ w.heap.size _ _ (0,0) _ rfl hR2 Tryz.underlying62 rfl (by rw [List.size_toArray,hX];exact info_state)) rfl ⟨_,_,_,rfl,⟨hS2.bel,hC,⟨_,_,hT2⟩,hN,⟨_,_,_,rfl⟩,⟨_,_,_,rfl⟩,⟨_,_,_,rfl⟩,hLB⟩⟩
end Go.Proofs.YtdepknffpnnmmaaGreat
