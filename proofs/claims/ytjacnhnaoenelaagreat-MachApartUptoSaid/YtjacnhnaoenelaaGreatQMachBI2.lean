import Derived.Test.YtjacnhnaoenelaaGreatQTake
import Derived.Test.YtjacnhnaoenelaaGreatQJ5a
set_option maxRecDepth 100000
set_option maxHeartbeats 4000000
namespace Go.Proofs.YtjacnhnaoenelaaGreat
open Go.Proofs.Tryz
open Go.RowKit
set_option linter.unusedVariables false
set_option linter.unusedSimpArgs false
theorem below_setRow {base:Nat} {w w1:World} (h:Below base w w1) {g:Nat} (hg:base <= g) (cs:Array Value):Below base w (w1.setRow g cs):=
 ⟨h.os,h.tape,h.output,by rw [setRow_size];exact h.size,fun k hk=>by rw [setRow_other _ _ _ _ (by omega)];exact h.block k hk⟩
theorem Vt {w:World} {base size n:Nat} {e:TypeId} {v:Value} {xs:List Value} (h:w.ownsRow base e size v n xs) {q:Nat} (hq:q < base) (cs:Array Value):(w.setRow q cs).ownsRow base e size v n xs:=
 Em h fun b hb=>setRow_other _ _ _ _ (fun hc=>by have:=(h.lt b hb).1;have hc':b = q:=hc;omega)
theorem Bf.setRow {w:World} {base size n:Nat} {ρ:Nat->Nat} {r:Nat} {e:TypeId} {v:Value} {xs:List Value} (h:Bf w base ρ r e size v n xs) {q:Nat} (hq:q < base) (cs:Array Value):Bf (w.setRow q cs) base ρ r e size v n xs:=⟨Vt h.1 hq cs,h.2⟩
structure SK (base:Nat) (w0:World) (fx:Ak) (s:Mst) (bx:Nat) (v:Bc) (w w1:World):Prop where
 ms0:MS base w0 fx s bx v w
 row:∃ cs:List Value,Row w1 w.heap.size 64 cs/\cs.length = 466
 bel:Below w.heap.size w w1
section
variable {base:Nat} {w0:World} {fx:Ak} {s:Mst} {bx:Nat} {v:Bc} {w w1 w2:World}
theorem MS.Aw0 (h:MS base w0 fx s bx v w):w.rangeAt bx 423 (Ei s.rg):=by
 intro j u hj;have hl:=h.rl
 have hjl:j < 44:=by
  by_cases hh:j < 44
  ·exact hh
  ·rw [List.getElem?_eq_none (by omega)] at hj;cases hj
 have hb:=h.box;unfold Aw at hb;exact (Lh h.lq hl hb j hjl).trans hj
theorem MS.rangeS (h:MS base w0 fx s bx v w):w.rangeAt bx 0 s.st:=by
 intro j u hj;have hl:=h.lq
 have hjl:j < 416:=by
  by_cases hh:j < 416
  ·exact hh
  ·rw [List.getElem?_eq_none (by omega)] at hj;cases hj
 have hb:=h.box;unfold Aw mrow at hb;rw [Nat.zero_add,hb.cell,List.getElem?_append_left (by omega)];exact hj
theorem SK.ms (h:SK base w0 fx s bx v w w1):MS base w0 fx s bx v w1:=h.ms0.next h.bel
theorem SK.lt (h:SK base w0 fx s bx v w w1):w.heap.size < w1.heap.size:=let ⟨_,hr,_⟩:=h.row;hr.lt
theorem SK.next (h:SK base w0 fx s bx v w w1) (hb:Below w1.heap.size w1 w2):SK base w0 fx s bx v w w2:=⟨h.ms0,let ⟨cs,hr,hl⟩:=h.row;⟨cs,hr.below hb hr.lt,hl⟩,h.bel.trans (hb.mono h.bel.size)⟩
theorem SK.set (h:SK base w0 fx s bx v w w1) {X:List Value} (hX:X.length = 466):SK base w0 fx s bx v w (w1.setRow w.heap.size X.toArray)/\Row (w1.setRow w.heap.size X.toArray) w.heap.size 64 X:=by
 obtain ⟨cs,hr,hl⟩:=h.row;have h1:Row (w1.setRow w.heap.size X.toArray) w.heap.size 64 X:=setRow_heap w1 w.heap.size cs.toArray X.toArray _ _ hr;exact ⟨⟨h.ms0,⟨X,h1,hX⟩,below_setRow h.bel nl _⟩,h1⟩
theorem SK.k (h:SK base w0 fx s bx v w w1):w1.cell? ⟨bx,416,none⟩ = some v.xv/\w1.cell? ⟨bx,417,none⟩ = some v.tv/\w1.cell? ⟨bx,467,none⟩ = some v.sv/\w1.cell? ⟨bx,468,none⟩ = some (.int .i64 s.at')/\w1.cell? ⟨bx,469,none⟩ = some (.int .i64 s.steps)/\w1.cell? ⟨bx,470,none⟩ = some (.bool s.done)/\w1.rangeAt bx 423 (Ei s.rg)/\w1.rangeAt bx 0 (Rw s.sl)/\SK base w0 fx s bx v w w1:=
 ⟨h.ms.heads.1,h.ms.heads.2.1,h.ms.tail.1,h.ms.tail.2.1,h.ms.tail.2.2.1,h.ms.tail.2.2.2,h.ms.Aw0,h.ms.rangeS,h⟩
theorem SK.n (h:w1.cell? ⟨bx,416,none⟩ = some v.xv/\w1.cell? ⟨bx,417,none⟩ = some v.tv/\w1.cell? ⟨bx,467,none⟩ = some v.sv/\w1.cell? ⟨bx,468,none⟩ = some (.int .i64 s.at')/\w1.cell? ⟨bx,469,none⟩ = some (.int .i64 s.steps)/\w1.cell? ⟨bx,470,none⟩ = some (.bool s.done)/\w1.rangeAt bx 423 (Ei s.rg)/\w1.rangeAt bx 0 (Rw s.sl)/\SK base w0 fx s bx v w w1) (hb:Below w1.heap.size w1 w2) :
 w2.cell? ⟨bx,416,none⟩ = some v.xv/\w2.cell? ⟨bx,417,none⟩ = some v.tv/\w2.cell? ⟨bx,467,none⟩ = some v.sv/\w2.cell? ⟨bx,468,none⟩ = some (.int .i64 s.at')/\w2.cell? ⟨bx,469,none⟩ = some (.int .i64 s.steps)/\w2.cell? ⟨bx,470,none⟩ = some (.bool s.done)/\w2.rangeAt bx 423 (Ei s.rg)/\w2.rangeAt bx 0 (Rw s.sl)/\SK base w0 fx s bx v w w2:=(h.2.2.2.2.2.2.2.2.next hb).k
end
theorem Zm:Tryz.zeroCells64.size = 466:=by kernel_rfl
theorem Q7:(prog.info? 64).map (·.size) = some 466:=by kernel_rfl
theorem An1:(prog.info? 58).map (·.size) = some 44:=by kernel_rfl
theorem Aiz:(prog.info? 62).map (·.size) = some 416:=by kernel_rfl
theorem Kq {s:Mst} (h1:(Ei s.rg).length = 44) (h2:s.st.length = 416) (xv tv sv:Value):(Au s xv tv sv).length = 466:=by
 unfold Au;simp only [List.length_append,List.length_cons,List.length_nil,h1,h2]
theorem qm {s:Mst} (a b c:Option Addr) (n1 c1 n2 c2 n3 c3:Nat):∀ u ∈ Au s (.slice a n1 c1) (.slice b n2 c2) (.slice c n3 c3),u.oneCell' = true:=by
 intro u hu;unfold Au at hu;simp only [List.mem_append,List.mem_cons,List.not_mem_nil,or_false] at hu
 rcases hu with hu | hu | rfl | rfl | rfl | rfl | rfl | rfl
 ·unfold Ei at hu;obtain ⟨x,_,hx⟩:=List.mem_flatMap.1 hu;unfold Val.cs at hx;simp only [List.mem_cons,List.not_mem_nil,or_false] at hx
  rcases hx with rfl | rfl | rfl | rfl <;> rfl
 ·unfold Mst.st Rw at hu;obtain ⟨x,_,hx⟩:=List.mem_flatMap.1 hu;unfold Slot.cs Val.cs at hx;simp only [List.mem_append,List.mem_cons,List.not_mem_nil,or_false,List.mem_map] at hx
  rcases hx with (rfl | rfl | rfl | rfl) | ⟨y,_,rfl⟩ | rfl <;> rfl
 all_goals rfl
structure Aco (base:Nat) (s:Mst) (xv tv sv:Value) (w:World):Prop where
 at':∃ f vals,Bf w base f 5 5 1 xv s.ctx.length (Gp s.ctx)/\F9 w base f tv vals s.rows/\Bf w base f 6 3 1 sv s.sent.length (Jb s.sent)
structure Jt (w:World) (s:Mst) (xv tv sv:Value) (w':World):Prop where
 bel:Below w.heap.size w w'
 ctx:w'.ownsRow w.heap.size 5 1 xv s.ctx.length (Gp s.ctx)
 tabs:∃ ρ vals,F9 w' w.heap.size ρ tv vals s.rows
 sent:w'.ownsRow w.heap.size 3 1 sv s.sent.length (Jb s.sent)
 shx:∃ a n c,xv = .slice a n c
 sht:∃ a n c,tv = .slice a n c
 shs:∃ a n c,sv = .slice a n c
 lab:Aco w.heap.size s xv tv sv w'
theorem Afg (fx:Ak) (s:Mst) (hcl:s.ctx.length <= 65535) (hsl:s.sent.length <= 100000) (hrl:s.rows.length <= 1000000) (hrb:∀ k (h:k < s.rows.length),Ah s.rows[k]/\s.rows[k].length <= 140737488355328) (base:Nat) (w0:World) (bx:Nat) (v:Bc) (w:World) (hM:MS base w0 fx s bx v w) :
 Calls prog 17 #[.pointer (some ⟨bx,0,none⟩)] w fun e w'=>∃ xv tv sv,e = .returned (.agg (Au s xv tv sv).toArray)/\Jt w s xv tv sv w':=by
 have hSK:SK base w0 fx s bx v w (w.alloc (.cells Tryz.zeroCells64 64)):=⟨hM,⟨Tryz.zeroCells64.toList,by
  have:=Row.made w Tryz.zeroCells64.toList 64;rw [Array.toArray_toList] at this;exact this,by rw [Array.length_toList];exact Zm⟩,Ae w _⟩
 have Pg:=hM.rl;have Ht:=hM.lq;have hu1:=underlying58;have hu2:=underlying62;have hi1:(prog.info? 58).map (·.size) = some (Ei s.rg).length:=by rw [Pg];exact An1
 have hi2:(prog.info? 62).map (·.size) = some (Rw s.sl).length:=by rw [show (Rw s.sl).length = 416 from Ht];exact Aiz
 have hbs:=An0 s Pg Ht;have hRX:∀ w' (hw:w'.cell? ⟨bx,416,none⟩ = some v.xv/\w'.cell? ⟨bx,417,none⟩ = some v.tv/\w'.cell? ⟨bx,467,none⟩ = some v.sv/\w'.cell? ⟨bx,468,none⟩ = some (.int .i64 s.at')/\w'.cell? ⟨bx,469,none⟩ = some (.int .i64 s.steps)/\w'.cell? ⟨bx,470,none⟩ = some (.bool s.done)/\w'.rangeAt bx 423 (Ei s.rg)/\w'.rangeAt bx 0 (Rw s.sl)/\SK base w0 fx s bx v w w'),Reads w' 1 v.xv s.ctx.length (Gp s.ctx):=fun w' hw=>Gl hw.2.2.2.2.2.2.2.2.ms.Qr.1 (Ot _) (by decide);have hRN:∀ w' (hw:w'.cell? ⟨bx,416,none⟩ = some v.xv/\w'.cell? ⟨bx,417,none⟩ = some v.tv/\w'.cell? ⟨bx,467,none⟩ = some v.sv/\w'.cell? ⟨bx,468,none⟩ = some (.int .i64 s.at')/\w'.cell? ⟨bx,469,none⟩ = some (.int .i64 s.steps)/\w'.cell? ⟨bx,470,none⟩ = some (.bool s.done)/\w'.rangeAt bx 423 (Ei s.rg)/\w'.rangeAt bx 0 (Rw s.sl)/\SK base w0 fx s bx v w w'),Reads w' 1 v.sv s.sent.length (Jb s.sent):=fun w' hw=>Gl hw.2.2.2.2.2.2.2.2.ms.Jo.1 (Wy _) (by decide);have hRT:∀ w' (hw:w'.cell? ⟨bx,416,none⟩ = some v.xv/\w'.cell? ⟨bx,417,none⟩ = some v.tv/\w'.cell? ⟨bx,467,none⟩ = some v.sv/\w'.cell? ⟨bx,468,none⟩ = some (.int .i64 s.at')/\w'.cell? ⟨bx,469,none⟩ = some (.int .i64 s.steps)/\w'.cell? ⟨bx,470,none⟩ = some (.bool s.done)/\w'.rangeAt bx 423 (Ei s.rg)/\w'.rangeAt bx 0 (Rw s.sl)/\SK base w0 fx s bx v w w'),Es w' v.tv v.vals s.rows:=fun w' hw=>Anz hw.2.2.2.2.2.2.2.2.ms.Oo (fun k hk=>(hrb k hk).1);have HCB:=Lib.hid (fun w' hw=>Iw v.xv s.ctx.length (Gp s.ctx) w' (hRX w' hw) (by omega));have HCN:=Lib.hid (fun w' hw=>Yh v.sv s.sent.length (Jb s.sent) w' (hRN w' hw) (by omega));have HCT:=Lib.hid (fun w' hw=>Uu v.tv v.vals s.rows hrl (fun k hk=>(hrb k hk).2) w' (hRT w' hw) (fun _=>0) 10);have hks:=(hSK.next (Below.refl _ _).drew).k;clear hRX hRN hRT hM;go_enter func17,ntmps17;go_upto_region 1 with fail;generalize World.alloc _ _ = wA at hSK hks ⊢;refine wp_region_held_drew (S:=(fun w'=>w'.cell? ⟨bx,416,none⟩ = some v.xv/\w'.cell? ⟨bx,417,none⟩ = some v.tv/\w'.cell? ⟨bx,467,none⟩ = some v.sv/\w'.cell? ⟨bx,468,none⟩ = some (.int .i64 s.at')/\w'.cell? ⟨bx,469,none⟩ = some (.int .i64 s.steps)/\w'.cell? ⟨bx,470,none⟩ = some (.bool s.done)/\w'.rangeAt bx 423 (Ei s.rg)/\w'.rangeAt bx 0 (Rw s.sl)/\SK base w0 fx s bx v w w')) (by kernel_rfl) ?_ (fun hHeld=>?_)
 ·(try dsimp only);exact hks
 refine D6 0 3 ?_;refine D6 1 4 ?_;refine D6 2 5 ?_;refine wpAnyH_take (i:=3) (oi:=_) (v:=_) rfl (by kernel_rfl) (by kernel_rfl) (by kernel_rfl) (fun _ _ _ h=>h) (yieldsIf_load_mid (by rfl) 58 _ rfl bx 423 rfl (Ei s.rg) _ (fun w hSw=>by (try dsimp only at hSw);go_split_ands;assumption) hu1 rfl hi1) (by assumption) ?_
 try simp only [Act.put,List.setIfInBounds_toArray,List.set_cons_zero,List.set_cons_succ]
 refine D6 4 7 ?_;refine D6 5 8 ?_;refine D6 6 9 ?_;refine D6 7 10 ?_;refine wpAnyH_take (i:=8) (oi:=_) (v:=_) rfl (by kernel_rfl) (by kernel_rfl) (by kernel_rfl) (fun _ _ _ h=>h) (yieldsIf_load_mid (by rfl) 62 _ rfl bx 0 rfl (Rw s.sl) _ (fun w hSw=>by (try dsimp only at hSw);go_split_ands;assumption) hu2 rfl hi2) (by assumption) ?_
 try simp only [Act.put,List.setIfInBounds_toArray,List.set_cons_zero,List.set_cons_succ]
 refine D6 9 12 ?_;refine D6 10 13 ?_;refine D6 11 14 ?_;refine D6 12 15 ?_;refine D6 13 16 ?_;refine D6 15 18 ?_;refine D6 16 19 ?_;refine D6 17 20 ?_;refine D6 18 21 ?_;refine D6 19 22 ?_;refine D6 21 24 ?_;refine D6 22 25 ?_;refine D6 23 26 ?_;refine D6 24 27 ?_;refine D6 26 29 ?_;refine D6 27 30 ?_;refine D6 28 31 ?_;refine D6 29 32 ?_;refine D6 30 33 ?_;refine D6 31 34 ?_;refine D6 32 35 ?_;refine D6 33 36 ?_;refine D6 34 37 ?_;refine D6 35 38 ?_;refine D6 36 39 ?_;refine D6 37 40 ?_;refine wpAnyH_ready (rs:=[14]) (by kernel_rfl) (by simp) ?_;refine AllReadyH.cons (o:=_) rfl (fun K hK=>?_) AllReadyH.nil;go_simp
 (go_at_call 32;refine (HCB.out _ (by with_reducible assumption)).mono ?_;rintro e wC ⟨vC,rfl,Ou,hbC⟩;obtain ⟨aC,kC,rfl⟩:=Ai Ou)
 refine hK.out _ _ ?_ (fun hHeld=>?_)
 ·(try dsimp only);exact SK.n (by with_reducible assumption) hbC
 clear hK K
 try simp only [Act.put,List.setIfInBounds_toArray,List.set_cons_zero,List.set_cons_succ]
 refine wpAnyH_ready (rs:=[20]) (by kernel_rfl) (by simp) ?_;refine AllReadyH.cons (o:=_) rfl (fun K hK=>?_) AllReadyH.nil;go_simp
 (go_at_call 33;refine (HCT.out _ (by with_reducible assumption)).mono ?_;rintro e wT ⟨vT,Zf,Xa,rfl,hT⟩;obtain ⟨aT,kT,rfl⟩:=Ai hT.list.1)
 refine hK.out _ _ ?_ (fun hHeld=>?_)
 ·(try dsimp only);exact SK.n (by with_reducible assumption) hT.bel
 clear hK K
 try simp only [Act.put,List.setIfInBounds_toArray,List.set_cons_zero,List.set_cons_succ]
 refine wpAnyH_ready (rs:=[25]) (by kernel_rfl) (by simp) ?_;refine AllReadyH.cons (o:=_) rfl (fun K hK=>?_) AllReadyH.nil;go_simp
 (go_at_call 43;refine (HCN.out _ (by with_reducible assumption)).mono ?_;rintro e wN ⟨vN,rfl,Xb,hbN⟩;obtain ⟨aN,kN,rfl⟩:=Ai Xb)
 refine hK.out _ _ ?_ (fun hHeld=>?_)
 ·(try dsimp only);exact SK.n (by with_reducible assumption) hbN
 clear hK K
 try simp only [Act.put,List.setIfInBounds_toArray,List.set_cons_zero,List.set_cons_succ]
 have hSN:=(((hSK.next (Below.refl _ _).drew).next hbC).next hT.bel).next hbN
 refine wpAnyH_take (i:=38) (oi:=⟨some 41,.build 64 #[(0,.tmp 6),(1,.tmp 11),(2,.tmp 17),(3,.tmp 23),(4,.tmp 28),(5,.tmp 32),(6,.tmp 36),(7,.tmp 40)],_,_,_,_⟩) (v:=.agg (Au s (.slice aC s.ctx.length kC) (.slice aT s.rows.length kT) (.slice aN s.sent.length kN)).toArray) rfl (by kernel_rfl) (by kernel_rfl) (by kernel_rfl) (fun _ _ _ h=>h) (Or.inl ⟨by rfl,fun w hSw=>by
  unfold execOp;simp only [List.map_toArray,List.map_cons,List.map_nil,Sem.run_bind];have h:=hbs aC aT aN s.ctx.length kC s.rows.length kT s.sent.length kN w;change Result.andThen (Sem.run prog (Instr.build 64 #[(0,.agg (Ei s.rg).toArray),(1,.agg s.st.toArray),(2,.slice aC s.ctx.length kC),(3,.slice aT s.rows.length kT),(4,.slice aN s.sent.length kN),(5,.int .i64 s.at'),(6,.int .i64 s.steps),(7,.bool s.done)]) w) _ = _;rw [h];rfl⟩) (by assumption) ?_
 try simp only [Act.put,List.setIfInBounds_toArray,List.set_cons_zero,List.set_cons_succ]
 have hX:=Kq Pg Ht (.slice aC s.ctx.length kC) (.slice aT s.rows.length kT) (.slice aN s.sent.length kN);have hX1:=qm (s:=s) aC aT aN s.ctx.length kC s.rows.length kT s.sent.length kN;obtain ⟨hS2,hR2⟩:=hSN.set hX;obtain ⟨old,hro,hlo⟩:=hSN.row;refine wpAnyH_ready (rs:=[39]) (by kernel_rfl) (by simp) ?_;refine AllReadyH.cons (o:=⟨none,.store 64 (.tmp 2) (.tmp 41),_,_,_,_⟩) rfl (fun K hK=>?_) AllReadyH.nil;rw [if_pos (by rfl)];refine wp_store_row 64 (.tmp 2) (.tmp 41) rfl w.heap.size _ rfl rfl 64 old.toArray hro (by rw [List.size_toArray,hX];exact Q7) (by rw [List.size_toArray,List.size_toArray,hX,hlo]) (all_oneCell_toArray hX1) ?_;refine hK.out _ _ ?_ (fun hHeld=>?_)
 ·(try dsimp only);exact hS2.k
 clear hK K
 try simp only [Act.put,List.setIfInBounds_toArray,List.set_cons_zero,List.set_cons_succ]
 refine wpAnyH_done (by kernel_rfl) ?_ _;go_wp2_with fail;have hb0:w.heap.size < wA.drew.heap.size:=hks.2.2.2.2.2.2.2.2.lt;have hsC:wA.drew.heap.size <= wC.heap.size:=hbC.size;have hsT:wC.heap.size <= wT.heap.size:=hT.bel.size;have hC:=Gz (Vt (Dn (Dn Ou hT.bel nl) hbN nl) hb0 (Au s (.slice aC s.ctx.length kC) (.slice aT s.rows.length kT) (.slice aN s.sent.length kN)).toArray) (Nat.le_of_lt hb0);have hN:=Gz (Vt Xb (show w.heap.size < wT.heap.size by omega) (Au s (.slice aC s.ctx.length kC) (.slice aT s.rows.length kT) (.slice aN s.sent.length kN)).toArray) (show w.heap.size <= wT.heap.size by omega);have hTT:F9 wT wC.heap.size Xa (.slice aT s.rows.length kT) Zf s.rows:=⟨hT.list,fun k hk=>hT.item k hk hk⟩;have hTN:=hTT.next hbN (fun _ _=>rfl)
 have hT2:F9 (wN.setRow w.heap.size (Au s (.slice aC s.ctx.length kC) (.slice aT s.rows.length kT) (.slice aN s.sent.length kN)).toArray) w.heap.size Xa (.slice aT s.rows.length kT) Zf s.rows:=
  ⟨(hTN.list.setRow (show w.heap.size < wC.heap.size by omega) _).low (show w.heap.size <= wC.heap.size by omega),fun k hk=>let ⟨u,hu,ho⟩:=hTN.item k hk;⟨u,hu,(ho.setRow (show w.heap.size < wC.heap.size by omega) _).low (show w.heap.size <= wC.heap.size by omega)⟩⟩
 have hLB:Aco w.heap.size s (.slice aC s.ctx.length kC) (.slice aT s.rows.length kT) (.slice aN s.sent.length kN) (wN.setRow w.heap.size (Au s (.slice aC s.ctx.length kC) (.slice aT s.rows.length kT) (.slice aN s.sent.length kN)).toArray):=by
  refine ⟨⟨fun q=>if q < wC.heap.size then 5 else if q < wT.heap.size then Xa q else 6,Zf,⟨hC,fun b hb=>if_pos (Ou.lt b hb).2⟩,⟨⟨hT2.list.1,fun b hb=>?_⟩,fun k hk=>?_⟩,⟨hN,fun b hb=>?_⟩⟩⟩
  ·obtain ⟨l1,l2⟩:=hTT.list.1.lt b hb;show (if b < wC.heap.size then 5 else if b < wT.heap.size then Xa b else 6) = 10;rw [if_neg (by omega),if_pos l2];exact hTT.list.2 b hb
  ·obtain ⟨u,hu,ho⟩:=hTT.item k hk;refine ⟨u,hu,(((ho.next hbN (fun _ _=>rfl)).setRow (show w.heap.size < wC.heap.size by omega) _).low (show w.heap.size <= wC.heap.size by omega)).1,fun b hb=>?_⟩;obtain ⟨l1,l2⟩:=ho.1.lt b hb;show (if b < wC.heap.size then 5 else if b < wT.heap.size then Xa b else 6) = 11 + k;rw [if_neg (by omega),if_pos l2];exact ho.2 b hb
  ·have l1:=(Xb.lt b hb).1;show (if b < wC.heap.size then 5 else if b < wT.heap.size then Xa b else 6) = 6;rw [if_neg (by omega),if_neg (by omega)]
 exact bodyPost_ret (v:=.agg (Au s (.slice aC s.ctx.length kC) (.slice aT s.rows.length kT) (.slice aN s.sent.length kN)).toArray) (results_cell_row (p:=2) results17 _ _ w.heap.size _ _ (0,0) _ rfl hR2 underlying64 rfl (by rw [List.size_toArray,hX];exact Q7)) rfl ⟨_,_,_,rfl,⟨hS2.bel,hC,⟨_,_,hT2⟩,hN,⟨_,_,_,rfl⟩,⟨_,_,_,rfl⟩,⟨_,_,_,rfl⟩,hLB⟩⟩
end Go.Proofs.YtjacnhnaoenelaaGreat
