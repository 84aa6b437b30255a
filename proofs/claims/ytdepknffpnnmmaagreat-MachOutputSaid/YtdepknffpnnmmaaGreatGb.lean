import Derived.Test.YtdepknffpnnmmaaGreatJ3a
import Derived.ChangeKeysEq
import Derived.Laws.StructEq
import Derived.Deep.MidRow
import Derived.Test.YtdepknffpnnmmaaGreatInts
import Derived.Deep.WholeRow
import Derived.Test.YtdepknffpnnmmaaGreatMachBI2
import Derived.Test.YtdepknffpnnmmaaGreatGa
set_option maxRecDepth 100000
set_option maxHeartbeats 4000000
namespace Go.Proofs.YtdepknffpnnmmaaGreat
open Go.RowKit
set_option linter.unusedVariables false
set_option linter.unusedSimpArgs false
theorem run_part_agg {P:Program} {t:TypeId} {d:TypeDesc} {n:Nat} (hu:P.underlying t = some d) (hd:d.isRow = true) (hi:(P.info? t).map (·.size) = some n) (cs:Array Value) (off:Nat) (w:World):(part t cs off).run P w = .ok (.agg (cs.extract off (off + n))) w:=by
 cases hq:P.info? t with
 | none=>simp [hq] at hi
 | some i =>
   have hs:i.size = n:=by simpa [hq] using hi
   have hagg:(isAgg t).run P w = .ok true w:=by
    unfold isAgg
    rw [Sem.run_bind,run_underlying hu w]
    cases d <;> simp_all
   simp [part,Sem.run_bind,hagg,sizeOf,typeInfo,hq,hs]
theorem eqf_cons {P:Program} {d:Nat} {xs ys:Array Value} {f:Field} {fs:List Field} {a b:Value} {w:World} (hn:f.name ≠ "_") (ha:(part f.type xs f.offset).run P w = .ok a w) (hb:(part f.type ys f.offset).run P w = .ok b w) (he:(Op.equalIn d f.type a b).run P w = .ok true w) (ht:(Op.eqFields d xs ys fs).run P w = .ok true w):(Op.eqFields d xs ys (f :: fs)).run P w = .ok true w:=by
 unfold Op.eqFields
 rw [if_pos hn]
 simp only [Sem.run_bind,ha,hb,he,Result.andThen_ok,Bool.not_true,Bool.false_eq_true,if_false]
 exact ht
theorem eqi_all {P:Program} {d:Nat} {e:TypeId} {c:Nat} {xs:Array Value} {w:World}:∀ is:List Nat,(∀ i ∈ is,∃ a,(part e xs (i * c)).run P w = .ok a w/\(Op.equalIn d e a a).run P w = .ok true w)->(Op.eqItems d e c xs xs is).run P w = .ok true w
 | [],_=>by simp [Op.eqItems]
 | i :: is, h => by
   obtain ⟨a,ha,he⟩:=h i (List.mem_cons_self ..)
   unfold Op.eqItems
   simp only [Sem.run_bind,ha,he,Result.andThen_ok,Bool.not_true,Bool.false_eq_true,if_false]
   exact eqi_all is fun j hj=>h j (List.mem_cons_of_mem _ hj)
theorem int_refl (d:Nat) (t:TypeId) (k:IntKind) (a:Int) (h:Tryz.prog.underlying t = some (.int k)) (w:World):(Op.equalIn (d + 1) t (.int k a) (.int k a)).run Tryz.prog w = .ok true w:=by
 rw [run_equalIn_int w d t k k a a h]
 simp
theorem val_refl (a b c d:Int) (n:Nat) (w:World):(Op.equalIn (n + 2) 55 (.agg #[.int .i64 a,.int .i64 b,.int .i64 c,.int .i64 d]) (.agg #[.int .i64 a,.int .i64 b,.int .i64 c,.int .i64 d])).run Tryz.prog w = .ok true w:=by
 rw [run_equalIn_struct w (n + 1) 55 _ _ (by kernel_rfl) (by kernel_rfl)]
 obtain ⟨f0,f1,f2,f3,hf,h0,h1,h2,h3⟩:∃ f0 f1 f2 f3:Field,(Tryz.prog.fieldsOf 55).toList = [f0,f1,f2,f3]/\(f0.name ≠ "_"/\f0.type = 3/\f0.offset = 0)/\(f1.name ≠ "_"/\f1.type = 3/\f1.offset = 1)/\(f2.name ≠ "_"/\f2.type = 3/\f2.offset = 2)/\(f3.name ≠ "_"/\f3.type = 3/\f3.offset = 3):=⟨_,_,_,_,rfl,by decide,by decide,by decide,by decide⟩
 rw [hf]
 refine eqf_cons h0.1 (a:=.int .i64 a) (b:=.int .i64 a) (by rw [h0.2.1,h0.2.2];rfl) (by rw [h0.2.1,h0.2.2];rfl) (by rw [h0.2.1];exact int_refl n 3 .i64 a (by kernel_rfl) w) ?_
 refine eqf_cons h1.1 (a:=.int .i64 b) (b:=.int .i64 b) (by rw [h1.2.1,h1.2.2];rfl) (by rw [h1.2.1,h1.2.2];rfl) (by rw [h1.2.1];exact int_refl n 3 .i64 b (by kernel_rfl) w) ?_
 refine eqf_cons h2.1 (a:=.int .i64 c) (b:=.int .i64 c) (by rw [h2.2.1,h2.2.2];rfl) (by rw [h2.2.1,h2.2.2];rfl) (by rw [h2.2.1];exact int_refl n 3 .i64 c (by kernel_rfl) w) ?_
 refine eqf_cons h3.1 (a:=.int .i64 d) (b:=.int .i64 d) (by rw [h3.2.1,h3.2.2];rfl) (by rw [h3.2.1,h3.2.2];rfl) (by rw [h3.2.1];exact int_refl n 3 .i64 d (by kernel_rfl) w) ?_
 rfl
theorem take_row {cs sub:List Value} {a n:Nat} (hn:sub.length = n) (h:∀ j,j < n->cs[a + j]? = sub[j]?):cs.toArray.extract a (a + n) = sub.toArray:=by
 rw [List.extract_toArray]
 congr 1
 rw [show cs.extract a (a + n) = (cs.drop a).take n from by simp [List.extract_eq_take_drop]]
 apply List.ext_getElem?
 intro j
 by_cases hj:j < n
 ·rw [List.getElem?_take_of_lt hj,List.getElem?_drop,h j hj]
 ·rw [List.getElem?_take,if_neg hj,List.getElem?_eq_none (by omega)]
theorem regs_refl (rg:List Val) (h:rg.length = 11) (w:World):(binOp .eql 56 (.agg (regc rg).toArray) (.agg (regc rg).toArray)).run Tryz.prog w = .ok (.bool true) w:=by
 rw [run_eql_struct]
 obtain ⟨i,hi⟩:∃ i,Tryz.prog.info? 55 = some i:=⟨_,rfl⟩
 have hc:Tryz.prog.cellsOf 55 = 4:=by kernel_rfl
 have hq:=run_equalIn_array (P:=Tryz.prog) w 9999 (t:=56) (e:=55) (n:=11) (regc rg).toArray (regc rg).toArray Tryz.underlying56 hi
 rw [hc,eqi_all _ (fun k hk=>?_)] at hq
 ·rw [show (10000:Nat) = 9999 + 1 from rfl,hq]
  rfl
 ·have hk11:k < 11:=List.mem_range.1 hk
  refine ⟨.agg (rg[k]'(by omega)).cs.toArray,?_,?_⟩
  ·rw [run_part_agg (n:=4) Tryz.underlying55 rfl (by kernel_rfl),take_row (n:=4) (sub:=(rg[k]'(by omega)).cs) rfl fun j hj=>regc_get rg k (by omega) j hj]
  ·obtain ⟨a,b,c,d⟩:=rg[k]'(by omega)
   exact val_refl a b c d 9997 w
theorem slot_refl (x:Slot) (hx:x.b.length = 8) (n:Nat) (w:World):(Op.equalIn (n + 3) 59 (.agg x.cs.toArray) (.agg x.cs.toArray)).run Tryz.prog w = .ok true w:=by
 obtain ⟨⟨k,t,o,y⟩,b,m⟩:=x
 simp only at hx
 match b,hx with
 | [b0, b1, b2, b3, b4, b5, b6, b7], _ =>
   rw [run_equalIn_struct w (n + 2) 59 _ _ (by kernel_rfl) (by kernel_rfl)]
   obtain ⟨f0,f1,f2,hf,h0,h1,h2⟩:∃ f0 f1 f2:Field,(Tryz.prog.fieldsOf 59).toList = [f0,f1,f2]/\(f0.name ≠ "_"/\f0.type = 55/\f0.offset = 0)/\(f1.name ≠ "_"/\f1.type = 57/\f1.offset = 4)/\(f2.name ≠ "_"/\f2.type = 3/\f2.offset = 12):=⟨_,_,_,rfl,by decide,by decide,by decide⟩
   rw [hf]
   refine eqf_cons h0.1 (a:=.agg #[.int .i64 k,.int .i64 t,.int .i64 o,.int .i64 y]) (b:=.agg #[.int .i64 k,.int .i64 t,.int .i64 o,.int .i64 y]) (by rw [h0.2.1,h0.2.2];rfl) (by rw [h0.2.1,h0.2.2];rfl) (by rw [h0.2.1];exact val_refl k t o y n w) ?_
   refine eqf_cons h1.1 (a:=.agg #[.int .u8 b0,.int .u8 b1,.int .u8 b2,.int .u8 b3,.int .u8 b4,.int .u8 b5,.int .u8 b6,.int .u8 b7]) (b:=.agg #[.int .u8 b0,.int .u8 b1,.int .u8 b2,.int .u8 b3,.int .u8 b4,.int .u8 b5,.int .u8 b6,.int .u8 b7]) (by rw [h1.2.1,h1.2.2];rfl) (by rw [h1.2.1,h1.2.2];rfl) ?_ ?_
   ·rw [h1.2.1]
    obtain ⟨i,hi⟩:∃ i,Tryz.prog.info? 5 = some i:=⟨_,rfl⟩
    have hc:Tryz.prog.cellsOf 5 = 1:=by kernel_rfl
    have hq:=run_equalIn_array (P:=Tryz.prog) w (n + 1) (t:=57) (e:=5) (n:=8) #[.int .u8 b0,.int .u8 b1,.int .u8 b2,.int .u8 b3,.int .u8 b4,.int .u8 b5,.int .u8 b6,.int .u8 b7] #[.int .u8 b0,.int .u8 b1,.int .u8 b2,.int .u8 b3,.int .u8 b4,.int .u8 b5,.int .u8 b6,.int .u8 b7] Tryz.underlying57 hi
    rw [hc,eqi_all _ (fun k hk=>?_)] at hq
    ·exact hq
    ·have hk8:k < 8:=List.mem_range.1 hk
     have hc:k = 0\/k = 1\/k = 2\/k = 3\/k = 4\/k = 5\/k = 6\/k = 7:=by omega
     rcases hc with rfl | rfl | rfl | rfl | rfl | rfl | rfl | rfl
     all_goals exact ⟨_,rfl,int_refl n 5 .u8 _ (by kernel_rfl) w⟩
   refine eqf_cons h2.1 (a:=.int .i64 m) (b:=.int .i64 m) (by rw [h2.2.1,h2.2.2];rfl) (by rw [h2.2.1,h2.2.2];rfl) (by rw [h2.2.1];exact int_refl (n + 1) 3 .i64 m (by kernel_rfl) w) ?_
   rfl
theorem stack_refl (sl:List Slot) (h:SlotsOK sl) (w:World):(binOp .eql 60 (.agg (stc sl).toArray) (.agg (stc sl).toArray)).run Tryz.prog w = .ok (.bool true) w:=by
 rw [run_eql_struct]
 obtain ⟨h32,hb⟩:=h
 obtain ⟨i,hi⟩:∃ i,Tryz.prog.info? 59 = some i:=⟨_,rfl⟩
 have hc:Tryz.prog.cellsOf 59 = 13:=by kernel_rfl
 have hq:=run_equalIn_array (P:=Tryz.prog) w 9999 (t:=60) (e:=59) (n:=32) (stc sl).toArray (stc sl).toArray Tryz.underlying60 hi
 rw [hc,eqi_all _ (fun k hk=>?_)] at hq
 ·rw [show (10000:Nat) = 9999 + 1 from rfl,hq]
  rfl
 ·have hk32:k < 32:=List.mem_range.1 hk
  have hbk:=hb _ (List.getElem_mem (show k < sl.length by omega))
  refine ⟨.agg (sl[k]'(by omega)).cs.toArray,?_,slot_refl _ hbk 9996 w⟩
  rw [run_part_agg (n:=13) Tryz.underlying59 rfl (by kernel_rfl),take_row (n:=13) (sub:=(sl[k]'(by omega)).cs) (Slot.len hbk) fun j hj=>stc_get sl hb k (by omega) j hj]
theorem Rowed.drewN {w:World} {v:Value} {vals:List Value} {rows:List (List Int)} (h:Rowed w v vals rows) (n:Nat):Rowed (w.drewN n) v vals rows:=h.below (below_drewN (Below.refl w.heap.size w) n) (Nat.le_refl _)
theorem same_rows (v1 v2:Value) (vals1 vals2:List Value) (rows:List (List Int)) (hl:rows.length <= 9223372036854775807) (w:World) (h1:Rowed w v1 vals1 rows) (h2:Rowed w v2 vals2 rows) :
 Calls Tryz.prog 39 #[v1,v2] w fun e w'=>e = .returned (.bool true)/\∃ n,w' = w.drewN n:=by
 obtain ⟨a1,k1,rfl,hc1⟩:=h1.open
 obtain ⟨a2,k2,rfl,hc2⟩:=h2.open
 obtain ⟨n,hn⟩:∃ n,n = rows.length:=⟨_,rfl⟩
 rw [<- hn] at hl ⊢
 have HN:=Lib.hid (And.intro hn hl)
 have HC1:=Lib.hid hc1
 have HC2:=Lib.hid hc2
 clear hn hl hc1 hc2 h1 h2
 have hnn:((n:Int) != n) = false:=by simp
 go_enter Tryz.func39,Tryz.ntmps39
 go_wp2
 go_loopw [5] (fun s wr=>∃ i:Nat,i <= n/\s = .int .i64 i/\∃ k,wr = w.drewN k) (fun s _=>n - (intOf s).toNat)
 case atStart=>exact ⟨0,Nat.zero_le _,rfl,0,rfl⟩
 case round=>
  obtain ⟨i,hi,rfl,k,rfl⟩:=hrel
  by_cases hlt:i < n
  ·have hlr:i < rows.length:=by have:=HN.out.1;omega
   obtain ⟨b1,o1,u1,rfl,hb1,hu1,e1,hh1⟩:=HC1.out i hlr
   obtain ⟨b2,o2,u2,rfl,hb2,hu2,e2,hh2⟩:=HC2.out i hlr
   obtain ⟨row,hrow⟩:∃ row,row = rows[i]:=⟨_,rfl⟩
   rw [<- hrow] at hh1 hh2
   have hmk:∀ w':World,(∃ k,w' = w.drewN k)->w'.cell? ⟨b1,o1 + i,none⟩ = some u1/\w'.cell? ⟨b2,o2 + i,none⟩ = some u2/\Held w' u1 row/\Held w' u2 row/\∃ k,w' = w.drewN k:=by
    rintro _ ⟨j,rfl⟩
    exact ⟨e1,e2,hh1.drewN j,hh2.drewN j,j,rfl⟩
   have HMK:=Lib.hid hmk
   have HSM:=Lib.hid (fun (w':World) (hS:w'.cell? ⟨b1,o1 + i,none⟩ = some u1/\w'.cell? ⟨b2,o2 + i,none⟩ = some u2/\Held w' u1 row/\Held w' u2 row/\∃ k,w' = w.drewN k)=>same_at u1 u2 row w' hS.2.2.1 hS.2.2.2.1)
   have hwi:wrap64 ((i:Int) + 1) = ((i + 1:Nat):Int):=by have:=HN.out.2;unfold wrap64;omega
   have hj1:(0:Int) <= (i:Int):=by omega
   have hj3:(i:Int) < n:=by omega
   clear hmk hb1 hb2 hu1 hu2 e1 e2 hh1 hh2 hrow
   go_wp2_with fail
   go_region_held3 (fun w':World=>w'.cell? ⟨b1,o1 + i,none⟩ = some u1/\w'.cell? ⟨b2,o2 + i,none⟩ = some u2/\Held w' u1 row/\Held w' u2 row/\∃ k,w' = w.drewN k)
    (first
      | with_reducible assumption
      | exact HMK.out _ ⟨k + 1,rfl⟩)
    (first
      | (go_at_call 15;refine (HSM.out _ (HMK.out _ ⟨k + 1,rfl⟩)).mono ?_;rintro e w' ⟨rfl,rfl⟩))
   rename_i hheld
   go_wp2
   go_roundw
   case rel=>exact ⟨i + 1,hlt,by first | rfl | rw [hwi],hheld.2.2.2.2⟩
   case measure=>
    first | rw [hwi] | skip
    show n - ((i + 1:Nat):Int).toNat < n - ((i:Nat):Int).toNat
    omega
  ·obtain rfl:i = n:=by omega
   go_wp2
   go_ret
   exact ⟨rfl,k,rfl⟩
theorem same_output (r0:Int) (xa ta sa xb tb sb:Option Addr) (kxa kta ksa kxb ktb ksb:Nat) (ctx sent:List Int) (rows:List (List Int)) (va vb:List Value) (hrl:rows.length <= 9223372036854775807) (hsl:sent.length <= 9223372036854775807) (w:World)
 (hxa:Held w (.slice xa ctx.length kxa) ctx) (hta:Rowed w (.slice ta rows.length kta) va rows) (hsa:Ints w (.slice sa sent.length ksa) sent)
 (hxb:Held w (.slice xb ctx.length kxb) ctx) (htb:Rowed w (.slice tb rows.length ktb) vb rows) (hsb:Ints w (.slice sb sent.length ksb) sent) :
 Calls Tryz.prog 24 #[.agg #[.int .i64 r0,.slice xa ctx.length kxa,.slice ta rows.length kta,.slice sa sent.length ksa],.agg #[.int .i64 r0,.slice xb ctx.length kxb,.slice tb rows.length ktb,.slice sb sent.length ksb]] w fun e w'=>e = .returned (.bool true)/\Below w.heap.size w w':=by
 have HH:=Lib.hid (And.intro hxa (And.intro hxb (And.intro hta (And.intro htb (And.intro hsa (And.intro hsb (And.intro hrl hsl)))))))
 clear hxa hxb hta htb hsa hsb hrl hsl
 have hrr:(r0 == r0) = true:=by simp
 go_enter Tryz.func24,Tryz.ntmps24
 go_upto_region 1 with fail
 have hB:∀ o1 o2,Below w.heap.size w ((w.alloc o1).alloc o2):=fun o1 o2=>(below_map w _).trans ((below_map _ _).mono (by simp))
 have HB:=Lib.hid hB
 clear hB
 go_wp2_with (first
  | (go_at_call 15;go_loud (refine (same_at _ _ ctx _ (HH.out.1.below (HB.out _ _) (Nat.le_refl _)) (HH.out.2.1.below (HB.out _ _) (Nat.le_refl _))).mono ?_;rintro e w' ⟨rfl,rfl⟩))
  | (go_at_call 39;go_loud (refine (same_rows _ _ va vb rows HH.out.2.2.2.2.2.2.1 _ (HH.out.2.2.1.below (HB.out _ _) (Nat.le_refl _)) (HH.out.2.2.2.1.below (HB.out _ _) (Nat.le_refl _))).mono ?_;rintro e w' ⟨rfl,n1,rfl⟩))
  | (go_at_call 10;go_loud (refine (ints_same _ _ sent HH.out.2.2.2.2.2.2.2 _ (HH.out.2.2.2.2.1.below (below_drewN (HB.out _ _) _) (Nat.le_refl _)) (HH.out.2.2.2.2.2.1.below (below_drewN (HB.out _ _) _) (Nat.le_refl _))).mono ?_;rintro e w' ⟨rfl,n2,rfl⟩)))
 go_ret
 exact ⟨rfl,by first | exact below_drewN (HB.out _ _) _ | exact below_drewN (below_drewN (HB.out _ _) _) _⟩
theorem statec_reg {s:Mst} {xv tv sv u:Value} {j:Nat} (h:(regc s.rg)[j]? = some u):(statec s xv tv sv)[j]? = some u:=by
 unfold statec
 rw [List.getElem?_append_left (List.getElem?_eq_some_iff.1 h).1]
 exact h
theorem statec_st {s:Mst} (h44:(regc s.rg).length = 44) {xv tv sv u:Value} {j:Nat} (h:(stc s.sl)[j]? = some u):(statec s xv tv sv)[44 + j]? = some u:=by
 unfold statec
 rw [List.getElem?_append_right (by omega),h44,show 44 + j - 44 = j by omega,List.getElem?_append_left (List.getElem?_eq_some_iff.1 h).1]
 exact h
theorem statec_at {s:Mst} (h44:(regc s.rg).length = 44) (h416:s.st.length = 416) (xv tv sv:Value) (i:Nat) (hi:i < 6):(statec s xv tv sv)[460 + i]? = some (([xv,tv,sv,.int .i64 s.at',.int .i64 s.steps,.bool s.done]:List Value)[i]'hi):=by
 unfold statec
 rw [List.getElem?_append_right (by omega),h44,List.getElem?_append_right (by omega),h416,show 460 + i - 44 - 416 = i by omega]
 exact List.getElem?_eq_getElem hi
theorem infob_regs:(Tryz.prog.info? 56).map (·.size) = some 44:=by kernel_rfl
theorem infob_stack:(Tryz.prog.info? 60).map (·.size) = some 416:=by kernel_rfl
theorem same_state (s:Mst) (hrg:s.rg.length = 11) (hsl:SlotsOK s.sl) (h44:(regc s.rg).length = 44) (h416:s.st.length = 416) (xa ta sa xb tb sb:Option Addr) (kxa kta ksa kxb ktb ksb:Nat) (va vb:List Value) (hrl:s.rows.length <= 9223372036854775807) (hnl:s.sent.length <= 9223372036854775807) (w:World)
 (hxa:Held w (.slice xa s.ctx.length kxa) s.ctx) (hta:Rowed w (.slice ta s.rows.length kta) va s.rows) (hsa:Ints w (.slice sa s.sent.length ksa) s.sent)
 (hxb:Held w (.slice xb s.ctx.length kxb) s.ctx) (htb:Rowed w (.slice tb s.rows.length ktb) vb s.rows) (hsb:Ints w (.slice sb s.sent.length ksb) s.sent) :
 Calls Tryz.prog 25 #[.agg (statec s (.slice xa s.ctx.length kxa) (.slice ta s.rows.length kta) (.slice sa s.sent.length ksa)).toArray,.agg (statec s (.slice xb s.ctx.length kxb) (.slice tb s.rows.length ktb) (.slice sb s.sent.length ksb)).toArray] w fun e w'=>e = .returned (.bool true)/\Below w.heap.size w w':=by
 have HH:=Lib.hid (And.intro hxa (And.intro hxb (And.intro hta (And.intro htb (And.intro hsa (And.intro hsb (And.intro hrl hnl)))))))
 clear hxa hxb hta htb hsa hsb hrl hnl
 have hq1:=regs_refl s.rg hrg
 have hq2:=stack_refl s.sl hsl
 have HI1:=Lib.hid (show (Tryz.prog.info? 56).map (·.size) = some (regc s.rg).length by rw [h44];exact infob_regs)
 have HI2:=Lib.hid (show (Tryz.prog.info? 60).map (·.size) = some (stc s.sl).length by rw [show (stc s.sl).length = 416 from h416];exact infob_stack)
 have haa:(((s.at':Nat):Int) == ((s.at':Nat):Int)) = true:=by simp
 have hss:(s.steps == s.steps) = true:=by simp
 have hdd:(s.done == s.done) = true:=by simp
 clear hrg hsl
 go_enter Tryz.func25,Tryz.ntmps25
 go_upto_region 1 with fail
 have hB:Below w.heap.size w ((w.alloc (.cells (statec s (.slice xa s.ctx.length kxa) (.slice ta s.rows.length kta) (.slice sa s.sent.length ksa)).toArray 62)).alloc (.cells (statec s (.slice xb s.ctx.length kxb) (.slice tb s.rows.length ktb) (.slice sb s.sent.length ksb)).toArray 62)):=(below_map w _).trans ((below_map _ _).mono (by simp))
 have hB1:Row ((w.alloc (.cells (statec s (.slice xa s.ctx.length kxa) (.slice ta s.rows.length kta) (.slice sa s.sent.length ksa)).toArray 62)).alloc (.cells (statec s (.slice xb s.ctx.length kxb) (.slice tb s.rows.length ktb) (.slice sb s.sent.length ksb)).toArray 62)) w.heap.size 62 (statec s (.slice xa s.ctx.length kxa) (.slice ta s.rows.length kta) (.slice sa s.sent.length ksa)):=(Row.made w _ _).alloc _
 have hB2:Row ((w.alloc (.cells (statec s (.slice xa s.ctx.length kxa) (.slice ta s.rows.length kta) (.slice sa s.sent.length ksa)).toArray 62)).alloc (.cells (statec s (.slice xb s.ctx.length kxb) (.slice tb s.rows.length ktb) (.slice sb s.sent.length ksb)).toArray 62)) (w.heap.size + 1) 62 (statec s (.slice xb s.ctx.length kxb) (.slice tb s.rows.length ktb) (.slice sb s.sent.length ksb)):=by
  have:=Row.made (w.alloc (.cells (statec s (.slice xa s.ctx.length kxa) (.slice ta s.rows.length kta) (.slice sa s.sent.length ksa)).toArray 62)) (statec s (.slice xb s.ctx.length kxb) (.slice tb s.rows.length ktb) (.slice sb s.sent.length ksb)) 62
  rw [show (w.alloc (.cells (statec s (.slice xa s.ctx.length kxa) (.slice ta s.rows.length kta) (.slice sa s.sent.length ksa)).toArray 62)).heap.size = w.heap.size + 1 by simp] at this
  exact this
 try simp only [show (w.alloc (.cells (statec s (.slice xa s.ctx.length kxa) (.slice ta s.rows.length kta) (.slice sa s.sent.length ksa)).toArray 62)).heap.size = w.heap.size + 1 by simp]
 generalize World.alloc _ _ = wA at hB hB1 hB2 ⊢
 have HB:=Lib.hid hB
 have HB1:=Lib.hid hB1
 have HB2:=Lib.hid hB2
 have r10:wA.rangeAt (w.heap.size) 0 (regc s.rg):=fun j u hj=>by rw [Nat.zero_add,HB1.out.cell];exact statec_reg hj
 have r11:wA.rangeAt (w.heap.size) 44 (stc s.sl):=fun j u hj=>by rw [HB1.out.cell];exact statec_st h44 hj
 have c10:wA.cell? ⟨w.heap.size,460,none⟩ = some (.slice xa s.ctx.length kxa):=(HB1.out.cell 460).trans (statec_at h44 h416 _ _ _ 0 (by decide))
 have c11:wA.cell? ⟨w.heap.size,461,none⟩ = some (.slice ta s.rows.length kta):=(HB1.out.cell 461).trans (statec_at h44 h416 _ _ _ 1 (by decide))
 have c12:wA.cell? ⟨w.heap.size,462,none⟩ = some (.slice sa s.sent.length ksa):=(HB1.out.cell 462).trans (statec_at h44 h416 _ _ _ 2 (by decide))
 have c13:wA.cell? ⟨w.heap.size,463,none⟩ = some (.int .i64 s.at'):=(HB1.out.cell 463).trans (statec_at h44 h416 _ _ _ 3 (by decide))
 have c14:wA.cell? ⟨w.heap.size,464,none⟩ = some (.int .i64 s.steps):=(HB1.out.cell 464).trans (statec_at h44 h416 _ _ _ 4 (by decide))
 have c15:wA.cell? ⟨w.heap.size,465,none⟩ = some (.bool s.done):=(HB1.out.cell 465).trans (statec_at h44 h416 _ _ _ 5 (by decide))
 have r20:wA.rangeAt (w.heap.size + 1) 0 (regc s.rg):=fun j u hj=>by rw [Nat.zero_add,HB2.out.cell];exact statec_reg hj
 have r21:wA.rangeAt (w.heap.size + 1) 44 (stc s.sl):=fun j u hj=>by rw [HB2.out.cell];exact statec_st h44 hj
 have c20:wA.cell? ⟨w.heap.size + 1,460,none⟩ = some (.slice xb s.ctx.length kxb):=(HB2.out.cell 460).trans (statec_at h44 h416 _ _ _ 0 (by decide))
 have c21:wA.cell? ⟨w.heap.size + 1,461,none⟩ = some (.slice tb s.rows.length ktb):=(HB2.out.cell 461).trans (statec_at h44 h416 _ _ _ 1 (by decide))
 have c22:wA.cell? ⟨w.heap.size + 1,462,none⟩ = some (.slice sb s.sent.length ksb):=(HB2.out.cell 462).trans (statec_at h44 h416 _ _ _ 2 (by decide))
 have c23:wA.cell? ⟨w.heap.size + 1,463,none⟩ = some (.int .i64 s.at'):=(HB2.out.cell 463).trans (statec_at h44 h416 _ _ _ 3 (by decide))
 have c24:wA.cell? ⟨w.heap.size + 1,464,none⟩ = some (.int .i64 s.steps):=(HB2.out.cell 464).trans (statec_at h44 h416 _ _ _ 4 (by decide))
 have c25:wA.cell? ⟨w.heap.size + 1,465,none⟩ = some (.bool s.done):=(HB2.out.cell 465).trans (statec_at h44 h416 _ _ _ 5 (by decide))
 have HR:=Lib.hid (And.intro r10 (And.intro r20 (And.intro r11 r21)))
 clear hB hB1 hB2 r10 r20 r11 r21
 go_wp2_with (first
  | refine wpList_load_mid rfl 56 (.tmp 5) rfl w.heap.size 0 rfl (regc s.rg) _ HR.out.1 Tryz.underlying56 rfl HI1.out ?_
  | refine wpList_load_mid rfl 56 (.tmp 7) rfl (w.heap.size + 1) 0 rfl (regc s.rg) _ HR.out.2.1 Tryz.underlying56 rfl HI1.out ?_)
 refine wp_load_mid 60 (.tmp 11) rfl w.heap.size 44 rfl (stc s.sl) _ HR.out.2.2.1 Tryz.underlying60 rfl HI2.out ?_
 go_wp2_with fail
 refine wp_load_mid 60 (.tmp 13) rfl (w.heap.size + 1) 44 rfl (stc s.sl) _ HR.out.2.2.2 Tryz.underlying60 rfl HI2.out ?_
 go_wp2_with (first
  | (go_at_call 15;go_loud (refine (same_at _ _ s.ctx _ (HH.out.1.below HB.out (Nat.le_refl _)) (HH.out.2.1.below HB.out (Nat.le_refl _))).mono ?_;rintro e w' ⟨rfl,rfl⟩))
  | (go_at_call 39;go_loud (refine (same_rows _ _ va vb s.rows HH.out.2.2.2.2.2.2.1 _ (HH.out.2.2.1.below HB.out (Nat.le_refl _)) (HH.out.2.2.2.1.below HB.out (Nat.le_refl _))).mono ?_;rintro e w' ⟨rfl,n1,rfl⟩))
  | (go_at_call 10;go_loud (refine (ints_same _ _ s.sent HH.out.2.2.2.2.2.2.2 _ (HH.out.2.2.2.2.1.below (below_drewN HB.out _) (Nat.le_refl _)) (HH.out.2.2.2.2.2.1.below (below_drewN HB.out _) (Nat.le_refl _))).mono ?_;rintro e w' ⟨rfl,n2,rfl⟩)))
 go_ret
 exact ⟨rfl,by first | exact below_drewN HB.out _ | exact below_drewN (below_drewN HB.out _) _⟩
structure Work (P:Nat->Nat) (i:Nat) (w w':World):Prop where
 os:w'.os = w.os
 tape:w'.tape = w.tape
 output:w'.output = w.output
 size:w.heap.size <= w'.heap.size
 keep:∀ q,q < w.heap.size->P q ≠ i->w'.heap[q]? = w.heap[q]?
theorem Work.of_below {P:Nat->Nat} {i:Nat} {w w':World} (h:Below w.heap.size w w'):Work P i w w':=⟨h.os,h.tape,h.output,h.size,fun q hq _=>h.block q hq⟩
theorem Mine.work {P:Nat->Nat} {i j:Nat} (hij:i ≠ j) {fx:Mfix} {s:Mst} {bx:Nat} {w w':World} (h:Mine P i fx s bx w) (hW:Work P j w w'):Mine (grown P w.heap.size j) i fx s bx w':=by
 obtain ⟨base,v,hm,hq⟩:=h.ms
 refine ⟨base,_,hm.apart (fun q hlt hne=>?_),fun q hq' hP=>?_⟩
 ·have hPi : P q = i := by
   by_cases hP:P q = i
   ·exact hP
   ·exact absurd (hq q hlt hP) hne
  exact hW.keep q hlt (by omega)
 ·show newRole v.ρ w.heap.size 9 q = 9
  by_cases hlt:q < w.heap.size
  ·rw [newRole_same q hlt]
   unfold grown at hP
   rw [if_pos hlt] at hP
   exact hq q hlt hP
  ·unfold newRole
   rw [if_pos (by omega)]
structure Ground (W:World) (P:Nat->Nat) (w:World):Prop where
 bel:Below W.heap.size W w
 zero:∀ q,q < W.heap.size->P q = 0
theorem Ground.begin (W:World):Ground W (fun _=>0) W:=⟨Below.refl _ _,fun _ _=>rfl⟩
theorem Ground.work {W:World} {P:Nat->Nat} {i k:Nat} (hi:i ≠ 0) {w w':World} (h:Ground W P w) (hW:Work P i w w'):Ground W (grown P w.heap.size k) w':=
 ⟨⟨hW.os.trans h.bel.os, hW.tape.trans h.bel.tape, hW.output.trans h.bel.output, Nat.le_trans h.bel.size hW.size, fun q hq => (hW.keep q (Nat.lt_of_lt_of_le hq h.bel.size) (by rw [h.zero q hq]; omega)).trans (h.bel.block q hq)⟩, fun q hq => by
   unfold grown
   rw [if_pos (Nat.lt_of_lt_of_le hq h.bel.size)]
   exact h.zero q hq⟩
theorem Ground.next {W:World} {P:Nat->Nat} {k:Nat} {w w':World} (h:Ground W P w) (hb:Below w.heap.size w w'):Ground W (grown P w.heap.size k) w':=Ground.work (i:=1) (by decide) h (Work.of_below hb)
theorem grown_old {P:Nat->Nat} {n i q:Nat} (h:q < n):grown P n i q = P q:=by unfold grown;rw [if_pos h]
theorem grown_new {P:Nat->Nat} {n i q:Nat} (h:n <= q):grown P n i q = i:=by unfold grown;rw [if_neg (by omega)]
theorem Sane.small {fx:Mfix} {s:Mst} (hc:CodeG fx) (h:Sane fx s):s.rows.length <= 1000000/\(∀ k (hk:k < s.rows.length),IsBytes s.rows[k]/\s.rows[k].length <= 140737488355328)/\s.ctx.length <= 65535/\s.sent.length <= 100000:=by
 have h1:=h.good.mem.rowsl
 have h2:=hc.tabs
 have h3:=h.good.sent.1
 exact ⟨by omega,fun k hk=>⟨(h.good.mem.rows k hk).1,row_small h.good.mem k hk⟩,h.good.mem.ctxl,by omega⟩
section
variable {P:Nat->Nat} {i:Nat} {fx:Mfix} {s:Mst} {bx:Nat} {w:World}
theorem run_mine (hc:CodeG fx) (h:Sane fx s) (n:Nat) (hn:s.steps + n < 4611686018427387904) (hm:Mine P i fx s bx w) :
 Calls Tryz.prog 21 #[.pointer (some ⟨bx,0,none⟩),.int .i64 n] w fun e w'=>∃ r0 xv tv sv,e = .returned (.tuple #[.agg #[.int .i64 r0,xv,tv,sv],.int .i64 (runF fx n s).1]) /\
  OutS w.heap.size (runF fx n s).1 (runF fx n s).2 r0 xv tv sv w'/\Mine (grown P w.heap.size i) i fx (runF fx n s).2 bx w'/\Work P i w w':=by
 obtain ⟨base,v,hM,hq⟩:=hm.ms
 obtain ⟨k1,k2,k3,k4⟩:=(Sane.run hc n s h).small hc
 refine (run_ofG fx s n (by have:=h.steps;omega) _ _ (run_G hc n s h hn) k1 k2 k3 k4 base w bx v w hM).mono ?_
 rintro e w' ⟨r0,xv,tv,sv,he,hO,v',hM',hf,hro⟩
 exact ⟨r0,xv,tv,sv,he,hO,Mine.done hq hM' hro,⟨hM'.bel.os,hM'.bel.tape,hM'.bel.output,hM'.bel.size,fun q hlt hP=>hf q hlt (by rw [hq q hlt hP];exact Or.inl rfl)⟩⟩
theorem step_mine (hc:CodeG fx) (h:Sane fx s) (hn:s.steps < 4611686018427387904) (hm:Mine P i fx s bx w) :
 Calls Tryz.prog 23 #[.pointer (some ⟨bx,0,none⟩)] w fun e w'=>e = .returned (.int .i64 (stepF fx s).1)/\Mine (grown P w.heap.size i) i fx (stepF fx s).2 bx w'/\Work P i w w':=by
 obtain ⟨base,v,hM,hq⟩:=hm.ms
 refine (step_any hc h hn base w bx v w hM).mono ?_
 rintro e w' ⟨he,v',hM',hf,hro⟩
 exact ⟨he,Mine.done hq hM' hro,⟨hM'.bel.os,hM'.bel.tape,hM'.bel.output,hM'.bel.size,fun q hlt hP=>hf q hlt (by rw [hq q hlt hP];exact Or.inl rfl)⟩⟩
theorem state_mine (hc:CodeG fx) (h:Sane fx s) (hm:Mine P i fx s bx w) :
 Calls Tryz.prog 22 #[.pointer (some ⟨bx,0,none⟩)] w fun e w'=>∃ xv tv sv,e = .returned (.agg (statec s xv tv sv).toArray)/\StateA w s xv tv sv w':=by
 obtain ⟨base,v,hM,hq⟩:=hm.ms
 obtain ⟨k1,k2,k3,k4⟩:=h.small hc
 exact state_of fx s k3 k4 k1 k2 base w bx v w hM
end
theorem OutS.keep {base:Nat} {er:Int} {s:Mst} {r0:Int} {xv tv sv:Value} {w w':World} (h:OutS base er s r0 xv tv sv w) (hk:∀ q,base <= q->q < w.heap.size->w'.heap[q]? = w.heap[q]?):OutS base er s r0 xv tv sv w':=by
 have hst:∀ {e:TypeId} {size n:Nat} {x:Value} {xs:List Value},w.ownsRow base e size x n xs->w'.ownsRow base e size x n xs:=fun ho=>ownsRow_stayS ho fun b hb=>hk b (ho.lt b hb).1 (ho.lt b hb).2
 refine ⟨h.shx,h.sht,h.shs,h.fail,h.r0,fun he=>hst (h.ctx he),fun he=>hst (h.sent he),fun he=>?_⟩
 obtain ⟨ρ,vals,hT⟩:=h.tabs he
 exact ⟨ρ,vals,⟨⟨hst hT.list.1,hT.list.2⟩,fun k hk'=>let ⟨u,hu,ho⟩:=hT.item k hk';⟨u,hu,⟨hst ho.1,ho.2⟩⟩⟩⟩
theorem Lab3.keep {base:Nat} {s:Mst} {xv tv sv:Value} {w w':World} (h:Lab3 base s xv tv sv w) (hk:∀ q,base <= q->q < w.heap.size->w'.heap[q]? = w.heap[q]?):Lab3 base s xv tv sv w':=by
 have hst:∀ {f:Nat->Nat} {r:Nat} {e:TypeId} {size n:Nat} {x:Value} {xs:List Value},OwnS w base f r e size x n xs->OwnS w' base f r e size x n xs:=fun ho=>⟨ownsRow_stayS ho.1 fun b hb=>hk b (ho.1.lt b hb).1 (ho.1.lt b hb).2,ho.2⟩
 obtain ⟨f,vals,h1,h2,h3⟩:=h.at'
 exact ⟨f,vals,hst h1,⟨hst h2.list,fun k hk'=>let ⟨u,hu,ho⟩:=h2.item k hk';⟨u,hu,hst ho⟩⟩,hst h3⟩
theorem StateA.keep {w s':World} {s:Mst} {xv tv sv:Value} {w1 w2:World} (h:StateA w s xv tv sv w1) (hb:Below w1.heap.size w1 w2):StateA w s xv tv sv w2:=by
 have hst:∀ {e:TypeId} {size n:Nat} {x:Value} {xs:List Value},w1.ownsRow w.heap.size e size x n xs->w2.ownsRow w.heap.size e size x n xs:=fun ho=>own_stays ho hb (Nat.le_refl _)
 obtain ⟨ρ,vals,hT⟩:=h.tabs
 exact ⟨h.bel.trans (hb.mono h.bel.size),hst h.ctx,⟨ρ,vals,⟨⟨hst hT.list.1,hT.list.2⟩,fun k hk'=>let ⟨u,hu,ho⟩:=hT.item k hk';⟨u,hu,⟨hst ho.1,ho.2⟩⟩⟩⟩,hst h.sent,h.shx,h.sht,h.shs,h.lab.keep fun q _ hq=>hb.block q hq⟩
theorem ints_own {w:World} {base:Nat} {v:Value} {xs:List Int} (h:w.ownsRow base 3 1 v xs.length (i64s xs)):Ints w v xs:=by
 have h0:=reads_own h (i64s_one _) (by decide)
 obtain ⟨hl,h1,⟨hz,a,cap,rfl,hm⟩ | ⟨hp,b,off,cap,rfl,hlt,hm,hc,hcell⟩⟩:=h0
 ·have:xs = []:=List.length_eq_zero_iff.1 hz
  subst this
  exact Or.inl ⟨rfl,a,cap,rfl⟩
 ·refine Or.inr ⟨hp,b,off,cap,rfl,hlt,fun i hi=>hcell i _ ?_⟩
  unfold i64s
  rw [List.getElem?_map,List.getElem?_eq_getElem hi]
  simp [List.getD,hi]
theorem OutS.reads {base:Nat} {s:Mst} {r0:Int} {xv tv sv:Value} {w:World} (h:OutS base 0 s r0 xv tv sv w) (hx:IsBytes s.ctx) (hr:∀ k (hk:k < s.rows.length),IsBytes s.rows[k]) :
 ∃ a n b m c k vals,xv = .slice a s.ctx.length n/\tv = .slice b s.rows.length m/\sv = .slice c s.sent.length k/\Held w xv s.ctx/\Rowed w tv vals s.rows/\Ints w sv s.sent:=by
 obtain ⟨ρ,vals,hT⟩:=h.tabs rfl
 obtain ⟨a,n,e1⟩:=own_slice (h.ctx rfl)
 obtain ⟨b,m,e2⟩:=own_slice hT.list.1
 obtain ⟨c,k,e3⟩:=own_slice (h.sent rfl)
 exact ⟨a,n,b,m,c,k,vals,e1,e2,e3,held_of_own (h.ctx rfl) hx rfl,rowed_tabU hT hr,ints_own (h.sent rfl)⟩
theorem StateA.reads {w:World} {s:Mst} {xv tv sv:Value} {w':World} (h:StateA w s xv tv sv w') (hx:IsBytes s.ctx) (hr:∀ k (hk:k < s.rows.length),IsBytes s.rows[k]) :
 ∃ a n b m c k vals,xv = .slice a s.ctx.length n/\tv = .slice b s.rows.length m/\sv = .slice c s.sent.length k/\Held w' xv s.ctx/\Rowed w' tv vals s.rows/\Ints w' sv s.sent:=by
 obtain ⟨ρ,vals,hT⟩:=h.tabs
 obtain ⟨a,n,e1⟩:=own_slice h.ctx
 obtain ⟨b,m,e2⟩:=own_slice hT.list.1
 obtain ⟨c,k,e3⟩:=own_slice h.sent
 exact ⟨a,n,b,m,c,k,vals,e1,e2,e3,held_of_own h.ctx hx rfl,rowed_tabU hT hr,ints_own h.sent⟩
theorem outs_same {s:Mst} {fx:Mfix} (hc:CodeG fx) (hs:Sane fx s) {b1 b2:Nat} {r0 r1:Int} {x1 t1 s1 x2 t2 s2:Value} {er:Int} {w:World} (h1:OutS b1 er s r0 x1 t1 s1 w) (h2:OutS b2 er s r1 x2 t2 s2 w) :
 Calls Tryz.prog 24 #[.agg #[.int .i64 r0,x1,t1,s1],.agg #[.int .i64 r1,x2,t2,s2]] w fun e w'=>e = .returned (.bool true)/\Below w.heap.size w w':=by
 by_cases he:er = 0
 ·subst he
  have hx:=hs.good.mem.ctx
  have hr:∀ k (hk:k < s.rows.length),IsBytes s.rows[k]:=fun k hk=>(hs.good.mem.rows k hk).1
  obtain ⟨k1,k2,k3,k4⟩:=hs.small hc
  have hl0:0 < s.rg.length:=by rw [hs.good.regs.1];decide
  have e0:r0 = r1:=(h1.r0 rfl _ (List.getElem?_eq_getElem hl0)).trans (h2.r0 rfl _ (List.getElem?_eq_getElem hl0)).symm
  subst e0
  obtain ⟨a,n,b,m,c,k,va,rfl,rfl,rfl,g1,g2,g3⟩:=h1.reads hx hr
  obtain ⟨a',n',b',m',c',k',vb,rfl,rfl,rfl,g4,g5,g6⟩:=h2.reads hx hr
  exact same_output r0 a b c a' b' c' n m k n' m' k' s.ctx s.sent s.rows va vb (by omega) (by omega) w g1 g2 g3 g4 g5 g6
 ·obtain ⟨rfl,rfl,rfl,rfl⟩:=h1.fail he
  obtain ⟨rfl,rfl,rfl,rfl⟩:=h2.fail he
  have hr:Rowed w (.slice none ([]:List (List Int)).length 0) [] []:=⟨⟨rfl,fun u hu=>(by cases hu),Or.inl ⟨rfl,_,_,rfl,by decide⟩⟩,fun i h=>absurd h (by simp)⟩
  exact same_output 0 none none none none none none 0 0 0 0 0 0 [] [] [] [] [] (by decide) (by decide) w (held_nil w) hr (Or.inl ⟨rfl,_,_,rfl⟩) (held_nil w) hr (Or.inl ⟨rfl,_,_,rfl⟩)
structure ToldO (P:Nat->Nat) (i:Nat) (er:Int) (s:Mst) (r0:Int) (xv tv sv:Value) (w:World):Prop where
 at':∃ base we,OutS base er s r0 xv tv sv we/\we.heap.size <= w.heap.size/\∀ q,base <= q->q < we.heap.size->P q = i/\w.heap[q]? = we.heap[q]?
theorem ToldO.out {P:Nat->Nat} {i:Nat} {er:Int} {s:Mst} {r0:Int} {xv tv sv:Value} {w:World} (h:ToldO P i er s r0 xv tv sv w):∃ base,OutS base er s r0 xv tv sv w:=by
 obtain ⟨base,we,hO,hs,hk⟩:=h.at'
 exact ⟨base,hO.keep fun q h1 h2=>(hk q h1 h2).2⟩
theorem ToldO.work {P:Nat->Nat} {i j:Nat} (hij:i ≠ j) {er:Int} {s:Mst} {r0:Int} {xv tv sv:Value} {w w':World} (h:ToldO P i er s r0 xv tv sv w) (hW:Work P j w w') (k:Nat):ToldO (grown P w.heap.size k) i er s r0 xv tv sv w':=by
 obtain ⟨base,we,hO,hs,hk⟩:=h.at'
 refine ⟨base,we,hO,Nat.le_trans hs hW.size,fun q h1 h2=>?_⟩
 obtain ⟨g1,g2⟩:=hk q h1 h2
 exact ⟨(grown_old (by omega)).trans g1,(hW.keep q (by omega) (by omega)).trans g2⟩
theorem ToldO.next {P:Nat->Nat} {i k:Nat} {er:Int} {s:Mst} {r0:Int} {xv tv sv:Value} {w w':World} (h:ToldO P i er s r0 xv tv sv w) (hb:Below w.heap.size w w'):ToldO (grown P w.heap.size k) i er s r0 xv tv sv w':=
 h.work (j:=i + 1) (by omega) (Work.of_below hb) k
theorem ToldO.begin {P:Nat->Nat} {i:Nat} {er:Int} {s:Mst} {r0:Int} {xv tv sv:Value} {w w':World} (h:OutS w.heap.size er s r0 xv tv sv w') (hs:w.heap.size <= w'.heap.size):ToldO (grown P w.heap.size i) i er s r0 xv tv sv w':=
 ⟨w.heap.size,w',h,Nat.le_refl _,fun q h1 h2=>⟨grown_new h1,rfl⟩⟩
structure Own0 (P:Nat->Nat) (q:Nat) (e:TypeId) (cs:List Value) (w:World):Prop where
 row:Row w q e cs
 zero:P q = 0
theorem Own0.work {P:Nat->Nat} {j q:Nat} (hj:j ≠ 0) {e:TypeId} {cs:List Value} {w w':World} (h:Own0 P q e cs w) (hW:Work P j w w') (k:Nat):Own0 (grown P w.heap.size k) q e cs w':=
 ⟨(hW.keep q h.row.lt (by rw [h.zero];omega)).trans h.row,(grown_old h.row.lt).trans h.zero⟩
theorem Own0.next {P:Nat->Nat} {q k:Nat} {e:TypeId} {cs:List Value} {w w':World} (h:Own0 P q e cs w) (hb:Below w.heap.size w w'):Own0 (grown P w.heap.size k) q e cs w':=h.work (j:=1) (by decide) (Work.of_below hb) k
theorem Own0.made {P:Nat->Nat} (w:World) (cs:List Value) (e:TypeId):Own0 (grown P w.heap.size 0) w.heap.size e cs (w.alloc (.cells cs.toArray e)):=⟨Row.made w cs e,grown_new (Nat.le_refl _)⟩
theorem work_put4 {P:Nat->Nat} {q:Nat} (hq:P q = 0) (w:World) (x0 x1 x2 x3:Value):Work P 0 w ((((w.setCell ⟨q,0,none⟩ x0).setCell ⟨q,1,none⟩ x1).setCell ⟨q,2,none⟩ x2).setCell ⟨q,3,none⟩ x3):=
 ⟨rfl,rfl,rfl,by simp,fun k hk hne=>by
  have hkq:k ≠ q:=fun hc=>hne (by rw [hc];exact hq)
  rw [Below.heap_setCell _ _ _ _ hkq,Below.heap_setCell _ _ _ _ hkq,Below.heap_setCell _ _ _ _ hkq,Below.heap_setCell _ _ _ _ hkq]⟩
theorem still_mine {P:Nat->Nat} {i:Nat} {fx:Mfix} {s:Mst} {bx:Nat} {w:World} (hc:CodeG fx) (h:Sane fx s) (hdn:s.done = true) (n:Nat) (hm:Mine P i fx s bx w) :
 Calls Tryz.prog 21 #[.pointer (some ⟨bx,0,none⟩),.int .i64 n] w fun e w'=>∃ r0 xv tv sv,e = .returned (.tuple #[.agg #[.int .i64 r0,xv,tv,sv],.int .i64 0])/\OutS w.heap.size 0 s r0 xv tv sv w'/\Below w.heap.size w w'/\Lab3 w.heap.size s xv tv sv w':=by
 obtain ⟨base,v,hM,hq⟩:=hm.ms
 obtain ⟨k1,k2,k3,k4⟩:=h.small hc
 exact run_still fx s hdn n k1 k2 k3 k4 base w bx v w hM
structure T3 (W:World) (P:Nat->Nat) (fx:Mfix) (s1 s2 s3:Mst) (b1 b2 b3:Nat) (w:World):Prop where
 g:Ground W P w
 m1:Mine P 1 fx s1 b1 w
 m2:Mine P 2 fx s2 b2 w
 m3:Mine P 3 fx s3 b3 w
section
variable {W:World} {P:Nat->Nat} {fx:Mfix} {s1 s2 s3 s':Mst} {b1 b2 b3:Nat} {w w':World}
theorem T3.next (h:T3 W P fx s1 s2 s3 b1 b2 b3 w) (hb:Below w.heap.size w w') (k:Nat):T3 W (grown P w.heap.size k) fx s1 s2 s3 b1 b2 b3 w':=⟨h.g.next hb,h.m1.next hb,h.m2.next hb,h.m3.next hb⟩
theorem T3.put4 (h:T3 W P fx s1 s2 s3 b1 b2 b3 w) {q:Nat} (hq:P q = 0) (hW:W.heap.size <= q) (x0 x1 x2 x3:Value):T3 W (grown P w.heap.size 0) fx s1 s2 s3 b1 b2 b3 ((((w.setCell ⟨q,0,none⟩ x0).setCell ⟨q,1,none⟩ x1).setCell ⟨q,2,none⟩ x2).setCell ⟨q,3,none⟩ x3):=by
 have hw:=work_put4 (P:=P) hq w x0 x1 x2 x3
 exact ⟨⟨(((h.g.bel.setCell hW x0).setCell hW x1).setCell hW x2).setCell hW x3,fun q' hq'=>(grown_old (Nat.lt_of_lt_of_le hq' h.g.bel.size)).trans (h.g.zero q' hq')⟩,h.m1.work (by decide) hw,h.m2.work (by decide) hw,h.m3.work (by decide) hw⟩
end
end Go.Proofs.YtdepknffpnnmmaaGreat
