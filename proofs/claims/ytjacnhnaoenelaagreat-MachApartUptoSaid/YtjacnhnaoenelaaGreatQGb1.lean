import Derived.ChangeKeysEq
import Derived.Laws.StructEq
import Derived.Test.YtjacnhnaoenelaaGreatQMachBI2
set_option maxRecDepth 100000
set_option maxHeartbeats 4000000
namespace Go.Proofs.YtjacnhnaoenelaaGreat
open Lib (hid)
open Go.Proofs.Tryz
open Go.RowKit
set_option linter.unusedVariables false
set_option linter.unusedSimpArgs false
theorem Xj {P:Program} {t:TypeId} {d:TypeDesc} {n:Nat} (hu:P.underlying t = some d) (hd:d.isRow = true) (hi:(P.info? t).map (·.size) = some n) (cs:Array Value) (off:Nat) (w:World):(part t cs off).run P w = .ok (.agg (cs.extract off (off + n))) w:=by
 cases hq:P.info? t with
 | none=>simp [hq] at hi
 | some i =>
   have hs:i.size = n:=by simpa [hq] using hi
   have hagg:(isAgg t).run P w = .ok true w:=by
    unfold isAgg;rw [Sem.run_bind,run_underlying hu w]
    cases d <;> simp_all
   simp [part,Sem.run_bind,hagg,sizeOf,typeInfo,hq,hs]
theorem F5 {P:Program} {d:Nat} {xs ys:Array Value} {f:Field} {fs:List Field} {a b:Value} {w:World} (hn:f.name ≠ "_") (ha:(part f.type xs f.offset).run P w = .ok a w) (hb:(part f.type ys f.offset).run P w = .ok b w) (he:(Op.equalIn d f.type a b).run P w = .ok true w) (ht:(Op.eqFields d xs ys fs).run P w = .ok true w):(Op.eqFields d xs ys (f :: fs)).run P w = .ok true w:=by
 unfold Op.eqFields;rw [if_pos hn];simp only [Sem.run_bind,ha,hb,he,Result.andThen_ok,Bool.not_true,Bool.false_eq_true,if_false];exact ht
theorem Z4 {P:Program} {d:Nat} {e:TypeId} {c:Nat} {xs:Array Value} {w:World}:∀ is:List Nat,(∀ i ∈ is,∃ a,(part e xs (i * c)).run P w = .ok a w/\(Op.equalIn d e a a).run P w = .ok true w)->(Op.eqItems d e c xs xs is).run P w = .ok true w
 | [],_=>by simp [Op.eqItems]
 | i :: is, h => by
   obtain ⟨a,ha,he⟩:=h i (List.mem_cons_self ..);unfold Op.eqItems;simp only [Sem.run_bind,ha,he,Result.andThen_ok,Bool.not_true,Bool.false_eq_true,if_false];exact Z4 is fun j hj=>h j (List.mem_cons_of_mem _ hj)
theorem Gv (d:Nat) (t:TypeId) (k:IntKind) (a:Int) (h:prog.underlying t = some (.int k)) (w:World):(Op.equalIn (d + 1) t (.int k a) (.int k a)).run prog w = .ok true w:=by
 rw [run_equalIn_int w d t k k a a h];simp
theorem Afq (a b c d:Int) (n:Nat) (w:World):(Op.equalIn (n + 2) 57 (.agg #[.int .i64 a,.int .i64 b,.int .i64 c,.int .i64 d]) (.agg #[.int .i64 a,.int .i64 b,.int .i64 c,.int .i64 d])).run prog w = .ok true w:=by
 rw [run_equalIn_struct w (n + 1) 57 _ _ (by kernel_rfl) (by kernel_rfl)];obtain ⟨f0,f1,f2,f3,hf,h0,h1,h2,h3⟩:∃ f0 f1 f2 f3:Field,(prog.fieldsOf 57).toList = [f0,f1,f2,f3]/\(f0.name ≠ "_"/\f0.type = 3/\f0.offset = 0)/\(f1.name ≠ "_"/\f1.type = 3/\f1.offset = 1)/\(f2.name ≠ "_"/\f2.type = 3/\f2.offset = 2)/\(f3.name ≠ "_"/\f3.type = 3/\f3.offset = 3):=⟨_,_,_,_,rfl,by decide,by decide,by decide,by decide⟩;rw [hf];refine F5 h0.1 (a:=.int .i64 a) (b:=.int .i64 a) (by rw [h0.2.1,h0.2.2];rfl) (by rw [h0.2.1,h0.2.2];rfl) (by rw [h0.2.1];exact Gv n 3 .i64 a (by kernel_rfl) w) ?_;refine F5 h1.1 (a:=.int .i64 b) (b:=.int .i64 b) (by rw [h1.2.1,h1.2.2];rfl) (by rw [h1.2.1,h1.2.2];rfl) (by rw [h1.2.1];exact Gv n 3 .i64 b (by kernel_rfl) w) ?_;refine F5 h2.1 (a:=.int .i64 c) (b:=.int .i64 c) (by rw [h2.2.1,h2.2.2];rfl) (by rw [h2.2.1,h2.2.2];rfl) (by rw [h2.2.1];exact Gv n 3 .i64 c (by kernel_rfl) w) ?_;refine F5 h3.1 (a:=.int .i64 d) (b:=.int .i64 d) (by rw [h3.2.1,h3.2.2];rfl) (by rw [h3.2.1,h3.2.2];rfl) (by rw [h3.2.1];exact Gv n 3 .i64 d (by kernel_rfl) w) ?_;rfl
theorem Afr {cs sub:List Value} {a n:Nat} (hn:sub.length = n) (h:∀ j,j < n->cs[a + j]? = sub[j]?):cs.toArray.extract a (a + n) = sub.toArray:=by
 rw [List.extract_toArray]
 congr 1
 rw [show cs.extract a (a + n) = (cs.drop a).take n from by simp [List.extract_eq_take_drop]]
 apply List.ext_getElem?
 intro j
 by_cases hj:j < n
 ·rw [List.getElem?_take_of_lt hj,List.getElem?_drop,h j hj]
 ·rw [List.getElem?_take,if_neg hj,List.getElem?_eq_none (by omega)]
theorem Aoj (rg:List Val) (h:rg.length = 11) (w:World):(binOp .eql 58 (.agg (Ei rg).toArray) (.agg (Ei rg).toArray)).run prog w = .ok (.bool true) w:=by
 rw [run_eql_struct];obtain ⟨i,hi⟩:∃ i,prog.info? 57 = some i:=⟨_,rfl⟩;have hc:prog.cellsOf 57 = 4:=by kernel_rfl
 have hq:=run_equalIn_array (P:=prog) w 9999 (t:=58) (e:=57) (n:=11) (Ei rg).toArray (Ei rg).toArray underlying58 hi;rw [hc,Z4 _ (fun k hk=>?_)] at hq
 ·rw [show (10000:Nat) = 9999 + 1 from rfl,hq];rfl
 ·have A2f:k < 11:=List.mem_range.1 hk;refine ⟨.agg (rg[k]'(by omega)).cs.toArray,?_,?_⟩
  ·rw [Xj (n:=4) underlying57 rfl (by kernel_rfl),Afr (n:=4) (sub:=(rg[k]'(by omega)).cs) rfl fun j hj=>Aep rg k (by omega) j hj]
  ·obtain ⟨a,b,c,d⟩:=rg[k]'(by omega);exact Afq a b c d 9997 w
theorem Aok (x:Slot) (hx:x.b.length = 8) (n:Nat) (w:World):(Op.equalIn (n + 3) 61 (.agg x.cs.toArray) (.agg x.cs.toArray)).run prog w = .ok true w:=by
 obtain ⟨⟨k,t,o,y⟩,b,m⟩:=x;simp only at hx
 match b,hx with
 | [b0, b1, b2, b3, b4, b5, b6, b7], _ =>
   rw [run_equalIn_struct w (n + 2) 61 _ _ (by kernel_rfl) (by kernel_rfl)];obtain ⟨f0,f1,f2,hf,h0,h1,h2⟩:∃ f0 f1 f2:Field,(prog.fieldsOf 61).toList = [f0,f1,f2]/\(f0.name ≠ "_"/\f0.type = 57/\f0.offset = 0)/\(f1.name ≠ "_"/\f1.type = 59/\f1.offset = 4)/\(f2.name ≠ "_"/\f2.type = 3/\f2.offset = 12):=⟨_,_,_,rfl,by decide,by decide,by decide⟩;rw [hf];refine F5 h0.1 (a:=.agg #[.int .i64 k,.int .i64 t,.int .i64 o,.int .i64 y]) (b:=.agg #[.int .i64 k,.int .i64 t,.int .i64 o,.int .i64 y]) (by rw [h0.2.1,h0.2.2];rfl) (by rw [h0.2.1,h0.2.2];rfl) (by rw [h0.2.1];exact Afq k t o y n w) ?_;refine F5 h1.1 (a:=.agg #[.int .u8 b0,.int .u8 b1,.int .u8 b2,.int .u8 b3,.int .u8 b4,.int .u8 b5,.int .u8 b6,.int .u8 b7]) (b:=.agg #[.int .u8 b0,.int .u8 b1,.int .u8 b2,.int .u8 b3,.int .u8 b4,.int .u8 b5,.int .u8 b6,.int .u8 b7]) (by rw [h1.2.1,h1.2.2];rfl) (by rw [h1.2.1,h1.2.2];rfl) ?_ ?_
   ·rw [h1.2.1];obtain ⟨i,hi⟩:∃ i,prog.info? 5 = some i:=⟨_,rfl⟩;have hc:prog.cellsOf 5 = 1:=by kernel_rfl
    have hq:=run_equalIn_array (P:=prog) w (n + 1) (t:=59) (e:=5) (n:=8) #[.int .u8 b0,.int .u8 b1,.int .u8 b2,.int .u8 b3,.int .u8 b4,.int .u8 b5,.int .u8 b6,.int .u8 b7] #[.int .u8 b0,.int .u8 b1,.int .u8 b2,.int .u8 b3,.int .u8 b4,.int .u8 b5,.int .u8 b6,.int .u8 b7] underlying59 hi;rw [hc,Z4 _ (fun k hk=>?_)] at hq
    ·exact hq
    ·have hk8:k < 8:=List.mem_range.1 hk;have hc:k = 0\/k = 1\/k = 2\/k = 3\/k = 4\/k = 5\/k = 6\/k = 7:=by omega
     rcases hc with rfl | rfl | rfl | rfl | rfl | rfl | rfl | rfl
     all_goals exact ⟨_,rfl,Gv n 5 .u8 _ (by kernel_rfl) w⟩
   refine F5 h2.1 (a:=.int .i64 m) (b:=.int .i64 m) (by rw [h2.2.1,h2.2.2];rfl) (by rw [h2.2.1,h2.2.2];rfl) (by rw [h2.2.1];exact Gv (n + 1) 3 .i64 m (by kernel_rfl) w) ?_;rfl
theorem Aja (sl:List Slot) (h:Gu sl) (w:World):(binOp .eql 62 (.agg (Rw sl).toArray) (.agg (Rw sl).toArray)).run prog w = .ok (.bool true) w:=by
 rw [run_eql_struct];obtain ⟨h32,hb⟩:=h;obtain ⟨i,hi⟩:∃ i,prog.info? 61 = some i:=⟨_,rfl⟩;have hc:prog.cellsOf 61 = 13:=by kernel_rfl
 have hq:=run_equalIn_array (P:=prog) w 9999 (t:=62) (e:=61) (n:=32) (Rw sl).toArray (Rw sl).toArray underlying62 hi;rw [hc,Z4 _ (fun k hk=>?_)] at hq
 ·rw [show (10000:Nat) = 9999 + 1 from rfl,hq];rfl
 ·have A2g:k < 32:=List.mem_range.1 hk;have hbk:=hb _ (List.getElem_mem (show k < sl.length by omega));refine ⟨.agg (sl[k]'(by omega)).cs.toArray,?_,Aok _ hbk 9996 w⟩;rw [Xj (n:=13) underlying61 rfl (by kernel_rfl),Afr (n:=13) (sub:=(sl[k]'(by omega)).cs) (Slot.len hbk) fun j hj=>Acf sl hb k (by omega) j hj]
theorem Es.drewN {w:World} {v:Value} {vals:List Value} {rows:List (List Int)} (h:Es w v vals rows) (n:Nat):Es (w.drewN n) v vals rows:=h.below (below_drewN (Below.refl w.heap.size w) n) nl
theorem Abb (v1 v2:Value) (Ay1 Asf:List Value) (rows:List (List Int)) (hl:rows.length <= 9223372036854775807) (w:World) (h1:Es w v1 Ay1 rows) (h2:Es w v2 Asf rows) :
 Calls prog 37 #[v1,v2] w fun e w'=>e = .returned (.bool true)/\∃ n,w' = w.drewN n:=by
 obtain ⟨a1,k1,rfl,hc1⟩:=h1.open;obtain ⟨a2,k2,rfl,hc2⟩:=h2.open;obtain ⟨n,hn⟩:∃ n,n = rows.length:=⟨_,rfl⟩;rw [<- hn] at hl ⊢;have HN:=hid (And.intro hn hl);have HC1:=hid hc1;have HC2:=hid hc2;clear hn hl hc1 hc2 h1 h2;have hnn:((n:Int) != n) = false:=by simp
 go_enter func37,ntmps37;go_wp2
 go_loopw [5] (fun s wr=>∃ i:Nat,i <= n/\s = .int .i64 i/\∃ k,wr = w.drewN k) (fun s _=>n - (intOf s).toNat)
 case atStart=>exact ⟨0,Nat.zero_le _,rfl,0,rfl⟩
 case round=>
  obtain ⟨i,hi,rfl,k,rfl⟩:=hrel
  by_cases hlt:i < n
  ·have hlr:i < rows.length:=by have:=HN.out.1;omega
   obtain ⟨b1,o1,u1,rfl,hb1,hu1,e1,hh1⟩:=HC1.out i hlr;obtain ⟨b2,o2,u2,rfl,hb2,hu2,e2,hh2⟩:=HC2.out i hlr;obtain ⟨row,hrow⟩:∃ row,row = rows[i]:=⟨_,rfl⟩;rw [<- hrow] at hh1 hh2
   have hmk:∀ w':World,(∃ k,w' = w.drewN k)->w'.cell? ⟨b1,o1 + i,none⟩ = some u1/\w'.cell? ⟨b2,o2 + i,none⟩ = some u2/\Held w' u1 row/\Held w' u2 row/\∃ k,w' = w.drewN k:=by
    rintro _ ⟨j,rfl⟩;exact ⟨e1,e2,hh1.drewN j,hh2.drewN j,j,rfl⟩
   have HMK:=hid hmk;have HSM:=hid (fun (w':World) (hS:w'.cell? ⟨b1,o1 + i,none⟩ = some u1/\w'.cell? ⟨b2,o2 + i,none⟩ = some u2/\Held w' u1 row/\Held w' u2 row/\∃ k,w' = w.drewN k)=>Uf u1 u2 row w' hS.2.2.1 hS.2.2.2.1);have hwi:wrap64 ((i:Int) + 1) = ((i + 1:Nat):Int):=by have:=HN.out.2;unfold wrap64;omega
   have hj1:(0:Int) <= (i:Int):=by omega
   have hj3:(i:Int) < n:=by omega
   clear hmk hb1 hb2 hu1 hu2 e1 e2 hh1 hh2 hrow;go_wp2_with fail
   go_region_held3 (fun w':World=>w'.cell? ⟨b1,o1 + i,none⟩ = some u1/\w'.cell? ⟨b2,o2 + i,none⟩ = some u2/\Held w' u1 row/\Held w' u2 row/\∃ k,w' = w.drewN k)
    (first
      | with_reducible assumption
      | exact HMK.out _ ⟨k + 1,rfl⟩)
    (first
      | (go_at_call 36;refine (HSM.out _ (HMK.out _ ⟨k + 1,rfl⟩)).mono ?_;rintro e w' ⟨rfl,rfl⟩))
   rename_i C9;go_wp2
   go_roundw
   case rel=>exact ⟨i + 1,hlt,by first | rfl | rw [hwi],C9.2.2.2.2⟩
   case measure=>
    first | rw [hwi] | skip
    show n - ((i + 1:Nat):Int).toNat < n - ((i:Nat):Int).toNat;omega
  ·obtain rfl:i = n:=by omega
   go_wp2;go_ret
   exact ⟨rfl,k,rfl⟩
theorem qw {s:Mst} {xv tv sv u:Value} {j:Nat} (h:(Ei s.rg)[j]? = some u):(Au s xv tv sv)[j]? = some u:=by
 unfold Au;rw [List.getElem?_append_left (List.getElem?_eq_some_iff.1 h).1];exact h
theorem Abc {s:Mst} (Pg:(Ei s.rg).length = 44) {xv tv sv u:Value} {j:Nat} (h:(Rw s.sl)[j]? = some u):(Au s xv tv sv)[44 + j]? = some u:=by
 unfold Au;rw [List.getElem?_append_right (by omega),Pg,show 44 + j - 44 = j by omega,List.getElem?_append_left (List.getElem?_eq_some_iff.1 h).1];exact h
theorem Gt {s:Mst} (Pg:(Ei s.rg).length = 44) (Ht:s.st.length = 416) (xv tv sv:Value) (i:Nat) (hi:i < 6):(Au s xv tv sv)[460 + i]? = some (([xv,tv,sv,.int .i64 s.at',.int .i64 s.steps,.bool s.done]:List Value)[i]'hi):=by
 unfold Au;rw [List.getElem?_append_right (by omega),Pg,List.getElem?_append_right (by omega),Ht,show 460 + i - 44 - 416 = i by omega];exact List.getElem?_eq_getElem hi
theorem Ajb:(prog.info? 58).map (·.size) = some 44:=by kernel_rfl
theorem Afs:(prog.info? 62).map (·.size) = some 416:=by kernel_rfl
theorem Ajc (s:Mst) (hrg:s.rg.length = 11) (hsl:Gu s.sl) (Pg:(Ei s.rg).length = 44) (Ht:s.st.length = 416) (xa ta sa xb tb sb:Option Addr) (kxa kta ksa kxb ktb ksb:Nat) (va vb:List Value) (hrl:s.rows.length <= 9223372036854775807) (hnl:s.sent.length <= 9223372036854775807) (w:World)
 (hxa:Held w (.slice xa s.ctx.length kxa) s.ctx) (hta:Es w (.slice ta s.rows.length kta) va s.rows) (hsa:Ints w (.slice sa s.sent.length ksa) s.sent)
 (hxb:Held w (.slice xb s.ctx.length kxb) s.ctx) (htb:Es w (.slice tb s.rows.length ktb) vb s.rows) (hsb:Ints w (.slice sb s.sent.length ksb) s.sent) :
 Calls prog 18 #[.agg (Au s (.slice xa s.ctx.length kxa) (.slice ta s.rows.length kta) (.slice sa s.sent.length ksa)).toArray,.agg (Au s (.slice xb s.ctx.length kxb) (.slice tb s.rows.length ktb) (.slice sb s.sent.length ksb)).toArray] w fun e w'=>e = .returned (.bool true)/\Below w.heap.size w w':=by
 have HH:=hid (And.intro hxa (And.intro hxb (And.intro hta (And.intro htb (And.intro hsa (And.intro hsb (And.intro hrl hnl)))))));clear hxa hxb hta htb hsa hsb hrl hnl;have hq1:=Aoj s.rg hrg;have hq2:=Aja s.sl hsl;have HI1:=hid (show (prog.info? 58).map (·.size) = some (Ei s.rg).length by rw [Pg];exact Ajb);have HI2:=hid (show (prog.info? 62).map (·.size) = some (Rw s.sl).length by rw [show (Rw s.sl).length = 416 from Ht];exact Afs);have haa:(((s.at':Nat):Int) == ((s.at':Nat):Int)) = true:=by simp
 have hss:(s.steps == s.steps) = true:=by simp
 have hdd:(s.done == s.done) = true:=by simp
 clear hrg hsl;go_enter func18,ntmps18;go_upto_region 1 with fail;have hB:Below w.heap.size w ((w.alloc (.cells (Au s (.slice xa s.ctx.length kxa) (.slice ta s.rows.length kta) (.slice sa s.sent.length ksa)).toArray 64)).alloc (.cells (Au s (.slice xb s.ctx.length kxb) (.slice tb s.rows.length ktb) (.slice sb s.sent.length ksb)).toArray 64)):=(Ae w _).trans ((Ae _ _).mono (by simp));have hB1:Row ((w.alloc (.cells (Au s (.slice xa s.ctx.length kxa) (.slice ta s.rows.length kta) (.slice sa s.sent.length ksa)).toArray 64)).alloc (.cells (Au s (.slice xb s.ctx.length kxb) (.slice tb s.rows.length ktb) (.slice sb s.sent.length ksb)).toArray 64)) w.heap.size 64 (Au s (.slice xa s.ctx.length kxa) (.slice ta s.rows.length kta) (.slice sa s.sent.length ksa)):=(Row.made w _ _).alloc _
 have hB2:Row ((w.alloc (.cells (Au s (.slice xa s.ctx.length kxa) (.slice ta s.rows.length kta) (.slice sa s.sent.length ksa)).toArray 64)).alloc (.cells (Au s (.slice xb s.ctx.length kxb) (.slice tb s.rows.length ktb) (.slice sb s.sent.length ksb)).toArray 64)) (w.heap.size + 1) 64 (Au s (.slice xb s.ctx.length kxb) (.slice tb s.rows.length ktb) (.slice sb s.sent.length ksb)):=by
  have:=Row.made (w.alloc (.cells (Au s (.slice xa s.ctx.length kxa) (.slice ta s.rows.length kta) (.slice sa s.sent.length ksa)).toArray 64)) (Au s (.slice xb s.ctx.length kxb) (.slice tb s.rows.length ktb) (.slice sb s.sent.length ksb)) 64;rw [show (w.alloc (.cells (Au s (.slice xa s.ctx.length kxa) (.slice ta s.rows.length kta) (.slice sa s.sent.length ksa)).toArray 64)).heap.size = w.heap.size + 1 by simp] at this;exact this
 try simp only [show (w.alloc (.cells (Au s (.slice xa s.ctx.length kxa) (.slice ta s.rows.length kta) (.slice sa s.sent.length ksa)).toArray 64)).heap.size = w.heap.size + 1 by simp]
 generalize World.alloc _ _ = wA at hB hB1 hB2 ⊢;have HB:=hid hB;have HB1:=hid hB1;have HB2:=hid hB2;have r10:wA.rangeAt (w.heap.size) 0 (Ei s.rg):=fun j u hj=>by rw [Nat.zero_add,HB1.out.cell];exact qw hj
 have r11:wA.rangeAt (w.heap.size) 44 (Rw s.sl):=fun j u hj=>by rw [HB1.out.cell];exact Abc Pg hj
 have c10:wA.cell? ⟨w.heap.size,460,none⟩ = some (.slice xa s.ctx.length kxa):=(HB1.out.cell 460).trans (Gt Pg Ht _ _ _ 0 (by decide));have c11:wA.cell? ⟨w.heap.size,461,none⟩ = some (.slice ta s.rows.length kta):=(HB1.out.cell 461).trans (Gt Pg Ht _ _ _ 1 (by decide));have c12:wA.cell? ⟨w.heap.size,462,none⟩ = some (.slice sa s.sent.length ksa):=(HB1.out.cell 462).trans (Gt Pg Ht _ _ _ 2 (by decide));have c13:wA.cell? ⟨w.heap.size,463,none⟩ = some (.int .i64 s.at'):=(HB1.out.cell 463).trans (Gt Pg Ht _ _ _ 3 (by decide));have c14:wA.cell? ⟨w.heap.size,464,none⟩ = some (.int .i64 s.steps):=(HB1.out.cell 464).trans (Gt Pg Ht _ _ _ 4 (by decide));have c15:wA.cell? ⟨w.heap.size,465,none⟩ = some (.bool s.done):=(HB1.out.cell 465).trans (Gt Pg Ht _ _ _ 5 (by decide));have r20:wA.rangeAt (w.heap.size + 1) 0 (Ei s.rg):=fun j u hj=>by rw [Nat.zero_add,HB2.out.cell];exact qw hj
 have r21:wA.rangeAt (w.heap.size + 1) 44 (Rw s.sl):=fun j u hj=>by rw [HB2.out.cell];exact Abc Pg hj
 have c20:wA.cell? ⟨w.heap.size + 1,460,none⟩ = some (.slice xb s.ctx.length kxb):=(HB2.out.cell 460).trans (Gt Pg Ht _ _ _ 0 (by decide));have c21:wA.cell? ⟨w.heap.size + 1,461,none⟩ = some (.slice tb s.rows.length ktb):=(HB2.out.cell 461).trans (Gt Pg Ht _ _ _ 1 (by decide));have c22:wA.cell? ⟨w.heap.size + 1,462,none⟩ = some (.slice sb s.sent.length ksb):=(HB2.out.cell 462).trans (Gt Pg Ht _ _ _ 2 (by decide));have c23:wA.cell? ⟨w.heap.size + 1,463,none⟩ = some (.int .i64 s.at'):=(HB2.out.cell 463).trans (Gt Pg Ht _ _ _ 3 (by decide));have c24:wA.cell? ⟨w.heap.size + 1,464,none⟩ = some (.int .i64 s.steps):=(HB2.out.cell 464).trans (Gt Pg Ht _ _ _ 4 (by decide));have c25:wA.cell? ⟨w.heap.size + 1,465,none⟩ = some (.bool s.done):=(HB2.out.cell 465).trans (Gt Pg Ht _ _ _ 5 (by decide));have HR:=hid (And.intro r10 (And.intro r20 (And.intro r11 r21)));clear hB hB1 hB2 r10 r20 r11 r21
 go_wp2_with (first
  | refine wpList_load_mid rfl 58 (.tmp 5) rfl w.heap.size 0 rfl (Ei s.rg) _ HR.out.1 underlying58 rfl HI1.out ?_
  | refine wpList_load_mid rfl 58 (.tmp 7) rfl (w.heap.size + 1) 0 rfl (Ei s.rg) _ HR.out.2.1 underlying58 rfl HI1.out ?_)
 refine wp_load_mid 62 (.tmp 11) rfl w.heap.size 44 rfl (Rw s.sl) _ HR.out.2.2.1 underlying62 rfl HI2.out ?_;go_wp2_with fail;refine wp_load_mid 62 (.tmp 13) rfl (w.heap.size + 1) 44 rfl (Rw s.sl) _ HR.out.2.2.2 underlying62 rfl HI2.out ?_
 go_wp2_with (first
  | (go_at_call 36;go_loud (refine (Uf _ _ s.ctx _ (HH.out.1.below HB.out nl) (HH.out.2.1.below HB.out nl)).mono ?_;rintro e w' ⟨rfl,rfl⟩))
  | (go_at_call 37;go_loud (refine (Abb _ _ va vb s.rows HH.out.2.2.2.2.2.2.1 _ (HH.out.2.2.1.below HB.out nl) (HH.out.2.2.2.1.below HB.out nl)).mono ?_;rintro e w' ⟨rfl,n1,rfl⟩))
  | (go_at_call 44;go_loud (refine (Aas _ _ s.sent HH.out.2.2.2.2.2.2.2 _ (HH.out.2.2.2.2.1.below (below_drewN HB.out _) nl) (HH.out.2.2.2.2.2.1.below (below_drewN HB.out _) nl)).mono ?_;rintro e w' ⟨rfl,n2,rfl⟩)))
 go_ret
 exact ⟨rfl,by first | exact below_drewN HB.out _ | exact below_drewN (below_drewN HB.out _) _⟩
end Go.Proofs.YtjacnhnaoenelaaGreat
