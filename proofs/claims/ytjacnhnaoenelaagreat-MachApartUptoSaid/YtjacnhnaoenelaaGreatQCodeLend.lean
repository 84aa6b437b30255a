import Derived.Test.YtjacnhnaoenelaaGreatQMachPA
set_option maxRecDepth 100000
namespace Go.Proofs.YtjacnhnaoenelaaGreat
open Go.Proofs.Tryz
open Go.RowKit
set_option linter.unusedVariables false
set_option linter.unusedSimpArgs false
theorem Aag {P:Program} (w:World) (dT sT ty elem:TypeId) (g o dLen dCap:Nat) (a:Addr) (sLen sCap:Nat) (cur:Array Value) (t:TypeId) (cs:List Value) (s:Nat)
 (hu:P.underlying dT = some (.slice elem)) (hs:(P.info? elem).map (·.size) = some s)
 (hg:w.heap[g]? = some (.cells cur t (0,0))) (hn:cs.length = Nat.min sLen dLen * s)
 (hsrc:∀ j v,cs[j]? = some v->w.cell? (a.add j) = some v) (hfit:o + cs.length <= cur.size) (h1:∀ v ∈ cs,v.oneCell' = true) :
 (Builtin.copy_ #[dT, sT] ty #[.slice (some ⟨g, o, none⟩) dLen dCap, .slice (some a) sLen sCap]).run P w =
   .ok (goInt (Nat.min sLen dLen)) (w.setRow g (cur.toList.take o ++ cs ++ cur.toList.drop (o + cs.length)).toArray):=by
 have hl:=run_loadCells_list (P:=P) w a cs hsrc;have hst:=run_storeCells_at P g o t cs 0 cur w hg (by simpa using hfit) h1
 cases hq:P.info? elem with
 | none=>simp [hq] at hs
 | some i =>
   have hi:i.size = s:=by simpa [hq] using hs
   simp [Builtin.copy_,run_underlying hu,Builtin.lenOf,Builtin.firstCells,sizeOf,typeInfo,hq,hi,<- hn,hl,hst]
theorem Acw {P:Program} {w:World} {ops:Array Oper} {rest:List Oper} {o:Oper} {a:Act} {Q:Exit->Act->World->Prop} (hgd:o.guard = none) (d s:Operand) (dT sT:TypeId)
 (ho:o.op = .call { callee:=.builtin .copy,args:=#[d,s],argTypes:=#[dT,sT] }) (elem:TypeId) (hu:P.underlying dT = some (.slice elem)) (sz:Nat) (hsz:(P.info? elem).map (·.size) = some sz)
 (g dLen dCap:Nat) (ad:Addr) (sLen sCap:Nat) (hd:a.eval d = .slice (some ⟨g,0,none⟩) dLen dCap) (hs:a.eval s = .slice (some ad) sLen sCap)
 (cur:List Value) (t:TypeId) (hg:w.heap[g]? = some (.cells cur.toArray t (0,0))) (cs:List Value) (hn:cs.length = Nat.min sLen dLen * sz)
 (hsrc:∀ j v,cs[j]? = some v->w.cell? (ad.add j) = some v) (hfit:cs.length <= cur.length) (h1:∀ v ∈ cs,v.oneCell' = true)
 (h:∀ w',Hid (w'.heap[g]? = some (.cells (cs ++ cur.drop cs.length).toArray t (0,0)))->(∀ q,q ≠ g->w'.heap[q]? = w.heap[q]?)->Below g w w'->wpList P ops Q rest (a.put o.dst (goInt (Nat.min sLen dLen))) w'):wpList P ops Q (o :: rest) a w:=by
 refine wpList_plain hgd fun K hK=>?_;have hrun:=Aag (P:=P) w dT sT o.type elem g 0 dLen dCap ad sLen sCap cur.toArray t cs sz hu hsz hg hn hsrc (by simpa using hfit) h1;unfold Oper.wp;simp [execOp,ho,resolve,invoke,builtin,hd,hs,hrun,Result.andThen];refine hK _ _ (h _ ?_ (fun q hq=>setRow_other w g q _ hq) (below_setRow (Below.refl _ _) nl _));exact Lib.hid (by simpa using setRow_heap w g _ _ t _ hg)
def Asg (cs:List Value) (k:Nat) (x:Ins):List Value:=
 (((((((cs.set k (.int .i64 x.op)).set (k + 1) (.bool x.Ad)).set (k + 2) (.bool x.reg)).set (k + 3) (.int .i64 x.size)).set (k + 4) (.int .i64 x.dst)).set (k + 5) (.int .i64 x.src)).set (k + 6) (.int .i64 x.off)).set (k + 7) (.int .i64 x.Aa)
theorem Aom (cs:List Value) (k:Nat) (x:Ins) (hk:k + 8 <= cs.length) (j:Nat):(Asg cs k x)[j]? = if k <= j/\j < k + 8 then x.cs[j - k]? else cs[j]?:=by
 unfold Asg;simp only [List.getElem?_set,List.length_set]
 by_cases h:k <= j/\j < k + 8
 ·rw [if_pos h];obtain ⟨d,rfl⟩:∃ d,j = k + d:=⟨j - k,by omega⟩;have hd:d = 0\/d = 1\/d = 2\/d = 3\/d = 4\/d = 5\/d = 6\/d = 7:=by omega
  rcases hd with rfl | rfl | rfl | rfl | rfl | rfl | rfl | rfl <;> simp [Ins.cs,Ed] <;> omega
 ·rw [if_neg h]
  repeat rw [if_neg (by omega)]
theorem Afv (l:List Ins) (k:Nat) (x:Ins) (hk:k < l.length):Asg (Dj l) (k * 8) x = Dj (l.set k x):=by
 apply List.ext_getElem?
 intro j;rw [Aom _ _ _ (by rw [G5];omega)]
 by_cases hj:j < l.length * 8
 ·obtain ⟨q,r,hr,rfl⟩:∃ q r,r < 8/\j = q * 8 + r:=⟨j / 8,j % 8,by omega,by omega⟩;have hq:q < l.length:=by omega
  rw [I5 (l.set k x) q (by simpa using hq) r hr,I5 l q hq r hr]
  by_cases e:q = k
  ·subst e;rw [if_pos (by omega),List.getElem_set_self,Nat.add_sub_cancel_left]
  ·rw [if_neg (by omega),List.getElem_set_ne (by omega)]
 ·rw [if_neg (by omega),List.getElem?_eq_none (by rw [G5];omega),List.getElem?_eq_none (by rw [G5,List.length_set];omega)]
def Rn (i:Nat):Ins:=⟨-7 - (i:Int),false,false,0,0,0,0,i⟩
theorem Aje (x y:Int):prog.built 70 [(0,.int .i64 x),(7,.int .i64 y)] = some #[.int .i64 x,.bool false,.bool false,.int .i64 0,.int .i64 0,.int .i64 0,.int .i64 0,.int .i64 y]:=by kernel_rfl
theorem run_mark (x y:Int) (w:World):(Instr.build 70 #[(0,.int .i64 x),(7,.int .i64 y)]).run prog w = .ok (.agg #[.int .i64 x,.bool false,.bool false,.int .i64 0,.int .i64 0,.int .i64 0,.int .i64 0,.int .i64 y]) w:=run_build w _ _ _ (Aje x y)
theorem Afw (i:Nat) (hi:i <= 1000000000) (w:World):Calls prog 26 #[.int .i64 i] w fun e w'=>e = .returned (.agg (Rn i).cs.toArray)/\Below w.heap.size w w':=by
 have hb:=run_mark;have hw1:wrap64 (-7 - (i:Int)) = -7 - (i:Int):=by unfold wrap64;omega
 have hr:=Row.made w (Rn i).cs 70;go_enter func26,ntmps26;go_wp2;exact bodyPost_ret (v:=.agg (Rn i).cs.toArray) (results_cell_row (p:=2) results26 _ _ w.heap.size _ _ (0,0) _ rfl hr underlying70 rfl (by kernel_rfl)) rfl ⟨rfl,Ae w _⟩
def Hf (l:List Ins) (i:Nat):List Ins:=(List.range (4 * l.length + 200)).map fun t=>if t < l.length then l.getD t (Rn 0) else if t < l.length + i then Rn (t - l.length) else ⟨0,false,false,0,0,0,0,0⟩
theorem Fh (l:List Ins) (i:Nat):(Hf l i).length = 4 * l.length + 200:=by simp [Hf]
theorem Ajf (l:List Ins) (i:Nat) (hi:i < l.length + 70):(Hf l i).set (l.length + i) (Rn i) = Hf l (i + 1):=by
 apply List.ext_getElem?
 intro j;rw [List.getElem?_set]
 by_cases hj:j < 4 * l.length + 200
 ·by_cases e:l.length + i = j
  ·subst e;rw [if_pos rfl,if_pos (by rw [Fh];omega)];simp [Hf,hj];intro h;omega
  ·rw [if_neg e];simp only [Hf,List.getElem?_map,List.getElem?_range hj,Option.map_some,Option.some.injEq]
   by_cases h1:j < l.length
   ·rw [if_pos h1,if_pos h1]
   ·rw [if_neg h1,if_neg h1]
    by_cases h2:j < l.length + i
    ·rw [if_pos h2,if_pos (by omega)]
    ·rw [if_neg h2,if_neg (by omega)]
 ·rw [if_neg (by omega),List.getElem?_eq_none (by rw [Fh];omega),List.getElem?_eq_none (by rw [Fh];omega)]
def Ro:Ins:=⟨0,false,false,0,0,0,0,0⟩
theorem Ajg (n:Nat):madeCells #[.int .i64 0,.bool false,.bool false,.int .i64 0,.int .i64 0,.int .i64 0,.int .i64 0,.int .i64 0] (n * 8) = (Dj (List.replicate n Ro)).toArray:=by
 apply Array.ext'
 rw [List.toList_toArray]
 apply List.ext_getElem?
 intro j
 by_cases hj:j < n * 8
 ·obtain ⟨q,r,hr,rfl⟩:∃ q r,r < 8/\j = q * 8 + r:=⟨j / 8,j % 8,by omega,by omega⟩;rw [I5 _ q (by simp;omega) r hr];have hm:(q * 8 + r) % 8 = r:=by omega
  have Nz:∀ (z:Array Value) j,j < n * 8->(madeCells z (n * 8)).toList[j]? = some z[j % z.size]!:=fun z j hj=>by
   simp [madeCells,hj]
  rw [Nz _ _ hj];show some (#[Value.int .i64 0,.bool false,.bool false,.int .i64 0,.int .i64 0,.int .i64 0,.int .i64 0,.int .i64 0][(q * 8 + r) % 8]!) = _;rw [hm];have hd:r = 0\/r = 1\/r = 2\/r = 3\/r = 4\/r = 5\/r = 6\/r = 7:=by omega
  rcases hd with rfl | rfl | rfl | rfl | rfl | rfl | rfl | rfl <;> simp [Ro,Ins.cs,Ed]
 ·rw [List.getElem?_eq_none (by simp [madeCells];omega),List.getElem?_eq_none (by rw [G5,List.length_replicate];omega)]
theorem Asi (n:Nat) (hn:n <= 1000000000) (w:World):(Instr.makeSlice 24 (.int .i64 n) (.int .i64 n)).run prog w =
 .ok (.slice (some ⟨w.heap.size,0,none⟩) n n) (w.alloc (.cells (Dj (List.replicate n Ro)).toArray 70)):=by
 obtain ⟨i,hi,hz,hs,hb⟩:=Gx (show (prog.info? 70).map (fun i=>(i.zero,i.size,i.bytes)) = some (some (.agg #[.int .i64 0,.bool false,.bool false,.int .i64 0,.int .i64 0,.int .i64 0,.int .i64 0,.int .i64 0]),8,56) by kernel_rfl);have h:=run_make (P:=prog) w 24 70 i _ underlying24 hi hz .i64 .i64 n n (by omega) (by omega) (by rw [hb];omega) (by omega);rw [h];simp only [Int.toNat_natCast,hs,Value.cells,Ajg]
theorem Afx (l:List Ins):Dj l ++ (Dj (List.replicate (4 * l.length + 200) Ro)).drop (Dj l).length = Dj (Hf l 0):=by
 have e:Hf l 0 = l ++ List.replicate (3 * l.length + 200) Ro:=by
  apply List.ext_getElem?
  intro j
  by_cases h1:j < l.length
  ·rw [List.getElem?_append_left h1];simp [Hf,show j < 4 * l.length + 200 by omega,h1,List.getD]
  ·rw [List.getElem?_append_right (by omega)]
   by_cases h2:j < 4 * l.length + 200
   ·rw [List.getElem?_replicate,if_pos (by omega)];simp [Hf,h2,h1,Ro]
   ·rw [List.getElem?_eq_none (by rw [Fh];omega),List.getElem?_eq_none (by rw [List.length_replicate];omega)]
 rw [e];show Dj l ++ _ = (l ++ _).flatMap Ins.cs;rw [List.flatMap_append]
 congr 1
 show (Dj _).drop _ = Dj _
 have hrep:List.replicate (4 * l.length + 200) Ro = List.replicate l.length Ro ++ List.replicate (3 * l.length + 200) Ro:=by
  rw [List.replicate_append_replicate,show l.length + (3 * l.length + 200) = 4 * l.length + 200 by omega]
 have hap:∀ a b:List Ins,Dj (a ++ b) = Dj a ++ Dj b:=fun a b=>List.flatMap_append;rw [G5,hrep,hap];exact List.drop_left' (by rw [G5,List.length_replicate])
end Go.Proofs.YtjacnhnaoenelaaGreat
