import Derived.Test.YtjacnhnaoenelaaGreatQJ0a
namespace Go.Proofs.YtjacnhnaoenelaaGreat
open Go.RowKit Go.ChangeShapes Go.WideShapes Go.ChangeAt
set_option linter.unusedVariables false
set_option linter.unusedSimpArgs false
theorem Xw {H:Type} {enc:TypeId × Value->H} {P:Program} (hl:laidOutB P = true) {W W':World} (hb:Below W.heap.size W W') :
 ∀ (ts : List TypeId) (vs : List Value) (ds : List (DataW H)) (ps : List MemPlace), (ts.all fun t => P.readableRec t && decide (t < P.types.size)) = true →
   DataW.TrodAll enc P W 0 (fun _=>true) true ts vs ds ps->(∀ x ∈ ps,x.block < W.heap.size) ->
   DataW.TrodAll enc P W' 0 (fun b=>decide (b < W.heap.size)) true ts vs ds ps
 | [], _, _, _, _, h, _ => by
   obtain ⟨rfl,rfl,rfl⟩:=trodAll_nil h;exact rfl
 | t :: ts, _, _, _, ht, h, hlt => by
   obtain ⟨v,vs1,d,ds1,a,b,rfl,rfl,rfl,h1,h2⟩:=trodAll_cons h;simp only [List.all_cons,Bool.and_eq_true,decide_eq_true_eq] at ht
   exact ⟨a,b,Below.trod hl ht.1.1 ht.1.2 h1 hb (fun x hx=>hlt x (List.mem_append.2 (Or.inl hx))),
    Xw hl hb ts vs1 ds1 b (by simpa using ht.2) h2 (fun x hx=>hlt x (List.mem_append.2 (Or.inr hx))),rfl⟩
theorem As5 {H:Type} {enc:TypeId × Value->H} {P:Program} {f:Func} {s:ChangeSpec} {W W':World} {args:Array Value} {ds gs:List (DataW H)} {before:List MemPlace} {tb:TypeId}
 (hl:laidOutB P = true) (hts:(f.params.toList.all fun t=>P.readableRec t && decide (t < P.types.size)) = true)
 (hr:f.resultTypes = #[tb]) (hb:P.underlying tb = some .bool) (hvars:s.vars = [])
 (hfn:gs = []->s.fn H (ds ++ gs) = { results:=[.lit (.bool true)],args:=ds })
 (hW:DataW.Whole enc P f.params.toList s.vars false W args.toList ds gs before) (hbelow:Below W.heap.size W W') :
 s.post enc P f false true false false W args (.bool true) W':=by
 have hW':=hW;obtain ⟨p,q,hA,hV,hpq,hfz,hnd⟩:=hW;rw [hvars] at hV
 have hq:gs = []/\q = []:=by
  cases gs with
  | nil=>exact ⟨rfl,hV⟩
  | cons _ _=>exact hV.elim
 obtain ⟨rfl,rfl⟩:=hq;have hfn:=hfn rfl;have hlt:∀ x ∈ before,x.block < W.heap.size:=fun x hx=>by simpa using hW'.lt x hx
 refine ⟨ds,[],before,[],before,[],hW',?_,?_,?_,hbelow.frame _,fun h=>by cases h⟩
 ·rw [hfn,hr];exact trodAll_mk1 (shut_bool hb _)
 ·rw [hfn];rw [hpq] at hlt ⊢;simp only [List.append_nil] at hlt ⊢;exact Xw hl hbelow _ _ _ _ hts hA hlt
 ·rw [hfn,hvars];exact rfl
end Go.Proofs.YtjacnhnaoenelaaGreat
