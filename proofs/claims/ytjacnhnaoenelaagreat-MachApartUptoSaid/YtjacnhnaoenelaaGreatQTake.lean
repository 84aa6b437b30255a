import Derived.Deep.RegionHeld3
namespace Go.Proofs.YtjacnhnaoenelaaGreat
open Go
section
variable {P:Program} {ops:Array Oper} {Q:Exit->Act->World->Prop} {md:Region.Mode} {S:World->Prop} {fuel:Nat} {listed:Array Bool} {w:World} {l l':List Value} {op:Op} {ty:TypeId} {pos:String} {v:Value}
theorem D6 {df} {af} {gd} (i d:Nat) (h:wpAnyH P md ops Q S fuel (listed.setIfInBounds i true) ⟨l'.toArray,df⟩ w) (hi:ops[i]? = some ⟨some d,op,ty,pos,af,gd⟩:=by rfl)
 (hs:Region.noSelect ops = true:=by kernel_rfl) (hf:Region.free md ops listed i = true:=by kernel_rfl) (hr:(Region.ready md ops listed).contains i = true:=by kernel_rfl)
 (hw:Region.wanted ⟨some d,op,ty,pos,af,gd⟩ (yielded ops l.toArray) = true:=by kernel_rfl) (hy:∀ w,S w->(execOp (Act.eval ⟨l.toArray,df⟩) ⟨some d,op,ty,pos,af,gd⟩).run P w = .ok (.value v) w:=by intro w hSw;(try dsimp only at hSw);go_simp;(try with_reducible rfl))
 (hl:l.set d v = l':=by simp only [List.set_cons_zero,List.set_cons_succ];with_reducible rfl) (hQ:∀ c a w,Q (.panic c) (a.put (some d) v) w->Q (.panic c) a w:=by exact fun _ _ _ h=>h) (hS:S w:=by assumption):wpAnyH P md ops Q S (fuel + 1) listed ⟨l.toArray,df⟩ w:=
 wpAnyH_take hi hs hf hr hQ (Or.inl ⟨hw,hy⟩) hS (by
  subst hl;simp only [Act.put,List.setIfInBounds_toArray];exact h)
theorem Qc {df} {af} {gd} (i d:Nat) (h:wpAnyH P md ops Q S fuel (listed.setIfInBounds i true) ⟨l'.toArray,df⟩ w) (hi:ops[i]? = some ⟨some d,op,ty,pos,af,gd⟩:=by rfl)
 (hs:Region.noSelect ops = true:=by kernel_rfl) (hf:Region.free md ops listed i = true:=by kernel_rfl) (hr:(Region.ready md ops listed).contains i = true:=by kernel_rfl)
 (hw:Region.wanted ⟨some d,op,ty,pos,af,gd⟩ (yielded ops l.toArray) = false:=by kernel_rfl) (hl:l.set d undef = l':=by simp only [List.set_cons_zero,List.set_cons_succ];with_reducible rfl) (hQ:∀ c a w,Q (.panic c) (a.put (some d) undef) w->Q (.panic c) a w:=by exact fun _ _ _ h=>h) (hS:S w:=by assumption):wpAnyH P md ops Q S (fuel + 1) listed ⟨l.toArray,df⟩ w:=
 wpAnyH_take hi hs hf hr hQ (Or.inr ⟨hw,rfl⟩) hS (by
  subst hl;simp only [Act.put,List.setIfInBounds_toArray];exact h)
end
end Go.Proofs.YtjacnhnaoenelaaGreat
