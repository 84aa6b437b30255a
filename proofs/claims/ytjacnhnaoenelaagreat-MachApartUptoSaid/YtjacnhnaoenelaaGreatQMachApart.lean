/-
 MachApart: two machines that work in turns are what each is alone;what was handed in stays as it was,its spare room too,and is not kept;what is told is the caller's;of every two programs and inputs that together hold at most 1048576 values.
-/
import Derived.Test.YtjacnhnaoenelaaGreatQMachFx
import Derived.Test.YtjacnhnaoenelaaGreatQMachPW
import Derived.Test.YtjacnhnaoenelaaGreatQMachDU
set_option maxRecDepth 100000
namespace Go.Proofs.YtjacnhnaoenelaaGreat.machApart
open Go.Proofs.Tryz
open Go.ChangeShapes Go.WideShapes Go.ChangeAt Go.RowKit
set_option linter.unusedVariables false
set_option linter.unusedSimpArgs false
theorem contract (H:Type) (enc:TypeId × Value->H) (W:World) (base:Nat) (args:Array Value) (ds gs:List (DataW H)) (before:List MemPlace)
 (hval:∀ (j:Nat) t v,Tryz.f3.params[j]? = some t->args[j]? = some v->Value.okWide prog W .any base t v)
 (hW:DataW.Whole enc prog Tryz.f3.params.toList Rows.machApartSpec.vars false W args.toList ds gs before) (hk:Rows.uptoSmall H (ds ++ gs) = true) :
 Calls prog 3 args W fun e W'=>∃ v,e = .returned v/\Rows.machApartSpec.post enc prog Tryz.f3 false true false false W args v W':=by
 have hW':=hW;obtain ⟨p,q,hA0,hV,rfl,hfz,hnd⟩:=hW;have hA:DataW.TrodAll enc prog W 0 (fun _=>true) true Tryz.f3.params.toList args.toList ds p:=hA0;rw [Tryz.params3] at hA hval;obtain ⟨v0,vs0,d0,ds0,p0,q0,hargs,rfl,rfl,h0,r0⟩:=trodAll_cons hA;obtain ⟨v1,vs1,d1,ds1,p1,q1,rfl,rfl,rfl,h1,r1⟩:=trodAll_cons r0;obtain ⟨v2,vs2,d2,ds2,p2,q2,rfl,rfl,rfl,h2,r2⟩:=trodAll_cons r1;obtain ⟨v3,vs3,d3,ds3,p3,q3,rfl,rfl,rfl,h3,r3⟩:=trodAll_cons r2;obtain ⟨rfl,rfl,rfl⟩:=trodAll_nil r3;obtain rfl:args = #[v0,v1,v2,v3]:=by cases args;exact congrArg Array.mk hargs
 have hz0:Rows.uptoBulk d0 <= 1048576:=Nat.le_trans (Kv (by simp)) (show Rows.uptoBulkAll (d0 :: d1 :: d2 :: d3 :: [] ++ gs) <= 1048576 from by simpa [Rows.uptoSmall] using hk);obtain ⟨lo0,hi0,da0,ta0,co0,dv0,tv0,cv0,rfl,hD0,hT0,hC0,hI0,hla0,hlb0,A1x⟩:=Abj (hval 0 26 v0 rfl rfl) h0 hz0;have hz1:Rows.uptoBulk d1 <= 1048576:=Nat.le_trans (Kv (by simp)) (show Rows.uptoBulkAll (d0 :: d1 :: d2 :: d3 :: [] ++ gs) <= 1048576 from by simpa [Rows.uptoSmall] using hk);obtain ⟨cx1,vs1',rw1,xv1,rv1,rfl,hX1,hR1,A1y,A1z,hrw1⟩:=yt (hval 1 29 v1 rfl rfl) h1 hz1;have hz2:Rows.uptoBulk d2 <= 1048576:=Nat.le_trans (Kv (by simp)) (show Rows.uptoBulkAll (d0 :: d1 :: d2 :: d3 :: [] ++ gs) <= 1048576 from by simpa [Rows.uptoSmall] using hk);obtain ⟨lo2,hi2,da2,ta2,co2,dv2,tv2,cv2,rfl,hD2,hT2,hC2,hI2,A10,A11,A12⟩:=Abj (hval 2 26 v2 rfl rfl) h2 hz2;have hz3:Rows.uptoBulk d3 <= 1048576:=Nat.le_trans (Kv (by simp)) (show Rows.uptoBulkAll (d0 :: d1 :: d2 :: d3 :: [] ++ gs) <= 1048576 from by simpa [Rows.uptoSmall] using hk);obtain ⟨cx3,A13,rw3,xv3,rv3,rfl,hX3,hR3,A14,hrl3,hrw3⟩:=yt (hval 3 29 v3 rfl rfl) h3 hz3;obtain ⟨nd0,nk0,rfl⟩:=Gy hD0;obtain ⟨nt0,nk1,rfl,_⟩:=hT0.open;obtain ⟨nc0,nk2,rfl,_⟩:=hC0.open;obtain ⟨nx0,nk3,rfl⟩:=Gy hX1;obtain ⟨nr0,nk4,rfl,_⟩:=hR1.open;obtain ⟨nd1,nl0,rfl⟩:=Gy hD2;obtain ⟨nt1,nl1,rfl,_⟩:=hT2.open;obtain ⟨nc1,nl2,rfl,_⟩:=hC2.open;obtain ⟨nx1,nl3,rfl⟩:=Gy hX3;obtain ⟨nr1,nl4,rfl,_⟩:=hR3.open;have hcw := Ajw ⟨lo0,hi0,da0,ta0,co0⟩ ⟨lo2,hi2,da2,ta2,co2⟩ cx1 cx3 vs1' A13 rw1 rw3 nd0 nt0 nc0 nx0 nr0 nd1 nt1 nc1 nx1 nr1 nk0 nk1 nk2 nk3 nk4 nl0 nl1 nl2 nl3 nl4 W hD0 hT0 hC0 hI0 hla0 hlb0 A1x hX1 hR1 A1y A1z hrw1 hD2 hT2 hC2 hI2 A10 A11 A12 hX3 hR3 A14 hrl3 hrw3;dsimp only at hcw;refine hcw.mono fun e W' ⟨he,hb⟩=>?_;subst he;exact ⟨_,rfl,As5 (tb:=4) (by kernel_rfl) (by kernel_rfl) rfl underlying4 rfl (fun h=>by subst h;rfl) hW' hb⟩
theorem lifted (os:Os) (started:os.Started) (H:Type) (enc:TypeId × Value->H) (F:Stop.Interp) :
 ReturnsInHanded {} Tryz.checked os 3 .any ((Rows.OpenSpec.upto Rows.machApartSpec).pre6 enc prog Tryz.f3 Rows.machApartUptoRow.domain false) (((Rows.OpenSpec.upto Rows.machApartSpec).at F).post enc prog Tryz.f3 false true false false):=by
 refine returnsInHanded_of_cond (C:=Tryz.checked) (s:=Rows.OpenSpec.upto Rows.machApartSpec) (k:=Rows.uptoSmall) rfl own started (by kernel_rfl) func3
  (OpenSpec.witness (enc := enc) (C := Tryz.checked) (s := Rows.OpenSpec.upto Rows.machApartSpec) (k := Rows.uptoSmall) rfl false ⟨#[], #[.agg #[.int .i64 0, .int .i64 0, .slice none 0 0, .slice none 0 0, .slice none 0 0], .agg #[.slice none 0 0, .slice none 0 0], .agg #[.int .i64 0, .int .i64 0, .slice none 0 0, .slice none 0 0, .slice none 0 0], .agg #[.slice none 0 0, .slice none 0 0]], []⟩ 8 (by kernel_rfl) (by kernel_rfl) (by kernel_rfl)
    (x:=([.agg [.lit (.int .i64 0),.lit (.int .i64 0),.nil,.nil,.nil],.agg [.nil,.nil],.agg [.lit (.int .i64 0),.lit (.int .i64 0),.nil,.nil,.nil],.agg [.nil,.nil]],[],[])) (by kernel_rfl) rfl (by kernel_rfl)) ?_
 intro W base args ds gs before hval hW _ hk _;exact contract H enc W base args ds gs before hval hW hk
theorem proved:Rows.MachApartUptoSaid:=
 OpenClaim.holds_of_cond 3 Tryz.f3 rfl rfl rfl rfl rfl rfl rfl ⟨rfl,rfl,rfl,rfl,rfl⟩ rfl rfl rfl rfl rfl (by kernel_rfl) func3 closed
  (of_decide_eq_true (by kernel_rfl)) (by unfold Func.isWrapper;first | (rw [if_pos (by decide +kernel)];kernel_rfl) | (rw [if_neg (by decide +kernel)];exact ⟨rfl,rfl⟩))
  (fun os started H enc _ F=>lifted os started H enc F)
#print axioms proved
end Go.Proofs.YtjacnhnaoenelaaGreat.machApart
