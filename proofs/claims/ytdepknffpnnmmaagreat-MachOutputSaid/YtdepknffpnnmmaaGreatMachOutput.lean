/-
 MachOutput: what Run answers is the caller's own,each time anew,of every program and input: the machine answers the same again and again though every output is written over and grown,and its state stays;no condition but that each list has the size that a list in memory has.
-/
import Derived.Test.YtdepknffpnnmmaaGreatMachOW
import Derived.Test.YtdepknffpnnmmaaGreatMachDO
import Derived.Test.YtdepknffpnnmmaaGreatFacts
import Derived.Test.YtdepknffpnnmmaaGreatLawEnd
import Derived.OpenShut
set_option maxRecDepth 100000
namespace Go.Proofs.YtdepknffpnnmmaaGreat.machOutput
open Go.ChangeShapes Go.WideShapes Go.ChangeAt Go.RowKit
set_option linter.unusedVariables false
set_option linter.unusedSimpArgs false
theorem walk (lo hi:Int) (data:List Int) (tabs:List (Int × Int)) (code:List Ins) (dv tv cv:Value) (ctx:List Int) (vals:List Value) (rows:List (List Int)) (xv rv:Value) (W:World)
 (hD:Held W dv data) (hT:Tabs W tv tabs) (hC:Coded W cv code) (hI:∀ i ∈ code,i64r i.imm) (hla:data.length <= 140737488355328) (hlb:tabs.length * 16 <= 140737488355328) (hlc:code.length * 56 <= 140737488355328)
 (hX:Held W xv ctx) (hR:Rowed W rv vals rows) (hxl:ctx.length <= 140737488355328) (hrl:rows.length <= 5864062014805) (hrw:∀ i (h:i < rows.length),rows[i].length <= 140737488355328) :
 Calls Tryz.prog 7 #[.agg #[.int .i64 lo,.int .i64 hi,dv,tv,cv],.agg #[xv,rv]] W fun e w'=>e = .returned (.bool true)/\Below W.heap.size W w':=by
 obtain ⟨d0,k0,rfl⟩:=held_slice hD
 obtain ⟨t0,k1,rfl,_⟩:=hT.open
 obtain ⟨c0,k2,rfl,_⟩:=hC.open
 obtain ⟨x0,k3,rfl⟩:=held_slice hX
 obtain ⟨r0,k4,rfl,_⟩:=hR.open
 exact output_walk ⟨lo,hi,data,tabs,code⟩ ctx vals rows d0 t0 c0 x0 r0 k0 k1 k2 k3 k4 W hD hT hC hI hla hlb hlc hX hR hxl hrl hrw
theorem fact_wf:(Rows.machOutputRow.wf (OpenSpec.ofChange Rows.machOutputSpec)) = true:=by kernel_rfl
theorem fact_rd:(Tryz.f7.params.all ((Tryz.prog).readableRec ·)) = true:=by kernel_rfl
theorem fact_nt:(namedTie (Tryz.prog) Rows.machOutputRow.named Rows.machOutputSpec.vars) = true:=by kernel_rfl
theorem fact_s1:((Rows.machOutputRow.stops == [])) = true:=by kernel_rfl
theorem fact_k1:((Rows.machOutputRow.knobs == [])) = true:=by kernel_rfl
theorem fact_ip:((Rows.machOutputRow.inPlace == (Tryz.prog).inPlace 7)) = true:=by kernel_rfl
theorem fact_uf:((Rows.machOutputRow.unfollowed == (Tryz.prog).unfollowed 7)) = true:=by kernel_rfl
theorem fact_rc:((Rows.machOutputRow.recurses == (Tryz.prog).recurses 7)) = true:=by kernel_rfl
theorem fact_nm:((Rows.machOutputRow.named == (Tryz.prog).varsNamed 7)) = true:=by kernel_rfl
theorem fact_mp:((Rows.machOutputRow.maps == (Tryz.f7.params.toList ++ Rows.machOutputSpec.plain.varTypes (Tryz.prog)).any ((Tryz.prog).mapsRec ·))) = true:=by kernel_rfl
theorem fact_if:((Rows.machOutputRow.ifaces == (Tryz.f7.params.toList ++ Rows.machOutputSpec.plain.varTypes (Tryz.prog)).any ((Tryz.prog).ifacesRec ·))) = true:=by kernel_rfl
theorem fact_mo:((Rows.machOutputRow.mapsOut == (Tryz.prog).mapsAmong Tryz.f7.resultTypes.toList)) = true:=by kernel_rfl
theorem fact_lp:((Rows.machOutputRow.loops == (Tryz.f7.params.toList ++ Rows.machOutputSpec.plain.varTypes (Tryz.prog)).any ((Tryz.prog).loopsFrom ·))) = true:=by kernel_rfl
theorem fact_wk:((Rows.machOutputRow.wideKeys == (Tryz.f7.params.toList ++ Rows.machOutputSpec.plain.varTypes (Tryz.prog) ++ Tryz.f7.resultTypes.toList).any ((Tryz.prog).wideKeysFrom ·))) = true:=by kernel_rfl
theorem fact_vr:(Rows.machOutputSpec.vars.all ((Tryz.prog).varReadable ·)) = true:=by kernel_rfl
theorem fact_rr:(Tryz.f7.resultTypes.all (fun t=>(Tryz.prog).readableRec t && decide (t < (Tryz.prog).types.size))) = true:=by kernel_rfl
theorem fact_io:((Rows.machOutputRow.ifacesOut == Tryz.f7.resultTypes.toList.any ((Tryz.prog).ifacesRec ·))) = true:=by kernel_rfl
theorem fact_ol:((Rows.machOutputRow.loopsOut == Tryz.f7.resultTypes.toList.any ((Tryz.prog).loopsFrom ·))) = true:=by kernel_rfl
theorem fact_pk:((Rows.machOutputRow.plainKeys == (Tryz.prog).plainKeys)) = true:=by kernel_rfl
theorem fact_st:(Rows.machOutputRow.shortTexts.isNone) = true:=by kernel_rfl
theorem fact_lf:((Rows.machOutputRow.lifted == (Tryz.prog).liftsFinal)) = true:=by kernel_rfl
theorem fact_mk:(((Tryz.prog).make == some Rows.machOutputRow.make)) = true:=by kernel_rfl
theorem fact_kd:((Rows.machOutputRow.kinds == (if Rows.machOutputRow.domain.isEmpty then [] else Tryz.f7.params.toList.map fun t=>match (Tryz.prog).underlying t with | some (.int k)=>some k | _=>none))) = true:=by kernel_rfl
theorem fact_pn:((Rows.machOutputRow.pinned == Rows.machOutputRow.pinnedBy)) = true:=by kernel_rfl
theorem fact_vl:((Rows.machOutputRow.veiled == (Tryz.f7.params.toList ++ Rows.machOutputSpec.plain.varTypes (Tryz.prog) ++ Tryz.f7.resultTypes.toList).any ((Tryz.prog).veiledRec ·))) = true:=by kernel_rfl
theorem fact_vf:(Rows.machOutputRow.veiledFits (Tryz.prog) Tryz.f7.params.toList (Tryz.f7.params.toList ++ Rows.machOutputSpec.plain.varTypes (Tryz.prog) ++ Tryz.f7.resultTypes.toList)) = true:=by kernel_rfl
theorem closed:joinedFacts Tryz.prog 7 Tryz.f7 Rows.machOutputSpec Rows.machOutputRow = true:=
 closed_of fact_wf fact_lo fact_mr fact_rd fact_nt fact_s1 fact_s2 fact_k1 fact_k2 fact_ip fact_uf fact_rc fact_nm fact_mp fact_if fact_mo fact_lp fact_wk fact_vr fact_rr fact_io fact_ol fact_pk fact_st fact_sh fact_me fact_lf fact_mk fact_kd fact_pn fact_vl fact_vf
theorem own:ownKnob Tryz.prog.godebug = none:=by kernel_rfl
theorem lifted (os:Os) (started:os.Started) (H:Type) (enc:TypeId × Value->H) :
 ReturnsInHanded {} Tryz.checked os 7 .any (Rows.machOutputSpec.pre6 enc Tryz.prog Tryz.f7 Rows.machOutputRow.domain false) (Rows.machOutputSpec.post enc Tryz.prog Tryz.f7 false true false false):=by
 refine returnsInHanded_of_change_sized (C:=Tryz.checked) own started (by kernel_rfl) Tryz.func7
  (ChangeSpec.witness6 (enc:=enc) (C:=Tryz.checked) false ⟨#[],#[.agg #[.int .i64 0,.int .i64 0,.slice none 0 0,.slice none 0 0,.slice none 0 0],.agg #[.slice none 0 0,.slice none 0 0]],[]⟩ 8 (by kernel_rfl) (by kernel_rfl) (by kernel_rfl) (by kernel_rfl)) ?_
 intro W base args ds gs before hval0 hW hcnd hsz0 _
 have hsz:(DataW.weightsEach Tryz.prog (Tryz.f7.params.toList ++ Rows.machOutputSpec.plain.varTypes Tryz.prog) (ds ++ gs)).all (· <= reachBytes) = true:=hsz0
 have hval:∀ (j:Nat) t v,Tryz.f7.params[j]? = some t->args[j]? = some v->Value.okWide Tryz.prog W .any base t v:=hval0
 have hW':=hW
 obtain ⟨p,q,hA0,hV,rfl,hfz,hnd⟩:=hW
 have hA:DataW.TrodAll enc Tryz.prog W 0 (fun _=>true) true Tryz.f7.params.toList args.toList ds p:=hA0
 rw [Tryz.params7] at hA hval hsz
 obtain ⟨v0,vs0,d0,ds0,p0,q0,hargs,rfl,rfl,h0,r0⟩:=trodAll_cons hA
 obtain ⟨v1,vs1,d1,ds1,p1,q1,rfl,rfl,rfl,h1,r1⟩:=trodAll_cons r0
 obtain ⟨rfl,rfl,rfl⟩:=trodAll_nil r1
 obtain rfl:args = #[v0,v1]:=by cases args;simp_all
 have hz0:∀ n ∈ d0.weights Tryz.prog 44,n <= reachBytes:=fun n hn=>of_decide_eq_true (List.all_eq_true.1 hsz n (DataW.weights_mem_each (j:=0) (t:=44) (d:=d0) (by rfl) (by rfl) n hn))
 obtain ⟨lo0,hi0,da0,ta0,co0,dv0,tv0,cv0,rfl,hD0,hT0,hC0,hI0,hla0,hlb0,hlc0⟩:=prog_arg (hval 0 44 v0 rfl rfl) h0 hz0
 have hz1:∀ n ∈ d1.weights Tryz.prog 46,n <= reachBytes:=fun n hn=>of_decide_eq_true (List.all_eq_true.1 hsz n (DataW.weights_mem_each (j:=1) (t:=46) (d:=d1) (by rfl) (by rfl) n hn))
 obtain ⟨cx1,vs1',rw1,xv1,rv1,rfl,hX1,hR1,hxl1,hrl1,hrw1⟩:=input_arg (hval 1 46 v1 rfl rfl) h1 hz1
 refine (walk lo0 hi0 da0 ta0 co0 dv0 tv0 cv0 cx1 vs1' rw1 xv1 rv1 W hD0 hT0 hC0 hI0 hla0 hlb0 hlc0 hX1 hR1 hxl1 hrl1 hrw1).mono fun e W' ⟨he,hb⟩=>?_
 subst he
 exact ⟨_,rfl,law_post (tb:=4) (by kernel_rfl) (by kernel_rfl) rfl Tryz.underlying4 rfl (fun h=>by subst h;rfl) hW' hb⟩
theorem proved:Rows.MachOutputSaid:=
 OpenClaim.holds_of_wide 7 Tryz.f7 rfl rfl rfl rfl rfl rfl rfl ⟨rfl,rfl,rfl,rfl,rfl⟩ rfl rfl rfl rfl rfl (by kernel_rfl) Tryz.func7 closed
  (of_decide_eq_true (by kernel_rfl)) (by unfold Func.isWrapper;first | (rw [if_pos (by decide +kernel)];kernel_rfl) | (rw [if_neg (by decide +kernel)];exact ⟨rfl,rfl⟩))
  (fun os started H enc _=>lifted os started H enc)
#print axioms proved
end Go.Proofs.YtdepknffpnnmmaaGreat.machOutput
