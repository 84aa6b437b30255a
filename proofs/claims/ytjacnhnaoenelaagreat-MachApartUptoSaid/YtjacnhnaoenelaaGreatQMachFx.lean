import Derived.Test.YtjacnhnaoenelaaGreatQFacts
import Derived.Test.YtjacnhnaoenelaaGreatQLawEnd
set_option maxRecDepth 100000
namespace Go.Proofs.YtjacnhnaoenelaaGreat.machApart
open Go.Proofs.Tryz
open Go.ChangeShapes Go.WideShapes Go.ChangeAt Go.RowKit
set_option linter.unusedVariables false
set_option linter.unusedSimpArgs false
theorem fact_wf:(Rows.machApartUptoRow.wf (OpenSpec.ofChange (Rows.OpenSpec.upto Rows.machApartSpec).bare)) = true:=by kernel_rfl
theorem fact_rd:(Tryz.f3.params.all ((prog).readableRec ·)) = true:=by kernel_rfl
theorem fact_nt:(namedTie (prog) Rows.machApartUptoRow.named (Rows.OpenSpec.upto Rows.machApartSpec).bare.vars) = true:=by kernel_rfl
theorem fact_s1:((Rows.machApartUptoRow.stops == [])) = true:=by kernel_rfl
theorem fact_k1:((Rows.machApartUptoRow.knobs == [])) = true:=by kernel_rfl
theorem fact_ip:((Rows.machApartUptoRow.inPlace == (prog).inPlace 3)) = true:=by kernel_rfl
theorem fact_uf:((Rows.machApartUptoRow.unfollowed == (prog).unfollowed 3)) = true:=by kernel_rfl
theorem fact_rc:((Rows.machApartUptoRow.recurses == (prog).recurses 3)) = true:=by kernel_rfl
theorem fact_nm:((Rows.machApartUptoRow.named == (prog).varsNamed 3)) = true:=by kernel_rfl
theorem fact_mp:((Rows.machApartUptoRow.maps == (Tryz.f3.params.toList ++ (Rows.OpenSpec.upto Rows.machApartSpec).bare.plain.varTypes (prog)).any ((prog).mapsRec ·))) = true:=by kernel_rfl
theorem fact_if:((Rows.machApartUptoRow.ifaces == (Tryz.f3.params.toList ++ (Rows.OpenSpec.upto Rows.machApartSpec).bare.plain.varTypes (prog)).any ((prog).ifacesRec ·))) = true:=by kernel_rfl
theorem fact_mo:((Rows.machApartUptoRow.mapsOut == (prog).mapsAmong Tryz.f3.resultTypes.toList)) = true:=by kernel_rfl
theorem fact_lp:((Rows.machApartUptoRow.loops == (Tryz.f3.params.toList ++ (Rows.OpenSpec.upto Rows.machApartSpec).bare.plain.varTypes (prog)).any ((prog).loopsFrom ·))) = true:=by kernel_rfl
theorem fact_wk:((Rows.machApartUptoRow.wideKeys == (Tryz.f3.params.toList ++ (Rows.OpenSpec.upto Rows.machApartSpec).bare.plain.varTypes (prog) ++ Tryz.f3.resultTypes.toList).any ((prog).wideKeysFrom ·))) = true:=by kernel_rfl
theorem fact_vr:((Rows.OpenSpec.upto Rows.machApartSpec).bare.vars.all ((prog).varReadable ·)) = true:=by kernel_rfl
theorem fact_rr:(Tryz.f3.resultTypes.all (fun t=>(prog).readableRec t && decide (t < (prog).types.size))) = true:=by kernel_rfl
theorem fact_io:((Rows.machApartUptoRow.ifacesOut == Tryz.f3.resultTypes.toList.any ((prog).ifacesRec ·))) = true:=by kernel_rfl
theorem fact_ol:((Rows.machApartUptoRow.loopsOut == Tryz.f3.resultTypes.toList.any ((prog).loopsFrom ·))) = true:=by kernel_rfl
theorem fact_pk:((Rows.machApartUptoRow.plainKeys == (prog).plainKeys)) = true:=by kernel_rfl
theorem fact_st:(Rows.machApartUptoRow.shortTexts.isNone) = true:=by kernel_rfl
theorem fact_lf:((Rows.machApartUptoRow.lifted == (prog).liftsFinal)) = true:=by kernel_rfl
theorem fact_mk:(((prog).make == some Rows.machApartUptoRow.make)) = true:=by kernel_rfl
theorem fact_kd:((Rows.machApartUptoRow.kinds == (if Rows.machApartUptoRow.domain.isEmpty then [] else Tryz.f3.params.toList.map fun t=>match (prog).underlying t with | some (.int k)=>some k | _=>none))) = true:=by kernel_rfl
theorem fact_pn:((Rows.machApartUptoRow.pinned == Rows.machApartUptoRow.pinnedBy)) = true:=by kernel_rfl
theorem fact_vl:((Rows.machApartUptoRow.veiled == (Tryz.f3.params.toList ++ (Rows.OpenSpec.upto Rows.machApartSpec).bare.plain.varTypes (prog) ++ Tryz.f3.resultTypes.toList).any ((prog).veiledRec ·))) = true:=by kernel_rfl
theorem fact_vf:(Rows.machApartUptoRow.veiledFits (prog) Tryz.f3.params.toList (Tryz.f3.params.toList ++ (Rows.OpenSpec.upto Rows.machApartSpec).bare.plain.varTypes (prog) ++ Tryz.f3.resultTypes.toList)) = true:=by kernel_rfl
theorem closed:joinedFacts prog 3 Tryz.f3 (Rows.OpenSpec.upto Rows.machApartSpec).bare Rows.machApartUptoRow = true:=
 Ao0 fact_wf Au3 Au4 fact_rd fact_nt fact_s1 Au5 fact_k1 Au6 fact_ip fact_uf fact_rc fact_nm fact_mp fact_if fact_mo fact_lp fact_wk fact_vr fact_rr fact_io fact_ol fact_pk fact_st Au7 Au8 fact_lf fact_mk fact_kd fact_pn fact_vl fact_vf
theorem own:ownKnob prog.godebug = none:=by kernel_rfl
end Go.Proofs.YtjacnhnaoenelaaGreat.machApart
