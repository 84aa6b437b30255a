import Derived.Test.YtjacnhnaoenelaaGreatQJ0a
namespace Go.Proofs.YtjacnhnaoenelaaGreat
open Go.Proofs.Tryz
open Go.ChangeShapes Go.WideShapes Go.ChangeAt Go.RowKit
set_option linter.unusedVariables false
set_option linter.unusedSimpArgs false
theorem Ao0 {P:Program} {f:FuncId} {fn:Func} {s:ChangeSpec} {c:OpenClaim} (A0w:c.wf (OpenSpec.ofChange s) = true) (A0x:laidOutB P = true) (A0y:mapsRowed P = true) (A0z:fn.params.all (P.readableRec ·) = true) (A00:namedTie P c.named s.vars = true) (A01:(c.stops == []) = true) (A02:(P.stops == []) = true) (A03:(c.knobs == []) = true) (A04:(P.stopKnobs == []) = true) (A05:(c.inPlace == P.inPlace f) = true) (A06:(c.unfollowed == P.unfollowed f) = true) (A07:(c.recurses == P.recurses f) = true) (A08:(c.named == P.varsNamed f) = true) (A09:(c.maps == (fn.params.toList ++ s.plain.varTypes P).any (P.mapsRec ·)) = true) (A1a:(c.ifaces == (fn.params.toList ++ s.plain.varTypes P).any (P.ifacesRec ·)) = true) (A1b:(c.mapsOut == P.mapsAmong fn.resultTypes.toList) = true) (A1c:(c.loops == (fn.params.toList ++ s.plain.varTypes P).any (P.loopsFrom ·)) = true) (A1d:(c.wideKeys == (fn.params.toList ++ s.plain.varTypes P ++ fn.resultTypes.toList).any (P.wideKeysFrom ·)) = true) (A1e:s.vars.all (P.varReadable ·) = true) (A1f:fn.resultTypes.all (fun t=>P.readableRec t && decide (t < P.types.size)) = true) (A1g:(c.ifacesOut == fn.resultTypes.toList.any (P.ifacesRec ·)) = true) (A1h:(c.loopsOut == fn.resultTypes.toList.any (P.loopsFrom ·)) = true) (A1i:(c.plainKeys == P.plainKeys) = true) (A1j:c.shortTexts.isNone = true) (A1k:P.stopsHeard = true) (A1l:P.mayEnter = true) (A1m:(c.lifted == P.liftsFinal) = true) (A1n:(P.make == some c.make) = true) (A1o:(c.kinds == (if c.domain.isEmpty then [] else fn.params.toList.map fun t=>match P.underlying t with | some (.int k)=>some k | _=>none)) = true) (A1p:(c.pinned == c.pinnedBy) = true) (A1q:(c.veiled == (fn.params.toList ++ s.plain.varTypes P ++ fn.resultTypes.toList).any (P.veiledRec ·)) = true) (A1r:c.veiledFits P fn.params.toList (fn.params.toList ++ s.plain.varTypes P ++ fn.resultTypes.toList) = true):joinedFacts P f fn s c = true:=by
 unfold joinedFacts;simp only [A0w,A0x,A0y,A0z,A00,A01,A02,A03,A04,A05,A06,A07,A08,A09,A1a,A1b,A1c,A1d,A1e,A1f,A1g,A1h,A1i,A1j,A1k,A1l,A1m,A1n,A1p,A1q,A1r,Bool.and_true,Bool.true_and];exact A1o
theorem Au3:laidOutB (prog) = true:=by kernel_rfl
theorem Au4:mapsRowed (prog) = true:=by kernel_rfl
theorem Au5:((prog).stops == []) = true:=by kernel_rfl
theorem Au6:((prog).stopKnobs == []) = true:=by kernel_rfl
theorem Au7:(prog).stopsHeard = true:=by kernel_rfl
theorem Au8:(prog).mayEnter = true:=by kernel_rfl
end Go.Proofs.YtjacnhnaoenelaaGreat
