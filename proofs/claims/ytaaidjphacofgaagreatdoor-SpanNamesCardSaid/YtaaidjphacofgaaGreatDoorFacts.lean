/-
  The closed facts of a row, one by one.
-/
import Derived.Test.YtaaidjphacofgaaGreatDoorBytes
import Derived.OpenShut
namespace Go.Proofs.YtaaidjphacofgaaGreatDoor
open Go.ChangeShapes Go.WideShapes Go.ChangeAt Go.RowKit
set_option linter.unusedVariables false
set_option linter.unusedSimpArgs false

theorem closed_of {P : Program} {f : FuncId} {fn : Func} {s : ChangeSpec} {c : OpenClaim} (h_wf : c.wf (OpenSpec.ofChange s) = true) (h_lo : laidOutB P = true) (h_mr : mapsRowed P = true) (h_rd : fn.params.all (P.readableRec ·) = true) (h_nt : namedTie P c.named s.vars = true) (h_s1 : (c.stops == []) = true) (h_s2 : (P.stops == []) = true) (h_k1 : (c.knobs == []) = true) (h_k2 : (P.stopKnobs == []) = true) (h_ip : (c.inPlace == P.inPlace f) = true) (h_uf : (c.unfollowed == P.unfollowed f) = true) (h_rc : (c.recurses == P.recurses f) = true) (h_nm : (c.named == P.varsNamed f) = true) (h_mp : (c.maps == (fn.params.toList ++ s.plain.varTypes P).any (P.mapsRec ·)) = true) (h_if : (c.ifaces == (fn.params.toList ++ s.plain.varTypes P).any (P.ifacesRec ·)) = true) (h_mo : (c.mapsOut == P.mapsAmong fn.resultTypes.toList) = true) (h_lp : (c.loops == (fn.params.toList ++ s.plain.varTypes P).any (P.loopsFrom ·)) = true) (h_wk : (c.wideKeys == (fn.params.toList ++ s.plain.varTypes P ++ fn.resultTypes.toList).any (P.wideKeysFrom ·)) = true) (h_vr : s.vars.all (P.varReadable ·) = true) (h_rr : fn.resultTypes.all (fun t => P.readableRec t && decide (t < P.types.size)) = true) (h_io : (c.ifacesOut == fn.resultTypes.toList.any (P.ifacesRec ·)) = true) (h_ol : (c.loopsOut == fn.resultTypes.toList.any (P.loopsFrom ·)) = true) (h_pk : (c.plainKeys == P.plainKeys) = true) (h_st : c.shortTexts.isNone = true) (h_sh : P.stopsHeard = true) (h_me : P.mayEnter = true) (h_lf : (c.lifted == P.liftsFinal) = true) (h_mk : (P.make == some c.make) = true) (h_kd : (c.kinds == (if c.domain.isEmpty then [] else fn.params.toList.map fun t => match P.underlying t with | some (.int k) => some k | _ => none)) = true) (h_pn : (c.pinned == c.pinnedBy) = true) (h_vl : (c.veiled == (fn.params.toList ++ s.plain.varTypes P ++ fn.resultTypes.toList).any (P.veiledRec ·)) = true) (h_vf : c.veiledFits P fn.params.toList (fn.params.toList ++ s.plain.varTypes P ++ fn.resultTypes.toList) = true) : joinedFacts P f fn s c = true := by
  unfold joinedFacts
  simp only [h_wf, h_lo, h_mr, h_rd, h_nt, h_s1, h_s2, h_k1, h_k2, h_ip, h_uf, h_rc, h_nm, h_mp, h_if, h_mo, h_lp, h_wk, h_vr, h_rr, h_io, h_ol, h_pk, h_st, h_sh, h_me, h_lf, h_mk, h_pn, h_vl, h_vf, Bool.and_true, Bool.true_and]
  exact h_kd
theorem fact_lo : laidOutB (Tryz.prog) = true := by kernel_rfl
theorem fact_mr : mapsRowed (Tryz.prog) = true := by kernel_rfl
theorem fact_s2 : ((Tryz.prog).stops == []) = true := by kernel_rfl
theorem fact_k2 : ((Tryz.prog).stopKnobs == []) = true := by kernel_rfl
theorem fact_sh : (Tryz.prog).stopsHeard = true := by kernel_rfl
theorem fact_me : (Tryz.prog).mayEnter = true := by kernel_rfl
end Go.Proofs.YtaaidjphacofgaaGreatDoor
