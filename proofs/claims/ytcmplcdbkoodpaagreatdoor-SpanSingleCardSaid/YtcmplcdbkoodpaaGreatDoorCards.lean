/-
  DERIVED. GIVEN WITH THE SEED: THE CARDS: each row of YtcmplcdbkoodpaaGreatDoorRows.lean that lists a variable, with what it lists TIED to the program's text (the seventh form; the later family's looks); each row that meets fmt, with fmt's text TOLD by the authors' own Lean function (tested against real Go, not proved from fmt's source: count such statements apart). THE CARD IS WHAT COUNTS. Prove the row's statement (the work); the ties are given (YtcmplcdbkoodpaaGreatDoorTie.lean); close each card by the builder's one call (the guide's Derived/Test/ToyasCard.lean, 'card_holds'). Laid BY PROGRAM, IN A SANDBOX (cutbox-door.mjs). By AI agents, Wed Nov 11 2026. No macro, syntax, notation, axiom, sorry.
-/
import Derived.Test.YtcmplcdbkoodpaaGreatDoorRows
import GoSem.ClaimSeven
namespace Go.Proofs.YtcmplcdbkoodpaaGreatDoor
namespace Rows

/-- THE TIED CARD OF 'warrantlaw06.SpanAlus'. -/
def spanAlusCard : Claim7 := { stood := { row := spanAlusRow, standIns := [], harness := (true, "421c6c30c5e36aae43ef0117979071bdf79da69c9e7e7cccb8b77e34e6608f17"), looks := true }, kinds := [], alts := [], laidByText := true, laidKinds := [.data, .data, .data, .data, .data, .data, .data], laidTests := true, laidLooks := .later }
def SpanAlusCardSaid : Prop := Claim7.holds Tryz.pinned (.plain (OpenSpec.ofChange spanAlusSpec)) spanAlusCard

/-- THE TIED CARD OF 'warrantlaw06.SpanSingle'. -/
def spanSingleCard : Claim7 := { stood := { row := spanSingleRow, standIns := [], harness := (true, "421c6c30c5e36aae43ef0117979071bdf79da69c9e7e7cccb8b77e34e6608f17"), looks := true }, kinds := [], alts := [], laidByText := true, laidKinds := [.data, .data, .data, .data, .data, .data, .data], laidTests := true, laidLooks := .later }
def SpanSingleCardSaid : Prop := Claim7.holds Tryz.pinned (.plain (OpenSpec.ofChange spanSingleSpec)) spanSingleCard

/-- THE TIED CARD OF 'warrantlaw06.SpanZeros'. -/
def spanZerosCard : Claim7 := { stood := { row := spanZerosRow, standIns := [], harness := (true, "421c6c30c5e36aae43ef0117979071bdf79da69c9e7e7cccb8b77e34e6608f17"), looks := true }, kinds := [], alts := [], laidByText := true, laidKinds := [.data, .data, .data, .data, .data, .data, .data], laidTests := true, laidLooks := .later }
def SpanZerosCardSaid : Prop := Claim7.holds Tryz.pinned (.plain (OpenSpec.ofChange spanZerosSpec)) spanZerosCard

/-- THE TIED CARD OF 'warrantlaw06.SpanLoads'. -/
def spanLoadsCard : Claim7 := { stood := { row := spanLoadsRow, standIns := [], harness := (true, "421c6c30c5e36aae43ef0117979071bdf79da69c9e7e7cccb8b77e34e6608f17"), looks := true }, kinds := [], alts := [], laidByText := true, laidKinds := [.data, .data, .data, .data, .data, .data, .data], laidTests := true, laidLooks := .later }
def SpanLoadsCardSaid : Prop := Claim7.holds Tryz.pinned (.plain (OpenSpec.ofChange spanLoadsSpec)) spanLoadsCard

/-- THE TIED CARD OF 'warrantlaw06.SpanTurns'. -/
def spanTurnsCard : Claim7 := { stood := { row := spanTurnsRow, standIns := [], harness := (true, "421c6c30c5e36aae43ef0117979071bdf79da69c9e7e7cccb8b77e34e6608f17"), looks := true }, kinds := [], alts := [], laidByText := true, laidKinds := [.data, .data, .data, .data, .data, .data, .data], laidTests := true, laidLooks := .later }
def SpanTurnsCardSaid : Prop := Claim7.holds Tryz.pinned (.plain (OpenSpec.ofChange spanTurnsSpec)) spanTurnsCard

/-- THE TIED CARD OF 'warrantlaw06.SpanTurned'. -/
def spanTurnedCard : Claim7 := { stood := { row := spanTurnedRow, standIns := [], harness := (true, "421c6c30c5e36aae43ef0117979071bdf79da69c9e7e7cccb8b77e34e6608f17"), looks := true }, kinds := [], alts := [], laidByText := true, laidKinds := [.data, .data, .data, .data, .data, .data, .data], laidTests := true, laidLooks := .later }
def SpanTurnedCardSaid : Prop := Claim7.holds Tryz.pinned (.plain (OpenSpec.ofChange spanTurnedSpec)) spanTurnedCard

/-- THE TIED CARD OF 'warrantlaw06.SpanNames'. -/
def spanNamesCard : Claim7 := { stood := { row := spanNamesRow, standIns := [], harness := (true, "421c6c30c5e36aae43ef0117979071bdf79da69c9e7e7cccb8b77e34e6608f17"), looks := true }, kinds := [], alts := [], laidByText := true, laidKinds := [.data, .data, .data, .data, .data, .data, .data], laidTests := true, laidLooks := .later }
def SpanNamesCardSaid : Prop := Claim7.holds Tryz.pinned (.plain (OpenSpec.ofChange spanNamesSpec)) spanNamesCard

/-- THE SECOND FORM's CARD OF 'warrantlaw06.SpanAlus'. -/
def spanAlusUptoCard : Claim7 := { stood := { row := spanAlusUptoRow, standIns := [], harness := (true, "421c6c30c5e36aae43ef0117979071bdf79da69c9e7e7cccb8b77e34e6608f17"), looks := true }, kinds := [], alts := [], laidByText := true, laidKinds := [.data, .data, .data, .data, .data, .data, .data], laidTests := true, laidLooks := .later }
def SpanAlusUptoCardSaid : Prop := Claim7.holds Tryz.pinned (.plain (OpenSpec.upto spanAlusSpec)) spanAlusUptoCard

/-- THE SECOND FORM's CARD OF 'warrantlaw06.SpanSingle'. -/
def spanSingleUptoCard : Claim7 := { stood := { row := spanSingleUptoRow, standIns := [], harness := (true, "421c6c30c5e36aae43ef0117979071bdf79da69c9e7e7cccb8b77e34e6608f17"), looks := true }, kinds := [], alts := [], laidByText := true, laidKinds := [.data, .data, .data, .data, .data, .data, .data], laidTests := true, laidLooks := .later }
def SpanSingleUptoCardSaid : Prop := Claim7.holds Tryz.pinned (.plain (OpenSpec.upto spanSingleSpec)) spanSingleUptoCard

/-- THE SECOND FORM's CARD OF 'warrantlaw06.SpanZeros'. -/
def spanZerosUptoCard : Claim7 := { stood := { row := spanZerosUptoRow, standIns := [], harness := (true, "421c6c30c5e36aae43ef0117979071bdf79da69c9e7e7cccb8b77e34e6608f17"), looks := true }, kinds := [], alts := [], laidByText := true, laidKinds := [.data, .data, .data, .data, .data, .data, .data], laidTests := true, laidLooks := .later }
def SpanZerosUptoCardSaid : Prop := Claim7.holds Tryz.pinned (.plain (OpenSpec.upto spanZerosSpec)) spanZerosUptoCard

/-- THE SECOND FORM's CARD OF 'warrantlaw06.SpanLoads'. -/
def spanLoadsUptoCard : Claim7 := { stood := { row := spanLoadsUptoRow, standIns := [], harness := (true, "421c6c30c5e36aae43ef0117979071bdf79da69c9e7e7cccb8b77e34e6608f17"), looks := true }, kinds := [], alts := [], laidByText := true, laidKinds := [.data, .data, .data, .data, .data, .data, .data], laidTests := true, laidLooks := .later }
def SpanLoadsUptoCardSaid : Prop := Claim7.holds Tryz.pinned (.plain (OpenSpec.upto spanLoadsSpec)) spanLoadsUptoCard

/-- THE SECOND FORM's CARD OF 'warrantlaw06.SpanTurns'. -/
def spanTurnsUptoCard : Claim7 := { stood := { row := spanTurnsUptoRow, standIns := [], harness := (true, "421c6c30c5e36aae43ef0117979071bdf79da69c9e7e7cccb8b77e34e6608f17"), looks := true }, kinds := [], alts := [], laidByText := true, laidKinds := [.data, .data, .data, .data, .data, .data, .data], laidTests := true, laidLooks := .later }
def SpanTurnsUptoCardSaid : Prop := Claim7.holds Tryz.pinned (.plain (OpenSpec.upto spanTurnsSpec)) spanTurnsUptoCard

/-- THE SECOND FORM's CARD OF 'warrantlaw06.SpanTurned'. -/
def spanTurnedUptoCard : Claim7 := { stood := { row := spanTurnedUptoRow, standIns := [], harness := (true, "421c6c30c5e36aae43ef0117979071bdf79da69c9e7e7cccb8b77e34e6608f17"), looks := true }, kinds := [], alts := [], laidByText := true, laidKinds := [.data, .data, .data, .data, .data, .data, .data], laidTests := true, laidLooks := .later }
def SpanTurnedUptoCardSaid : Prop := Claim7.holds Tryz.pinned (.plain (OpenSpec.upto spanTurnedSpec)) spanTurnedUptoCard

/-- THE SECOND FORM's CARD OF 'warrantlaw06.SpanNames'. -/
def spanNamesUptoCard : Claim7 := { stood := { row := spanNamesUptoRow, standIns := [], harness := (true, "421c6c30c5e36aae43ef0117979071bdf79da69c9e7e7cccb8b77e34e6608f17"), looks := true }, kinds := [], alts := [], laidByText := true, laidKinds := [.data, .data, .data, .data, .data, .data, .data], laidTests := true, laidLooks := .later }
def SpanNamesUptoCardSaid : Prop := Claim7.holds Tryz.pinned (.plain (OpenSpec.upto spanNamesSpec)) spanNamesUptoCard
end Rows
end Go.Proofs.YtcmplcdbkoodpaaGreatDoor
