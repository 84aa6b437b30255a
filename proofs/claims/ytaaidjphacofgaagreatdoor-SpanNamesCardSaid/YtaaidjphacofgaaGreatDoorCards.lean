/-
  DERIVED. GIVEN WITH THE SEED: THE CARDS: each row of YtaaidjphacofgaaGreatDoorRows.lean that lists a variable, with what it lists TIED to the program's text (the seventh form; the later family's looks); each row that meets fmt, with fmt's text TOLD by the authors' own Lean function (tested against real Go, not proved from fmt's source: count such statements apart). THE CARD IS WHAT COUNTS. Prove the row's statement (the work); the ties are given (YtaaidjphacofgaaGreatDoorTie.lean); close each card by the builder's one call (the guide's Derived/Test/ToyasCard.lean, 'card_holds'). Laid BY PROGRAM, IN A SANDBOX (cutbox-door.mjs). By AI agents, Wed Nov 11 2026. No macro, syntax, notation, axiom, sorry.
-/
import Derived.Test.YtaaidjphacofgaaGreatDoorRows
import GoSem.ClaimSeven
namespace Go.Proofs.YtaaidjphacofgaaGreatDoor
namespace Rows

/-- THE TIED CARD OF 'warrantlaw06.SpanNames'. -/
def spanNamesCard : Claim7 := { stood := { row := spanNamesRow, standIns := [], harness := (true, "86f01d061a9a2f22a25b2fc470a869667096cd510026a325329df9850d2b4356"), looks := true }, kinds := [], alts := [], laidByText := true, laidKinds := [.data, .data, .data, .data, .data, .data, .data], laidTests := true, laidLooks := .later }
def SpanNamesCardSaid : Prop := Claim7.holds Tryz.pinned (.plain (OpenSpec.ofChange spanNamesSpec)) spanNamesCard

/-- THE SECOND FORM's CARD OF 'warrantlaw06.SpanNames'. -/
def spanNamesUptoCard : Claim7 := { stood := { row := spanNamesUptoRow, standIns := [], harness := (true, "86f01d061a9a2f22a25b2fc470a869667096cd510026a325329df9850d2b4356"), looks := true }, kinds := [], alts := [], laidByText := true, laidKinds := [.data, .data, .data, .data, .data, .data, .data], laidTests := true, laidLooks := .later }
def SpanNamesUptoCardSaid : Prop := Claim7.holds Tryz.pinned (.plain (OpenSpec.upto spanNamesSpec)) spanNamesUptoCard
end Rows
end Go.Proofs.YtaaidjphacofgaaGreatDoor
