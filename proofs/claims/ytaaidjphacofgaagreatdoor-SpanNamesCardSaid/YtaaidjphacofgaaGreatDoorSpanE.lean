/-
  Spans: the reference's Sound, read, ends, Has, wide.
-/
import Derived.Test.YtaaidjphacofgaaGreatDoorSpanD
namespace Go.Proofs.YtaaidjphacofgaaGreatDoor
open Go.RowKit
set_option linter.unusedVariables false

end Go.Proofs.YtaaidjphacofgaaGreatDoor
