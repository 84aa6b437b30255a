/-
  Spans: the reference's Bytes.
-/
import Derived.Test.YtcmplcdbkoodpaaGreatDoorSpanM
namespace Go.Proofs.YtcmplcdbkoodpaaGreatDoor
open Go.RowKit
set_option linter.unusedVariables false

end Go.Proofs.YtcmplcdbkoodpaaGreatDoor
