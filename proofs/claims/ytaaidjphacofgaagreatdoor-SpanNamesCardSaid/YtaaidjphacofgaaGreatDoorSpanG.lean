/-
  Spans: the reference's Has, wide.
-/
import Derived.Test.YtaaidjphacofgaaGreatDoorSpanF
namespace Go.Proofs.YtaaidjphacofgaaGreatDoor
open Go.RowKit
set_option linter.unusedVariables false

/-- A whole number of 64 bits as one of 128. -/
def mag (v : Int) : Int := if v < 0 then -v else v
def wd (v : Int) : Value := .agg #[.bool (decide (v < 0)), .int .u32 (mag v % 4294967296), .int .u32 (mag v / 4294967296), .int .u32 0, .int .u32 0]
end Go.Proofs.YtaaidjphacofgaaGreatDoor
