/-
  An instruction's cells.
-/
import Derived.Test.YtbkcpepalicbjaaGreatBase
namespace Go.Proofs.YtbkcpepalicbjaaGreat
open Go.RowKit
def insc (op : Int) (nar reg : Bool) (size dst src off imm : Int) : List Value := [.int .i64 op, .bool nar, .bool reg, .int .i64 size, .int .i64 dst, .int .i64 src, .int .i64 off, .int .i64 imm]
end Go.Proofs.YtbkcpepalicbjaaGreat
