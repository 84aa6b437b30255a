import Derived.Test.YtdepknffpnnmmaaGreatJ0a
namespace Go.Proofs.YtdepknffpnnmmaaGreat
open Go.RowKit
set_option linter.unusedVariables false
set_option linter.unusedSimpArgs false
end Go.Proofs.YtdepknffpnnmmaaGreat
