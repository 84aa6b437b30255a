import Derived.Test.YtjacnhnaoenelaaGreatQJ0a
namespace Go.Proofs.YtjacnhnaoenelaaGreat
open Go.RowKit
set_option linter.unusedVariables false
set_option linter.unusedSimpArgs false
end Go.Proofs.YtjacnhnaoenelaaGreat
