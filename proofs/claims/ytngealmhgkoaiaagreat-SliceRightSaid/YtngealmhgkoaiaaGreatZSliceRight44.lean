/- Walks: the reference's Right of trees. -/
import Derived.Test.YtngealmhgkoaiaaGreatZSliceRightB
import Derived.Test.YtngealmhgkoaiaaGreatZSliceRight25
import Derived.Test.YtngealmhgkoaiaaGreatZSliceRight08
set_option linter.unusedVariables false
set_option maxRecDepth 100000
set_option maxHeartbeats 40000000
namespace Go.Proofs.YtngealmhgkoaiaaGreat
open Go.RowKit WalkM
end Go.Proofs.YtngealmhgkoaiaaGreat
