/- Walks: the law's alive, WireLens. -/
import Derived.Test.YtohldijomcljkaaGreatZHashSeen29
import Derived.Test.YtohldijomcljkaaGreatZHashSeen05
import Derived.Deep.RegionWith
namespace Go.Proofs.YtohldijomcljkaaGreat
open Go.RowKit WireM
set_option linter.unusedVariables false
end Go.Proofs.YtohldijomcljkaaGreat
