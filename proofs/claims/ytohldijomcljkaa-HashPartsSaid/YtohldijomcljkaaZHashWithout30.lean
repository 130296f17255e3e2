/- Walks: the law's alive, WireLens. -/
import Derived.Test.YtohldijomcljkaaZHashWithout29
import Derived.Test.YtohldijomcljkaaZHashWithout05
import Derived.Deep.RegionWith
namespace Go.Proofs.Ytohldijomcljkaa
open Go.RowKit WireM
set_option linter.unusedVariables false
end Go.Proofs.Ytohldijomcljkaa
