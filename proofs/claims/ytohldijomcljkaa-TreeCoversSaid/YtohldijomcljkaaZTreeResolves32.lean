/- Walks: the law's alive, WireLens. -/
import Derived.Test.YtohldijomcljkaaZTreeResolves31
import Derived.Test.YtohldijomcljkaaZTreeResolves05
import Derived.Deep.RegionWith
namespace Go.Proofs.Ytohldijomcljkaa
open Go.RowKit WireM
set_option linter.unusedVariables false
end Go.Proofs.Ytohldijomcljkaa
