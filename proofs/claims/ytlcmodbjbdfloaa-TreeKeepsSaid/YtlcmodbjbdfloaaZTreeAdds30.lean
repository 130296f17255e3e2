/- Walks: the law's alive, WireLens. -/
import Derived.Test.YtlcmodbjbdfloaaZTreeAdds29
import Derived.Test.YtlcmodbjbdfloaaZTreeAdds05
import Derived.Deep.RegionWith
namespace Go.Proofs.Ytlcmodbjbdfloaa
open Go.RowKit WireM
set_option linter.unusedVariables false
end Go.Proofs.Ytlcmodbjbdfloaa
