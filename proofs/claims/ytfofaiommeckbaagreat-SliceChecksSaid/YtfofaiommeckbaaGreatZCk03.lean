import Derived.Test.YtfofaiommeckbaaGreatRows
import Derived.Test.YtfofaiommeckbaaGreatZCk02
set_option linter.unusedVariables false
set_option maxRecDepth 100000
set_option maxHeartbeats 40000000
namespace Go.Proofs.YtfofaiommeckbaaGreat.sliceChecks
open Go.ChangeShapes Go.WideShapes Go.ChangeAt Go.RowKit
theorem j0:(Rows.sliceChecksRow.inPlace==Tryz.pinned.checked.prog.inPlace 5)=true:=by kernel_rfl
theorem j1:(Rows.sliceChecksRow.unfollowed==Tryz.pinned.checked.prog.unfollowed 5)=true:=by kernel_rfl
theorem j2:(Rows.sliceChecksRow.recurses==Tryz.pinned.checked.prog.recurses 5)=true:=by kernel_rfl
theorem j3:(Rows.sliceChecksRow.named==Tryz.pinned.checked.prog.varsNamed 5)=true:=by kernel_rfl
theorem closed:joinedFacts Tryz.pinned.checked.prog 5 Tryz.f5 Rows.sliceChecksSpec Rows.sliceChecksRow=true:=by
 unfold joinedFacts;rw[j0,j1,j2,j3]
 kernel_rfl
end Go.Proofs.YtfofaiommeckbaaGreat.sliceChecks
