import Derived.Test.YtfofaiommeckbaaGreatRows
import Derived.Test.YtfofaiommeckbaaGreatZTr01
set_option linter.unusedVariables false
set_option maxRecDepth 100000
set_option maxHeartbeats 40000000
namespace Go.Proofs.YtfofaiommeckbaaGreat.sliceTrue
open Go.ChangeShapes Go.WideShapes Go.ChangeAt Go.RowKit
theorem j0:(Rows.sliceTrueRow.inPlace==Tryz.pinned.checked.prog.inPlace 10)=true:=by kernel_rfl
theorem j1:(Rows.sliceTrueRow.unfollowed==Tryz.pinned.checked.prog.unfollowed 10)=true:=by kernel_rfl
theorem j2:(Rows.sliceTrueRow.recurses==Tryz.pinned.checked.prog.recurses 10)=true:=by kernel_rfl
theorem j3:(Rows.sliceTrueRow.named==Tryz.pinned.checked.prog.varsNamed 10)=true:=by kernel_rfl
theorem closed:joinedFacts Tryz.pinned.checked.prog 10 Tryz.f10 Rows.sliceTrueSpec Rows.sliceTrueRow=true:=by
 unfold joinedFacts;rw[j0,j1,j2,j3]
 kernel_rfl
end Go.Proofs.YtfofaiommeckbaaGreat.sliceTrue
