/- The facts of the row of PatchMakes that the kernel computes, one by one. -/
import Derived.Test.YtfofaiommeckbaaGreatZPatchMakesB
import Derived.Test.YtfofaiommeckbaaGreatRows
import Derived.Test.YtfofaiommeckbaaGreatZPatchMakes03
set_option linter.unusedVariables false
set_option maxRecDepth 100000
set_option maxHeartbeats 40000000
namespace Go.Proofs.YtfofaiommeckbaaGreat.patchMakes
open Go.ChangeShapes Go.WideShapes Go.ChangeAt Go.RowKit
theorem j0:(Rows.patchMakesRow.inPlace==Tryz.pinned.checked.prog.inPlace 3)=true:=by kernel_rfl
theorem j1:(Rows.patchMakesRow.unfollowed==Tryz.pinned.checked.prog.unfollowed 3)=true:=by kernel_rfl
theorem j2:(Rows.patchMakesRow.recurses==Tryz.pinned.checked.prog.recurses 3)=true:=by kernel_rfl
theorem j3:(Rows.patchMakesRow.named==Tryz.pinned.checked.prog.varsNamed 3)=true:=by kernel_rfl
theorem closed:joinedFacts Tryz.pinned.checked.prog 3 Tryz.f3 Rows.patchMakesSpec Rows.patchMakesRow=true:=by
 unfold joinedFacts;rw[j0,j1,j2,j3]
 kernel_rfl
end Go.Proofs.YtfofaiommeckbaaGreat.patchMakes
