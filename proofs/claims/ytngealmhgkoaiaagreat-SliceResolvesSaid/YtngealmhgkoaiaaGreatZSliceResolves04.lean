/- The facts of the row of SliceResolves that the kernel computes, one by one. -/
import Derived.Test.YtngealmhgkoaiaaGreatZSliceResolvesB
import Derived.Test.YtngealmhgkoaiaaGreatRows
import Derived.Test.YtngealmhgkoaiaaGreatZSliceResolves03
set_option linter.unusedVariables false
set_option maxRecDepth 100000
set_option maxHeartbeats 40000000
namespace Go.Proofs.YtngealmhgkoaiaaGreat.sliceResolves
open Go.ChangeShapes Go.WideShapes Go.ChangeAt Go.RowKit
theorem j0:(Rows.sliceResolvesRow.inPlace==Tryz.pinned.checked.prog.inPlace 7)=true:=by kernel_rfl
theorem j1:(Rows.sliceResolvesRow.unfollowed==Tryz.pinned.checked.prog.unfollowed 7)=true:=by kernel_rfl
theorem j2:(Rows.sliceResolvesRow.recurses==Tryz.pinned.checked.prog.recurses 7)=true:=by kernel_rfl
theorem j3:(Rows.sliceResolvesRow.named==Tryz.pinned.checked.prog.varsNamed 7)=true:=by kernel_rfl
theorem closed:joinedFacts Tryz.pinned.checked.prog 7 Tryz.f7 Rows.sliceResolvesSpec Rows.sliceResolvesRow=true:=by
 unfold joinedFacts;rw[j0,j1,j2,j3]
 kernel_rfl
end Go.Proofs.YtngealmhgkoaiaaGreat.sliceResolves
