/- The facts of the row of SliceRight that the kernel computes, one by one. -/
import Derived.Test.YtngealmhgkoaiaaGreatZSliceRightB
import Derived.Test.YtngealmhgkoaiaaGreatRows
import Derived.Test.YtngealmhgkoaiaaGreatZSliceRight03
set_option linter.unusedVariables false
set_option maxRecDepth 100000
set_option maxHeartbeats 40000000
namespace Go.Proofs.YtngealmhgkoaiaaGreat.sliceRight
open Go.ChangeShapes Go.WideShapes Go.ChangeAt Go.RowKit
theorem j0 : (Rows.sliceRightRow.inPlace == Tryz.pinned.checked.prog.inPlace 6) = true := by kernel_rfl
theorem j1 : (Rows.sliceRightRow.unfollowed == Tryz.pinned.checked.prog.unfollowed 6) = true := by kernel_rfl
theorem j2 : (Rows.sliceRightRow.recurses == Tryz.pinned.checked.prog.recurses 6) = true := by kernel_rfl
theorem j3 : (Rows.sliceRightRow.named == Tryz.pinned.checked.prog.varsNamed 6) = true := by kernel_rfl
theorem closed : joinedFacts Tryz.pinned.checked.prog 6 Tryz.f6 Rows.sliceRightSpec Rows.sliceRightRow = true := by
 unfold joinedFacts; rw [j0, j1, j2, j3]
 kernel_rfl
end Go.Proofs.YtngealmhgkoaiaaGreat.sliceRight
