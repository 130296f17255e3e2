/- The facts of the row of SliceCuts that the kernel computes, one by one. -/
import Derived.Test.YtngealmhgkoaiaaGreatZSliceCutsB
import Derived.Test.YtngealmhgkoaiaaGreatRows
import Derived.Test.YtngealmhgkoaiaaGreatZSliceCuts03
set_option linter.unusedVariables false
set_option maxRecDepth 100000
set_option maxHeartbeats 40000000
namespace Go.Proofs.YtngealmhgkoaiaaGreat.sliceCuts
open Go.ChangeShapes Go.WideShapes Go.ChangeAt Go.RowKit
theorem j0 : (Rows.sliceCutsRow.inPlace == Tryz.pinned.checked.prog.inPlace 5) = true := by kernel_rfl
theorem j1 : (Rows.sliceCutsRow.unfollowed == Tryz.pinned.checked.prog.unfollowed 5) = true := by kernel_rfl
theorem j2 : (Rows.sliceCutsRow.recurses == Tryz.pinned.checked.prog.recurses 5) = true := by kernel_rfl
theorem j3 : (Rows.sliceCutsRow.named == Tryz.pinned.checked.prog.varsNamed 5) = true := by kernel_rfl
theorem closed : joinedFacts Tryz.pinned.checked.prog 5 Tryz.f5 Rows.sliceCutsSpec Rows.sliceCutsRow = true := by
 unfold joinedFacts; rw [j0, j1, j2, j3]
 kernel_rfl
end Go.Proofs.YtngealmhgkoaiaaGreat.sliceCuts
