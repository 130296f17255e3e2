/- The library's slices.Insert at []int: the kit's proved roads, laid at this program. -/
import Derived.Shelf.Spec.SlicesInsert
import Derived.Shelf.Spec.SlicesInsertGrow
import Derived.Test.YtlcmodbjbdfloaaZTreeAdds17
namespace Go.Proofs.Ytlcmodbjbdfloaa
open Go.RowKit WireM
set_option linter.unusedVariables false
def insRen : Go.Shelf.Ren := ⟨fun | 21 => 36 | 27 => 62 | 28 => 63 | 35 => 85 | 39 => 95 | n => n, fun | 0 => 0 | 3 => 3 | 4 => 4 | 22 => 41 | n => n, fun n => n⟩
theorem insLay : Lays2.n21 Try.prog insRen := {
  mixed := by kernel_rfl
  f21 := Try.func36.trans (congrArg some (by kernel_rfl))
  f27 := Try.func62.trans (congrArg some (by kernel_rfl))
  f28 := Try.func63.trans (congrArg some (by kernel_rfl))
  f35 := Try.func85.trans (congrArg some (by kernel_rfl))
  f39 := Try.func95.trans (congrArg some (by kernel_rfl))
  t0 := Try.underlying0
  a0 := Try.isAgg0
  z0 := Try.sizeOf0
  v0 := Try.zeroValue0
  t3 := Try.underlying3
  a3 := Try.isAgg3
  z3 := Try.sizeOf3
  v3 := Try.zeroValue3
  t4 := Try.underlying4
  a4 := Try.isAgg4
  z4 := Try.sizeOf4
  v4 := Try.zeroValue4
  t22 := Try.underlying41
  a22 := Try.isAgg41
  z22 := Try.sizeOf41
  v22 := Try.zeroValue41
  i3 := by kernel_rfl }
end Go.Proofs.Ytlcmodbjbdfloaa
