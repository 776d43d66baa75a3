/- The library's contracts of slices.Insert and slices.BinarySearch over []int, laid at this program. No condition. -/
import Derived.Test.YtchdmemgkegefaaSet
import Derived.Shelf.Spec.SlicesInsert
import Derived.Shelf.Spec.SlicesInsertGrow
import Derived.Shelf.Slices.SearchI
import Derived.Shelf.Slices.Empties
namespace Go.Proofs.Ytchdmemgkegefaa
open Go.RowKit

def insRen : Go.Shelf.Ren := ⟨fun | 21 => 54 | 27 => 75 | 28 => 76 | 35 => 88 | 39 => 103 | n => n, fun | 22 => 25 | 3 => 3 | 4 => 4 | 0 => 0 | n => n, fun n => n⟩
def bsRen : Go.Shelf.Ren := ⟨fun | 25 => 53 | 31 => 73 | 32 => 74 | 37 => 87 | n => n, fun | 22 => 25 | 3 => 3 | 4 => 4 | 40 => 37 | 0 => 0 | n => n, fun n => n⟩
theorem insLay : Lays2.n21 Try.prog insRen := {
  mixed := by kernel_rfl
  f21 := Try.func54.trans (congrArg some (by kernel_rfl))
  f27 := Try.func75.trans (congrArg some (by kernel_rfl))
  f28 := Try.func76.trans (congrArg some (by kernel_rfl))
  f35 := Try.func88.trans (congrArg some (by kernel_rfl))
  f39 := Try.func103.trans (congrArg some (by kernel_rfl))
  t0 := Try.underlying0
  a0 := Try.isAgg0
  z0 := Try.sizeOf0
  v0 := Try.zeroValue0
  t3 := Try.underlying3
  a3 := Try.isAgg3
  z3 := Try.sizeOf3
  v3 := Try.zeroValue3
  t4 := Try.underlying4
  a4 := Try.isAgg4
  z4 := Try.sizeOf4
  v4 := Try.zeroValue4
  t22 := Try.underlying25
  a22 := Try.isAgg25
  z22 := Try.sizeOf25
  v22 := Try.zeroValue25
  i3 := by kernel_rfl }
theorem bsLay : Lays2.n25 Try.prog bsRen := {
  mixed := by kernel_rfl
  f25 := Try.func53.trans (congrArg some (by kernel_rfl))
  f31 := Try.func73.trans (congrArg some (by kernel_rfl))
  f32 := Try.func74.trans (congrArg some (by kernel_rfl))
  f37 := Try.func87.trans (congrArg some (by kernel_rfl))
  t0 := Try.underlying0
  a0 := Try.isAgg0
  z0 := Try.sizeOf0
  v0 := Try.zeroValue0
  t3 := Try.underlying3
  a3 := Try.isAgg3
  z3 := Try.sizeOf3
  v3 := Try.zeroValue3
  t4 := Try.underlying4
  a4 := Try.isAgg4
  z4 := Try.sizeOf4
  v4 := Try.zeroValue4
  t22 := Try.underlying25
  a22 := Try.isAgg25
  z22 := Try.sizeOf25
  v22 := Try.zeroValue25
  t40 := Try.underlying37
  a40 := Try.isAgg37
  z40 := Try.sizeOf37
  v40 := Try.zeroValue37 }
end Go.Proofs.Ytchdmemgkegefaa
