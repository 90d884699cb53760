/-
  The evaluator finds the call of plumbob/plumboblaw24.BoundKnown true: one run of the kernel, no condition.
-/
import Derived.Test.YtodboimcfpefhaaGreatDoorKnownTab
import Derived.Test.YtodboimcfpefhaaGreatDoorProg
namespace Go.Proofs.YtodboimcfpefhaaGreatDoor
open Go
set_option maxRecDepth 100000000

theorem known_eq : (Go.AE.lv Tryz.prog 1000000).call 3 [] none (Go.AE.tabHeap .u8 Go.AE.deBruijn) Go.AE.start Go.AE.saysTrue = True := by kernel_rfl

end Go.Proofs.YtodboimcfpefhaaGreatDoor
