/-
  The evaluator finds the call of RtlgenKnown true: one run of the kernel, no condition.
-/
import Derived.Test.YtfgfnafifflbjaaGreatDoorAe8
import Derived.Test.YtfgfnafifflbjaaGreatDoorProg
set_option maxRecDepth 100000000
namespace Go.Proofs.YtfgfnafifflbjaaGreatDoor
theorem known_eq : (Go.AE.lv Tryz.prog 1000000).call 3 [] none .lf Go.AE.start Go.AE.saysTrue = True := by kernel_rfl
end Go.Proofs.YtfgfnafifflbjaaGreatDoor
