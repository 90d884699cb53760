/-
  If the evaluator finds the call of plumbob/plumboblaw24.BoundKnown true, then the row's statement holds.
-/
import Derived.Test.YtodboimcfpefhaaGreatDoorKnownLift
import Derived.Test.YtodboimcfpefhaaGreatDoorKnownFacts3
namespace Go.Proofs.YtodboimcfpefhaaGreatDoor
open Go Go.ChangeShapes Go.WideShapes Go.ChangeAt Go.RowKit
set_option maxRecDepth 100000

theorem known_row {L : Go.AE.Lv} (hLv : Go.AE.LvOk Tryz.prog L) (hk : L.call 3 [] none (Go.AE.tabHeap .u8 Go.AE.deBruijn) Go.AE.start Go.AE.saysTrue) : Rows.BoundKnownSaid :=
  OpenClaim.holds_of_wide 3 Tryz.f3 rfl rfl rfl rfl rfl rfl rfl ⟨rfl, rfl, rfl, rfl, rfl⟩ rfl rfl rfl rfl rfl (by kernel_rfl) Tryz.func3 knownClosed
    (of_decide_eq_true (by kernel_rfl)) (by unfold Func.isWrapper; first | (rw [if_pos (by decide +kernel)]; kernel_rfl) | (rw [if_neg (by decide +kernel)]; exact ⟨rfl, rfl⟩))
    (fun os started H enc _ => known_lifted hLv hk os started H enc)

end Go.Proofs.YtodboimcfpefhaaGreatDoor
