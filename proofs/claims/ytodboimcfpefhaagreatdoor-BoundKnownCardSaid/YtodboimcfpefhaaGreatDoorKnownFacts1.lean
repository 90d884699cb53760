/-
  Closed facts of the row boundKnown: each by one run of the kernel, without a condition.
-/
import Derived.Test.YtodboimcfpefhaaGreatDoorRows
import Derived.JoinedOf
import Derived.KernelRfl
namespace Go.Proofs.YtodboimcfpefhaaGreatDoor
open Go
set_option maxRecDepth 100000
theorem knownJ1 : (fun (P : Program) (f : FuncId) (fn : Func) (s : ChangeSpec) (c : OpenClaim) => (P = P ∧ f = f ∧ fn = fn ∧ s = s ∧ c = c) ∧ (laidOutB P : Bool) = true) Tryz.prog 3 Tryz.f3 Rows.boundKnownSpec Rows.boundKnownRow := ⟨⟨rfl, rfl, rfl, rfl, rfl⟩, by kernel_rfl⟩
theorem knownJ9 : (fun (P : Program) (f : FuncId) (fn : Func) (s : ChangeSpec) (c : OpenClaim) => (P = P ∧ f = f ∧ fn = fn ∧ s = s ∧ c = c) ∧ ((c.inPlace == P.inPlace f) : Bool) = true) Tryz.prog 3 Tryz.f3 Rows.boundKnownSpec Rows.boundKnownRow := ⟨⟨rfl, rfl, rfl, rfl, rfl⟩, by kernel_rfl⟩
theorem knownJ10 : (fun (P : Program) (f : FuncId) (fn : Func) (s : ChangeSpec) (c : OpenClaim) => (P = P ∧ f = f ∧ fn = fn ∧ s = s ∧ c = c) ∧ ((c.unfollowed == P.unfollowed f) : Bool) = true) Tryz.prog 3 Tryz.f3 Rows.boundKnownSpec Rows.boundKnownRow := ⟨⟨rfl, rfl, rfl, rfl, rfl⟩, by kernel_rfl⟩
end Go.Proofs.YtodboimcfpefhaaGreatDoor
