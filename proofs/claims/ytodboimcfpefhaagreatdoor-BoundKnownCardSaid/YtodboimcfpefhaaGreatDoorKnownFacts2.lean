/-
  Closed facts of the row boundKnown: each by one run of the kernel, without a condition.
-/
import Derived.Test.YtodboimcfpefhaaGreatDoorKnownFacts1
namespace Go.Proofs.YtodboimcfpefhaaGreatDoor
open Go
set_option maxRecDepth 100000
theorem knownJ11 : (fun (P : Program) (f : FuncId) (fn : Func) (s : ChangeSpec) (c : OpenClaim) => (P = P ∧ f = f ∧ fn = fn ∧ s = s ∧ c = c) ∧ ((c.recurses == P.recurses f) : Bool) = true) Tryz.prog 3 Tryz.f3 Rows.boundKnownSpec Rows.boundKnownRow := ⟨⟨rfl, rfl, rfl, rfl, rfl⟩, by kernel_rfl⟩
theorem knownJ12 : (fun (P : Program) (f : FuncId) (fn : Func) (s : ChangeSpec) (c : OpenClaim) => (P = P ∧ f = f ∧ fn = fn ∧ s = s ∧ c = c) ∧ ((c.named == P.varsNamed f) : Bool) = true) Tryz.prog 3 Tryz.f3 Rows.boundKnownSpec Rows.boundKnownRow := ⟨⟨rfl, rfl, rfl, rfl, rfl⟩, by kernel_rfl⟩
theorem knownJ2 : (fun (P : Program) (f : FuncId) (fn : Func) (s : ChangeSpec) (c : OpenClaim) => (P = P ∧ f = f ∧ fn = fn ∧ s = s ∧ c = c) ∧ (mapsRowed P : Bool) = true) Tryz.prog 3 Tryz.f3 Rows.boundKnownSpec Rows.boundKnownRow := ⟨⟨rfl, rfl, rfl, rfl, rfl⟩, by kernel_rfl⟩
end Go.Proofs.YtodboimcfpefhaaGreatDoor
