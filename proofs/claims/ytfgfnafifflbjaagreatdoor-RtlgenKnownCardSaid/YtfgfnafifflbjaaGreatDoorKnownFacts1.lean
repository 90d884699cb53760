/-
  Closed facts of the row rtlgenKnown: each by one run of the kernel, without a condition.
-/
import Derived.Test.YtfgfnafifflbjaaGreatDoorRows
import Derived.JoinedOf
import Derived.KernelRfl
namespace Go.Proofs.YtfgfnafifflbjaaGreatDoor
open Go
set_option maxRecDepth 100000
theorem knownJ1 : (fun (P : Program) (f : FuncId) (fn : Func) (s : ChangeSpec) (c : OpenClaim) => (P = P ∧ f = f ∧ fn = fn ∧ s = s ∧ c = c) ∧ (laidOutB P : Bool) = true) Tryz.prog 3 Tryz.f3 Rows.rtlgenKnownSpec Rows.rtlgenKnownRow := ⟨⟨rfl, rfl, rfl, rfl, rfl⟩, by kernel_rfl⟩
theorem knownJ9 : (fun (P : Program) (f : FuncId) (fn : Func) (s : ChangeSpec) (c : OpenClaim) => (P = P ∧ f = f ∧ fn = fn ∧ s = s ∧ c = c) ∧ ((c.inPlace == P.inPlace f) : Bool) = true) Tryz.prog 3 Tryz.f3 Rows.rtlgenKnownSpec Rows.rtlgenKnownRow := ⟨⟨rfl, rfl, rfl, rfl, rfl⟩, by kernel_rfl⟩
theorem knownJ10 : (fun (P : Program) (f : FuncId) (fn : Func) (s : ChangeSpec) (c : OpenClaim) => (P = P ∧ f = f ∧ fn = fn ∧ s = s ∧ c = c) ∧ ((c.unfollowed == P.unfollowed f) : Bool) = true) Tryz.prog 3 Tryz.f3 Rows.rtlgenKnownSpec Rows.rtlgenKnownRow := ⟨⟨rfl, rfl, rfl, rfl, rfl⟩, by kernel_rfl⟩
end Go.Proofs.YtfgfnafifflbjaaGreatDoor
