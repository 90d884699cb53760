/-
  If the evaluator finds the call of RtlgenKnown true, then whatever the memory, it returns true and leaves all as it was.
-/
import Derived.Test.YtfgfnafifflbjaaGreatDoorAe8
import Derived.Test.YtfgfnafifflbjaaGreatDoorRows
import Derived.ProofKit
import Derived.OpenShut
import Derived.LaidMore
import Derived.Lay
namespace Go.Proofs.YtfgfnafifflbjaaGreatDoor
open Go Go.ChangeShapes Go.WideShapes Go.ChangeAt Go.RowKit

set_option maxRecDepth 100000
theorem ownKnob0 : ownKnob Tryz.prog.godebug = none := by kernel_rfl
theorem level_ok (n : Nat) : Go.AE.LvOk Tryz.prog (Go.AE.lv Tryz.prog n) :=
  Go.AE.lv_ok (Go.AE.draw_ok (by kernel_rfl)) Go.AE.range_ok (Go.AE.ext_ok (by kernel_rfl)) n
theorem known_calls {L : Go.AE.Lv} (hL : Go.AE.LvOk Tryz.prog L) (hk : L.call 3 [] none .lf Go.AE.start Go.AE.saysTrue) (W : World) : Calls Tryz.prog 3 #[] W fun e w' => e = .returned (.bool true) ∧ Below W.heap.size W w' :=
  Go.AE.calls_true hL Tryz.func3 (by kernel_rfl) (by kernel_rfl) hk W

theorem known_lifted {L : Go.AE.Lv} (hLv : Go.AE.LvOk Tryz.prog L) (hk : L.call 3 [] none .lf Go.AE.start Go.AE.saysTrue) (os : Os) (started : os.Started) (H : Type) (enc : TypeId × Value → H) :
    ReturnsInHanded {} Tryz.checked os 3 .any (fun w args => (Rows.rtlgenKnownSpec.pre enc Tryz.prog Tryz.f3 Rows.rtlgenKnownRow.domain false w args ∧ laidMetH Tryz.prog Rows.rtlgenKnownRow.laid w) ∧ sizedMet enc Tryz.prog Tryz.f3 (OpenSpec.ofChange Rows.rtlgenKnownSpec) false w args)
      (Rows.rtlgenKnownSpec.post enc Tryz.prog Tryz.f3 false true false false) := by
  refine returnsInHanded_of_change_and (C := Tryz.checked) (X := fun w _ => laidMetH Tryz.prog Rows.rtlgenKnownRow.laid w) (fun _ _ _ hh h => h.of_heap hh) ownKnob0 started (by kernel_rfl) Tryz.func3
    (ChangeSpec.witness_shaped (enc := enc) (C := Tryz.checked) (os := os) (X := fun w _ => laidMetH Tryz.prog Rows.rtlgenKnownRow.laid w) false (World.laidAll Tryz.prog os Rows.rtlgenKnownRow.laid) #[] 8 (World.laidAll_os _ _ _)
      (World.shaped_of_ZipB (by kernel_rfl) (by kernel_rfl)) (by kernel_rfl) (by kernel_rfl) (by kernel_rfl)
      (by rw [MakeChecks.laidMetH_plain _ _ _ (by kernel_rfl)]; exact laidMet_laidAll _ (by kernel_rfl) (by kernel_rfl))) ?_
  intro W base args ds gs before hval0 hW _ _ hL _
  have hW' := hW
  obtain ⟨p, q, hA0, hV, rfl, _, _⟩ := hW
  have hA : DataW.TrodAll enc Tryz.prog W 0 (fun _ => true) true Tryz.f3.params.toList args.toList ds p := hA0
  rw [Tryz.params3] at hA
  obtain ⟨hargs, rfl, rfl⟩ := trodAll_nil hA
  have hargs' : args = #[] := by apply Array.ext'; simpa using hargs
  subst hargs'
  obtain ⟨rfl, rfl⟩ := trodVars_none hV
  simp only [List.append_nil] at hW'
  refine (known_calls hLv hk W).mono fun e W' ⟨he, hb⟩ => ?_
  subst he
  exact ⟨_, rfl, _, _, _, [], [], [], hW', trodAll_mk1 (shut_bool Tryz.underlying4 _), rfl, rfl, hb.frame _, fun h => by cases h⟩

end Go.Proofs.YtfgfnafifflbjaaGreatDoor
