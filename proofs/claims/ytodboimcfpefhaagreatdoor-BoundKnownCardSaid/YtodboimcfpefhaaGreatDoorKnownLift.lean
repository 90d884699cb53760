/-
  If the evaluator finds the call of plumbob/plumboblaw24.BoundKnown true, then whatever the memory, it returns true and leaves all as it was.
-/
import Derived.Test.YtodboimcfpefhaaGreatDoorKnownTab
import Derived.Test.YtodboimcfpefhaaGreatDoorRows
import Derived.ProofKit
import Derived.OpenShut
import Derived.LaidMore
import Derived.Lay
import Derived.Lib.LaidTab
import Derived.Stop.LaidErr
namespace Go.Proofs.YtodboimcfpefhaaGreatDoor
open Go Go.ChangeShapes Go.WideShapes Go.ChangeAt Go.RowKit
set_option maxRecDepth 100000

theorem ownKnob0 : ownKnob Tryz.prog.godebug = none := by kernel_rfl
theorem level_ok (n : Nat) : Go.AE.LvOk Tryz.prog (Go.AE.lv Tryz.prog n) :=
  Go.AE.lv_ok (Go.AE.draw_ok (by kernel_rfl)) Go.AE.range_ok (Go.AE.ext_ok (by kernel_rfl)) n
theorem known_tab {W : World} (hL : laidMetH Tryz.prog Rows.boundKnownRow.laid W) : ∃ ty, W.heap[0]? = some (.cells (Go.AE.deBruijn.map fun z => Value.int .u8 z).toArray ty (0, 0)) := by
  rw [MakeChecks.laidMetH_plain _ _ _ (by kernel_rfl)] at hL
  have h1 := laidMet.tail hL
  have e : Rows.laid_math_bits_deBruijn64tab = (Lib.tabData .u8 Go.AE.deBruijn : DataW Unit) := by kernel_rfl
  rw [e] at h1
  have hg : Tryz.prog.globalNamed "math/bits.deBruijn64tab" = some 0 := by kernel_rfl
  exact Go.AE.tab_heap hg (Lib.tabIs_of_head hg (t := 553) (e := 5) (n := 64) (by kernel_rfl) (by kernel_rfl) (by kernel_rfl) (by kernel_rfl) (by kernel_rfl) h1) h1 (by decide)
theorem known_calls {L : Go.AE.Lv} (hLv : Go.AE.LvOk Tryz.prog L) (hk : L.call 3 [] none (Go.AE.tabHeap .u8 Go.AE.deBruijn) Go.AE.start Go.AE.saysTrue) (W : World) {ty : TypeId} (ht : W.heap[0]? = some (.cells (Go.AE.deBruijn.map fun z => Value.int .u8 z).toArray ty (0, 0))) : Calls Tryz.prog 3 #[] W fun e w' => e = .returned (.bool true) ∧ Below W.heap.size W w' :=
  Go.AE.calls_trueT hLv Tryz.func3 (by kernel_rfl) (by kernel_rfl) hk W ht

theorem known_lifted {L : Go.AE.Lv} (hLv : Go.AE.LvOk Tryz.prog L) (hk : L.call 3 [] none (Go.AE.tabHeap .u8 Go.AE.deBruijn) Go.AE.start Go.AE.saysTrue) (os : Os) (started : os.Started) (H : Type) (enc : TypeId × Value → H) :
    ReturnsInHanded {} Tryz.checked os 3 .any (fun w args => (Rows.boundKnownSpec.pre enc Tryz.prog Tryz.f3 Rows.boundKnownRow.domain false w args ∧ laidMetH Tryz.prog Rows.boundKnownRow.laid w) ∧ sizedMet enc Tryz.prog Tryz.f3 (OpenSpec.ofChange Rows.boundKnownSpec) false w args)
      (Rows.boundKnownSpec.post enc Tryz.prog Tryz.f3 false true false false) := by
  refine returnsInHanded_of_change_and (C := Tryz.checked) (X := fun w _ => laidMetH Tryz.prog Rows.boundKnownRow.laid w) (fun _ _ _ hh h => h.of_heap hh) ownKnob0 started (by kernel_rfl) Tryz.func3
    (ChangeSpec.witness_shaped (enc := enc) (C := Tryz.checked) (os := os) (X := fun w _ => laidMetH Tryz.prog Rows.boundKnownRow.laid w) false (World.laidAll Tryz.prog os Rows.boundKnownRow.laid) #[] 8 (World.laidAll_os _ _ _)
      (World.shaped_of_ZipB (by kernel_rfl) (by kernel_rfl)) (by kernel_rfl) (by kernel_rfl) (by kernel_rfl)
      (by rw [MakeChecks.laidMetH_plain _ _ _ (by kernel_rfl)]; exact laidMet_laidAll _ (by kernel_rfl) (by kernel_rfl))) ?_
  intro W base args ds gs before hval0 hW _ _ hL _
  have hW' := hW
  obtain ⟨p, q, hA0, hV, rfl, _, _⟩ := hW
  have hA : DataW.TrodAll enc Tryz.prog W 0 (fun _ => true) true Tryz.f3.params.toList args.toList ds p := hA0
  rw [Tryz.params3] at hA
  obtain ⟨hargs, rfl, rfl⟩ := trodAll_nil hA
  have hargs' : args = #[] := by apply Array.ext'; simpa using hargs
  subst hargs'
  obtain ⟨rfl, rfl⟩ := trodVars_none hV
  simp only [List.append_nil] at hW'
  obtain ⟨ty, ht⟩ := known_tab hL
  refine (known_calls hLv hk W ht).mono fun e W' ⟨he, hb⟩ => ?_
  subst he
  exact ⟨_, rfl, _, _, _, [], [], [], hW', trodAll_mk1 (shut_bool Tryz.underlying4 _), rfl, rfl, hb.frame _, fun h => by cases h⟩

end Go.Proofs.YtodboimcfpefhaaGreatDoor
