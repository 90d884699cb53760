/-
  If the evaluator finds the call of RtlgenKnown true, then the row's statement and the card's hold.
-/
import Derived.Test.YtfgfnafifflbjaaGreatDoorAe8
import Derived.Test.YtfgfnafifflbjaaGreatDoorRows
import Derived.Test.YtfgfnafifflbjaaGreatDoorTie
import Derived.Test.YtfgfnafifflbjaaGreatDoorCards
import Derived.ProofKit
import Derived.OpenShut
import Derived.LaidMore
import Derived.Lay
import Derived.SevenTiedAt
namespace Go.Proofs.YtfgfnafifflbjaaGreatDoor
open Go Go.ChangeShapes Go.WideShapes Go.ChangeAt Go.RowKit

set_option maxRecDepth 100000
theorem ownKnob0 : ownKnob Tryz.prog.godebug = none := by kernel_rfl
theorem level_ok (n : Nat) : Go.AE.LvOk Tryz.prog (Go.AE.lv Tryz.prog n) :=
  Go.AE.lv_ok (Go.AE.draw_ok (by kernel_rfl)) Go.AE.range_ok (Go.AE.ext_ok (by kernel_rfl)) n
theorem known_calls {L : Go.AE.Lv} (hL : Go.AE.LvOk Tryz.prog L) (hk : L.call 3 [] none .lf Go.AE.start Go.AE.saysTrue) (W : World) : Calls Tryz.prog 3 #[] W fun e w' => e = .returned (.bool true) ∧ Below W.heap.size W w' :=
  Go.AE.calls_true hL Tryz.func3 (by kernel_rfl) (by kernel_rfl) hk W

theorem known_lifted {L : Go.AE.Lv} (hLv : Go.AE.LvOk Tryz.prog L) (hk : L.call 3 [] none .lf Go.AE.start Go.AE.saysTrue) (os : Os) (started : os.Started) (H : Type) (enc : TypeId × Value → H) :
    ReturnsInHanded {} Tryz.checked os 3 .any (fun w args => (Rows.rtlgenKnownSpec.pre enc Tryz.prog Tryz.f3 Rows.rtlgenKnownRow.domain false w args ∧ laidMetH Tryz.prog Rows.rtlgenKnownRow.laid w) ∧ sizedMet enc Tryz.prog Tryz.f3 (OpenSpec.ofChange Rows.rtlgenKnownSpec) false w args)
      (Rows.rtlgenKnownSpec.post enc Tryz.prog Tryz.f3 false true false false) := by
  refine returnsInHanded_of_change_and (C := Tryz.checked) (X := fun w _ => laidMetH Tryz.prog Rows.rtlgenKnownRow.laid w) (fun _ _ _ hh h => h.of_heap hh) ownKnob0 started (by kernel_rfl) Tryz.func3
    (ChangeSpec.witness_shaped (enc := enc) (C := Tryz.checked) (os := os) (X := fun w _ => laidMetH Tryz.prog Rows.rtlgenKnownRow.laid w) false (World.laidAll Tryz.prog os Rows.rtlgenKnownRow.laid) #[] 8 (World.laidAll_os _ _ _)
      (World.shaped_of_ZipB (by kernel_rfl) (by kernel_rfl)) (by kernel_rfl) (by kernel_rfl) (by kernel_rfl)
      (by rw [MakeChecks.laidMetH_plain _ _ _ (by kernel_rfl)]; exact laidMet_laidAll _ (by kernel_rfl) (by kernel_rfl))) ?_
  intro W base args ds gs before hval0 hW _ _ hL _
  have hW' := hW
  obtain ⟨p, q, hA0, hV, rfl, _, _⟩ := hW
  have hA : DataW.TrodAll enc Tryz.prog W 0 (fun _ => true) true Tryz.f3.params.toList args.toList ds p := hA0
  rw [Tryz.params3] at hA
  obtain ⟨hargs, rfl, rfl⟩ := trodAll_nil hA
  have hargs' : args = #[] := by apply Array.ext'; simpa using hargs
  subst hargs'
  obtain ⟨rfl, rfl⟩ := trodVars_none hV
  simp only [List.append_nil] at hW'
  refine (known_calls hLv hk W).mono fun e W' ⟨he, hb⟩ => ?_
  subst he
  exact ⟨_, rfl, _, _, _, [], [], [], hW', trodAll_mk1 (shut_bool Tryz.underlying4 _), rfl, rfl, hb.frame _, fun h => by cases h⟩

theorem known_row {L : Go.AE.Lv} (hLv : Go.AE.LvOk Tryz.prog L) (hk : L.call 3 [] none .lf Go.AE.start Go.AE.saysTrue) : Rows.RtlgenKnownSaid :=
  OpenClaim.holds_of_wide 3 Tryz.f3 rfl rfl rfl rfl rfl rfl rfl ⟨rfl, rfl, rfl, rfl, rfl⟩ rfl rfl rfl rfl rfl (by kernel_rfl) Tryz.func3 (by kernel_rfl)
    (of_decide_eq_true (by kernel_rfl)) (by unfold Func.isWrapper; first | (rw [if_pos (by decide +kernel)]; kernel_rfl) | (rw [if_neg (by decide +kernel)]; exact ⟨rfl, rfl⟩))
    (fun os started H enc _ => known_lifted hLv hk os started H enc)

theorem known_card {L : Go.AE.Lv} (hLv : Go.AE.LvOk Tryz.prog L) (hk : L.call 3 [] none .lf Go.AE.start Go.AE.saysTrue) : Rows.RtlgenKnownCardSaid :=
  Claim7.holds_tied_plain_at .later [] [.data, .data, .data, .data, .sentinel, .sentinel, .pinned] true (true, "8d5cd3902b3e2c1cea17739594bbcff4144e167eab5251b51951dddac188fcbb") true (known_row hLv hk) (fun _ h => by cases h) (by kernel_rfl) (fun _ h => by cases h) rtlgenKnown_row_tie rfl ⟨rfl, rfl⟩ (by kernel_rfl) rfl
    (fun f fn hf hfn => by
      obtain rfl : f = 3 := Option.some.inj ((show Tryz.prog.funcNamed "plumbob/plumboblaw13.RtlgenKnown" = some 3 by kernel_rfl).symm.trans hf) |>.symm
      obtain rfl : fn = Tryz.f3 := (Option.some.inj (Tryz.func3.symm.trans hfn)).symm
      exact ⟨by kernel_rfl, fun j t ht => by
        rw [Tryz.params3] at ht
        simp at ht⟩)
    (by kernel_rfl)

end Go.Proofs.YtfgfnafifflbjaaGreatDoor
