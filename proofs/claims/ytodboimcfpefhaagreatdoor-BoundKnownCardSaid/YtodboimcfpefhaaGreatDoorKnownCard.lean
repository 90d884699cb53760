/-
  The card of plumbob/plumboblaw24.BoundKnown: whatever the memory and the tape, the call returns true; the listed variables are as the row lays them.
-/
import Derived.Test.YtodboimcfpefhaaGreatDoorKnownRow
import Derived.Test.YtodboimcfpefhaaGreatDoorKnownTrue
import Derived.Test.YtodboimcfpefhaaGreatDoorTie
import Derived.Test.YtodboimcfpefhaaGreatDoorCards
import Derived.SevenTiedAt
namespace Go.Proofs.YtodboimcfpefhaaGreatDoor
open Go
set_option maxRecDepth 100000

theorem known_goes : Tryz.prog.funcs.any Func.goes = false := by kernel_rfl
theorem known_card {L : Go.AE.Lv} (hLv : Go.AE.LvOk Tryz.prog L) (hk : L.call 3 [] none (Go.AE.tabHeap .u8 Go.AE.deBruijn) Go.AE.start Go.AE.saysTrue) : Rows.BoundKnownCardSaid :=
  Claim7.holds_tied_plain_at .later [] [.data, .data, .data, .data, .sentinel, .sentinel, .pinned] true (true, "e82ec7401c48b5bd27304d3d3d4e63fc6baf7939ca82a2337881024ff3510779") true (known_row hLv hk) (fun _ h => by cases h) (by kernel_rfl) (fun _ h => by cases h) boundKnown_row_tie rfl ⟨rfl, rfl⟩ (by kernel_rfl) rfl
    (fun f fn hf hfn => by
      obtain rfl : f = 3 := Option.some.inj ((show Tryz.prog.funcNamed "plumbob/plumboblaw24.BoundKnown" = some 3 by kernel_rfl).symm.trans hf) |>.symm
      obtain rfl : fn = Tryz.f3 := (Option.some.inj (Tryz.func3.symm.trans hfn)).symm
      exact ⟨by kernel_rfl, fun j t ht => by
        rw [Tryz.params3] at ht
        simp at ht⟩)
    (Go.AE.goesBy_false known_goes rfl)
theorem known_of (n : Nat) (h : (Go.AE.lv Tryz.prog n).call 3 [] none (Go.AE.tabHeap .u8 Go.AE.deBruijn) Go.AE.start Go.AE.saysTrue = True) : Rows.BoundKnownCardSaid := known_card (level_ok n) (of_eq_true h)
theorem boundKnown_card_holds : Rows.BoundKnownCardSaid := known_of 1000000 known_eq
#print axioms boundKnown_card_holds

end Go.Proofs.YtodboimcfpefhaaGreatDoor
