/-
  The card of RtlgenKnown: whatever the memory and the tape, the call returns true; the listed variables are as the row lays them.
-/
import Derived.Test.YtfgfnafifflbjaaGreatDoorKnownRow
import Derived.Test.YtfgfnafifflbjaaGreatDoorKnownTrue
import Derived.Test.YtfgfnafifflbjaaGreatDoorTie
import Derived.Test.YtfgfnafifflbjaaGreatDoorCards
import Derived.SevenTiedAt
namespace Go.Proofs.YtfgfnafifflbjaaGreatDoor
open Go
set_option maxRecDepth 100000

theorem known_card {L : Go.AE.Lv} (hLv : Go.AE.LvOk Tryz.prog L) (hk : L.call 3 [] none .lf Go.AE.start Go.AE.saysTrue) : Rows.RtlgenKnownCardSaid :=
  Claim7.holds_tied_plain_at .later [] [.data, .data, .data, .data, .sentinel, .sentinel, .pinned] true (true, "8d5cd3902b3e2c1cea17739594bbcff4144e167eab5251b51951dddac188fcbb") true (known_row hLv hk) (fun _ h => by cases h) (by kernel_rfl) (fun _ h => by cases h) rtlgenKnown_row_tie rfl ⟨rfl, rfl⟩ (by kernel_rfl) rfl
    (fun f fn hf hfn => by
      obtain rfl : f = 3 := Option.some.inj ((show Tryz.prog.funcNamed "plumbob/plumboblaw13.RtlgenKnown" = some 3 by kernel_rfl).symm.trans hf) |>.symm
      obtain rfl : fn = Tryz.f3 := (Option.some.inj (Tryz.func3.symm.trans hfn)).symm
      exact ⟨by kernel_rfl, fun j t ht => by
        rw [Tryz.params3] at ht
        simp at ht⟩)
    (by kernel_rfl)

theorem known_of (n : Nat) (h : (Go.AE.lv Tryz.prog n).call 3 [] none .lf Go.AE.start Go.AE.saysTrue = True) : Rows.RtlgenKnownCardSaid := known_card (level_ok n) (of_eq_true h)
theorem rtlgenKnown_card_holds : Rows.RtlgenKnownCardSaid := known_of 1000000 known_eq
#print axioms rtlgenKnown_card_holds
end Go.Proofs.YtfgfnafifflbjaaGreatDoor
