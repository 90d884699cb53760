/-
  The card of RtlgenKnown: whatever the memory and the tape, the call returns true; the listed variables are as the row lays them.
-/
import Derived.Test.YtfgfnafifflbjaaGreatDoorKnownTrue
import Derived.Test.YtfgfnafifflbjaaGreatDoorKnownRow
namespace Go.Proofs.YtfgfnafifflbjaaGreatDoor
open Go
theorem known_of (n : Nat) (h : (Go.AE.lv Tryz.prog n).call 3 [] none .lf Go.AE.start Go.AE.saysTrue = True) : Rows.RtlgenKnownCardSaid := known_card (level_ok n) (of_eq_true h)
theorem rtlgenKnown_card_holds : Rows.RtlgenKnownCardSaid := known_of 1000000 known_eq
#print axioms rtlgenKnown_card_holds
end Go.Proofs.YtfgfnafifflbjaaGreatDoor
