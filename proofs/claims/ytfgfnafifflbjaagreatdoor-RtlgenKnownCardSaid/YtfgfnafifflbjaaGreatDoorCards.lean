/-
  DERIVED. GIVEN WITH THE SEED: THE CARDS: each row of YtfgfnafifflbjaaGreatDoorRows.lean that lists a variable, with what it lists TIED to the program's text (the seventh form; the later family's looks); each row that meets fmt, with fmt's text TOLD by the authors' own Lean function (tested against real Go, not proved from fmt's source: count such statements apart). THE CARD IS WHAT COUNTS. Prove the row's statement (the work); the ties are given (YtfgfnafifflbjaaGreatDoorTie.lean); close each card by the builder's one call (the guide's Derived/Test/ToyasCard.lean, 'card_holds'). Laid BY PROGRAM, IN A SANDBOX (cutbox-door.mjs). By AI agents, Wed Nov 11 2026. No macro, syntax, notation, axiom, sorry.
-/
import Derived.Test.YtfgfnafifflbjaaGreatDoorRows
import GoSem.ClaimSeven
namespace Go.Proofs.YtfgfnafifflbjaaGreatDoor
namespace Rows

/-- THE TIED CARD OF 'plumboblaw13.RtlgenKnown'. -/
def rtlgenKnownCard : Claim7 := { stood := { row := rtlgenKnownRow, standIns := [], harness := (true, "8d5cd3902b3e2c1cea17739594bbcff4144e167eab5251b51951dddac188fcbb"), looks := true }, kinds := [], alts := [], laidByText := true, laidKinds := [.data, .data, .data, .data, .sentinel, .sentinel, .pinned], laidTests := true, laidLooks := .later }
def RtlgenKnownCardSaid : Prop := Claim7.holds Tryz.pinned (.plain (OpenSpec.ofChange rtlgenKnownSpec)) rtlgenKnownCard

/-- THE TIED CARD OF 'plumboblaw13.RtlgenShort'. -/
def rtlgenShortCard : Claim7 := { stood := { row := rtlgenShortRow, standIns := [], harness := (true, "8d5cd3902b3e2c1cea17739594bbcff4144e167eab5251b51951dddac188fcbb"), looks := true }, kinds := [], alts := [], laidByText := true, laidKinds := [.data, .data, .data, .data, .sentinel, .sentinel, .pinned], laidTests := true, laidLooks := .later }
def RtlgenShortCardSaid : Prop := Claim7.holds Tryz.pinned (.plain (OpenSpec.ofChange rtlgenShortSpec)) rtlgenShortCard

/-- THE SECOND FORM's CARD OF 'plumboblaw13.RtlgenKnown'. -/
def rtlgenKnownUptoCard : Claim7 := { stood := { row := rtlgenKnownUptoRow, standIns := [], harness := (true, "8d5cd3902b3e2c1cea17739594bbcff4144e167eab5251b51951dddac188fcbb"), looks := true }, kinds := [], alts := [], laidByText := true, laidKinds := [.data, .data, .data, .data, .sentinel, .sentinel, .pinned], laidTests := true, laidLooks := .later }
def RtlgenKnownUptoCardSaid : Prop := Claim7.holds Tryz.pinned (.plain (OpenSpec.upto rtlgenKnownSpec)) rtlgenKnownUptoCard

/-- THE SECOND FORM's CARD OF 'plumboblaw13.RtlgenShort'. -/
def rtlgenShortUptoCard : Claim7 := { stood := { row := rtlgenShortUptoRow, standIns := [], harness := (true, "8d5cd3902b3e2c1cea17739594bbcff4144e167eab5251b51951dddac188fcbb"), looks := true }, kinds := [], alts := [], laidByText := true, laidKinds := [.data, .data, .data, .data, .sentinel, .sentinel, .pinned], laidTests := true, laidLooks := .later }
def RtlgenShortUptoCardSaid : Prop := Claim7.holds Tryz.pinned (.plain (OpenSpec.upto rtlgenShortSpec)) rtlgenShortUptoCard
end Rows
end Go.Proofs.YtfgfnafifflbjaaGreatDoor
