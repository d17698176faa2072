/-
  DERIVED. GIVEN WITH THE SEED: THE CARDS: each row of YtfmgjcgcocidfaaGreatDoorRows.lean that lists a variable, with what it lists TIED to the program's text (the seventh form; the later family's looks); each row that meets fmt, with fmt's text TOLD by the authors' own Lean function (tested against real Go, not proved from fmt's source: count such statements apart). THE CARD IS WHAT COUNTS. Prove the row's statement (the work); the ties are given (YtfmgjcgcocidfaaGreatDoorTie.lean); close each card by the builder's one call (the guide's Derived/Test/ToyasCard.lean, 'card_holds'). Laid BY PROGRAM, IN A SANDBOX (cutbox-door.mjs). By AI agents, Wed Nov 11 2026. No macro, syntax, notation, axiom, sorry.
-/
import Derived.Test.YtfmgjcgcocidfaaGreatDoorRows
import GoSem.ClaimSeven
namespace Go.Proofs.YtfmgjcgcocidfaaGreatDoor
namespace Rows

/-- THE TIED CARD OF 'dowellaw04.IntervalFull'. -/
def intervalFullCard : Claim7 := { stood := { row := intervalFullRow, standIns := [], harness := (true, "dba86a9541e6d92bd44f45bbdb7be4066eb7ba8f5b62ce4ad0be8bb7da2876b9"), looks := true }, kinds := [], alts := [], laidByText := true, laidKinds := [.data, .data, .data, .data, .sentinel, .sentinel, .pinned], laidTests := true, laidLooks := .later }
def IntervalFullCardSaid : Prop := Claim7.holds Tryz.pinned (.plain (OpenSpec.ofChange intervalFullSpec)) intervalFullCard

/-- THE SECOND FORM's CARD OF 'dowellaw04.IntervalFull'. -/
def intervalFullUptoCard : Claim7 := { stood := { row := intervalFullUptoRow, standIns := [], harness := (true, "dba86a9541e6d92bd44f45bbdb7be4066eb7ba8f5b62ce4ad0be8bb7da2876b9"), looks := true }, kinds := [], alts := [], laidByText := true, laidKinds := [.data, .data, .data, .data, .sentinel, .sentinel, .pinned], laidTests := true, laidLooks := .later }
def IntervalFullUptoCardSaid : Prop := Claim7.holds Tryz.pinned (.plain (OpenSpec.upto intervalFullSpec)) intervalFullUptoCard
end Rows
end Go.Proofs.YtfmgjcgcocidfaaGreatDoor
