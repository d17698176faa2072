/-
  DERIVED. GIVEN WITH THE SEED: THE CARDS: each row of YtknpbcdmemlicaaGreatDoorRows.lean that lists a variable, with what it lists TIED to the program's text (the seventh form; the later family's looks); each row that meets fmt, with fmt's text TOLD by the authors' own Lean function (tested against real Go, not proved from fmt's source: count such statements apart). THE CARD IS WHAT COUNTS. Prove the row's statement (the work); the ties are given (YtknpbcdmemlicaaGreatDoorTie.lean); close each card by the builder's one call (the guide's Derived/Test/ToyasCard.lean, 'card_holds'). Laid BY PROGRAM, IN A SANDBOX (cutbox-door.mjs). By AI agents, Wed Nov 11 2026. No macro, syntax, notation, axiom, sorry.
-/
import Derived.Test.YtknpbcdmemlicaaGreatDoorRows
import GoSem.ClaimSeven
namespace Go.Proofs.YtknpbcdmemlicaaGreatDoor
namespace Rows

/-- THE TIED CARD OF 'dowellaw48.VariantChecks'. -/
def variantChecksCard : Claim7 := { stood := { row := variantChecksRow, standIns := [], harness := (true, "839d68b316b8496fb32eeccc738cab57ba048e9ca2c71d5feaa64e1bd9f47158"), looks := true }, kinds := [], alts := [], laidByText := true, laidKinds := [.data, .data, .data, .data, .sentinel, .sentinel, .pinned], laidTests := true, laidLooks := .later }
def VariantChecksCardSaid : Prop := Claim7.holds Tryz.pinned (.plain (OpenSpec.ofChange variantChecksSpec)) variantChecksCard

/-- THE SECOND FORM's CARD OF 'dowellaw48.VariantChecks'. -/
def variantChecksUptoCard : Claim7 := { stood := { row := variantChecksUptoRow, standIns := [], harness := (true, "839d68b316b8496fb32eeccc738cab57ba048e9ca2c71d5feaa64e1bd9f47158"), looks := true }, kinds := [], alts := [], laidByText := true, laidKinds := [.data, .data, .data, .data, .sentinel, .sentinel, .pinned], laidTests := true, laidLooks := .later }
def VariantChecksUptoCardSaid : Prop := Claim7.holds Tryz.pinned (.plain (OpenSpec.upto variantChecksSpec)) variantChecksUptoCard
end Rows
end Go.Proofs.YtknpbcdmemlicaaGreatDoor
