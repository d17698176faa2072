/-
  DERIVED. GIVEN WITH THE SEED: THE CARDS: each row of YtlcmhbkmpkcajaaGreatDoorRows.lean that lists a variable, with what it lists TIED to the program's text (the seventh form; the later family's looks); each row that meets fmt, with fmt's text TOLD by the authors' own Lean function (tested against real Go, not proved from fmt's source: count such statements apart). THE CARD IS WHAT COUNTS. Prove the row's statement (the work); the ties are given (YtlcmhbkmpkcajaaGreatDoorTie.lean); close each card by the builder's one call (the guide's Derived/Test/ToyasCard.lean, 'card_holds'). Laid BY PROGRAM, IN A SANDBOX (cutbox-door.mjs). By AI agents, Wed Nov 11 2026. No macro, syntax, notation, axiom, sorry.
-/
import Derived.Test.YtlcmhbkmpkcajaaGreatDoorRows
import GoSem.ClaimSeven
namespace Go.Proofs.YtlcmhbkmpkcajaaGreatDoor
namespace Rows

/-- THE TIED CARD OF 'dowellaw08.ConeLimits'. -/
def coneLimitsCard : Claim7 := { stood := { row := coneLimitsRow, standIns := [], harness := (true, "6747ecea2954d1dc49c50bb32ac1f62677851cc89f769076c69e4ae1f922f3e2"), looks := true }, kinds := [], alts := [], laidByText := true, laidKinds := [.data, .data, .data, .data, .sentinel, .sentinel, .pinned], laidTests := true, laidLooks := .later }
def ConeLimitsCardSaid : Prop := Claim7.holds Tryz.pinned (.plain (OpenSpec.ofChange coneLimitsSpec)) coneLimitsCard

/-- THE SECOND FORM's CARD OF 'dowellaw08.ConeLimits'. -/
def coneLimitsUptoCard : Claim7 := { stood := { row := coneLimitsUptoRow, standIns := [], harness := (true, "6747ecea2954d1dc49c50bb32ac1f62677851cc89f769076c69e4ae1f922f3e2"), looks := true }, kinds := [], alts := [], laidByText := true, laidKinds := [.data, .data, .data, .data, .sentinel, .sentinel, .pinned], laidTests := true, laidLooks := .later }
def ConeLimitsUptoCardSaid : Prop := Claim7.holds Tryz.pinned (.plain (OpenSpec.upto coneLimitsSpec)) coneLimitsUptoCard
end Rows
end Go.Proofs.YtlcmhbkmpkcajaaGreatDoor
