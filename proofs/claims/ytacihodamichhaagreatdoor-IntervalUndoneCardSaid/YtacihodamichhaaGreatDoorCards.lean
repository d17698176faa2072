/-
  DERIVED. GIVEN WITH THE SEED: THE CARDS: each row of YtacihodamichhaaGreatDoorRows.lean that lists a variable, with what it lists TIED to the program's text (the seventh form; the later family's looks); each row that meets fmt, with fmt's text TOLD by the authors' own Lean function (tested against real Go, not proved from fmt's source: count such statements apart). THE CARD IS WHAT COUNTS. Prove the row's statement (the work); the ties are given (YtacihodamichhaaGreatDoorTie.lean); close each card by the builder's one call (the guide's Derived/Test/ToyasCard.lean, 'card_holds'). Laid BY PROGRAM, IN A SANDBOX (cutbox-door.mjs). By AI agents, Wed Nov 11 2026. No macro, syntax, notation, axiom, sorry.
-/
import Derived.Test.YtacihodamichhaaGreatDoorRows
import GoSem.ClaimSeven
namespace Go.Proofs.YtacihodamichhaaGreatDoor
namespace Rows

/-- THE TIED CARD OF 'dowellaw04.IntervalEnds'. -/
def intervalEndsCard : Claim7 := { stood := { row := intervalEndsRow, standIns := [], harness := (true, "de555170af92a675662fc8c55259e069d37d98ebe2ca20e51011936a24d26fa3"), looks := true }, kinds := [], alts := [], laidByText := true, laidKinds := [.data, .data, .data, .data, .sentinel, .sentinel, .pinned], laidTests := true, laidLooks := .later }
def IntervalEndsCardSaid : Prop := Claim7.holds Tryz.pinned (.plain (OpenSpec.ofChange intervalEndsSpec)) intervalEndsCard

/-- THE TIED CARD OF 'dowellaw04.IntervalNormal'. -/
def intervalNormalCard : Claim7 := { stood := { row := intervalNormalRow, standIns := [], harness := (true, "de555170af92a675662fc8c55259e069d37d98ebe2ca20e51011936a24d26fa3"), looks := true }, kinds := [], alts := [], laidByText := true, laidKinds := [.data, .data, .data, .data, .sentinel, .sentinel, .pinned], laidTests := true, laidLooks := .later }
def IntervalNormalCardSaid : Prop := Claim7.holds Tryz.pinned (.plain (OpenSpec.ofChange intervalNormalSpec)) intervalNormalCard

/-- THE TIED CARD OF 'dowellaw04.IntervalMaps'. -/
def intervalMapsCard : Claim7 := { stood := { row := intervalMapsRow, standIns := [], harness := (true, "de555170af92a675662fc8c55259e069d37d98ebe2ca20e51011936a24d26fa3"), looks := true }, kinds := [], alts := [], laidByText := true, laidKinds := [.data, .data, .data, .data, .sentinel, .sentinel, .pinned], laidTests := true, laidLooks := .later }
def IntervalMapsCardSaid : Prop := Claim7.holds Tryz.pinned (.plain (OpenSpec.ofChange intervalMapsSpec)) intervalMapsCard

/-- THE TIED CARD OF 'dowellaw04.IntervalLaws'. -/
def intervalLawsCard : Claim7 := { stood := { row := intervalLawsRow, standIns := [], harness := (true, "de555170af92a675662fc8c55259e069d37d98ebe2ca20e51011936a24d26fa3"), looks := true }, kinds := [], alts := [], laidByText := true, laidKinds := [.data, .data, .data, .data, .sentinel, .sentinel, .pinned], laidTests := true, laidLooks := .later }
def IntervalLawsCardSaid : Prop := Claim7.holds Tryz.pinned (.plain (OpenSpec.ofChange intervalLawsSpec)) intervalLawsCard

/-- THE TIED CARD OF 'dowellaw04.IntervalContains'. -/
def intervalContainsCard : Claim7 := { stood := { row := intervalContainsRow, standIns := [], harness := (true, "de555170af92a675662fc8c55259e069d37d98ebe2ca20e51011936a24d26fa3"), looks := true }, kinds := [], alts := [], laidByText := true, laidKinds := [.data, .data, .data, .data, .sentinel, .sentinel, .pinned], laidTests := true, laidLooks := .later }
def IntervalContainsCardSaid : Prop := Claim7.holds Tryz.pinned (.plain (OpenSpec.ofChange intervalContainsSpec)) intervalContainsCard

/-- THE TIED CARD OF 'dowellaw04.IntervalCombines'. -/
def intervalCombinesCard : Claim7 := { stood := { row := intervalCombinesRow, standIns := [], harness := (true, "de555170af92a675662fc8c55259e069d37d98ebe2ca20e51011936a24d26fa3"), looks := true }, kinds := [], alts := [], laidByText := true, laidKinds := [.data, .data, .data, .data, .sentinel, .sentinel, .pinned], laidTests := true, laidLooks := .later }
def IntervalCombinesCardSaid : Prop := Claim7.holds Tryz.pinned (.plain (OpenSpec.ofChange intervalCombinesSpec)) intervalCombinesCard

/-- THE TIED CARD OF 'dowellaw04.IntervalSteady'. -/
def intervalSteadyCard : Claim7 := { stood := { row := intervalSteadyRow, standIns := [], harness := (true, "de555170af92a675662fc8c55259e069d37d98ebe2ca20e51011936a24d26fa3"), looks := true }, kinds := [], alts := [], laidByText := true, laidKinds := [.data, .data, .data, .data, .sentinel, .sentinel, .pinned], laidTests := true, laidLooks := .later }
def IntervalSteadyCardSaid : Prop := Claim7.holds Tryz.pinned (.plain (OpenSpec.ofChange intervalSteadySpec)) intervalSteadyCard

/-- THE TIED CARD OF 'dowellaw04.IntervalPoints'. -/
def intervalPointsCard : Claim7 := { stood := { row := intervalPointsRow, standIns := [], harness := (true, "de555170af92a675662fc8c55259e069d37d98ebe2ca20e51011936a24d26fa3"), looks := true }, kinds := [], alts := [], laidByText := true, laidKinds := [.data, .data, .data, .data, .sentinel, .sentinel, .pinned], laidTests := true, laidLooks := .later }
def IntervalPointsCardSaid : Prop := Claim7.holds Tryz.pinned (.plain (OpenSpec.ofChange intervalPointsSpec)) intervalPointsCard

/-- THE TIED CARD OF 'dowellaw04.IntervalUndone'. -/
def intervalUndoneCard : Claim7 := { stood := { row := intervalUndoneRow, standIns := [], harness := (true, "de555170af92a675662fc8c55259e069d37d98ebe2ca20e51011936a24d26fa3"), looks := true }, kinds := [], alts := [], laidByText := true, laidKinds := [.data, .data, .data, .data, .sentinel, .sentinel, .pinned], laidTests := true, laidLooks := .later }
def IntervalUndoneCardSaid : Prop := Claim7.holds Tryz.pinned (.plain (OpenSpec.ofChange intervalUndoneSpec)) intervalUndoneCard

/-- THE TIED CARD OF 'dowellaw04.IntervalChecks'. -/
def intervalChecksCard : Claim7 := { stood := { row := intervalChecksRow, standIns := [], harness := (true, "de555170af92a675662fc8c55259e069d37d98ebe2ca20e51011936a24d26fa3"), looks := true }, kinds := [], alts := [], laidByText := true, laidKinds := [.data, .data, .data, .data, .sentinel, .sentinel, .pinned], laidTests := true, laidLooks := .later }
def IntervalChecksCardSaid : Prop := Claim7.holds Tryz.pinned (.plain (OpenSpec.ofChange intervalChecksSpec)) intervalChecksCard

/-- THE SECOND FORM's CARD OF 'dowellaw04.IntervalEnds'. -/
def intervalEndsUptoCard : Claim7 := { stood := { row := intervalEndsUptoRow, standIns := [], harness := (true, "de555170af92a675662fc8c55259e069d37d98ebe2ca20e51011936a24d26fa3"), looks := true }, kinds := [], alts := [], laidByText := true, laidKinds := [.data, .data, .data, .data, .sentinel, .sentinel, .pinned], laidTests := true, laidLooks := .later }
def IntervalEndsUptoCardSaid : Prop := Claim7.holds Tryz.pinned (.plain (OpenSpec.upto intervalEndsSpec)) intervalEndsUptoCard

/-- THE SECOND FORM's CARD OF 'dowellaw04.IntervalNormal'. -/
def intervalNormalUptoCard : Claim7 := { stood := { row := intervalNormalUptoRow, standIns := [], harness := (true, "de555170af92a675662fc8c55259e069d37d98ebe2ca20e51011936a24d26fa3"), looks := true }, kinds := [], alts := [], laidByText := true, laidKinds := [.data, .data, .data, .data, .sentinel, .sentinel, .pinned], laidTests := true, laidLooks := .later }
def IntervalNormalUptoCardSaid : Prop := Claim7.holds Tryz.pinned (.plain (OpenSpec.upto intervalNormalSpec)) intervalNormalUptoCard

/-- THE SECOND FORM's CARD OF 'dowellaw04.IntervalMaps'. -/
def intervalMapsUptoCard : Claim7 := { stood := { row := intervalMapsUptoRow, standIns := [], harness := (true, "de555170af92a675662fc8c55259e069d37d98ebe2ca20e51011936a24d26fa3"), looks := true }, kinds := [], alts := [], laidByText := true, laidKinds := [.data, .data, .data, .data, .sentinel, .sentinel, .pinned], laidTests := true, laidLooks := .later }
def IntervalMapsUptoCardSaid : Prop := Claim7.holds Tryz.pinned (.plain (OpenSpec.upto intervalMapsSpec)) intervalMapsUptoCard

/-- THE SECOND FORM's CARD OF 'dowellaw04.IntervalLaws'. -/
def intervalLawsUptoCard : Claim7 := { stood := { row := intervalLawsUptoRow, standIns := [], harness := (true, "de555170af92a675662fc8c55259e069d37d98ebe2ca20e51011936a24d26fa3"), looks := true }, kinds := [], alts := [], laidByText := true, laidKinds := [.data, .data, .data, .data, .sentinel, .sentinel, .pinned], laidTests := true, laidLooks := .later }
def IntervalLawsUptoCardSaid : Prop := Claim7.holds Tryz.pinned (.plain (OpenSpec.upto intervalLawsSpec)) intervalLawsUptoCard

/-- THE SECOND FORM's CARD OF 'dowellaw04.IntervalContains'. -/
def intervalContainsUptoCard : Claim7 := { stood := { row := intervalContainsUptoRow, standIns := [], harness := (true, "de555170af92a675662fc8c55259e069d37d98ebe2ca20e51011936a24d26fa3"), looks := true }, kinds := [], alts := [], laidByText := true, laidKinds := [.data, .data, .data, .data, .sentinel, .sentinel, .pinned], laidTests := true, laidLooks := .later }
def IntervalContainsUptoCardSaid : Prop := Claim7.holds Tryz.pinned (.plain (OpenSpec.upto intervalContainsSpec)) intervalContainsUptoCard

/-- THE SECOND FORM's CARD OF 'dowellaw04.IntervalCombines'. -/
def intervalCombinesUptoCard : Claim7 := { stood := { row := intervalCombinesUptoRow, standIns := [], harness := (true, "de555170af92a675662fc8c55259e069d37d98ebe2ca20e51011936a24d26fa3"), looks := true }, kinds := [], alts := [], laidByText := true, laidKinds := [.data, .data, .data, .data, .sentinel, .sentinel, .pinned], laidTests := true, laidLooks := .later }
def IntervalCombinesUptoCardSaid : Prop := Claim7.holds Tryz.pinned (.plain (OpenSpec.upto intervalCombinesSpec)) intervalCombinesUptoCard

/-- THE SECOND FORM's CARD OF 'dowellaw04.IntervalSteady'. -/
def intervalSteadyUptoCard : Claim7 := { stood := { row := intervalSteadyUptoRow, standIns := [], harness := (true, "de555170af92a675662fc8c55259e069d37d98ebe2ca20e51011936a24d26fa3"), looks := true }, kinds := [], alts := [], laidByText := true, laidKinds := [.data, .data, .data, .data, .sentinel, .sentinel, .pinned], laidTests := true, laidLooks := .later }
def IntervalSteadyUptoCardSaid : Prop := Claim7.holds Tryz.pinned (.plain (OpenSpec.upto intervalSteadySpec)) intervalSteadyUptoCard

/-- THE SECOND FORM's CARD OF 'dowellaw04.IntervalPoints'. -/
def intervalPointsUptoCard : Claim7 := { stood := { row := intervalPointsUptoRow, standIns := [], harness := (true, "de555170af92a675662fc8c55259e069d37d98ebe2ca20e51011936a24d26fa3"), looks := true }, kinds := [], alts := [], laidByText := true, laidKinds := [.data, .data, .data, .data, .sentinel, .sentinel, .pinned], laidTests := true, laidLooks := .later }
def IntervalPointsUptoCardSaid : Prop := Claim7.holds Tryz.pinned (.plain (OpenSpec.upto intervalPointsSpec)) intervalPointsUptoCard

/-- THE SECOND FORM's CARD OF 'dowellaw04.IntervalUndone'. -/
def intervalUndoneUptoCard : Claim7 := { stood := { row := intervalUndoneUptoRow, standIns := [], harness := (true, "de555170af92a675662fc8c55259e069d37d98ebe2ca20e51011936a24d26fa3"), looks := true }, kinds := [], alts := [], laidByText := true, laidKinds := [.data, .data, .data, .data, .sentinel, .sentinel, .pinned], laidTests := true, laidLooks := .later }
def IntervalUndoneUptoCardSaid : Prop := Claim7.holds Tryz.pinned (.plain (OpenSpec.upto intervalUndoneSpec)) intervalUndoneUptoCard

/-- THE SECOND FORM's CARD OF 'dowellaw04.IntervalChecks'. -/
def intervalChecksUptoCard : Claim7 := { stood := { row := intervalChecksUptoRow, standIns := [], harness := (true, "de555170af92a675662fc8c55259e069d37d98ebe2ca20e51011936a24d26fa3"), looks := true }, kinds := [], alts := [], laidByText := true, laidKinds := [.data, .data, .data, .data, .sentinel, .sentinel, .pinned], laidTests := true, laidLooks := .later }
def IntervalChecksUptoCardSaid : Prop := Claim7.holds Tryz.pinned (.plain (OpenSpec.upto intervalChecksSpec)) intervalChecksUptoCard
end Rows
end Go.Proofs.YtacihodamichhaaGreatDoor
