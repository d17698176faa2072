/-
  No cell of these rows narrows 'for every input' (looked for: loops, veiled, ifaces, maps, wideKeys, modest, calm, conditions, laid).
  DERIVED. THE GIVEN ROWS OF THIS SEAT. 8 by the template 'for every input the law returns true; each argument reads behind the call as it read before'; 0 by the template 'total and deterministic' (their statements: YtkphggmbimjhjaaTotals.lean).
  GIVEN WITH THE SEED: the statements are not yours to turn. If you find one false, say at which input.
  Laid BY PROGRAM, IN A SANDBOX (cutbox-rows.mjs): the forced cells as the released guide's own fill.sh prints them over the translation e13c9f9c378aa2ae… (all of the seat's roots in one cut). By AI agents, Wed Nov 11 2026. No macro, syntax, notation, axiom, sorry.
-/
import Derived.Test.YtkphggmbimjhjaaChecked
import GoSem.Claim
import GoSem.ClaimJoined
import GoSem.ClaimMapViews
import Derived.JoinedTies
import Derived.KernelRfl
namespace Go.Proofs.Ytkphggmbimjhjaa
/- THE CELL 'sum', in the pinned program and in every row, IS THE sha256 OF THE DUMP (.gsa) THAT YtkphggmbimjhjaaProg.lean LOADS. Nothing in Lean hashes anything: it is a label: what it is worth is what the hold of that sum in a sandbox is worth. -/
noncomputable def Try.pinned : Pinned := { name := "ytkphggmbimjhjaa", sum := "e13c9f9c378aa2ae0ae3fb570291cbbec16e3fe1dc12b682057cf73fbb76032f", checked := Try.checked }
namespace Rows
def none {H : Type} : Left H := { results := [], args := [] }

/-- 'dowellaw48.VariantCounts': WHATEVER THE INPUT: true; the input reads as it did. -/
def variantCountsSpec : ChangeSpec := { name := "variantCounts", fn := fun _ => fun
  | [d1, d2] => { results := [.lit (.bool true)], args := [d1, d2] }
  | _ => none }
def variantCountsRow : OpenClaim := { program := "ytkphggmbimjhjaa", sum := "e13c9f9c378aa2ae0ae3fb570291cbbec16e3fe1dc12b682057cf73fbb76032f", func := "dowel/dowellaw48.VariantCounts", spec := "variantCounts", unfollowed := true, recurses := true, apart := false }
def VariantCountsSaid : Prop := variantCountsRow.holds Try.pinned (OpenSpec.ofChange variantCountsSpec)

/-- ITS FALSE NEIGHBOUR: 'it returns false'. Refute it at one input. -/
def variantCountsWrong : ChangeSpec := { name := "variantCounts", fn := fun _ => fun
  | [d1, d2] => { results := [.lit (.bool false)], args := [d1, d2] }
  | _ => none }
def VariantCountsWrongFalsely : Prop := variantCountsRow.holds Try.pinned (OpenSpec.ofChange variantCountsWrong)

/-- 'dowellaw48.VariantForces': WHATEVER THE INPUT: true; the input reads as it did. -/
def variantForcesSpec : ChangeSpec := { name := "variantForces", fn := fun _ => fun
  | [d1, d2] => { results := [.lit (.bool true)], args := [d1, d2] }
  | _ => none }
def variantForcesRow : OpenClaim := { program := "ytkphggmbimjhjaa", sum := "e13c9f9c378aa2ae0ae3fb570291cbbec16e3fe1dc12b682057cf73fbb76032f", func := "dowel/dowellaw48.VariantForces", spec := "variantForces", unfollowed := true, recurses := true, apart := false }
def VariantForcesSaid : Prop := variantForcesRow.holds Try.pinned (OpenSpec.ofChange variantForcesSpec)

/-- ITS FALSE NEIGHBOUR: 'it returns false'. Refute it at one input. -/
def variantForcesWrong : ChangeSpec := { name := "variantForces", fn := fun _ => fun
  | [d1, d2] => { results := [.lit (.bool false)], args := [d1, d2] }
  | _ => none }
def VariantForcesWrongFalsely : Prop := variantForcesRow.holds Try.pinned (OpenSpec.ofChange variantForcesWrong)

/-- 'dowellaw48.VariantConflicts': WHATEVER THE INPUT: true; the input reads as it did. -/
def variantConflictsSpec : ChangeSpec := { name := "variantConflicts", fn := fun _ => fun
  | [d1, d2] => { results := [.lit (.bool true)], args := [d1, d2] }
  | _ => none }
def variantConflictsRow : OpenClaim := { program := "ytkphggmbimjhjaa", sum := "e13c9f9c378aa2ae0ae3fb570291cbbec16e3fe1dc12b682057cf73fbb76032f", func := "dowel/dowellaw48.VariantConflicts", spec := "variantConflicts", unfollowed := true, recurses := true, apart := false }
def VariantConflictsSaid : Prop := variantConflictsRow.holds Try.pinned (OpenSpec.ofChange variantConflictsSpec)

/-- ITS FALSE NEIGHBOUR: 'it returns false'. Refute it at one input. -/
def variantConflictsWrong : ChangeSpec := { name := "variantConflicts", fn := fun _ => fun
  | [d1, d2] => { results := [.lit (.bool false)], args := [d1, d2] }
  | _ => none }
def VariantConflictsWrongFalsely : Prop := variantConflictsRow.holds Try.pinned (OpenSpec.ofChange variantConflictsWrong)

/-- 'dowellaw48.VariantDivides': WHATEVER THE INPUT: true; the input reads as it did. -/
def variantDividesSpec : ChangeSpec := { name := "variantDivides", fn := fun _ => fun
  | [d1, d2, d3] => { results := [.lit (.bool true)], args := [d1, d2, d3] }
  | _ => none }
def variantDividesRow : OpenClaim := { program := "ytkphggmbimjhjaa", sum := "e13c9f9c378aa2ae0ae3fb570291cbbec16e3fe1dc12b682057cf73fbb76032f", func := "dowel/dowellaw48.VariantDivides", spec := "variantDivides", unfollowed := true, recurses := true, apart := false }
def VariantDividesSaid : Prop := variantDividesRow.holds Try.pinned (OpenSpec.ofChange variantDividesSpec)

/-- ITS FALSE NEIGHBOUR: 'it returns false'. Refute it at one input. -/
def variantDividesWrong : ChangeSpec := { name := "variantDivides", fn := fun _ => fun
  | [d1, d2, d3] => { results := [.lit (.bool false)], args := [d1, d2, d3] }
  | _ => none }
def VariantDividesWrongFalsely : Prop := variantDividesRow.holds Try.pinned (OpenSpec.ofChange variantDividesWrong)

/-- 'dowellaw48.VariantRedundant': WHATEVER THE INPUT: true; the input reads as it did. -/
def variantRedundantSpec : ChangeSpec := { name := "variantRedundant", fn := fun _ => fun
  | [d] => { results := [.lit (.bool true)], args := [d] }
  | _ => none }
def variantRedundantRow : OpenClaim := { program := "ytkphggmbimjhjaa", sum := "e13c9f9c378aa2ae0ae3fb570291cbbec16e3fe1dc12b682057cf73fbb76032f", func := "dowel/dowellaw48.VariantRedundant", spec := "variantRedundant", unfollowed := true, recurses := true, apart := false }
def VariantRedundantSaid : Prop := variantRedundantRow.holds Try.pinned (OpenSpec.ofChange variantRedundantSpec)

/-- ITS FALSE NEIGHBOUR: 'it returns false'. Refute it at one input. -/
def variantRedundantWrong : ChangeSpec := { name := "variantRedundant", fn := fun _ => fun
  | [d] => { results := [.lit (.bool false)], args := [d] }
  | _ => none }
def VariantRedundantWrongFalsely : Prop := variantRedundantRow.holds Try.pinned (OpenSpec.ofChange variantRedundantWrong)

/-- 'dowellaw48.VariantUses': WHATEVER THE INPUT: true; the input reads as it did. -/
def variantUsesSpec : ChangeSpec := { name := "variantUses", fn := fun _ => fun
  | [d1, d2] => { results := [.lit (.bool true)], args := [d1, d2] }
  | _ => none }
def variantUsesRow : OpenClaim := { program := "ytkphggmbimjhjaa", sum := "e13c9f9c378aa2ae0ae3fb570291cbbec16e3fe1dc12b682057cf73fbb76032f", func := "dowel/dowellaw48.VariantUses", spec := "variantUses", unfollowed := true, recurses := true, apart := false }
def VariantUsesSaid : Prop := variantUsesRow.holds Try.pinned (OpenSpec.ofChange variantUsesSpec)

/-- ITS FALSE NEIGHBOUR: 'it returns false'. Refute it at one input. -/
def variantUsesWrong : ChangeSpec := { name := "variantUses", fn := fun _ => fun
  | [d1, d2] => { results := [.lit (.bool false)], args := [d1, d2] }
  | _ => none }
def VariantUsesWrongFalsely : Prop := variantUsesRow.holds Try.pinned (OpenSpec.ofChange variantUsesWrong)

/-- 'dowellaw48.VariantAllows': WHATEVER THE INPUT: true; the input reads as it did. -/
def variantAllowsSpec : ChangeSpec := { name := "variantAllows", fn := fun _ => fun
  | [d1, d2] => { results := [.lit (.bool true)], args := [d1, d2] }
  | _ => none }
def variantAllowsRow : OpenClaim := { program := "ytkphggmbimjhjaa", sum := "e13c9f9c378aa2ae0ae3fb570291cbbec16e3fe1dc12b682057cf73fbb76032f", func := "dowel/dowellaw48.VariantAllows", spec := "variantAllows", unfollowed := true, recurses := true, apart := false }
def VariantAllowsSaid : Prop := variantAllowsRow.holds Try.pinned (OpenSpec.ofChange variantAllowsSpec)

/-- ITS FALSE NEIGHBOUR: 'it returns false'. Refute it at one input. -/
def variantAllowsWrong : ChangeSpec := { name := "variantAllows", fn := fun _ => fun
  | [d1, d2] => { results := [.lit (.bool false)], args := [d1, d2] }
  | _ => none }
def VariantAllowsWrongFalsely : Prop := variantAllowsRow.holds Try.pinned (OpenSpec.ofChange variantAllowsWrong)

/-- 'dowellaw48.VariantProducts': WHATEVER THE INPUT: true; the input reads as it did. -/
def variantProductsSpec : ChangeSpec := { name := "variantProducts", fn := fun _ => fun
  | [d] => { results := [.lit (.bool true)], args := [d] }
  | _ => none }
def variantProductsRow : OpenClaim := { program := "ytkphggmbimjhjaa", sum := "e13c9f9c378aa2ae0ae3fb570291cbbec16e3fe1dc12b682057cf73fbb76032f", func := "dowel/dowellaw48.VariantProducts", spec := "variantProducts", unfollowed := true, recurses := true, apart := false }
def VariantProductsSaid : Prop := variantProductsRow.holds Try.pinned (OpenSpec.ofChange variantProductsSpec)

/-- ITS FALSE NEIGHBOUR: 'it returns false'. Refute it at one input. -/
def variantProductsWrong : ChangeSpec := { name := "variantProducts", fn := fun _ => fun
  | [d] => { results := [.lit (.bool false)], args := [d] }
  | _ => none }
def VariantProductsWrongFalsely : Prop := variantProductsRow.holds Try.pinned (OpenSpec.ofChange variantProductsWrong)

/- THE SECOND FORM. 'bulk': how many values and letters a reading holds, each counted each time it is reached (what is shared counts as often as it is met; a slice's spare places count too). A statement '..UptoSaid' is the law's where the arguments, and the package variables that the reading takes, are together of bulk at most 1048576: NARROWER than '..Said'. Prove '..Said' where nothing that the law and all that it calls make is longer than what came in: it says more and counts as full. Else prove '..UptoSaid'. A law counts once. -/
mutual
def uptoBulk {H : Type} : DataW H → Nat
  | .lit (.string bytes) => bytes.length + 1
  | .lit _ => 1
  | .nil => 1
  | .ptr d => uptoBulk d + 1
  | .slice elems spare => uptoBulkAll elems + uptoBulkAll spare + 1
  | .agg parts => uptoBulkAll parts + 1
  | .iface _ d => uptoBulk d + 1
  | .map entries => uptoBulkEntries entries + 1
  | .held _ => 1
def uptoBulkAll {H : Type} : List (DataW H) → Nat
  | [] => 0
  | d :: r => uptoBulk d + uptoBulkAll r
def uptoBulkEntries {H : Type} : List (Lit × DataW H) → Nat
  | [] => 0
  | x :: r => uptoBulkEntry x + uptoBulkEntries r
def uptoBulkEntry {H : Type} : Lit × DataW H → Nat
  | (.string bytes, d) => bytes.length + uptoBulk d + 1
  | (_, d) => uptoBulk d + 1
 end
def uptoSmall : (H : Type) → List (DataW H) → Bool := fun _ ds => decide (uptoBulkAll ds ≤ 1048576)
def OpenSpec.upto (s : _root_.Go.ChangeSpec) : _root_.Go.OpenSpec := { _root_.Go.OpenSpec.ofChange s with cond := some uptoSmall }

/-- 'dowellaw48.VariantCounts', WHERE WHAT IT READS IS OF BULK AT MOST 1048576: true; the input reads as it did. -/
def variantCountsUptoRow : OpenClaim := { program := "ytkphggmbimjhjaa", sum := "e13c9f9c378aa2ae0ae3fb570291cbbec16e3fe1dc12b682057cf73fbb76032f", func := "dowel/dowellaw48.VariantCounts", spec := "variantCounts", unfollowed := true, recurses := true, apart := false, narrowed := true }
def VariantCountsUptoSaid : Prop := variantCountsUptoRow.holds Try.pinned (OpenSpec.upto variantCountsSpec)

/-- 'dowellaw48.VariantForces', WHERE WHAT IT READS IS OF BULK AT MOST 1048576: true; the input reads as it did. -/
def variantForcesUptoRow : OpenClaim := { program := "ytkphggmbimjhjaa", sum := "e13c9f9c378aa2ae0ae3fb570291cbbec16e3fe1dc12b682057cf73fbb76032f", func := "dowel/dowellaw48.VariantForces", spec := "variantForces", unfollowed := true, recurses := true, apart := false, narrowed := true }
def VariantForcesUptoSaid : Prop := variantForcesUptoRow.holds Try.pinned (OpenSpec.upto variantForcesSpec)

/-- 'dowellaw48.VariantConflicts', WHERE WHAT IT READS IS OF BULK AT MOST 1048576: true; the input reads as it did. -/
def variantConflictsUptoRow : OpenClaim := { program := "ytkphggmbimjhjaa", sum := "e13c9f9c378aa2ae0ae3fb570291cbbec16e3fe1dc12b682057cf73fbb76032f", func := "dowel/dowellaw48.VariantConflicts", spec := "variantConflicts", unfollowed := true, recurses := true, apart := false, narrowed := true }
def VariantConflictsUptoSaid : Prop := variantConflictsUptoRow.holds Try.pinned (OpenSpec.upto variantConflictsSpec)

/-- 'dowellaw48.VariantDivides', WHERE WHAT IT READS IS OF BULK AT MOST 1048576: true; the input reads as it did. -/
def variantDividesUptoRow : OpenClaim := { program := "ytkphggmbimjhjaa", sum := "e13c9f9c378aa2ae0ae3fb570291cbbec16e3fe1dc12b682057cf73fbb76032f", func := "dowel/dowellaw48.VariantDivides", spec := "variantDivides", unfollowed := true, recurses := true, apart := false, narrowed := true }
def VariantDividesUptoSaid : Prop := variantDividesUptoRow.holds Try.pinned (OpenSpec.upto variantDividesSpec)

/-- 'dowellaw48.VariantRedundant', WHERE WHAT IT READS IS OF BULK AT MOST 1048576: true; the input reads as it did. -/
def variantRedundantUptoRow : OpenClaim := { program := "ytkphggmbimjhjaa", sum := "e13c9f9c378aa2ae0ae3fb570291cbbec16e3fe1dc12b682057cf73fbb76032f", func := "dowel/dowellaw48.VariantRedundant", spec := "variantRedundant", unfollowed := true, recurses := true, apart := false, narrowed := true }
def VariantRedundantUptoSaid : Prop := variantRedundantUptoRow.holds Try.pinned (OpenSpec.upto variantRedundantSpec)

/-- 'dowellaw48.VariantUses', WHERE WHAT IT READS IS OF BULK AT MOST 1048576: true; the input reads as it did. -/
def variantUsesUptoRow : OpenClaim := { program := "ytkphggmbimjhjaa", sum := "e13c9f9c378aa2ae0ae3fb570291cbbec16e3fe1dc12b682057cf73fbb76032f", func := "dowel/dowellaw48.VariantUses", spec := "variantUses", unfollowed := true, recurses := true, apart := false, narrowed := true }
def VariantUsesUptoSaid : Prop := variantUsesUptoRow.holds Try.pinned (OpenSpec.upto variantUsesSpec)

/-- 'dowellaw48.VariantAllows', WHERE WHAT IT READS IS OF BULK AT MOST 1048576: true; the input reads as it did. -/
def variantAllowsUptoRow : OpenClaim := { program := "ytkphggmbimjhjaa", sum := "e13c9f9c378aa2ae0ae3fb570291cbbec16e3fe1dc12b682057cf73fbb76032f", func := "dowel/dowellaw48.VariantAllows", spec := "variantAllows", unfollowed := true, recurses := true, apart := false, narrowed := true }
def VariantAllowsUptoSaid : Prop := variantAllowsUptoRow.holds Try.pinned (OpenSpec.upto variantAllowsSpec)

/-- 'dowellaw48.VariantProducts', WHERE WHAT IT READS IS OF BULK AT MOST 1048576: true; the input reads as it did. -/
def variantProductsUptoRow : OpenClaim := { program := "ytkphggmbimjhjaa", sum := "e13c9f9c378aa2ae0ae3fb570291cbbec16e3fe1dc12b682057cf73fbb76032f", func := "dowel/dowellaw48.VariantProducts", spec := "variantProducts", unfollowed := true, recurses := true, apart := false, narrowed := true }
def VariantProductsUptoSaid : Prop := variantProductsUptoRow.holds Try.pinned (OpenSpec.upto variantProductsSpec)

end Rows
end Go.Proofs.Ytkphggmbimjhjaa
