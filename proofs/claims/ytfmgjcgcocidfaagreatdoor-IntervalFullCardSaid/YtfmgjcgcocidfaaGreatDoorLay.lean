/-
  The library's contracts at structs, laid at this program (they stand in the shelf's text).
-/
import Derived.Test.YtfmgjcgcocidfaaGreatDoorShelf
namespace Go.Proofs
end Go.Proofs
