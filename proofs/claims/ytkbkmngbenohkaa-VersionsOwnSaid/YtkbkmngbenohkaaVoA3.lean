/- An order's functions by the machine: join, below, Covers; lists of pairs. -/
import Derived.Test.YtkbkmngbenohkaaVoA2
import Derived.Test.YtkbkmngbenohkaaVoFacts3
set_option linter.unusedSimpArgs false
set_option linter.unusedVariables false
namespace Go.Proofs.Ytkbkmngbenohkaa
open Go.RowKit

abbrev Lt := Nat → Nat → Bool
/-- For each element how many are less. -/
def cnt (n : Nat) (lt : Lt) (b : Nat) : Nat := ((List.range n).filter fun a => lt a b).length
end Go.Proofs.Ytkbkmngbenohkaa
