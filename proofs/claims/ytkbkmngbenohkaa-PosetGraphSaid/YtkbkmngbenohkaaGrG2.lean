/- slices.Compact of a list without neighbours that are equal; graph.successors. By the machine. -/
import Derived.Test.YtkbkmngbenohkaaGrG1
import Derived.Test.YtkbkmngbenohkaaGrA10
set_option linter.unusedSimpArgs false
set_option linter.unusedVariables false
namespace Go.Proofs.Ytkbkmngbenohkaa
open Go.RowKit

/-- The sorted successors, those before i done. -/
def nxM (n : Nat) (E : Prs) (i : Nat) : List (List Int) := (List.range n).map fun a => if a < i then srt (nxt E a) else nxt E a
@[simp] theorem nxM_len (n : Nat) (E : Prs) (i : Nat) : (nxM n E i).length = n := by simp [nxM]
end Go.Proofs.Ytkbkmngbenohkaa
