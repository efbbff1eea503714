/- The reference's functions on an order by the machine: Less, Concurrent, Covers, Down, IsLinear. -/
import Derived.Test.YtkbkmngbenohkaaVoA3
set_option linter.unusedSimpArgs false
set_option linter.unusedVariables false
namespace Go.Proofs.Ytkbkmngbenohkaa
open Go.RowKit

def mrows (M : List (List Bool)) : List PV := M.map fun r => .sl r.length (bsl r)
@[simp] theorem mrows_len (M : List (List Bool)) : (mrows M).length = M.length := by simp [mrows]
def mlt (M : List (List Bool)) : Lt := fun i j => (M.getD i []).getD j false
end Go.Proofs.Ytkbkmngbenohkaa
