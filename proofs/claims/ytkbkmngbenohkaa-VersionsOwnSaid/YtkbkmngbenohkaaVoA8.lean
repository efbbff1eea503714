/- The reference's New by the machine. -/
import Derived.Test.YtkbkmngbenohkaaVoB1
import Derived.Test.YtkbkmngbenohkaaVoB2
import Derived.Test.YtkbkmngbenohkaaVoM6
set_option linter.unusedSimpArgs false
set_option linter.unusedVariables false
namespace Go.Proofs.Ytkbkmngbenohkaa
open Go.RowKit

@[simp] theorem mzero_len (n k : Nat) : (mzero n k).length = k := by simp [mzero]
end Go.Proofs.Ytkbkmngbenohkaa
