/- The reference's New by the machine. -/
import Derived.Test.YtkbkmngbenohkaaBuB1
import Derived.Test.YtkbkmngbenohkaaBuB2
import Derived.Test.YtkbkmngbenohkaaM6
set_option linter.unusedSimpArgs false
set_option linter.unusedVariables false
namespace Go.Proofs.Ytkbkmngbenohkaa
open Go.RowKit

@[simp] theorem mzero_len (n k : Nat) : (mzero n k).length = k := by simp [mzero]
end Go.Proofs.Ytkbkmngbenohkaa
