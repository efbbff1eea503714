/- Facts on the arrays of the translation, by program (gen_facts3.py). -/
import Derived.Test.YtkbkmngbenohkaaVoFacts2
import Derived.Test.YtkbkmngbenohkaaVoM5
namespace Go.Proofs.Ytkbkmngbenohkaa
open Go.RowKit
instance ar38 : Arr Try.prog 38 2 1 := Arr.of Try.underlying38 (by kernel_rfl)
instance ar187 : Arr Try.prog 187 0 1 := Arr.of Try.underlying187 (by kernel_rfl)
end Go.Proofs.Ytkbkmngbenohkaa
