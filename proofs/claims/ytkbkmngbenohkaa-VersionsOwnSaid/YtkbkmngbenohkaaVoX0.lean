/- What the laws on versions have in common. -/
import Derived.Test.YtkbkmngbenohkaaVoW8
import Derived.Test.YtkbkmngbenohkaaVoV6
set_option linter.unusedSimpArgs false
set_option linter.unusedVariables false
namespace Go.Proofs.Ytkbkmngbenohkaa
open Go.RowKit

theorem minL_len2 (n : Nat) (E : Prs) (st : List Int) (l : List Nat) (i : Nat) : ((minL n E st l).getD i (0, [])).2.length ≤ 1000 := by
  by_cases h : i < (minL n E st l).length
  · rw [(minL_mem (getD_mem' (0, []) h)).2.2]
    have := els_len (susW n E (whr st 2).testBit ((minL n E st l).getD i (0, [])).1)
    omega
  · rw [List.getD_eq_getElem?_getD, List.getElem?_eq_none (by omega)]; exact Nat.zero_le _
end Go.Proofs.Ytkbkmngbenohkaa
