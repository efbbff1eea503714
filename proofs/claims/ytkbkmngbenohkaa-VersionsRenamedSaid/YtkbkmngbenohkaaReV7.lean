/- Suspects: what changes with one status. Plain Lean; no program. -/
import Derived.Test.YtkbkmngbenohkaaReV6
set_option linter.unusedSimpArgs false
set_option linter.unusedVariables false
namespace Go.Proofs.Ytkbkmngbenohkaa
open Go.RowKit

theorem sus_mem {n : Nat} (h64 : n ≤ 64) {E : Prs} {T : Nat → Bool} {w u : Nat} : u ∈ els (susW n E T w) ↔ u < n ∧ Clo (fst T E) u w := by
  rw [susW, els_cw h64, List.mem_filter, List.mem_range, cl_iff]
theorem whr2_bit {st : List Int} {x : Int} {c : Nat} (h : c < st.length) : (whr st x).testBit c = decide (st.getD c 0 = x) := by
  rw [whr_bit, decide_eq_true h, Bool.true_and]
end Go.Proofs.Ytkbkmngbenohkaa
