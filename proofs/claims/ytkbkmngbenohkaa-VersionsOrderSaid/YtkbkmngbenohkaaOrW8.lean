/- The reference's Status, minimal, Suspects, Minimal, Inherited by the machine. -/
import Derived.Test.YtkbkmngbenohkaaOrV5
set_option linter.unusedSimpArgs false
set_option linter.unusedVariables false
namespace Go.Proofs.Ytkbkmngbenohkaa
open Go.RowKit

structure GG (n : Nat) (Ps : List (List Int)) : Prop where
  len : Ps.length = n
  n64 : n ≤ 64
  V : Valid Ps
  m : ∀ v, (Ps.getD v []).length ≤ 64
  ac : ¬ ∃ a, a < n ∧ Clo (edg Ps n 0) a a
theorem upE_len (Ps : List (List Int)) (v : Nat) : (upE Ps v).length ≤ 64 := wat_len _ _
end Go.Proofs.Ytkbkmngbenohkaa
