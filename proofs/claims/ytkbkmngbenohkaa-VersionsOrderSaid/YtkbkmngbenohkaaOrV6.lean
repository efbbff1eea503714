/- Blames: apart from each other, one above each bad version, those of a version above. Plain Lean; no program. -/
import Derived.Test.YtkbkmngbenohkaaOrV5
set_option linter.unusedSimpArgs false
set_option linter.unusedVariables false
namespace Go.Proofs.Ytkbkmngbenohkaa
open Go.RowKit

theorem upE_eq {Ps : List (List Int)} (h64 : Ps.length ≤ 64) {v : Nat} (hv : v < Ps.length) : upE Ps v = (List.range Ps.length).filter fun u => decide (u = v) || cl (edg Ps Ps.length 0) u v := by
  unfold upE wat
  rw [if_pos (by omega), Int.toNat_natCast, ancW_get hv, aw1, els_cw h64]
end Go.Proofs.Ytkbkmngbenohkaa
