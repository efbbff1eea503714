/- What the laws on versions have in common. -/
import Derived.Test.YtkbkmngbenohkaaBuW8
import Derived.Test.YtkbkmngbenohkaaBuV5
set_option linter.unusedSimpArgs false
set_option linter.unusedVariables false
namespace Go.Proofs.Ytkbkmngbenohkaa
open Go.RowKit

theorem ancsN_spec {n : Nat} {Ps : List (List Int)} (hPs : Ps.length = n) (hn : n ≤ 64) (P : List Nat) (v : Nat) :
    Spec Try.prog 60 (inSt [.fp 0 (gra n P (ancW n (edg Ps n 0))), .v (.int .i64 (v : Int))] []) (outSt (.sl (upE Ps v).length (nsl (upE Ps v))) []) := by
  subst hPs
  exact ancestors_spec _ P _ (ancW_len _ _) hn (ancW_lt hn _) v
end Go.Proofs.Ytkbkmngbenohkaa
