/- The order's New by the machine. -/
import Derived.Test.YtkbkmngbenohkaaVoA8
import Derived.Test.YtkbkmngbenohkaaVoB5
import Derived.Test.YtkbkmngbenohkaaVoM6
import Derived.Test.YtkbkmngbenohkaaVoFacts
import Derived.RangeFuncBox
import Derived.RangeFuncLeaves
import Derived.WalkKit
import Derived.OwnWalkIn
import Derived.TacticsInMore
import Derived.LoopNIn
import Derived.LoopIn
set_option linter.unusedSimpArgs false
set_option linter.unusedVariables false
namespace Go.Proofs.Ytkbkmngbenohkaa
open Go.RowKit

theorem irow_get (M : List (List Int)) (j : Nat) : (M.map isl).getD j [] = isl (M.getD j []) := by
  simp only [List.getD_eq_getElem?_getD, List.getElem?_map]
  cases M[j]? <;> rfl
def nrows (L : List (List Int)) : List PV := L.map fun r => .sl r.length (isl r)
theorem downs_isl (M : List (List Int)) : downs (rowsSl (M.map isl)) = some (nrows M) := by
  rw [downs_rowsSl]
  simp [nrows]
theorem nrows_get (M : List (List Int)) (i : Nat) (h : i < M.length) : (nrows M)[i]? = some (.sl (M.getD i []).length (isl (M.getD i []))) := by simp [nrows, h]
theorem nxt_len (E : Prs) (a : Nat) : (nxt E a).length ≤ E.length := by simp only [nxt, List.length_map]; exact List.length_filter_le _ _
theorem nx_set {n : Nat} {E : Prs} {k : Nat} (hE : inE n E = true) (hk : k < E.length) : (nxL n E (k + 1)).map isl = ((nxL n E k).map isl).set (E.getD k (0, 0)).1.toNat (isl ((nxL n E k).getD (E.getD k (0, 0)).1.toNat []) ++ [.v (.int .i64 (E.getD k (0, 0)).2)]) := by
  rw [nxL_succ hE hk, List.map_set]
  congr 1
  simp [isl]
theorem rows_zero (n : Nat) (E : Prs) : (nxL n E 0).map isl = List.replicate n [] := by rw [nxL_zero]; simp [isl]
theorem getD_mem {l : List Nat} {k : Nat} (h : k < l.length) : l.getD k 0 ∈ l := by
  rw [List.getD_eq_getElem?_getD, List.getElem?_eq_getElem h]; exact List.getElem_mem h
theorem isl_get_set (l : List Int) (k : Nat) (x : Int) (h : k < l.length) : (isl (l.set k x))[k]? = some (.v (.int .i64 x)) := by
  rw [isl_get _ _ (by simpa using h), getD_set]; simp [h]
def scells (s : List (List Nat)) : List AV := s.map fun l => .sl l.length (ul l)
@[simp] theorem scells_len (s : List (List Nat)) : (scells s).length = s.length := by simp [scells]
end Go.Proofs.Ytkbkmngbenohkaa
