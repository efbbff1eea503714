/- The reference's functions on an order by the machine: Less, Concurrent, Covers, Down, IsLinear. -/
import Derived.Test.YtkbkmngbenohkaaGrA3
set_option linter.unusedSimpArgs false
set_option linter.unusedVariables false
namespace Go.Proofs.Ytkbkmngbenohkaa
open Go.RowKit

def mrows (M : List (List Bool)) : List PV := M.map fun r => .sl r.length (bsl r)
@[simp] theorem mrows_len (M : List (List Bool)) : (mrows M).length = M.length := by simp [mrows]
theorem mrows_get (M : List (List Bool)) (i : Nat) (h : i < M.length) : (mrows M)[i]? = some (.sl (M.getD i []).length (bsl (M.getD i []))) := by simp [mrows, h]
/-- The reference's order as data. -/
def rord (n : Nat) (M : List (List Bool)) : List AV := [.v (.int .i64 (n : Int)), .sl M.length (mrows M)]
structure Mat (n : Nat) (M : List (List Bool)) : Prop where
  len : M.length = n
  le : n ≤ 64
  row : ∀ i, i < n → (M.getD i []).length = n
def mlt (M : List (List Bool)) : Lt := fun i j => (M.getD i []).getD j false
def rless (n : Nat) (lt : Lt) (a b : Int) : Bool := inn n a && inn n b && lt a.toNat b.toNat
theorem oless_r (n : Nat) (ab : List Nat) (a b : Int) : oless n ab a b = rless n (wlt ab) a b := rfl
end Go.Proofs.Ytkbkmngbenohkaa
