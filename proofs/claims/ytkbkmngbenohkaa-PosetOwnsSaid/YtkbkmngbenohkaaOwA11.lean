/- The reference's Down, Pairs; Ints, by the machine. -/
import Derived.Test.YtkbkmngbenohkaaOwA10
set_option linter.unusedSimpArgs false
set_option linter.unusedVariables false
namespace Go.Proofs.Ytkbkmngbenohkaa
open Go.RowKit

/-- One pair that the reference makes of a number. -/
def prs1 (n : Int) (x : Int) : Option (Int × Int) :=
  let k := around x 1000000
  if k / (n * n) % 9 > 0 then
    if k % n = k / n % n then none
    else if k % n * 3 % 7 > k / n % n * 3 % 7 then some (k / n % n, k % n) else some (k % n, k / n % n)
  else some (k % n, k / n % n)
def prs (n : Int) (l : List Int) (i : Nat) : Prs := (l.take i).filterMap (prs1 n)
def pairs (n : Int) (l : List Int) : Prs := if n < 1 then [] else prs n l 12
theorem prs_succ {n : Int} {l : List Int} {i : Nat} (h : i < l.length) : prs n l (i + 1) = prs n l i ++ (prs1 n (l.getD i 0)).toList := by
  unfold prs
  rw [List.take_add_one, List.getElem?_eq_getElem h, List.filterMap_append]
  congr 1
  simp only [Option.toList_some, List.getD_eq_getElem?_getD, List.getElem?_eq_getElem h, Option.getD_some, List.filterMap_cons, List.filterMap_nil]
  cases prs1 n l[i] <;> rfl
theorem prs_len (n : Int) (l : List Int) (i : Nat) : (prs n l i).length ≤ i := by
  have := List.length_filterMap_le (prs1 n) (l.take i)
  rw [List.length_take] at this
  unfold prs; omega
end Go.Proofs.Ytkbkmngbenohkaa
