/- All linear extensions: those that begin with a list; the count up to a bound. Plain Lean; no program. -/
import Derived.Test.YtkbkmngbenohkaaOwB6
set_option linter.unusedSimpArgs false
set_option linter.unusedVariables false
namespace Go.Proofs.Ytkbkmngbenohkaa
open Go.RowKit

/-- All linear extensions that begin with l, where d elements are left. -/
def allE (n : Nat) (lt : Lt) : Nat → List Nat → List (List Nat)
  | 0, l => [l]
  | d + 1, l => (List.range n).flatMap fun a => if isfree n lt l a = true then allE n lt d (l ++ [a]) else []
/-- What stands when the elements below k are through. -/
def allK (n : Nat) (lt : Lt) (d : Nat) (l : List Nat) (k : Nat) : List (List Nat) := (List.range k).flatMap fun a => if isfree n lt l a = true then allE n lt d (l ++ [a]) else []
theorem allK_yes {n : Nat} {lt : Lt} {d : Nat} {l : List Nat} {k : Nat} (h : isfree n lt l k = true) : allK n lt d l (k + 1) = allK n lt d l k ++ allE n lt d (l ++ [k]) := by simp [allK, List.range_succ, List.flatMap_append, h]
theorem allK_no {n : Nat} {lt : Lt} {d : Nat} {l : List Nat} {k : Nat} (h : isfree n lt l k = false) : allK n lt d l (k + 1) = allK n lt d l k := by simp [allK, List.range_succ, List.flatMap_append, h]
/-- The number of extensions. -/
def extN (n : Nat) (lt : Lt) (d : Nat) (l : List Nat) : Nat := (allE n lt d l).length
def extK (n : Nat) (lt : Lt) (d : Nat) (l : List Nat) (k : Nat) : Nat := (allK n lt d l k).length
theorem extK_yes {n : Nat} {lt : Lt} {d : Nat} {l : List Nat} {k : Nat} (h : isfree n lt l k = true) : extK n lt d l (k + 1) = extK n lt d l k + extN n lt d (l ++ [k]) := by simp [extK, extN, allK_yes h]
theorem extK_no {n : Nat} {lt : Lt} {d : Nat} {l : List Nat} {k : Nat} (h : isfree n lt l k = false) : extK n lt d l (k + 1) = extK n lt d l k := by simp [extK, allK_no h]
theorem extK_zero (n : Nat) (lt : Lt) (d : Nat) (l : List Nat) : extK n lt d l 0 = 0 := by simp [extK, allK]
theorem extK_full (n : Nat) (lt : Lt) (d : Nat) (l : List Nat) : extK n lt d l n = extN n lt (d + 1) l := rfl
theorem extN_zero (n : Nat) (lt : Lt) (l : List Nat) : extN n lt 0 l = 1 := rfl
theorem extK_mono {n : Nat} {lt : Lt} {d : Nat} {l : List Nat} {k m : Nat} (h : k ≤ m) : extK n lt d l k ≤ extK n lt d l m := by
  induction m with
  | zero => obtain rfl : k = 0 := by omega
            exact Nat.le_refl _
  | succ m ih =>
    by_cases hk : k = m + 1
    · subst hk; exact Nat.le_refl _
    · refine Nat.le_trans (ih (by omega)) ?_
      cases hf : isfree n lt l m with
      | true => rw [extK_yes hf]; omega
      | false => rw [extK_no hf]; exact Nat.le_refl _
/-- The number so far, which stops at a bound. -/
def upto (most c x : Nat) : Nat := min most (c + x)
theorem upto_stop {n : Nat} {lt : Lt} {d : Nat} {l : List Nat} {k most c : Nat} (hk : k ≤ n) (h : most ≤ upto most c (extK n lt d l k)) : upto most c (extK n lt d l k) = upto most c (extN n lt (d + 1) l) := by
  have := extK_mono (n := n) (lt := lt) (d := d) (l := l) hk
  rw [extK_full] at this
  unfold upto at *; omega
end Go.Proofs.Ytkbkmngbenohkaa
