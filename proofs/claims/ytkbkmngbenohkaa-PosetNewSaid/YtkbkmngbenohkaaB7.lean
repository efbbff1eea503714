/- All linear extensions: those that begin with a list; the count up to a bound. Plain Lean; no program. -/
import Derived.Test.YtkbkmngbenohkaaB6
set_option linter.unusedSimpArgs false
set_option linter.unusedVariables false
namespace Go.Proofs.Ytkbkmngbenohkaa
open Go.RowKit

/-- All linear extensions that begin with l, where d elements are left. -/
def allE (n : Nat) (lt : Lt) : Nat → List Nat → List (List Nat)
  | 0, l => [l]
  | d + 1, l => (List.range n).flatMap fun a => if isfree n lt l a = true then allE n lt d (l ++ [a]) else []
/-- What stands when the elements below k are through. -/
def allK (n : Nat) (lt : Lt) (d : Nat) (l : List Nat) (k : Nat) : List (List Nat) := (List.range k).flatMap fun a => if isfree n lt l a = true then allE n lt d (l ++ [a]) else []
theorem allK_yes {n : Nat} {lt : Lt} {d : Nat} {l : List Nat} {k : Nat} (h : isfree n lt l k = true) : allK n lt d l (k + 1) = allK n lt d l k ++ allE n lt d (l ++ [k]) := by simp [allK, List.range_succ, List.flatMap_append, h]
theorem allK_no {n : Nat} {lt : Lt} {d : Nat} {l : List Nat} {k : Nat} (h : isfree n lt l k = false) : allK n lt d l (k + 1) = allK n lt d l k := by simp [allK, List.range_succ, List.flatMap_append, h]
theorem allE_K (n : Nat) (lt : Lt) (d : Nat) (l : List Nat) : allE n lt (d + 1) l = allK n lt d l n := rfl
theorem allK_len' (n : Nat) (lt : Lt) (d : Nat) (l : List Nat) (h : ∀ l, (allE n lt d l).length ≤ n ^ d) : ∀ k, (allK n lt d l k).length ≤ k * n ^ d
  | 0 => by simp [allK]
  | k + 1 => by
    have ih := allK_len' n lt d l h k
    rw [Nat.add_mul, Nat.one_mul]
    cases hf : isfree n lt l k with
    | true =>
      rw [allK_yes hf, List.length_append]
      have := h (l ++ [k])
      omega
    | false => rw [allK_no hf]; omega
theorem allE_len (n : Nat) (lt : Lt) : ∀ d l, (allE n lt d l).length ≤ n ^ d
  | 0, l => by simp [allE]
  | d + 1, l => by
    have := allK_len' n lt d l (allE_len n lt d) n
    rw [Nat.pow_succ, Nat.mul_comm, allE_K]
    exact this
theorem allK_len (n : Nat) (lt : Lt) (d : Nat) (l : List Nat) (k : Nat) : (allK n lt d l k).length ≤ k * n ^ d := allK_len' n lt d l (allE_len n lt d) k
theorem pow_small {n d : Nat} (hn : n ≤ 6) (hd : d ≤ 5) : n ^ d ≤ 7776 :=
  Nat.le_trans (Nat.pow_le_pow_left hn d) (Nat.le_trans (Nat.pow_le_pow_right (by omega) hd) (by decide))
theorem allE_grow {n : Nat} {lt : Lt} : ∀ (d : Nat) (l : List Nat), Grow n lt l → ∀ r ∈ allE n lt d l, Grow n lt r ∧ r.length = l.length + d
  | 0, l, h, r, hr => by
    simp only [allE, List.mem_singleton] at hr
    subst hr; exact ⟨h, rfl⟩
  | d + 1, l, h, r, hr => by
    simp only [allE, List.mem_flatMap, List.mem_range] at hr
    obtain ⟨a, ha, hr⟩ := hr
    split at hr
    · rename_i hf
      have := allE_grow d (l ++ [a]) (.snoc h ha hf) r hr
      rw [List.length_append, List.length_singleton] at this
      exact ⟨this.1, by omega⟩
    · cases hr
theorem allE_lin {n : Nat} {lt : Lt} {r : List Nat} (h : r ∈ allE n lt n []) : LinN n lt r := by
  obtain ⟨h1, h2⟩ := allE_grow n [] .nil r h
  exact ⟨by simpa using h2, h1.bd, h1.pw⟩
theorem flatMap_head {α : Type} {f : Nat → List α} {x : α} : ∀ {n a : Nat}, a < n → (∀ b, b < a → f b = []) → (f a).head? = some x → ((List.range n).flatMap f).head? = some x
  | 0, a, h, _, _ => by omega
  | n + 1, a, h, h0, h1 => by
    rw [List.range_succ, List.flatMap_append, List.head?_append]
    by_cases ha : a < n
    · rw [flatMap_head ha h0 h1]; rfl
    · obtain rfl : a = n := by omega
      have : (List.range a).flatMap f = [] := by
        rw [List.flatMap_eq_nil_iff]
        intro b hb; exact h0 b (List.mem_range.1 hb)
      rw [this]; simp [h1]
theorem allE_head {n : Nat} {lt : Lt} (hS : Spo n lt) : ∀ (d k : Nat), k + d = n → (allE n lt d (lin n lt k)).head? = some (lin n lt n)
  | 0, k, h => by
    obtain rfl : k = n := by omega
    rfl
  | d + 1, k, h => by
    have hx := next_ok hS (lin n lt k) (by simp; omega)
    refine flatMap_head (a := nextf n lt (lin n lt k)) hx.1 (fun b hb => by rw [if_neg (by rw [hx.2.2 b hb]; decide)]) ?_
    rw [if_pos hx.2.1]
    exact allE_head hS d (k + 1) (by omega)
/-- The number of extensions. -/
def extN (n : Nat) (lt : Lt) (d : Nat) (l : List Nat) : Nat := (allE n lt d l).length
def extK (n : Nat) (lt : Lt) (d : Nat) (l : List Nat) (k : Nat) : Nat := (allK n lt d l k).length
theorem extK_yes {n : Nat} {lt : Lt} {d : Nat} {l : List Nat} {k : Nat} (h : isfree n lt l k = true) : extK n lt d l (k + 1) = extK n lt d l k + extN n lt d (l ++ [k]) := by simp [extK, extN, allK_yes h]
theorem extK_no {n : Nat} {lt : Lt} {d : Nat} {l : List Nat} {k : Nat} (h : isfree n lt l k = false) : extK n lt d l (k + 1) = extK n lt d l k := by simp [extK, allK_no h]
theorem extK_zero (n : Nat) (lt : Lt) (d : Nat) (l : List Nat) : extK n lt d l 0 = 0 := by simp [extK, allK]
theorem extK_full (n : Nat) (lt : Lt) (d : Nat) (l : List Nat) : extK n lt d l n = extN n lt (d + 1) l := rfl
theorem extN_zero (n : Nat) (lt : Lt) (l : List Nat) : extN n lt 0 l = 1 := rfl
theorem extK_mono {n : Nat} {lt : Lt} {d : Nat} {l : List Nat} {k m : Nat} (h : k ≤ m) : extK n lt d l k ≤ extK n lt d l m := by
  induction m with
  | zero => obtain rfl : k = 0 := by omega
            exact Nat.le_refl _
  | succ m ih =>
    by_cases hk : k = m + 1
    · subst hk; exact Nat.le_refl _
    · refine Nat.le_trans (ih (by omega)) ?_
      cases hf : isfree n lt l m with
      | true => rw [extK_yes hf]; omega
      | false => rw [extK_no hf]; exact Nat.le_refl _
/-- The number so far, which stops at a bound. -/
def upto (most c x : Nat) : Nat := min most (c + x)
theorem upto_stop {n : Nat} {lt : Lt} {d : Nat} {l : List Nat} {k most c : Nat} (hk : k ≤ n) (h : most ≤ upto most c (extK n lt d l k)) : upto most c (extK n lt d l k) = upto most c (extN n lt (d + 1) l) := by
  have := extK_mono (n := n) (lt := lt) (d := d) (l := l) hk
  rw [extK_full] at this
  unfold upto at *; omega
end Go.Proofs.Ytkbkmngbenohkaa
