/- The order's way to the closure: the row is all or there is a cycle; the words. Plain. -/
import Derived.Test.YtkbkmngbenohkaaVoB3
set_option linter.unusedSimpArgs false
set_option linter.unusedVariables false
namespace Go.Proofs.Ytkbkmngbenohkaa
open Go.RowKit

theorem KInv.index {n : Nat} {E : Prs} {k : Nat} {row : List Nat} {W : List Int} (h : KInv n E k row W) {b : Nat} (hb : b ∈ row) : ∃ j : Nat, row[j]? = some b := by
  obtain ⟨j, hj, rfl⟩ := List.getElem_of_mem hb
  exact ⟨j, List.getElem?_eq_getElem hj⟩
/-- What leads to an element of the row stands ahead of it. -/
theorem KInv.ahead {n : Nat} {E : Prs} {k : Nat} {row : List Nat} {W : List Int} (h : KInv n E k row W) {a b : Nat} (hc : Clo E a b) : ∀ j : Nat, row[j]? = some b → ∃ i : Nat, i < j ∧ row[i]? = some a := by
  induction hc with
  | one he =>
    intro j hj
    obtain ⟨i, y, h1, h2, h3⟩ := h.top j _ hj _ he rfl
    simp only at h3
    exact ⟨i, h1, by rw [h2]; congr 1; omega⟩
  | more he _ ih =>
    intro j hj
    obtain ⟨i, h1, h2⟩ := ih j hj
    obtain ⟨i', y, h3, h4, h5⟩ := h.top i _ h2 _ he rfl
    simp only at h5
    exact ⟨i', by omega, by rw [h4]; congr 1; omega⟩
theorem nodup_idx {row : List Nat} (h : row.Nodup) {i j a : Nat} (hi : row[i]? = some a) (hj : row[j]? = some a) : i = j := by
  obtain ⟨h1, h2⟩ := List.getElem?_eq_some_iff.1 hi
  obtain ⟨h3, h4⟩ := List.getElem?_eq_some_iff.1 hj
  rcases Nat.lt_trichotomy i j with hlt | heq | hlt
  · exact absurd (h2.trans h4.symm) (List.pairwise_iff_getElem.1 (List.nodup_iff_pairwise_ne.1 h) i j h1 h3 hlt)
  · exact heq
  · exact absurd (h4.trans h2.symm) (List.pairwise_iff_getElem.1 (List.nodup_iff_pairwise_ne.1 h) j i h3 h1 hlt)
theorem nodup_le : ∀ (n : Nat) (l : List Nat), l.Nodup → (∀ x ∈ l, x < n) → l.length ≤ n
  | 0, l, _, h => by
    cases l with
    | nil => simp
    | cons x l => exact absurd (h x List.mem_cons_self) (Nat.not_lt_zero _)
  | n + 1, l, hn, h => by
    have := nodup_le n (l.erase n) (hn.erase n) fun x hx => by
      have h1 := h x (List.mem_of_mem_erase hx)
      have h2 : x ≠ n := fun e => by subst e; exact (List.Nodup.not_mem_erase hn) hx
      omega
    have h3 := List.length_erase (a := n) (l := l)
    split at h3 <;> omega
theorem KInv.all {n : Nat} {E : Prs} {k : Nat} {row : List Nat} {W : List Int} (h : KInv n E k row W) (hl : row.length = n) {a : Nat} (ha : a < n) : a ∈ row := by
  apply Classical.byContradiction
  intro hna
  have := nodup_le n (a :: row) (List.nodup_cons.2 ⟨hna, h.nd⟩) fun x hx => by
    rcases List.mem_cons.1 hx with rfl | hx
    · exact ha
    · exact h.lt x hx
  simp at this
  omega
theorem spo_cl {n : Nat} {E : Prs} (h : ¬ ∃ a, a < n ∧ Clo E a a) : Spo n (cl E) := by
  refine ⟨fun a ha => ?_, fun a b c _ _ _ h1 h2 => cl_iff.2 ((cl_iff.1 h1).trans (cl_iff.1 h2))⟩
  cases hx : cl E a a with
  | false => rfl
  | true => exact absurd ⟨a, ha, cl_iff.1 hx⟩ h
end Go.Proofs.Ytkbkmngbenohkaa
