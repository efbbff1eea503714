/- The laws on orders. Plain Lean; no program. -/
import Derived.Test.YtkbkmngbenohkaaOwB5
import Derived.Test.YtkbkmngbenohkaaOwA8
import Derived.Test.YtkbkmngbenohkaaOwA12
set_option linter.unusedSimpArgs false
set_option linter.unusedVariables false
namespace Go.Proofs.Ytkbkmngbenohkaa
open Go.RowKit

theorem wlt_clo {n : Nat} {E : Prs} (hE : inE n E = true) : wlt (cloW n E) = cl E := by
  funext a b
  by_cases h : a < n ∧ b < n
  · exact cloW_lt h.1 h.2
  · have h2 : cl E a b = false := by
      cases hc : cl E a b with
      | false => rfl
      | true => exact absurd ((cl_iff.1 hc).lt hE) h
    rw [h2]
    by_cases ha : a < n
    · simp [wlt, cloW, List.getD_eq_getElem?_getD, ha, cw_bit]
      intro hb; exact absurd ⟨ha, hb⟩ h
    · simp [wlt, cloW, List.getD_eq_getElem?_getD, ha]
theorem mlt_clo {n : Nat} {E : Prs} (hE : inE n E = true) : mlt (cloM n E) = cl E := by
  funext a b
  by_cases h : a < n ∧ b < n
  · exact cloM_lt h.1 h.2
  · have h2 : cl E a b = false := by
      cases hc : cl E a b with
      | false => rfl
      | true => exact absurd ((cl_iff.1 hc).lt hE) h
    rw [h2]
    by_cases ha : a < n
    · have hb : ¬ b < n := fun hb => h ⟨ha, hb⟩
      simp [mlt, cloM, List.getD_eq_getElem?_getD, ha, hb]
    · simp [mlt, cloM, List.getD_eq_getElem?_getD, ha]
abbrev Cyc (n : Nat) (E : Prs) : Prop := ∃ a, a < n ∧ Clo E a a
theorem cloW_words {n : Nat} {E : Prs} (hn : n ≤ 64) : Words n (cloW n E) := ⟨by simp [cloW], hn, fun w hw => by
  simp only [cloW, List.mem_map] at hw
  obtain ⟨a, _, rfl⟩ := hw
  exact cw_lt n _ hn⟩
theorem cloM_mat {n : Nat} {E : Prs} (hn : n ≤ 64) : Mat n (cloM n E) := ⟨(cloM_mt n E).len, hn, (cloM_mt n E).row⟩

/-! what the reference's Pairs makes -/
theorem prs1_in {n : Nat} (hn : 1 ≤ n) {x : Int} {p : Int × Int} (h : prs1 (n : Int) x = some p) : 0 ≤ p.1 ∧ p.1 < (n : Int) ∧ 0 ≤ p.2 ∧ p.2 < (n : Int) := by
  unfold prs1 at h
  have ha0 := Int.emod_nonneg (around x 1000000) (show (n : Int) ≠ 0 by omega)
  have ha1 := Int.emod_lt_of_pos (around x 1000000) (show 0 < (n : Int) by omega)
  have hb0 := Int.emod_nonneg (around x 1000000 / n) (show (n : Int) ≠ 0 by omega)
  have hb1 := Int.emod_lt_of_pos (around x 1000000 / n) (show 0 < (n : Int) by omega)
  simp only at h
  split at h
  · split at h
    · cases h
    · split at h
      · cases h; exact ⟨hb0, hb1, ha0, ha1⟩
      · cases h; exact ⟨ha0, ha1, hb0, hb1⟩
  · cases h; exact ⟨ha0, ha1, hb0, hb1⟩
theorem pairs_in (n : Nat) (l : List Int) : inE n (pairs (n : Int) l) = true := by
  refine List.all_eq_true.2 fun p hp => ?_
  unfold pairs at hp
  split at hp
  · cases hp
  · unfold prs at hp
    rw [List.mem_filterMap] at hp
    obtain ⟨x, _, hx⟩ := hp
    have := prs1_in (by omega) hx
    simp only [Bool.and_eq_true, decide_eq_true_eq]; omega
theorem pairs_len (n : Int) (l : List Int) : (pairs n l).length ≤ 12 := by
  unfold pairs
  split
  · simp
  · exact prs_len n l 12

/-! covers -/
theorem Clo.mono {E E' : Prs} (h : ∀ p ∈ E, p ∈ E') {a b : Nat} (hc : Clo E a b) : Clo E' a b := by
  induction hc with
  | one h1 => exact .one (h _ h1)
  | more h1 _ ih => exact .more (h _ h1) ih
/-! down -/
/-! linear extensions -/
def nl (l : List Nat) : List Int := l.map fun (x : Nat) => (x : Int)
/-- What grows by elements that wait for none. -/
inductive Grow (n : Nat) (lt : Lt) : List Nat → Prop where
  | nil : Grow n lt []
  | snoc {l : List Nat} {a : Nat} (h : Grow n lt l) (ha : a < n) (hf : isfree n lt l a = true) : Grow n lt (l ++ [a])
theorem isfree_iff {n : Nat} {lt : Lt} {out : List Nat} {a : Nat} : isfree n lt out a = true ↔ a ∉ out ∧ ∀ b, b < n → lt b a = true → b ∈ out := by
  simp only [isfree, Bool.and_eq_true, Bool.not_eq_true', List.all_eq_true, List.mem_range, Bool.or_eq_true]
  refine and_congr (by simp) (forall_congr' fun b => forall_congr' fun _ => ?_)
  cases lt b a <;> simp
theorem Grow.down {n : Nat} {lt : Lt} {l : List Nat} (h : Grow n lt l) : ∀ x ∈ l, ∀ b, b < n → lt b x = true → b ∈ l := by
  induction h with
  | nil => intro x hx; cases hx
  | snoc h ha hf ih =>
    intro x hx b hb hlt
    rw [List.mem_append] at hx ⊢
    rcases hx with hx | hx
    · exact .inl (ih x hx b hb hlt)
    · obtain rfl := List.mem_singleton.1 hx
      exact .inl ((isfree_iff.1 hf).2 b hb hlt)
theorem Grow.lin {n : Nat} {lt : Lt} (hS : Spo n lt) : ∀ k, k ≤ n → Grow n lt (lin n lt k)
  | 0, _ => .nil
  | k + 1, hk => by
    have h := next_ok hS (Ytkbkmngbenohkaa.lin n lt k) (by simp; omega)
    exact .snoc (Grow.lin hS k (by omega)) h.1 h.2.1
end Go.Proofs.Ytkbkmngbenohkaa
