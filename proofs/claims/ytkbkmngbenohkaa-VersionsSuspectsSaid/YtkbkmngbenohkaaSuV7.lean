/- Suspects: what changes with one status. Plain Lean; no program. -/
import Derived.Test.YtkbkmngbenohkaaSuV6
set_option linter.unusedSimpArgs false
set_option linter.unusedVariables false
namespace Go.Proofs.Ytkbkmngbenohkaa
open Go.RowKit

theorem sus_mem {n : Nat} (h64 : n ≤ 64) {E : Prs} {T : Nat → Bool} {w u : Nat} : u ∈ els (susW n E T w) ↔ u < n ∧ Clo (fst T E) u w := by
  rw [susW, els_cw h64, List.mem_filter, List.mem_range, cl_iff]
theorem whr_lt_of {st : List Int} {x : Int} {c : Nat} (h : (whr st x).testBit c = true) : c < st.length ∧ st.getD c 0 = x := by
  rw [whr_bit, Bool.and_eq_true, decide_eq_true_eq, decide_eq_true_eq] at h; exact h
/-- A suspect is untestable and above. -/
theorem sus_facts {n : Nat} {Ps : List (List Int)} (hPs : Ps.length = n) (h64 : n ≤ 64) (hac : ¬ ∃ a, a < n ∧ Clo (edg Ps n 0) a a) {st : List Int} (hst : st.length = n) {v u : Nat} (hv : v < n) (hu : u ∈ els (susW n (edg Ps n 0) (whr st 2).testBit v)) :
    u < n ∧ u ≠ v ∧ u ∈ upE Ps v ∧ st.getD u 0 = 2 := by
  obtain ⟨h1, h2⟩ := (sus_mem h64).1 hu
  subst hPs
  have h3 := fst_clo h2
  refine ⟨h1, fun e => hac ⟨v, hv, by rw [e] at h3; exact h3⟩, (upE_mem h64 hv).2 ⟨h1, .inr (fst_clo h2)⟩, (whr_lt_of (fst_T h2)).2⟩
/-- Were a suspect bad, the version would not be minimal. -/
theorem sus_turned {n : Nat} {Ps : List (List Int)} (hPs : Ps.length = n) (h64 : n ≤ 64) {st : List Int} (hst : st.length = n) {v u : Nat} (hv : v < n) (hun : u < n) (hne : u ≠ v) (hu : u ∈ upE Ps v) {l : List Nat} {k : Nat}
    (hk : k < (minL n (edg Ps n 0) (st.set u 1) l).length) : ((minL n (edg Ps n 0) (st.set u 1) l).getD k (0, [])).1 ≠ v := by
  intro e
  have h1 := (minL_mem (getD_mem' (0, []) hk)).2.1
  rw [e] at h1
  subst hPs
  have h2 := (rmin_iff h64 (st := st.set u 1) (by simpa using hst) hv).2 h1
  refine h2.2 u hu hne ?_
  rw [getD_set, if_pos ⟨rfl, by omega⟩]
end Go.Proofs.Ytkbkmngbenohkaa
