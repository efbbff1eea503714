/- Suspects: what changes with one status. Plain Lean; no program. -/
import Derived.Test.YtkbkmngbenohkaaTeV6
set_option linter.unusedSimpArgs false
set_option linter.unusedVariables false
namespace Go.Proofs.Ytkbkmngbenohkaa
open Go.RowKit

theorem sus_mem {n : Nat} (h64 : n ≤ 64) {E : Prs} {T : Nat → Bool} {w u : Nat} : u ∈ els (susW n E T w) ↔ u < n ∧ Clo (fst T E) u w := by
  rw [susW, els_cw h64, List.mem_filter, List.mem_range, cl_iff]
/-- An untestable version turns good. -/
theorem whr1_turned {st : List Int} {v : Nat} (h : st.getD v 0 = 2) : whr (st.set v 0) 1 = whr st 1 := by
  apply Nat.eq_of_testBit_eq
  intro c
  rw [whr_bit, whr_bit, List.length_set, getD_set]
  by_cases hc : c = v ∧ v < st.length
  · rw [if_pos hc, hc.1, h]; rfl
  · rw [if_neg hc]
theorem whr2_turned {st : List Int} {v c : Nat} (hv : v < st.length) : (whr (st.set v 0) 2).testBit c = ((whr st 2).testBit c && decide (c ≠ v)) := by
  rw [whr_bit, whr_bit, List.length_set, getD_set]
  by_cases hc : c = v
  · subst hc; rw [if_pos ⟨rfl, hv⟩]; simp
  · rw [if_neg (by simp [hc])]; simp [hc]
theorem turned_sub {E : Prs} {st : List Int} {v u w : Nat} (hv : v < st.length) (h : Clo (fst (whr (st.set v 0) 2).testBit E) u w) : Clo (fst (whr st 2).testBit E) u w := by
  have e : ∀ a b : Nat, ((a : Int), (b : Int)) ∈ fst (whr (st.set v 0) 2).testBit E → ((a : Int), (b : Int)) ∈ fst (whr st 2).testBit E := fun a b hm => by
    rw [fst_mem, whr2_turned hv, Bool.and_eq_true] at hm
    exact fst_mem.2 ⟨hm.1, hm.2.1⟩
  induction h with
  | one h => exact .one (e _ _ h)
  | more h _ ih => exact .more (e _ _ h) ih
theorem turned_or {E : Prs} {st : List Int} {v u w : Nat} (hv : v < st.length) (h : Clo (fst (whr st 2).testBit E) u w) : Clo (fst (whr (st.set v 0) 2).testBit E) u w ∨ ((u = v ∨ Clo E u v) ∧ Clo (fst (whr st 2).testBit E) v w) := by
  induction h with
  | @one a b he =>
    by_cases ha : a = v
    · subst ha; exact .inr ⟨.inl rfl, .one he⟩
    · refine .inl (.one ?_)
      rw [fst_mem] at he
      rw [fst_mem, whr2_turned hv, he.2]
      exact ⟨he.1, by simp [ha]⟩
  | @more a b c he hc ih =>
    by_cases ha : a = v
    · subst ha; exact .inr ⟨.inl rfl, .more he hc⟩
    · have he2 := fst_mem.1 he
      rcases ih with h1 | ⟨h1, h2⟩
      · refine .inl (.more ?_ h1)
        rw [fst_mem, whr2_turned hv, he2.2]
        exact ⟨he2.1, by simp [ha]⟩
      · refine .inr ⟨.inr ?_, h2⟩
        rcases h1 with rfl | h1
        · exact .one he2.1
        · exact .more he2.1 h1
theorem turned_fst {n : Nat} {E : Prs} {st : List Int} {v : Nat} (h : st.getD v 0 = 2) (l : List Nat) : (minL n E (st.set v 0) l).map (·.1) = (minL n E st l).map (·.1) := by
  rw [minL_fst, minL_fst, whr1_turned h]
/-- The suspects of the same version for either statuses. -/
structure TT (n : Nat) (Ps : List (List Int)) (v : Nat) (a b : List (Nat × List Nat)) : Prop where
  len : a.length = b.length
  f : ∀ i, i < a.length → (a.getD i (0, [])).1 = (b.getD i (0, [])).1
  no : ∀ i, i < a.length → v ∉ (b.getD i (0, [])).2
  sub : ∀ i, i < a.length → ∀ u ∈ (b.getD i (0, [])).2, u ∈ (a.getD i (0, [])).2
  eq : ∀ i, i < a.length → v ∉ (a.getD i (0, [])).2 → (a.getD i (0, [])).2.length = (b.getD i (0, [])).2.length
  up : ∀ i, i < a.length → ∀ u ∈ (a.getD i (0, [])).2, u ∉ (b.getD i (0, [])).2 → u ∈ upE Ps v
theorem fst_at {l m : List (Nat × List Nat)} (h : l.map (·.1) = m.map (·.1)) (i : Nat) (hi : i < l.length) (hm : i < m.length) : (l.getD i (0, [])).1 = (m.getD i (0, [])).1 := by
  have := congrArg (fun x => x[i]?) h
  simp only [List.getElem?_map, List.getElem?_eq_getElem hi, List.getElem?_eq_getElem hm, Option.map_some, Option.some.injEq] at this
  rw [List.getD_eq_getElem?_getD, List.getD_eq_getElem?_getD, List.getElem?_eq_getElem hi, List.getElem?_eq_getElem hm]
  exact this
theorem turned_tt {n : Nat} {Ps : List (List Int)} (hPs : Ps.length = n) (h64 : n ≤ 64) {st : List Int} (hst : st.length = n) {v : Nat} (hv : v < n) (h2 : st.getD v 0 = 2) (l : List Nat) : TT n Ps v (minL n (edg Ps n 0) st l) (minL n (edg Ps n 0) (st.set v 0) l) := by
  have hf := turned_fst (n := n) (E := edg Ps n 0) h2 l
  have hlen : (minL n (edg Ps n 0) st l).length = (minL n (edg Ps n 0) (st.set v 0) l).length := by
    have := congrArg List.length hf
    simpa using this.symm
  have hvs : v < st.length := by omega
  have key : ∀ i, i < (minL n (edg Ps n 0) st l).length → ((minL n (edg Ps n 0) st l).getD i (0, [])).1 = ((minL n (edg Ps n 0) (st.set v 0) l).getD i (0, [])).1 ∧
      (∀ u, u ∈ ((minL n (edg Ps n 0) st l).getD i (0, [])).2 ↔ u < n ∧ Clo (fst (whr st 2).testBit (edg Ps n 0)) u ((minL n (edg Ps n 0) st l).getD i (0, [])).1) ∧
      (∀ u, u ∈ ((minL n (edg Ps n 0) (st.set v 0) l).getD i (0, [])).2 ↔ u < n ∧ Clo (fst (whr (st.set v 0) 2).testBit (edg Ps n 0)) u ((minL n (edg Ps n 0) st l).getD i (0, [])).1) := by
    intro i hi
    have h1 := (minL_mem (getD_mem' (0, []) hi)).2.2
    have h3 := (minL_mem (getD_mem' (0, []) (show i < (minL n (edg Ps n 0) (st.set v 0) l).length by omega))).2.2
    have h4 := fst_at hf.symm i hi (by omega)
    refine ⟨h4, fun u => ?_, fun u => ?_⟩
    · rw [h1, sus_mem h64]
    · rw [h3, sus_mem h64, h4]
  refine ⟨hlen, fun i hi => (key i hi).1, fun i hi hm => ?_, fun i hi u hu => ?_, fun i hi hno => ?_, fun i hi u hu hno => ?_⟩
  · have h3 := fst_T (((key i hi).2.2 v).1 hm).2
    rw [whr2_turned hvs] at h3
    simp at h3
  · obtain ⟨h3, h4⟩ := ((key i hi).2.2 u).1 hu
    exact ((key i hi).2.1 u).2 ⟨h3, turned_sub hvs h4⟩
  · have h1 := (minL_mem (getD_mem' (0, []) hi)).2.2
    have h3 := (minL_mem (getD_mem' (0, []) (show i < (minL n (edg Ps n 0) (st.set v 0) l).length by omega))).2.2
    have hmem : ∀ u, u ∈ ((minL n (edg Ps n 0) st l).getD i (0, [])).2 ↔ u ∈ ((minL n (edg Ps n 0) (st.set v 0) l).getD i (0, [])).2 := by
      intro u
      rw [(key i hi).2.1 u, (key i hi).2.2 u]
      constructor
      · rintro ⟨h5, h6⟩
        rcases turned_or hvs h6 with h7 | ⟨_, h7⟩
        · exact ⟨h5, h7⟩
        · exact absurd (((key i hi).2.1 v).2 ⟨hv, h7⟩) hno
      · rintro ⟨h5, h6⟩; exact ⟨h5, turned_sub hvs h6⟩
    have hn1 : ((minL n (edg Ps n 0) st l).getD i (0, [])).2.Nodup := by rw [h1]; exact List.Pairwise.filter _ List.nodup_range
    have hn2 : ((minL n (edg Ps n 0) (st.set v 0) l).getD i (0, [])).2.Nodup := by rw [h3]; exact List.Pairwise.filter _ List.nodup_range
    exact ((List.perm_ext_iff_of_nodup hn1 hn2).2 hmem).length_eq
  · obtain ⟨h3, h4⟩ := ((key i hi).2.1 u).1 hu
    rcases turned_or hvs h4 with h5 | ⟨h5, _⟩
    · exact absurd (((key i hi).2.2 u).2 ⟨h3, h5⟩) hno
    · subst hPs
      exact (upE_mem h64 hv).2 ⟨h3, h5⟩
end Go.Proofs.Ytkbkmngbenohkaa
