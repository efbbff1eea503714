/- Blames: apart from each other, one above each bad version, those of a version above. Plain Lean; no program. -/
import Derived.Test.YtkbkmngbenohkaaBlV5
set_option linter.unusedSimpArgs false
set_option linter.unusedVariables false
namespace Go.Proofs.Ytkbkmngbenohkaa
open Go.RowKit

theorem upE_eq {Ps : List (List Int)} (h64 : Ps.length ≤ 64) {v : Nat} (hv : v < Ps.length) : upE Ps v = (List.range Ps.length).filter fun u => decide (u = v) || cl (edg Ps Ps.length 0) u v := by
  unfold upE wat
  rw [if_pos (by omega), Int.toNat_natCast, ancW_get hv, aw1, els_cw h64]
theorem upE_trans {Ps : List (List Int)} (h64 : Ps.length ≤ 64) {u v w : Nat} (hv : v < Ps.length) (hw : w < Ps.length) (h1 : u ∈ upE Ps v) (h2 : v ∈ upE Ps w) : u ∈ upE Ps w := by
  obtain ⟨h3, h4⟩ := (upE_mem h64 hv).1 h1
  obtain ⟨_, h5⟩ := (upE_mem h64 hw).1 h2
  refine (upE_mem h64 hw).2 ⟨h3, ?_⟩
  rcases h4 with rfl | h4
  · exact h5
  · rcases h5 with rfl | h5
    · exact .inr h4
    · exact .inr (h4.trans h5)
theorem upE_filter {Ps : List (List Int)} (h64 : Ps.length ≤ 64) {v w : Nat} (hv : v < Ps.length) (hw : w < Ps.length) (h : v ∈ upE Ps w) : upE Ps v = (upE Ps w).filter fun u => decide (u ∈ upE Ps v) := by
  have e1 : ∀ u, u < Ps.length → (decide (u ∈ upE Ps v) = (decide (u = v) || cl (edg Ps Ps.length 0) u v)) := by
    intro u hu
    rw [Bool.eq_iff_iff, decide_eq_true_eq, upE_mem h64 hv]
    simp only [Bool.or_eq_true, decide_eq_true_eq, cl_iff]
    exact ⟨fun h => h.2, fun h => ⟨hu, h⟩⟩
  conv => lhs; rw [upE_eq h64 hv]
  conv => rhs; arg 2; rw [upE_eq h64 hw]
  rw [List.filter_filter]
  refine List.filter_congr fun u hu => ?_
  have hun := List.mem_range.1 hu
  rw [e1 u hun]
  by_cases hc : (decide (u = v) || cl (edg Ps Ps.length 0) u v) = true
  · have h1 : u ∈ upE Ps v := by have := e1 u hun; rw [hc, decide_eq_true_eq] at this; exact this
    have h2 := (upE_mem h64 hw).1 (upE_trans h64 hv hw h1 h)
    have h3 : (decide (u = w) || cl (edg Ps Ps.length 0) u w) = true := by simp only [Bool.or_eq_true, decide_eq_true_eq, cl_iff]; exact h2.2
    rw [hc, h3]; rfl
  · rw [Bool.not_eq_true] at hc
    rw [hc]; rfl
theorem minL_fst (n : Nat) (E : Prs) (st : List Int) (l : List Nat) : (minL n E st l).map (·.1) = l.filter fun v => (aw1 n E v &&& whr st 1) == 2 ^ v := by
  unfold minL
  rw [List.map_map]
  have : ((fun x => x.1) ∘ fun (v : Nat) => (v, els (susW n E (whr st 2).testBit v))) = id := rfl
  rw [this, List.map_id]
theorem minL_mem {n : Nat} {E : Prs} {st : List Int} {l : List Nat} {b : Nat × List Nat} (h : b ∈ minL n E st l) : b.1 ∈ l ∧ (aw1 n E b.1 &&& whr st 1) = 2 ^ b.1 ∧ b.2 = els (susW n E (whr st 2).testBit b.1) := by
  unfold minL at h
  obtain ⟨v, hv, rfl⟩ := List.mem_map.1 h
  obtain ⟨h1, h2⟩ := List.mem_filter.1 hv
  exact ⟨h1, by simpa using h2, rfl⟩
theorem minL_of {n : Nat} {E : Prs} {st : List Int} {l : List Nat} {v : Nat} (h1 : v ∈ l) (h2 : (aw1 n E v &&& whr st 1) = 2 ^ v) : v ∈ (minL n E st l).map (·.1) := by
  rw [minL_fst, List.mem_filter]
  exact ⟨h1, by simpa using h2⟩
theorem minL_filter {n : Nat} {E : Prs} {st : List Int} {l : List Nat} (p : Nat → Bool) : minL n E st (l.filter p) = (minL n E st l).filter fun b => p b.1 := by
  unfold minL
  rw [List.filter_map, List.filter_filter, List.filter_filter]
  congr 1
  refine List.filter_congr fun v _ => ?_
  simp [Bool.and_comm]
theorem getD_mem' {α : Type} {l : List α} {k : Nat} (d : α) (h : k < l.length) : l.getD k d ∈ l := by
  rw [List.getD_eq_getElem?_getD, List.getElem?_eq_getElem h]; exact List.getElem_mem h
/-- Of two versions to blame none is above the other. -/
theorem blame_apart {n : Nat} {Ps : List (List Int)} (hPs : Ps.length = n) (h64 : n ≤ 64) {st : List Int} (hst : st.length = n) {l : List Nat} (hl : l.Nodup) (hlt : ∀ u ∈ l, u < n) {i k : Nat}
    (hi : i < (minL n (edg Ps n 0) st l).length) (hk : k < (minL n (edg Ps n 0) st l).length) (hne : i ≠ k) :
    ((minL n (edg Ps n 0) st l).getD k (0, [])).1 ∉ upE Ps ((minL n (edg Ps n 0) st l).getD i (0, [])).1 := by
  subst hPs
  intro hm
  have h1 := minL_mem (getD_mem' (0, []) hi)
  have h2 := minL_mem (getD_mem' (0, []) hk)
  have hv := hlt _ h1.1
  have hw := hlt _ h2.1
  have hmi := (rmin_iff h64 hst hv).2 h1.2.1
  have hmk := (rmin_iff h64 hst hw).2 h2.2.1
  have heq : ((minL Ps.length (edg Ps Ps.length 0) st l).getD k (0, [])).1 = ((minL Ps.length (edg Ps Ps.length 0) st l).getD i (0, [])).1 :=
    Classical.byContradiction fun hn => hmi.2 _ hm hn hmk.1
  have hnd : ((minL Ps.length (edg Ps Ps.length 0) st l).map (·.1)).Nodup := by rw [minL_fst]; exact hl.filter _
  apply hne
  have e : ∀ j, j < (minL Ps.length (edg Ps Ps.length 0) st l).length → ((minL Ps.length (edg Ps Ps.length 0) st l).map (·.1))[j]? = some ((minL Ps.length (edg Ps Ps.length 0) st l).getD j (0, [])).1 := by
    intro j hj
    rw [List.getElem?_map, List.getElem?_eq_getElem hj, List.getD_eq_getElem?_getD, List.getElem?_eq_getElem hj]; rfl
  exact nodup_idx hnd (e i hi) (by rw [e k hk, heq])
/-- Above each bad version one to blame. -/
theorem blame_ex {Ps : List (List Int)} (h64 : Ps.length ≤ 64) (hlt : ∀ {a b : Nat}, Clo (edg Ps Ps.length 0) a b → a < b) {st : List Int} (hst : st.length = Ps.length) {h u : Nat} (hh : h < Ps.length) (hu : u ∈ upE Ps h) (hs : st.getD u 0 = 1) :
    ∃ w ∈ upE Ps u, w ∈ (minL Ps.length (edg Ps Ps.length 0) st (upE Ps h)).map (·.1) := by
  have hun := ((upE_mem h64 hh).1 hu).1
  obtain ⟨w, _, h1, h2⟩ := least_of (p := fun w => decide (w ∈ upE Ps u) && decide (st.getD w 0 = 1)) (n := Ps.length) ⟨u, hun, by
    rw [Bool.and_eq_true, decide_eq_true_eq, decide_eq_true_eq]
    exact ⟨(upE_mem h64 hun).2 ⟨hun, .inl rfl⟩, hs⟩⟩
  rw [Bool.and_eq_true, decide_eq_true_eq, decide_eq_true_eq] at h1
  have hwn := ((upE_mem h64 hun).1 h1.1).1
  refine ⟨w, h1.1, minL_of (upE_trans h64 hun hh h1.1 hu) ((rmin_iff h64 hst hwn).1 ⟨h1.2, fun x hx hne hs1 => ?_⟩)⟩
  have hxw : x < w := by
    rcases ((upE_mem h64 hwn).1 hx).2 with h3 | h3
    · exact absurd h3 hne
    · exact hlt h3
  have := h2 x hxw
  rw [Bool.and_eq_false_iff, decide_eq_false_iff_not, decide_eq_false_iff_not] at this
  rcases this with h3 | h3
  · exact h3 (upE_trans h64 hwn hun hx h1.1)
  · exact h3 hs1
end Go.Proofs.Ytkbkmngbenohkaa
