/- A permutation built from numbers; the graph with its versions renamed. Plain Lean; no program. -/
import Derived.Test.YtkbkmngbenohkaaOrV6
import Derived.Test.YtkbkmngbenohkaaOrX0
set_option linter.unusedSimpArgs false
set_option linter.unusedVariables false
namespace Go.Proofs.Ytkbkmngbenohkaa
open Go.RowKit

def rnS (l : List Int) (n : Nat) : Nat → List Nat × List Nat
  | 0 => ([], List.range n)
  | i + 1 => ((rnS l n i).1 ++ [(rnS l n i).2.getD (pk l i (rnS l n i).2.length).toNat 0], (rnS l n i).2.eraseIdx (pk l i (rnS l n i).2.length).toNat)
theorem erase_perm {l : List Nat} {k : Nat} (h : k < l.length) : l.Perm (l.getD k 0 :: l.eraseIdx k) := by
  rw [List.eraseIdx_eq_take_drop_succ]
  have e : l = l.take k ++ l.getD k 0 :: l.drop (k + 1) := by
    rw [List.getD_eq_getElem?_getD, List.getElem?_eq_getElem h, Option.getD_some, List.getElem_cons_drop, List.take_append_drop]
  conv => lhs; rw [e]
  exact List.perm_middle
theorem rnS_inv (l : List Int) (n : Nat) : ∀ i, i ≤ n → (rnS l n i).1.length = i ∧ (rnS l n i).2.length = n - i ∧ ((rnS l n i).1 ++ (rnS l n i).2).Perm (List.range n)
  | 0, _ => by simp [rnS]
  | i + 1, hi => by
    obtain ⟨h1, h2, h3⟩ := rnS_inv l n i (by omega)
    have hk := pk_bd l i (rnS l n i).2.length (by omega)
    have hkl : (pk l i (rnS l n i).2.length).toNat < (rnS l n i).2.length := by omega
    refine ⟨by simp [rnS, h1], ?_, ?_⟩
    · rw [rnS, List.length_eraseIdx, if_pos hkl]; omega
    · rw [rnS]
      simp only [List.append_assoc, List.cons_append, List.nil_append]
      exact ((erase_perm hkl).symm.append_left _).trans h3
/-- All numbers below n, in some order. -/
structure Pm (n : Nat) (to : List Nat) : Prop where
  len : to.length = n
  nd : to.Nodup
  lt : ∀ x ∈ to, x < n
def toP (l : List Int) (n : Nat) : List Nat := (rnS l n n).1
theorem toP_pm (l : List Int) (n : Nat) : Pm n (toP l n) := by
  obtain ⟨h1, h2, h3⟩ := rnS_inv l n n (Nat.le_refl n)
  have h4 : (rnS l n n).2 = [] := List.eq_nil_of_length_eq_zero (by omega)
  rw [h4, List.append_nil] at h3
  exact ⟨h1, h3.nodup_iff.2 List.nodup_range, fun x hx => List.mem_range.1 (h3.mem_iff.1 hx)⟩
theorem Pm.at_lt {n : Nat} {to : List Nat} (h : Pm n to) {v : Nat} (hv : v < n) : to.getD v 0 < n := h.lt _ (getD_mem (by rw [h.len]; exact hv))
theorem Pm.idx {n : Nat} {to : List Nat} (h : Pm n to) {v : Nat} (hv : v < n) : to.idxOf (to.getD v 0) = v := by
  have hvl : v < to.length := by rw [h.len]; exact hv
  rw [List.getD_eq_getElem?_getD, List.getElem?_eq_getElem hvl, Option.getD_some]
  exact h.nd.idxOf_getElem v hvl
theorem Pm.inj {n : Nat} {to : List Nat} (h : Pm n to) {a b : Nat} (ha : a < n) (hb : b < n) (he : to.getD a 0 = to.getD b 0) : a = b := by rw [← h.idx ha, he, h.idx hb]
theorem Pm.mem {n : Nat} {to : List Nat} (h : Pm n to) {x : Nat} (hx : x < n) : x ∈ to := full_mem h.nd h.lt (by rw [h.len]; exact Nat.lt_irrefl _) hx
theorem Pm.back {n : Nat} {to : List Nat} (h : Pm n to) {x : Nat} (hx : x < n) : to.idxOf x < n ∧ to.getD (to.idxOf x) 0 = x := by
  have h1 := List.idxOf_lt_length_of_mem (h.mem hx)
  refine ⟨by rw [← h.len]; exact h1, ?_⟩
  rw [List.getD_eq_getElem?_getD, List.getElem?_eq_getElem h1, Option.getD_some]
  exact List.getElem_idxOf h1
def tof (to : List Nat) (p : Int) : Int := ((to.getD p.toNat 0 : Nat) : Int)
/-- The rows after the versions ahead of v, and j parents of v. -/
def rnR (n : Nat) (Ps : List (List Int)) (to : List Nat) (v j : Nat) : List (List Int) := (List.range n).map fun u => if to.idxOf u < v then (Ps.getD (to.idxOf u) []).map (tof to) else if to.idxOf u = v then ((Ps.getD v []).take j).map (tof to) else []
@[simp] theorem rnR_len (n : Nat) (Ps : List (List Int)) (to : List Nat) (v j : Nat) : (rnR n Ps to v j).length = n := by simp [rnR]
theorem rnR_zero (n : Nat) (Ps : List (List Int)) (to : List Nat) : rnR n Ps to 0 0 = List.replicate n [] := by
  apply List.ext_getElem
  · simp
  · intro i h1 h2
    simp only [rnR, List.getElem_map, List.getElem_range, List.getElem_replicate]
    rw [if_neg (by omega)]
    split <;> rfl
theorem rnR_next (n : Nat) (Ps : List (List Int)) (to : List Nat) (v : Nat) : rnR n Ps to v (Ps.getD v []).length = rnR n Ps to (v + 1) 0 := by
  unfold rnR
  refine List.map_congr_left fun u _ => ?_
  rw [List.take_length, List.take_zero]
  generalize to.idxOf u = w
  by_cases h1 : w < v
  · rw [if_pos h1, if_pos (by omega)]
  · rw [if_neg h1]
    by_cases h2 : w = v
    · subst h2; rw [if_pos rfl, if_pos (by omega)]
    · rw [if_neg h2, if_neg (by omega)]
      split <;> rfl
theorem rnR_get {n : Nat} {Ps : List (List Int)} {to : List Nat} (h : Pm n to) {v j : Nat} (hv : v < n) : (rnR n Ps to v j).getD (to.getD v 0) [] = ((Ps.getD v []).take j).map (tof to) := by
  unfold rnR
  rw [List.getD_eq_getElem?_getD, List.getElem?_map, List.getElem?_range (h.at_lt hv), Option.map_some, Option.getD_some, h.idx hv, if_neg (Nat.lt_irrefl _), if_pos rfl]
theorem rnR_succ {n : Nat} {Ps : List (List Int)} {to : List Nat} (h : Pm n to) {v j : Nat} (hv : v < n) (hj : j < (Ps.getD v []).length) : rnR n Ps to v (j + 1) = (rnR n Ps to v j).set (to.getD v 0) ((rnR n Ps to v j).getD (to.getD v 0) [] ++ [tof to ((Ps.getD v []).getD j 0)]) := by
  rw [rnR_get h hv]
  apply List.ext_getElem
  · simp
  · intro i h1 h2
    have hi : i < n := by simpa using h1
    rw [List.getElem_set]
    simp only [rnR, List.getElem_map, List.getElem_range]
    by_cases h3 : to.getD v 0 = i
    · subst h3
      rw [h.idx hv, if_neg (Nat.lt_irrefl _), if_pos rfl, if_pos rfl, take1 0 hj, List.map_append]; rfl
    · rw [if_neg h3]
      by_cases h4 : to.idxOf i < v
      · rw [if_pos h4, if_pos h4]
      · rw [if_neg h4, if_neg h4]
        have h5 : to.idxOf i ≠ v := fun e => h3 (by rw [← e]; exact (h.back hi).2)
        rw [if_neg h5, if_neg h5]
def ren32 (Ps : List (List Int)) (to : List Nat) : List (List Int) := rnR Ps.length Ps to Ps.length 0
@[simp] theorem ren32_len (Ps : List (List Int)) (to : List Nat) : (ren32 Ps to).length = Ps.length := by simp [ren32]
theorem ren32_get {Ps : List (List Int)} {to : List Nat} (h : Pm Ps.length to) {v : Nat} (hv : v < Ps.length) : (ren32 Ps to).getD (to.getD v 0) [] = (Ps.getD v []).map (tof to) := by
  unfold ren32 rnR
  rw [List.getD_eq_getElem?_getD, List.getElem?_map, List.getElem?_range (h.at_lt hv), Option.map_some, Option.getD_some, h.idx hv, if_pos hv]
theorem ren32_at {Ps : List (List Int)} {to : List Nat} (h : Pm Ps.length to) {u : Nat} (hu : u < Ps.length) : (ren32 Ps to).getD u [] = (Ps.getD (to.idxOf u) []).map (tof to) := by
  have := ren32_get h (h.back hu).1
  rw [(h.back hu).2] at this
  exact this
theorem tof_mem {n : Nat} {to : List Nat} (h : Pm n to) {l : List Int} (hl : OkP n l) {p : Nat} (hp : p < n) : ((to.getD p 0 : Nat) : Int) ∈ l.map (tof to) ↔ (p : Int) ∈ l := by
  rw [List.mem_map]
  constructor
  · rintro ⟨q, hq, he⟩
    have hb := hl.2 q hq
    have h1 : to.getD q.toNat 0 = to.getD p 0 := by unfold tof at he; omega
    have h2 := h.inj (by omega) hp h1
    have : q = (p : Int) := by omega
    exact this ▸ hq
  · exact fun hm => ⟨_, hm, by simp [tof]⟩
theorem ren32_ok {Ps : List (List Int)} {to : List Nat} (h : Pm Ps.length to) (hV : Valid Ps) : Valid (ren32 Ps to) := fun u hu => by
  rw [ren32_len] at hu ⊢
  rw [ren32_at h hu]
  obtain ⟨hi, _⟩ := h.back hu
  have hl := hV _ hi
  refine ⟨?_, fun p hp => ?_⟩
  · rw [List.nodup_iff_pairwise_ne, List.pairwise_map]
    refine List.Pairwise.imp_of_mem ?_ (List.nodup_iff_pairwise_ne.1 hl.1)
    intro x y hx hy hne he
    have h1 := hl.2 x hx
    have h2 := hl.2 y hy
    have h3 := h.inj (a := x.toNat) (b := y.toNat) (by omega) (by omega) (by unfold tof at he; omega)
    omega
  · obtain ⟨q, hq, rfl⟩ := List.mem_map.1 hp
    have h1 := hl.2 q hq
    have h2 := h.at_lt (v := q.toNat) (by omega)
    unfold tof; omega
theorem ren32_edge {Ps : List (List Int)} {to : List Nat} (h : Pm Ps.length to) (hV : Valid Ps) {a b : Nat} (ha : a < Ps.length) (hb : b < Ps.length) : (((to.getD a 0 : Nat) : Int), ((to.getD b 0 : Nat) : Int)) ∈ edg (ren32 Ps to) Ps.length 0 ↔ ((a : Int), (b : Int)) ∈ edg Ps Ps.length 0 := by
  rw [edg_par (h.at_lt hb), edg_par hb, ren32_get h hb, tof_mem h (hV b hb) ha]
/-- What leads to what stays, under the new numbers. -/
theorem ren32_clo {Ps : List (List Int)} {to : List Nat} (h : Pm Ps.length to) (hV : Valid Ps) (T T' : Nat → Bool) (hT : ∀ a, a < Ps.length → T' (to.getD a 0) = T a) {a b : Nat} (ha : a < Ps.length) (hb : b < Ps.length) :
    Clo (fst T' (edg (ren32 Ps to) Ps.length 0)) (to.getD a 0) (to.getD b 0) ↔ Clo (fst T (edg Ps Ps.length 0)) a b := by
  have hE' : inE Ps.length (edg (ren32 Ps to) Ps.length 0) = true := by have := edg_in (ren32_ok h hV); rw [ren32_len] at this; exact this
  have he : ∀ {a b : Nat}, a < Ps.length → b < Ps.length → ((((to.getD a 0 : Nat) : Int), ((to.getD b 0 : Nat) : Int)) ∈ fst T' (edg (ren32 Ps to) Ps.length 0) ↔ ((a : Int), (b : Int)) ∈ fst T (edg Ps Ps.length 0)) := by
    intro a b ha hb
    rw [fst_mem, fst_mem, ren32_edge h hV ha hb, hT a ha]
  constructor
  · intro hc
    generalize hx : to.getD a 0 = x at hc
    generalize hy : to.getD b 0 = y at hc
    induction hc generalizing a with
    | one hm => subst hx; subst hy; exact .one ((he ha hb).1 hm)
    | @more p q r hm hc ih =>
      subst hx
      have hq := (Clo.lt hE' (fst_clo (.one hm))).2
      obtain ⟨hi, hb2⟩ := h.back hq
      rw [← hb2] at hm
      exact .more ((he ha hi).1 hm) (ih hi hb2 hy)
  · intro hc
    have hE : inE Ps.length (edg Ps Ps.length 0) = true := edg_in hV
    induction hc with
    | one hm => exact .one ((he ha hb).2 hm)
    | more hm hc ih =>
      have hq := (Clo.lt hE (fst_clo hc)).1
      exact .more ((he ha hq).2 hm) (ih hq hb)
theorem fst_all {E : Prs} {a b : Nat} : Clo (fst (fun _ => true) E) a b ↔ Clo E a b := by
  have e : fst (fun _ => true) E = E := by unfold fst; exact List.filter_eq_self.2 fun _ _ => rfl
  rw [e]
theorem ren32_cl {Ps : List (List Int)} {to : List Nat} (h : Pm Ps.length to) (hV : Valid Ps) {a b : Nat} (ha : a < Ps.length) (hb : b < Ps.length) :
    Clo (edg (ren32 Ps to) Ps.length 0) (to.getD a 0) (to.getD b 0) ↔ Clo (edg Ps Ps.length 0) a b := by
  have := ren32_clo h hV (fun _ => true) (fun _ => true) (fun _ _ => rfl) ha hb
  rw [fst_all, fst_all] at this
  exact this
theorem ren32_gg {Ps : List (List Int)} {to : List Nat} (h : Pm Ps.length to) (hN : Near Ps) : GG Ps.length (ren32 Ps to) := by
  have hV := ren32_ok h hN.valid
  refine ⟨ren32_len _ _, by have := hN.n; omega, hV, fun v => ?_, ?_⟩
  · by_cases hv : v < Ps.length
    · rw [ren32_at h hv, List.length_map]
      have := hN.rows (to.idxOf v); omega
    · rw [List.getD_eq_getElem?_getD, List.getElem?_eq_none (by rw [ren32_len]; omega)]; exact Nat.zero_le _
  · rintro ⟨u, hu, hc⟩
    obtain ⟨hi, hb⟩ := h.back hu
    rw [← hb] at hc
    exact hN.acyc ⟨_, hi, (ren32_cl h hN.valid hi hi).1 hc⟩
/-- Few successors, under the new numbers as well. -/
theorem ren32_nxt {Ps : List (List Int)} {to : List Nat} (h : Pm Ps.length to) (hN : Near Ps) {a : Nat} (ha : a < Ps.length) : (nxt (edg (ren32 Ps to) Ps.length 0) a).length ≤ 4 := by
  have hV := ren32_ok h hN.valid
  rw [nxt_edg a Ps.length fun v hv => (hV v (by rw [ren32_len]; exact hv)).1, List.length_map]
  have h1 : ((List.range Ps.length).filter fun v => decide ((a : Int) ∈ (ren32 Ps to).getD v [])).Nodup := List.Pairwise.filter _ List.nodup_range
  obtain ⟨hi, hb⟩ := h.back ha
  have hmem : ∀ v ∈ (List.range Ps.length).filter (fun v => decide ((a : Int) ∈ (ren32 Ps to).getD v [])), v < Ps.length ∧ to.idxOf a < to.idxOf v ∧ to.idxOf v ≤ to.idxOf a + 4 := by
    intro v hv
    obtain ⟨hv1, hv2⟩ := List.mem_filter.1 hv
    have hvn := List.mem_range.1 hv1
    rw [decide_eq_true_eq, ren32_at h hvn] at hv2
    obtain ⟨hj, _⟩ := h.back hvn
    have h3 := (tof_mem h (hN.valid _ hj) hi).1 (by rw [hb]; exact hv2)
    have := (hN.r _ hj).1.b _ h3
    exact ⟨hvn, by omega, by omega⟩
  have h2 := nodup_le 4 (((List.range Ps.length).filter fun v => decide ((a : Int) ∈ (ren32 Ps to).getD v [])).map fun v => to.idxOf v - to.idxOf a - 1) (by
    rw [List.nodup_iff_pairwise_ne, List.pairwise_map]
    refine List.Pairwise.imp_of_mem ?_ (List.nodup_iff_pairwise_ne.1 h1)
    intro x y hx hy hne he
    have h3 := hmem x hx
    have h4 := hmem y hy
    have h5 : to.idxOf x = to.idxOf y := by omega
    exact hne (by rw [← (h.back h3.1).2, h5, (h.back h4.1).2])) (by
    intro x hx
    obtain ⟨y, hy, rfl⟩ := List.mem_map.1 hx
    have := hmem y hy
    omega)
  simpa using h2
end Go.Proofs.Ytkbkmngbenohkaa
