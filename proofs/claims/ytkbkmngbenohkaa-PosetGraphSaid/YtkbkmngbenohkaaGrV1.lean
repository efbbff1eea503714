/- Kahn's order of what the pairs lead to; the words of what leads to each; lists of parents. Plain Lean; no program. -/
import Derived.Test.YtkbkmngbenohkaaGrB5
import Derived.Test.YtkbkmngbenohkaaGrH3
set_option linter.unusedSimpArgs false
set_option linter.unusedVariables false
namespace Go.Proofs.Ytkbkmngbenohkaa
open Go.RowKit

theorem getD_memI {l : List Int} {k : Nat} (h : k < l.length) : l.getD k 0 ∈ l := by
  rw [List.getD_eq_getElem?_getD, List.getElem?_eq_getElem h]; exact List.getElem_mem h
theorem ind_zero {n : Nat} {S : List (List Int)} {out : List Nat} {b : Nat} : ind n S out b = 0 ↔ ∀ a, a < n → a ∉ out → (b : Int) ∉ S.getD a [] := by
  unfold ind
  rw [List.countP_eq_zero]
  constructor
  · intro h a ha hao hm
    refine h a (List.mem_range.2 ha) ?_
    rw [Bool.and_eq_true]
    exact ⟨by simpa using hao, List.contains_iff_mem.2 hm⟩
  · intro h a ha hh
    rw [Bool.and_eq_true] at hh
    exact h a (List.mem_range.1 ha) (by simpa using hh.1) (List.contains_iff_mem.1 hh.2)
theorem nextV_some {n : Nat} {S : List (List Int)} {out : List Nat} {v : Nat} (h : nextV n S out = some v) : v < n ∧ v ∉ out ∧ ∀ a, a < n → a ∉ out → (v : Int) ∉ S.getD a [] := by
  unfold nextV at h
  have h1 := List.find?_some h
  have h2 := List.mem_of_find?_eq_some h
  rw [Bool.and_eq_true, beq_iff_eq] at h1
  exact ⟨List.mem_range.1 h2, by simpa using h1.1, ind_zero.1 h1.2⟩
/-- Each stands behind all that lead to it. -/
structure KO (n : Nat) (S : List (List Int)) (out : List Nat) : Prop where
  nd : out.Nodup
  lt : ∀ x ∈ out, x < n
  top : ∀ (j b : Nat), out[j]? = some b → ∀ a : Nat, a < n → (b : Int) ∈ S.getD a [] → ∃ i : Nat, i < j ∧ out[i]? = some a
theorem KO.nil (n : Nat) (S : List (List Int)) : KO n S [] := ⟨List.nodup_nil, fun _ h => absurd h List.not_mem_nil, fun j b h => by simp at h⟩
theorem idx_of {row : List Nat} {b : Nat} (hb : b ∈ row) : ∃ j : Nat, j < row.length ∧ row[j]? = some b := by
  obtain ⟨j, hj, rfl⟩ := List.getElem_of_mem hb
  exact ⟨j, hj, List.getElem?_eq_getElem hj⟩
theorem KO.step {n : Nat} {S : List (List Int)} {out : List Nat} {v : Nat} (h : KO n S out) (hv : nextV n S out = some v) : KO n S (out ++ [v]) := by
  obtain ⟨h1, h2, h3⟩ := nextV_some hv
  refine ⟨?_, fun x hx => ?_, fun j b hj a ha hm => ?_⟩
  · rw [List.nodup_append]
    exact ⟨h.nd, by simp, fun x hx y hy => by simp at hy; subst hy; exact fun e => h2 (e ▸ hx)⟩
  · rcases List.mem_append.1 hx with hx | hx
    · exact h.lt x hx
    · simp at hx; omega
  · by_cases hjl : j < out.length
    · rw [List.getElem?_append_left hjl] at hj
      obtain ⟨i, hi, he⟩ := h.top j b hj a ha hm
      exact ⟨i, hi, by rw [List.getElem?_append_left (by omega)]; exact he⟩
    · have hj2 : j = out.length := by
        have := (List.getElem?_eq_some_iff.1 hj).1
        simp at this; omega
      subst hj2
      rw [List.getElem?_append_right (Nat.le_refl _), Nat.sub_self] at hj
      simp at hj
      subst hj
      have hao : a ∈ out := Classical.byContradiction fun hne => h3 a ha hne hm
      obtain ⟨i, hi, he⟩ := idx_of hao
      exact ⟨i, hi, by rw [List.getElem?_append_left hi]; exact he⟩
theorem kahn_ko {n : Nat} {S : List (List Int)} : ∀ (k : Nat) (out : List Nat), KO n S out → KO n S (kahn n S k out)
  | 0, out, h => by rw [kahn]; exact h
  | k + 1, out, h => by
    rw [kahn]
    cases e : nextV n S out with
    | none => exact h
    | some v => exact kahn_ko k _ (h.step e)
/-- S are the successors that the pairs give. -/
structure SE (n : Nat) (E : Prs) (S : List (List Int)) : Prop where
  e : inE n E = true
  m : ∀ a, a < n → ∀ x, x ∈ S.getD a [] ↔ ((a : Int), x) ∈ E
theorem KO.ahead {n : Nat} {E : Prs} {S : List (List Int)} {out : List Nat} (hs : SE n E S) (h : KO n S out) {a b : Nat} (hc : Clo E a b) : ∀ j : Nat, out[j]? = some b → ∃ i : Nat, i < j ∧ out[i]? = some a := by
  induction hc with
  | one he => exact fun j hj => h.top j _ hj _ (Clo.lt hs.e (.one he)).1 ((hs.m _ (Clo.lt hs.e (.one he)).1 _).2 he)
  | more he _ ih =>
    intro j hj
    obtain ⟨i, h1, h2⟩ := ih j hj
    have hl := (Clo.lt hs.e (.one he)).1
    obtain ⟨k, h3, h4⟩ := h.top i _ h2 _ hl ((hs.m _ hl _).2 he)
    exact ⟨k, by omega, h4⟩
theorem full_mem {n : Nat} {out : List Nat} (hn : out.Nodup) (hlt : ∀ x ∈ out, x < n) (hl : ¬ out.length < n) {a : Nat} (ha : a < n) : a ∈ out := by
  apply Classical.byContradiction
  intro hna
  have := nodup_le n (a :: out) (List.nodup_cons.2 ⟨hna, hn⟩) fun x hx => by
    rcases List.mem_cons.1 hx with rfl | hx
    · exact ha
    · exact hlt x hx
  simp at this
  omega
theorem topo_ok {n : Nat} {E : Prs} {S : List (List Int)} (hs : SE n E S) (hl : ¬ (kahn n S n []).length < n) : ¬ ∃ a, a < n ∧ Clo E a a := by
  rintro ⟨a, ha, hc⟩
  have hk := kahn_ko (n := n) (S := S) n [] (KO.nil n S)
  obtain ⟨j, _, hj⟩ := idx_of (full_mem hk.nd hk.lt hl ha)
  obtain ⟨i, h1, h2⟩ := hk.ahead hs hc j hj
  have := nodup_idx hk.nd h2 hj
  omega
theorem Clo.last {E : Prs} {a b : Nat} (h : Clo E a b) : ∃ p : Nat, ((p : Int), (b : Int)) ∈ E ∧ (a = p ∨ Clo E a p) := by
  induction h with
  | one h => exact ⟨_, h, .inl rfl⟩
  | more h _ ih =>
    obtain ⟨p, h1, h2⟩ := ih
    refine ⟨p, h1, .inr ?_⟩
    rcases h2 with rfl | h2
    · exact .one h
    · exact .more h h2
theorem Clo.snoc {E : Prs} {a p b : Nat} (h : a = p ∨ Clo E a p) (he : ((p : Int), (b : Int)) ∈ E) : Clo E a b := by
  rcases h with rfl | h
  · exact .one he
  · exact h.trans (.one he)
/-- The word of what leads to v and of v. -/
noncomputable def aw1 (n : Nat) (E : Prs) (v : Nat) : Nat := cw n fun u => decide (u = v) || cl E u v
noncomputable def ancW (n : Nat) (E : Prs) : List Nat := (List.range n).map (aw1 n E)
@[simp] theorem ancW_len (n : Nat) (E : Prs) : (ancW n E).length = n := by simp [ancW]
def aw (s : List Nat) (v : Nat) (l : List Nat) (j : Nat) : Nat := (l.take j).foldl (fun w p => w ||| s.getD p 0) (2 ^ v)
def astp (P : Nat → List Nat) (s : List Nat) (v : Nat) : List Nat := s.set v (aw s v (P v) (P v).length)
def asts (n : Nat) (P : Nat → List Nat) (pre : List Nat) : List Nat := pre.foldl (astp P) (List.replicate n 0)
@[simp] theorem asts_len (n : Nat) (P : Nat → List Nat) (pre : List Nat) : (asts n P pre).length = n := by
  have h : ∀ (l s : List Nat), (l.foldl (astp P) s).length = s.length := by
    intro l
    induction l with
    | nil => intro s; rfl
    | cons x l ih => intro s; rw [List.foldl_cons, ih, astp, List.length_set]
  simp [asts, h]
end Go.Proofs.Ytkbkmngbenohkaa
