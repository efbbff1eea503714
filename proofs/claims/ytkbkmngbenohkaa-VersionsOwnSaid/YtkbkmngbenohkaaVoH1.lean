/- Lists that are sorted by exchanges; heaps. Plain Lean; no program. -/
import Derived.Test.YtkbkmngbenohkaaVoA1
set_option linter.unusedSimpArgs false
set_option linter.unusedVariables false
namespace Go.Proofs.Ytkbkmngbenohkaa
open Go.RowKit

/-- Two elements exchanged. -/
def sw (L : List Int) (i j : Nat) : List Int := (L.set i (L.getD j 0)).set j (L.getD i 0)
@[simp] theorem sw_len (L : List Int) (i j : Nat) : (sw L i j).length = L.length := by simp [sw]
theorem setD (l : List Int) (i j : Nat) (x : Int) : (l.set i x).getD j 0 = if j = i ∧ i < l.length then x else l.getD j 0 := by
  simp only [List.getD_eq_getElem?_getD, List.getElem?_set]
  by_cases h : i = j
  · subst h
    by_cases h2 : i < l.length
    · simp [h2]
    · simp [h2]
  · simp [h, Ne.symm h]
theorem sw_get {L : List Int} {i j : Nat} (hi : i < L.length) (hj : j < L.length) (k : Nat) : (sw L i j).getD k 0 = if k = j then L.getD i 0 else if k = i then L.getD j 0 else L.getD k 0 := by
  unfold sw
  rw [setD, setD, List.length_set]
  by_cases h1 : k = j
  · rw [if_pos ⟨h1, hj⟩, if_pos h1]
  · rw [if_neg (fun h => h1 h.1), if_neg h1]
    by_cases h2 : k = i
    · rw [if_pos ⟨h2, hi⟩, if_pos h2]
    · rw [if_neg (fun h => h2 h.1), if_neg h2]
theorem sw_perm {L : List Int} {i j : Nat} (hi : i < L.length) (hj : j < L.length) : (sw L i j).Perm L := by
  rw [List.perm_iff_count]
  intro a
  have e1 : L.getD i 0 = L[i] := by simp [List.getD_eq_getElem?_getD, hi]
  have e2 : L.getD j 0 = L[j] := by simp [List.getD_eq_getElem?_getD, hj]
  unfold sw
  rw [e1, e2, List.count_set (by simpa using hj), List.count_set hi, List.getElem_set]
  have h1 : (if (L[i] == a) = true then 1 else 0) ≤ List.count a L := by
    split
    · rename_i h
      rw [← beq_iff_eq.1 h]; exact List.count_pos_iff.2 (List.getElem_mem hi)
    · omega
  have h2 : (if (L[j] == a) = true then 1 else 0) ≤ List.count a L := by
    split
    · rename_i h
      rw [← beq_iff_eq.1 h]; exact List.count_pos_iff.2 (List.getElem_mem hj)
    · omega
  by_cases hij : i = j
  · subst hij
    simp only [if_true]
    omega
  · rw [if_neg hij]
    by_cases h3 : (L[i] == a) = true
    · by_cases h4 : (L[j] == a) = true
      · simp only [h3, h4, if_true] at *; omega
      · simp only [h3, h4, if_true, Bool.false_eq_true, if_false] at *; omega
    · by_cases h4 : (L[j] == a) = true
      · simp only [h3, h4, if_true, Bool.false_eq_true, if_false] at *; omega
      · simp only [h3, h4, Bool.false_eq_true, if_false] at *; omega

/-! sorted -/
def srt (L : List Int) : List Int := L.mergeSort fun a b => decide (a ≤ b)
theorem srt_perm (L : List Int) : (srt L).Perm L := List.mergeSort_perm _ _
theorem srt_sorted (L : List Int) : (srt L).Pairwise fun a b => a ≤ b := by
  have := List.pairwise_mergeSort (le := fun a b : Int => decide (a ≤ b)) (by intro a b c h1 h2; simp at *; omega) (by intro a b; simp; omega) L
  exact this.imp fun {a b} h => by simpa using h
@[simp] theorem srt_len (L : List Int) : (srt L).length = L.length := (srt_perm L).length_eq
theorem srt_of {L M : List Int} (hp : M.Perm L) (hs : M.Pairwise fun a b => a ≤ b) : M = srt L :=
  List.Perm.eq_of_pairwise (fun a b _ _ h1 h2 => by omega) hs (srt_sorted L) (hp.trans (srt_perm L).symm)
/-- The first i are sorted. -/
def Upto (M : List Int) (i : Nat) : Prop := ∀ p q, p < q → q < i → M.getD p 0 ≤ M.getD q 0
theorem upto_all {M : List Int} (h : Upto M M.length) : M.Pairwise fun a b => a ≤ b := by
  rw [List.pairwise_iff_getElem]
  intro i j hi hj hij
  have := h i j hij hj
  rwa [getD_at _ _ _ hi, getD_at _ _ _ hj] at this
/-- The first i + 1 are sorted but for the one at j, which is on its way down. -/
structure Sink (M : List Int) (i j : Nat) : Prop where
  rest : ∀ p q, p < q → q ≤ i → p ≠ j → q ≠ j → M.getD p 0 ≤ M.getD q 0
  up : ∀ q, j < q → q ≤ i → M.getD j 0 ≤ M.getD q 0
theorem Sink.start {M : List Int} {i : Nat} (h : Upto M i) : Sink M i i := ⟨fun p q h1 h2 _ h4 => h p q h1 (by omega), fun q h1 h2 => by omega⟩
theorem Sink.stop {M : List Int} {i j : Nat} (h : Sink M i j) (hj : j ≤ i) (hs : j = 0 ∨ M.getD (j - 1) 0 ≤ M.getD j 0) : Upto M (i + 1) := by
  intro p q h1 h2
  by_cases hp : p = j
  · subst hp; exact h.up q h1 (by omega)
  · by_cases hq : q = j
    · subst hq
      rcases hs with hs | hs
      · omega
      · by_cases hp1 : p = q - 1
        · rw [hp1]; exact hs
        · have := h.rest p (q - 1) (by omega) (by omega) hp (by omega)
          omega
    · exact h.rest p q h1 (by omega) hp hq
theorem Sink.swap {M : List Int} {i j : Nat} (h : Sink M i j) (hj : 0 < j) (hji : j ≤ i) (hi : i < M.length) (hlt : M.getD j 0 < M.getD (j - 1) 0) : Sink (sw M j (j - 1)) i (j - 1) := by
  have g := sw_get (L := M) (i := j) (j := j - 1) (by omega) (by omega)
  refine ⟨fun p q h1 h2 h3 h4 => ?_, fun q h1 h2 => ?_⟩
  · rw [g, g, if_neg h3, if_neg h4]
    by_cases hp : p = j
    · rw [if_pos hp, if_neg (by omega)]
      exact h.rest (j - 1) q (by omega) h2 (by omega) (by omega)
    · rw [if_neg hp]
      by_cases hq : q = j
      · rw [if_pos hq]
        exact h.rest p (j - 1) (by omega) (by omega) hp (by omega)
      · rw [if_neg hq]; exact h.rest p q h1 h2 hp hq
  · rw [g, g, if_pos rfl, if_neg (by omega)]
    by_cases hq : q = j
    · rw [if_pos hq]; omega
    · rw [if_neg hq]; exact h.up q (by omega) h2

/-! heaps -/
/-- The first m are a heap. -/
def HP (m : Nat) (L : List Int) : Prop := ∀ k, 0 < k → k < m → L.getD ((k - 1) / 2) 0 ≤ L.getD k 0
theorem HP.min {m : Nat} {L : List Int} (h : HP m L) : ∀ k, k < m → L.getD 0 0 ≤ L.getD k 0 := by
  intro k
  induction k using Nat.strongRecOn with
  | _ k ih =>
    intro hk
    by_cases h0 : k = 0
    · subst h0; omega
    · have h1 := h k (by omega) hk
      have h2 := ih ((k - 1) / 2) (by omega) (by omega)
      omega
def upL (L : List Int) (j : Nat) : List Int :=
  if h : j = 0 then L else if L.getD j 0 < L.getD ((j - 1) / 2) 0 then upL (sw L ((j - 1) / 2) j) ((j - 1) / 2) else L
termination_by j
decreasing_by omega
theorem upL_zero (L : List Int) : upL L 0 = L := by rw [upL]; simp
theorem upL_yes {L : List Int} {j : Nat} (h : 0 < j) (hl : L.getD j 0 < L.getD ((j - 1) / 2) 0) : upL L j = upL (sw L ((j - 1) / 2) j) ((j - 1) / 2) := by
  rw [upL, dif_neg (by omega), if_pos hl]
theorem upL_no {L : List Int} {j : Nat} (hl : ¬ L.getD j 0 < L.getD ((j - 1) / 2) 0) : upL L j = L := by
  rw [upL]; split
  · rfl
  · first | rfl | rw [if_neg hl]
/-- A heap but for the one at j, which is on its way up. -/
structure Rise (m : Nat) (L : List Int) (j : Nat) : Prop where
  rest : ∀ k, 0 < k → k < m → k ≠ j → L.getD ((k - 1) / 2) 0 ≤ L.getD k 0
  kids : ∀ k, 0 < k → k < m → (k - 1) / 2 = j → 0 < j → L.getD ((j - 1) / 2) 0 ≤ L.getD k 0
theorem Rise.swap {m : Nat} {L : List Int} {j : Nat} (h : Rise m L j) (hj : 0 < j) (hjm : j < m) (hm : m ≤ L.length) (hl : L.getD j 0 < L.getD ((j - 1) / 2) 0) : Rise m (sw L ((j - 1) / 2) j) ((j - 1) / 2) := by
  have g := sw_get (L := L) (i := (j - 1) / 2) (j := j) (by omega) (by omega)
  refine ⟨fun k h1 h2 h3 => ?_, fun k h1 h2 h3 h4 => ?_⟩
  · rw [g, g]
    by_cases hkj : k = j
    · subst hkj
      rw [if_neg (by omega), if_pos rfl, if_pos rfl]; omega
    · rw [if_neg hkj, if_neg h3]
      by_cases hp : (k - 1) / 2 = j
      · rw [if_pos hp]
        exact h.kids k h1 h2 hp hj
      · rw [if_neg hp]
        by_cases hp2 : (k - 1) / 2 = (j - 1) / 2
        · rw [if_pos hp2]
          have := h.rest k h1 h2 hkj
          rw [hp2] at this; omega
        · rw [if_neg hp2]; exact h.rest k h1 h2 hkj
  · rw [g, g]
    have h5 := h.rest ((j - 1) / 2) h4 (by omega) (by omega)
    rw [if_neg (by omega), if_neg (by omega)]
    by_cases hkj : k = j
    · rw [if_pos hkj]; exact h5
    · rw [if_neg hkj, if_neg (by omega)]
      have := h.rest k h1 h2 hkj
      rw [h3] at this; omega
theorem Rise.done_ {m : Nat} {L : List Int} {j : Nat} (h : Rise m L j) (hs : j = 0 ∨ L.getD ((j - 1) / 2) 0 ≤ L.getD j 0) : HP m L := by
  intro k h1 h2
  by_cases hk : k = j
  · subst hk
    rcases hs with hs | hs
    · omega
    · exact hs
  · exact h.rest k h1 h2 hk
theorem upL_ok {m : Nat} : ∀ (j : Nat) {L : List Int}, Rise m L j → j < m → m ≤ L.length → HP m (upL L j) ∧ (upL L j).Perm L := by
  intro j
  induction j using Nat.strongRecOn with
  | _ j ih =>
    intro L h hj hm
    by_cases h0 : j = 0
    · subst h0; rw [upL_zero]; exact ⟨h.done_ (.inl rfl), List.Perm.refl _⟩
    · by_cases hl : L.getD j 0 < L.getD ((j - 1) / 2) 0
      · rw [upL_yes (by omega) hl]
        have h1 := ih ((j - 1) / 2) (by omega) (h.swap (by omega) hj hm hl) (by omega) (by simpa using hm)
        exact ⟨h1.1, h1.2.trans (sw_perm (by omega) (by omega))⟩
      · rw [upL_no hl]; exact ⟨h.done_ (.inr (by omega)), List.Perm.refl _⟩
/-- The lesser child. -/
def kid (L : List Int) (i m : Nat) : Nat := if 2 * i + 2 < m ∧ L.getD (2 * i + 2) 0 < L.getD (2 * i + 1) 0 then 2 * i + 2 else 2 * i + 1
theorem kid_or (L : List Int) (i m : Nat) : kid L i m = 2 * i + 1 ∨ (kid L i m = 2 * i + 2 ∧ 2 * i + 2 < m) := by
  unfold kid; split
  · rename_i h; exact .inr ⟨rfl, h.1⟩
  · exact .inl rfl
def downL (L : List Int) (i m : Nat) : List Int :=
  if h : m ≤ 2 * i + 1 then L else if L.getD (kid L i m) 0 < L.getD i 0 then downL (sw L i (kid L i m)) (kid L i m) m else L
termination_by m - i
decreasing_by have := kid_or L i m; omega
theorem downL_end {L : List Int} {i m : Nat} (h : m ≤ 2 * i + 1) : downL L i m = L := by rw [downL, dif_pos h]
theorem downL_yes {L : List Int} {i m : Nat} (h : 2 * i + 1 < m) (hl : L.getD (kid L i m) 0 < L.getD i 0) : downL L i m = downL (sw L i (kid L i m)) (kid L i m) m := by
  rw [downL, dif_neg (by omega), if_pos hl]
theorem downL_no {L : List Int} {i m : Nat} (hl : ¬ L.getD (kid L i m) 0 < L.getD i 0) : downL L i m = L := by
  rw [downL]; split
  · rfl
  · first | rfl | rw [if_neg hl]
theorem kid_min {L : List Int} {i m k : Nat} (hk : 0 < k) (hm : k < m) (hp : (k - 1) / 2 = i) : L.getD (kid L i m) 0 ≤ L.getD k 0 := by
  unfold kid
  split
  · rename_i h
    have : k = 2 * i + 1 ∨ k = 2 * i + 2 := by omega
    rcases this with rfl | rfl <;> omega
  · rename_i h
    have : k = 2 * i + 1 ∨ k = 2 * i + 2 := by omega
    rcases this with rfl | rfl
    · omega
    · have : ¬ L.getD (2 * i + 2) 0 < L.getD (2 * i + 1) 0 := fun hh => h ⟨hm, hh⟩
      omega
/-- A heap but for the one at i, which is on its way down. -/
structure Fall (m : Nat) (L : List Int) (i : Nat) : Prop where
  rest : ∀ k, 0 < k → k < m → (k - 1) / 2 ≠ i → L.getD ((k - 1) / 2) 0 ≤ L.getD k 0
  kids : ∀ k, 0 < k → k < m → (k - 1) / 2 = i → 0 < i → L.getD ((i - 1) / 2) 0 ≤ L.getD k 0
theorem Fall.swap {m : Nat} {L : List Int} {i : Nat} (h : Fall m L i) (hi : 2 * i + 1 < m) (hm : m ≤ L.length) (hl : L.getD (kid L i m) 0 < L.getD i 0) : Fall m (sw L i (kid L i m)) (kid L i m) := by
  have hk := kid_or L i m
  have g := sw_get (L := L) (i := i) (j := kid L i m) (by omega) (by omega)
  refine ⟨fun k h1 h2 h3 => ?_, fun k h1 h2 h3 h4 => ?_⟩
  · rw [g, g, if_neg h3]
    by_cases hp : (k - 1) / 2 = i
    · rw [if_pos hp]
      by_cases hkk : k = kid L i m
      · rw [if_pos hkk]; omega
      · rw [if_neg hkk, if_neg (by omega)]; exact kid_min h1 h2 hp
    · rw [if_neg hp]
      by_cases hkk : k = kid L i m
      · omega
      · rw [if_neg hkk]
        by_cases hki : k = i
        · subst hki
          rw [if_pos rfl]
          exact h.kids (kid L k m) (by omega) (by omega) (by omega) h1
        · rw [if_neg hki]; exact h.rest k h1 h2 hp
  · rw [g, g]
    have hpk : (kid L i m - 1) / 2 = i := by omega
    rw [hpk, if_neg (by omega), if_pos rfl, if_neg (by omega), if_neg (by omega)]
    have := h.rest k h1 h2 (by omega)
    rw [h3] at this; exact this
theorem Fall.done_ {m : Nat} {L : List Int} {i : Nat} (h : Fall m L i) (hs : m ≤ 2 * i + 1 ∨ L.getD i 0 ≤ L.getD (kid L i m) 0) : HP m L := by
  intro k h1 h2
  by_cases hp : (k - 1) / 2 = i
  · rcases hs with hs | hs
    · omega
    · have := kid_min (L := L) h1 h2 hp
      rw [hp]; omega
  · exact h.rest k h1 h2 hp
theorem downL_ok {m : Nat} : ∀ (d i : Nat) {L : List Int}, m - i = d → Fall m L i → m ≤ L.length → HP m (downL L i m) ∧ (downL L i m).Perm L ∧ ∀ k, m ≤ k → (downL L i m).getD k 0 = L.getD k 0 := by
  intro d
  induction d using Nat.strongRecOn with
  | _ d ih =>
    intro i L hd h hm
    by_cases h0 : m ≤ 2 * i + 1
    · rw [downL_end h0]; exact ⟨h.done_ (.inl h0), List.Perm.refl _, fun _ _ => rfl⟩
    · by_cases hl : L.getD (kid L i m) 0 < L.getD i 0
      · rw [downL_yes (by omega) hl]
        have hk := kid_or L i m
        have h1 := ih (m - kid L i m) (by omega) (kid L i m) rfl (h.swap (by omega) hm hl) (by simpa using hm)
        refine ⟨h1.1, h1.2.1.trans (sw_perm (by omega) (by omega)), fun k hk2 => ?_⟩
        rw [h1.2.2 k hk2, sw_get (by omega) (by omega), if_neg (by omega), if_neg (by omega)]
      · rw [downL_no hl]; exact ⟨h.done_ (.inr (by omega)), List.Perm.refl _, fun _ _ => rfl⟩
theorem downL_len {m : Nat} : ∀ (d i : Nat) {L : List Int}, m - i = d → (downL L i m).length = L.length := by
  intro d
  induction d using Nat.strongRecOn with
  | _ d ih =>
    intro i L hd
    by_cases h0 : m ≤ 2 * i + 1
    · rw [downL_end h0]
    · by_cases hl : L.getD (kid L i m) 0 < L.getD i 0
      · rw [downL_yes (by omega) hl]
        have hk := kid_or L i m
        rw [ih (m - kid L i m) (by omega) (kid L i m) rfl, sw_len]
      · rw [downL_no hl]
def hpush (L : List Int) (v : Int) : List Int := upL (L ++ [v]) L.length
def hpop (L : List Int) : List Int := (downL (sw L 0 (L.length - 1)) 0 (L.length - 1)).take (L.length - 1)
theorem hpush_ok {L : List Int} {v : Int} (h : HP L.length L) : HP (L.length + 1) (hpush L v) ∧ (hpush L v).Perm (L ++ [v]) := by
  refine upL_ok L.length ⟨fun k h1 h2 h3 => ?_, fun k h1 h2 h3 _ => by omega⟩ (by omega) (by simp)
  have e1 : (L ++ [v]).getD k 0 = L.getD k 0 := by simp [List.getD_eq_getElem?_getD, List.getElem?_append_left (show k < L.length by omega)]
  have e2 : (L ++ [v]).getD ((k - 1) / 2) 0 = L.getD ((k - 1) / 2) 0 := by simp [List.getD_eq_getElem?_getD, List.getElem?_append_left (show (k - 1) / 2 < L.length by omega)]
  rw [e1, e2]; exact h k h1 (by omega)
theorem hpush_len {L : List Int} {v : Int} (h : HP L.length L) : (hpush L v).length = L.length + 1 := by
  have := (hpush_ok (v := v) h).2.length_eq; simpa using this
theorem hpop_ok {L : List Int} (h : HP L.length L) (h0 : 0 < L.length) : HP (L.length - 1) (hpop L) ∧ (hpop L).length = L.length - 1 ∧ L.Perm (L.getD 0 0 :: hpop L) ∧ (downL (sw L 0 (L.length - 1)) 0 (L.length - 1)).getD (L.length - 1) 0 = L.getD 0 0 := by
  have g := sw_get (L := L) (i := 0) (j := L.length - 1) h0 (by omega)
  have hf : Fall (L.length - 1) (sw L 0 (L.length - 1)) 0 := by
    refine ⟨fun k h1 h2 h3 => ?_, fun k _ _ _ h4 => by omega⟩
    rw [g, g, if_neg (by omega), if_neg h3, if_neg (by omega), if_neg (by omega)]
    exact h k h1 (by omega)
  have hd := downL_ok (L.length - 1 - 0) 0 rfl hf (by simp)
  have hlast : (downL (sw L 0 (L.length - 1)) 0 (L.length - 1)).getD (L.length - 1) 0 = L.getD 0 0 := by
    rw [hd.2.2 _ (Nat.le_refl _), g, if_pos rfl]
  have hlen : (downL (sw L 0 (L.length - 1)) 0 (L.length - 1)).length = L.length := by rw [downL_len _ 0 rfl, sw_len]
  unfold hpop
  generalize downL (sw L 0 (L.length - 1)) 0 (L.length - 1) = D at hd hlast hlen
  refine ⟨fun k h1 h2 => ?_, by simp; omega, ?_, hlast⟩
  · rw [getD_take _ _ _ _ h2, getD_take _ _ _ _ (by omega)]
    exact hd.1 k h1 h2
  · have e : D = D.take (L.length - 1) ++ [L.getD 0 0] := by
      conv => lhs; rw [← List.take_append_drop (L.length - 1) D]
      congr 1
      rw [List.drop_eq_getElem_cons (by omega), List.drop_of_length_le (by omega), ← hlast, getD_at _ _ _ (by omega)]
    have h1 := hd.2.1.trans (sw_perm (L := L) (i := 0) (j := L.length - 1) h0 (by omega))
    rw [e] at h1
    exact h1.symm.trans (List.perm_append_singleton _ _)
end Go.Proofs.Ytkbkmngbenohkaa
