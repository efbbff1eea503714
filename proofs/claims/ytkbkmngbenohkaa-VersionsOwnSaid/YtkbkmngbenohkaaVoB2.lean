/- The closure of pairs; matrices; the reference's way to it. Plain. -/
import Derived.Test.YtkbkmngbenohkaaVoB1
import Derived.Test.YtkbkmngbenohkaaVoA4
set_option linter.unusedSimpArgs false
set_option linter.unusedVariables false
namespace Go.Proofs.Ytkbkmngbenohkaa
open Go.RowKit

abbrev Prs := List (Int × Int)
/-- What the pairs lead to. -/
inductive Clo (E : Prs) : Nat → Nat → Prop where
  | one {a b : Nat} (h : ((a : Int), (b : Int)) ∈ E) : Clo E a b
  | more {a b c : Nat} (h : ((a : Int), (b : Int)) ∈ E) (hc : Clo E b c) : Clo E a c
theorem Clo.trans {E : Prs} {a b c : Nat} (h : Clo E a b) (h2 : Clo E b c) : Clo E a c := by
  induction h with
  | one h => exact .more h h2
  | more h _ ih => exact .more h (ih h2)
noncomputable def cl (E : Prs) : Lt := fun a b => @decide (Clo E a b) (Classical.propDecidable _)
theorem cl_iff {E : Prs} {a b : Nat} : cl E a b = true ↔ Clo E a b := by unfold cl; exact @decide_eq_true_iff _ (Classical.propDecidable _)
def inE (n : Nat) (E : Prs) : Bool := E.all fun p => decide (0 ≤ p.1) && decide (p.1 < (n : Int)) && decide (0 ≤ p.2) && decide (p.2 < (n : Int))
theorem inE_mem {n : Nat} {E : Prs} (h : inE n E = true) {p : Int × Int} (hp : p ∈ E) : 0 ≤ p.1 ∧ p.1 < (n : Int) ∧ 0 ≤ p.2 ∧ p.2 < (n : Int) := by
  have := List.all_eq_true.1 h p hp
  simp only [Bool.and_eq_true, decide_eq_true_eq] at this
  omega
theorem inE_at {n : Nat} {E : Prs} (h : inE n E = true) {i : Nat} (hi : i < E.length) : 0 ≤ (E.getD i (0, 0)).1 ∧ (E.getD i (0, 0)).1 < (n : Int) ∧ 0 ≤ (E.getD i (0, 0)).2 ∧ (E.getD i (0, 0)).2 < (n : Int) := by
  refine inE_mem h ?_
  rw [List.getD_eq_getElem?_getD, List.getElem?_eq_getElem hi]; exact List.getElem_mem hi
theorem Clo.lt {n : Nat} {E : Prs} (hE : inE n E = true) {a b : Nat} (h : Clo E a b) : a < n ∧ b < n := by
  induction h with
  | one h => have := inE_mem hE h; simp only at this; omega
  | more h _ ih => have := inE_mem hE h; simp only at this; omega

/-- Paths whose inner elements lie below c. -/
inductive Pth (E : Prs) (c : Nat) : Nat → Nat → Prop where
  | one {a b : Nat} (h : ((a : Int), (b : Int)) ∈ E) : Pth E c a b
  | via {a b : Nat} (k : Nat) (hk : k < c) (h : Pth E c a k) (h2 : Pth E c k b) : Pth E c a b
theorem Pth.clo {E : Prs} {c a b : Nat} (h : Pth E c a b) : Clo E a b := by
  induction h with
  | one h => exact .one h
  | via _ _ _ _ ih ih2 => exact ih.trans ih2
theorem Clo.pth {n : Nat} {E : Prs} (hE : inE n E = true) {a b : Nat} (h : Clo E a b) : Pth E n a b := by
  induction h with
  | one h => exact .one h
  | more h hc ih => exact .via _ (hc.lt hE).1 (.one h) ih
theorem Pth.zero {E : Prs} {a b : Nat} (h : Pth E 0 a b) : ((a : Int), (b : Int)) ∈ E := by
  cases h with
  | one h => exact h
  | via k hk => omega
theorem Pth.split {E : Prs} {c a b : Nat} (h : Pth E (c + 1) a b) : Pth E c a b ∨ (Pth E c a c ∧ Pth E c c b) := by
  induction h with
  | one h => exact .inl (.one h)
  | via k hk _ _ ih ih2 =>
    by_cases hkc : k = c
    · subst hkc
      right
      refine ⟨?_, ?_⟩
      · rcases ih with h | ⟨h, _⟩ <;> exact h
      · rcases ih2 with h | ⟨_, h⟩ <;> exact h
    · have hk' : k < c := by omega
      rcases ih with h | ⟨h, h'⟩ <;> rcases ih2 with g | ⟨g, g'⟩
      · exact .inl (.via k hk' h g)
      · exact .inr ⟨.via k hk' h g, g'⟩
      · exact .inr ⟨h, .via k hk' h' g⟩
      · exact .inr ⟨h, g'⟩

/-- A matrix of n rows of n. -/
structure Mt (n : Nat) (M : List (List Bool)) : Prop where
  len : M.length = n
  row : ∀ i, i < n → (M.getD i []).length = n
def mset (M : List (List Bool)) (a b : Nat) : List (List Bool) := M.set a ((M.getD a []).set b true)
theorem getD_set {α : Type} (l : List α) (i j : Nat) (x d : α) : (l.set i x).getD j d = if j = i ∧ i < l.length then x else l.getD j d := by
  simp only [List.getD_eq_getElem?_getD, List.getElem?_set]
  by_cases h : i = j
  · subst h
    by_cases h2 : i < l.length
    · simp [h2]
    · simp [h2]
  · simp [h, Ne.symm h]
theorem Mt.set {n : Nat} {M : List (List Bool)} (h : Mt n M) {a b : Nat} (ha : a < n) (hb : b < n) : Mt n (mset M a b) := by
  refine ⟨by simp [mset, h.len], fun i hi => ?_⟩
  unfold mset
  rw [getD_set]
  split
  · rw [List.length_set]; exact h.row a ha
  · exact h.row i hi
theorem mset_lt {n : Nat} {M : List (List Bool)} (h : Mt n M) {a b x y : Nat} (ha : a < n) (hb : b < n) : mlt (mset M a b) x y = ((decide (x = a) && decide (y = b)) || mlt M x y) := by
  unfold mlt mset
  rw [getD_set]
  by_cases hx : x = a
  · subst hx
    rw [if_pos ⟨rfl, by rw [h.len]; exact ha⟩, getD_set]
    by_cases hy : y = b
    · subst hy
      rw [if_pos ⟨rfl, by rw [h.row x ha]; exact hb⟩]; simp
    · rw [if_neg (by simp [hy])]; simp [hy]
  · rw [if_neg (by simp [hx])]; simp [hx]
def mzero (n : Nat) (k : Nat) : List (List Bool) := List.replicate k (List.replicate n false)
theorem mzero_mt (n : Nat) : Mt n (mzero n n) := ⟨by simp [mzero], fun i hi => by simp [mzero, List.getD_eq_getElem?_getD, List.getElem?_replicate, hi]⟩
theorem mzero_lt (n x y : Nat) : mlt (mzero n n) x y = false := by
  unfold mlt mzero
  simp only [List.getD_eq_getElem?_getD, List.getElem?_replicate]
  by_cases hx : x < n
  · simp only [hx, if_true, Option.getD_some, List.getElem?_replicate]
    by_cases hy : y < n
    · simp [hy]
    · simp [hy]
  · simp [hx]
/-- i pairs are laid. -/
structure MPr (n : Nat) (E : Prs) (i : Nat) (M : List (List Bool)) : Prop where
  mt : Mt n M
  at_ : ∀ x y, x < n → y < n → (mlt M x y = true ↔ ((x : Int), (y : Int)) ∈ E.take i)
theorem MPr.zero (n : Nat) (E : Prs) : MPr n E 0 (mzero n n) := ⟨mzero_mt n, fun x y _ _ => by rw [mzero_lt]; simp⟩
theorem MPr.succ {n : Nat} {E : Prs} {i : Nat} {M : List (List Bool)} (h : MPr n E i M) (hE : inE n E = true) (hi : i < E.length) : MPr n E (i + 1) (mset M (E.getD i (0, 0)).1.toNat (E.getD i (0, 0)).2.toNat) := by
  have hb := inE_at hE hi
  have ha1 : (E.getD i (0, 0)).1.toNat < n := by omega
  have hb1 : (E.getD i (0, 0)).2.toNat < n := by omega
  refine ⟨h.mt.set ha1 hb1, fun x y hx hy => ?_⟩
  have hg : E[i] = E.getD i (0, 0) := by simp [List.getD_eq_getElem?_getD, hi]
  rw [mset_lt h.mt ha1 hb1, List.take_add_one, List.getElem?_eq_getElem hi]
  simp only [Bool.or_eq_true, Bool.and_eq_true, decide_eq_true_eq, Option.toList_some, List.mem_append, List.mem_singleton, h.at_ x y hx hy]
  rw [hg]
  constructor
  · rintro (⟨h1, h2⟩ | h1)
    · right
      apply Prod.ext
      · simp only; omega
      · simp only; omega
    · exact .inl h1
  · rintro (h1 | h1)
    · exact .inr h1
    · left
      have h2 := congrArg Prod.fst h1
      have h3 := congrArg Prod.snd h1
      simp only at h2 h3
      omega
/-- Where the three loops stand. -/
structure War (n : Nat) (E : Prs) (c a b : Nat) (M : List (List Bool)) : Prop where
  mt : Mt n M
  snd : ∀ x y, x < n → y < n → mlt M x y = true → Clo E x y
  cmp : ∀ x y, x < n → y < n → Pth E c x y → mlt M x y = true
  nxt : ∀ x y, x < n → y < n → (x < a ∨ x = a ∧ y < b) → Pth E (c + 1) x y → mlt M x y = true
theorem War.start {n : Nat} {E : Prs} {M : List (List Bool)} (h : MPr n E E.length M) : War n E 0 0 0 M :=
  ⟨h.mt, fun x y hx hy hm => .one (by have := (h.at_ x y hx hy).1 hm; rwa [List.take_length] at this), fun x y hx hy hp => (h.at_ x y hx hy).2 (by rw [List.take_length]; exact hp.zero), fun x y _ _ hl _ => by omega⟩
theorem War.no {n : Nat} {E : Prs} {c a b : Nat} {M : List (List Bool)} (h : War n E c a b M) (hc : c < n) (ha : a < n) (hb : b < n) (hn : (mlt M a c && mlt M c b) = false) : War n E c a (b + 1) M := by
  refine ⟨h.mt, h.snd, h.cmp, fun x y hx hy hl hp => ?_⟩
  by_cases hxy : x = a ∧ y = b
  · obtain ⟨rfl, rfl⟩ := hxy
    rcases hp.split with h1 | ⟨h1, h2⟩
    · exact h.cmp x y hx hy h1
    · rw [h.cmp x c hx hc h1, h.cmp c y hc hy h2] at hn; cases hn
  · exact h.nxt x y hx hy (by omega) hp
theorem War.yes {n : Nat} {E : Prs} {c a b : Nat} {M : List (List Bool)} (h : War n E c a b M) (hc : c < n) (ha : a < n) (hb : b < n) (hn : (mlt M a c && mlt M c b) = true) : War n E c a (b + 1) (mset M a b) := by
  rw [Bool.and_eq_true] at hn
  have key : ∀ x y, mlt M x y = true → mlt (mset M a b) x y = true := fun x y hm => by rw [mset_lt h.mt ha hb, hm]; simp
  refine ⟨h.mt.set ha hb, fun x y hx hy hm => ?_, fun x y hx hy hp => key x y (h.cmp x y hx hy hp), fun x y hx hy hl hp => ?_⟩
  · rw [mset_lt h.mt ha hb] at hm
    simp only [Bool.or_eq_true, Bool.and_eq_true, decide_eq_true_eq] at hm
    rcases hm with ⟨rfl, rfl⟩ | hm
    · exact (h.snd x c hx hc hn.1).trans (h.snd c y hc hy hn.2)
    · exact h.snd x y hx hy hm
  · by_cases hxy : x = a ∧ y = b
    · obtain ⟨rfl, rfl⟩ := hxy
      rw [mset_lt h.mt ha hb]; simp
    · exact key x y (h.nxt x y hx hy (by omega) hp)
theorem War.row {n : Nat} {E : Prs} {c a : Nat} {M : List (List Bool)} (h : War n E c a n M) : War n E c (a + 1) 0 M :=
  ⟨h.mt, h.snd, h.cmp, fun x y hx hy hl hp => h.nxt x y hx hy (by omega) hp⟩
noncomputable def cloM (n : Nat) (E : Prs) : List (List Bool) := (List.range n).map fun a => (List.range n).map fun b => cl E a b
theorem cloM_lt {n : Nat} {E : Prs} {a b : Nat} (ha : a < n) (hb : b < n) : mlt (cloM n E) a b = cl E a b := by
  simp [mlt, cloM, List.getD_eq_getElem?_getD, ha, hb]
theorem cloM_mt (n : Nat) (E : Prs) : Mt n (cloM n E) := ⟨by simp [cloM], fun i hi => by simp [cloM, List.getD_eq_getElem?_getD, hi]⟩
theorem Mt.ext {n : Nat} {M M' : List (List Bool)} (h : Mt n M) (h' : Mt n M') (he : ∀ x y, x < n → y < n → mlt M x y = mlt M' x y) : M = M' := by
  apply List.ext_getElem
  · rw [h.len, h'.len]
  · intro i h1 h2
    have hi : i < n := by rw [← h.len]; exact h1
    have e1 : M[i] = M.getD i [] := by simp [List.getD_eq_getElem?_getD, h1]
    have e2 : M'[i] = M'.getD i [] := by simp [List.getD_eq_getElem?_getD, h2]
    rw [e1, e2]
    apply List.ext_getElem
    · rw [h.row i hi, h'.row i hi]
    · intro j h3 h4
      have hj : j < n := by rw [← h.row i hi]; exact h3
      have := he i j hi hj
      unfold mlt at this
      rw [List.getD_eq_getElem?_getD, List.getElem?_eq_getElem h3, List.getD_eq_getElem?_getD (l := M'.getD i []), List.getElem?_eq_getElem h4] at this
      exact this
theorem War.clo {n : Nat} {E : Prs} {M : List (List Bool)} (h : War n E n 0 0 M) (hE : inE n E = true) : M = cloM n E := by
  refine h.mt.ext (cloM_mt n E) fun x y hx hy => ?_
  rw [cloM_lt hx hy, Bool.eq_iff_iff, cl_iff]
  exact ⟨h.snd x y hx hy, fun hc => h.cmp x y hx hy (hc.pth hE)⟩
end Go.Proofs.Ytkbkmngbenohkaa
