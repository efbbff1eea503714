/- The reference's Parents: its shape. Plain Lean; no program. -/
import Derived.Test.YtkbkmngbenohkaaVoV3
set_option linter.unusedSimpArgs false
set_option linter.unusedVariables false
namespace Go.Proofs.Ytkbkmngbenohkaa
open Go.RowKit

def prC (v : Nat) (own : List Int) (n : Int) (k : Nat) : Prop := 0 ≤ (v : Int) - 1 - n % 4 ∧ (v : Int) - 1 - n % 4 ∉ own ∧ (k = 0 ∨ n / 4 % 3 = 0)
instance (v : Nat) (own : List Int) (n : Int) (k : Nat) : Decidable (prC v own n k) := by unfold prC; exact inferInstance
def prK (v : Nat) (N : Int) : Nat → List Int × Int
  | 0 => ([], N)
  | k + 1 => (if prC v (prK v N k).1 (prK v N k).2 k then (prK v N k).1 ++ [(v : Int) - 1 - (prK v N k).2 % 4] else (prK v N k).1, (prK v N k).2 / 4 / 3)
theorem prK_yes {v : Nat} {N n : Int} {k : Nat} {own : List Int} (h : prK v N k = (own, n)) (hc : prC v own n k) : prK v N (k + 1) = (own ++ [(v : Int) - 1 - n % 4], n / 4 / 3) := by rw [prK, h, if_pos hc]
theorem prK_no {v : Nat} {N n : Int} {k : Nat} {own : List Int} (h : prK v N k = (own, n)) (hc : ¬ prC v own n k) : prK v N (k + 1) = (own, n / 4 / 3) := by rw [prK, h, if_neg hc]
/-- A row of parents: a few smaller numbers close by, each once. -/
structure Row4 (v : Nat) (l : List Int) : Prop where
  nd : l.Nodup
  b : ∀ p ∈ l, 0 ≤ p ∧ p < (v : Int) ∧ (v : Int) ≤ p + 4
theorem prK_row (v : Nat) (N : Int) : ∀ k, Row4 v (prK v N k).1 ∧ (prK v N k).1.length ≤ k
  | 0 => ⟨⟨List.nodup_nil, fun _ h => absurd h List.not_mem_nil⟩, Nat.le_refl _⟩
  | k + 1 => by
    obtain ⟨h1, h2⟩ := prK_row v N k
    generalize he : prK v N k = z at *
    by_cases hc : prC v z.1 z.2 k
    · rw [prK_yes he hc]
      obtain ⟨c1, c2, _⟩ := hc
      refine ⟨⟨?_, fun p hp => ?_⟩, by simp; omega⟩
      · rw [List.nodup_append]
        exact ⟨h1.nd, by simp, fun x hx y hy => by simp at hy; subst hy; exact fun e => c2 (e ▸ hx)⟩
      · rcases List.mem_append.1 hp with hp | hp
        · exact h1.b p hp
        · simp at hp; omega
    · rw [prK_no he hc]
      exact ⟨h1, Nat.le_succ_of_le h2⟩
def pr1 (l : List Int) (v : Nat) : List Int := if 0 < v then (prK v (around (l.getD (v - 1) 0) 1000000) 3).1 else []
theorem pr1_row (l : List Int) (v : Nat) : Row4 v (pr1 l v) ∧ (pr1 l v).length ≤ 3 := by
  unfold pr1
  split
  · exact prK_row _ _ _
  · exact ⟨⟨List.nodup_nil, fun _ h => absurd h List.not_mem_nil⟩, Nat.zero_le _⟩
def prL (l : List Int) (v : Nat) : List (List Int) := (List.range v).map (pr1 l)
theorem prL_succ (l : List Int) (v : Nat) : prL l (v + 1) = prL l v ++ [pr1 l v] := by simp [prL, List.range_succ]
@[simp] theorem prL_len (l : List Int) (v : Nat) : (prL l v).length = v := by simp [prL]
def prM (l : List Int) : Nat := min 14 (1 + l.length)
def par32 (l : List Int) : List (List Int) := prL l (prM l)
/-- Versions whose parents are a few smaller numbers close by. -/
structure Near (Ps : List (List Int)) : Prop where
  n : Ps.length ≤ 14
  r : ∀ v, v < Ps.length → Row4 v (Ps.getD v []) ∧ (Ps.getD v []).length ≤ 3
theorem par32_near (l : List Int) : Near (par32 l) := by
  refine ⟨by simp [par32, prM]; omega, fun v hv => ?_⟩
  have hv' : v < prM l := by simpa [par32] using hv
  have : (par32 l).getD v [] = pr1 l v := by simp [par32, prL, List.getD_eq_getElem?_getD, hv']
  rw [this]; exact pr1_row l v
theorem par32_len (l : List Int) : (par32 l).length = prM l := by simp [par32]
theorem prM_pos (l : List Int) : 1 ≤ prM l ∧ prM l ≤ 14 := by unfold prM; omega
theorem Near.valid {Ps : List (List Int)} (h : Near Ps) : Valid Ps := fun v hv => ⟨(h.r v hv).1.nd, fun p hp => by have := (h.r v hv).1.b p hp; omega⟩
theorem Near.rows {Ps : List (List Int)} (h : Near Ps) (v : Nat) : (Ps.getD v []).length ≤ 3 := by
  by_cases hv : v < Ps.length
  · exact (h.r v hv).2
  · rw [List.getD_eq_getElem?_getD, List.getElem?_eq_none (by omega)]; exact Nat.zero_le _
/-- To smaller numbers alone: no way leads back. -/
theorem clo_lt {E : Prs} (h : ∀ a b : Nat, ((a : Int), (b : Int)) ∈ E → a < b) {a b : Nat} (hc : Clo E a b) : a < b := by
  induction hc with
  | one he => exact h _ _ he
  | more he _ ih => have := h _ _ he; omega
theorem Near.lt {Ps : List (List Int)} (h : Near Ps) {a b : Nat} (hc : Clo (edg Ps Ps.length 0) a b) : a < b := by
  refine clo_lt (fun a b he => ?_) hc
  obtain ⟨v, hv, h1, h2⟩ := edg_mem.1 he
  have := (h.r v hv).1.b _ h2
  simp only at h1 this
  omega
theorem Near.acyc {Ps : List (List Int)} (h : Near Ps) : ¬ ∃ a, a < Ps.length ∧ Clo (edg Ps Ps.length 0) a a := fun ⟨a, _, hc⟩ => Nat.lt_irrefl _ (h.lt hc)
/-- As many successors as versions at most. -/
theorem nxt_edg_len {Ps : List (List Int)} (hV : Valid Ps) (a : Nat) : (nxt (edg Ps Ps.length 0) a).length ≤ Ps.length := by
  rw [nxt_edg a Ps.length fun v hv => (hV v hv).1, List.length_map]
  have := List.length_filter_le (fun v => decide ((a : Int) ∈ Ps.getD v [])) (List.range Ps.length)
  simpa using this
theorem filter_few {p : Nat → Bool} {a m : Nat} (n : Nat) (h : ∀ v, p v = true → a < v ∧ v ≤ a + m) : ((List.range n).filter p).length ≤ m := by
  have h1 : ((List.range n).filter p).Nodup := List.Pairwise.filter _ List.nodup_range
  have h2 := nodup_le m (((List.range n).filter p).map fun v => v - a - 1) (by
    rw [List.nodup_iff_pairwise_ne, List.pairwise_map]
    refine List.Pairwise.imp_of_mem ?_ (List.nodup_iff_pairwise_ne.1 h1)
    intro x y hx hy hne he
    have := h x (List.mem_filter.1 hx).2
    have := h y (List.mem_filter.1 hy).2
    omega) (by
    intro x hx
    obtain ⟨y, hy, rfl⟩ := List.mem_map.1 hx
    have := h y (List.mem_filter.1 hy).2
    omega)
  simpa using h2
end Go.Proofs.Ytkbkmngbenohkaa
