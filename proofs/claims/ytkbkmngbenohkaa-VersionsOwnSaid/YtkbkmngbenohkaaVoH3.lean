/- graph.Topo: the counts, the first pushes, the answer. Plain Lean; no program. -/
import Derived.Test.YtkbkmngbenohkaaVoH2
set_option linter.unusedSimpArgs false
set_option linter.unusedVariables false
namespace Go.Proofs.Ytkbkmngbenohkaa
open Go.RowKit

theorem take1 {α : Type} {l : List α} {j : Nat} (d : α) (h : j < l.length) : l.take (j + 1) = l.take j ++ [l.getD j d] := by
  rw [List.take_add_one, List.getElem?_eq_getElem h, List.getD_eq_getElem?_getD, List.getElem?_eq_getElem h]; rfl
def tcn (S : List (List Int)) (a b : Nat) : Nat := ((List.range a).map fun x => (S.getD x []).count (b : Int)).sum
theorem tcn_succ (S : List (List Int)) (a b : Nat) : tcn S (a + 1) b = tcn S a b + (S.getD a []).count (b : Int) := by
  simp [tcn, List.range_succ]
/-- The counts after the lists ahead of a, and j elements of a's. -/
def wcn (n : Nat) (S : List (List Int)) (a j : Nat) : List Int := (List.range n).map fun b => ((tcn S a b + ((S.getD a []).take j).count (b : Int) : Nat) : Int)
@[simp] theorem wcn_len (n : Nat) (S : List (List Int)) (a j : Nat) : (wcn n S a j).length = n := by simp [wcn]
theorem wcn_get {n : Nat} {S : List (List Int)} {a j b : Nat} (h : b < n) : (wcn n S a j).getD b 0 = ((tcn S a b + ((S.getD a []).take j).count (b : Int) : Nat) : Int) := by simp [wcn, List.getD_eq_getElem?_getD, h]
theorem wcn_zero (n : Nat) (S : List (List Int)) : wcn n S 0 0 = List.replicate n 0 := by
  apply List.ext_getElem
  · simp
  · intro i h1 h2; simp [wcn, tcn]
theorem wcn_next (n : Nat) (S : List (List Int)) (a : Nat) : wcn n S a (S.getD a []).length = wcn n S (a + 1) 0 := by
  simp [wcn, tcn_succ]
theorem wcn_succ {n : Nat} {S : List (List Int)} {a j b : Nat} (hj : j < (S.getD a []).length) (hb : (S.getD a []).getD j 0 = (b : Int)) (hbn : b < n) : wcn n S a (j + 1) = (wcn n S a j).set b ((wcn n S a j).getD b 0 + 1) := by
  have ht : (S.getD a []).take (j + 1) = (S.getD a []).take j ++ [(b : Int)] := by rw [take1 0 hj, hb]
  have hg := wcn_get (S := S) (a := a) (j := j) hbn
  apply List.ext_getElem
  · simp
  · intro i h1 h2
    have hi : i < n := by simpa using h1
    rw [List.getElem_set]
    simp only [hg]
    simp only [wcn, List.getElem_map, List.getElem_range, ht, List.count_append]
    by_cases hbi : b = i
    · subst hbi; rw [if_pos rfl]; simp; omega
    · have h3 : List.count (i : Int) [(b : Int)] = 0 := List.count_eq_zero.2 (by simp; omega)
      rw [if_neg hbi, h3]; rfl
theorem tcn_le {S : List (List Int)} {n m : Nat} (h : ∀ a, a < n → (S.getD a []).length ≤ m) (b : Nat) : ∀ a, a ≤ n → tcn S a b ≤ a * m
  | 0, _ => by simp [tcn]
  | a + 1, ha => by
    have := tcn_le h b a (by omega)
    have h1 := h a (by omega)
    have h2 : (S.getD a []).count (b : Int) ≤ _ := List.count_le_length
    rw [tcn_succ, Nat.succ_mul]; omega
theorem wcn_bd {n m : Nat} {S : List (List Int)} {a j b : Nat} (h : ∀ a, a < n → (S.getD a []).length ≤ m) (ha : a < n) (hb : b < n) : 0 ≤ (wcn n S a j).getD b 0 ∧ (wcn n S a j).getD b 0 ≤ ((n * m : Nat) : Int) := by
  rw [wcn_get hb]
  have h1 := tcn_le h b a (by omega)
  have h2 := h a ha
  have h3 : ((S.getD a []).take j).count (b : Int) ≤ ((S.getD a []).take j).length := List.count_le_length
  have h4 : ((S.getD a []).take j).length ≤ (S.getD a []).length := by simp [List.length_take]; omega
  have h5 : (a + 1) * m ≤ n * m := Nat.mul_le_mul_right m (by omega)
  rw [Nat.succ_mul] at h5
  omega
theorem tcn_ind {S : List (List Int)} {n : Nat} (h : ∀ a, a < n → (S.getD a []).Nodup) (b : Nat) : tcn S n b = ind n S [] b := by
  have e : ∀ a, a ≤ n → tcn S a b = ind a S [] b := by
    intro a
    induction a with
    | zero => intro _; rfl
    | succ a ih =>
      intro ha
      rw [tcn_succ, ih (by omega)]
      unfold ind
      rw [List.range_succ, List.countP_append]
      congr 1
      by_cases hm : (b : Int) ∈ S.getD a []
      · have h1 := List.nodup_iff_count.1 (h a (by omega)) (b : Int)
        have h2 := List.count_pos_iff.2 hm
        simp only [List.countP_cons, List.countP_nil, List.contains_nil, Bool.not_false, Bool.true_and, List.contains_iff_mem, hm, if_true]
        omega
      · simp only [List.countP_cons, List.countP_nil, List.contains_nil, Bool.not_false, Bool.true_and, List.contains_iff_mem, hm, if_false]
        exact List.count_eq_zero.2 hm
  exact e n (Nat.le_refl n)
theorem wcn_ind {S : List (List Int)} {n : Nat} (h : ∀ a, a < n → (S.getD a []).Nodup) {b : Nat} (hb : b < n) : (wcn n S n 0).getD b 0 = ((ind n S [] b : Nat) : Int) := by
  rw [wcn_get hb, tcn_ind h]; simp
theorem ints_len {n : Nat} {H : List Int} (hn : H.Nodup) (hb : ∀ x ∈ H, 0 ≤ x ∧ x < (n : Int)) : H.length ≤ n := by
  have h1 : (H.map Int.toNat).Nodup := by
    rw [List.nodup_iff_pairwise_ne, List.pairwise_map]
    refine List.Pairwise.imp_of_mem ?_ (List.nodup_iff_pairwise_ne.1 hn)
    intro x y hx hy hne he
    have := hb x hx
    have := hb y hy
    omega
  have h3 : ∀ (m : Nat) (l : List Nat), l.Nodup → (∀ x ∈ l, x < m) → l.length ≤ m := by
    intro m
    induction m with
    | zero => intro l _ h; cases l with
      | nil => simp
      | cons x l => exact absurd (h x List.mem_cons_self) (Nat.not_lt_zero _)
    | succ m ih =>
      intro l hn h
      have := ih (l.erase m) (hn.erase m) fun x hx => by
        have h1 := h x (List.mem_of_mem_erase hx)
        have h2 : x ≠ m := fun e => by subst e; exact (List.Nodup.not_mem_erase hn) hx
        omega
      have h3 := List.length_erase (a := m) (l := l)
      split at h3 <;> omega
  have := h3 n _ h1 (by
    intro x hx
    obtain ⟨y, hy, rfl⟩ := List.mem_map.1 hx
    have := hb y hy
    omega)
  simpa using this
/-- The heap while the first are pushed. -/
structure PI (n : Nat) (W : List Int) (i : Nat) (H : List Int) : Prop where
  hi : i ≤ n
  h : ∀ b : Nat, b < n → ((b : Int) ∈ H ↔ b < i ∧ W.getD b 0 = 0)
  hn : H.Nodup
  hb : ∀ x ∈ H, 0 ≤ x ∧ x < (n : Int)
  hp : HP H.length H
theorem PI.start (n : Nat) (W : List Int) : PI n W 0 [] := ⟨Nat.zero_le _, fun b _ => by simp, List.nodup_nil, fun _ h => absurd h List.not_mem_nil, fun k _ h => absurd h (Nat.not_lt_zero _)⟩
theorem PI.skip {n : Nat} {W : List Int} {i : Nat} {H : List Int} (t : PI n W i H) (hi : i < n) (hz : W.getD i 0 ≠ 0) : PI n W (i + 1) H := by
  refine ⟨hi, fun b hb => ?_, t.hn, t.hb, t.hp⟩
  rw [t.h b hb]
  constructor
  · exact fun h => ⟨by omega, h.2⟩
  · rintro ⟨h1, h2⟩
    refine ⟨?_, h2⟩
    have : b ≠ i := fun e => hz (e ▸ h2)
    omega
theorem PI.push {n : Nat} {W : List Int} {i : Nat} {H : List Int} (t : PI n W i H) (hi : i < n) (hz : W.getD i 0 = 0) : PI n W (i + 1) (hpush H i) := by
  obtain ⟨k1, k2⟩ := hpush_ok (v := (i : Int)) t.hp
  have hiH : (i : Int) ∉ H := fun h => by have := (t.h i hi).1 h; omega
  refine ⟨hi, fun b hb => ?_, ?_, fun x hx => ?_, by rw [hpush_len t.hp]; exact k1⟩
  · rw [k2.mem_iff, List.mem_append, t.h b hb, List.mem_singleton]
    constructor
    · rintro (h | h)
      · exact ⟨by omega, h.2⟩
      · have : b = i := by omega
        subst this; exact ⟨by omega, hz⟩
    · rintro ⟨h1, h2⟩
      by_cases hbi : b = i
      · subst hbi; exact .inr rfl
      · exact .inl ⟨by omega, h2⟩
  · refine k2.nodup_iff.2 ?_
    rw [List.nodup_append]
    exact ⟨t.hn, by simp, fun x hx y hy => by simp at hy; subst hy; exact fun e => hiH (e ▸ hx)⟩
  · rw [k2.mem_iff, List.mem_append, List.mem_singleton] at hx
    rcases hx with hx | rfl
    · exact t.hb x hx
    · omega
theorem PI.len {n : Nat} {W : List Int} {i : Nat} {H : List Int} (t : PI n W i H) : H.length ≤ n := ints_len t.hn t.hb
theorem PI.done_ {n : Nat} {S : List (List Int)} {H : List Int} (h : ∀ a, a < n → (S.getD a []).Nodup) (t : PI n (wcn n S n 0) n H) : TI n S [] H (wcn n S n 0) [] := by
  refine ⟨List.nodup_nil, fun _ h => absurd h List.not_mem_nil, wcn_len _ _ _ _, fun b hb => ?_, fun _ h => absurd h List.not_mem_nil, fun b hb => ?_, t.hn, t.hb, t.hp, fun _ h => absurd h List.not_mem_nil⟩
  · rw [wcn_ind h hb]; simp
  · rw [t.h b hb]; simp [hb]
/-- The loop over the heap: what Kahn's law gives from here on is what it gives from the start. -/
structure LI (n : Nat) (S : List (List Int)) (out : List Nat) (H W : List Int) : Prop where
  t : TI n S out H W []
  k : kahn n S (n - out.length) out = kahn n S n []
theorem TI.outlen {n : Nat} {S : List (List Int)} {out : List Nat} {H W r : List Int} (t : TI n S out H W r) : out.length ≤ n := by
  have h := ints_len (n := n) (H := out.map fun (x : Nat) => (x : Int)) (by
    rw [List.nodup_iff_pairwise_ne, List.pairwise_map]
    refine List.Pairwise.imp_of_mem ?_ (List.nodup_iff_pairwise_ne.1 t.nd)
    intro x y hx hy hne he
    omega) (by
    intro x hx
    obtain ⟨y, hy, rfl⟩ := List.mem_map.1 hx
    have := t.lt y hy
    omega)
  simpa using h
theorem LI.start {n : Nat} {S : List (List Int)} {H : List Int} (h : ∀ a, a < n → (S.getD a []).Nodup) (t : PI n (wcn n S n 0) n H) : LI n S [] H (wcn n S n 0) := ⟨t.done_ h, by simp⟩
theorem LI.pop {n : Nat} {S : List (List Int)} {out : List Nat} {H W : List Int} (l : LI n S out H W) (h0 : 0 < H.length) {a : Nat} (ha : H.getD 0 0 = (a : Int)) (hSn : (S.getD a []).Nodup) (hSb : ∀ x ∈ S.getD a [], 0 ≤ x ∧ x < (n : Int)) :
    a < n ∧ out.length < n ∧ TI n S (out ++ [a]) (hpop H) W (S.getD a []) ∧ kahn n S (n - (out ++ [a]).length) (out ++ [a]) = kahn n S n [] := by
  obtain ⟨h1, h2⟩ := l.t.pop h0 ha hSn hSb
  have h3 := h2.outlen
  rw [List.length_append, List.length_singleton] at h3
  refine ⟨h1, by omega, h2, ?_⟩
  have hk := l.k
  have e : n - out.length = (n - (out ++ [a]).length) + 1 := by rw [List.length_append, List.length_singleton]; omega
  rw [e, kahn, l.t.next h0 ha] at hk
  exact hk
theorem LI.last {n : Nat} {S : List (List Int)} {out : List Nat} {H W : List Int} (l : LI n S out H W) (h0 : H.length = 0) : out = kahn n S n [] := by
  obtain rfl := List.eq_nil_of_length_eq_zero h0
  rw [← l.k]
  cases e : n - out.length with
  | zero => rw [kahn]
  | succ k => rw [kahn, l.t.last]
/-- What Topo answers. -/
def topoR (n : Nat) (S : List (List Int)) : AV :=
  if (kahn n S n []).length < n then .tup [.v (.slice none 0 0), .v (.bool false)]
  else .tup [.sl n (isl ((kahn n S n []).map fun (x : Nat) => (x : Int))), .v (.bool true)]
end Go.Proofs.Ytkbkmngbenohkaa
