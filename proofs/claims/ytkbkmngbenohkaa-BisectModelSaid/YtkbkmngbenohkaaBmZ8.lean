/- Part 8 of the texts that the walk leans on: the machine, the walks, the plain laws. -/
import Derived.Test.YtkbkmngbenohkaaBmZ7
set_option linter.unusedSimpArgs false
set_option linter.unusedVariables false
namespace Go.Proofs.Ytkbkmngbenohkaa
open Go.RowKit

theorem take1 {α : Type} {l : List α} {j : Nat} (d : α) (h : j < l.length) : l.take (j + 1) = l.take j ++ [l.getD j d] := by
 rw [List.take_add_one, List.getElem?_eq_getElem h, List.getD_eq_getElem?_getD, List.getElem?_eq_getElem h]; rfl
def tcn (S : List (List Int)) (a b : Nat) : Nat := ((List.range a).map fun x => (S.getD x []).count (b : Int)).sum
theorem tcn_succ (S : List (List Int)) (a b : Nat) : tcn S (a + 1) b = tcn S a b + (S.getD a []).count (b : Int) := by
 simp [tcn, List.range_succ]
def wcn (n : Nat) (S : List (List Int)) (a j : Nat) : List Int := (List.range n).map fun b => ((tcn S a b + ((S.getD a []).take j).count (b : Int) : Nat) : Int)
@[simp] theorem wcn_len (n : Nat) (S : List (List Int)) (a j : Nat) : (wcn n S a j).length = n := by simp [wcn]
theorem wcn_get {n : Nat} {S : List (List Int)} {a j b : Nat} (h : b < n) : (wcn n S a j).getD b 0 = ((tcn S a b + ((S.getD a []).take j).count (b : Int) : Nat) : Int) := by simp [wcn, List.getD_eq_getElem?_getD, h]
theorem wcn_zero (n : Nat) (S : List (List Int)) : wcn n S 0 0 = List.replicate n 0 := by
 apply List.ext_getElem
 ·simp
 ·intro i h1 h2; simp [wcn, tcn]
theorem wcn_next (n : Nat) (S : List (List Int)) (a : Nat) : wcn n S a (S.getD a []).length = wcn n S (a + 1) 0 := by
 simp [wcn, tcn_succ]
theorem wcn_succ {n : Nat} {S : List (List Int)} {a j b : Nat} (hj : j < (S.getD a []).length) (hb : (S.getD a []).getD j 0 = (b : Int)) (hbn : b < n) : wcn n S a (j + 1) = (wcn n S a j).set b ((wcn n S a j).getD b 0 + 1) := by
 have ht : (S.getD a []).take (j + 1) = (S.getD a []).take j ++ [(b : Int)] := by rw [take1 0 hj, hb]
 have hg := wcn_get (S := S) (a := a) (j := j) hbn
 apply List.ext_getElem
 ·simp
 ·intro i h1 h2
  have hi : i < n := by simpa using h1
  rw [List.getElem_set]
  simp only [hg]
  simp only [wcn, List.getElem_map, List.getElem_range, ht, List.count_append]
  by_cases hbi : b = i
  ·subst hbi; rw [if_pos rfl]; simp; omega
  ·have h3 : List.count (i : Int) [(b : Int)] = 0 := List.count_eq_zero.2 (by simp; omega)
   rw [if_neg hbi, h3]; rfl
theorem tcn_le {S : List (List Int)} {n m : Nat} (h : ∀ a, a < n → (S.getD a []).length ≤ m) (b : Nat) : ∀ a, a ≤ n → tcn S a b ≤ a * m
 | 0, _ => by simp [tcn]
 | a + 1, ha => by
  have := tcn_le h b a (by omega)
  have h1 := h a (by omega)
  have h2 : (S.getD a []).count (b : Int) ≤ _ := List.count_le_length
  rw [tcn_succ, Nat.succ_mul]; omega
theorem wcn_bd {n m : Nat} {S : List (List Int)} {a j b : Nat} (h : ∀ a, a < n → (S.getD a []).length ≤ m) (ha : a < n) (hb : b < n) : 0 ≤ (wcn n S a j).getD b 0 ∧ (wcn n S a j).getD b 0 ≤ ((n * m : Nat) : Int) := by
 rw [wcn_get hb]
 have h1 := tcn_le h b a (by omega)
 have h2 := h a ha
 have h3 : ((S.getD a []).take j).count (b : Int) ≤ ((S.getD a []).take j).length := List.count_le_length
 have h4 : ((S.getD a []).take j).length ≤ (S.getD a []).length := by simp [List.length_take]; omega
 have h5 : (a + 1) * m ≤ n * m := Nat.mul_le_mul_right m (by omega)
 rw [Nat.succ_mul] at h5
 omega
theorem tcn_ind {S : List (List Int)} {n : Nat} (h : ∀ a, a < n → (S.getD a []).Nodup) (b : Nat) : tcn S n b = ind n S [] b := by
 have e : ∀ a, a ≤ n → tcn S a b = ind a S [] b := by
  intro a
  induction a with
  | zero => intro _; rfl
  | succ a ih =>
   intro ha
   rw [tcn_succ, ih (by omega)]
   unfold ind
   rw [List.range_succ, List.countP_append]
   congr 1
   by_cases hm : (b : Int) ∈ S.getD a []
   ·have h1 := List.nodup_iff_count.1 (h a (by omega)) (b : Int)
    have h2 := List.count_pos_iff.2 hm
    simp only [List.countP_cons, List.countP_nil, List.contains_nil, Bool.not_false, Bool.true_and, List.contains_iff_mem, hm, if_true]
    omega
   ·simp only [List.countP_cons, List.countP_nil, List.contains_nil, Bool.not_false, Bool.true_and, List.contains_iff_mem, hm, if_false]
    exact List.count_eq_zero.2 hm
 exact e n (Nat.le_refl n)
theorem wcn_ind {S : List (List Int)} {n : Nat} (h : ∀ a, a < n → (S.getD a []).Nodup) {b : Nat} (hb : b < n) : (wcn n S n 0).getD b 0 = ((ind n S [] b : Nat) : Int) := by
 rw [wcn_get hb, tcn_ind h]; simp
theorem ints_len {n : Nat} {H : List Int} (hn : H.Nodup) (hb : ∀ x ∈ H, 0 ≤ x ∧ x < (n : Int)) : H.length ≤ n := by
 have h1 : (H.map Int.toNat).Nodup := by
  rw [List.nodup_iff_pairwise_ne, List.pairwise_map]
  refine List.Pairwise.imp_of_mem ?_ (List.nodup_iff_pairwise_ne.1 hn)
  intro x y hx hy hne he
  have := hb x hx
  have := hb y hy
  omega
 have h3 : ∀ (m : Nat) (l : List Nat), l.Nodup → (∀ x ∈ l, x < m) → l.length ≤ m := by
  intro m
  induction m with
  | zero => intro l _ h; cases l with
   | nil => simp
   | cons x l => exact absurd (h x List.mem_cons_self) (Nat.not_lt_zero _)
  | succ m ih =>
   intro l hn h
   have := ih (l.erase m) (hn.erase m) fun x hx => by
    have h1 := h x (List.mem_of_mem_erase hx)
    have h2 : x ≠ m := fun e => by subst e; exact (List.Nodup.not_mem_erase hn) hx
    omega
   have h3 := List.length_erase (a := m) (l := l)
   split at h3 <;> omega
 have := h3 n _ h1 (by
  intro x hx
  obtain ⟨y, hy, rfl⟩ := List.mem_map.1 hx
  have := hb y hy
  omega)
 simpa using this
structure PI (n : Nat) (W : List Int) (i : Nat) (H : List Int) : Prop where
 hi : i ≤ n
 h : ∀ b : Nat, b < n → ((b : Int) ∈ H ↔ b < i ∧ W.getD b 0 = 0)
 hn : H.Nodup
 hb : ∀ x ∈ H, 0 ≤ x ∧ x < (n : Int)
 hp : HP H.length H
theorem PI.start (n : Nat) (W : List Int) : PI n W 0 [] := ⟨Nat.zero_le _, fun b _ => by simp, List.nodup_nil, fun _ h => absurd h List.not_mem_nil, fun k _ h => absurd h (Nat.not_lt_zero _)⟩
theorem PI.skip {n : Nat} {W : List Int} {i : Nat} {H : List Int} (t : PI n W i H) (hi : i < n) (hz : W.getD i 0 ≠ 0) : PI n W (i + 1) H := by
 refine ⟨hi, fun b hb => ?_, t.hn, t.hb, t.hp⟩
 rw [t.h b hb]
 constructor
 ·exact fun h => ⟨by omega, h.2⟩
 ·rintro ⟨h1, h2⟩
  refine ⟨?_, h2⟩
  have : b ≠ i := fun e => hz (e ▸ h2)
  omega
theorem PI.push {n : Nat} {W : List Int} {i : Nat} {H : List Int} (t : PI n W i H) (hi : i < n) (hz : W.getD i 0 = 0) : PI n W (i + 1) (hpush H i) := by
 obtain ⟨k1, k2⟩ := hpush_ok (v := (i : Int)) t.hp
 have hiH : (i : Int) ∉ H := fun h => by have := (t.h i hi).1 h; omega
 refine ⟨hi, fun b hb => ?_, ?_, fun x hx => ?_, by rw [hpush_len t.hp]; exact k1⟩
 ·rw [k2.mem_iff, List.mem_append, t.h b hb, List.mem_singleton]
  constructor
  ·rintro (h | h)
   ·exact ⟨by omega, h.2⟩
   ·have : b = i := by omega
    subst this; exact ⟨by omega, hz⟩
  ·rintro ⟨h1, h2⟩
   by_cases hbi : b = i
   ·subst hbi; exact .inr rfl
   ·exact .inl ⟨by omega, h2⟩
 ·refine k2.nodup_iff.2 ?_
  rw [List.nodup_append]
  exact ⟨t.hn, by simp, fun x hx y hy => by simp at hy; subst hy; exact fun e => hiH (e ▸ hx)⟩
 ·rw [k2.mem_iff, List.mem_append, List.mem_singleton] at hx
  rcases hx with hx | rfl
  ·exact t.hb x hx
  ·omega
theorem PI.len {n : Nat} {W : List Int} {i : Nat} {H : List Int} (t : PI n W i H) : H.length ≤ n := ints_len t.hn t.hb
theorem PI.done_ {n : Nat} {S : List (List Int)} {H : List Int} (h : ∀ a, a < n → (S.getD a []).Nodup) (t : PI n (wcn n S n 0) n H) : TI n S [] H (wcn n S n 0) [] := by
 refine ⟨List.nodup_nil, fun _ h => absurd h List.not_mem_nil, wcn_len _ _ _ _, fun b hb => ?_, fun _ h => absurd h List.not_mem_nil, fun b hb => ?_, t.hn, t.hb, t.hp, fun _ h => absurd h List.not_mem_nil⟩
 ·rw [wcn_ind h hb]; simp
 ·rw [t.h b hb]; simp [hb]
structure LI (n : Nat) (S : List (List Int)) (out : List Nat) (H W : List Int) : Prop where
 t : TI n S out H W []
 k : kahn n S (n - out.length) out = kahn n S n []
theorem TI.outlen {n : Nat} {S : List (List Int)} {out : List Nat} {H W r : List Int} (t : TI n S out H W r) : out.length ≤ n := by
 have h := ints_len (n := n) (H := out.map fun (x : Nat) => (x : Int)) (by
  rw [List.nodup_iff_pairwise_ne, List.pairwise_map]
  refine List.Pairwise.imp_of_mem ?_ (List.nodup_iff_pairwise_ne.1 t.nd)
  intro x y hx hy hne he
  omega) (by
  intro x hx
  obtain ⟨y, hy, rfl⟩ := List.mem_map.1 hx
  have := t.lt y hy
  omega)
 simpa using h
theorem LI.start {n : Nat} {S : List (List Int)} {H : List Int} (h : ∀ a, a < n → (S.getD a []).Nodup) (t : PI n (wcn n S n 0) n H) : LI n S [] H (wcn n S n 0) := ⟨t.done_ h, by simp⟩
theorem LI.pop {n : Nat} {S : List (List Int)} {out : List Nat} {H W : List Int} (l : LI n S out H W) (h0 : 0 < H.length) {a : Nat} (ha : H.getD 0 0 = (a : Int)) (hSn : (S.getD a []).Nodup) (hSb : ∀ x ∈ S.getD a [], 0 ≤ x ∧ x < (n : Int)) :
  a < n ∧ out.length < n ∧ TI n S (out ++ [a]) (hpop H) W (S.getD a []) ∧ kahn n S (n - (out ++ [a]).length) (out ++ [a]) = kahn n S n [] := by
 obtain ⟨h1, h2⟩ := l.t.pop h0 ha hSn hSb
 have h3 := h2.outlen
 rw [List.length_append, List.length_singleton] at h3
 refine ⟨h1, by omega, h2, ?_⟩
 have hk := l.k
 have e : n - out.length = (n - (out ++ [a]).length) + 1 := by rw [List.length_append, List.length_singleton]; omega
 rw [e, kahn, l.t.next h0 ha] at hk
 exact hk
theorem LI.last {n : Nat} {S : List (List Int)} {out : List Nat} {H W : List Int} (l : LI n S out H W) (h0 : H.length = 0) : out = kahn n S n [] := by
 obtain rfl := List.eq_nil_of_length_eq_zero h0
 rw [← l.k]
 cases e : n - out.length with
 | zero => rw [kahn]
 | succ k => rw [kahn, l.t.last]
def topoR (n : Nat) (S : List (List Int)) : AV :=
 if (kahn n S n []).length < n then .tup [.v (.slice none 0 0), .v (.bool false)]
 else .tup [.sl n (isl ((kahn n S n []).map fun (x : Nat) => (x : Int))), .v (.bool true)]
end Go.Proofs.Ytkbkmngbenohkaa

namespace Go.Proofs.Ytkbkmngbenohkaa
open Go.RowKit

theorem getD_memI {l : List Int} {k : Nat} (h : k < l.length) : l.getD k 0 ∈ l := by
 rw [List.getD_eq_getElem?_getD, List.getElem?_eq_getElem h]; exact List.getElem_mem h
theorem ind_zero {n : Nat} {S : List (List Int)} {out : List Nat} {b : Nat} : ind n S out b = 0 ↔ ∀ a, a < n → a ∉ out → (b : Int) ∉ S.getD a [] := by
 unfold ind
 rw [List.countP_eq_zero]
 constructor
 ·intro h a ha hao hm
  refine h a (List.mem_range.2 ha) ?_
  rw [Bool.and_eq_true]
  exact ⟨by simpa using hao, List.contains_iff_mem.2 hm⟩
 ·intro h a ha hh
  rw [Bool.and_eq_true] at hh
  exact h a (List.mem_range.1 ha) (by simpa using hh.1) (List.contains_iff_mem.1 hh.2)
theorem nextV_some {n : Nat} {S : List (List Int)} {out : List Nat} {v : Nat} (h : nextV n S out = some v) : v < n ∧ v ∉ out ∧ ∀ a, a < n → a ∉ out → (v : Int) ∉ S.getD a [] := by
 unfold nextV at h
 have h1 := List.find?_some h
 have h2 := List.mem_of_find?_eq_some h
 rw [Bool.and_eq_true, beq_iff_eq] at h1
 exact ⟨List.mem_range.1 h2, by simpa using h1.1, ind_zero.1 h1.2⟩
theorem nextV_none {n : Nat} {S : List (List Int)} {out : List Nat} (h : nextV n S out = none) {v : Nat} (hv : v < n) (ho : v ∉ out) : ∃ a, a < n ∧ a ∉ out ∧ (v : Int) ∈ S.getD a [] := by
 unfold nextV at h
 rw [List.find?_eq_none] at h
 have h1 := h v (List.mem_range.2 hv)
 apply Classical.byContradiction
 intro hne
 apply h1
 rw [Bool.and_eq_true, beq_iff_eq]
 exact ⟨by simpa using ho, ind_zero.2 fun a ha hao hm => hne ⟨a, ha, hao, hm⟩⟩
structure KO (n : Nat) (S : List (List Int)) (out : List Nat) : Prop where
 nd : out.Nodup
 lt : ∀ x ∈ out, x < n
 top : ∀ (j b : Nat), out[j]? = some b → ∀ a : Nat, a < n → (b : Int) ∈ S.getD a [] → ∃ i : Nat, i < j ∧ out[i]? = some a
theorem KO.nil (n : Nat) (S : List (List Int)) : KO n S [] := ⟨List.nodup_nil, fun _ h => absurd h List.not_mem_nil, fun j b h => by simp at h⟩
theorem idx_of {row : List Nat} {b : Nat} (hb : b ∈ row) : ∃ j : Nat, j < row.length ∧ row[j]? = some b := by
 obtain ⟨j, hj, rfl⟩ := List.getElem_of_mem hb
 exact ⟨j, hj, List.getElem?_eq_getElem hj⟩
theorem KO.step {n : Nat} {S : List (List Int)} {out : List Nat} {v : Nat} (h : KO n S out) (hv : nextV n S out = some v) : KO n S (out ++ [v]) := by
 obtain ⟨h1, h2, h3⟩ := nextV_some hv
 refine ⟨?_, fun x hx => ?_, fun j b hj a ha hm => ?_⟩
 ·rw [List.nodup_append]
  exact ⟨h.nd, by simp, fun x hx y hy => by simp at hy; subst hy; exact fun e => h2 (e ▸ hx)⟩
 ·rcases List.mem_append.1 hx with hx | hx
  ·exact h.lt x hx
  ·simp at hx; omega
 ·by_cases hjl : j < out.length
  ·rw [List.getElem?_append_left hjl] at hj
   obtain ⟨i, hi, he⟩ := h.top j b hj a ha hm
   exact ⟨i, hi, by rw [List.getElem?_append_left (by omega)]; exact he⟩
  ·have hj2 : j = out.length := by
    have := (List.getElem?_eq_some_iff.1 hj).1
    simp at this; omega
   subst hj2
   rw [List.getElem?_append_right (Nat.le_refl _), Nat.sub_self] at hj
   simp at hj
   subst hj
   have hao : a ∈ out := Classical.byContradiction fun hne => h3 a ha hne hm
   obtain ⟨i, hi, he⟩ := idx_of hao
   exact ⟨i, hi, by rw [List.getElem?_append_left hi]; exact he⟩
theorem kahn_ko {n : Nat} {S : List (List Int)} : ∀ (k : Nat) (out : List Nat), KO n S out → KO n S (kahn n S k out)
 | 0, out, h => by rw [kahn]; exact h
 | k + 1, out, h => by
  rw [kahn]
  cases e : nextV n S out with
  | none => exact h
  | some v => exact kahn_ko k _ (h.step e)
theorem kahn_end {n : Nat} {S : List (List Int)} : ∀ (k : Nat) (out : List Nat), (kahn n S k out).length = k + out.length ∨ nextV n S (kahn n S k out) = none
 | 0, out => by rw [kahn]; exact .inl (Nat.zero_add _).symm
 | k + 1, out => by
  rw [kahn]
  cases e : nextV n S out with
  | none => exact .inr e
  | some v =>
   rcases kahn_end k (out ++ [v]) with h | h
   ·exact .inl (by simp only at h ⊢; rw [h, List.length_append, List.length_singleton]; omega)
   ·exact .inr h
structure SE (n : Nat) (E : Prs) (S : List (List Int)) : Prop where
 e : inE n E = true
 m : ∀ a, a < n → ∀ x, x ∈ S.getD a [] ↔ ((a : Int), x) ∈ E
theorem KO.ahead {n : Nat} {E : Prs} {S : List (List Int)} {out : List Nat} (hs : SE n E S) (h : KO n S out) {a b : Nat} (hc : Clo E a b) : ∀ j : Nat, out[j]? = some b → ∃ i : Nat, i < j ∧ out[i]? = some a := by
 induction hc with
 | one he => exact fun j hj => h.top j _ hj _ (Clo.lt hs.e (.one he)).1 ((hs.m _ (Clo.lt hs.e (.one he)).1 _).2 he)
 | more he _ ih =>
  intro j hj
  obtain ⟨i, h1, h2⟩ := ih j hj
  have hl := (Clo.lt hs.e (.one he)).1
  obtain ⟨k, h3, h4⟩ := h.top i _ h2 _ hl ((hs.m _ hl _).2 he)
  exact ⟨k, by omega, h4⟩
theorem topo_cyc {n : Nat} {E : Prs} {S : List (List Int)} (hs : SE n E S) (hl : (kahn n S n []).length < n) : ∃ a, a < n ∧ Clo E a a := by
 apply Classical.byContradiction
 intro hno
 obtain ⟨a, ha, hf⟩ := free_ex (spo_cl hno) _ hl
 simp only [isfree, Bool.and_eq_true, Bool.not_eq_true', List.all_eq_true, List.mem_range, Bool.or_eq_true] at hf
 obtain ⟨h1, h2⟩ := hf
 have hna : a ∉ kahn n S n [] := by simpa using h1
 rcases kahn_end (n := n) (S := S) n [] with h3 | h3
 ·simp at h3; omega
 ·obtain ⟨b, hb, hbo, hm⟩ := nextV_none h3 ha hna
  have hcl : cl E b a = true := cl_iff.2 (.one ((hs.m b hb _).1 hm))
  rcases h2 b hb with h4 | h4
  ·rw [hcl] at h4; cases h4
  ·exact hbo (by simpa using h4)
theorem full_mem {n : Nat} {out : List Nat} (hn : out.Nodup) (hlt : ∀ x ∈ out, x < n) (hl : ¬ out.length < n) {a : Nat} (ha : a < n) : a ∈ out := by
 apply Classical.byContradiction
 intro hna
 have := nodup_le n (a :: out) (List.nodup_cons.2 ⟨hna, hn⟩) fun x hx => by
  rcases List.mem_cons.1 hx with rfl | hx
  ·exact ha
  ·exact hlt x hx
 simp at this
 omega
theorem topo_ok {n : Nat} {E : Prs} {S : List (List Int)} (hs : SE n E S) (hl : ¬ (kahn n S n []).length < n) : ¬ ∃ a, a < n ∧ Clo E a a := by
 rintro ⟨a, ha, hc⟩
 have hk := kahn_ko (n := n) (S := S) n [] (KO.nil n S)
 obtain ⟨j, _, hj⟩ := idx_of (full_mem hk.nd hk.lt hl ha)
 obtain ⟨i, h1, h2⟩ := hk.ahead hs hc j hj
 have := nodup_idx hk.nd h2 hj
 omega
theorem Clo.last {E : Prs} {a b : Nat} (h : Clo E a b) : ∃ p : Nat, ((p : Int), (b : Int)) ∈ E ∧ (a = p ∨ Clo E a p) := by
 induction h with
 | one h => exact ⟨_, h, .inl rfl⟩
 | more h _ ih =>
  obtain ⟨p, h1, h2⟩ := ih
  refine ⟨p, h1, .inr ?_⟩
  rcases h2 with rfl | h2
  ·exact .one h
  ·exact .more h h2
theorem Clo.snoc {E : Prs} {a p b : Nat} (h : a = p ∨ Clo E a p) (he : ((p : Int), (b : Int)) ∈ E) : Clo E a b := by
 rcases h with rfl | h
 ·exact .one he
 ·exact h.trans (.one he)
def els (w : Nat) : List Nat := (List.range 64).filter fun b => w.testBit b
theorem els_mem {w b : Nat} : b ∈ els w ↔ b < 64 ∧ w.testBit b = true := by simp [els]
theorem els_len (w : Nat) : (els w).length ≤ 64 := by
 have := List.length_filter_le (fun b => w.testBit b) (List.range 64)
 simpa [els] using this
noncomputable def aw1 (n : Nat) (E : Prs) (v : Nat) : Nat := cw n fun u => decide (u = v) || cl E u v
noncomputable def ancW (n : Nat) (E : Prs) : List Nat := (List.range n).map (aw1 n E)
@[simp] theorem ancW_len (n : Nat) (E : Prs) : (ancW n E).length = n := by simp [ancW]
def aw (s : List Nat) (v : Nat) (l : List Nat) (j : Nat) : Nat := (l.take j).foldl (fun w p => w ||| s.getD p 0) (2 ^ v)
theorem aw_zero (s : List Nat) (v : Nat) (l : List Nat) : aw s v l 0 = 2 ^ v := by simp [aw]
theorem aw_succ {s : List Nat} {v : Nat} {l : List Nat} {j : Nat} (hj : j < l.length) : aw s v l (j + 1) = aw s v l j ||| s.getD (l.getD j 0) 0 := by
 unfold aw
 rw [take1 0 hj]
 simp [List.foldl_append]
theorem aw_bit (s : List Nat) (v : Nat) (l : List Nat) (c : Nat) : (aw s v l l.length).testBit c = (decide (v = c) || l.any fun p => (s.getD p 0).testBit c) := by
 unfold aw
 rw [List.take_length]
 have h : ∀ (l : List Nat) (w : Nat), (l.foldl (fun w p => w ||| s.getD p 0) w).testBit c = (w.testBit c || l.any fun p => (s.getD p 0).testBit c) := by
  intro l
  induction l with
  | nil => intro w; simp
  | cons x l ih => intro w; rw [List.foldl_cons, ih, Nat.testBit_or, List.any_cons, Bool.or_assoc]
 rw [h, Nat.testBit_two_pow]
theorem aw_lt {s : List Nat} (hs : ∀ p, s.getD p 0 < 18446744073709551616) {v : Nat} (hv : v < 64) (l : List Nat) (j : Nat) : aw s v l j < 18446744073709551616 := by
 unfold aw
 have h : ∀ (l : List Nat) (w : Nat), w < 18446744073709551616 → l.foldl (fun w p => w ||| s.getD p 0) w < 18446744073709551616 := by
  intro l
  induction l with
  | nil => intro w h; exact h
  | cons x l ih => intro w h; exact ih _ (Nat.or_lt_two_pow (n := 64) h (hs x))
 exact h _ _ (bit_lt v hv)
def astp (P : Nat → List Nat) (s : List Nat) (v : Nat) : List Nat := s.set v (aw s v (P v) (P v).length)
def asts (n : Nat) (P : Nat → List Nat) (pre : List Nat) : List Nat := pre.foldl (astp P) (List.replicate n 0)
theorem asts_nil (n : Nat) (P : Nat → List Nat) : asts n P [] = List.replicate n 0 := rfl
theorem asts_snoc (n : Nat) (P : Nat → List Nat) (pre : List Nat) (v : Nat) : asts n P (pre ++ [v]) = astp P (asts n P pre) v := by simp [asts, List.foldl_append]
@[simp] theorem asts_len (n : Nat) (P : Nat → List Nat) (pre : List Nat) : (asts n P pre).length = n := by
 have h : ∀ (l s : List Nat), (l.foldl (astp P) s).length = s.length := by
  intro l
  induction l with
  | nil => intro s; rfl
  | cons x l ih => intro s; rw [List.foldl_cons, ih, astp, List.length_set]
 simp [asts, h]
theorem asts_lt (n : Nat) (P : Nat → List Nat) (pre : List Nat) (hp : ∀ v ∈ pre, v < 64) : ∀ p, (asts n P pre).getD p 0 < 18446744073709551616 := by
 have h : ∀ (l s : List Nat), (∀ v ∈ l, v < 64) → (∀ p, s.getD p 0 < 18446744073709551616) → ∀ p, (l.foldl (astp P) s).getD p 0 < 18446744073709551616 := by
  intro l
  induction l with
  | nil => intro s _ h; exact h
  | cons x l ih =>
   intro s hl h
   rw [List.foldl_cons]
   refine ih _ (fun v hv => hl v (List.mem_cons_of_mem _ hv)) fun p => ?_
   rw [astp, getD_set]
   split
   ·exact aw_lt h (hl x List.mem_cons_self) _ _
   ·exact h p
 refine h pre _ hp fun p => ?_
 rw [List.getD_eq_getElem?_getD, List.getElem?_replicate]
 split <;> simp
theorem asts_get {n : Nat} {E : Prs} {S : List (List Int)} (hs : SE n E S) {out : List Nat} (h : KO n S out) {P : Nat → List Nat} (hP : ∀ v, v < n → ∀ p, p ∈ P v ↔ ((p : Int), (v : Int)) ∈ E) :
  ∀ k, k ≤ out.length → ∀ v, v < n → (asts n P (out.take k)).getD v 0 = if v ∈ out.take k then aw1 n E v else 0
 | 0, _, v, hv => by rw [List.take_zero, if_neg List.not_mem_nil, asts_nil, List.getD_eq_getElem?_getD, List.getElem?_replicate, if_pos hv]; rfl
 | k + 1, hk, v, hv => by
  have ih := asts_get hs h hP k (by omega)
  have ht : out.take (k + 1) = out.take k ++ [out[k]] := by rw [take1 0 (by omega), List.getD_eq_getElem?_getD, List.getElem?_eq_getElem (by omega)]; rfl
  have hx : out[k] < n := h.lt _ (List.getElem_mem _)
  rw [ht, asts_snoc, astp, getD_set, asts_len]
  by_cases hvx : v = out[k]
  ·subst hvx
   rw [if_pos ⟨rfl, hx⟩, if_pos (List.mem_append_right _ List.mem_cons_self)]
   apply Nat.eq_of_testBit_eq
   intro c
   rw [aw_bit, aw1, cw_bit, Bool.eq_iff_iff]
   simp only [Bool.or_eq_true, decide_eq_true_eq, List.any_eq_true, Bool.and_eq_true, cl_iff]
   have hpar : ∀ p : Nat, ((p : Int), ((out[k] : Nat) : Int)) ∈ E → p < n ∧ (asts n P (out.take k)).getD p 0 = aw1 n E p := by
    intro p hp
    have hpn := (Clo.lt hs.e (.one hp)).1
    obtain ⟨i, h1, h2⟩ := h.ahead hs (.one hp) k (List.getElem?_eq_getElem (by omega))
    refine ⟨hpn, ?_⟩
    rw [ih p hpn, if_pos]
    rw [List.mem_take_iff_getElem]
    obtain ⟨h3, h4⟩ := List.getElem?_eq_some_iff.1 h2
    exact ⟨i, by omega, h4⟩
   constructor
   ·rintro (hc | ⟨p, hp, hb⟩)
    ·subst hc; exact ⟨hx, .inl rfl⟩
    ·have hpe := (hP _ hx p).1 hp
     rw [(hpar p hpe).2, aw1, cw_bit] at hb
     simp only [Bool.or_eq_true, decide_eq_true_eq, Bool.and_eq_true, cl_iff] at hb
     exact ⟨hb.1, .inr (Clo.snoc hb.2 hpe)⟩
   ·rintro ⟨hcn, hc | hc⟩
    ·exact .inl hc.symm
    ·obtain ⟨p, hp, hq⟩ := hc.last
     refine .inr ⟨p, (hP _ hx p).2 hp, ?_⟩
     rw [(hpar p hp).2, aw1, cw_bit]
     simp only [Bool.or_eq_true, decide_eq_true_eq, Bool.and_eq_true, cl_iff]
     exact ⟨hcn, hq⟩
  ·rw [if_neg (by simp [hvx]), ih v hv]
   have : (v ∈ out.take k ++ [out[k]]) ↔ v ∈ out.take k := ⟨fun h => (List.mem_append.1 h).resolve_right fun h' => hvx (List.mem_singleton.1 h'), List.mem_append_left _⟩
   simp only [this]
theorem asts_all {n : Nat} {E : Prs} {S : List (List Int)} (hs : SE n E S) (hl : ¬ (kahn n S n []).length < n) {P : Nat → List Nat} (hP : ∀ v, v < n → ∀ p, p ∈ P v ↔ ((p : Int), (v : Int)) ∈ E) :
  asts n P (kahn n S n []) = ancW n E := by
 have hk := kahn_ko (n := n) (S := S) n [] (KO.nil n S)
 apply List.ext_getElem
 ·simp
 ·intro v h1 h2
  have hv : v < n := by simpa using h1
  have := asts_get hs hk hP _ (Nat.le_refl _) v hv
  rw [List.take_length, if_pos (full_mem hk.nd hk.lt hl hv)] at this
  rw [List.getD_eq_getElem?_getD, List.getElem?_eq_getElem h1] at this
  simp only [Option.getD_some] at this
  rw [this]
  simp [ancW]
-- lists of parents
def pw (l : List Int) : Nat := l.foldl (fun w p => w ||| 2 ^ p.toNat) 0
theorem pw_snoc (l : List Int) (p : Int) : pw (l ++ [p]) = pw l ||| 2 ^ p.toNat := by simp [pw, List.foldl_append]
theorem pw_bit (c : Nat) (l : List Int) : (∀ p ∈ l, 0 ≤ p) → (pw l).testBit c = decide ((c : Int) ∈ l) := by
 have h : ∀ (l : List Int) (w : Nat), (∀ p ∈ l, 0 ≤ p) → (l.foldl (fun w p => w ||| 2 ^ p.toNat) w).testBit c = (w.testBit c || decide ((c : Int) ∈ l)) := by
  intro l
  induction l with
  | nil => intro w _; simp
  | cons x l ih =>
   intro w h
   have hx := h x List.mem_cons_self
   rw [List.foldl_cons, ih _ fun p hp => h p (List.mem_cons_of_mem _ hp), Nat.testBit_or, Nat.testBit_two_pow, Bool.or_assoc]
   congr 1
   rw [Bool.eq_iff_iff]
   simp only [Bool.or_eq_true, decide_eq_true_eq, List.mem_cons]
   constructor
   ·rintro (h | h)
    ·exact .inl (by omega)
    ·exact .inr h
   ·rintro (h | h)
    ·exact .inl (by omega)
    ·exact .inr h
 intro h0
 rw [pw, h l 0 h0]
 simp
theorem pw_lt (l : List Int) (h : ∀ p ∈ l, 0 ≤ p ∧ p < 64) : pw l < 18446744073709551616 := by
 rw [show (18446744073709551616 : Nat) = 2 ^ 64 from rfl]
 refine Nat.lt_pow_two_of_testBit _ fun i hi => ?_
 rw [pw_bit i l fun p hp => (h p hp).1]
 exact decide_eq_false fun hm => by have := h _ hm; omega
def edg (Ps : List (List Int)) (v j : Nat) : Prs := ((List.range v).flatMap fun u => (Ps.getD u []).map fun p => (p, (u : Int))) ++ ((Ps.getD v []).take j).map fun p => (p, (v : Int))
theorem edg_next (Ps : List (List Int)) (v : Nat) : edg Ps v (Ps.getD v []).length = edg Ps (v + 1) 0 := by
 simp [edg, List.range_succ, List.flatMap_append]
theorem edg_succ {Ps : List (List Int)} {v j : Nat} (hj : j < (Ps.getD v []).length) : edg Ps v (j + 1) = edg Ps v j ++ [((Ps.getD v []).getD j 0, (v : Int))] := by
 unfold edg
 rw [take1 0 hj]
 simp
theorem edg_mem {Ps : List (List Int)} {n : Nat} {x : Int × Int} : x ∈ edg Ps n 0 ↔ ∃ v, v < n ∧ x.2 = (v : Int) ∧ x.1 ∈ Ps.getD v [] := by
 simp only [edg, List.take_zero, List.map_nil, List.append_nil, List.mem_flatMap, List.mem_range, List.mem_map]
 constructor
 ·rintro ⟨v, hv, p, hp, rfl⟩; exact ⟨v, hv, rfl, hp⟩
 ·rintro ⟨v, hv, h1, h2⟩; exact ⟨v, hv, x.1, h2, Prod.ext rfl h1.symm⟩
theorem edg_len {Ps : List (List Int)} {m : Nat} (h : ∀ v, (Ps.getD v []).length ≤ m) (v j : Nat) : (edg Ps v j).length ≤ v * m + m := by
 have h1 : ∀ v, (edg Ps v 0).length ≤ v * m := by
  intro v
  induction v with
  | zero => simp [edg]
  | succ v ih =>
   rw [← edg_next]
   have := h v
   simp only [edg, List.take_zero, List.map_nil, List.append_nil, List.length_append, List.length_map, List.take_length] at ih ⊢
   rw [Nat.succ_mul]; omega
 have h2 := h1 v
 have h3 := h v
 simp only [edg, List.take_zero, List.map_nil, List.append_nil, List.length_append, List.length_map, List.length_take] at h2 ⊢
 omega
def OkP (n : Nat) (l : List Int) : Prop := l.Nodup ∧ ∀ p ∈ l, 0 ≤ p ∧ p < (n : Int)
def Valid (Ps : List (List Int)) : Prop := ∀ v, v < Ps.length → OkP Ps.length (Ps.getD v [])
theorem nxt_append (E F : Prs) (a : Nat) : nxt (E ++ F) a = nxt E a ++ nxt F a := by simp [nxt]
theorem nxt_par {l : List Int} (h : l.Nodup) (v a : Nat) : nxt (l.map fun p => (p, (v : Int))) a = if (a : Int) ∈ l then [(v : Int)] else [] := by
 induction l with
 | nil => simp [nxt]
 | cons x l ih =>
  rw [List.nodup_cons] at h
  have e : (x :: l).map (fun p => (p, (v : Int))) = [(x, (v : Int))] ++ l.map fun p => (p, (v : Int)) := rfl
  rw [e, nxt_append, ih h.2]
  by_cases hx : x = (a : Int)
  ·subst hx; rw [if_neg h.1, if_pos List.mem_cons_self]; simp [nxt]
  ·have : ((a : Int) ∈ x :: l) ↔ (a : Int) ∈ l := by simp [Ne.symm hx]
   simp only [this]
   simp [nxt, hx]
theorem nxt_edg {Ps : List (List Int)} (a : Nat) : ∀ n, (∀ v, v < n → (Ps.getD v []).Nodup) → nxt (edg Ps n 0) a = ((List.range n).filter fun v => decide ((a : Int) ∈ Ps.getD v [])).map fun (v : Nat) => (v : Int)
 | 0, _ => by simp [edg, nxt]
 | n + 1, h => by
  have ih := nxt_edg a n fun v hv => h v (by omega)
  have e : edg Ps (n + 1) 0 = edg Ps n 0 ++ (Ps.getD n []).map fun p => (p, (n : Int)) := by
   rw [← edg_next]; simp [edg]
  rw [e, nxt_append, ih, nxt_par (h n (by omega)), List.range_succ, List.filter_append, List.map_append]
  congr 1
  by_cases hm : (a : Int) ∈ Ps.getD n []
  ·rw [if_pos hm, List.filter_cons, if_pos (decide_eq_true hm)]; rfl
  ·rw [if_neg hm, List.filter_cons, if_neg (by simpa using hm)]; rfl
theorem nxt_edg_nodup {Ps : List (List Int)} {n : Nat} (h : ∀ v, v < n → (Ps.getD v []).Nodup) (a : Nat) : (nxt (edg Ps n 0) a).Nodup := by
 rw [nxt_edg a n h, List.nodup_iff_pairwise_ne, List.pairwise_map]
 refine List.Pairwise.imp ?_ ((List.nodup_iff_pairwise_ne.1 List.nodup_range).filter _)
 intro x y hne he
 omega
theorem edg_in {Ps : List (List Int)} (h : Valid Ps) : inE Ps.length (edg Ps Ps.length 0) = true := by
 refine List.all_eq_true.2 fun x hx => ?_
 obtain ⟨v, hv, h1, h2⟩ := edg_mem.1 hx
 have := (h v hv).2 _ h2
 simp only [Bool.and_eq_true, decide_eq_true_eq]
 omega
end Go.Proofs.Ytkbkmngbenohkaa

namespace Go.Proofs.Ytkbkmngbenohkaa
open Go.RowKit

abbrev qI (n : Nat) (L : List Int) : List (Oid × Cells) := [((0, 9), .box 117 [.ref (1, 9) 0 n]), ((1, 9), .row 3 1 (isl L)), ((2, 9), .box 116 [.ptr (0, 9) 0])]
theorem topo1_spec (n : Nat) (L : List Int) (hL : L.length = n) (h1 : n ≤ 1000000) (x : Int) :
  Spec Try.prog 91 (inStI [.v (.int .i64 x), .ptr (2, 9) 0] (qI n L)) (outStI (.tup []) [((0, 9), .box 117 [.ref (1, 8) 0 (n + 1)]), ((1, 8), .row 3 1 (isl (hpush L x))), ((2, 9), .box 116 [.ptr (0, 9) 0])] [(0, 9), (1, 8), (2, 9)] [(0, 9), (2, 9)]) := by
 refine Spec.ofNI Try.func91 rfl Try.ntmps91 rfl ?_
 refine D_region ?_
 refine DL_c (op_ldB _ inferInstance rfl rfl (rfl : _ = some (AV.ptr _ _))) ?_
 refine DL_c (op_mkI _ Try.underlying116 rfl (rfl : _ = AV.ptr _ _)) ?_
 refine DL_c (mvI rfl) ?_
 refine DL_c (op_mkI _ Try.underlying3 rfl (rfl : _ = AV.v (.int _ _))) ?_
 refine DL_c (op_callR inferInstance [((1, 8), (50, 0))] ?_ (heapPush_spec n L hL h1 x) ⟨⟨rfl, ⟨_, rfl, .box rfl (lv_cons (lvRr rfl rfl) lv_nil)⟩, rfl⟩, ⟨rfl, ⟨_, rfl, .rowE rfl⟩, rfl⟩, trivial⟩ ⟨rfl, rfl, trivial⟩ (by kernel_rfl)) ?_
 ·repeat' (first | exact argsR_nil | refine argsR_cons ?_ ?_ | exact Lv.v | exact lvPr rfl | refine Lv.ifc ?_)
 refine DL_nil ?_
 exact ret0 (.inl rfl) rfl (Le.outI [((1, 8), (50, 0))] [] (.tup rfl lv_nil) rfl rfl rfl trivial ⟨⟨rfl, ⟨_, rfl, .box rfl (lv_cons (lvRr rfl rfl) lv_nil)⟩, rfl⟩, ⟨rfl, ⟨_, rfl, .rowE rfl⟩, rfl⟩, ⟨rfl, ⟨_, rfl, .box rfl (lv_cons (lvPr rfl) lv_nil)⟩, rfl⟩, trivial⟩ ⟨rfl, rfl, trivial⟩ rfl)
theorem TI.wbd {n : Nat} {S : List (List Int)} {out : List Nat} {H W r : List Int} (t : TI n S out H W r) {b : Nat} (hb : b < n) : W.getD b 0 ≤ (n : Int) + r.length := by
 have h1 := t.w b hb
 have h2 : ind n S out b ≤ n := by
  have : ind n S out b ≤ (List.range n).length := List.countP_le_length
  simpa using this
 have h3 : r.count (b : Int) ≤ r.length := List.count_le_length
 omega
theorem drop1 {l : List Int} {j : Nat} (h : j < l.length) : l.drop j = l.getD j 0 :: l.drop (j + 1) := by
 rw [List.drop_eq_getElem_cons h, List.getD_eq_getElem?_getD, List.getElem?_eq_getElem h]; rfl
theorem nxS_get {n : Nat} {E : Prs} {a : Nat} (h : a < n) : (nxS n E).getD a [] = srt (nxt E a) := by rw [nxM_get h, if_pos h]
theorem nxS_se {n : Nat} {E : Prs} (hE : inE n E = true) : SE n E (nxS n E) := ⟨hE, fun a ha x => by rw [nxS_get ha, (srt_perm _).mem_iff, nxt_mem]⟩
theorem topo_spec (n : Nat) (hn : n ≤ 64) (m : Nat) (E : Prs) (hm : E.length = m) (h1 : m ≤ 1000000) (hE : inE n E = true) (hS : ∀ a, a < n → (nxt E a).length ≤ 12 ∧ (nxt E a).Nodup) :
  Spec Try.prog 54 (inSt [.v (.int .i64 (n : Int)), .sl m (psl E)] []) (outSt (topoR n (nxS n E)) []) := by
 have hsl : ∀ a, a < n → ((nxS n E).getD a []).length ≤ 12 := fun a ha => by rw [nxS_get ha, srt_len]; exact (hS a ha).1
 have hsn : ∀ a, a < n → ((nxS n E).getD a []).Nodup := fun a ha => by rw [nxS_get ha]; exact (srt_perm _).nodup_iff.2 (hS a ha).2
 have hsb : ∀ a, a < n → ∀ x ∈ (nxS n E).getD a [], 0 ≤ x ∧ x < (n : Int) := fun a ha x hx => by
  rw [nxS_get ha, (srt_perm _).mem_iff, nxt_mem] at hx
  have := inE_mem hE hx
  exact ⟨this.2.2.1, this.2.2.2⟩
 have hnS : (nxS n E).length = n := nxM_len n E n
 have hnr : (nrows (nxS n E)).length = n := by simp [nrows]
 generalize hSe : nxS n E = S at hsl hsn hsb hnS hnr ⊢
 refine Spec.ofN Try.func54 rfl Try.ntmps54 rfl ?_
 refine D_seq fun K1 hK1 => ?_
 refine D_region ?_
 refine DL_c (op_as _ (rfl : _ = AV.v (.slice _ _ _))) ?_
 refine DL_c (asB rfl) ?_
 refine DL_nil (hK1 _ ?_)
 clear hK1; try clear K1
 refine D_seq fun K2 hK2 => ?_
 refine D_region ?_
 refine DL_c (mvI rfl) ?_
 refine DL_c (mvS rfl) ?_
 refine DL_c (op_callH inferInstance (by repeat' (first | exact argsLv_nil | refine argsLv_cons ?_ ?_ | exact Lv.v | exact Lv.sl)) (hSe ▸ succ_spec n hn m E hm h1 hE hS) rfl rfl) ?_
 refine DL_c (asS rfl) ?_
 refine DL_nil (hK2 _ ?_)
 clear hK2; try clear K2
 refine D_seq fun K3 hK3 => ?_
 refine D_region ?_
 refine DL_c (mvI rfl) ?_
 refine DL_c (op_mk (25, 0) _ _ inferInstance rfl rfl n rfl rfl (by omega) rfl (isl_zeros n)) ?_
 refine DL_c (asR rfl) ?_
 refine DL_nil (hK3 _ ?_)
 clear hK3; try clear K3
 refine D_seq fun K4 hK4 => ?_
 refine D_seq fun K5 hK5 => ?_
 refine D_region ?_
 refine DL_c (mvS rfl) ?_
 refine DL_c (op_lenS _ inferInstance rfl) ?_
 refine DL_c (mvI rfl) ?_
 refine DL_nil (hK5 _ ?_)
 clear hK5; try clear K5
 refine D_block ?_
 refine D_loopL (α := Nat) (fun a => a ≤ n) 104 [(0, _), (6, _), (7, _), (26, _), (27, _)] [] (fun a => [(28, .v (.int .i64 (a : Int)))]) (fun a => [((25, 0), .row 3 1 (isl (wcn n S a 0)))]) [] [] (fun a => n - a) 0 ?_ (by
  refine Le.mkJ [] [] rfl ?_ ?_ trivial trivial ?_
  ·exact ⟨(iV rfl), (iS rfl), (iR rfl), (iS rfl), (iV rfl), (lvI (by rfl)), trivial⟩
  ·exact ⟨(obR rfl rfl rfl (by rw [wcn_zero])), trivial⟩
  ·kernel_rfl) ?_
 ·omega
 intro a ha
 refine D_seq fun K6 hK6 => ?_
 refine D_region ?_
 refine DL_c (op_lss _ _ rfl rfl rfl) ?_
 refine DL_nil (hK6 _ ?_)
 clear hK6; try clear K6
 refine D_seq fun K7 hK7 => ?_
 refine D_splitC rfl (fun hc29 => ?_) (fun hc29 => ?_)
 ·skip
  have hal := hsl a (by omega)
  refine D_skip (hK7 _ ?_)
  clear hK7; try clear K7
  refine D_seq fun K8 hK8 => ?_
  refine D_block ?_
  refine D_seq fun K9 hK9 => ?_
  refine D_region ?_
  refine DL_c (op_ixS _ _ inferInstance rfl rfl a rfl (by omega) (by omega) (Nat.mul_one _)) ?_
  refine DL_c (op_ldF _ inferInstance rfl (by exact nrows_get _ _ (by omega)) rfl) ?_
  refine DL_c (asS rfl) ?_
  refine DL_nil (hK9 _ ?_)
  clear hK9; try clear K9
  refine D_seq fun K10 hK10 => ?_
  refine D_region ?_
  refine DL_c (mvS rfl) ?_
  refine DL_c (op_lenS _ inferInstance rfl) ?_
  refine DL_c (mvI rfl) ?_
  refine DL_nil (hK10 _ ?_)
  clear hK10; try clear K10
  refine D_block ?_
  refine D_loopL (α := Nat) (fun j => j ≤ (S.getD a []).length) 104 [(0, _), (6, _), (7, _), (26, _), (27, _), (28, _), (32, _), (33, _)] [] (fun j => [(34, .v (.int .i64 (j : Int)))]) (fun j => [((25, 0), .row 3 1 (isl (wcn n S a j)))]) [] [] (fun j => (S.getD a []).length - j) 0 ?_ (by
   refine Le.mkJ [] [] rfl ?_ ?_ trivial trivial ?_
   ·exact ⟨(iV rfl), (iS rfl), (iR rfl), (iS rfl), (iV rfl), (iV rfl), (by exact iS rfl), (iV rfl), (lvI (by rfl)), trivial⟩
   ·exact ⟨(obR rfl rfl rfl (by rfl)), trivial⟩
   ·kernel_rfl) ?_
  ·omega
  intro j hj
  refine D_seq fun K11 hK11 => ?_
  refine D_region ?_
  refine DL_c (op_lss _ _ rfl rfl rfl) ?_
  refine DL_nil (hK11 _ ?_)
  clear hK11; try clear K11
  refine D_seq fun K12 hK12 => ?_
  refine D_splitC rfl (fun hc35 => ?_) (fun hc35 => ?_)
  ·skip
   have hbm := hsb a (by omega) ((S.getD a []).getD j 0) (getD_memI (by omega))
   obtain ⟨b, hbe⟩ := Int.eq_ofNat_of_zero_le hbm.1
   have hbn : b < n := by omega
   have hwl := wcn_len n S a j
   have hwb := wcn_bd (j := j) (m := 12) hsl (show a < n by omega) hbn
   refine D_skip (hK12 _ ?_)
   clear hK12; try clear K12
   refine D_seq fun K13 hK13 => ?_
   refine D_block ?_
   refine D_seq fun K14 hK14 => ?_
   refine D_region ?_
   refine DL_c (op_ixS _ _ inferInstance rfl rfl _ rfl (by omega) (by (simp only [isl_len, bsl_len, psl_len, mrows_len, nsl_len, ws_len, List.length_map, nxL_len, nxM_len, wcn_len]; omega)) (by exact Nat.mul_one _)) ?_
   refine DL_c (op_ldF _ inferInstance rfl (by exact isl_get _ _ (by omega)) rfl) ?_
   refine DL_c (asI rfl) ?_
   refine DL_nil (hK14 _ ?_)
   clear hK14; try clear K14
   refine D_region ?_
   refine DL_c (mvR rfl) ?_
   refine DL_c (mvI rfl) ?_
   refine DL_c (op_ixR _ _ inferInstance rfl rfl rfl b hbe (by omega) (by exact (Nat.zero_add _).trans (Nat.mul_one _))) ?_
   refine DL_c (op_ldR _ inferInstance rfl rfl (by exact isl_get _ _ (by omega)) rfl) ?_
   refine DL_c (op_add _ _ rfl rfl (i64w (by omega))) ?_
   refine DL_c (op_ixR _ _ inferInstance rfl rfl rfl b hbe (by omega) (by exact (Nat.zero_add _).trans (Nat.mul_one _))) ?_
   refine DL_c (op_stR _ _ inferInstance rfl rfl rfl rfl rfl (by simp; omega) (isl_put _ _ _ (by omega))) ?_
   refine DL_nil (hK13 _ ?_)
   clear hK13; try clear K13
   refine D_region ?_
   refine DL_c (op_add _ _ rfl rfl (i64w (by omega))) ?_
   refine DL_c (mvI rfl) ?_
   refine DL_nil ?_
   refine ⟨j + 1, ?_, ?_, ?_⟩
   ·omega
   ·skip
    refine Le.mkJ [] [] rfl ?_ ?_ trivial trivial ?_
    ·exact ⟨(iV rfl), (iS rfl), (iR rfl), (iS rfl), (iV rfl), (iV rfl), (by exact iS rfl), (iV rfl), (lvI (by rfl)), trivial⟩
    ·exact ⟨(obR rfl rfl rfl (by rw [wcn_succ (by omega) hbe hbn])), trivial⟩
    ·kernel_rfl
   ·omega
  ·skip
   have hjl : j = (S.getD a []).length := by omega
   refine D_exit ?_
   refine id (hK8 _ ?_)
   clear hK8; try clear K8
   refine D_region ?_
   refine DL_c (op_add _ _ rfl rfl (i64w (by omega))) ?_
   refine DL_c (mvI rfl) ?_
   refine DL_nil ?_
   refine ⟨a + 1, ?_, ?_, ?_⟩
   ·omega
   ·skip
    refine Le.mkJ [] [] rfl ?_ ?_ trivial trivial ?_
    ·exact ⟨(iV rfl), (iS rfl), (iR rfl), (iS rfl), (iV rfl), (lvI (by rfl)), trivial⟩
    ·exact ⟨(obR rfl rfl rfl (by rw [hjl, wcn_next])), trivial⟩
    ·kernel_rfl
   ·omega
 ·skip
  obtain rfl : n = a := by omega
  refine D_exit ?_
  refine id (hK4 _ ?_)
  clear hK4; try clear K4
  refine D_seq fun K15 hK15 => ?_
  refine D_region ?_
  refine DL_c (op_bs (46, 0) _ _ inferInstance rfl (by rfl) (by simp <;> rfl) (by decide) rfl rfl) ?_
  refine DL_c (op_box (47, 0) _ rfl rfl) ?_
  refine DL_c (op_alloc (12, 0) inferInstance rfl rfl) ?_
  refine DL_c (op_stB _ _ inferInstance rfl rfl rfl rfl (Nat.le_of_ble_eq_true rfl) rfl) ?_
  refine DL_nil (hK15 _ ?_)
  clear hK15; try clear K15
  refine D_seq fun K16 hK16 => ?_
  refine D_region ?_
  refine DL_c (op_mf _ _ (rfl : _ = []) (rfl : _ = [_])) ?_
  refine DL_c (op_as _ (rfl : _ = AV.fn _ _ _)) ?_
  refine DL_nil (hK16 _ ?_)
  clear hK16; try clear K16
  refine D_seq fun K17 hK17 => ?_
  refine D_seq fun K18 hK18 => ?_
  refine D_region ?_
  refine DL_c (mvR rfl) ?_
  refine DL_c (op_lenR _ inferInstance rfl rfl) ?_
  refine DL_c (mvI rfl) ?_
  refine DL_nil (hK18 _ ?_)
  clear hK18; try clear K18
  refine D_block ?_
  refine D_loopL (α := Nat × List Int) (fun z => PI n (wcn n S n 0) z.1 z.2) 104 [(0, _), (6, _), (7, _), (12, _), (13, _), (49, _), (50, _)] [((25, 0), _), ((12, 0), _)] (fun z => [(51, .v (.int .i64 (z.1 : Int)))]) (fun z => [((47, 0), .box 117 [.ref (46, 0) 0 z.2.length]), ((46, 0), .row 3 1 (isl z.2))]) [] [] (fun z => n - z.1) (0, []) ?_ (by
   refine Le.mkJ [] [] rfl ?_ ?_ trivial trivial ?_
   ·exact ⟨(iV rfl), (iS rfl), (iR rfl), (iP rfl), (iN rfl), (iR rfl), (iV rfl), (lvI (by rfl)), trivial⟩
   ·exact ⟨(obE rfl rfl rfl), (obE rfl rfl rfl), (obB rfl rfl rfl rfl (lv_cons (lvRr rfl (by rfl)) lv_nil)), (obR rfl rfl rfl (by rfl)), trivial⟩
   ·kernel_rfl) ?_
  ·exact PI.start n _
  intro z hz
  have hzi := hz.hi
  have hzl := hz.len
  have hwl := wcn_len n S n 0
  refine D_seq fun K19 hK19 => ?_
  refine D_region ?_
  refine DL_c (op_lss _ _ rfl rfl rfl) ?_
  refine DL_nil (hK19 _ ?_)
  clear hK19; try clear K19
  refine D_seq fun K20 hK20 => ?_
  refine D_splitC rfl (fun hc52 => ?_) (fun hc52 => ?_)
  ·skip
   refine D_skip (hK20 _ ?_)
   clear hK20; try clear K20
   refine D_seq fun K21 hK21 => ?_
   refine D_block ?_
   refine D_seq fun K22 hK22 => ?_
   refine D_region ?_
   refine DL_c (mvI rfl) ?_
   refine DL_c (op_ixR _ _ inferInstance rfl rfl rfl _ rfl (by omega) (by exact (Nat.zero_add _).trans (Nat.mul_one _))) ?_
   refine DL_c (op_ldR _ inferInstance rfl rfl (by exact isl_get _ _ (by omega)) rfl) ?_
   refine DL_c (asI rfl) ?_
   refine DL_c (asI rfl) ?_
   refine DL_nil (hK22 _ ?_)
   clear hK22; try clear K22
   refine D_seq fun K23 hK23 => ?_
   refine D_region ?_
   refine DL_c (mvI rfl) ?_
   refine DL_c (op_eql _ _ rfl rfl rfl) ?_
   refine DL_nil (hK23 _ ?_)
   clear hK23; try clear K23
   refine D_splitC rfl (fun hc57 => ?_) (fun hc57 => ?_)
   ·skip
    refine D_region ?_
    refine DL_c (op_mv _ (rfl : _ = AV.fn _ _ _)) ?_
    refine DL_c (mvI rfl) ?_
    refine DL_c (op_callRV rfl inferInstance [((0, 9), (47, 0)), ((1, 9), (46, 0)), ((2, 9), (12, 0)), ((1, 8), (50, 0))] ?_ (topo1_spec z.2.length z.2 rfl (by omega) z.1) ⟨⟨rfl, ⟨_, rfl, .box rfl (lv_cons (lvRr rfl rfl) lv_nil)⟩, rfl⟩, ⟨rfl, ⟨_, rfl, .rowE rfl⟩, rfl⟩, ⟨rfl, ⟨_, rfl, .box rfl (lv_cons (lvPr rfl) lv_nil)⟩, rfl⟩, trivial⟩ ⟨rfl, rfl, rfl, trivial⟩ (by kernel_rfl)) ?_
    ·repeat' (first | exact argsR_nil | refine argsR_cons ?_ ?_ | exact Lv.v | exact lvPr rfl)
    refine DL_nil (hK21 _ ?_)
    clear hK21; try clear K21
    refine D_region ?_
    refine DL_c (op_add _ _ rfl rfl (i64w (by omega))) ?_
    refine DL_c (mvI rfl) ?_
    refine DL_nil ?_
    refine ⟨(z.1 + 1, hpush z.2 z.1), ?_, ?_, ?_⟩
    ·exact hz.push (by omega) (by omega)
    ·skip
     refine Le.mkJ [((46, 0), (50, 0))] [] rfl ?_ ?_ trivial trivial ?_
     ·exact ⟨(by repeat' (exact Lv.v)), (by repeat' (exact Lv.sl)), (lvRr (id := (25, 0)) rfl rfl), (lvPr (id := (12, 0)) rfl), (by repeat' (first | exact lvPr (id := (12, 0)) rfl | refine Lv.fn rfl ?_ rfl ?_ | exact lv_nil | refine lv_cons ?_ ?_)), (lvRr (id := (25, 0)) rfl rfl), (by repeat' (exact Lv.v)), (lvI (by rfl)), trivial⟩
     ·exact ⟨(obR rfl rfl rfl rfl), (obB rfl rfl rfl rfl (by repeat' (first | exact lvPr (id := (47, 0)) rfl | exact lv_nil | refine lv_cons ?_ ?_))), (obB rfl rfl rfl rfl (lv_cons (lvRr rfl (by ((rw [hpush_len hz.hp]; done)))) lv_nil)), (obR rfl rfl rfl (by rfl)), trivial⟩
     ·kernel_rfl
    ·simp only; omega
   ·skip
    refine D_skip (hK21 _ ?_)
    clear hK21; try clear K21
    refine D_region ?_
    refine DL_c (op_add _ _ rfl rfl (i64w (by omega))) ?_
    refine DL_c (mvI rfl) ?_
    refine DL_nil ?_
    refine ⟨(z.1 + 1, z.2), ?_, ?_, ?_⟩
    ·exact hz.skip (by omega) (by omega)
    ·skip
     refine Le.mkJ [] [] rfl ?_ ?_ trivial trivial ?_
     ·exact ⟨(iV rfl), (iS rfl), (iR rfl), (iP rfl), (iN rfl), (iR rfl), (iV rfl), (lvI (by rfl)), trivial⟩
     ·exact ⟨(obE rfl rfl rfl), (obE rfl rfl rfl), (obB rfl rfl rfl rfl (lv_cons (lvRr rfl (by rfl)) lv_nil)), (obR rfl rfl rfl (by rfl)), trivial⟩
     ·kernel_rfl
    ·simp only; omega
  ·skip
   have hzn : z.1 = n := by omega
   have hL0 : LI n S [] z.2 (wcn n S n 0) := LI.start hsn (hzn ▸ hz)
   refine D_exit ?_
   refine id (hK17 _ ?_)
   clear hK17; try clear K17
   refine D_seq fun K24 hK24 => ?_
   refine D_region ?_
   refine DL_c (op_asN (16, 0) _ 3 1 rfl rfl) ?_
   refine DL_nil (hK24 _ ?_)
   clear hK24; try clear K24
   refine D_seq fun K25 hK25 => ?_
   refine D_region ?_
   refine DL_c (op_ldB _ inferInstance rfl rfl (rfl : _ = some (AV.ptr _ _))) ?_
   refine DL_c (op_mf _ _ (rfl : _ = [_]) (rfl : _ = [])) ?_
   refine DL_c (op_as _ (rfl : _ = AV.fn _ _ _)) ?_
   refine DL_nil (hK25 _ ?_)
   clear hK25; try clear K25
   refine D_seq fun K26 hK26 => ?_
   refine D_block ?_
   refine D_loopL (α := List Nat × List Int × List Int) (fun y => LI n S y.1 y.2.1 y.2.2) 104 [(0, _), (6, _), (7, _), (12, _), (13, _), (17, _)] [((12, 0), _)] (fun y => [(16, .ref (16, 0) 0 y.1.length)]) (fun y => [((16, 0), .row 3 1 (nsl y.1)), ((47, 0), .box 117 [.ref (46, 0) 0 y.2.1.length]), ((46, 0), .row 3 1 (isl y.2.1)), ((25, 0), .row 3 1 (isl y.2.2))]) [] [] (fun y => n - y.1.length) ([], z.2, wcn n S n 0) ?_ (by
    refine Le.mkJ [] [] rfl ?_ ?_ trivial trivial ?_
    ·exact ⟨(iV rfl), (iS rfl), (iR rfl), (iP rfl), (iN rfl), (iN rfl), (lvRr rfl (by rfl)), trivial⟩
    ·exact ⟨(obE rfl rfl rfl), (obR rfl rfl rfl (by rfl)), (obB rfl rfl rfl rfl (lv_cons (lvRr rfl (by rfl)) lv_nil)), (obR rfl rfl rfl (by rfl)), (obR rfl rfl rfl (by rfl)), trivial⟩
    ·kernel_rfl) ?_
   ·exact hL0
   intro y hy
   have hyo := hy.t.outlen
   have hyh := hy.t.hlen
   have hyw := hy.t.wl
   refine D_seq fun K27 hK27 => ?_
   refine D_seq fun K28 hK28 => ?_
   refine D_region ?_
   refine DL_c (op_mv _ (rfl : _ = AV.fn _ _ _)) ?_
   refine DL_c (op_callRV rfl inferInstance [((0, 9), (47, 0)), ((1, 9), (46, 0))] ?_ (qlen_spec y.2.1.length y.2.1) ⟨⟨rfl, ⟨_, rfl, .box rfl (lv_cons (lvRr rfl rfl) lv_nil)⟩, rfl⟩, ⟨rfl, ⟨_, rfl, .rowE rfl⟩, rfl⟩, trivial⟩ ⟨rfl, rfl, trivial⟩ (by kernel_rfl)) ?_
   ·repeat' (first | exact argsR_nil | refine argsR_cons ?_ ?_ | exact lvPr rfl)
   refine DL_c (op_gtr _ _ rfl rfl rfl) ?_
   refine DL_nil (hK28 _ ?_)
   clear hK28; try clear K28
   refine D_splitC rfl (fun hc66 => ?_) (fun hc66 => ?_)
   ·skip
    have hh0 : 0 < y.2.1.length := by omega
    obtain ⟨a, hae⟩ := Int.eq_ofNat_of_zero_le (hy.t.hb _ (getD_memI hh0)).1
    have han0 : a < n := by have := (hy.t.hb _ (getD_memI hh0)).2; omega
    obtain ⟨han, hyn, hT0, hk0⟩ := hy.pop hh0 hae (hsn a han0) (hsb a han0)
    have hal := hsl a han
    have hpl := (hpop_ok hy.t.hp hh0).2.1
    refine D_skip (hK27 _ ?_)
    clear hK27; try clear K27
    refine D_block ?_
    refine D_seq fun K29 hK29 => ?_
    refine D_region ?_
    refine DL_c (op_ldB _ inferInstance rfl rfl (rfl : _ = some (AV.ptr _ _))) ?_
    refine DL_c (op_mkI _ Try.underlying116 rfl (rfl : _ = AV.ptr _ _)) ?_
    refine DL_c (op_callR inferInstance [((0, 9), (47, 0)), ((1, 9), (46, 0))] ?_ (heapPop_spec y.2.1.length y.2.1 rfl (by omega) (by omega) hy.t.hp) ⟨⟨rfl, ⟨_, rfl, .box rfl (lv_cons (lvRr rfl rfl) lv_nil)⟩, rfl⟩, ⟨rfl, ⟨_, rfl, .rowE rfl⟩, rfl⟩, trivial⟩ ⟨rfl, rfl, trivial⟩ (by kernel_rfl)) ?_
    ·repeat' (first | exact argsR_nil | refine argsR_cons ?_ ?_ | exact lvPr rfl | refine Lv.ifc ?_)
    refine DL_c (op_tA _ Try.underlying3 rfl (rfl : _ = AV.ifc _ (AV.v (.int _ _)))) ?_
    refine DL_c (asI rfl) ?_
    refine DL_nil (hK29 _ ?_)
    clear hK29; try clear K29
    refine D_seq fun K30 hK30 => ?_
    refine D_region ?_
    refine DL_c (mvR rfl) ?_
    refine DL_c (mvI rfl) ?_
    refine DL_c (op_bsF _ _ inferInstance rfl (by rfl) (by simp <;> rfl) (by decide) rfl) ?_
    refine DL_c (op_ap (74, 0) _ _ inferInstance rfl rfl (by (simp only [isl_len, bsl_len, psl_len, mrows_len, nsl_len, ws_len, List.length_map, nxL_len, nxM_len, wcn_len]; omega)) (by (refine .sl ?_; (simp [isl]; done))) (by omega) rfl (rfl) (rfl)) ?_
    refine DL_c (asR rfl) ?_
    refine DL_nil (hK30 _ ?_)
    clear hK30; try clear K30
    refine D_seq fun K31 hK31 => ?_
    refine D_region ?_
    refine DL_c (mvS rfl) ?_
    refine DL_c (mvI rfl) ?_
    refine DL_c (op_ixS _ _ inferInstance rfl rfl a hae (by omega) (by omega) (Nat.mul_one _)) ?_
    refine DL_c (op_ldF _ inferInstance rfl (by exact nrows_get _ _ (by omega)) rfl) ?_
    refine DL_c (op_lenS _ inferInstance rfl) ?_
    refine DL_c (mvI rfl) ?_
    refine DL_nil (hK31 _ ?_)
    clear hK31; try clear K31
    refine D_block ?_
    refine D_loopL (α := Nat × List Int × List Int) (fun x => x.1 ≤ (S.getD a []).length ∧ TI n S (y.1 ++ [a]) x.2.1 x.2.2 ((S.getD a []).drop x.1)) 104 [(0, _), (6, _), (7, _), (12, _), (13, _), (16, _), (17, _), (78, _), (79, _)] [((12, 0), _), ((74, 0), _)] (fun x => [(80, .v (.int .i64 (x.1 : Int)))]) (fun x => [((47, 0), .box 117 [.ref (46, 0) 0 x.2.1.length]), ((46, 0), .row 3 1 (isl x.2.1)), ((25, 0), .row 3 1 (isl x.2.2))]) [] [] (fun x => (S.getD a []).length - x.1) (0, hpop y.2.1, y.2.2) ?_ (by
     refine Le.mkJ [] [] rfl ?_ ?_ trivial trivial ?_
     ·exact ⟨(iV rfl), (iS rfl), (iR rfl), (iP rfl), (iN rfl), (iR rfl), (iN rfl), (by exact iS rfl), (iV rfl), (lvI (by rfl)), trivial⟩
     ·exact ⟨(obE rfl rfl rfl), (obE rfl rfl rfl), (obB rfl rfl rfl rfl (lv_cons (lvRr rfl (by omega)) lv_nil)), (obR rfl rfl rfl (by rfl)), (obR rfl rfl rfl (by rfl)), trivial⟩
     ·kernel_rfl) ?_
    ·exact ⟨Nat.zero_le _, hT0⟩
    intro x hx
    obtain ⟨hj, hT⟩ := hx
    have hxh := hT.hlen
    have hxw := hT.wl
    refine D_seq fun K32 hK32 => ?_
    refine D_region ?_
    refine DL_c (op_lss _ _ rfl rfl rfl) ?_
    refine DL_nil (hK32 _ ?_)
    clear hK32; try clear K32
    refine D_seq fun K33 hK33 => ?_
    refine D_splitC rfl (fun hc81 => ?_) (fun hc81 => ?_)
    ·skip
     have hbm := hsb a han ((S.getD a []).getD x.1 0) (getD_memI (by omega))
     obtain ⟨b, hbe⟩ := Int.eq_ofNat_of_zero_le hbm.1
     have hbn : b < n := by omega
     have hT2 : TI n S (y.1 ++ [a]) x.2.1 x.2.2 ((b : Int) :: (S.getD a []).drop (x.1 + 1)) := by
      have := hT
      rw [drop1 (by omega), hbe] at this
      exact this
     have hps := hT2.pos
     have hwb := hT.wbd hbn
     have hdl : ((S.getD a []).drop x.1).length ≤ 12 := by rw [List.length_drop]; omega
     refine D_skip (hK33 _ ?_)
     clear hK33; try clear K33
     refine D_seq fun K34 hK34 => ?_
     refine D_block ?_
     refine D_seq fun K35 hK35 => ?_
     refine D_region ?_
     refine DL_c (op_ixS _ _ inferInstance rfl rfl _ rfl (by omega) (by (simp only [isl_len, bsl_len, psl_len, mrows_len, nsl_len, ws_len, List.length_map, nxL_len, nxM_len, wcn_len]; omega)) (by exact Nat.mul_one _)) ?_
     refine DL_c (op_ldF _ inferInstance rfl (by exact isl_get _ _ (by omega)) rfl) ?_
     refine DL_c (asI rfl) ?_
     refine DL_nil (hK35 _ ?_)
     clear hK35; try clear K35
     refine D_seq fun K36 hK36 => ?_
     refine D_region ?_
     refine DL_c (mvR rfl) ?_
     refine DL_c (mvI rfl) ?_
     refine DL_c (op_ixR _ _ inferInstance rfl rfl rfl b hbe (by omega) (by exact (Nat.zero_add _).trans (Nat.mul_one _))) ?_
     refine DL_c (op_ldR _ inferInstance rfl rfl (by exact isl_get _ _ (by omega)) rfl) ?_
     refine DL_c (op_sub _ _ rfl rfl (i64w (by omega))) ?_
     refine DL_c (op_ixR _ _ inferInstance rfl rfl rfl b hbe (by omega) (by exact (Nat.zero_add _).trans (Nat.mul_one _))) ?_
     refine DL_c (op_stR _ _ inferInstance rfl rfl rfl rfl rfl (by simp; omega) (isl_put _ _ _ (by omega))) ?_
     refine DL_nil (hK36 _ ?_)
     clear hK36; try clear K36
     refine D_seq fun K37 hK37 => ?_
     refine D_region ?_
     refine DL_c (mvR rfl) ?_
     refine DL_c (mvI rfl) ?_
     refine DL_c (op_ixR _ _ inferInstance rfl rfl rfl b hbe (by omega) (by exact (Nat.zero_add _).trans (Nat.mul_one _))) ?_
     refine DL_c (op_ldR _ inferInstance rfl rfl (by exact isl_get_set _ _ _ (by omega)) rfl) ?_
     refine DL_c (op_eql _ _ rfl rfl rfl) ?_
     refine DL_nil (hK37 _ ?_)
     clear hK37; try clear K37
     refine D_splitC rfl (fun hc94 => ?_) (fun hc94 => ?_)
     ·skip
      refine D_le (σ' := mkStI 104 [(0, _), (6, _), (7, _), (12, _), (13, _), (16, _), (17, _), (20, _), (78, _), (79, _), (80, _)] [((12, 0), _), ((74, 0), _), ((47, 0), _), ((46, 0), _), ((25, 0), _)] [] []) (by
       refine Le.mkJ [] [] rfl ?_ ?_ trivial trivial ?_
       ·exact ⟨(iV rfl), (iS rfl), (iR rfl), (iP rfl), (iN rfl), (iR rfl), (iN rfl), (iV rfl), (by exact iS rfl), (iV rfl), (iV rfl), trivial⟩
       ·exact ⟨(obE rfl rfl rfl), (obE rfl rfl rfl), (obE rfl rfl rfl), (obE rfl rfl rfl), (obE rfl rfl rfl), trivial⟩
       ·kernel_rfl) ?_
      refine D_region ?_
      refine DL_c (op_mv _ (rfl : _ = AV.fn _ _ _)) ?_
      refine DL_c (mvI rfl) ?_
      refine DL_c (op_callRV rfl inferInstance [((0, 9), (47, 0)), ((1, 9), (46, 0)), ((2, 9), (12, 0)), ((1, 8), (50, 0))] ?_ (topo1_spec x.2.1.length x.2.1 rfl (by omega) b) ⟨⟨rfl, ⟨_, rfl, .box rfl (lv_cons (lvRr rfl rfl) lv_nil)⟩, rfl⟩, ⟨rfl, ⟨_, rfl, .rowE rfl⟩, rfl⟩, ⟨rfl, ⟨_, rfl, .box rfl (lv_cons (lvPr rfl) lv_nil)⟩, rfl⟩, trivial⟩ ⟨rfl, rfl, rfl, trivial⟩ (by kernel_rfl)) ?_
      ·repeat' (first | exact argsR_nil | refine argsR_cons ?_ ?_ | exact lvI (by omega) | exact lvPr rfl)
      refine DL_nil (hK34 _ ?_)
      clear hK34; try clear K34
      refine D_region ?_
      refine DL_c (op_add _ _ rfl rfl (i64w (by omega))) ?_
      refine DL_c (mvI rfl) ?_
      refine DL_nil ?_
      refine ⟨(x.1 + 1, hpush x.2.1 b, x.2.2.set b (x.2.2.getD b 0 - 1)), ?_, ?_, ?_⟩
      ·exact ⟨by simp only; omega, hT2.push hc94⟩
      ·skip
       refine Le.mkJ [((46, 0), (50, 0))] [] rfl ?_ ?_ trivial trivial ?_
       ·exact ⟨(by repeat' (exact Lv.v)), (by repeat' (exact Lv.sl)), (lvRr (id := (25, 0)) rfl rfl), (lvPr (id := (12, 0)) rfl), (by repeat' (first | exact lvPr (id := (12, 0)) rfl | refine Lv.fn rfl ?_ rfl ?_ | exact lv_nil | refine lv_cons ?_ ?_)), (lvRr (id := (74, 0)) rfl rfl), (by repeat' (first | exact lvPr (id := (47, 0)) rfl | refine Lv.fn rfl ?_ rfl ?_ | exact lv_nil | refine lv_cons ?_ ?_)), (by repeat' (exact Lv.sl)), (by repeat' (exact Lv.v)), (lvI (by rfl)), trivial⟩
       ·exact ⟨(obB rfl rfl rfl rfl (by repeat' (first | exact lvPr (id := (47, 0)) rfl | exact lv_nil | refine lv_cons ?_ ?_))), (obR rfl rfl rfl rfl), (obB rfl rfl rfl rfl (lv_cons (lvRr rfl (by ((rw [hpush_len hT.hp]; done)))) lv_nil)), (obR rfl rfl rfl (by rfl)), (obR rfl rfl rfl (by rfl)), trivial⟩
       ·kernel_rfl
      ·simp only; omega
     ·skip
      refine D_skip (hK34 _ ?_)
      clear hK34; try clear K34
      refine D_le (σ' := mkStI 104 [(0, _), (6, _), (7, _), (12, _), (13, _), (16, _), (17, _), (78, _), (79, _), (80, _)] [((12, 0), _), ((74, 0), _), ((47, 0), _), ((46, 0), _), ((25, 0), _)] [] []) (by
       refine Le.mkJ [] [] rfl ?_ ?_ trivial trivial ?_
       ·exact ⟨(iV rfl), (iS rfl), (iR rfl), (iP rfl), (iN rfl), (iR rfl), (iN rfl), (by exact iS rfl), (iV rfl), (iV rfl), trivial⟩
       ·exact ⟨(obE rfl rfl rfl), (obE rfl rfl rfl), (obE rfl rfl rfl), (obE rfl rfl rfl), (obE rfl rfl rfl), trivial⟩
       ·kernel_rfl) ?_
      refine D_region ?_
      refine DL_c (op_add _ _ rfl rfl (i64w (by omega))) ?_
      refine DL_c (mvI rfl) ?_
      refine DL_nil ?_
      refine ⟨(x.1 + 1, x.2.1, x.2.2.set b (x.2.2.getD b 0 - 1)), ?_, ?_, ?_⟩
      ·exact ⟨by simp only; omega, hT2.more hc94⟩
      ·skip
       refine Le.mkJ [] [] rfl ?_ ?_ trivial trivial ?_
       ·exact ⟨(iV rfl), (iS rfl), (iR rfl), (iP rfl), (iN rfl), (iR rfl), (iN rfl), (by exact iS rfl), (iV rfl), (lvI (by rfl)), trivial⟩
       ·exact ⟨(obE rfl rfl rfl), (obE rfl rfl rfl), (obB rfl rfl rfl rfl (lv_cons (lvRr rfl (by rfl)) lv_nil)), (obR rfl rfl rfl (by rfl)), (obR rfl rfl rfl (by rfl)), trivial⟩
       ·kernel_rfl
      ·simp only; omega
    ·skip
     have hjl : x.1 = (S.getD a []).length := by omega
     have hTf : TI n S (y.1 ++ [a]) x.2.1 x.2.2 [] := by
      have := hT
      rw [hjl, List.drop_length] at this
      exact this
     refine D_exit ?_
     refine id ?_
     refine ⟨(y.1 ++ [a], x.2.1, x.2.2), ?_, ?_, ?_⟩
     ·exact ⟨hTf, hk0⟩
     ·skip
      refine Le.mkJ [((16, 0), (74, 0))] [] rfl ?_ ?_ trivial trivial ?_
      ·exact ⟨(by repeat' (exact Lv.v)), (by repeat' (exact Lv.sl)), (lvRr (id := (25, 0)) rfl rfl), (lvPr (id := (12, 0)) rfl), (by repeat' (first | exact lvPr (id := (12, 0)) rfl | refine Lv.fn rfl ?_ rfl ?_ | exact lv_nil | refine lv_cons ?_ ?_)), (by repeat' (first | exact lvPr (id := (47, 0)) rfl | refine Lv.fn rfl ?_ rfl ?_ | exact lv_nil | refine lv_cons ?_ ?_)), (lvRr rfl (by ((simp only [List.length_append]; rfl)))), trivial⟩
      ·exact ⟨(obB rfl rfl rfl rfl (by repeat' (first | exact lvPr (id := (47, 0)) rfl | exact lv_nil | refine lv_cons ?_ ?_))), (obR rfl rfl rfl (by ((simp only [← nsl_append, hae]; rfl)))), (obB rfl rfl rfl rfl (lv_cons (lvRr rfl (by rfl)) lv_nil)), (obR rfl rfl rfl (by rfl)), (obR rfl rfl rfl (by rfl)), trivial⟩
      ·kernel_rfl
     ·simp only [List.length_append, List.length_singleton]; omega
   ·skip
    have hlast := hy.last (by omega)
    refine D_exit ?_
    refine id (hK26 _ ?_)
    clear hK26; try clear K26
    refine D_seq fun K38 hK38 => ?_
    refine D_seq fun K39 hK39 => ?_
    refine D_region ?_
    refine DL_c (mvR rfl) ?_
    refine DL_c (op_lenR _ inferInstance rfl rfl) ?_
    refine DL_c (mvI rfl) ?_
    refine DL_c (op_lss _ _ rfl rfl rfl) ?_
    refine DL_nil (hK39 _ ?_)
    clear hK39; try clear K39
    refine D_splitC rfl (fun hc102 => ?_) (fun hc102 => ?_)
    ·skip
     refine D_seq fun K40 hK40 => ?_
     refine D_region ?_
     refine DL_c (op_as _ (rfl : _ = AV.v (.slice _ _ _))) ?_
     refine DL_c (asB rfl) ?_
     refine DL_nil (hK40 _ ?_)
     clear hK40; try clear K40
     refine D_ret ?_
     rw [show topoR n S = .tup [.v (.slice none 0 0), .v (.bool false)] from if_pos (by rw [← hlast]; omega)]
     exact ret2 (.inr rfl) rfl (.tmp (rfl : _ = AV.v _)) (.tmp (rfl : _ = AV.v _)) (Le.out [] [] (.tup rfl (lv_cons .v (lv_cons .v lv_nil))) rfl rfl rfl trivial trivial)
    ·skip
     have hyl : y.1.length = n := by omega
     have hfz : ((nsl y.1).drop 0).take (y.1.length * 1) = isl (y.1.map fun (x : Nat) => (x : Int)) := by rw [List.drop_zero, Nat.mul_one, nsl]; exact List.take_of_length_le (by rw [isl_len, List.length_map]; omega)
     have hfl : 0 + y.1.length * 1 ≤ (nsl y.1).length := by rw [nsl, isl_len, List.length_map]; omega
     refine D_skip (hK38 _ ?_)
     clear hK38; try clear K38
     refine D_seq fun K41 hK41 => ?_
     refine D_region ?_
     refine DL_c (mvR rfl) ?_
     refine DL_c (asR rfl) ?_
     refine DL_c (asB rfl) ?_
     refine DL_nil (hK41 _ ?_)
     clear hK41; try clear K41
     refine D_ret ?_
     rw [show topoR n S = .tup [.sl y.1.length (isl (y.1.map fun (x : Nat) => (x : Int))), .v (.bool true)] from by unfold topoR; rw [if_neg (by rw [← hlast]; omega), ← hlast, hyl]]
     exact ret2 (.inr rfl) rfl (.tmp (rfl : _ = AV.ref _ _ _)) (.tmp (rfl : _ = AV.v _)) (Le.out [] [(16, 0)] (.tup rfl (lv_cons (.frz rfl rfl hfz hfl) (lv_cons .v lv_nil))) rfl rfl rfl ⟨rfl, trivial⟩ trivial)
end Go.Proofs.Ytkbkmngbenohkaa

namespace Go.Proofs.Ytkbkmngbenohkaa
open Go.RowKit

theorem edg_par {Ps : List (List Int)} {n p v : Nat} (hv : v < n) : ((p : Int), (v : Int)) ∈ edg Ps n 0 ↔ (p : Int) ∈ Ps.getD v [] := by
 rw [edg_mem]
 constructor
 ·rintro ⟨u, _, h1, h2⟩
  have : u = v := by simp only at h1; omega
  subst this; exact h2
 ·exact fun h => ⟨v, hv, rfl, h⟩
def add1 (o : List Int) (p : Int) : List Int := if p ∈ o then o else o ++ [p]
def adds (o l : List Int) : List Int := l.foldl add1 o
theorem adds_snoc (o l : List Int) (p : Int) : adds o (l ++ [p]) = add1 (adds o l) p := by simp [adds, List.foldl_append]
theorem add1_sub {o : List Int} {p x : Int} (h : x ∈ o) : x ∈ add1 o p := by
 unfold add1; split
 ·exact h
 ·exact List.mem_append_left _ h
theorem adds_sub {x : Int} : ∀ {l o : List Int}, x ∈ o → x ∈ adds o l
 | [], _, h => h
 | p :: l, o, h => by
  have : adds o (p :: l) = adds (add1 o p) l := rfl
  rw [this]; exact adds_sub (add1_sub h)
theorem adds_mem {x : Int} : ∀ {l o : List Int}, x ∈ adds o l ↔ x ∈ o ∨ x ∈ l
 | [], o => by simp [adds]
 | p :: l, o => by
  have e : adds o (p :: l) = adds (add1 o p) l := rfl
  rw [e, adds_mem, List.mem_cons]
  unfold add1
  by_cases hp : p ∈ o
  ·rw [if_pos hp]
   constructor
   ·rintro (h | h)
    ·exact .inl h
    ·exact .inr (.inr h)
   ·rintro (h | rfl | h)
    ·exact .inl h
    ·exact .inl hp
    ·exact .inr h
  ·rw [if_neg hp, List.mem_append, List.mem_singleton]
   constructor
   ·rintro ((h | h) | h)
    ·exact .inl h
    ·exact .inr (.inl h)
    ·exact .inr (.inr h)
   ·rintro (h | h | h)
    ·exact .inl (.inl h)
    ·exact .inl (.inr h)
    ·exact .inr h
theorem adds_nodup : ∀ {l o : List Int}, o.Nodup → (adds o l).Nodup
 | [], _, h => h
 | p :: l, o, h => by
  have e : adds o (p :: l) = adds (add1 o p) l := rfl
  rw [e]
  refine adds_nodup ?_
  unfold add1
  split
  ·exact h
  ·rename_i hp
   rw [List.nodup_append]
   exact ⟨h, by simp, fun x hx y hy => by simp at hy; subst hy; exact fun e => hp (e ▸ hx)⟩
theorem adds_pre : ∀ (l o : List Int), ∃ t, adds o l = o ++ t
 | [], o => ⟨[], by simp [adds]⟩
 | p :: l, o => by
  have e : adds o (p :: l) = adds (add1 o p) l := rfl
  obtain ⟨t, ht⟩ := adds_pre l (add1 o p)
  rw [e, ht]
  unfold add1
  split
  ·exact ⟨t, rfl⟩
  ·exact ⟨[p] ++ t, by simp⟩
def abvG (Ps : List (List Int)) : Nat → Nat → List Int → List Int
 | 0, _, o => o
 | k + 1, i, o => if i < o.length then abvG Ps k (i + 1) (adds o (Ps.getD (o.getD i 0).toNat [])) else o
def abv (Ps : List (List Int)) (l : List Int) : List Int := abvG Ps Ps.length 0 l
structure AB (Ps : List (List Int)) (l : List Int) (i : Nat) (o : List Int) : Prop where
 hi : i ≤ o.length
 nd : o.Nodup
 rng : ∀ x ∈ o, 0 ≤ x ∧ x < (Ps.length : Int)
 sub : ∀ x ∈ l, x ∈ o
 src : ∀ x ∈ o, x ∈ l ∨ ∃ f ∈ l, Clo (edg Ps Ps.length 0) x.toNat f.toNat
 cls : ∀ k, k < i → ∀ p ∈ Ps.getD (o.getD k 0).toNat [], p ∈ o
 g : abvG Ps (Ps.length - i) i o = abv Ps l
theorem AB.start {Ps : List (List Int)} {l : List Int} (h : OkP Ps.length l) : AB Ps l 0 l :=
 ⟨Nat.zero_le _, h.1, h.2, fun _ h => h, fun _ h => .inl h, fun k hk => absurd hk (Nat.not_lt_zero _), rfl⟩
theorem AB.len {Ps : List (List Int)} {l : List Int} {i : Nat} {o : List Int} (h : AB Ps l i o) : o.length ≤ Ps.length := ints_len h.nd h.rng
theorem AB.step {Ps : List (List Int)} {l : List Int} {i : Nat} {o : List Int} (hV : Valid Ps) (h : AB Ps l i o) (hi : i < o.length) : AB Ps l (i + 1) (adds o (Ps.getD (o.getD i 0).toNat [])) := by
 have hr := h.rng _ (getD_memI hi)
 have hrn : (o.getD i 0).toNat < Ps.length := by omega
 have hok := hV _ hrn
 obtain ⟨t, ht⟩ := adds_pre (Ps.getD (o.getD i 0).toNat []) o
 have hget : ∀ k, k < o.length → (adds o (Ps.getD (o.getD i 0).toNat [])).getD k 0 = o.getD k 0 := by
  intro k hk
  rw [ht, List.getD_eq_getElem?_getD, List.getD_eq_getElem?_getD, List.getElem?_append_left hk]
 have hlen := h.len
 refine ⟨by rw [ht, List.length_append]; omega, adds_nodup h.nd, fun x hx => ?_, fun x hx => adds_sub (h.sub x hx), fun x hx => ?_, fun k hk p hp => ?_, ?_⟩
 ·rcases adds_mem.1 hx with hx | hx
  ·exact h.rng x hx
  ·exact hok.2 x hx
 ·rcases adds_mem.1 hx with hx | hx
  ·exact h.src x hx
  ·have hb := hok.2 x hx
   have he : ((x.toNat : Int), (((o.getD i 0).toNat : Nat) : Int)) ∈ edg Ps Ps.length 0 := (edg_par hrn).2 (by rw [Int.toNat_of_nonneg hb.1]; exact hx)
   rcases h.src _ (getD_memI hi) with h1 | ⟨f, h1, h2⟩
   ·exact .inr ⟨_, h1, .one he⟩
   ·exact .inr ⟨f, h1, .more he h2⟩
 ·rw [hget k (by omega)] at hp
  by_cases hki : k = i
  ·subst hki; exact adds_mem.2 (.inr hp)
  ·exact adds_sub (h.cls k (by omega) p hp)
 ·rw [← h.g]
  have e : Ps.length - i = (Ps.length - (i + 1)) + 1 := by omega
  rw [e, abvG, if_pos hi]
theorem AB.fin {Ps : List (List Int)} {l o : List Int} (h : AB Ps l o.length o) : o = abv Ps l := by
 rw [← h.g]
 cases Ps.length - o.length with
 | zero => rw [abvG]
 | succ k => rw [abvG, if_neg (Nat.lt_irrefl _)]
theorem AB.reach {Ps : List (List Int)} (hV : Valid Ps) {l : List Int} (hl : OkP Ps.length l) : ∃ o, AB Ps l o.length o := by
 have h : ∀ (k i : Nat) (o : List Int), AB Ps l i o → Ps.length - i ≤ k → ∃ o, AB Ps l o.length o := by
  intro k
  induction k with
  | zero =>
   intro i o h hk
   have h1 := h.len
   have h2 := h.hi
   have : i = o.length := by omega
   subst this; exact ⟨o, h⟩
  | succ k ih =>
   intro i o h hk
   by_cases hi : i < o.length
   ·exact ih _ _ (h.step hV hi) (by omega)
   ·have h2 := h.hi
    have : i = o.length := by omega
    subst this; exact ⟨o, h⟩
 exact h _ 0 l (AB.start hl) (Nat.le_refl _)
theorem abv_ok {Ps : List (List Int)} (hV : Valid Ps) {l : List Int} (hl : OkP Ps.length l) : OkP Ps.length (abv Ps l) ∧ ∀ x : Nat, (x : Int) ∈ abv Ps l ↔ (x : Int) ∈ l ∨ ∃ f : Nat, (f : Int) ∈ l ∧ Clo (edg Ps Ps.length 0) x f := by
 obtain ⟨o, h⟩ := AB.reach hV hl
 rw [← h.fin]
 refine ⟨⟨h.nd, h.rng⟩, fun x => ⟨fun hx => ?_, fun hx => ?_⟩⟩
 ·rcases h.src _ hx with h1 | ⟨f, h1, h2⟩
  ·exact .inl h1
  ·have := hl.2 f h1
   exact .inr ⟨f.toNat, by rw [Int.toNat_of_nonneg this.1]; exact h1, by simpa using h2⟩
 ·rcases hx with hx | ⟨f, h1, h2⟩
  ·exact h.sub _ hx
  ·have hf := h.sub _ h1
   have hcl : ∀ a b : Nat, ((a : Int), (b : Int)) ∈ edg Ps Ps.length 0 → (b : Int) ∈ o → (a : Int) ∈ o := by
    intro a b he hb
    obtain ⟨k, hk, hke⟩ := List.getElem_of_mem hb
    have hbn := (h.rng _ hb).2
    have h3 := (edg_par (by omega)).1 he
    refine h.cls k hk _ ?_
    have hg : o.getD k 0 = (b : Int) := by rw [List.getD_eq_getElem?_getD, List.getElem?_eq_getElem hk, Option.getD_some, hke]
    rw [hg, Int.toNat_natCast]
    exact h3
   clear h1
   induction h2 with
   | one he => exact hcl _ _ he hf
   | more he _ ih => exact hcl _ _ he (ih hf)
def insS (l : List Int) (x : Int) : List Int := l.takeWhile (fun y => decide (y < x)) ++ x :: l.dropWhile (fun y => decide (y < x))
def ssrt (l : List Int) : List Int := l.foldl insS []
theorem insS_perm (l : List Int) (x : Int) : (insS l x).Perm (l ++ [x]) := by
 unfold insS
 refine List.perm_middle.trans ?_
 rw [List.takeWhile_append_dropWhile]
 exact (List.perm_append_singleton x l).symm
theorem insS_sorted {l : List Int} {x : Int} (h : l.Pairwise fun a b => a ≤ b) : (insS l x).Pairwise fun a b => a ≤ b := by
 induction l with
 | nil => simp [insS]
 | cons y l ih =>
  rw [List.pairwise_cons] at h
  by_cases hy : y < x
  ·have e : insS (y :: l) x = y :: insS l x := by simp [insS, hy]
   rw [e, List.pairwise_cons]
   refine ⟨fun z hz => ?_, ih h.2⟩
   rcases List.mem_append.1 ((insS_perm l x).mem_iff.1 hz) with hz | hz
   ·exact h.1 z hz
   ·simp at hz; omega
  ·have e : insS (y :: l) x = x :: y :: l := by simp [insS, hy]
   rw [e, List.pairwise_cons, List.pairwise_cons]
   refine ⟨fun z hz => ?_, h⟩
   rcases List.mem_cons.1 hz with rfl | hz
   ·omega
   ·have := h.1 z hz; omega
theorem ssrt_srt (l : List Int) : ssrt l = srt l := by
 have h : ∀ (l o : List Int), (o.Pairwise fun a b => a ≤ b) → (l.foldl insS o).Perm (o ++ l) ∧ (l.foldl insS o).Pairwise fun a b => a ≤ b := by
  intro l
  induction l with
  | nil => intro o h; exact ⟨by simp, h⟩
  | cons x l ih =>
   intro o h
   obtain ⟨h1, h2⟩ := ih (insS o x) (insS_sorted h)
   refine ⟨h1.trans ?_, h2⟩
   refine ((insS_perm o x).append_right l).trans ?_
   simp
 obtain ⟨h1, h2⟩ := h l [] List.Pairwise.nil
 rw [List.nil_append] at h1
 exact srt_of h1 h2
theorem srt_set {n : Nat} {l : List Int} (hl : OkP n l) (f : Nat → Bool) (h : ∀ x : Nat, x < n → ((x : Int) ∈ l ↔ f x = true)) : srt l = ((List.range n).filter f).map fun (x : Nat) => (x : Int) := by
 symm
 have hnd : (((List.range n).filter f).map fun (x : Nat) => (x : Int)).Nodup := by
  rw [List.nodup_iff_pairwise_ne, List.pairwise_map]
  refine List.Pairwise.imp ?_ ((List.nodup_iff_pairwise_ne.1 List.nodup_range).filter _)
  intro x y hne he
  omega
 refine srt_of ((List.perm_ext_iff_of_nodup hnd hl.1).2 fun x => ?_) ?_
 ·rw [List.mem_map]
  constructor
  ·rintro ⟨k, hk, rfl⟩
   rw [List.mem_filter, List.mem_range] at hk
   exact (h k hk.1).2 hk.2
  ·intro hx
   have hb := hl.2 x hx
   obtain ⟨k, rfl⟩ := Int.eq_ofNat_of_zero_le hb.1
   exact ⟨k, List.mem_filter.2 ⟨List.mem_range.2 (by omega), (h k (by omega)).1 hx⟩, rfl⟩
 ·rw [List.pairwise_map]
  have : (List.range n).Pairwise fun a b => a < b := List.pairwise_lt_range
  exact (this.filter _).imp fun h => by omega
theorem anc_els {Ps : List (List Int)} (hV : Valid Ps) (h64 : Ps.length ≤ 64) {v : Nat} (hv : v < Ps.length) : ssrt (abv Ps [(v : Int)]) = (els (aw1 Ps.length (edg Ps Ps.length 0) v)).map fun (x : Nat) => (x : Int) := by
 have hl : OkP Ps.length [(v : Int)] := ⟨by simp, fun p hp => by simp at hp; omega⟩
 obtain ⟨h1, h2⟩ := abv_ok hV hl
 have h3 : els (aw1 Ps.length (edg Ps Ps.length 0) v) = (List.range Ps.length).filter fun u => decide (u = v) || cl (edg Ps Ps.length 0) u v := by
  unfold els aw1
  obtain ⟨d, hd⟩ : ∃ d, 64 = Ps.length + d := ⟨64 - Ps.length, by omega⟩
  rw [hd, List.range_add, List.filter_append]
  have e1 : List.filter (fun b => (cw Ps.length fun u => decide (u = v) || cl (edg Ps Ps.length 0) u v).testBit b) (List.range Ps.length) = (List.range Ps.length).filter fun u => decide (u = v) || cl (edg Ps Ps.length 0) u v := by
   refine List.filter_congr fun b hb => ?_
   rw [cw_bit, decide_eq_true (List.mem_range.1 hb), Bool.true_and]
  have e2 : List.filter (fun b => (cw Ps.length fun u => decide (u = v) || cl (edg Ps Ps.length 0) u v).testBit b) ((List.range d).map (Ps.length + ·)) = [] := by
   rw [List.filter_eq_nil_iff]
   intro b hb
   obtain ⟨k, _, rfl⟩ := List.mem_map.1 hb
   rw [cw_bit, decide_eq_false (by omega), Bool.false_and]
   simp
  rw [e1, e2, List.append_nil]
 rw [ssrt_srt, srt_set h1 (fun u => decide (u = v) || cl (edg Ps Ps.length 0) u v) fun x hx => ?_, h3]
 rw [h2]
 simp only [List.mem_singleton, Bool.or_eq_true, decide_eq_true_eq, cl_iff]
 constructor
 ·rintro (h | ⟨f, h, hc⟩)
  ·exact .inl (by omega)
  ·have : f = v := by omega
   subst this; exact .inr hc
 ·rintro (h | h)
  ·exact .inl (by omega)
  ·exact .inr ⟨v, rfl, h⟩
end Go.Proofs.Ytkbkmngbenohkaa

namespace Go.Proofs.Ytkbkmngbenohkaa
open Go.RowKit

def fst (T : Nat → Bool) (E : Prs) : Prs := E.filter fun p => T p.1.toNat
theorem fst_mem {T : Nat → Bool} {E : Prs} {a b : Nat} : ((a : Int), (b : Int)) ∈ fst T E ↔ ((a : Int), (b : Int)) ∈ E ∧ T a = true := by
 simp [fst]
theorem fst_clo {T : Nat → Bool} {E : Prs} {a b : Nat} (h : Clo (fst T E) a b) : Clo E a b := by
 induction h with
 | one h => exact .one (fst_mem.1 h).1
 | more h _ ih => exact .more (fst_mem.1 h).1 ih
noncomputable def susW (n : Nat) (E : Prs) (T : Nat → Bool) (v : Nat) : Nat := cw n fun u => cl (fst T E) u v
def susF (P : List Nat) (t : Nat) (w : Nat) (l : List Nat) (j : Nat) : Nat := (l.take j).foldl (fun x u => x ||| (P.getD u 0 &&& t)) w
theorem susF_bit (P : List Nat) (t w : Nat) (l : List Nat) (c : Nat) : ∀ j, j ≤ l.length → (susF P t w l j).testBit c = (w.testBit c || (l.take j).any fun u => (P.getD u 0).testBit c && t.testBit c) := by
 intro j _
 unfold susF
 have h : ∀ (l : List Nat) (w : Nat), (l.foldl (fun x u => x ||| (P.getD u 0 &&& t)) w).testBit c = (w.testBit c || l.any fun u => (P.getD u 0).testBit c && t.testBit c) := by
  intro l
  induction l with
  | nil => intro w; simp
  | cons x l ih => intro w; rw [List.foldl_cons, ih, Nat.testBit_or, Nat.testBit_and, List.any_cons, Bool.or_assoc]
 exact h _ _
theorem or_bound {a b : Nat} (ha : a < 18446744073709551616) (hb : b < 18446744073709551616) : a ||| b < 18446744073709551616 := Nat.or_lt_two_pow (n := 64) ha hb
theorem and_bound {a b : Nat} (hb : b < 18446744073709551616) : a &&& b < 18446744073709551616 := by
 have := Nat.and_le_right (n := a) (m := b); omega
theorem susF_lt {P : List Nat} {t w : Nat} (ht : t < 18446744073709551616) (hw : w < 18446744073709551616) (l : List Nat) (j : Nat) : susF P t w l j < 18446744073709551616 := by
 unfold susF
 have h : ∀ (l : List Nat) (w : Nat), w < 18446744073709551616 → l.foldl (fun x u => x ||| (P.getD u 0 &&& t)) w < 18446744073709551616 := by
  intro l
  induction l with
  | nil => intro w h; exact h
  | cons x l ih => intro w h; exact ih _ (or_bound h (and_bound ht))
 exact h _ _ hw
structure PW (n : Nat) (E : Prs) (P : List Nat) : Prop where
 e : inE n E = true
 n64 : n ≤ 64
 len : P.length = n
 lt : ∀ v, P.getD v 0 < 18446744073709551616
 m : ∀ v, v < n → ∀ p, (P.getD v 0).testBit p = true ↔ ((p : Int), (v : Int)) ∈ E
structure SI (n : Nat) (E : Prs) (t : Nat) (v : Nat) (P : List Nat) (w : Nat) : Prop where
 lt : w < 18446744073709551616
 base : ∀ c, ((P.getD v 0).testBit c && t.testBit c) = true → w.testBit c = true
 src : ∀ c, w.testBit c = true → Clo (fst t.testBit E) c v
theorem SI.start {n : Nat} {E : Prs} {t v : Nat} {P : List Nat} (h : PW n E P) (hv : v < n) (ht : t < 18446744073709551616) : SI n E t v P (P.getD v 0 &&& t) := by
 refine ⟨and_bound ht, fun c hc => by rw [Nat.testBit_and]; exact hc, fun c hc => ?_⟩
 rw [Nat.testBit_and, Bool.and_eq_true] at hc
 exact .one (fst_mem.2 ⟨(h.m v hv c).1 hc.1, hc.2⟩)
theorem SI.bit_lt {n : Nat} {E : Prs} {t v : Nat} {P : List Nat} {w : Nat} (h : PW n E P) (s : SI n E t v P w) {c : Nat} (hc : w.testBit c = true) : c < n := (Clo.lt h.e (fst_clo (s.src c hc))).1
theorem SI.next {n : Nat} {E : Prs} {t v : Nat} {P : List Nat} {w : Nat} (h : PW n E P) (ht : t < 18446744073709551616) (s : SI n E t v P w) : SI n E t v P (susF P t w (els w) (els w).length) := by
 refine ⟨susF_lt ht s.lt _ _, fun c hc => ?_, fun c hc => ?_⟩
 ·rw [susF_bit _ _ _ _ _ _ (Nat.le_refl _), s.base c hc]; rfl
 ·rw [susF_bit _ _ _ _ _ _ (Nat.le_refl _), List.take_length, Bool.or_eq_true, List.any_eq_true] at hc
  rcases hc with hc | ⟨u, hu, hb⟩
  ·exact s.src c hc
  ·rw [Bool.and_eq_true] at hb
   obtain ⟨_, hu⟩ := els_mem.1 hu
   exact .more (fst_mem.2 ⟨(h.m u (s.bit_lt h hu) c).1 hb.1, hb.2⟩) (s.src u hu)
theorem clo_up {E : Prs} {c v w : Nat} (h : Clo E c v) (hb : ∀ a : Nat, ((a : Int), (v : Int)) ∈ E → w.testBit a = true) (hs : ∀ u : Nat, w.testBit u = true → ∀ a : Nat, ((a : Int), (u : Int)) ∈ E → w.testBit a = true) : w.testBit c = true := by
 induction h with
 | one he => exact hb _ he
 | more he _ ih => exact hs _ (ih hb) _ he
theorem SI.fin {n : Nat} {E : Prs} {t v : Nat} {P : List Nat} {w : Nat} (h : PW n E P) (hv : v < n) (s : SI n E t v P w) (he : susF P t w (els w) (els w).length = w) : w = susW n E t.testBit v := by
 apply Nat.eq_of_testBit_eq
 intro c
 rw [susW, cw_bit, Bool.eq_iff_iff]
 simp only [Bool.and_eq_true, decide_eq_true_eq, cl_iff]
 constructor
 ·intro hc
  exact ⟨s.bit_lt h hc, s.src c hc⟩
 ·rintro ⟨_, hc⟩
  have hclo : ∀ u : Nat, w.testBit u = true → ∀ a : Nat, ((a : Int), (u : Int)) ∈ fst t.testBit E → w.testBit a = true := by
   intro u hu a ha
   obtain ⟨h1, h2⟩ := fst_mem.1 ha
   have hun := s.bit_lt h hu
   rw [← he, susF_bit _ _ _ _ _ _ (Nat.le_refl _), List.take_length, Bool.or_eq_true, List.any_eq_true]
   refine .inr ⟨u, els_mem.2 ⟨by have := h.n64; omega, hu⟩, ?_⟩
   rw [Bool.and_eq_true]
   exact ⟨(h.m u hun a).2 h1, h2⟩
  have hb : ∀ a : Nat, ((a : Int), (v : Int)) ∈ fst t.testBit E → w.testBit a = true := by
   intro a ha
   obtain ⟨h1, h2⟩ := fst_mem.1 ha
   refine s.base a ?_
   rw [Bool.and_eq_true]
   exact ⟨(h.m v hv a).2 h1, h2⟩
  exact clo_up hc hb hclo
end Go.Proofs.Ytkbkmngbenohkaa

namespace Go.Proofs.Ytkbkmngbenohkaa
open Go.RowKit

theorem with_spec (s i : Nat) (hs : s < 18446744073709551616) (hi : i < 64) :
  Spec Try.prog 98 (inSt [.v (.int .u64 (s : Int)), .v (.int .i64 (i : Int))] []) (outSt (.v (.int .u64 ((s ||| 2 ^ i : Nat) : Int))) []) := by
 have hb := bit_lt i hi
 refine Spec.ofN Try.func98 rfl Try.ntmps98 rfl ?_
 refine D_seq fun K1 hK1 => ?_
 refine D_region ?_
 refine DL_c (asI rfl) ?_
 refine DL_nil (hK1 _ ?_)
 clear hK1; try clear K1
 refine D_seq fun K2 hK2 => ?_
 refine D_region ?_
 refine DL_c (mvI rfl) ?_
 refine DL_c (mvI rfl) ?_
 refine DL_c (op_shl _ _ rfl rfl (by omega) (u64_shl i hi)) ?_
 refine DL_c (op_or _ _ rfl rfl (u64_or s (2 ^ i) hs hb)) ?_
 refine DL_c (asI rfl) ?_
 refine DL_nil (hK2 _ ?_)
 clear hK2; try clear K2
 refine D_ret ?_
 refine ret1 (.inr rfl) rfl (.tmp (rfl : _ = AV.v (.int _ _))) (Le.out [] [] (lvI ?_) rfl rfl rfl trivial trivial)
 rfl
theorem vhas_spec (w i : Nat) (hw : w < 18446744073709551616) (hi : i < 64) :
  Spec Try.prog 97 (inSt [.v (.int .u64 (w : Int)), .v (.int .i64 (i : Int))] []) (outSt (.v (.bool (w.testBit i))) []) := by
 refine Spec.ofN Try.func97 rfl Try.ntmps97 rfl ?_
 refine D_seq fun K1 hK1 => ?_
 refine D_region ?_
 refine DL_c (asB rfl) ?_
 refine DL_nil (hK1 _ ?_)
 clear hK1; try clear K1
 refine D_seq fun K2 hK2 => ?_
 refine D_region ?_
 refine DL_c (mvI rfl) ?_
 refine DL_c (mvI rfl) ?_
 refine DL_c (op_shr _ _ rfl rfl (by omega) rfl) ?_
 refine DL_c (op_and _ _ rfl rfl rfl) ?_
 refine DL_c (op_eql _ _ rfl rfl rfl) ?_
 refine DL_c (asB rfl) ?_
 refine DL_nil (hK2 _ ?_)
 clear hK2; try clear K2
 refine D_ret ?_
 refine ret1 (.inr rfl) rfl (.tmp (rfl : _ = AV.v (.bool _))) (Le.out [] [] (lvB ?_) rfl rfl rfl trivial trivial)
 exact (u64_has w i hw hi).symm
def elsK (w i : Nat) : List Nat := (List.range i).filter fun b => w.testBit b
theorem elsK_yes {w i : Nat} (h : w.testBit i = true) : elsK w (i + 1) = elsK w i ++ [i] := by simp [elsK, List.range_succ, h]
theorem elsK_no {w i : Nat} (h : w.testBit i = false) : elsK w (i + 1) = elsK w i := by simp [elsK, List.range_succ, h]
theorem elsK_len (w i : Nat) : (elsK w i).length ≤ i := by
 have := List.length_filter_le (fun b => w.testBit b) (List.range i)
 simpa [elsK] using this
theorem list_spec (w : Nat) (hw : w < 18446744073709551616) :
  Spec Try.prog 99 (inSt [.v (.int .u64 (w : Int))] []) (outSt (.sl (els w).length (nsl (els w))) []) := by
 refine Spec.ofN Try.func99 rfl Try.ntmps99 rfl ?_
 refine D_seq fun K1 hK1 => ?_
 refine D_region ?_
 refine DL_c (op_as _ (rfl : _ = AV.v (.slice _ _ _))) ?_
 refine DL_nil (hK1 _ ?_)
 clear hK1; try clear K1
 refine D_seq fun K2 hK2 => ?_
 refine D_region ?_
 refine DL_c (op_asN (3, 0) _ 3 1 rfl rfl) ?_
 refine DL_nil (hK2 _ ?_)
 clear hK2; try clear K2
 refine D_seq fun K3 hK3 => ?_
 refine D_seq fun K4 hK4 => ?_
 refine D_region ?_
 refine DL_c (mvI rfl) ?_
 refine DL_nil (hK4 _ ?_)
 clear hK4; try clear K4
 refine D_block ?_
 refine D_loopL (α := Nat) (fun i => i ≤ 64) 17 [(0, _)] [] (fun i => [(5, .v (.int .i64 (i : Int))), (3, .ref (3, 0) 0 (elsK w i).length)]) (fun i => [((3, 0), .row 3 1 (nsl (elsK w i)))]) [] [] (fun i => 64 - i) 0 ?_ (by
  refine Le.mkJ [] [] rfl ?_ ?_ trivial trivial ?_
  ·exact ⟨(iV rfl), (lvI (by rfl)), (lvRr rfl (by rfl)), trivial⟩
  ·exact ⟨(obR rfl rfl rfl (by rfl)), trivial⟩
  ·kernel_rfl) ?_
 ·omega
 intro i hi
 have hel := elsK_len w i
 refine D_seq fun K5 hK5 => ?_
 refine D_region ?_
 refine DL_c (op_lss _ _ rfl rfl rfl) ?_
 refine DL_nil (hK5 _ ?_)
 clear hK5; try clear K5
 refine D_seq fun K6 hK6 => ?_
 refine D_splitC rfl (fun hc6 => ?_) (fun hc6 => ?_)
 ·skip
  refine D_skip (hK6 _ ?_)
  clear hK6; try clear K6
  refine D_seq fun K7 hK7 => ?_
  refine D_block ?_
  refine D_seq fun K8 hK8 => ?_
  refine D_region ?_
  refine DL_c (mvI rfl) ?_
  refine DL_c (asI rfl) ?_
  refine DL_nil (hK8 _ ?_)
  clear hK8; try clear K8
  refine D_seq fun K9 hK9 => ?_
  refine D_region ?_
  refine DL_c (mvI rfl) ?_
  refine DL_c (mvI rfl) ?_
  refine DL_c (op_callH inferInstance (by repeat' (first | exact argsLv_nil | refine argsLv_cons ?_ ?_ | exact Lv.v)) (vhas_spec w i hw (by omega)) rfl rfl) ?_
  refine DL_nil (hK9 _ ?_)
  clear hK9; try clear K9
  refine D_splitC rfl (fun hc10 => ?_) (fun hc10 => ?_)
  ·skip
   have hey := elsK_yes hc10
   refine D_region ?_
   refine DL_c (mvR rfl) ?_
   refine DL_c (mvI rfl) ?_
   refine DL_c (op_bsF _ _ inferInstance rfl (by rfl) (by simp <;> rfl) (by decide) rfl) ?_
   refine DL_c (op_ap (14, 0) _ _ inferInstance rfl rfl (by (simp only [isl_len, bsl_len, psl_len, mrows_len, nsl_len, ws_len, List.length_map, ul_len]; omega)) (by (refine .sl ?_; (simp [isl]; done))) (by omega) rfl (rfl) (rfl)) ?_
   refine DL_c (asR rfl) ?_
   refine DL_nil (hK7 _ ?_)
   clear hK7; try clear K7
   refine D_region ?_
   refine DL_c (op_add _ _ rfl rfl (i64w (by omega))) ?_
   refine DL_c (mvI rfl) ?_
   refine DL_nil ?_
   refine ⟨i + 1, ?_, ?_, ?_⟩
   ·omega
   ·skip
    refine Le.mkJ [((3, 0), (14, 0))] [] rfl ?_ ?_ trivial trivial ?_
    ·exact ⟨(by repeat' (exact Lv.v)), (lvI (by rfl)), (lvRr rfl (by ((rw [hey, List.length_append]; rfl)))), trivial⟩
    ·exact ⟨(obR rfl rfl rfl (by ((rw [hey, ← nsl_append]; rfl)))), trivial⟩
    ·kernel_rfl
   ·omega
  ·skip
   have hey := elsK_no hc10
   refine D_skip (hK7 _ ?_)
   clear hK7; try clear K7
   refine D_region ?_
   refine DL_c (op_add _ _ rfl rfl (i64w (by omega))) ?_
   refine DL_c (mvI rfl) ?_
   refine DL_nil ?_
   refine ⟨i + 1, ?_, ?_, ?_⟩
   ·omega
   ·skip
    refine Le.mkJ [] [] rfl ?_ ?_ trivial trivial ?_
    ·exact ⟨(iV rfl), (lvI (by rfl)), (lvRr rfl (by (rw [hey]))), trivial⟩
    ·exact ⟨(obR rfl rfl rfl (by (rw [hey]))), trivial⟩
    ·kernel_rfl
   ·omega
 ·skip
  obtain rfl : i = 64 := by omega
  refine D_exit ?_
  refine id (hK3 _ ?_)
  clear hK3; try clear K3
  refine D_seq fun K10 hK10 => ?_
  refine D_region ?_
  refine DL_c (mvR rfl) ?_
  refine DL_c (asR rfl) ?_
  refine DL_nil (hK10 _ ?_)
  clear hK10; try clear K10
  refine D_ret ?_
  exact ret1 (.inr rfl) rfl (.tmp (rfl : _ = AV.ref _ _ _)) (Le.out [] [(3, 0)] (frz0 rfl rfl (by rw [nsl_len]; exact Nat.mul_one _) rfl) rfl rfl rfl ⟨rfl, trivial⟩ trivial)
abbrev gra (n : Nat) (P A : List Nat) : List PV := [.sl n (ul P), .sl n (ul A)]
def wat (n : Nat) (P : List Nat) (v : Int) : List Nat := if 0 ≤ v ∧ v < (n : Int) then els (P.getD v.toNat 0) else []
theorem at_spec (n : Nat) (P : List Nat) (hP : P.length = n) (hn : n ≤ 64) (hw : ∀ v, P.getD v 0 < 18446744073709551616) (v : Int) :
  Spec Try.prog 102 (inSt [.sl n (ul P), .v (.int .i64 v)] []) (outSt (.sl (wat n P v).length (nsl (wat n P v))) []) := by
 refine Spec.ofN Try.func102 rfl Try.ntmps102 rfl ?_
 refine D_seq fun K1 hK1 => ?_
 refine D_region ?_
 refine DL_c (op_as _ (rfl : _ = AV.v (.slice _ _ _))) ?_
 refine DL_nil (hK1 _ ?_)
 clear hK1; try clear K1
 refine D_seq fun K2 hK2 => ?_
 refine D_seq fun K3 hK3 => ?_
 refine D_region ?_
 refine DL_c (mvI rfl) ?_
 refine DL_c (op_lss _ _ rfl rfl rfl) ?_
 refine DL_c (mvB rfl) ?_
 refine DL_caseC (fun hg7 => ?_) (fun hg7 => ?_)
 ·skip
  refine DL_cn rfl rfl (by decide) ?_
  refine DL_cn rfl rfl (by decide) ?_
  refine DL_cn rfl rfl (by decide) ?_
  refine DL_cn rfl rfl (by decide) ?_
  refine DL_c (op_pick _ _ _ rfl (rfl : _ = AV.v (.bool _))) ?_
  refine DL_nil (hK3 _ ?_)
  clear hK3; try clear K3
  refine D_cT rfl rfl ?_
  refine D_seq fun K4 hK4 => ?_
  refine D_region ?_
  refine DL_c (op_as _ (rfl : _ = AV.v (.slice _ _ _))) ?_
  refine DL_nil (hK4 _ ?_)
  clear hK4; try clear K4
  refine D_ret ?_
  rw [show wat n P v = [] from if_neg (by omega)]
  exact ret1 (.inr rfl) rfl (.tmp (rfl : _ = AV.v _)) (Le.out [] [] .nil rfl rfl rfl trivial trivial)
 ·skip
  refine DL_cy rfl rfl (mvI rfl) ?_
  refine DL_cy rfl rfl (mvS rfl) ?_
  refine DL_cy rfl rfl (op_lenS _ inferInstance rfl) ?_
  refine DL_cy rfl rfl (op_geq _ _ rfl rfl rfl) ?_
  refine DL_c (op_pick _ _ _ rfl (rfl : _ = AV.v (.bool _))) ?_
  refine DL_nil (hK3 _ ?_)
  clear hK3; try clear K3
  refine D_splitC rfl (fun hc12 => ?_) (fun hc12 => ?_)
  ·skip
   refine D_seq fun K5 hK5 => ?_
   refine D_region ?_
   refine DL_c (op_as _ (rfl : _ = AV.v (.slice _ _ _))) ?_
   refine DL_nil (hK5 _ ?_)
   clear hK5; try clear K5
   refine D_ret ?_
   rw [show wat n P v = [] from if_neg (by omega)]
   exact ret1 (.inr rfl) rfl (.tmp (rfl : _ = AV.v _)) (Le.out [] [] .nil rfl rfl rfl trivial trivial)
  ·skip
   refine D_skip (hK2 _ ?_)
   clear hK2; try clear K2
   refine D_seq fun K6 hK6 => ?_
   refine D_region ?_
   refine DL_c (mvS rfl) ?_
   refine DL_c (mvI rfl) ?_
   refine DL_c (op_ixS _ _ inferInstance rfl rfl v.toNat (by omega) (by omega) (by simp; omega) (Nat.mul_one _)) ?_
   refine DL_c (op_ldF _ inferInstance rfl (by exact ul_get _ _ (by omega)) rfl) ?_
   refine DL_c (op_callH inferInstance (by repeat' (first | exact argsLv_nil | refine argsLv_cons ?_ ?_ | exact Lv.v)) (list_spec (P.getD v.toNat 0) (hw _)) rfl rfl) ?_
   refine DL_c (asS rfl) ?_
   refine DL_nil (hK6 _ ?_)
   clear hK6; try clear K6
   refine D_ret ?_
   rw [show wat n P v = els (P.getD v.toNat 0) from if_pos (by omega)]
   exact ret1 (.inr rfl) rfl (.tmp (rfl : _ = AV.sl _ _)) (Le.out [] [] .sl rfl rfl rfl trivial trivial)
theorem parents_spec (n : Nat) (P A : List Nat) (hP : P.length = n) (hn : n ≤ 64) (hw : ∀ v, P.getD v 0 < 18446744073709551616) (v : Int) :
  Spec Try.prog 65 (inSt [.fp 0 (gra n P A), .v (.int .i64 v)] []) (outSt (.sl (wat n P v).length (nsl (wat n P v))) []) := by
 refine Spec.ofN Try.func65 rfl Try.ntmps65 rfl ?_
 refine D_seq fun K1 hK1 => ?_
 refine D_region ?_
 refine DL_c (op_as _ (rfl : _ = AV.v (.slice _ _ _))) ?_
 refine DL_nil (hK1 _ ?_)
 clear hK1; try clear K1
 refine D_seq fun K2 hK2 => ?_
 refine D_region ?_
 refine DL_c (op_mv _ (rfl : _ = AV.fp _ _)) ?_
 refine DL_c (op_nilc _ rfl) ?_
 refine DL_c (op_fldF _ inferInstance rfl rfl) ?_
 refine DL_c (op_ldF _ inferInstance rfl (rfl : _ = some (PV.sl n (ul P))) rfl) ?_
 refine DL_c (mvI rfl) ?_
 refine DL_c (op_callH inferInstance (by repeat' (first | exact argsLv_nil | refine argsLv_cons ?_ ?_ | exact Lv.v | exact Lv.sl)) (at_spec n P hP hn hw v) rfl rfl) ?_
 refine DL_c (asS rfl) ?_
 refine DL_nil (hK2 _ ?_)
 clear hK2; try clear K2
 refine D_ret ?_
 exact ret1 (.inr rfl) rfl (.tmp (rfl : _ = AV.sl _ _)) (Le.out [] [] .sl rfl rfl rfl trivial trivial)
theorem ancestors_spec (n : Nat) (P A : List Nat) (hA : A.length = n) (hn : n ≤ 64) (hw : ∀ v, A.getD v 0 < 18446744073709551616) (v : Int) :
  Spec Try.prog 60 (inSt [.fp 0 (gra n P A), .v (.int .i64 v)] []) (outSt (.sl (wat n A v).length (nsl (wat n A v))) []) := by
 refine Spec.ofN Try.func60 rfl Try.ntmps60 rfl ?_
 refine D_seq fun K1 hK1 => ?_
 refine D_region ?_
 refine DL_c (op_as _ (rfl : _ = AV.v (.slice _ _ _))) ?_
 refine DL_nil (hK1 _ ?_)
 clear hK1; try clear K1
 refine D_seq fun K2 hK2 => ?_
 refine D_region ?_
 refine DL_c (op_mv _ (rfl : _ = AV.fp _ _)) ?_
 refine DL_c (op_nilc _ rfl) ?_
 refine DL_c (op_fldF _ inferInstance rfl rfl) ?_
 refine DL_c (op_ldF _ inferInstance rfl (rfl : _ = some (PV.sl n (ul A))) rfl) ?_
 refine DL_c (mvI rfl) ?_
 refine DL_c (op_callH inferInstance (by repeat' (first | exact argsLv_nil | refine argsLv_cons ?_ ?_ | exact Lv.v | exact Lv.sl)) (at_spec n A hA hn hw v) rfl rfl) ?_
 refine DL_c (asS rfl) ?_
 refine DL_nil (hK2 _ ?_)
 clear hK2; try clear K2
 refine D_ret ?_
 exact ret1 (.inr rfl) rfl (.tmp (rfl : _ = AV.sl _ _)) (Le.out [] [] .sl rfl rfl rfl trivial trivial)
theorem vlen_spec (n : Nat) (P A : List Nat) :
  Spec Try.prog 64 (inSt [.fp 0 (gra n P A)] []) (outSt (.v (.int .i64 (n : Int))) []) := by
 refine Spec.ofN Try.func64 rfl Try.ntmps64 rfl ?_
 refine D_seq fun K1 hK1 => ?_
 refine D_region ?_
 refine DL_c (asI rfl) ?_
 refine DL_nil (hK1 _ ?_)
 clear hK1; try clear K1
 refine D_seq fun K2 hK2 => ?_
 refine D_region ?_
 refine DL_c (op_mv _ (rfl : _ = AV.fp _ _)) ?_
 refine DL_c (op_nilc _ rfl) ?_
 refine DL_c (op_fldF _ inferInstance rfl rfl) ?_
 refine DL_c (op_ldF _ inferInstance rfl (rfl : _ = some (PV.sl n (ul P))) rfl) ?_
 refine DL_c (op_lenS _ inferInstance rfl) ?_
 refine DL_c (asI rfl) ?_
 refine DL_nil (hK2 _ ?_)
 clear hK2; try clear K2
 refine D_ret ?_
 exact ret1 (.inr rfl) rfl (.tmp (rfl : _ = AV.v _)) (Le.out [] [] .v rfl rfl rfl trivial trivial)
end Go.Proofs.Ytkbkmngbenohkaa
