/- The order's way to the closure: the counts, the row, the words. Plain. -/
import Derived.Test.YtkbkmngbenohkaaVoB2
set_option linter.unusedSimpArgs false
set_option linter.unusedVariables false
namespace Go.Proofs.Ytkbkmngbenohkaa
open Go.RowKit

def nxt (E : Prs) (a : Nat) : List Int := (E.filter fun p => p.1 == (a : Int)).map (·.2)
def nxL (n : Nat) (E : Prs) (k : Nat) : List (List Int) := (List.range n).map fun a => nxt (E.take k) a
def cntI (E : Prs) (b : Nat) : Nat := E.countP fun p => p.2 == (b : Int)
def wts (n : Nat) (E : Prs) (k : Nat) : List Int := (List.range n).map fun b => ((cntI (E.take k) b : Nat) : Int)
@[simp] theorem nxL_len (n : Nat) (E : Prs) (k : Nat) : (nxL n E k).length = n := by simp [nxL]
@[simp] theorem wts_len (n : Nat) (E : Prs) (k : Nat) : (wts n E k).length = n := by simp [wts]
theorem nxL_get {n : Nat} {E : Prs} {k a : Nat} (h : a < n) : (nxL n E k).getD a [] = nxt (E.take k) a := by simp [nxL, List.getD_eq_getElem?_getD, h]
theorem wts_get {n : Nat} {E : Prs} {k a : Nat} (h : a < n) : (wts n E k).getD a 0 = ((cntI (E.take k) a : Nat) : Int) := by simp [wts, List.getD_eq_getElem?_getD, h]
theorem nxL_zero (n : Nat) (E : Prs) : nxL n E 0 = List.replicate n [] := by
  apply List.ext_getElem
  · simp
  · intro i h1 h2; simp [nxL, nxt]
theorem take_succ' {E : Prs} {k : Nat} (hk : k < E.length) : E.take (k + 1) = E.take k ++ [E.getD k (0, 0)] := by
  rw [List.take_add_one, List.getElem?_eq_getElem hk]; simp [List.getD_eq_getElem?_getD, hk]
theorem nxt_app (E : Prs) (p : Int × Int) (a : Nat) : nxt (E ++ [p]) a = nxt E a ++ (if p.1 = (a : Int) then [p.2] else []) := by
  unfold nxt
  by_cases h : p.1 = (a : Int) <;> simp [h]
theorem nxL_succ {n : Nat} {E : Prs} {k : Nat} (hE : inE n E = true) (hk : k < E.length) : nxL n E (k + 1) = (nxL n E k).set (E.getD k (0, 0)).1.toNat ((nxL n E k).getD (E.getD k (0, 0)).1.toNat [] ++ [(E.getD k (0, 0)).2]) := by
  have hb := inE_at hE hk
  obtain ⟨a, ha⟩ := Int.eq_ofNat_of_zero_le hb.1
  have han : a < n := by omega
  rw [ha, Int.toNat_natCast, nxL_get han]
  apply List.ext_getElem
  · simp
  · intro i h1 h2
    have hi : i < n := by simpa using h1
    rw [List.getElem_set]
    simp only [nxL, List.getElem_map, List.getElem_range]
    rw [take_succ' hk, nxt_app, ha]
    by_cases h : a = i
    · subst h; simp
    · have h' : ¬ ((a : Int) = (i : Int)) := by omega
      simp [h, h']
/-- x is one of l. -/
def dn (l : List Nat) (x : Int) : Bool := l.any fun y => (y : Int) == x
theorem dn_iff {l : List Nat} {x : Int} : dn l x = true ↔ ∃ y ∈ l, (y : Int) = x := by simp [dn]
/-- How many pairs lead to b from outside of l. -/
def deg (E : Prs) (l : List Nat) (b : Nat) : Nat := E.countP fun p => p.2 == (b : Int) && !dn l p.1
structure KInv (n : Nat) (E : Prs) (k : Nat) (row : List Nat) (W : List Int) : Prop where
  nd : row.Nodup
  lt : ∀ x ∈ row, x < n
  kl : k ≤ row.length
  wl : W.length = n
  w : ∀ b, b < n → W.getD b 0 = ((deg E (row.take k) b : Nat) : Int)
  zero : ∀ b, b < n → (b ∈ row ↔ W.getD b 0 = 0)
  top : ∀ (j x : Nat), row[j]? = some x → ∀ p ∈ E, p.2 = (x : Int) → ∃ (i y : Nat), i < j ∧ row[i]? = some y ∧ p.1 = (y : Int)
/-- The elements that no pair leads to. -/
def row0 (n : Nat) (E : Prs) (i : Nat) : List Nat := (List.range i).filter fun b => (wts n E E.length).getD b 0 == 0
theorem KInv.start (n : Nat) (E : Prs) : KInv n E 0 (row0 n E n) (wts n E E.length) := by
  refine ⟨List.Pairwise.filter _ List.nodup_range, fun x hx => ?_, Nat.zero_le _, wts_len _ _ _, fun b hb => ?_, fun b hb => ?_, fun j x hj p hp hpx => ?_⟩
  · simp only [row0, List.mem_filter, List.mem_range] at hx; exact hx.1
  · rw [wts_get hb, List.take_length]; simp [deg, cntI, dn]
  · simp only [row0, List.mem_filter, List.mem_range, beq_iff_eq]
    exact ⟨fun h => h.2, fun h => ⟨hb, h⟩⟩
  · have hx := List.mem_of_getElem? hj
    simp only [row0, List.mem_filter, List.mem_range, beq_iff_eq] at hx
    rw [wts_get hx.1, List.take_length] at hx
    have h0 : cntI E x = 0 := by omega
    have := List.countP_eq_zero.1 h0 p hp
    simp [hpx] at this

theorem countP_sub {α : Type} {P Q : α → Bool} : ∀ {l : List α}, (∀ x, Q x = true → P x = true) → l.countP P ≤ l.countP Q → ∀ x ∈ l, P x = true → Q x = true
  | [], _, _, x, h, _ => by simp at h
  | y :: l, hQ, hle, x, hx, hP => by
    have hmono : l.countP Q ≤ l.countP P := List.countP_mono_left fun x _ h => hQ x h
    rw [List.countP_cons, List.countP_cons] at hle
    have hy : P y = true → Q y = true := by
      intro h
      cases hq : Q y with
      | true => rfl
      | false => rw [h, hq] at hle; simp at hle; omega
    have hle' : l.countP P ≤ l.countP Q := by
      cases hq : Q y with
      | true => rw [hq, hQ y hq] at hle; simpa using hle
      | false =>
        cases hp : P y with
        | true => rw [hy hp] at hq; cases hq
        | false => rw [hq, hp] at hle; simpa using hle
    rcases List.mem_cons.1 hx with rfl | hx
    · exact hy hP
    · exact countP_sub hQ hle' x hx hP
theorem countP_part {α : Type} (P Q : α → Bool) : ∀ l : List α, l.countP P = l.countP (fun x => P x && Q x) + l.countP fun x => P x && !Q x
  | [] => rfl
  | y :: l => by
    have := countP_part P Q l
    simp only [List.countP_cons]
    cases P y <;> cases Q y <;> simp <;> omega
theorem nxt_count (E : Prs) (a b : Nat) : (nxt E a).countP (fun x => x == (b : Int)) = E.countP fun p => p.2 == (b : Int) && p.1 == (a : Int) := by
  unfold nxt
  rw [List.countP_map, List.countP_filter]
  rfl
/-- Where the inner loop stands: a comes from the row at k, those ahead of it are done. -/
structure IInv (n : Nat) (E : Prs) (k : Nat) (done : List Nat) (a j : Nat) (row : List Nat) (W : List Int) : Prop where
  nd : row.Nodup
  lt : ∀ x ∈ row, x < n
  tk : row.take k = done
  at_ : row[k]? = some a
  wl : W.length = n
  w : ∀ b, b < n → W.getD b 0 + (((nxt E a).take j).countP (fun x => x == (b : Int)) : Nat) = ((deg E done b : Nat) : Int)
  zero : ∀ b, b < n → (b ∈ row ↔ W.getD b 0 = 0)
  top : ∀ (j x : Nat), row[j]? = some x → ∀ p ∈ E, p.2 = (x : Int) → ∃ (i y : Nat), i < j ∧ row[i]? = some y ∧ p.1 = (y : Int)
theorem IInv.start {n : Nat} {E : Prs} {k : Nat} {row : List Nat} {W : List Int} (h : KInv n E k row W) (hk : k < row.length) : IInv n E k (row.take k) (row.getD k 0) 0 row W :=
  ⟨h.nd, h.lt, rfl, by simp [List.getD_eq_getElem?_getD, hk], h.wl, fun b hb => by rw [h.w b hb]; simp, h.zero, h.top⟩
theorem IInv.not_done {n : Nat} {E : Prs} {k : Nat} {done : List Nat} {a j : Nat} {row : List Nat} {W : List Int} (h : IInv n E k done a j row W) : a ∉ done := by
  intro hm
  rw [← h.tk] at hm
  obtain ⟨i, hi, he⟩ := List.getElem_of_mem hm
  rw [List.getElem_take] at he
  rw [List.length_take] at hi
  obtain ⟨hk, hk2⟩ := List.getElem?_eq_some_iff.1 h.at_
  have := (List.nodup_iff_pairwise_ne.1 h.nd)
  have hne := List.pairwise_iff_getElem.1 this i k (by omega) hk (by omega)
  exact hne (he.trans hk2.symm)
theorem IInv.ge {n : Nat} {E : Prs} {k : Nat} {done : List Nat} {a j : Nat} {row : List Nat} {W : List Int} (h : IInv n E k done a j row W) (b : Nat) : ((nxt E a).countP fun x => x == (b : Int)) ≤ deg E done b := by
  rw [nxt_count]
  refine List.countP_mono_left fun p _ hp => ?_
  simp only [Bool.and_eq_true, beq_iff_eq] at hp ⊢
  refine ⟨hp.1, ?_⟩
  cases hd : dn done p.1 with
  | false => rfl
  | true =>
    obtain ⟨y, hy, he⟩ := dn_iff.1 hd
    rw [hp.2] at he
    have : y = a := by omega
    subst this
    exact absurd hy h.not_done
theorem take_count {l : List Int} {j : Nat} (hj : j < l.length) (b : Nat) : (l.take (j + 1)).countP (fun x => x == (b : Int)) = (l.take j).countP (fun x => x == (b : Int)) + (if l.getD j 0 = (b : Int) then 1 else 0) := by
  rw [List.take_add_one, List.getElem?_eq_getElem hj, List.countP_append]
  have : l.getD j 0 = l[j] := by simp [List.getD_eq_getElem?_getD, hj]
  rw [this]
  by_cases h : l[j] = (b : Int) <;> simp [h]
theorem take_count_le (l : List Int) (j : Nat) (b : Nat) : (l.take j).countP (fun x => x == (b : Int)) ≤ l.countP fun x => x == (b : Int) := (List.take_sublist j l).countP_le
theorem IInv.pos {n : Nat} {E : Prs} {k : Nat} {done : List Nat} {a j : Nat} {row : List Nat} {W : List Int} (h : IInv n E k done a j row W) (hj : j < (nxt E a).length) {b : Nat} (hb : b < n) (he : (nxt E a).getD j 0 = (b : Int)) : 1 ≤ W.getD b 0 := by
  have h1 := h.w b hb
  have h2 := h.ge b
  have h3 := take_count hj b
  rw [if_pos he] at h3
  have h4 := take_count_le (nxt E a) (j + 1) b
  omega
theorem getD_setI (l : List Int) (i j : Nat) (x : Int) : (l.set i x).getD j 0 = if j = i ∧ i < l.length then x else l.getD j 0 := getD_set l i j x 0
theorem IInv.more {n : Nat} {E : Prs} {k : Nat} {done : List Nat} {a j : Nat} {row : List Nat} {W : List Int} (h : IInv n E k done a j row W) (hj : j < (nxt E a).length) {b : Nat} (hb : b < n) (he : (nxt E a).getD j 0 = (b : Int)) (hz : W.getD b 0 - 1 ≠ 0) :
    IInv n E k done a (j + 1) row (W.set b (W.getD b 0 - 1)) := by
  have hp := h.pos hj hb he
  refine ⟨h.nd, h.lt, h.tk, h.at_, by rw [List.length_set]; exact h.wl, fun c hc => ?_, fun c hc => ?_, h.top⟩
  · rw [getD_setI, take_count hj c, he]
    have h1 := h.w c hc
    by_cases hcb : c = b
    · subst hcb
      rw [if_pos ⟨rfl, by rw [h.wl]; exact hb⟩, if_pos rfl]; omega
    · rw [if_neg (by simp [hcb]), if_neg (by omega)]; omega
  · rw [getD_setI]
    by_cases hcb : c = b
    · subst hcb
      rw [if_pos ⟨rfl, by rw [h.wl]; exact hb⟩, h.zero c hc]
      omega
    · rw [if_neg (by simp [hcb])]; exact h.zero c hc
theorem IInv.push {n : Nat} {E : Prs} {k : Nat} {done : List Nat} {a j : Nat} {row : List Nat} {W : List Int} (h : IInv n E k done a j row W) (hj : j < (nxt E a).length) {b : Nat} (hb : b < n) (he : (nxt E a).getD j 0 = (b : Int)) (hz : W.getD b 0 - 1 = 0) :
    IInv n E k done a (j + 1) (row ++ [b]) (W.set b (W.getD b 0 - 1)) := by
  have hp := h.pos hj hb he
  have hnb : b ∉ row := fun hm => by have := (h.zero b hb).1 hm; omega
  obtain ⟨hkl, hka⟩ := List.getElem?_eq_some_iff.1 h.at_
  refine ⟨?_, ?_, by rw [List.take_append_of_le_length (by omega)]; exact h.tk, by rw [List.getElem?_append_left hkl]; exact h.at_, by rw [List.length_set]; exact h.wl, fun c hc => ?_, fun c hc => ?_, fun i x hi p hpE hpx => ?_⟩
  · rw [List.nodup_append]
    exact ⟨h.nd, by simp, fun x hx y hy => by simp at hy; subst hy; exact fun e => hnb (e ▸ hx)⟩
  · intro x hx
    rcases List.mem_append.1 hx with hx | hx
    · exact h.lt x hx
    · simp at hx; omega
  · rw [getD_setI, take_count hj c, he]
    have h1 := h.w c hc
    by_cases hcb : c = b
    · subst hcb
      rw [if_pos ⟨rfl, by rw [h.wl]; exact hb⟩, if_pos rfl]; omega
    · rw [if_neg (by simp [hcb]), if_neg (by omega)]; omega
  · rw [getD_setI]
    by_cases hcb : c = b
    · subst hcb
      rw [if_pos ⟨rfl, by rw [h.wl]; exact hb⟩, hz]
      simp
    · rw [if_neg (by simp [hcb]), ← h.zero c hc]
      simp [hcb]
  · by_cases hir : i < row.length
    · rw [List.getElem?_append_left hir] at hi
      obtain ⟨i', y, h1, h2, h3⟩ := h.top i x hi p hpE hpx
      exact ⟨i', y, h1, by rw [List.getElem?_append_left (by omega)]; exact h2, h3⟩
    · have hil : i = row.length := by
        have := (List.getElem?_eq_some_iff.1 hi).1
        simp at this; omega
      subst hil
      simp at hi
      subst hi
      -- all that lead to b are done, or are a
      have h1 := h.w b hb
      have h3 := take_count hj b
      rw [if_pos he] at h3
      have h4 := take_count_le (nxt E a) (j + 1) b
      have hle : deg E done b ≤ E.countP fun p => p.2 == (b : Int) && p.1 == (a : Int) := by rw [← nxt_count]; omega
      cases hd : dn done p.1 with
      | true =>
        obtain ⟨y, hy, hye⟩ := dn_iff.1 hd
        rw [← h.tk] at hy
        obtain ⟨i', hi', he'⟩ := List.getElem_of_mem hy
        rw [List.length_take] at hi'
        rw [List.getElem_take] at he'
        exact ⟨i', y, by omega, by rw [List.getElem?_append_left (by omega), List.getElem?_eq_getElem (by omega), he'], hye.symm⟩
      | false =>
        have := countP_sub (P := fun p : Int × Int => p.2 == (b : Int) && !dn done p.1) (Q := fun p => p.2 == (b : Int) && p.1 == (a : Int)) (fun q hq => by
          simp only [Bool.and_eq_true, beq_iff_eq] at hq ⊢
          refine ⟨hq.1, ?_⟩
          cases hd2 : dn done q.1 with
          | false => rfl
          | true =>
            obtain ⟨y, hy, hye⟩ := dn_iff.1 hd2
            rw [hq.2] at hye
            have : y = a := by omega
            subst this
            exact absurd hy h.not_done) hle p hpE (by simp [hpx, hd])
        simp only [Bool.and_eq_true, beq_iff_eq] at this
        exact ⟨k, a, hkl, by rw [List.getElem?_append_left hkl]; exact h.at_, this.2⟩
theorem IInv.done_ {n : Nat} {E : Prs} {k : Nat} {done : List Nat} {a : Nat} {row : List Nat} {W : List Int} (h : IInv n E k done a (nxt E a).length row W) : KInv n E (k + 1) row W := by
  obtain ⟨hkl, hka⟩ := List.getElem?_eq_some_iff.1 h.at_
  refine ⟨h.nd, h.lt, by omega, h.wl, fun b hb => ?_, h.zero, h.top⟩
  have h1 := h.w b hb
  rw [List.take_length, nxt_count] at h1
  have h2 : row.take (k + 1) = done ++ [a] := by rw [List.take_add_one, h.tk, h.at_]; rfl
  rw [h2]
  have h3 := countP_part (fun p : Int × Int => p.2 == (b : Int) && !dn done p.1) (fun p => p.1 == (a : Int)) E
  have h4 : (E.countP fun p => (p.2 == (b : Int) && !dn done p.1) && p.1 == (a : Int)) = E.countP fun p => p.2 == (b : Int) && p.1 == (a : Int) := by
    apply List.countP_congr
    intro p _
    simp only [Bool.and_eq_true, beq_iff_eq, Bool.not_eq_true']
    refine ⟨fun hh => ⟨hh.1.1, hh.2⟩, fun hh => ⟨⟨hh.1, ?_⟩, hh.2⟩⟩
    cases hd : dn done p.1 with
    | false => rfl
    | true =>
      obtain ⟨y, hy, hye⟩ := dn_iff.1 hd
      rw [hh.2] at hye
      have : y = a := by omega
      subst this
      exact absurd hy h.not_done
  have h5 : (E.countP fun p => (p.2 == (b : Int) && !dn done p.1) && !(p.1 == (a : Int))) = deg E (done ++ [a]) b := by
    apply List.countP_congr
    intro p _
    have : dn (done ++ [a]) p.1 = (dn done p.1 || p.1 == (a : Int)) := by
      simp only [dn, List.any_append, List.any_cons, List.any_nil, Bool.or_false]
      congr 1
      rw [Bool.eq_iff_iff]; simp; exact ⟨fun h => h.symm, fun h => h.symm⟩
    rw [this]
    cases dn done p.1 <;> simp
  have h6 : deg E done b = E.countP fun p => p.2 == (b : Int) && !dn done p.1 := rfl
  omega
end Go.Proofs.Ytkbkmngbenohkaa
