/- graph.Topo: the least of those that nothing outside leads to, again and again. Plain Lean; no program. -/
import Derived.Test.YtkbkmngbenohkaaVoH1
set_option linter.unusedSimpArgs false
set_option linter.unusedVariables false
namespace Go.Proofs.Ytkbkmngbenohkaa
open Go.RowKit

/-- How many of the elements outside of out lead to b. -/
def ind (n : Nat) (S : List (List Int)) (out : List Nat) (b : Nat) : Nat := (List.range n).countP fun a => !out.contains a && (S.getD a []).contains (b : Int)
theorem ind_pop {n : Nat} {S : List (List Int)} {out : List Nat} {a : Nat} (ha : a < n) (hn : a ∉ out) (b : Nat) : ind n S out b = ind n S (out ++ [a]) b + if (b : Int) ∈ S.getD a [] then 1 else 0 := by
  unfold ind
  have e : ∀ l : List Nat, l.Nodup → l.countP (fun x => !out.contains x && (S.getD x []).contains (b : Int)) = l.countP (fun x => !(out ++ [a]).contains x && (S.getD x []).contains (b : Int)) + if a ∈ l ∧ (b : Int) ∈ S.getD a [] then 1 else 0 := by
    intro l hl
    induction l with
    | nil => simp
    | cons x l ih =>
      rw [List.nodup_cons] at hl
      rw [List.countP_cons, List.countP_cons, ih hl.2]
      by_cases hx : x = a
      · subst hx
        have h1 : ¬ (x ∈ l ∧ (b : Int) ∈ S.getD x []) := fun h => hl.1 h.1
        rw [if_neg h1]
        by_cases hb : (b : Int) ∈ S.getD x []
        · simp [hb, hn]
        · have hb' : (S.getD x []).contains (b : Int) = false := by simpa using hb
          simp only [hb', hb, Bool.and_false, and_false, Bool.false_eq_true, if_false]
      · have h1 : (a ∈ x :: l ∧ (b : Int) ∈ S.getD a []) ↔ (a ∈ l ∧ (b : Int) ∈ S.getD a []) := by simp [Ne.symm hx]
        have h2 : (out ++ [a]).contains x = out.contains x := by simp [hx]
        rw [h2]
        simp only [h1]
        omega
  rw [e _ List.nodup_range]
  simp [ha]
/-- The counts while those that a leads to are gone through: r is what is left of them. -/
structure TI (n : Nat) (S : List (List Int)) (out : List Nat) (H W r : List Int) : Prop where
  nd : out.Nodup
  lt : ∀ x ∈ out, x < n
  wl : W.length = n
  w : ∀ b, b < n → W.getD b 0 = ((ind n S out b + r.count (b : Int) : Nat) : Int)
  zo : ∀ x ∈ out, W.getD x 0 = 0
  h : ∀ b : Nat, b < n → ((b : Int) ∈ H ↔ b ∉ out ∧ W.getD b 0 = 0)
  hn : H.Nodup
  hb : ∀ x ∈ H, 0 ≤ x ∧ x < (n : Int)
  hp : HP H.length H
  rb : ∀ x ∈ r, 0 ≤ x ∧ x < (n : Int)
theorem TI.hlen {n : Nat} {S : List (List Int)} {out : List Nat} {H W r : List Int} (t : TI n S out H W r) : H.length ≤ n := by
  have h1 : (H.map Int.toNat).Nodup := by
    rw [List.nodup_iff_pairwise_ne, List.pairwise_map]
    refine List.Pairwise.imp_of_mem ?_ (List.nodup_iff_pairwise_ne.1 t.hn)
    intro x y hx hy hne he
    have := t.hb x hx
    have := t.hb y hy
    omega
  have h2 : ∀ x ∈ H.map Int.toNat, x < n := by
    intro x hx
    obtain ⟨y, hy, rfl⟩ := List.mem_map.1 hx
    have := t.hb y hy
    omega
  have h3 : ∀ (m : Nat) (l : List Nat), l.Nodup → (∀ x ∈ l, x < m) → l.length ≤ m := by
    intro m
    induction m with
    | zero => intro l _ h; cases l with
      | nil => simp
      | cons x l => exact absurd (h x List.mem_cons_self) (Nat.not_lt_zero _)
    | succ m ih =>
      intro l hn h
      have := ih (l.erase m) (hn.erase m) fun x hx => by
        have h1 := h x (List.mem_of_mem_erase hx)
        have h2 : x ≠ m := fun e => by subst e; exact (List.Nodup.not_mem_erase hn) hx
        omega
      have h3 := List.length_erase (a := m) (l := l)
      split at h3 <;> omega
  have := h3 n _ h1 h2
  simpa using this
theorem TI.pos {n : Nat} {S : List (List Int)} {out : List Nat} {H W r : List Int} {b : Nat} (t : TI n S out H W ((b : Int) :: r)) : b < n ∧ 1 ≤ W.getD b 0 ∧ b ∉ out := by
  have hb := t.rb b List.mem_cons_self
  have hbn : b < n := by omega
  have h1 := t.w b hbn
  rw [List.count_cons_self] at h1
  exact ⟨hbn, by omega, fun hm => by have := t.zo b hm; omega⟩
theorem TI.wset {n : Nat} {S : List (List Int)} {out : List Nat} {H W r : List Int} {b : Nat} (t : TI n S out H W ((b : Int) :: r)) (c : Nat) (hc : c < n) : (W.set b (W.getD b 0 - 1)).getD c 0 = ((ind n S out c + r.count (c : Int) : Nat) : Int) := by
  have h1 := t.w c hc
  have hp := t.pos
  rw [setD, t.wl]
  by_cases hcb : c = b
  · subst hcb
    rw [if_pos ⟨rfl, hc⟩]
    rw [List.count_cons_self] at h1
    omega
  · rw [if_neg (by simp [hcb]), h1, List.count_cons_of_ne (by omega)]
theorem TI.more {n : Nat} {S : List (List Int)} {out : List Nat} {H W r : List Int} {b : Nat} (t : TI n S out H W ((b : Int) :: r)) (hz : W.getD b 0 - 1 ≠ 0) : TI n S out H (W.set b (W.getD b 0 - 1)) r := by
  obtain ⟨hbn, hp, hbo⟩ := t.pos
  refine ⟨t.nd, t.lt, by rw [List.length_set]; exact t.wl, t.wset, fun x hx => ?_, fun c hc => ?_, t.hn, t.hb, t.hp, fun x hx => t.rb x (List.mem_cons_of_mem _ hx)⟩
  · rw [setD, if_neg (fun h : x = b ∧ _ => hbo (h.1 ▸ hx))]; exact t.zo x hx
  · rw [t.h c hc, setD, t.wl]
    by_cases hcb : c = b
    · subst hcb; rw [if_pos ⟨rfl, hc⟩]
      constructor
      · intro h; omega
      · intro h; omega
    · rw [if_neg (by simp [hcb])]
theorem TI.push {n : Nat} {S : List (List Int)} {out : List Nat} {H W r : List Int} {b : Nat} (t : TI n S out H W ((b : Int) :: r)) (hz : W.getD b 0 - 1 = 0) : TI n S out (hpush H b) (W.set b (W.getD b 0 - 1)) r := by
  obtain ⟨hbn, hp, hbo⟩ := t.pos
  obtain ⟨k1, k2⟩ := hpush_ok (v := (b : Int)) t.hp
  have hbH : (b : Int) ∉ H := fun h => by have := (t.h b hbn).1 h; omega
  refine ⟨t.nd, t.lt, by rw [List.length_set]; exact t.wl, t.wset, fun x hx => ?_, fun c hc => ?_, ?_, ?_, by rw [hpush_len t.hp]; exact k1, fun x hx => t.rb x (List.mem_cons_of_mem _ hx)⟩
  · rw [setD, if_neg (fun h : x = b ∧ _ => hbo (h.1 ▸ hx))]; exact t.zo x hx
  · rw [k2.mem_iff, List.mem_append, t.h c hc, setD, t.wl, List.mem_singleton]
    by_cases hcb : c = b
    · subst hcb; rw [if_pos ⟨rfl, hc⟩]
      exact ⟨fun _ => ⟨hbo, hz⟩, fun _ => .inr rfl⟩
    · rw [if_neg (by simp [hcb])]
      constructor
      · rintro (h | h)
        · exact h
        · omega
      · exact fun h => .inl h
  · refine k2.nodup_iff.2 ?_
    rw [List.nodup_append]
    exact ⟨t.hn, by simp, fun x hx y hy => by simp at hy; subst hy; exact fun e => hbH (e ▸ hx)⟩
  · intro x hx
    rw [k2.mem_iff, List.mem_append, List.mem_singleton] at hx
    rcases hx with hx | rfl
    · exact t.hb x hx
    · omega
/-- The heap's least is taken out. -/
theorem TI.pop {n : Nat} {S : List (List Int)} {out : List Nat} {H W : List Int} (t : TI n S out H W []) (h0 : 0 < H.length) {a : Nat} (ha : H.getD 0 0 = (a : Int)) (hSn : (S.getD a []).Nodup) (hSb : ∀ x ∈ S.getD a [], 0 ≤ x ∧ x < (n : Int)) :
    a < n ∧ TI n S (out ++ [a]) (hpop H) W (S.getD a []) := by
  obtain ⟨p1, p2, p3, p4⟩ := hpop_ok t.hp h0
  have haH : (a : Int) ∈ H := by rw [p3.mem_iff, ← ha]; exact List.mem_cons_self
  have han : a < n := by have := t.hb _ haH; omega
  obtain ⟨hao, haw⟩ := (t.h a han).1 haH
  have hnd := p3.nodup_iff.1 t.hn
  rw [List.nodup_cons, ha] at hnd
  refine ⟨han, ?_, ?_, t.wl, ?_, ?_, ?_, hnd.2, ?_, by rw [p2]; exact p1, hSb⟩
  · rw [List.nodup_append]
    exact ⟨t.nd, by simp, fun x hx y hy => by simp at hy; subst hy; exact fun e => hao (e ▸ hx)⟩
  · intro x hx
    rcases List.mem_append.1 hx with hx | hx
    · exact t.lt x hx
    · simp at hx; omega
  · intro b hb
    rw [t.w b hb, ind_pop han hao b, List.count_nil]
    congr 1
    by_cases hm : (b : Int) ∈ S.getD a []
    · have := List.nodup_iff_count.1 hSn (b : Int)
      have := List.count_pos_iff.2 hm
      rw [if_pos hm]; omega
    · rw [if_neg hm, List.count_eq_zero.2 hm]
  · intro x hx
    rcases List.mem_append.1 hx with hx | hx
    · exact t.zo x hx
    · simp at hx; subst hx; exact haw
  · intro b hb
    have h1 := t.h b hb
    rw [p3.mem_iff, List.mem_cons, ha] at h1
    constructor
    · intro h
      obtain ⟨h2, h3⟩ := h1.1 (.inr h)
      refine ⟨fun hm => ?_, h3⟩
      rcases List.mem_append.1 hm with hm | hm
      · exact h2 hm
      · simp at hm; subst hm; exact hnd.1 h
    · rintro ⟨h2, h3⟩
      rcases h1.2 ⟨fun hm => h2 (List.mem_append_left _ hm), h3⟩ with h4 | h4
      · exact absurd (by have : b = a := by omega
                         subst this; simp) h2
      · exact h4
  · intro x hx
    exact t.hb x (p3.mem_iff.2 (List.mem_cons_of_mem _ hx))
/-- The least element outside of out that nothing outside of out leads to. -/
def nextV (n : Nat) (S : List (List Int)) (out : List Nat) : Option Nat := (List.range n).find? fun v => !out.contains v && ind n S out v == 0
def kahn (n : Nat) (S : List (List Int)) : Nat → List Nat → List Nat
  | 0, out => out
  | k + 1, out => match nextV n S out with
    | none => out
    | some v => kahn n S k (out ++ [v])
theorem TI.next {n : Nat} {S : List (List Int)} {out : List Nat} {H W : List Int} (t : TI n S out H W []) (h0 : 0 < H.length) {a : Nat} (ha : H.getD 0 0 = (a : Int)) : nextV n S out = some a := by
  have hmin : ∀ x ∈ H, (a : Int) ≤ x := by
    intro x hx
    obtain ⟨k, hk, rfl⟩ := List.getElem_of_mem hx
    have := t.hp.min k hk
    rw [ha, getD_at _ _ _ hk] at this
    exact this
  have haH : (a : Int) ∈ H := by rw [← ha, getD_at _ _ _ h0]; exact List.getElem_mem h0
  have han : a < n := by have := t.hb _ haH; omega
  have hin : ∀ b, b < n → ((b : Int) ∈ H ↔ (!out.contains b && ind n S out b == 0) = true) := by
    intro b hb
    rw [t.h b hb, t.w b hb, List.count_nil]
    simp
  unfold nextV
  rw [List.find?_range_eq_some]
  refine ⟨(hin a han).1 haH, by simpa using han, fun j hj => ?_⟩
  cases hc : (!out.contains j && ind n S out j == 0) with
  | false => rfl
  | true =>
    have := hmin _ ((hin j (by omega)).2 hc)
    omega
theorem TI.last {n : Nat} {S : List (List Int)} {out : List Nat} {W : List Int} (t : TI n S out [] W []) : nextV n S out = none := by
  unfold nextV
  rw [List.find?_eq_none]
  intro b hb
  have hb' : b < n := by simpa using hb
  have := t.h b hb'
  rw [t.w b hb', List.count_nil] at this
  simpa using this
end Go.Proofs.Ytkbkmngbenohkaa
