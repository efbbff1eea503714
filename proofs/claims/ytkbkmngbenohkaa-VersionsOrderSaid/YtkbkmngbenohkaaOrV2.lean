/- The reference's walk up to all that leads to some versions; its sorting. Plain Lean; no program. -/
import Derived.Test.YtkbkmngbenohkaaOrV1
set_option linter.unusedSimpArgs false
set_option linter.unusedVariables false
namespace Go.Proofs.Ytkbkmngbenohkaa
open Go.RowKit

theorem edg_par {Ps : List (List Int)} {n p v : Nat} (hv : v < n) : ((p : Int), (v : Int)) ∈ edg Ps n 0 ↔ (p : Int) ∈ Ps.getD v [] := by
  rw [edg_mem]
  constructor
  · rintro ⟨u, _, h1, h2⟩
    have : u = v := by simp only at h1; omega
    subst this; exact h2
  · exact fun h => ⟨v, hv, rfl, h⟩
def add1 (o : List Int) (p : Int) : List Int := if p ∈ o then o else o ++ [p]
def adds (o l : List Int) : List Int := l.foldl add1 o
theorem add1_sub {o : List Int} {p x : Int} (h : x ∈ o) : x ∈ add1 o p := by
  unfold add1; split
  · exact h
  · exact List.mem_append_left _ h
theorem adds_sub {x : Int} : ∀ {l o : List Int}, x ∈ o → x ∈ adds o l
  | [], _, h => h
  | p :: l, o, h => by
    have : adds o (p :: l) = adds (add1 o p) l := rfl
    rw [this]; exact adds_sub (add1_sub h)
theorem adds_mem {x : Int} : ∀ {l o : List Int}, x ∈ adds o l ↔ x ∈ o ∨ x ∈ l
  | [], o => by simp [adds]
  | p :: l, o => by
    have e : adds o (p :: l) = adds (add1 o p) l := rfl
    rw [e, adds_mem, List.mem_cons]
    unfold add1
    by_cases hp : p ∈ o
    · rw [if_pos hp]
      constructor
      · rintro (h | h)
        · exact .inl h
        · exact .inr (.inr h)
      · rintro (h | rfl | h)
        · exact .inl h
        · exact .inl hp
        · exact .inr h
    · rw [if_neg hp, List.mem_append, List.mem_singleton]
      constructor
      · rintro ((h | h) | h)
        · exact .inl h
        · exact .inr (.inl h)
        · exact .inr (.inr h)
      · rintro (h | h | h)
        · exact .inl (.inl h)
        · exact .inl (.inr h)
        · exact .inr h
theorem adds_nodup : ∀ {l o : List Int}, o.Nodup → (adds o l).Nodup
  | [], _, h => h
  | p :: l, o, h => by
    have e : adds o (p :: l) = adds (add1 o p) l := rfl
    rw [e]
    refine adds_nodup ?_
    unfold add1
    split
    · exact h
    · rename_i hp
      rw [List.nodup_append]
      exact ⟨h, by simp, fun x hx y hy => by simp at hy; subst hy; exact fun e => hp (e ▸ hx)⟩
theorem adds_pre : ∀ (l o : List Int), ∃ t, adds o l = o ++ t
  | [], o => ⟨[], by simp [adds]⟩
  | p :: l, o => by
    have e : adds o (p :: l) = adds (add1 o p) l := rfl
    obtain ⟨t, ht⟩ := adds_pre l (add1 o p)
    rw [e, ht]
    unfold add1
    split
    · exact ⟨t, rfl⟩
    · exact ⟨[p] ++ t, by simp⟩
def abvG (Ps : List (List Int)) : Nat → Nat → List Int → List Int
  | 0, _, o => o
  | k + 1, i, o => if i < o.length then abvG Ps k (i + 1) (adds o (Ps.getD (o.getD i 0).toNat [])) else o
/-- All that lead to some versions, and those. -/
def abv (Ps : List (List Int)) (l : List Int) : List Int := abvG Ps Ps.length 0 l
structure AB (Ps : List (List Int)) (l : List Int) (i : Nat) (o : List Int) : Prop where
  hi : i ≤ o.length
  nd : o.Nodup
  rng : ∀ x ∈ o, 0 ≤ x ∧ x < (Ps.length : Int)
  sub : ∀ x ∈ l, x ∈ o
  src : ∀ x ∈ o, x ∈ l ∨ ∃ f ∈ l, Clo (edg Ps Ps.length 0) x.toNat f.toNat
  cls : ∀ k, k < i → ∀ p ∈ Ps.getD (o.getD k 0).toNat [], p ∈ o
  g : abvG Ps (Ps.length - i) i o = abv Ps l
theorem AB.start {Ps : List (List Int)} {l : List Int} (h : OkP Ps.length l) : AB Ps l 0 l :=
  ⟨Nat.zero_le _, h.1, h.2, fun _ h => h, fun _ h => .inl h, fun k hk => absurd hk (Nat.not_lt_zero _), rfl⟩
theorem AB.len {Ps : List (List Int)} {l : List Int} {i : Nat} {o : List Int} (h : AB Ps l i o) : o.length ≤ Ps.length := ints_len h.nd h.rng
theorem AB.step {Ps : List (List Int)} {l : List Int} {i : Nat} {o : List Int} (hV : Valid Ps) (h : AB Ps l i o) (hi : i < o.length) : AB Ps l (i + 1) (adds o (Ps.getD (o.getD i 0).toNat [])) := by
  have hr := h.rng _ (getD_memI hi)
  have hrn : (o.getD i 0).toNat < Ps.length := by omega
  have hok := hV _ hrn
  obtain ⟨t, ht⟩ := adds_pre (Ps.getD (o.getD i 0).toNat []) o
  have hget : ∀ k, k < o.length → (adds o (Ps.getD (o.getD i 0).toNat [])).getD k 0 = o.getD k 0 := by
    intro k hk
    rw [ht, List.getD_eq_getElem?_getD, List.getD_eq_getElem?_getD, List.getElem?_append_left hk]
  have hlen := h.len
  refine ⟨by rw [ht, List.length_append]; omega, adds_nodup h.nd, fun x hx => ?_, fun x hx => adds_sub (h.sub x hx), fun x hx => ?_, fun k hk p hp => ?_, ?_⟩
  · rcases adds_mem.1 hx with hx | hx
    · exact h.rng x hx
    · exact hok.2 x hx
  · rcases adds_mem.1 hx with hx | hx
    · exact h.src x hx
    · have hb := hok.2 x hx
      have he : ((x.toNat : Int), (((o.getD i 0).toNat : Nat) : Int)) ∈ edg Ps Ps.length 0 := (edg_par hrn).2 (by rw [Int.toNat_of_nonneg hb.1]; exact hx)
      rcases h.src _ (getD_memI hi) with h1 | ⟨f, h1, h2⟩
      · exact .inr ⟨_, h1, .one he⟩
      · exact .inr ⟨f, h1, .more he h2⟩
  · rw [hget k (by omega)] at hp
    by_cases hki : k = i
    · subst hki; exact adds_mem.2 (.inr hp)
    · exact adds_sub (h.cls k (by omega) p hp)
  · rw [← h.g]
    have e : Ps.length - i = (Ps.length - (i + 1)) + 1 := by omega
    rw [e, abvG, if_pos hi]
theorem AB.fin {Ps : List (List Int)} {l o : List Int} (h : AB Ps l o.length o) : o = abv Ps l := by
  rw [← h.g]
  cases Ps.length - o.length with
  | zero => rw [abvG]
  | succ k => rw [abvG, if_neg (Nat.lt_irrefl _)]
end Go.Proofs.Ytkbkmngbenohkaa
