/- The reference's walk up to all that leads to some versions; its sorting. Plain Lean; no program. -/
import Derived.Test.YtkbkmngbenohkaaVoV1
set_option linter.unusedSimpArgs false
set_option linter.unusedVariables false
namespace Go.Proofs.Ytkbkmngbenohkaa
open Go.RowKit

theorem edg_par {Ps : List (List Int)} {n p v : Nat} (hv : v < n) : ((p : Int), (v : Int)) ∈ edg Ps n 0 ↔ (p : Int) ∈ Ps.getD v [] := by
  rw [edg_mem]
  constructor
  · rintro ⟨u, _, h1, h2⟩
    have : u = v := by simp only at h1; omega
    subst this; exact h2
  · exact fun h => ⟨v, hv, rfl, h⟩
def add1 (o : List Int) (p : Int) : List Int := if p ∈ o then o else o ++ [p]
def adds (o l : List Int) : List Int := l.foldl add1 o
theorem adds_snoc (o l : List Int) (p : Int) : adds o (l ++ [p]) = add1 (adds o l) p := by simp [adds, List.foldl_append]
theorem add1_sub {o : List Int} {p x : Int} (h : x ∈ o) : x ∈ add1 o p := by
  unfold add1; split
  · exact h
  · exact List.mem_append_left _ h
theorem adds_sub {x : Int} : ∀ {l o : List Int}, x ∈ o → x ∈ adds o l
  | [], _, h => h
  | p :: l, o, h => by
    have : adds o (p :: l) = adds (add1 o p) l := rfl
    rw [this]; exact adds_sub (add1_sub h)
theorem adds_mem {x : Int} : ∀ {l o : List Int}, x ∈ adds o l ↔ x ∈ o ∨ x ∈ l
  | [], o => by simp [adds]
  | p :: l, o => by
    have e : adds o (p :: l) = adds (add1 o p) l := rfl
    rw [e, adds_mem, List.mem_cons]
    unfold add1
    by_cases hp : p ∈ o
    · rw [if_pos hp]
      constructor
      · rintro (h | h)
        · exact .inl h
        · exact .inr (.inr h)
      · rintro (h | rfl | h)
        · exact .inl h
        · exact .inl hp
        · exact .inr h
    · rw [if_neg hp, List.mem_append, List.mem_singleton]
      constructor
      · rintro ((h | h) | h)
        · exact .inl h
        · exact .inr (.inl h)
        · exact .inr (.inr h)
      · rintro (h | h | h)
        · exact .inl (.inl h)
        · exact .inl (.inr h)
        · exact .inr h
theorem adds_nodup : ∀ {l o : List Int}, o.Nodup → (adds o l).Nodup
  | [], _, h => h
  | p :: l, o, h => by
    have e : adds o (p :: l) = adds (add1 o p) l := rfl
    rw [e]
    refine adds_nodup ?_
    unfold add1
    split
    · exact h
    · rename_i hp
      rw [List.nodup_append]
      exact ⟨h, by simp, fun x hx y hy => by simp at hy; subst hy; exact fun e => hp (e ▸ hx)⟩
theorem adds_pre : ∀ (l o : List Int), ∃ t, adds o l = o ++ t
  | [], o => ⟨[], by simp [adds]⟩
  | p :: l, o => by
    have e : adds o (p :: l) = adds (add1 o p) l := rfl
    obtain ⟨t, ht⟩ := adds_pre l (add1 o p)
    rw [e, ht]
    unfold add1
    split
    · exact ⟨t, rfl⟩
    · exact ⟨[p] ++ t, by simp⟩
def abvG (Ps : List (List Int)) : Nat → Nat → List Int → List Int
  | 0, _, o => o
  | k + 1, i, o => if i < o.length then abvG Ps k (i + 1) (adds o (Ps.getD (o.getD i 0).toNat [])) else o
/-- All that lead to some versions, and those. -/
def abv (Ps : List (List Int)) (l : List Int) : List Int := abvG Ps Ps.length 0 l
structure AB (Ps : List (List Int)) (l : List Int) (i : Nat) (o : List Int) : Prop where
  hi : i ≤ o.length
  nd : o.Nodup
  rng : ∀ x ∈ o, 0 ≤ x ∧ x < (Ps.length : Int)
  sub : ∀ x ∈ l, x ∈ o
  src : ∀ x ∈ o, x ∈ l ∨ ∃ f ∈ l, Clo (edg Ps Ps.length 0) x.toNat f.toNat
  cls : ∀ k, k < i → ∀ p ∈ Ps.getD (o.getD k 0).toNat [], p ∈ o
  g : abvG Ps (Ps.length - i) i o = abv Ps l
theorem AB.start {Ps : List (List Int)} {l : List Int} (h : OkP Ps.length l) : AB Ps l 0 l :=
  ⟨Nat.zero_le _, h.1, h.2, fun _ h => h, fun _ h => .inl h, fun k hk => absurd hk (Nat.not_lt_zero _), rfl⟩
theorem AB.len {Ps : List (List Int)} {l : List Int} {i : Nat} {o : List Int} (h : AB Ps l i o) : o.length ≤ Ps.length := ints_len h.nd h.rng
theorem AB.step {Ps : List (List Int)} {l : List Int} {i : Nat} {o : List Int} (hV : Valid Ps) (h : AB Ps l i o) (hi : i < o.length) : AB Ps l (i + 1) (adds o (Ps.getD (o.getD i 0).toNat [])) := by
  have hr := h.rng _ (getD_memI hi)
  have hrn : (o.getD i 0).toNat < Ps.length := by omega
  have hok := hV _ hrn
  obtain ⟨t, ht⟩ := adds_pre (Ps.getD (o.getD i 0).toNat []) o
  have hget : ∀ k, k < o.length → (adds o (Ps.getD (o.getD i 0).toNat [])).getD k 0 = o.getD k 0 := by
    intro k hk
    rw [ht, List.getD_eq_getElem?_getD, List.getD_eq_getElem?_getD, List.getElem?_append_left hk]
  have hlen := h.len
  refine ⟨by rw [ht, List.length_append]; omega, adds_nodup h.nd, fun x hx => ?_, fun x hx => adds_sub (h.sub x hx), fun x hx => ?_, fun k hk p hp => ?_, ?_⟩
  · rcases adds_mem.1 hx with hx | hx
    · exact h.rng x hx
    · exact hok.2 x hx
  · rcases adds_mem.1 hx with hx | hx
    · exact h.src x hx
    · have hb := hok.2 x hx
      have he : ((x.toNat : Int), (((o.getD i 0).toNat : Nat) : Int)) ∈ edg Ps Ps.length 0 := (edg_par hrn).2 (by rw [Int.toNat_of_nonneg hb.1]; exact hx)
      rcases h.src _ (getD_memI hi) with h1 | ⟨f, h1, h2⟩
      · exact .inr ⟨_, h1, .one he⟩
      · exact .inr ⟨f, h1, .more he h2⟩
  · rw [hget k (by omega)] at hp
    by_cases hki : k = i
    · subst hki; exact adds_mem.2 (.inr hp)
    · exact adds_sub (h.cls k (by omega) p hp)
  · rw [← h.g]
    have e : Ps.length - i = (Ps.length - (i + 1)) + 1 := by omega
    rw [e, abvG, if_pos hi]
theorem AB.fin {Ps : List (List Int)} {l o : List Int} (h : AB Ps l o.length o) : o = abv Ps l := by
  rw [← h.g]
  cases Ps.length - o.length with
  | zero => rw [abvG]
  | succ k => rw [abvG, if_neg (Nat.lt_irrefl _)]
theorem AB.reach {Ps : List (List Int)} (hV : Valid Ps) {l : List Int} (hl : OkP Ps.length l) : ∃ o, AB Ps l o.length o := by
  have h : ∀ (k i : Nat) (o : List Int), AB Ps l i o → Ps.length - i ≤ k → ∃ o, AB Ps l o.length o := by
    intro k
    induction k with
    | zero =>
      intro i o h hk
      have h1 := h.len
      have h2 := h.hi
      have : i = o.length := by omega
      subst this; exact ⟨o, h⟩
    | succ k ih =>
      intro i o h hk
      by_cases hi : i < o.length
      · exact ih _ _ (h.step hV hi) (by omega)
      · have h2 := h.hi
        have : i = o.length := by omega
        subst this; exact ⟨o, h⟩
  exact h _ 0 l (AB.start hl) (Nat.le_refl _)
theorem abv_ok {Ps : List (List Int)} (hV : Valid Ps) {l : List Int} (hl : OkP Ps.length l) : OkP Ps.length (abv Ps l) ∧ ∀ x : Nat, (x : Int) ∈ abv Ps l ↔ (x : Int) ∈ l ∨ ∃ f : Nat, (f : Int) ∈ l ∧ Clo (edg Ps Ps.length 0) x f := by
  obtain ⟨o, h⟩ := AB.reach hV hl
  rw [← h.fin]
  refine ⟨⟨h.nd, h.rng⟩, fun x => ⟨fun hx => ?_, fun hx => ?_⟩⟩
  · rcases h.src _ hx with h1 | ⟨f, h1, h2⟩
    · exact .inl h1
    · have := hl.2 f h1
      exact .inr ⟨f.toNat, by rw [Int.toNat_of_nonneg this.1]; exact h1, by simpa using h2⟩
  · rcases hx with hx | ⟨f, h1, h2⟩
    · exact h.sub _ hx
    · have hf := h.sub _ h1
      have hcl : ∀ a b : Nat, ((a : Int), (b : Int)) ∈ edg Ps Ps.length 0 → (b : Int) ∈ o → (a : Int) ∈ o := by
        intro a b he hb
        obtain ⟨k, hk, hke⟩ := List.getElem_of_mem hb
        have hbn := (h.rng _ hb).2
        have h3 := (edg_par (by omega)).1 he
        refine h.cls k hk _ ?_
        have hg : o.getD k 0 = (b : Int) := by rw [List.getD_eq_getElem?_getD, List.getElem?_eq_getElem hk, Option.getD_some, hke]
        rw [hg, Int.toNat_natCast]
        exact h3
      clear h1
      induction h2 with
      | one he => exact hcl _ _ he hf
      | more he _ ih => exact hcl _ _ he (ih hf)
/-- The reference's sorting: each number ahead of the first that is not less. -/
def insS (l : List Int) (x : Int) : List Int := l.takeWhile (fun y => decide (y < x)) ++ x :: l.dropWhile (fun y => decide (y < x))
def ssrt (l : List Int) : List Int := l.foldl insS []
theorem insS_perm (l : List Int) (x : Int) : (insS l x).Perm (l ++ [x]) := by
  unfold insS
  refine List.perm_middle.trans ?_
  rw [List.takeWhile_append_dropWhile]
  exact (List.perm_append_singleton x l).symm
theorem insS_sorted {l : List Int} {x : Int} (h : l.Pairwise fun a b => a ≤ b) : (insS l x).Pairwise fun a b => a ≤ b := by
  induction l with
  | nil => simp [insS]
  | cons y l ih =>
    rw [List.pairwise_cons] at h
    by_cases hy : y < x
    · have e : insS (y :: l) x = y :: insS l x := by simp [insS, hy]
      rw [e, List.pairwise_cons]
      refine ⟨fun z hz => ?_, ih h.2⟩
      rcases List.mem_append.1 ((insS_perm l x).mem_iff.1 hz) with hz | hz
      · exact h.1 z hz
      · simp at hz; omega
    · have e : insS (y :: l) x = x :: y :: l := by simp [insS, hy]
      rw [e, List.pairwise_cons, List.pairwise_cons]
      refine ⟨fun z hz => ?_, h⟩
      rcases List.mem_cons.1 hz with rfl | hz
      · omega
      · have := h.1 z hz; omega
theorem ssrt_srt (l : List Int) : ssrt l = srt l := by
  have h : ∀ (l o : List Int), (o.Pairwise fun a b => a ≤ b) → (l.foldl insS o).Perm (o ++ l) ∧ (l.foldl insS o).Pairwise fun a b => a ≤ b := by
    intro l
    induction l with
    | nil => intro o h; exact ⟨by simp, h⟩
    | cons x l ih =>
      intro o h
      obtain ⟨h1, h2⟩ := ih (insS o x) (insS_sorted h)
      refine ⟨h1.trans ?_, h2⟩
      refine ((insS_perm o x).append_right l).trans ?_
      simp
  obtain ⟨h1, h2⟩ := h l [] List.Pairwise.nil
  rw [List.nil_append] at h1
  exact srt_of h1 h2
/-- A set in increasing order. -/
theorem srt_set {n : Nat} {l : List Int} (hl : OkP n l) (f : Nat → Bool) (h : ∀ x : Nat, x < n → ((x : Int) ∈ l ↔ f x = true)) : srt l = ((List.range n).filter f).map fun (x : Nat) => (x : Int) := by
  symm
  have hnd : (((List.range n).filter f).map fun (x : Nat) => (x : Int)).Nodup := by
    rw [List.nodup_iff_pairwise_ne, List.pairwise_map]
    refine List.Pairwise.imp ?_ ((List.nodup_iff_pairwise_ne.1 List.nodup_range).filter _)
    intro x y hne he
    omega
  refine srt_of ((List.perm_ext_iff_of_nodup hnd hl.1).2 fun x => ?_) ?_
  · rw [List.mem_map]
    constructor
    · rintro ⟨k, hk, rfl⟩
      rw [List.mem_filter, List.mem_range] at hk
      exact (h k hk.1).2 hk.2
    · intro hx
      have hb := hl.2 x hx
      obtain ⟨k, rfl⟩ := Int.eq_ofNat_of_zero_le hb.1
      exact ⟨k, List.mem_filter.2 ⟨List.mem_range.2 (by omega), (h k (by omega)).1 hx⟩, rfl⟩
  · rw [List.pairwise_map]
    have : (List.range n).Pairwise fun a b => a < b := List.pairwise_lt_range
    exact (this.filter _).imp fun h => by omega
/-- The reference's ancestors of a version: a word's elements. -/
theorem anc_els {Ps : List (List Int)} (hV : Valid Ps) (h64 : Ps.length ≤ 64) {v : Nat} (hv : v < Ps.length) : ssrt (abv Ps [(v : Int)]) = (els (aw1 Ps.length (edg Ps Ps.length 0) v)).map fun (x : Nat) => (x : Int) := by
  have hl : OkP Ps.length [(v : Int)] := ⟨by simp, fun p hp => by simp at hp; omega⟩
  obtain ⟨h1, h2⟩ := abv_ok hV hl
  have h3 : els (aw1 Ps.length (edg Ps Ps.length 0) v) = (List.range Ps.length).filter fun u => decide (u = v) || cl (edg Ps Ps.length 0) u v := by
    unfold els aw1
    obtain ⟨d, hd⟩ : ∃ d, 64 = Ps.length + d := ⟨64 - Ps.length, by omega⟩
    rw [hd, List.range_add, List.filter_append]
    have e1 : List.filter (fun b => (cw Ps.length fun u => decide (u = v) || cl (edg Ps Ps.length 0) u v).testBit b) (List.range Ps.length) = (List.range Ps.length).filter fun u => decide (u = v) || cl (edg Ps Ps.length 0) u v := by
      refine List.filter_congr fun b hb => ?_
      rw [cw_bit, decide_eq_true (List.mem_range.1 hb), Bool.true_and]
    have e2 : List.filter (fun b => (cw Ps.length fun u => decide (u = v) || cl (edg Ps Ps.length 0) u v).testBit b) ((List.range d).map (Ps.length + ·)) = [] := by
      rw [List.filter_eq_nil_iff]
      intro b hb
      obtain ⟨k, _, rfl⟩ := List.mem_map.1 hb
      rw [cw_bit, decide_eq_false (by omega), Bool.false_and]
      simp
    rw [e1, e2, List.append_nil]
  rw [ssrt_srt, srt_set h1 (fun u => decide (u = v) || cl (edg Ps Ps.length 0) u v) fun x hx => ?_, h3]
  rw [h2]
  simp only [List.mem_singleton, Bool.or_eq_true, decide_eq_true_eq, cl_iff]
  constructor
  · rintro (h | ⟨f, h, hc⟩)
    · exact .inl (by omega)
    · have : f = v := by omega
      subst this; exact .inr hc
  · rintro (h | h)
    · exact .inl (by omega)
    · exact .inr ⟨v, rfl, h⟩
end Go.Proofs.Ytkbkmngbenohkaa
