/- The reference's blames are the words'. Plain Lean; no program. -/
import Derived.Test.YtkbkmngbenohkaaVoW7
set_option linter.unusedSimpArgs false
set_option linter.unusedVariables false
namespace Go.Proofs.Ytkbkmngbenohkaa
open Go.RowKit

/-- Statuses from numbers. -/
def stv (l : List Int) (v : Nat) : Int := [0, 0, 2, 1, 0, 2].getD (pk l v 6).toNat 0
def st0 (n : Nat) (l : List Int) : List Int := (List.range n).map (stv l)
@[simp] theorem st0_len (n : Nat) (l : List Int) : (st0 n l).length = n := by simp [st0]
theorem st0_succ (n : Nat) (l : List Int) : st0 (n + 1) l = st0 n l ++ [stv l n] := by simp [st0, List.range_succ]
theorem pk_bd (l : List Int) (i : Nat) (n : Int) (hn : 1 ≤ n) : 0 ≤ pk l i n ∧ pk l i n < n := by
  unfold pk; split
  · exact ⟨around_lo _ _ hn, around_hi _ _ hn⟩
  · omega
def inh1 (o : List Int) (v : Nat) (a : List Nat) : List Int := a.foldl (fun o u => if o.getD u 0 = 1 ∧ o.getD v 0 = 0 then o.set v 1 else o) o
theorem inh1_snoc (o : List Int) (v : Nat) (a : List Nat) (u : Nat) : inh1 o v (a ++ [u]) = if (inh1 o v a).getD u 0 = 1 ∧ (inh1 o v a).getD v 0 = 0 then (inh1 o v a).set v 1 else inh1 o v a := by simp [inh1, List.foldl_append]
@[simp] theorem inh1_len (v : Nat) : ∀ (a : List Nat) (o : List Int), (inh1 o v a).length = o.length
  | [], _ => rfl
  | u :: a, o => by
    have e : inh1 o v (u :: a) = inh1 (if o.getD u 0 = 1 ∧ o.getD v 0 = 0 then o.set v 1 else o) v a := rfl
    rw [e, inh1_len v a]
    split <;> simp
/-- The versions above one, in increasing order. -/
noncomputable def upE (Ps : List (List Int)) (v : Nat) : List Nat := wat Ps.length (ancW Ps.length (edg Ps Ps.length 0)) (v : Int)
noncomputable def stK (Ps : List (List Int)) (l : List Int) (b : Bool) (k : Nat) : List Int := if b = true then (List.range k).foldl (fun o v => inh1 o v (upE Ps v)) (st0 Ps.length l) else st0 Ps.length l
theorem stK_zero (Ps : List (List Int)) (l : List Int) (b : Bool) : stK Ps l b 0 = st0 Ps.length l := by unfold stK; split <;> rfl
theorem stK_succ (Ps : List (List Int)) (l : List Int) (k : Nat) : stK Ps l true (k + 1) = inh1 (stK Ps l true k) k (upE Ps k) := by simp [stK, List.range_succ, List.foldl_append]
theorem stK_false (Ps : List (List Int)) (l : List Int) (k j : Nat) : stK Ps l false k = stK Ps l false j := rfl
@[simp] theorem stK_len (Ps : List (List Int)) (l : List Int) (b : Bool) : ∀ k, (stK Ps l b k).length = Ps.length
  | 0 => by rw [stK_zero]; simp
  | k + 1 => by
    cases b with
    | false => rw [stK_false Ps l (k + 1) k]; exact stK_len Ps l false k
    | true => rw [stK_succ, inh1_len]; exact stK_len Ps l true k
noncomputable def status32 (Ps : List (List Int)) (l : List Int) (b : Bool) : List Int := stK Ps l b Ps.length
@[simp] theorem status32_len (Ps : List (List Int)) (l : List Int) (b : Bool) : (status32 Ps l b).length = Ps.length := stK_len _ _ _ _
theorem upE_mem {Ps : List (List Int)} (h64 : Ps.length ≤ 64) {v u : Nat} (hv : v < Ps.length) : u ∈ upE Ps v ↔ u < Ps.length ∧ (u = v ∨ Clo (edg Ps Ps.length 0) u v) := by
  unfold upE wat
  rw [if_pos (by omega), Int.toNat_natCast, ancW_get hv, els_mem, aw1, cw_bit]
  simp only [Bool.and_eq_true, Bool.or_eq_true, decide_eq_true_eq, cl_iff]
  constructor
  · exact fun h => h.2
  · exact fun h => ⟨by omega, h⟩
/-- The reference's test of a minimal version. -/
def rmin (Ps : List (List Int)) (st : List Int) (v : Nat) : Prop := st.getD v 0 = 1 ∧ ∀ u ∈ upE Ps v, u ≠ v → st.getD u 0 ≠ 1
theorem rmin_iff {Ps : List (List Int)} (h64 : Ps.length ≤ 64) {st : List Int} (hst : st.length = Ps.length) {v : Nat} (hv : v < Ps.length) : rmin Ps st v ↔ (aw1 Ps.length (edg Ps Ps.length 0) v &&& whr st 1) = 2 ^ v := by
  have hb : ∀ c, (aw1 Ps.length (edg Ps Ps.length 0) v &&& whr st 1).testBit c = true ↔ c ∈ upE Ps v ∧ st.getD c 0 = 1 := by
    intro c
    rw [Nat.testBit_and, aw1, cw_bit, whr_bit, upE_mem h64 hv, hst]
    simp only [Bool.and_eq_true, Bool.or_eq_true, decide_eq_true_eq, cl_iff]
    constructor
    · exact fun h => ⟨h.1, h.2.2⟩
    · exact fun h => ⟨h.1, h.1.1, h.2⟩
  have hvu : v ∈ upE Ps v := (upE_mem h64 hv).2 ⟨hv, .inl rfl⟩
  constructor
  · rintro ⟨h1, h2⟩
    apply Nat.eq_of_testBit_eq
    intro c
    rw [Nat.testBit_two_pow, Bool.eq_iff_iff, hb, decide_eq_true_eq]
    constructor
    · rintro ⟨h3, h4⟩
      exact Classical.byContradiction fun hne => h2 c h3 (fun e => hne e.symm) h4
    · rintro rfl; exact ⟨hvu, h1⟩
  · intro h
    have h3 := fun c => hb c
    rw [h] at h3
    simp only [Nat.testBit_two_pow, decide_eq_true_eq] at h3
    refine ⟨((h3 v).1 rfl).2, fun u hu hne hs => hne ((h3 u).2 ⟨hu, hs⟩).symm⟩
/-- The untestable parents alone. -/
def unt (st : List Int) (p : Int) : Bool := decide (st.getD p.toNat 0 = 2)
def Pst (Ps : List (List Int)) (st : List Int) : List (List Int) := Ps.map fun r => r.filter (unt st)
@[simp] theorem Pst_len (Ps : List (List Int)) (st : List Int) : (Pst Ps st).length = Ps.length := by simp [Pst]
theorem Pst_get {Ps : List (List Int)} {st : List Int} {a : Nat} : (Pst Ps st).getD a [] = (Ps.getD a []).filter (unt st) := by
  simp only [Pst, List.getD_eq_getElem?_getD, List.getElem?_map]
  cases Ps[a]? <;> rfl
theorem Pst_valid {Ps : List (List Int)} {st : List Int} (hV : Valid Ps) : Valid (Pst Ps st) := fun v hv => by
  rw [Pst_len] at hv
  rw [Pst_get, Pst_len]
  exact ⟨(hV v hv).1.filter _, fun p hp => (hV v hv).2 p (List.mem_filter.1 hp).1⟩
theorem Pst_clo {Ps : List (List Int)} {st : List Int} (hst : st.length = Ps.length) {a b : Nat} : Clo (edg (Pst Ps st) Ps.length 0) a b ↔ Clo (fst (whr st 2).testBit (edg Ps Ps.length 0)) a b := by
  have he : ∀ a b : Nat, ((a : Int), (b : Int)) ∈ edg (Pst Ps st) Ps.length 0 ↔ ((a : Int), (b : Int)) ∈ fst (whr st 2).testBit (edg Ps Ps.length 0) := by
    intro a b
    rw [fst_mem, edg_mem, edg_mem, whr_bit]
    constructor
    · rintro ⟨v, hv, h1, h2⟩
      rw [Pst_get, List.mem_filter, unt, decide_eq_true_eq] at h2
      simp only [Int.toNat_natCast] at h2
      refine ⟨⟨v, hv, h1, h2.1⟩, ?_⟩
      have ha : a < st.length := by
        apply Classical.byContradiction
        intro hn
        have h3 := h2.2
        rw [List.getD_eq_getElem?_getD, List.getElem?_eq_none (by omega)] at h3
        cases h3
      rw [Bool.and_eq_true, decide_eq_true_eq, decide_eq_true_eq]
      exact ⟨ha, h2.2⟩
    · rintro ⟨⟨v, hv, h1, h2⟩, h3⟩
      rw [Bool.and_eq_true, decide_eq_true_eq, decide_eq_true_eq] at h3
      refine ⟨v, hv, h1, ?_⟩
      rw [Pst_get, List.mem_filter, unt, decide_eq_true_eq]
      exact ⟨h2, by simpa using h3.2⟩
  constructor
  · intro h
    induction h with
    | one h => exact .one ((he _ _).1 h)
    | more h _ ih => exact .more ((he _ _).1 h) ih
  · intro h
    induction h with
    | one h => exact .one ((he _ _).2 h)
    | more h _ ih => exact .more ((he _ _).2 h) ih
theorem els_cw {n : Nat} (h64 : n ≤ 64) (f : Nat → Bool) : els (cw n f) = (List.range n).filter f := by
  unfold els
  obtain ⟨d, hd⟩ : ∃ d, 64 = n + d := ⟨64 - n, by omega⟩
  rw [hd, List.range_add, List.filter_append]
  have e1 : List.filter (fun b => (cw n f).testBit b) (List.range n) = (List.range n).filter f := by
    refine List.filter_congr fun b hb => ?_
    rw [cw_bit, decide_eq_true (List.mem_range.1 hb), Bool.true_and]
  have e2 : List.filter (fun b => (cw n f).testBit b) ((List.range d).map (n + ·)) = [] := by
    rw [List.filter_eq_nil_iff]
    intro b hb
    obtain ⟨k, _, rfl⟩ := List.mem_map.1 hb
    rw [cw_bit, decide_eq_false (by omega), Bool.false_and]
    simp
  rw [e1, e2, List.append_nil]
theorem abv_head {Ps : List (List Int)} (hV : Valid Ps) {v : Nat} (hv : v < Ps.length) : ∃ t, abv Ps [(v : Int)] = (v : Int) :: t := by
  have h : ∀ (k i : Nat) (o : List Int), (∃ t, o = (v : Int) :: t) → ∃ t, abvG Ps k i o = (v : Int) :: t := by
    intro k
    induction k with
    | zero => intro i o h; rw [abvG]; exact h
    | succ k ih =>
      intro i o h
      rw [abvG]
      split
      · refine ih _ _ ?_
        obtain ⟨t, rfl⟩ := h
        obtain ⟨t', ht⟩ := adds_pre (Ps.getD (((v : Int) :: t).getD i 0).toNat []) ((v : Int) :: t)
        exact ⟨t ++ t', by rw [ht]; rfl⟩
      · exact h
  exact h _ _ _ ⟨[], rfl⟩
/-- The reference's suspects are the word's. -/
theorem sus_els {Ps : List (List Int)} (hV : Valid Ps) (h64 : Ps.length ≤ 64) (hac : ¬ ∃ a, a < Ps.length ∧ Clo (edg Ps Ps.length 0) a a) {st : List Int} (hst : st.length = Ps.length) {v : Nat} (hv : v < Ps.length) :
    ssrt (abv (Pst Ps st) [(v : Int)]).tail = (els (susW Ps.length (edg Ps Ps.length 0) (whr st 2).testBit v)).map fun (x : Nat) => (x : Int) := by
  have hV' := Pst_valid (st := st) hV
  have hl : OkP (Pst Ps st).length [(v : Int)] := by rw [Pst_len]; exact ok_one hv
  obtain ⟨h1, h2⟩ := abv_ok hV' hl
  obtain ⟨t, ht⟩ := abv_head hV' (v := v) (by rw [Pst_len]; exact hv)
  rw [ht] at h1 h2 ⊢
  rw [Pst_len] at h1 h2
  have hnd := List.nodup_cons.1 h1.1
  rw [List.tail_cons, ssrt_srt, susW, els_cw h64]
  refine srt_set ⟨hnd.2, fun p hp => h1.2 p (List.mem_cons_of_mem _ hp)⟩ _ fun x hx => ?_
  have h3 := h2 x
  rw [cl_iff, ← Pst_clo hst]
  constructor
  · intro hm
    rcases h3.1 (List.mem_cons_of_mem _ hm) with h4 | ⟨f, h4, h5⟩
    · simp at h4; exact absurd (h4 ▸ hm) hnd.1
    · have : f = v := by simp at h4; omega
      subst this; exact h5
  · intro hc
    have hne : x ≠ v := fun e => by
      subst e
      exact hac ⟨x, hx, fst_clo ((Pst_clo hst).1 hc)⟩
    rcases List.mem_cons.1 (h3.2 (.inr ⟨v, by simp, hc⟩)) with h4 | h4
    · exact absurd (by omega) hne
    · exact h4
end Go.Proofs.Ytkbkmngbenohkaa
