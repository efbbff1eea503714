/- Blames: words of bad and untestable versions, suspects, the minimal ones. Plain Lean; no program. -/
import Derived.Test.YtkbkmngbenohkaaVoV2
set_option linter.unusedSimpArgs false
set_option linter.unusedVariables false
namespace Go.Proofs.Ytkbkmngbenohkaa
open Go.RowKit

/-- The word of the places at which a list has a value. -/
def whr (l : List Int) (x : Int) : Nat := cw l.length fun i => decide (l.getD i 0 = x)
def whrK (l : List Int) (x : Int) (k : Nat) : Nat := cw k fun i => decide (l.getD i 0 = x)
theorem whrK_succ (l : List Int) (x : Int) (k : Nat) : whrK l x (k + 1) = if l.getD k 0 = x then whrK l x k ||| 2 ^ k else whrK l x k := by
  simp only [whrK, cw, List.range_succ, List.foldl_append, List.foldl_cons, List.foldl_nil, decide_eq_true_eq]
theorem whr_bit (l : List Int) (x : Int) (c : Nat) : (whr l x).testBit c = (decide (c < l.length) && decide (l.getD c 0 = x)) := by rw [whr, cw_bit]
/-- The pairs whose first is in a set. -/
def fst (T : Nat → Bool) (E : Prs) : Prs := E.filter fun p => T p.1.toNat
theorem fst_mem {T : Nat → Bool} {E : Prs} {a b : Nat} : ((a : Int), (b : Int)) ∈ fst T E ↔ ((a : Int), (b : Int)) ∈ E ∧ T a = true := by
  simp [fst]
theorem fst_clo {T : Nat → Bool} {E : Prs} {a b : Nat} (h : Clo (fst T E) a b) : Clo E a b := by
  induction h with
  | one h => exact .one (fst_mem.1 h).1
  | more h _ ih => exact .more (fst_mem.1 h).1 ih
/-- The word of a version's suspects. -/
noncomputable def susW (n : Nat) (E : Prs) (T : Nat → Bool) (v : Nat) : Nat := cw n fun u => cl (fst T E) u v
/-- One round of the search for suspects. -/
def susF (P : List Nat) (t : Nat) (w : Nat) (l : List Nat) (j : Nat) : Nat := (l.take j).foldl (fun x u => x ||| (P.getD u 0 &&& t)) w
theorem susF_zero (P : List Nat) (t w : Nat) (l : List Nat) : susF P t w l 0 = w := by simp [susF]
theorem susF_succ {P : List Nat} {t w : Nat} {l : List Nat} {j : Nat} (hj : j < l.length) : susF P t w l (j + 1) = susF P t w l j ||| (P.getD (l.getD j 0) 0 &&& t) := by
  unfold susF
  rw [take1 0 hj]
  simp [List.foldl_append]
theorem susF_bit (P : List Nat) (t w : Nat) (l : List Nat) (c : Nat) : ∀ j, j ≤ l.length → (susF P t w l j).testBit c = (w.testBit c || (l.take j).any fun u => (P.getD u 0).testBit c && t.testBit c) := by
  intro j _
  unfold susF
  have h : ∀ (l : List Nat) (w : Nat), (l.foldl (fun x u => x ||| (P.getD u 0 &&& t)) w).testBit c = (w.testBit c || l.any fun u => (P.getD u 0).testBit c && t.testBit c) := by
    intro l
    induction l with
    | nil => intro w; simp
    | cons x l ih => intro w; rw [List.foldl_cons, ih, Nat.testBit_or, Nat.testBit_and, List.any_cons, Bool.or_assoc]
  exact h _ _
theorem or_bound {a b : Nat} (ha : a < 18446744073709551616) (hb : b < 18446744073709551616) : a ||| b < 18446744073709551616 := Nat.or_lt_two_pow (n := 64) ha hb
theorem and_bound {a b : Nat} (hb : b < 18446744073709551616) : a &&& b < 18446744073709551616 := by
  have := Nat.and_le_right (n := a) (m := b); omega
theorem susF_lt {P : List Nat} {t w : Nat} (ht : t < 18446744073709551616) (hw : w < 18446744073709551616) (l : List Nat) (j : Nat) : susF P t w l j < 18446744073709551616 := by
  unfold susF
  have h : ∀ (l : List Nat) (w : Nat), w < 18446744073709551616 → l.foldl (fun x u => x ||| (P.getD u 0 &&& t)) w < 18446744073709551616 := by
    intro l
    induction l with
    | nil => intro w h; exact h
    | cons x l ih => intro w h; exact ih _ (or_bound h (and_bound ht))
  exact h _ _ hw
/-- The parents' words hold what the pairs say. -/
structure PW (n : Nat) (E : Prs) (P : List Nat) : Prop where
  e : inE n E = true
  n64 : n ≤ 64
  len : P.length = n
  lt : ∀ v, P.getD v 0 < 18446744073709551616
  m : ∀ v, v < n → ∀ p, (P.getD v 0).testBit p = true ↔ ((p : Int), (v : Int)) ∈ E
structure SI (n : Nat) (E : Prs) (t : Nat) (v : Nat) (P : List Nat) (w : Nat) : Prop where
  lt : w < 18446744073709551616
  base : ∀ c, ((P.getD v 0).testBit c && t.testBit c) = true → w.testBit c = true
  src : ∀ c, w.testBit c = true → Clo (fst t.testBit E) c v
theorem SI.start {n : Nat} {E : Prs} {t v : Nat} {P : List Nat} (h : PW n E P) (hv : v < n) (ht : t < 18446744073709551616) : SI n E t v P (P.getD v 0 &&& t) := by
  refine ⟨and_bound ht, fun c hc => by rw [Nat.testBit_and]; exact hc, fun c hc => ?_⟩
  rw [Nat.testBit_and, Bool.and_eq_true] at hc
  exact .one (fst_mem.2 ⟨(h.m v hv c).1 hc.1, hc.2⟩)
theorem SI.bit_lt {n : Nat} {E : Prs} {t v : Nat} {P : List Nat} {w : Nat} (h : PW n E P) (s : SI n E t v P w) {c : Nat} (hc : w.testBit c = true) : c < n := (Clo.lt h.e (fst_clo (s.src c hc))).1
theorem SI.next {n : Nat} {E : Prs} {t v : Nat} {P : List Nat} {w : Nat} (h : PW n E P) (ht : t < 18446744073709551616) (s : SI n E t v P w) : SI n E t v P (susF P t w (els w) (els w).length) := by
  refine ⟨susF_lt ht s.lt _ _, fun c hc => ?_, fun c hc => ?_⟩
  · rw [susF_bit _ _ _ _ _ _ (Nat.le_refl _), s.base c hc]; rfl
  · rw [susF_bit _ _ _ _ _ _ (Nat.le_refl _), List.take_length, Bool.or_eq_true, List.any_eq_true] at hc
    rcases hc with hc | ⟨u, hu, hb⟩
    · exact s.src c hc
    · rw [Bool.and_eq_true] at hb
      obtain ⟨_, hu⟩ := els_mem.1 hu
      exact .more (fst_mem.2 ⟨(h.m u (s.bit_lt h hu) c).1 hb.1, hb.2⟩) (s.src u hu)
theorem clo_up {E : Prs} {c v w : Nat} (h : Clo E c v) (hb : ∀ a : Nat, ((a : Int), (v : Int)) ∈ E → w.testBit a = true) (hs : ∀ u : Nat, w.testBit u = true → ∀ a : Nat, ((a : Int), (u : Int)) ∈ E → w.testBit a = true) : w.testBit c = true := by
  induction h with
  | one he => exact hb _ he
  | more he _ ih => exact hs _ (ih hb) _ he
theorem SI.fin {n : Nat} {E : Prs} {t v : Nat} {P : List Nat} {w : Nat} (h : PW n E P) (hv : v < n) (s : SI n E t v P w) (he : susF P t w (els w) (els w).length = w) : w = susW n E t.testBit v := by
  apply Nat.eq_of_testBit_eq
  intro c
  rw [susW, cw_bit, Bool.eq_iff_iff]
  simp only [Bool.and_eq_true, decide_eq_true_eq, cl_iff]
  constructor
  · intro hc
    exact ⟨s.bit_lt h hc, s.src c hc⟩
  · rintro ⟨_, hc⟩
    have hclo : ∀ u : Nat, w.testBit u = true → ∀ a : Nat, ((a : Int), (u : Int)) ∈ fst t.testBit E → w.testBit a = true := by
      intro u hu a ha
      obtain ⟨h1, h2⟩ := fst_mem.1 ha
      have hun := s.bit_lt h hu
      rw [← he, susF_bit _ _ _ _ _ _ (Nat.le_refl _), List.take_length, Bool.or_eq_true, List.any_eq_true]
      refine .inr ⟨u, els_mem.2 ⟨by have := h.n64; omega, hu⟩, ?_⟩
      rw [Bool.and_eq_true]
      exact ⟨(h.m u hun a).2 h1, h2⟩
    have hb : ∀ a : Nat, ((a : Int), (v : Int)) ∈ fst t.testBit E → w.testBit a = true := by
      intro a ha
      obtain ⟨h1, h2⟩ := fst_mem.1 ha
      refine s.base a ?_
      rw [Bool.and_eq_true]
      exact ⟨(h.m v hv a).2 h1, h2⟩
    exact clo_up hc hb hclo
/-- A bound for the rounds. -/
def popc (w : Nat) : Nat := (els w).length
theorem popc_le (w : Nat) : popc w ≤ 64 := els_len w
theorem popc_lt {w w' : Nat} (h : ∀ c, w.testBit c = true → w'.testBit c = true) (hw : w < 18446744073709551616) (hw' : w' < 18446744073709551616) (hne : w' ≠ w) : popc w < popc w' := by
  have : ∃ c, c < 64 ∧ w.testBit c = false ∧ w'.testBit c = true := by
    apply Classical.byContradiction
    intro hno
    apply hne
    apply Nat.eq_of_testBit_eq
    intro c
    by_cases hc : c < 64
    · cases h1 : w.testBit c with
      | true => exact h c h1
      | false =>
        cases h2 : w'.testBit c with
        | false => rfl
        | true => exact absurd ⟨c, hc, h1, h2⟩ hno
    · have e : ∀ x : Nat, x < 18446744073709551616 → x.testBit c = false := by
        intro x hx
        refine Nat.testBit_lt_two_pow (Nat.lt_of_lt_of_le hx ?_)
        rw [show (18446744073709551616 : Nat) = 2 ^ 64 from rfl]
        exact Nat.pow_le_pow_right (by omega) (by omega)
      rw [e w hw, e w' hw']
  obtain ⟨c, hc, h1, h2⟩ := this
  exact filter_lt c h1 h2 (fun x _ hx => h x hx) (List.mem_range.2 hc)
/-- What Minimal answers: blames of versions whose one bad ancestor they are. -/
noncomputable def minL (n : Nat) (E : Prs) (st : List Int) (l : List Nat) : List (Nat × List Nat) :=
  (l.filter fun v => (aw1 n E v &&& whr st 1) == 2 ^ v).map fun v => (v, els (susW n E (whr st 2).testBit v))
end Go.Proofs.Ytkbkmngbenohkaa
