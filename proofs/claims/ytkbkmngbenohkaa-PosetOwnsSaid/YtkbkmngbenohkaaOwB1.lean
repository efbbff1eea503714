/- Strict orders on small numbers: an element that waits for none; the least linear extension. Plain Lean; no program. -/
import Derived.Test.YtkbkmngbenohkaaOwA4
set_option linter.unusedSimpArgs false
set_option linter.unusedVariables false
namespace Go.Proofs.Ytkbkmngbenohkaa
open Go.RowKit

structure Spo (n : Nat) (lt : Lt) : Prop where
  irr : ∀ a, a < n → lt a a = false
  tr : ∀ a b c, a < n → b < n → c < n → lt a b = true → lt b c = true → lt a c = true

def isfree (n : Nat) (lt : Lt) (out : List Nat) (a : Nat) : Bool := !out.contains a && (List.range n).all fun b => !lt b a || out.contains b
def nextf (n : Nat) (lt : Lt) (out : List Nat) : Nat := ((List.range n).find? (isfree n lt out)).getD 0
def lin (n : Nat) (lt : Lt) : Nat → List Nat
  | 0 => []
  | k + 1 => lin n lt k ++ [nextf n lt (lin n lt k)]
@[simp] theorem lin_len (n : Nat) (lt : Lt) : ∀ k, (lin n lt k).length = k
  | 0 => rfl
  | k + 1 => by simp [lin, lin_len n lt k]

theorem find_range {p : Nat → Bool} : ∀ {n a : Nat}, a < n → p a = true → (∀ b, b < a → p b = false) → (List.range n).find? p = some a := by
  intro n
  induction n with
  | zero => intro a h; omega
  | succ n ih =>
    intro a ha hp hb
    rw [List.range_succ, List.find?_append]
    by_cases h : a < n
    · rw [ih h hp hb]; rfl
    · obtain rfl : a = n := by omega
      have : (List.range a).find? p = none := by
        rw [List.find?_eq_none]
        intro x hx
        rw [hb x (List.mem_range.1 hx)]; decide
      rw [this]
      simp [hp]
theorem least_of {p : Nat → Bool} {n : Nat} (h : ∃ a, a < n ∧ p a = true) : ∃ a, a < n ∧ p a = true ∧ ∀ b, b < a → p b = false := by
  obtain ⟨a, ha, hp⟩ := h
  induction a using Nat.strongRecOn with
  | _ a ih =>
    by_cases hb : ∃ b, b < a ∧ p b = true
    · obtain ⟨b, h1, h2⟩ := hb
      exact ih b h1 (by omega) h2
    · refine ⟨a, ha, hp, fun b h => ?_⟩
      cases hh : p b with
      | false => rfl
      | true => exact absurd ⟨b, h, hh⟩ hb
theorem nextf_eq {n : Nat} {lt : Lt} {out : List Nat} {a : Nat} (ha : a < n) (hp : isfree n lt out a = true) (hb : ∀ b, b < a → isfree n lt out b = false) : nextf n lt out = a := by
  rw [nextf, find_range ha hp hb]; rfl

theorem pigeon : ∀ (n : Nat) (l : List Nat), (∀ a, a < n → a ∈ l) → n ≤ l.length
  | 0, _, _ => Nat.zero_le _
  | n + 1, l, h => by
    have h1 := pigeon n (l.erase n) fun a ha => (List.mem_erase_of_ne (by omega)).2 (h a (by omega))
    rw [List.length_erase_of_mem (h n (by omega))] at h1
    have : 0 < l.length := List.length_pos_of_mem (h n (by omega))
    omega
theorem filter_lt {p q : Nat → Bool} (y : Nat) (hp : p y = false) (hq : q y = true) : ∀ {l : List Nat}, (∀ x ∈ l, p x = true → q x = true) → y ∈ l → (l.filter p).length < (l.filter q).length
  | [], _, h => by simp at h
  | x :: l, hm, h => by
    have hle : ∀ {l : List Nat}, (∀ x ∈ l, p x = true → q x = true) → (l.filter p).length ≤ (l.filter q).length := by
      intro l
      induction l with
      | nil => intro _; simp
      | cons z l ih =>
        intro hm
        have := ih fun x hx => hm x (List.mem_cons_of_mem _ hx)
        have hz := hm z List.mem_cons_self
        cases hpz : p z <;> cases hqz : q z <;> simp [hpz, hqz] at hz ⊢ <;> omega
    have hm' : ∀ z ∈ l, p z = true → q z = true := fun z hz => hm z (List.mem_cons_of_mem _ hz)
    by_cases hxy : x = y
    · subst hxy
      have := hle hm'
      simp [hp, hq]; omega
    · have := filter_lt y hp hq hm' ((List.mem_cons.1 h).resolve_left (Ne.symm hxy))
      have hx := hm x List.mem_cons_self
      cases hpx : p x <;> cases hqx : q x <;> simp [hpx, hqx] at hx ⊢ <;> omega
theorem cnt_lt {n : Nat} {lt : Lt} (hS : Spo n lt) {a b : Nat} (ha : a < n) (hb : b < n) (h : lt b a = true) : cnt n lt b < cnt n lt a :=
  filter_lt (p := fun x => lt x b) (q := fun x => lt x a) b (hS.irr b hb) h (fun x hx hxb => hS.tr x b a (List.mem_range.1 hx) hb ha hxb h) (List.mem_range.2 hb)
/-- While some are left, one waits for none. -/
theorem free_ex {n : Nat} {lt : Lt} (hS : Spo n lt) (out : List Nat) (h : out.length < n) : ∃ a, a < n ∧ isfree n lt out a = true := by
  have h0 : ∃ a, a < n ∧ a ∉ out := by
    apply Classical.byContradiction
    intro hn
    have := pigeon n out fun a ha => Classical.byContradiction fun h => hn ⟨a, ha, h⟩
    omega
  obtain ⟨a, ha, hno⟩ := h0
  generalize hm : cnt n lt a = m
  induction m using Nat.strongRecOn generalizing a with
  | _ m ih =>
    by_cases hb : ∃ b, b < n ∧ lt b a = true ∧ b ∉ out
    · obtain ⟨b, h1, h2, h3⟩ := hb
      exact ih _ (hm ▸ cnt_lt hS ha h1 h2) b h1 h3 rfl
    · refine ⟨a, ha, ?_⟩
      simp only [isfree, Bool.and_eq_true, Bool.not_eq_true', List.all_eq_true, Bool.or_eq_true, List.contains_iff_mem]
      refine ⟨by simpa using hno, fun b hbn => ?_⟩
      have hbn := List.mem_range.1 hbn
      cases hl : lt b a with
      | false => exact .inl rfl
      | true =>
        right
        exact Classical.byContradiction fun h => hb ⟨b, hbn, hl, h⟩
theorem next_ok {n : Nat} {lt : Lt} (hS : Spo n lt) (out : List Nat) (h : out.length < n) : nextf n lt out < n ∧ isfree n lt out (nextf n lt out) = true ∧ ∀ b, b < nextf n lt out → isfree n lt out b = false := by
  obtain ⟨a, h1, h2, h3⟩ := least_of (free_ex hS out h)
  rw [nextf_eq h1 h2 h3]
  exact ⟨h1, h2, h3⟩
/-- Of how many an element waits that are not out yet. -/
def wt (n : Nat) (lt : Lt) (out : List Nat) (b : Nat) : Nat := ((List.range n).filter fun a => lt a b && !out.contains a).length
theorem wt_nil (n : Nat) (lt : Lt) (b : Nat) : wt n lt [] b = cnt n lt b := by simp [wt, cnt]
theorem wt_zero {n : Nat} {lt : Lt} {out : List Nat} {a : Nat} : wt n lt out a = 0 ↔ (List.range n).all (fun b => !lt b a || out.contains b) = true := by
  simp only [wt, List.length_eq_zero_iff, List.filter_eq_nil_iff, List.all_eq_true]
  refine forall_congr' fun x => forall_congr' fun _ => ?_
  cases lt x a <;> cases out.contains x <;> simp
theorem free_iff {n : Nat} {lt : Lt} {out : List Nat} {a : Nat} : isfree n lt out a = (!out.contains a && decide (wt n lt out a = 0)) := by
  rw [isfree]
  congr 1
  rw [Bool.eq_iff_iff, decide_eq_true_iff, wt_zero]
theorem filter_one {p q : Nat → Bool} (y : Nat) (hp : p y = true) (hq : q y = false) : ∀ {l : List Nat}, l.Nodup → (∀ x ∈ l, x ≠ y → p x = q x) → y ∈ l → (l.filter p).length = (l.filter q).length + 1
  | [], _, _, h => by simp at h
  | x :: l, hn, hm, h => by
    have heq : ∀ {l : List Nat}, (∀ x ∈ l, p x = q x) → l.filter p = l.filter q := fun h => List.filter_congr h
    have hn' := List.nodup_cons.1 hn
    by_cases hxy : x = y
    · subst hxy
      have : l.filter p = l.filter q := heq fun z hz => hm z (List.mem_cons_of_mem _ hz) fun e => hn'.1 (e ▸ hz)
      simp [hp, hq, this]
    · have := filter_one y hp hq hn'.2 (fun z hz => hm z (List.mem_cons_of_mem _ hz)) ((List.mem_cons.1 h).resolve_left (Ne.symm hxy))
      have hx := hm x List.mem_cons_self hxy
      cases hqx : q x <;> simp [hqx, hx, this]
theorem wt_yes {n : Nat} {lt : Lt} {out : List Nat} {a b : Nat} (ha : a < n) (hno : a ∉ out) (h : lt a b = true) : wt n lt out b = wt n lt (out ++ [a]) b + 1 := by
  refine filter_one a (by simp [h, hno]) (by simp) List.nodup_range (fun x _ hx => ?_) (List.mem_range.2 ha)
  simp [hx]
theorem wt_no {n : Nat} {lt : Lt} {out : List Nat} {a b : Nat} (h : lt a b = false) : wt n lt (out ++ [a]) b = wt n lt out b := by
  simp only [wt]
  congr 1
  refine List.filter_congr fun x _ => ?_
  by_cases hx : x = a
  · subst hx; simp [h]
  · simp [hx]
theorem wt_le (n : Nat) (lt : Lt) (out : List Nat) (b : Nat) : wt n lt out b ≤ n := by
  have := List.length_filter_le (fun a => lt a b && !out.contains a) (List.range n)
  simpa [wt] using this

def nsl (l : List Nat) : List PV := isl (l.map fun (x : Nat) => (x : Int))
@[simp] theorem nsl_len (l : List Nat) : (nsl l).length = l.length := by simp [nsl]
theorem nsl_get (l : List Nat) (k : Nat) (h : k < l.length) : (nsl l)[k]? = some (.v (.int .i64 ((l.getD k 0 : Nat) : Int))) := by simp [nsl, isl, h]
theorem nsl_append (a b : List Nat) : nsl a ++ nsl b = nsl (a ++ b) := by simp [nsl, isl]
theorem nsl_put (l : List Nat) (k : Nat) (x : Int) (h : k < l.length) (hx : 0 ≤ x) : nsl (l.set k x.toNat) = putL (nsl l) k [.v (.int .i64 x)] := by
  rw [nsl, nsl, isl_put _ _ _ (by simpa using h), List.map_set, Int.toNat_of_nonneg hx]
/-- The waits while one is taken out: those before k are told. -/
def wtM (n : Nat) (lt : Lt) (out : List Nat) (a k : Nat) : List Nat := (List.range n).map fun b => if b < k then wt n lt (out ++ [a]) b else wt n lt out b
def wtL (n : Nat) (lt : Lt) (out : List Nat) : List Nat := (List.range n).map fun b => wt n lt out b
theorem wtL_len (n : Nat) (lt : Lt) (out : List Nat) : (wtL n lt out).length = n := by simp [wtL]
theorem wtM_len (n : Nat) (lt : Lt) (out : List Nat) (a k : Nat) : (wtM n lt out a k).length = n := by simp [wtM]
theorem wtL_get (n : Nat) (lt : Lt) (out : List Nat) (b : Nat) (h : b < n) : (wtL n lt out).getD b 0 = wt n lt out b := by simp [wtL, h]
theorem wtM_get (n : Nat) (lt : Lt) (out : List Nat) (a k b : Nat) (h : b < n) : (wtM n lt out a k).getD b 0 = if b < k then wt n lt (out ++ [a]) b else wt n lt out b := by simp [wtM, h]
theorem wtM_zero (n : Nat) (lt : Lt) (out : List Nat) (a : Nat) : wtM n lt out a 0 = wtL n lt out := by simp [wtM, wtL]
theorem wtM_full (n : Nat) (lt : Lt) (out : List Nat) (a : Nat) : wtM n lt out a n = wtL n lt (out ++ [a]) := by
  refine List.map_congr_left fun b hb => ?_
  rw [if_pos (List.mem_range.1 hb)]
theorem wtM_no {n : Nat} {lt : Lt} {out : List Nat} {a k : Nat} (h : lt a k = false) : wtM n lt out a (k + 1) = wtM n lt out a k := by
  refine List.map_congr_left fun b hb => ?_
  by_cases hb : b = k
  · subst hb
    rw [if_pos (by omega), if_neg (by omega), wt_no h]
  · by_cases h2 : b < k
    · rw [if_pos (by omega), if_pos h2]
    · rw [if_neg (by omega), if_neg h2]
theorem wtM_yes {n : Nat} {lt : Lt} {out : List Nat} {a k : Nat} (hk : k < n) (ha : a < n) (hno : a ∉ out) (h : lt a k = true) : wtM n lt out a (k + 1) = (wtM n lt out a k).set k ((wtM n lt out a k).getD k 0 - 1) := by
  apply List.ext_getElem
  · simp [wtM]
  · intro i h1 h2
    rw [wtM_len] at h1
    rw [List.getElem_set]
    by_cases hi : k = i
    · subst hi
      rw [if_pos rfl, wtM_get _ _ _ _ _ _ hk, if_neg (by omega)]
      simp only [wtM, List.getElem_map, List.getElem_range]
      rw [if_pos (by omega), wt_yes ha hno h]; omega
    · rw [if_neg hi]
      simp only [wtM, List.getElem_map, List.getElem_range]
      by_cases h3 : i < k
      · rw [if_pos (by omega), if_pos h3]
      · rw [if_neg (by omega), if_neg h3]
def doneL (n : Nat) (out : List Nat) : List Bool := (List.range n).map fun b => out.contains b
theorem doneL_len (n : Nat) (out : List Nat) : (doneL n out).length = n := by simp [doneL]
theorem doneL_get (n : Nat) (out : List Nat) (b : Nat) (h : b < n) : (doneL n out).getD b false = out.contains b := by simp [doneL, h]
theorem doneL_nil (n : Nat) : doneL n [] = List.replicate n false := by
  apply List.ext_getElem
  · simp [doneL]
  · intro i h1 h2; simp [doneL]
theorem doneL_add (n : Nat) (out : List Nat) (a : Nat) (ha : a < n) : (doneL n out).set a true = doneL n (out ++ [a]) := by
  apply List.ext_getElem
  · simp [doneL]
  · intro i h1 h2
    rw [List.getElem_set]
    by_cases hi : a = i
    · subst hi; simp [doneL]
    · rw [if_neg hi]
      simp [doneL, Ne.symm hi]
end Go.Proofs.Ytkbkmngbenohkaa
