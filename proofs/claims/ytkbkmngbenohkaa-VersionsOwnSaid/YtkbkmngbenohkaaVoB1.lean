/- Strict orders on small numbers: an element that waits for none; the least linear extension. Plain Lean; no program. -/
import Derived.Test.YtkbkmngbenohkaaVoA4
set_option linter.unusedSimpArgs false
set_option linter.unusedVariables false
namespace Go.Proofs.Ytkbkmngbenohkaa
open Go.RowKit

structure Spo (n : Nat) (lt : Lt) : Prop where
  irr : ∀ a, a < n → lt a a = false
  tr : ∀ a b c, a < n → b < n → c < n → lt a b = true → lt b c = true → lt a c = true

def isfree (n : Nat) (lt : Lt) (out : List Nat) (a : Nat) : Bool := !out.contains a && (List.range n).all fun b => !lt b a || out.contains b
def nextf (n : Nat) (lt : Lt) (out : List Nat) : Nat := ((List.range n).find? (isfree n lt out)).getD 0
def lin (n : Nat) (lt : Lt) : Nat → List Nat
  | 0 => []
  | k + 1 => lin n lt k ++ [nextf n lt (lin n lt k)]
@[simp] theorem lin_len (n : Nat) (lt : Lt) : ∀ k, (lin n lt k).length = k
  | 0 => rfl
  | k + 1 => by simp [lin, lin_len n lt k]

theorem pigeon : ∀ (n : Nat) (l : List Nat), (∀ a, a < n → a ∈ l) → n ≤ l.length
  | 0, _, _ => Nat.zero_le _
  | n + 1, l, h => by
    have h1 := pigeon n (l.erase n) fun a ha => (List.mem_erase_of_ne (by omega)).2 (h a (by omega))
    rw [List.length_erase_of_mem (h n (by omega))] at h1
    have : 0 < l.length := List.length_pos_of_mem (h n (by omega))
    omega
theorem filter_lt {p q : Nat → Bool} (y : Nat) (hp : p y = false) (hq : q y = true) : ∀ {l : List Nat}, (∀ x ∈ l, p x = true → q x = true) → y ∈ l → (l.filter p).length < (l.filter q).length
  | [], _, h => by simp at h
  | x :: l, hm, h => by
    have hle : ∀ {l : List Nat}, (∀ x ∈ l, p x = true → q x = true) → (l.filter p).length ≤ (l.filter q).length := by
      intro l
      induction l with
      | nil => intro _; simp
      | cons z l ih =>
        intro hm
        have := ih fun x hx => hm x (List.mem_cons_of_mem _ hx)
        have hz := hm z List.mem_cons_self
        cases hpz : p z <;> cases hqz : q z <;> simp [hpz, hqz] at hz ⊢ <;> omega
    have hm' : ∀ z ∈ l, p z = true → q z = true := fun z hz => hm z (List.mem_cons_of_mem _ hz)
    by_cases hxy : x = y
    · subst hxy
      have := hle hm'
      simp [hp, hq]; omega
    · have := filter_lt y hp hq hm' ((List.mem_cons.1 h).resolve_left (Ne.symm hxy))
      have hx := hm x List.mem_cons_self
      cases hpx : p x <;> cases hqx : q x <;> simp [hpx, hqx] at hx ⊢ <;> omega
theorem cnt_lt {n : Nat} {lt : Lt} (hS : Spo n lt) {a b : Nat} (ha : a < n) (hb : b < n) (h : lt b a = true) : cnt n lt b < cnt n lt a :=
  filter_lt (p := fun x => lt x b) (q := fun x => lt x a) b (hS.irr b hb) h (fun x hx hxb => hS.tr x b a (List.mem_range.1 hx) hb ha hxb h) (List.mem_range.2 hb)
/-- While some are left, one waits for none. -/
theorem free_ex {n : Nat} {lt : Lt} (hS : Spo n lt) (out : List Nat) (h : out.length < n) : ∃ a, a < n ∧ isfree n lt out a = true := by
  have h0 : ∃ a, a < n ∧ a ∉ out := by
    apply Classical.byContradiction
    intro hn
    have := pigeon n out fun a ha => Classical.byContradiction fun h => hn ⟨a, ha, h⟩
    omega
  obtain ⟨a, ha, hno⟩ := h0
  generalize hm : cnt n lt a = m
  induction m using Nat.strongRecOn generalizing a with
  | _ m ih =>
    by_cases hb : ∃ b, b < n ∧ lt b a = true ∧ b ∉ out
    · obtain ⟨b, h1, h2, h3⟩ := hb
      exact ih _ (hm ▸ cnt_lt hS ha h1 h2) b h1 h3 rfl
    · refine ⟨a, ha, ?_⟩
      simp only [isfree, Bool.and_eq_true, Bool.not_eq_true', List.all_eq_true, Bool.or_eq_true, List.contains_iff_mem]
      refine ⟨by simpa using hno, fun b hbn => ?_⟩
      have hbn := List.mem_range.1 hbn
      cases hl : lt b a with
      | false => exact .inl rfl
      | true =>
        right
        exact Classical.byContradiction fun h => hb ⟨b, hbn, hl, h⟩
def nsl (l : List Nat) : List PV := isl (l.map fun (x : Nat) => (x : Int))
@[simp] theorem nsl_len (l : List Nat) : (nsl l).length = l.length := by simp [nsl]
theorem nsl_get (l : List Nat) (k : Nat) (h : k < l.length) : (nsl l)[k]? = some (.v (.int .i64 ((l.getD k 0 : Nat) : Int))) := by simp [nsl, isl, h]
theorem nsl_append (a b : List Nat) : nsl a ++ nsl b = nsl (a ++ b) := by simp [nsl, isl]
end Go.Proofs.Ytkbkmngbenohkaa
