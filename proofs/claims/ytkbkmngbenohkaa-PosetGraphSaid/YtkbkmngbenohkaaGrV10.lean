/- graph.Reach: what a search in depth finds. Plain Lean; no program. -/
import Derived.Test.YtkbkmngbenohkaaGrV1
set_option linter.unusedSimpArgs false
set_option linter.unusedVariables false
namespace Go.Proofs.Ytkbkmngbenohkaa
open Go.RowKit

def vis (S : List (List Int)) : Nat → List Bool → Nat → List Bool
  | 0, seen, _ => seen
  | k + 1, seen, v => if seen.getD v false = true then seen else (S.getD v []).foldl (fun s w => vis S k s w.toNat) (seen.set v true)
/-- How many are not seen. -/
def uns (seen : List Bool) : Nat := seen.countP fun b => !b
theorem uns_set {seen : List Bool} {v : Nat} (hv : v < seen.length) (h : seen.getD v false = false) : uns (seen.set v true) + 1 = uns seen := by
  induction seen generalizing v with
  | nil => simp at hv
  | cons b l ih =>
    cases v with
    | zero =>
      simp at h; subst h
      simp [uns]
    | succ v =>
      have := ih (v := v) (by simpa using hv) (by simpa using h)
      simp only [uns, List.set_cons_succ, List.countP_cons] at this ⊢
      omega
theorem uns_le (seen : List Bool) : uns seen ≤ seen.length := List.countP_le_length
theorem uns_zero {seen : List Bool} (h : uns seen = 0) {v : Nat} (hv : v < seen.length) : seen.getD v false = true := by
  unfold uns at h
  rw [List.countP_eq_zero] at h
  have := h seen[v] (List.getElem_mem hv)
  rw [List.getD_eq_getElem?_getD, List.getElem?_eq_getElem hv]
  simpa using this
theorem bool_set {l : List Bool} {v x : Nat} (hv : v < l.length) : (l.set v true).getD x false = (decide (x = v) || l.getD x false) := by
  rw [getD_set]
  by_cases h : x = v
  · rw [if_pos ⟨h, hv⟩]; simp [h]
  · rw [if_neg (by simp [h])]; simp [h]
/-- The pairs that the lists give. -/
def sE (n : Nat) (S : List (List Int)) : Prs := (List.range n).flatMap fun a => (S.getD a []).map fun w => ((a : Int), w)
theorem sE_mem {n : Nat} {S : List (List Int)} {a : Nat} {w : Int} : ((a : Int), w) ∈ sE n S ↔ a < n ∧ w ∈ S.getD a [] := by
  simp only [sE, List.mem_flatMap, List.mem_range, List.mem_map, Prod.mk.injEq]
  constructor
  · rintro ⟨b, hb, x, hx, h1, rfl⟩
    have : b = a := by omega
    subst this; exact ⟨hb, hx⟩
  · rintro ⟨h1, h2⟩; exact ⟨a, h1, w, h2, rfl, rfl⟩
structure VJ (n : Nat) (S : List (List Int)) (s t : List Bool) (src : Nat → Prop) : Prop where
  len : t.length = n
  sub : ∀ x, s.getD x false = true → t.getD x false = true
  cls : ∀ x, t.getD x false = true → s.getD x false = false → ∀ w ∈ S.getD x [], t.getD w.toNat false = true
  sr : ∀ x, t.getD x false = true → s.getD x false = false → src x
  un : uns t ≤ uns s
theorem VJ.refl {n : Nat} {S : List (List Int)} {s : List Bool} (hs : s.length = n) (src : Nat → Prop) : VJ n S s s src :=
  ⟨hs, fun _ h => h, fun _ h1 h2 => absurd (h1.symm.trans h2) (by simp), fun _ h1 h2 => absurd (h1.symm.trans h2) (by simp), Nat.le_refl _⟩
theorem VJ.trans {n : Nat} {S : List (List Int)} {s t u : List Bool} {src : Nat → Prop} (h : VJ n S s t src) (k : VJ n S t u src) : VJ n S s u src := by
  refine ⟨k.len, fun x hx => k.sub x (h.sub x hx), fun x hu hs w hw => ?_, fun x hu hs => ?_, Nat.le_trans k.un h.un⟩
  · cases ht : t.getD x false with
    | true => exact k.sub _ (h.cls x ht hs w hw)
    | false => exact k.cls x hu ht w hw
  · cases ht : t.getD x false with
    | true => exact h.sr x ht hs
    | false => exact k.sr x hu ht
theorem VJ.mono {n : Nat} {S : List (List Int)} {s t : List Bool} {p q : Nat → Prop} (h : VJ n S s t p) (hpq : ∀ x, p x → q x) : VJ n S s t q := ⟨h.len, h.sub, h.cls, fun x h1 h2 => hpq x (h.sr x h1 h2), h.un⟩
def rch (n : Nat) (S : List (List Int)) (v x : Nat) : Prop := x = v ∨ Clo (sE n S) v x
theorem vis_ok {n : Nat} {S : List (List Int)} (hS : ∀ a, a < n → ∀ w ∈ S.getD a [], 0 ≤ w ∧ w < (n : Int)) : ∀ (k : Nat) (s : List Bool) (v : Nat), s.length = n → v < n → uns s ≤ k → VJ n S s (vis S k s v) (rch n S v) ∧ (vis S k s v).getD v false = true
  | 0, s, v, hs, hv, hk => by
    rw [vis]
    exact ⟨VJ.refl hs _, uns_zero (by omega) (by omega)⟩
  | k + 1, s, v, hs, hv, hk => by
    rw [vis]
    by_cases hsv : s.getD v false = true
    · rw [if_pos hsv]; exact ⟨VJ.refl hs _, hsv⟩
    · rw [if_neg hsv]
      rw [Bool.not_eq_true] at hsv
      have hu := uns_set (by omega) hsv
      have hfold : ∀ (l : List Int) (t : List Bool), (∀ w ∈ l, w ∈ S.getD v []) → t.length = n → uns t ≤ k → VJ n S t (l.foldl (fun s w => vis S k s w.toNat) t) (rch n S v) ∧ ∀ w ∈ l, (l.foldl (fun s w => vis S k s w.toNat) t).getD w.toNat false = true := by
        intro l
        induction l with
        | nil => intro t _ ht _; exact ⟨VJ.refl ht _, fun w hw => absurd hw List.not_mem_nil⟩
        | cons w l ih =>
          intro t hl ht htk
          have hwm := hl w List.mem_cons_self
          have hwb := hS v hv w hwm
          obtain ⟨a1, a2⟩ := vis_ok hS k t w.toNat ht (by omega) htk
          obtain ⟨b1, b2⟩ := ih (vis S k t w.toNat) (fun x hx => hl x (List.mem_cons_of_mem _ hx)) a1.len (Nat.le_trans a1.un htk)
          have he : ((v : Int), ((w.toNat : Nat) : Int)) ∈ sE n S := sE_mem.2 ⟨hv, by rw [Int.toNat_of_nonneg hwb.1]; exact hwm⟩
          have a1' : VJ n S t (vis S k t w.toNat) (rch n S v) := a1.mono fun x hx => by
            rcases hx with rfl | hx
            · exact .inr (.one he)
            · exact .inr (.more he hx)
          refine ⟨a1'.trans b1, fun x hx => ?_⟩
          rcases List.mem_cons.1 hx with rfl | hx
          · exact b1.sub _ a2
          · exact b2 x hx
      obtain ⟨c1, c2⟩ := hfold (S.getD v []) (s.set v true) (fun _ h => h) (by rw [List.length_set]; exact hs) (by omega)
      have hvt : (s.set v true).getD v false = true := by rw [bool_set (by omega)]; simp
      refine ⟨⟨c1.len, fun x hx => c1.sub x (by rw [bool_set (by omega), hx]; simp), fun x hx hsx w hw => ?_, fun x hx hsx => ?_, by have := c1.un; omega⟩, c1.sub v hvt⟩
      · by_cases hxv : x = v
        · subst hxv; exact c2 w hw
        · exact c1.cls x hx (by rw [bool_set (by omega), hsx]; simp [hxv]) w hw
      · by_cases hxv : x = v
        · exact .inl hxv
        · exact c1.sr x hx (by rw [bool_set (by omega), hsx]; simp [hxv])
theorem vis_len {n : Nat} {S : List (List Int)} (hS : ∀ a, a < n → ∀ w ∈ S.getD a [], 0 ≤ w ∧ w < (n : Int)) {k : Nat} {s : List Bool} {v : Nat} (hs : s.length = n) (hv : v < n) (hk : uns s ≤ k) : (vis S k s v).length = n ∧ uns (vis S k s v) ≤ uns s := ⟨(vis_ok hS k s v hs hv hk).1.len, (vis_ok hS k s v hs hv hk).1.un⟩
theorem clo_go {E : Prs} {p : Nat → Prop} (h : ∀ a b : Nat, ((a : Int), (b : Int)) ∈ E → p a → p b) {v x : Nat} (hc : Clo E v x) (hv : p v) : p x := by
  induction hc with
  | one he => exact h _ _ he hv
  | more he _ ih => exact ih (h _ _ he hv)
/-- From nothing seen: all that v leads to. -/
theorem vis_all {n : Nat} {S : List (List Int)} (hS : ∀ a, a < n → ∀ w ∈ S.getD a [], 0 ≤ w ∧ w < (n : Int)) {v : Nat} (hv : v < n) {x : Nat} : (vis S n (List.replicate n false) v).getD x false = true ↔ rch n S v x := by
  have hl : (List.replicate n false).length = n := by simp
  have h0 : ∀ x, (List.replicate n false).getD x false = false := fun x => by
    rw [List.getD_eq_getElem?_getD, List.getElem?_replicate]; split <;> rfl
  obtain ⟨h1, h2⟩ := vis_ok hS n (List.replicate n false) v hl hv (by have := uns_le (List.replicate n false); omega)
  constructor
  · intro hx; exact h1.sr x hx (h0 x)
  · rintro (rfl | hc)
    · exact h2
    · have hcl : ∀ a b : Nat, ((a : Int), (b : Int)) ∈ sE n S → (vis S n (List.replicate n false) v).getD a false = true → (vis S n (List.replicate n false) v).getD b false = true := by
        intro a b he ha
        have := h1.cls a ha (h0 a) b (sE_mem.1 he).2
        simpa using this
      exact clo_go (p := fun x => (vis S n (List.replicate n false) v).getD x false = true) hcl hc h2
/-- Those that are seen, in increasing order. -/
def snL (t : List Bool) (k : Nat) : List Nat := (List.range k).filter fun x => t.getD x false
theorem snL_yes {t : List Bool} {k : Nat} (h : t.getD k false = true) : snL t (k + 1) = snL t k ++ [k] := by simp only [snL, List.range_succ, List.filter_append, List.filter_cons, h, if_true, List.filter_nil]
theorem snL_no {t : List Bool} {k : Nat} (h : t.getD k false = false) : snL t (k + 1) = snL t k := by simp only [snL, List.range_succ, List.filter_append, List.filter_cons, h, List.filter_nil, List.append_nil]; simp
theorem snL_len (t : List Bool) (k : Nat) : (snL t k).length ≤ k := by
  have := List.length_filter_le (fun x => t.getD x false) (List.range k)
  simpa [snL] using this
end Go.Proofs.Ytkbkmngbenohkaa
