/- The words of the closure. Plain. -/
import Derived.Test.YtkbkmngbenohkaaOwB4
set_option linter.unusedSimpArgs false
set_option linter.unusedVariables false
namespace Go.Proofs.Ytkbkmngbenohkaa
open Go.RowKit

def f1 (s : List (List Nat)) (w : Nat) (b : Int) : Nat := (w ||| 2 ^ b.toNat) ||| (s.getD b.toNat []).getD 0 0
def wd (s : List (List Nat)) (l : List Int) (j : Nat) : Nat := (l.take j).foldl (f1 s) 0
theorem wd_succ {s : List (List Nat)} {l : List Int} {j : Nat} (hj : j < l.length) : wd s l (j + 1) = f1 s (wd s l j) (l.getD j 0) := by
  unfold wd
  rw [List.take_add_one, List.getElem?_eq_getElem hj, List.foldl_append]
  simp [List.getD_eq_getElem?_getD, hj]
/-- Sets of at most one word. -/
def Gd (s : List (List Nat)) : Prop := ∀ a, (s.getD a []).length ≤ 1 ∧ (s.getD a []).getD 0 0 < 18446744073709551616
theorem wd_lt {s : List (List Nat)} (h : Gd s) {l : List Int} (hl : ∀ j, j < l.length → l.getD j 0 < 64) : ∀ j, j ≤ l.length → wd s l j < 18446744073709551616
  | 0, _ => by simp [wd]
  | j + 1, hj => by
    rw [wd_succ (by omega)]
    have h1 := wd_lt h hl j (by omega)
    have h2 := hl j (by omega)
    have h3 := bit_lt (l.getD j 0).toNat (by omega)
    have h4 := (h (l.getD j 0).toNat).2
    rw [show (18446744073709551616 : Nat) = 2 ^ 64 from rfl] at *
    exact Nat.or_lt_two_pow (Nat.or_lt_two_pow h1 h3) h4
theorem f1_bit (s : List (List Nat)) (w : Nat) (b : Int) (c : Nat) : (f1 s w b).testBit c = (w.testBit c || (b.toNat == c || ((s.getD b.toNat []).getD 0 0).testBit c)) := by
  unfold f1
  rw [Nat.testBit_or, Nat.testBit_or, Nat.testBit_two_pow]
  have hb : (b.toNat == c) = decide (b.toNat = c) := by cases h : decide (b.toNat = c) <;> simp_all
  rw [hb]
  cases w.testBit c <;> simp
theorem wd_bit (s : List (List Nat)) (l : List Int) (c : Nat) : ∀ j, j ≤ l.length → (wd s l j).testBit c = (l.take j).any fun b => b.toNat == c || ((s.getD b.toNat []).getD 0 0).testBit c
  | 0, _ => by simp [wd]
  | j + 1, hj => by
    have hjl : j < l.length := by omega
    rw [wd_succ hjl, f1_bit, wd_bit s l c j (by omega), List.take_add_one, List.getElem?_eq_getElem hjl, List.any_append]
    simp [List.getD_eq_getElem?_getD, hjl]
def stp (E : Prs) (s : List (List Nat)) (a : Nat) : List (List Nat) := s.set a [wd s (nxt E a) (nxt E a).length]
def sts (n : Nat) (E : Prs) (pre : List Nat) : List (List Nat) := pre.foldl (stp E) (List.replicate n [])
theorem sts_snoc (n : Nat) (E : Prs) (pre : List Nat) (a : Nat) : sts n E (pre ++ [a]) = stp E (sts n E pre) a := by simp [sts, List.foldl_append]
theorem stp_len (E : Prs) (s : List (List Nat)) (a : Nat) : (stp E s a).length = s.length := by simp [stp]
theorem sts_len (n : Nat) (E : Prs) (pre : List Nat) : (sts n E pre).length = n := by
  have : ∀ (l : List Nat) (s : List (List Nat)), (l.foldl (stp E) s).length = s.length := by
    intro l
    induction l with
    | nil => intro s; rfl
    | cons x l ih => intro s; rw [List.foldl_cons, ih, stp_len]
  unfold sts
  rw [this]; simp
theorem nxt_lt {n : Nat} {E : Prs} (hE : inE n E = true) (hn : n ≤ 64) (a : Nat) : ∀ j, j < (nxt E a).length → (nxt E a).getD j 0 < 64 := fun j hj => by
  have := nxt_in hE hj; omega
theorem Gd.stp {n : Nat} {E : Prs} (hE : inE n E = true) (hn : n ≤ 64) {s : List (List Nat)} (h : Gd s) (a : Nat) : Gd (stp E s a) := by
  intro b
  unfold Ytkbkmngbenohkaa.stp
  rw [getD_set]
  split
  · exact ⟨by simp, by simpa using wd_lt h (nxt_lt hE hn a) _ (Nat.le_refl _)⟩
  · exact h b
theorem Gd.sts {n : Nat} {E : Prs} (hE : inE n E = true) (hn : n ≤ 64) (pre : List Nat) : Gd (sts n E pre) := by
  have : ∀ (l : List Nat) (s : List (List Nat)), Gd s → Gd (l.foldl (Ytkbkmngbenohkaa.stp E) s) := by
    intro l
    induction l with
    | nil => intro s h; exact h
    | cons x l ih => intro s h; exact ih _ (h.stp hE hn x)
  refine this pre _ fun a => ?_
  rw [List.getD_eq_getElem?_getD, List.getElem?_replicate]
  split <;> simp
def cw (n : Nat) (f : Nat → Bool) : Nat := (List.range n).foldl (fun w b => if f b = true then w ||| 2 ^ b else w) 0
theorem cw_bit (n : Nat) (f : Nat → Bool) (c : Nat) : (cw n f).testBit c = (decide (c < n) && f c) := by
  induction n with
  | zero => simp [cw]
  | succ n ih =>
    have hs : cw (n + 1) f = if f n = true then cw n f ||| 2 ^ n else cw n f := by simp [cw, List.range_succ, List.foldl_append]
    rw [hs]
    by_cases hf : f n = true
    · rw [if_pos hf, Nat.testBit_or, ih, Nat.testBit_two_pow]
      by_cases hc : c = n
      · subst hc; simp [hf]
      · have : (decide (c < n + 1)) = decide (c < n) := by rw [Bool.eq_iff_iff]; simp; omega
        rw [this]
        have h2 : decide (n = c) = false := by simp; omega
        rw [h2, Bool.or_false]
    · rw [if_neg hf, ih]
      by_cases hc : c = n
      · subst hc; simp [hf]
      · have : (decide (c < n + 1)) = decide (c < n) := by rw [Bool.eq_iff_iff]; simp; omega
        rw [this]
theorem cw_lt (n : Nat) (f : Nat → Bool) (hn : n ≤ 64) : cw n f < 18446744073709551616 := by
  rw [show (18446744073709551616 : Nat) = 2 ^ 64 from rfl]
  refine Nat.lt_pow_two_of_testBit _ fun i hi => ?_
  rw [cw_bit]
  have : ¬ i < n := by omega
  simp [this]
noncomputable def cloW (n : Nat) (E : Prs) : List Nat := (List.range n).map fun a => cw n (cl E a)
theorem cloW_lt {n : Nat} {E : Prs} {a b : Nat} (ha : a < n) (hb : b < n) : wlt (cloW n E) a b = cl E a b := by
  simp [wlt, cloW, List.getD_eq_getElem?_getD, ha, cw_bit, hb]
theorem nxt_mem {E : Prs} {a : Nat} {x : Int} : x ∈ nxt E a ↔ ((a : Int), x) ∈ E := by
  simp only [nxt, List.mem_map, List.mem_filter, beq_iff_eq]
  constructor
  · rintro ⟨p, ⟨hp, h1⟩, h2⟩
    have : p = ((a : Int), x) := Prod.ext h1 h2
    rw [← this]; exact hp
  · intro h; exact ⟨_, ⟨h, rfl⟩, rfl⟩
theorem sts_row {n : Nat} {E : Prs} (hE : inE n E = true) {k : Nat} {row : List Nat} {W : List Int} (h : KInv n E k row W) (hl : row.length = n) : ∀ (r p : List Nat), row = p ++ r → ∀ a, (sts n E r.reverse).getD a [] = if a ∈ r then [cw n (cl E a)] else []
  | [], p, _, a => by
    simp only [List.reverse_nil, sts, List.foldl_nil, List.not_mem_nil, if_false]
    rw [List.getD_eq_getElem?_getD, List.getElem?_replicate]
    split <;> rfl
  | x :: r, p, he, a => by
    have ih := sts_row hE h hl r (p ++ [x]) (by simp [he])
    rw [List.reverse_cons, sts_snoc]
    unfold stp
    rw [getD_set]
    have hxr : x ∈ row := by rw [he]; simp
    have hxn := h.lt x hxr
    by_cases hax : a = x
    · subst hax
      rw [if_pos ⟨rfl, by rw [sts_len]; exact hxn⟩, if_pos List.mem_cons_self]
      congr 1
      apply Nat.eq_of_testBit_eq
      intro c
      rw [wd_bit _ _ _ _ (Nat.le_refl _), List.take_length, cw_bit, Bool.eq_iff_iff]
      have hpa : row[p.length]? = some a := by rw [he]; simp
      simp only [List.any_eq_true, Bool.or_eq_true, beq_iff_eq, Bool.and_eq_true, decide_eq_true_eq, cl_iff]
      -- what a leads to stands behind it
      have hbr : ∀ b : Nat, ((a : Int), (b : Int)) ∈ E → b < n ∧ b ∈ r := by
        intro b hb
        have hbn : b < n := by have := inE_mem hE hb; simp only at this; omega
        refine ⟨hbn, ?_⟩
        obtain ⟨j, hj⟩ := h.index (h.all hl hbn)
        obtain ⟨i, y, h1, h2, h3⟩ := h.top j b hj _ hb rfl
        simp only at h3
        have hy : y = a := by omega
        subst hy
        have := nodup_idx h.nd h2 hpa
        subst this
        rw [he] at hj
        rw [List.getElem?_append_right (by omega)] at hj
        have hm : j - p.length = (j - p.length - 1) + 1 := by omega
        rw [hm, List.getElem?_cons_succ] at hj
        exact List.mem_of_getElem? hj
      constructor
      · rintro ⟨x, hx, hh⟩
        have hx' := nxt_mem.1 hx
        have hr := inE_mem hE hx'
        simp only at hr
        obtain ⟨b, hb⟩ := Int.eq_ofNat_of_zero_le hr.2.2.1
        subst hb
        simp only [Int.toNat_natCast] at hh
        obtain ⟨hbn, hbr'⟩ := hbr b hx'
        rcases hh with rfl | hh
        · exact ⟨hbn, .one hx'⟩
        · rw [ih b, if_pos hbr'] at hh
          simp only [List.getD_cons_zero, cw_bit, Bool.and_eq_true, decide_eq_true_eq, cl_iff] at hh
          exact ⟨hh.1, .more hx' hh.2⟩
      · rintro ⟨hcn, hc⟩
        cases hc with
        | one h1 => exact ⟨_, nxt_mem.2 h1, .inl (by simp)⟩
        | more h1 h2 =>
          rename_i b
          obtain ⟨hbn, hbr'⟩ := hbr b h1
          refine ⟨_, nxt_mem.2 h1, .inr ?_⟩
          simp only [Int.toNat_natCast]
          rw [ih b, if_pos hbr']
          simp only [List.getD_cons_zero, cw_bit, Bool.and_eq_true, decide_eq_true_eq, cl_iff]
          exact ⟨hcn, h2⟩
    · rw [if_neg (by simp [hax]), ih a]
      simp [hax]
theorem sts_all {n : Nat} {E : Prs} (hE : inE n E = true) {k : Nat} {row : List Nat} {W : List Int} (h : KInv n E k row W) (hl : row.length = n) : sts n E row.reverse = (cloW n E).map fun w => [w] := by
  apply List.ext_getElem
  · simp [sts_len, cloW]
  · intro i h1 h2
    have hi : i < n := by rwa [sts_len] at h1
    have := sts_row hE h hl row [] rfl i
    rw [if_pos (h.all hl hi), List.getD_eq_getElem?_getD, List.getElem?_eq_getElem h1] at this
    simp only [Option.getD_some] at this
    rw [this]
    simp [cloW]
end Go.Proofs.Ytkbkmngbenohkaa
