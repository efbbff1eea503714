/- Part 13 of the texts that the walk leans on: the machine, the walks, the plain laws. -/
import Derived.Test.YtkbkmngbenohkaaBcZ12
set_option linter.unusedSimpArgs false
set_option linter.unusedVariables false
namespace Go.Proofs.Ytkbkmngbenohkaa
open Go.RowKit

/-- The binary digits of a number. -/
def dgt : Nat → Nat
 | 0 => 0
 | m + 1 => 1 + dgt ((m + 1) / 2)
decreasing_by omega
theorem dgt_pos {m : Nat} (h : 0 < m) : dgt m = 1 + dgt (m / 2) := by
 obtain ⟨k, rfl⟩ : ∃ k, m = k + 1 := ⟨m - 1, by omega⟩
 rw [dgt]
theorem dgt_zero : dgt 0 = 0 := by rw [dgt]
theorem dgt_mono : ∀ (k a b : Nat), a ≤ b → b ≤ k → dgt a ≤ dgt b
 | 0, a, b, h, hk => by
  have : a = b := by omega
  rw [this]; exact Nat.le_refl _
 | k + 1, a, b, h, hk => by
  by_cases ha : a = 0
  ·rw [ha, dgt_zero]; exact Nat.zero_le _
  ·rw [dgt_pos (show 0 < a by omega), dgt_pos (show 0 < b by omega)]
   have := dgt_mono k (a / 2) (b / 2) (by omega) (by omega)
   omega
/-- The open ones lie between lo and hi. -/
structure CH (n : Nat) (bad : Nat) (ord : List Nat) (lo hi : Nat) : Prop where
 ok : ok1 n ord
 lb : lo ≤ bad
 bh : bad ≤ hi
 hn : hi + 1 ≤ n
 out : ∀ v ∈ ord, v < lo ∨ hi ≤ v
 lo1 : lo = 0 ∨ lo - 1 ∈ ord
 hi1 : hi ∈ ord
 hd : n - 1 ∈ ord
theorem chain_step {ord : List Nat} {lo hi : Nat} {n bad : Nat} (h : CH n bad ord lo hi) (hlt : lo < hi) : ∃ lo' hi', CH n bad (ord ++ [lo + (hi - lo - 1) / 2]) lo' hi' ∧ hi' - lo' ≤ (hi - lo) / 2 := by
 have h3 := h.lb
 have h4 := h.bh
 have h5 := h.hn
 have hno : lo + (hi - lo - 1) / 2 ∉ ord := fun hm => by have := h.out _ hm; omega
 have hok := h.ok.add (v := lo + (hi - lo - 1) / 2) (by omega) hno
 by_cases hb : lo + (hi - lo - 1) / 2 < bad
 ·refine ⟨lo + (hi - lo - 1) / 2 + 1, hi, ⟨hok, by omega, h4, h5, fun v hv => ?_, .inr (by simp), by simp [h.hi1], by simp [h.hd]⟩, by omega⟩
  rcases List.mem_append.1 hv with hv | hv
  ·have := h.out v hv; omega
  ·simp at hv; omega
 ·refine ⟨lo, lo + (hi - lo - 1) / 2, ⟨hok, h3, by omega, by omega, fun v hv => ?_, h.lo1.imp id fun h => by simp [h], by simp, by simp [h.hd]⟩, by omega⟩
  rcases List.mem_append.1 hv with hv | hv
  ·have := h.out v hv; omega
  ·simp at hv; omega
theorem filter_single {P : Nat → Bool} {n b : Nat} (hb : b < n) (h1 : P b = true) (h2 : ∀ v, v < n → v ≠ b → P v = false) : (List.range n).filter P = [b] := by
 have e : List.range n = List.range' 0 b ++ (b :: List.range' (b + 1) (n - b - 1)) := by
  have h1 := List.range'_append_1 (s := 0) (m := b) (n := n - b)
  rw [Nat.zero_add, show b + (n - b) = n by omega, show n - b = (n - b - 1) + 1 by omega, List.range'_succ] at h1
  rw [List.range_eq_range', ← h1]
 have f1 : (List.range' 0 b).filter P = [] := by
  rw [List.filter_eq_nil_iff]
  intro v hv
  rw [List.mem_range'_1] at hv
  rw [h2 v (by omega) (by omega)]; simp
 have f2 : (List.range' (b + 1) (n - b - 1)).filter P = [] := by
  rw [List.filter_eq_nil_iff]
  intro v hv
  rw [List.mem_range'_1] at hv
  rw [h2 v (by omega) (by omega)]; simp
 rw [e, List.filter_append, List.filter_cons, f1, f2, if_pos h1]; rfl
section
variable {n : Nat} {R : Rl} (hR : ∀ a v, R a v = (decide (a ≤ v) && decide (v < n)))
include hR
theorem chain_up {lo m i : Nat} (hi : i < m) (hn : lo + m ≤ n) : upc R (List.range' lo m) (lo + i) = i + 1 := by
 unfold upc
 obtain ⟨d, rfl⟩ : ∃ d, m = (i + 1) + d := ⟨m - (i + 1), by omega⟩
 rw [← List.range'_append_1, List.countP_append, List.countP_eq_length.2, List.countP_eq_zero.2]
 ·simp
 ·intro x hx
  rw [List.mem_range'_1] at hx
  rw [hR]; simp; omega
 ·intro x hx
  rw [List.mem_range'_1] at hx
  rw [hR]; simp; omega
theorem chain_dn {lo m i : Nat} (hi : i < m) (hn : lo + m ≤ n) : dnc R (List.range' lo m) (lo + i) = m - i := by
 unfold dnc
 obtain ⟨d, rfl⟩ : ∃ d, m = i + d := ⟨m - i, by omega⟩
 rw [← List.range'_append_1, List.countP_append, List.countP_eq_zero.2, List.countP_eq_length.2]
 ·simp
 ·intro x hx
  rw [List.mem_range'_1] at hx
  rw [hR]; simp; omega
 ·intro x hx
  rw [List.mem_range'_1] at hx
  rw [hR]; simp; omega
theorem chain_chs {lo m : Nat} (hn : lo + m ≤ n) : ∀ k, k ≤ m → 0 < k → chsK R (List.range' lo m) k = if k ≤ (m - 1) / 2 + 1 then (((lo + k - 1 : Nat) : Int), (k : Int)) else (((lo + (m - 1) / 2 : Nat) : Int), (((m - 1) / 2 + 1 : Nat) : Int))
 | 0, _, h => by omega
 | k + 1, hk, _ => by
  have hl : (List.range' lo m).length = m := by simp
  have hg : (List.range' lo m).getD k 0 = lo + k := by
   rw [List.getD_eq_getElem?_getD, List.getElem?_eq_getElem (by omega), List.getElem_range']; simp
  rw [chsK_succ (by omega), hg]
  unfold chs1
  rw [chain_up hR (by omega) hn, chain_dn hR (by omega) hn]
  by_cases h0 : k = 0
  ·subst h0
   rw [show chsK R (List.range' lo m) 0 = (-1, -1) from rfl, if_pos (by simp only; omega), if_pos (by omega)]
   refine Prod.ext ?_ ?_ <;> simp only <;> omega
  ·rw [chain_chs hn k (by omega) (by omega)]
   by_cases h1 : k + 1 ≤ (m - 1) / 2 + 1
   ·rw [if_pos (show k ≤ (m - 1) / 2 + 1 by omega), if_pos h1]
    simp only
    rw [if_pos (by omega)]
    refine Prod.ext ?_ ?_ <;> simp only <;> omega
   ·rw [if_neg h1]
    by_cases h2 : k ≤ (m - 1) / 2 + 1
    ·rw [if_pos h2]
     simp only
     rw [if_neg (by omega)]
     refine Prod.ext ?_ ?_ <;> simp only <;> omega
    ·rw [if_neg h2]
     simp only
     rw [if_neg (by omega)]
theorem chain_chsN {lo m : Nat} (hn : lo + m ≤ n) (hm : 0 < m) : chsN R (List.range' lo m) = lo + (m - 1) / 2 := by
 have := chain_chs hR hn m (Nat.le_refl _) hm
 unfold chsN chs
 rw [List.length_range', this]
 split
 ·simp only [Int.toNat_natCast]; omega
 ·simp only [Int.toNat_natCast]
variable {st : List Int} {bad : Nat} (hst : ∀ v, v < n → nst st v = if v < bad then 0 else 1)
include hst
theorem chain_opn {ord : List Nat} {lo hi : Nat} (h : CH n bad ord lo hi) : opn R n ord st (n - 1) (List.range n) = List.range' lo (hi - lo) := by
 have e : List.range n = List.range' 0 lo ++ (List.range' lo (hi - lo) ++ List.range' hi (n - hi)) := by
  have h1 := List.range'_append_1 (s := lo) (m := hi - lo) (n := n - hi)
  have h2 := List.range'_append_1 (s := 0) (m := lo) (n := n - lo)
  have h3 := h.lb
  have h4 := h.bh
  have h5 := h.hn
  rw [show lo + (hi - lo) = hi by omega, show hi - lo + (n - hi) = n - lo by omega] at h1
  rw [Nat.zero_add, show lo + (n - lo) = n by omega] at h2
  rw [h1, h2, List.range_eq_range']
 have h3 := h.lb
 have h4 := h.bh
 have h5 := h.hn
 unfold opn
 rw [e, List.filter_append, List.filter_append]
 have e1 : (List.range' 0 lo).filter (fun v => !stl R n ord st (n - 1) v) = [] := by
  rw [List.filter_eq_nil_iff]
  intro v hv
  rw [List.mem_range'_1] at hv
  have hl := h.lo1.resolve_left (by omega)
  have : stl R n ord st (n - 1) v = true := by
   unfold stl
   simp only [Bool.or_eq_true, decide_eq_true_eq, List.any_eq_true]
   refine .inr (.inl ⟨lo - 1, tst_mem.2 ⟨h.ok.2 _ hl, hl, ?_⟩, ?_⟩)
   ·rw [hst _ (h.ok.2 _ hl), if_pos (by omega)]
   ·rw [hR]; simp; omega
  simp [this]
 have e2 : (List.range' lo (hi - lo)).filter (fun v => !stl R n ord st (n - 1) v) = List.range' lo (hi - lo) := by
  rw [List.filter_eq_self]
  intro v hv
  rw [List.mem_range'_1] at hv
  rw [Bool.not_eq_true']
  unfold stl
  rw [Bool.or_eq_false_iff, Bool.or_eq_false_iff]
  refine ⟨?_, ?_, ?_⟩
  ·rw [decide_eq_false_iff_not]
   intro hm
   have := h.out v hm
   omega
  ·rw [List.any_eq_false]
   intro g hg
   obtain ⟨g1, g2, g3⟩ := tst_mem.1 hg
   have := h.out g g2
   rw [hst g g1] at g3
   rw [hR]
   split at g3
   ·simp; omega
   ·cases g3
  ·rw [List.any_eq_false]
   intro b hb
   obtain ⟨b1, b2, b3⟩ := tst_mem.1 hb
   have := h.out b b2
   rw [hst b b1] at b3
   rw [hR]
   split at b3
   ·cases b3
   ·simp; omega
 have e3 : (List.range' hi (n - hi)).filter (fun v => !stl R n ord st (n - 1) v) = [] := by
  rw [List.filter_eq_nil_iff]
  intro v hv
  rw [List.mem_range'_1] at hv
  have : stl R n ord st (n - 1) v = true := by
   unfold stl
   simp only [Bool.or_eq_true, decide_eq_true_eq, List.any_eq_true, Bool.and_eq_true]
   by_cases hh : hi = n - 1
   ·left
    have : v = n - 1 := by omega
    rw [this]; exact h.hd
   ·refine .inr (.inr ⟨hi, tst_mem.2 ⟨by omega, h.hi1, ?_⟩, hh, ?_⟩)
    ·rw [hst _ (by omega), if_neg (by omega)]
    ·rw [hR]; simp; omega
  simp [this]
 rw [e1, e2, e3]; simp
theorem chain_con (ord : List Nat) : con R n ord st = false := by
 unfold con
 rw [List.any_eq_false]
 intro g hg
 rw [Bool.not_eq_true, List.any_eq_false]
 intro b hb hr
 obtain ⟨g1, _, g3⟩ := tst_mem.1 hg
 obtain ⟨b1, _, b3⟩ := tst_mem.1 hb
 rw [hst g g1] at g3
 rw [hst b b1] at b3
 rw [hR] at hr
 simp at hr
 split at g3
 ·split at b3
  ·cases b3
  ·omega
 ·cases g3
theorem chain_lop : ∀ (k : Nat) (ord : List Nat) (lo hi : Nat), CH n bad ord lo hi → hi - lo ≤ k →
  (lop R n st (n - 1) (List.range n) k ord).2 = true ∧ (lop R n st (n - 1) (List.range n) k ord).1.length ≤ ord.length + dgt (hi - lo) ∧ CH n bad (lop R n st (n - 1) (List.range n) k ord).1 bad bad
 | k, ord, lo, hi, h, hk => by
  have h3 := h.lb
  have h4 := h.bh
  have ho := chain_opn hR hst h
  by_cases he : lo = hi
  ·have : opn R n ord st (n - 1) (List.range n) = [] := by rw [ho, he]; simp
   rw [lop_done _ this]
   have e1 : lo = bad := by omega
   have e2 : hi = bad := by omega
   subst e1
   subst e2
   exact ⟨rfl, by simp, h⟩
  ·obtain ⟨k, rfl⟩ : ∃ j, k = j + 1 := ⟨k - 1, by omega⟩
   have hne : opn R n ord st (n - 1) (List.range n) ≠ [] := by
    rw [ho]
    intro h0
    have := congrArg List.length h0
    simp at this
    omega
   rw [lop_next hne (chain_con hR hst _), ho, chain_chsN hR (by have := h.hn; omega) (by omega)]
   obtain ⟨lo', hi', c1, c2⟩ := chain_step h (by omega)
   obtain ⟨i1, i2, i3⟩ := chain_lop k _ lo' hi' c1 (by omega)
   refine ⟨i1, ?_, i3⟩
   have := dgt_mono _ _ _ c2 (Nat.le_refl _)
   rw [dgt_pos (show 0 < hi - lo by omega)]
   simp at i2
   omega
/-- In a chain the first bad one is blamed, without suspects, after few tests. -/
theorem chain_fnd {par : Nat → List Nat} (hpar : ∀ v, v < n → ∀ p ∈ par v, p + 1 = v) (hbn : bad < n) :
  (fnd R n par st (n - 1) (List.range n)).2 = true ∧ (fnd R n par st (n - 1) (List.range n)).1.2 = [(bad, [])] ∧ (fnd R n par st (n - 1) (List.range n)).1.1.length ≤ 1 + dgt (n - 1) := by
 have h0 : CH n bad [n - 1] 0 (n - 1) := ⟨⟨by simp, fun v hv => by simp at hv; omega⟩, by omega, by omega, by omega, fun v hv => by simp at hv; omega, .inl rfl, by simp, by simp⟩
 obtain ⟨i1, i2, i3⟩ := chain_lop hR hst n [n - 1] 0 (n - 1) h0 (by omega)
 have hc : cnd R n (lop R n st (n - 1) (List.range n) n [n - 1]).1 st = [bad] := by
  generalize (lop R n st (n - 1) (List.range n) n [n - 1]).1 = ord at i3
  have hbt : nst st bad = 1 := by rw [hst _ hbn, if_neg (by omega)]
  have hall : ∀ b, b < n → nst st b = 1 → bad ≤ b := fun b hb h => by
   rw [hst _ hb] at h
   split at h
   ·cases h
   ·omega
  unfold cnd tst
  rw [List.filter_filter]
  refine filter_single hbn ?_ fun v hv hne => ?_
  ·rw [Bool.and_eq_true, Bool.not_eq_true', List.any_eq_false]
   refine ⟨fun b hb => ?_, by simp [i3.hi1, hbt]⟩
   have hb2 := (List.mem_filter.1 hb).2
   have hb1 := List.mem_range.1 (List.mem_filter.1 hb).1
   simp only [Bool.and_eq_true, decide_eq_true_eq] at hb2
   have := hall b hb1 hb2.2
   rw [hR]; simp; omega
  ·rw [Bool.and_eq_false_iff]
   by_cases hv1 : nst st v = 1
   ·left
    have := hall v hv hv1
    rw [Bool.not_eq_false', List.any_eq_true]
    exact ⟨bad, List.mem_filter.2 ⟨List.mem_range.2 hbn, by simp [i3.hi1, hbt]⟩, by rw [hR]; simp; omega⟩
   ·right
    simp [hv1]
 have hv : vsF R n par st bad ((lop R n st (n - 1) (List.range n) n [n - 1]).1, []) = (((lop R n st (n - 1) (List.range n) n [n - 1]).1, []), true) := by
  generalize (lop R n st (n - 1) (List.range n) n [n - 1]).1 = ord at i3
  have : ∀ (l : List Nat), (∀ p ∈ l, p + 1 = bad) → ∀ rc, vlist (vstep (fun o => con R n o st) (unN st) rc) l (ord, []) = ((ord, []), true) := by
   intro l
   induction l with
   | nil => exact fun _ _ => rfl
   | cons p l ih =>
    intro hl rc
    have hp := hl p (by simp)
    have hpo : p ∈ ord := by
     have := i3.lo1.resolve_left (by omega)
     rwa [show bad - 1 = p by omega] at this
    have ha : adN ord p = ord := if_pos hpo
    have hu : unN st p = false := by
     unfold unN
     rw [hst _ (by omega), if_pos (by omega)]; rfl
    have hs : vstep (fun o => con R n o st) (unN st) rc p (ord, []) = ((ord, []), true) := by
     unfold vstep
     rw [ha, if_neg (by simp [chain_con hR hst]), if_neg (by simp [hu])]
    simp only [vlist, hs, if_true]
    exact ih (fun p' hp' => hl p' (by simp [hp'])) rc
  exact this (par bad) (hpar bad hbn) _
 unfold fnd
 rw [if_pos i1, hc]
 have hs : bstep (vsF R n par st) n bad ((lop R n st (n - 1) (List.range n) n [n - 1]).1, []) = (((lop R n st (n - 1) (List.range n) n [n - 1]).1, [(bad, [])]), true) := by
  unfold bstep
  rw [if_pos (by rw [hv]), hv]
  have : fil n [] = [] := by simp [fil]
  simp only [this, List.nil_append]
 rw [vlist_one, hs]
 exact ⟨rfl, rfl, by simp at i2; omega⟩
end
end Go.Proofs.Ytkbkmngbenohkaa

namespace Go.Proofs.Ytkbkmngbenohkaa
open Go.RowKit

/-! ### Bounds -/
def bnd (n : Nat) : Nat := if n = 0 then 0 else 1 + dgt (n - 1)
theorem dgt_le : ∀ (b k : Nat), k ≤ b → dgt k ≤ k
 | 0, k, h => by
  have : k = 0 := by omega
  rw [this, dgt_zero]; exact Nat.le_refl _
 | b + 1, k, h => by
  by_cases hk : k = 0
  ·rw [hk, dgt_zero]; exact Nat.le_refl _
  ·rw [dgt_pos (by omega)]
   have := dgt_le b (k / 2) (by omega)
   omega
theorem bound_spec (n : Nat) (hn : n ≤ 1099511627776) : Spec Try.prog 78 (inSt [.v (.int .i64 (n : Int))] []) (outSt (.v (.int .i64 (bnd n : Int))) []) := by
 have hdl := dgt_le (n - 1) (n - 1) (Nat.le_refl _)
 refine Spec.ofN Try.func78 rfl Try.ntmps78 rfl ?_
 refine D_seq fun K1 hK1 => ?_
 refine D_region ?_
 refine DL_c (op_as _ (rfl : _ = AV.v (.int _ _))) ?_
 refine DL_nil (hK1 _ ?_)
 clear hK1; try clear K1
 refine D_seq fun K2 hK2 => ?_
 refine D_seq fun K3 hK3 => ?_
 refine D_region ?_
 refine DL_c (op_mv _ (rfl : _ = AV.v (.int _ _))) ?_
 refine DL_c (op_leq _ _ rfl rfl rfl) ?_
 refine DL_nil (hK3 _ ?_)
 clear hK3; try clear K3
 refine D_splitC rfl (fun hc6 => ?_) (fun hc6 => ?_)
 ·skip
  refine D_seq fun K4 hK4 => ?_
  refine D_region ?_
  refine DL_c (op_as _ (rfl : _ = AV.v (.int _ _))) ?_
  refine DL_nil (hK4 _ ?_)
  clear hK4; try clear K4
  refine D_ret ?_
  refine ret1 (.inr rfl) rfl (.tmp (rfl : _ = AV.v (.int _ _))) (Le.out [] [] (lvI ?_) rfl rfl rfl trivial trivial)
  unfold bnd; rw [if_pos (by omega)]; rfl
 ·skip
  have hb : bnd n = 1 + dgt (n - 1) := if_neg (by omega)
  refine D_skip (hK2 _ ?_)
  clear hK2; try clear K2
  refine D_seq fun K5 hK5 => ?_
  refine D_region ?_
  refine DL_c (op_as _ (rfl : _ = AV.v (.int _ _))) ?_
  refine DL_nil (hK5 _ ?_)
  clear hK5; try clear K5
  refine D_seq fun K6 hK6 => ?_
  refine D_seq fun K7 hK7 => ?_
  refine D_region ?_
  refine DL_c (op_mv _ (rfl : _ = AV.v (.int _ _))) ?_
  refine DL_c (op_sub _ _ rfl rfl (i64w (by omega))) ?_
  refine DL_c (op_as _ (rfl : _ = AV.v (.int _ _))) ?_
  refine DL_nil (hK7 _ ?_)
  clear hK7; try clear K7
  refine D_block ?_
  refine D_loopL (α := Nat × Nat) (fun z => z.2 + dgt z.1 = 1 + dgt (n - 1) ∧ z.1 ≤ n) 16 [] [] (fun z => [(4, .v (.int .i64 (z.1 : Int))), (3, .v (.int .i64 (z.2 : Int)))]) (fun z => []) [] [] (fun z => z.1) (n - 1, 1) ?_ (by
   refine Le.mkJ [] [] rfl ?_ ?_ trivial trivial ?_
   ·exact ⟨(lvI (by omega)), (lvI (by rfl)), trivial⟩
   ·exact trivial
   ·kernel_rfl) ?_
  ·exact ⟨rfl, by simp only; omega⟩
  intro z hz
  obtain ⟨m, k⟩ := z
  obtain ⟨hz, hm⟩ := hz
  simp only at hz hm ⊢
  refine D_seq fun K8 hK8 => ?_
  refine D_seq fun K9 hK9 => ?_
  refine D_region ?_
  refine DL_c (op_mv _ (rfl : _ = AV.v (.int _ _))) ?_
  refine DL_c (op_gtr _ _ rfl rfl rfl) ?_
  refine DL_nil (hK9 _ ?_)
  clear hK9; try clear K9
  refine D_splitC rfl (fun hc10 => ?_) (fun hc10 => ?_)
  ·skip
   have hd := dgt_pos (show 0 < m by omega)
   refine D_skip (hK8 _ ?_)
   clear hK8; try clear K8
   refine D_seq fun K10 hK10 => ?_
   refine D_block ?_
   refine D_region ?_
   refine DL_c (op_mv _ (rfl : _ = AV.v (.int _ _))) ?_
   refine DL_c (op_add _ _ rfl rfl (i64w (by omega))) ?_
   refine DL_c (op_as _ (rfl : _ = AV.v (.int _ _))) ?_
   refine DL_nil (hK10 _ ?_)
   clear hK10; try clear K10
   refine D_region ?_
   refine DL_c (op_mv _ (rfl : _ = AV.v (.int _ _))) ?_
   refine DL_c (op_quo _ _ rfl rfl (by omega) ((i64w (by rw [Int.tdiv_eq_ediv_of_nonneg (by omega)]; omega)).trans (Int.tdiv_eq_ediv_of_nonneg (by omega)))) ?_
   refine DL_c (op_as _ (rfl : _ = AV.v (.int _ _))) ?_
   refine DL_nil ?_
   refine ⟨(m / 2, k + 1), ?_, ?_, ?_⟩
   ·exact ⟨by simp only; omega, by simp only; omega⟩
   ·skip
    refine Le.mkJ [] [] rfl ?_ ?_ trivial trivial ?_
    ·exact ⟨(lvI (by rfl)), (lvI (by rfl)), trivial⟩
    ·exact trivial
    ·kernel_rfl
   ·simp only; omega
  ·skip
   obtain rfl : m = 0 := by omega
   rw [dgt_zero] at hz
   refine D_exit ?_
   refine id (hK6 _ ?_)
   clear hK6; try clear K6
   refine D_seq fun K11 hK11 => ?_
   refine D_region ?_
   refine DL_c (op_mv _ (rfl : _ = AV.v (.int _ _))) ?_
   refine DL_c (op_as _ (rfl : _ = AV.v (.int _ _))) ?_
   refine DL_nil (hK11 _ ?_)
   clear hK11; try clear K11
   refine D_ret ?_
   refine ret1 (.inr rfl) rfl (.tmp (rfl : _ = AV.v (.int _ _))) (Le.out [] [] (lvI ?_) rfl rfl rfl trivial trivial)
   omega
/-! ### Chains -/
def chM (n : Nat) : List (List Int) := (List.range n).map fun (v : Nat) => if v = 0 then ([] : List Int) else [(v : Int) - 1]
@[simp] theorem chM_len (n : Nat) : (chM n).length = n := by simp [chM]
theorem chM_get {n v : Nat} (h : v < n) : (chM n).getD v [] = if v = 0 then [] else [(v : Int) - 1] := by simp [chM, List.getD_eq_getElem?_getD, h]
theorem chM_succ (n : Nat) : chM (n + 1) = chM n ++ [if n = 0 then [] else [(n : Int) - 1]] := by simp [chM, List.range_succ]
theorem chain_spec (n : Nat) (hn : n ≤ 1000) : Spec Try.prog 77 (inSt [.v (.int .i64 (n : Int))] []) (outSt (.sl n (nrows (chM n))) []) := by
 refine Spec.ofN Try.func77 rfl Try.ntmps77 rfl ?_
 refine D_seq fun K1 hK1 => ?_
 refine D_region ?_
 refine DL_c (op_as _ (rfl : _ = AV.v (.slice _ _ _))) ?_
 refine DL_nil (hK1 _ ?_)
 clear hK1; try clear K1
 refine D_seq fun K2 hK2 => ?_
 refine D_region ?_
 refine DL_c (op_asN (3, 0) _ 29 1 rfl rfl) ?_
 refine DL_nil (hK2 _ ?_)
 clear hK2; try clear K2
 refine D_seq fun K3 hK3 => ?_
 refine D_seq fun K4 hK4 => ?_
 refine D_region ?_
 refine DL_c (op_as _ (rfl : _ = AV.v (.int _ _))) ?_
 refine DL_nil (hK4 _ ?_)
 clear hK4; try clear K4
 refine D_block ?_
 refine D_loopL (α := Nat) (fun v => v ≤ n) 23 [(0, _)] [] (fun v => [(4, .v (.int .i64 (v : Int))), (3, .ref (3, 0) 0 v)]) (fun v => [((3, 0), .row 29 1 (nrows (chM v)))]) [] [] (fun v => n - v) 0 ?_ (by
  refine Le.mkJ [] [] rfl ?_ ?_ trivial trivial ?_
  ·exact ⟨(iV rfl), (lvI (by rfl)), (lvRr rfl (by rfl)), trivial⟩
  ·exact ⟨(obR rfl rfl rfl (by rfl)), trivial⟩
  ·kernel_rfl) ?_
 ·omega
 intro v hv
 refine D_seq fun K5 hK5 => ?_
 refine D_seq fun K6 hK6 => ?_
 refine D_region ?_
 refine DL_c (op_mv _ (rfl : _ = AV.v (.int _ _))) ?_
 refine DL_c (op_mv _ (rfl : _ = AV.v (.int _ _))) ?_
 refine DL_c (op_lss _ _ rfl rfl rfl) ?_
 refine DL_nil (hK6 _ ?_)
 clear hK6; try clear K6
 refine D_splitC rfl (fun hc8 => ?_) (fun hc8 => ?_)
 ·skip
  refine D_skip (hK5 _ ?_)
  clear hK5; try clear K5
  refine D_seq fun K7 hK7 => ?_
  refine D_block ?_
  refine D_seq fun K8 hK8 => ?_
  refine D_region ?_
  refine DL_c (op_asN (5, 0) _ 3 1 rfl rfl) ?_
  refine DL_nil (hK8 _ ?_)
  clear hK8; try clear K8
  refine D_seq fun K9 hK9 => ?_
  refine D_seq fun K10 hK10 => ?_
  refine D_region ?_
  refine DL_c (op_mv _ (rfl : _ = AV.v (.int _ _))) ?_
  refine DL_c (op_gtr _ _ rfl rfl rfl) ?_
  refine DL_nil (hK10 _ ?_)
  clear hK10; try clear K10
  refine D_splitC rfl (fun hc12 => ?_) (fun hc12 => ?_)
  ·skip
   have hnx : nrows (chM (v + 1)) = nrows (chM v) ++ [.sl 1 (isl [(v : Int) - 1])] := by rw [chM_succ, if_neg (by omega)]; simp [nrows]
   refine D_region ?_
   refine DL_c (op_mv _ (rfl : _ = AV.ref _ _ _)) ?_
   refine DL_c (op_mv _ (rfl : _ = AV.v (.int _ _))) ?_
   refine DL_c (op_sub _ _ rfl rfl (i64w (by omega))) ?_
   refine DL_c (op_bsF _ _ inferInstance rfl (by rfl) (by simp <;> rfl) (by decide) rfl) ?_
   refine DL_c (op_ap (17, 0) _ _ inferInstance rfl rfl (by rfl) (by (refine .sl ?_; (simp [isl]; done))) (by omega) rfl (rfl) (rfl)) ?_
   refine DL_c (op_as _ (rfl : _ = AV.ref _ _ _)) ?_
   refine DL_nil (hK9 _ ?_)
   clear hK9; try clear K9
   refine D_le (Le.frzS (ys := isl [(v : Int) - 1]) 5 rfl rfl rfl (by rfl) (by simp)) ?_
   refine D_region ?_
   refine DL_c (op_mv _ (rfl : _ = AV.ref _ _ _)) ?_
   refine DL_c (op_mv _ (rfl : _ = AV.sl _ _)) ?_
   refine DL_c (op_bsF _ _ inferInstance rfl (by rfl) (by simp <;> rfl) (by decide) rfl) ?_
   refine DL_c (op_ap (21, 0) _ _ inferInstance rfl rfl (by (simp; done)) (by (refine .sl ?_; (simp [isl]; done))) (by omega) rfl (rfl) (rfl)) ?_
   refine DL_c (op_as _ (rfl : _ = AV.ref _ _ _)) ?_
   refine DL_nil (hK7 _ ?_)
   clear hK7; try clear K7
   refine D_le (σ' := mkStI 23 [(0, _), (3, _), (4, _)] [((21, 0), _)] [] []) (by
    refine Le.mkJ [] [] rfl ?_ ?_ trivial trivial ?_
    ·exact ⟨(iV rfl), (iR rfl), (iV rfl), trivial⟩
    ·exact ⟨(obE rfl rfl rfl), trivial⟩
    ·kernel_rfl) ?_
   refine D_region ?_
   refine DL_c (op_mv _ (rfl : _ = AV.v (.int _ _))) ?_
   refine DL_c (op_add _ _ rfl rfl (i64w (by omega))) ?_
   refine DL_c (op_as _ (rfl : _ = AV.v (.int _ _))) ?_
   refine DL_nil ?_
   refine ⟨v + 1, ?_, ?_, ?_⟩
   ·omega
   ·skip
    refine Le.mkJ [((3, 0), (21, 0))] [] rfl ?_ ?_ trivial trivial ?_
    ·exact ⟨(by repeat' (exact Lv.v)), (lvI (by rfl)), (lvRr rfl (by rfl)), trivial⟩
    ·exact ⟨(obR rfl rfl rfl (by rw [hnx])), trivial⟩
    ·kernel_rfl
   ·omega
  ·skip
   have hnx : nrows (chM (v + 1)) = nrows (chM v) ++ [.sl 0 (isl [])] := by rw [chM_succ, if_pos (by omega)]; simp [nrows]
   refine D_skip (hK9 _ ?_)
   clear hK9; try clear K9
   refine D_le (Le.frzS (ys := isl []) 5 rfl rfl rfl (by rfl) (by simp)) ?_
   refine D_region ?_
   refine DL_c (op_mv _ (rfl : _ = AV.ref _ _ _)) ?_
   refine DL_c (op_mv _ (rfl : _ = AV.sl _ _)) ?_
   refine DL_c (op_bsF _ _ inferInstance rfl (by rfl) (by simp <;> rfl) (by decide) rfl) ?_
   refine DL_c (op_ap (21, 0) _ _ inferInstance rfl rfl (by (simp; done)) (by (refine .sl ?_; (simp [isl]; done))) (by omega) rfl (rfl) (rfl)) ?_
   refine DL_c (op_as _ (rfl : _ = AV.ref _ _ _)) ?_
   refine DL_nil (hK7 _ ?_)
   clear hK7; try clear K7
   refine D_region ?_
   refine DL_c (op_mv _ (rfl : _ = AV.v (.int _ _))) ?_
   refine DL_c (op_add _ _ rfl rfl (i64w (by omega))) ?_
   refine DL_c (op_as _ (rfl : _ = AV.v (.int _ _))) ?_
   refine DL_nil ?_
   refine ⟨v + 1, ?_, ?_, ?_⟩
   ·omega
   ·skip
    refine Le.mkJ [((3, 0), (21, 0))] [] rfl ?_ ?_ trivial trivial ?_
    ·exact ⟨(by repeat' (exact Lv.v)), (lvI (by rfl)), (lvRr rfl (by rfl)), trivial⟩
    ·exact ⟨(obR rfl rfl rfl (by rw [hnx])), trivial⟩
    ·kernel_rfl
   ·omega
 ·skip
  refine D_exit ?_
  refine id (hK3 _ ?_)
  clear hK3; try clear K3
  refine D_seq fun K11 hK11 => ?_
  refine D_region ?_
  refine DL_c (op_mv _ (rfl : _ = AV.ref _ _ _)) ?_
  refine DL_c (op_as _ (rfl : _ = AV.ref _ _ _)) ?_
  refine DL_nil (hK11 _ ?_)
  clear hK11; try clear K11
  refine D_ret ?_
  obtain rfl : v = n := by omega
  exact ret1 (.inr rfl) rfl (.tmp (rfl : _ = AV.ref _ _ _)) (Le.out [] [(3, 0)] (frz0 rfl rfl (by simp) rfl) rfl rfl rfl ⟨rfl, trivial⟩ trivial)
theorem chM_edg {n a b : Nat} : ((a : Int), (b : Int)) ∈ edg (chM n) n 0 ↔ b < n ∧ a + 1 = b := by
 rw [edg_mem]
 constructor
 ·rintro ⟨v, hv, h1, h2⟩
  rw [chM_get hv] at h2
  simp only at h1 h2
  split at h2
  ·simp at h2
  ·simp at h2; omega
 ·rintro ⟨h1, h2⟩
  refine ⟨b, h1, rfl, ?_⟩
  rw [chM_get h1, if_neg (by omega)]
  simp; omega
theorem chM_valid (n : Nat) : Valid (chM n) := by
 intro v hv
 rw [chM_len] at hv
 rw [chM_get hv, chM_len]
 split
 ·exact ⟨List.nodup_nil, fun p hp => by simp at hp⟩
 ·exact ⟨by simp, fun p hp => by simp at hp; omega⟩
theorem chM_clo {n a b : Nat} : Clo (edg (chM n) n 0) a b ↔ a < b ∧ b < n := by
 constructor
 ·intro h
  induction h with
  | one h => have := chM_edg.1 h; omega
  | more h _ ih => have := chM_edg.1 h; omega
 ·rintro ⟨h1, h2⟩
  obtain ⟨d, rfl⟩ : ∃ d, b = a + d + 1 := ⟨b - a - 1, by omega⟩
  induction d generalizing a with
  | zero => exact .one (chM_edg.2 ⟨h2, rfl⟩)
  | succ d ih => exact .more (chM_edg.2 ⟨by omega, rfl⟩ : ((a : Int), ((a + 1 : Nat) : Int)) ∈ _) (by
    have := ih (a := a + 1) (by omega) (by omega)
    rwa [show a + 1 + d + 1 = a + (d + 1) + 1 by omega] at this)
theorem chM_lt {n a b : Nat} (h : Clo (edg (chM n) n 0) a b) : a < b := (chM_clo.1 h).1
theorem chM_acyc (n : Nat) : ¬ ∃ a, a < (chM n).length ∧ Clo (edg (chM n) (chM n).length 0) a a := fun ⟨a, _, h⟩ => by
 rw [chM_len] at h; exact Nat.lt_irrefl _ (chM_lt h)
theorem chM_R {n : Nat} (hn : n ≤ 64) (a v : Nat) : anR n (ancW n (edg (chM n) n 0)) a v = (decide (a ≤ v) && decide (v < n)) := by
 rw [Bool.eq_iff_iff, anR_iff (chM_len n), Bool.and_eq_true, decide_eq_true_eq, decide_eq_true_eq]
 constructor
 ·intro h
  have hv := upE_out (chM_len n) h
  have h2 := (upE_mem (by rw [chM_len]; exact hn) (by rw [chM_len]; exact hv)).1 h
  rw [chM_len, chM_clo] at h2
  omega
 ·rintro ⟨h1, h2⟩
  refine (upE_mem (by rw [chM_len]; exact hn) (by rw [chM_len]; exact h2)).2 ?_
  rw [chM_len, chM_clo]
  omega
theorem chM_par {n : Nat} (hn : n ≤ 64) {v p : Nat} (h : p ∈ wat n (parW (chM n)) (v : Int)) : p + 1 = v ∧ v < n := by
 have := (wat_par (chM_len n) hn (chM_valid n)).1 h
 have := chM_edg.1 this.2
 omega
theorem chM_up {n h : Nat} (hn : n ≤ 64) (hh : h < n) : upE (chM n) h = List.range (h + 1) := by
 rw [← scp_up (chM_len n) hn hh]
 unfold scp
 obtain ⟨d, rfl⟩ : ∃ d, n = (h + 1) + d := ⟨n - (h + 1), by omega⟩
 rw [List.range_add, List.filter_append, List.filter_eq_self.2, List.filter_eq_nil_iff.2, List.append_nil]
 ·intro u hu
  rw [List.mem_map] at hu
  obtain ⟨x, _, rfl⟩ := hu
  rw [chM_R hn]; simp; omega
 ·intro u hu
  have := List.mem_range.1 hu
  rw [chM_R hn]; simp; omega
theorem newC_spec (n : Nat) (hn : n ≤ 64) : Spec Try.prog 58 (inSt [.sl n (nrows (chM n))] []) (outSt (.tup [.fp 0 (gra n (parW (chM n)) (ancW n (edg (chM n) n 0))), .v (.int .i64 0)]) []) := by
 have hN := vnew_spec n (chM n) (chM_len n) (by omega) (fun v => by
  by_cases hv : v < n
  ·rw [chM_get hv]; split <;> simp
  ·rw [List.getD_eq_getElem?_getD, List.getElem?_eq_none (by rw [chM_len]; omega)]; simp) fun hV _ a _ => by
  have := nxt_edg (Ps := chM n) a n fun v hv => (hV v (by rw [chM_len]; exact hv)).1
  rw [this, List.length_map]
  exact Nat.le_trans (filter_few (a := a) (m := 1) _ fun v hp => by
   rw [decide_eq_true_eq] at hp
   by_cases hv : v < n
   ·rw [chM_get hv] at hp
    split at hp
    ·simp at hp
    ·simp at hp; omega
   ·rw [List.getD_eq_getElem?_getD, List.getElem?_eq_none (by rw [chM_len]; omega)] at hp; simp at hp) (by decide)
 rw [newV_ok (by rw [chM_len]; omega) (chM_valid n) (chM_acyc n), chM_len] at hN
 exact hN
theorem same33_spec (n m : Nat) (L M : List (Nat × List Nat)) (hL : L.length = n) (hM : M.length = m) (h1 : n ≤ 1000) (h2 : m ≤ 1000) (h3 : ∀ i, (L.getD i (0, [])).2.length ≤ 1000) (h4 : ∀ i, (M.getD i (0, [])).2.length ≤ 1000) :
  Spec Try.prog 75 (inSt [.sl n (blR L), .sl m (blR M)] []) (outSt (.v (.bool (decide (L = M)))) []) := by
 subst hL; subst hM
 refine Spec.ofN Try.func75 rfl Try.ntmps75 rfl ?_
 refine D_seq fun K1 hK1 => ?_
 refine D_region ?_
 refine DL_c (op_as _ (rfl : _ = AV.v (.bool _))) ?_
 refine DL_nil (hK1 _ ?_)
 clear hK1; try clear K1
 refine D_seq fun K2 hK2 => ?_
 refine D_seq fun K3 hK3 => ?_
 refine D_region ?_
 refine DL_c (op_mv _ (rfl : _ = AV.sl _ _)) ?_
 refine DL_c (op_lenS _ inferInstance rfl) ?_
 refine DL_c (op_mv _ (rfl : _ = AV.sl _ _)) ?_
 refine DL_c (op_lenS _ inferInstance rfl) ?_
 refine DL_c (op_neq _ _ rfl rfl rfl) ?_
 refine DL_nil (hK3 _ ?_)
 clear hK3; try clear K3
 refine D_splitC rfl (fun hc10 => ?_) (fun hc10 => ?_)
 ·skip
  refine D_seq fun K4 hK4 => ?_
  refine D_region ?_
  refine DL_c (op_as _ (rfl : _ = AV.v (.bool _))) ?_
  refine DL_nil (hK4 _ ?_)
  clear hK4; try clear K4
  refine D_ret ?_
  refine ret1 (.inr rfl) rfl (.tmp (rfl : _ = AV.v (.bool _))) (Le.out [] [] (lvB ?_) rfl rfl rfl trivial trivial)
  exact decide_eq_false fun h => by subst h; omega
 ·skip
  refine D_skip (hK2 _ ?_)
  clear hK2; try clear K2
  refine D_seq fun K5 hK5 => ?_
  refine D_seq fun K6 hK6 => ?_
  refine D_region ?_
  refine DL_c (op_as _ (rfl : _ = AV.v (.int _ _))) ?_
  refine DL_nil (hK6 _ ?_)
  clear hK6; try clear K6
  refine D_block ?_
  refine D_loopL (α := Nat) (fun k => k ≤ L.length ∧ L.length = M.length ∧ L.take k = M.take k) 42 [(0, _), (1, _)] [] (fun k => [(5, .v (.int .i64 (k : Int)))]) (fun k => []) [] [] (fun k => L.length - k) 0 ?_ (by
   refine Le.mkJ [] [] rfl ?_ ?_ trivial trivial ?_
   ·exact ⟨(iS rfl), (iS rfl), (lvI (by rfl)), trivial⟩
   ·exact trivial
   ·kernel_rfl) ?_
  ·exact ⟨by omega, by omega, rfl⟩
  intro k hk
  obtain ⟨hk, hl, ht⟩ := hk
  refine D_seq fun K7 hK7 => ?_
  refine D_seq fun K8 hK8 => ?_
  refine D_region ?_
  refine DL_c (op_mv _ (rfl : _ = AV.v (.int _ _))) ?_
  refine DL_c (op_mv _ (rfl : _ = AV.sl _ _)) ?_
  refine DL_c (op_lenS _ inferInstance rfl) ?_
  refine DL_c (op_lss _ _ rfl rfl rfl) ?_
  refine DL_nil (hK8 _ ?_)
  clear hK8; try clear K8
  refine D_splitC rfl (fun hc14 => ?_) (fun hc14 => ?_)
  ·skip
   have hkx : k < L.length := by omega
   have hky : k < M.length := by omega
   have h3k := h3 k
   have h4k := h4 k
   refine D_skip (hK7 _ ?_)
   clear hK7; try clear K7
   refine D_seq fun K9 hK9 => ?_
   refine D_block ?_
   refine D_seq fun K10 hK10 => ?_
   refine D_le (σ' := mkStI 42 [(0, _), (1, _), (5, _)] [] [] []) (by
    refine Le.mkJ [] [] rfl ?_ ?_ trivial trivial ?_
    ·exact ⟨(iS rfl), (iS rfl), (iV rfl), trivial⟩
    ·exact trivial
    ·kernel_rfl) ?_
   refine D_anyL 25 [17, 18, 19, 20, 21, 22, 23, 24, 25, 26, 27, 28, 29, 30, 31, 32, 33, 34, 35, 36, 37, 38, 39, 40, 41] [] (by kernel_rfl) (by kernel_rfl) rfl (nodupO_iff rfl) (rfl : _ = [_, _, _, _, _, _, _, _, _, _, _, _, _, _, _, _, _, _, _, _, _, _, _, _, _]) (rfl : _ = []) ?_
   refine any_c (_, []) (fun τ => op_mv _ (rfl : _ = AV.sl _ _)) ?_
   refine any_n (rfl : _ = [_]) ?_
   refine any_c (_, []) (fun τ => op_mv _ (rfl : _ = AV.v (.int _ _))) ?_
   refine any_n (rfl : _ = [_, _]) ?_
   refine any_c (_, []) (fun τ => op_ixS _ _ inferInstance rfl rfl _ rfl (by omega) (by (simp only [isl_len, bsl_len, psl_len, mrows_len, nsl_len, ws_len, List.length_map, ul_len, psl_len, isl_len, nrows_len, mmap_len, smap_len, dcl_len, blR_len]; omega)) (by rfl)) ?_
   refine any_n (rfl : _ = [_, _, _]) ?_
   refine any_c (_, []) (fun τ => op_fldF _ inferInstance rfl rfl) ?_
   refine any_n (rfl : _ = [_, _, _, _]) ?_
   refine any_c (_, []) (fun τ => op_ldF _ inferInstance rfl (by exact blR_get0 _ _ (by omega)) rfl) ?_
   refine any_n (rfl : _ = [_, _, _, _, _]) ?_
   refine any_c (_, []) (fun τ => op_mv _ (rfl : _ = AV.sl _ _)) ?_
   refine any_n (rfl : _ = [_, _, _, _, _, _]) ?_
   refine any_c (_, []) (fun τ => op_mv _ (rfl : _ = AV.v (.int _ _))) ?_
   refine any_n (rfl : _ = [_, _, _, _, _, _, _]) ?_
   refine any_c (_, []) (fun τ => op_ixS _ _ inferInstance rfl rfl _ rfl (by omega) (by (simp only [isl_len, bsl_len, psl_len, mrows_len, nsl_len, ws_len, List.length_map, ul_len, psl_len, isl_len, nrows_len, mmap_len, smap_len, dcl_len, blR_len]; omega)) (by rfl)) ?_
   refine any_n (rfl : _ = [_, _, _, _, _, _, _, _]) ?_
   refine any_c (_, []) (fun τ => op_fldF _ inferInstance rfl rfl) ?_
   refine any_n (rfl : _ = [_, _, _, _, _, _, _, _, _]) ?_
   refine any_c (_, []) (fun τ => op_ldF _ inferInstance rfl (by exact blR_get0 _ _ (by omega)) rfl) ?_
   refine any_n (rfl : _ = [_, _, _, _, _, _, _, _, _, _]) ?_
   refine any_c (_, []) (fun τ => op_neq _ _ rfl rfl rfl) ?_
   refine any_n (rfl : _ = [_, _, _, _, _, _, _, _, _, _, _]) ?_
   refine any_c (_, []) (fun τ => op_mv _ (rfl : _ = AV.v (.bool _))) ?_
   refine any_caseC (fun hg28 => ?_) (fun hg28 => ?_)
   ·skip
    refine any_n (rfl : _ = [_, _, _, _, _, _, _, _, _, _, _, _]) ?_
    refine any_cn rfl (fun τ => rfl) (by decide) ?_
    refine any_n (rfl : _ = [_, _, _, _, _, _, _, _, _, _, _, _, _]) ?_
    refine any_cn rfl (fun τ => rfl) (by decide) ?_
    refine any_n (rfl : _ = [_, _, _, _, _, _, _, _, _, _, _, _, _, _]) ?_
    refine any_cn rfl (fun τ => rfl) (by decide) ?_
    refine any_n (rfl : _ = [_, _, _, _, _, _, _, _, _, _, _, _, _, _, _]) ?_
    refine any_cn rfl (fun τ => rfl) (by decide) ?_
    refine any_n (rfl : _ = [_, _, _, _, _, _, _, _, _, _, _, _, _, _, _, _]) ?_
    refine any_cn rfl (fun τ => rfl) (by decide) ?_
    refine any_n (rfl : _ = [_, _, _, _, _, _, _, _, _, _, _, _, _, _, _, _, _]) ?_
    refine any_cn rfl (fun τ => rfl) (by decide) ?_
    refine any_n (rfl : _ = [_, _, _, _, _, _, _, _, _, _, _, _, _, _, _, _, _, _]) ?_
    refine any_cn rfl (fun τ => rfl) (by decide) ?_
    refine any_n (rfl : _ = [_, _, _, _, _, _, _, _, _, _, _, _, _, _, _, _, _, _, _]) ?_
    refine any_cn rfl (fun τ => rfl) (by decide) ?_
    refine any_n (rfl : _ = [_, _, _, _, _, _, _, _, _, _, _, _, _, _, _, _, _, _, _, _]) ?_
    refine any_cn rfl (fun τ => rfl) (by decide) ?_
    refine any_n (rfl : _ = [_, _, _, _, _, _, _, _, _, _, _, _, _, _, _, _, _, _, _, _, _]) ?_
    refine any_cn rfl (fun τ => rfl) (by decide) ?_
    refine any_n (rfl : _ = [_, _, _, _, _, _, _, _, _, _, _, _, _, _, _, _, _, _, _, _, _, _]) ?_
    refine any_cn rfl (fun τ => rfl) (by decide) ?_
    refine any_n (rfl : _ = [_, _, _, _, _, _, _, _, _, _, _, _, _, _, _, _, _, _, _, _, _, _, _]) ?_
    refine any_cn rfl (fun τ => rfl) (by decide) ?_
    refine any_n (rfl : _ = [_, _, _, _, _, _, _, _, _, _, _, _, _, _, _, _, _, _, _, _, _, _, _, _]) ?_
    refine any_c (_, []) (fun τ => op_pick _ _ _ rfl (rfl : _ = AV.v (.bool _))) ?_
    refine any_n (rfl : _ = [_, _, _, _, _, _, _, _, _, _, _, _, _, _, _, _, _, _, _, _, _, _, _, _, _]) ?_
    refine any_end ⟨rfl, ?_⟩
    refine DL_nil (hK10 _ ?_)
    clear hK10; try clear K10
    refine D_cT rfl rfl ?_
    refine D_seq fun K11 hK11 => ?_
    refine D_le (σ' := mkStI 42 [] [] [] []) (by
     refine Le.mkJ [] [] rfl ?_ ?_ trivial trivial ?_
     ·exact trivial
     ·exact trivial
     ·kernel_rfl) ?_
    refine D_region ?_
    refine DL_c (op_as _ (rfl : _ = AV.v (.bool _))) ?_
    refine DL_nil (hK11 _ ?_)
    clear hK11; try clear K11
    refine D_ret ?_
    refine ret1 (.inr rfl) rfl (.tmp (rfl : _ = AV.v (.bool _))) (Le.out [] [] (lvB ?_) rfl rfl rfl trivial trivial)
    exact decide_eq_false fun h => by subst h; exact hg28 rfl
   ·skip
    refine any_n (rfl : _ = [_, _, _, _, _, _, _, _, _, _, _, _]) ?_
    refine any_cy (_, []) rfl (fun τ => rfl) (fun τ => op_mv _ (rfl : _ = AV.sl _ _)) ?_
    refine any_n (rfl : _ = [_, _, _, _, _, _, _, _, _, _, _, _, _]) ?_
    refine any_cy (_, []) rfl (fun τ => rfl) (fun τ => op_mv _ (rfl : _ = AV.v (.int _ _))) ?_
    refine any_n (rfl : _ = [_, _, _, _, _, _, _, _, _, _, _, _, _, _]) ?_
    refine any_cy (_, []) rfl (fun τ => rfl) (fun τ => op_ixS _ _ inferInstance rfl rfl _ rfl (by omega) (by (simp only [isl_len, bsl_len, psl_len, mrows_len, nsl_len, ws_len, List.length_map, ul_len, psl_len, isl_len, nrows_len, mmap_len, smap_len, dcl_len, blR_len]; omega)) (by rfl)) ?_
    refine any_n (rfl : _ = [_, _, _, _, _, _, _, _, _, _, _, _, _, _, _]) ?_
    refine any_cy (_, []) rfl (fun τ => rfl) (fun τ => op_fldF _ inferInstance rfl rfl) ?_
    refine any_n (rfl : _ = [_, _, _, _, _, _, _, _, _, _, _, _, _, _, _, _]) ?_
    refine any_cy (_, []) rfl (fun τ => rfl) (fun τ => op_ldF _ inferInstance rfl (by exact blR_get1 _ _ (by omega)) rfl) ?_
    refine any_n (rfl : _ = [_, _, _, _, _, _, _, _, _, _, _, _, _, _, _, _, _]) ?_
    refine any_cy (_, []) rfl (fun τ => rfl) (fun τ => op_mv _ (rfl : _ = AV.sl _ _)) ?_
    refine any_n (rfl : _ = [_, _, _, _, _, _, _, _, _, _, _, _, _, _, _, _, _, _]) ?_
    refine any_cy (_, []) rfl (fun τ => rfl) (fun τ => op_mv _ (rfl : _ = AV.v (.int _ _))) ?_
    refine any_n (rfl : _ = [_, _, _, _, _, _, _, _, _, _, _, _, _, _, _, _, _, _, _]) ?_
    refine any_cy (_, []) rfl (fun τ => rfl) (fun τ => op_ixS _ _ inferInstance rfl rfl _ rfl (by omega) (by (simp only [isl_len, bsl_len, psl_len, mrows_len, nsl_len, ws_len, List.length_map, ul_len, psl_len, isl_len, nrows_len, mmap_len, smap_len, dcl_len, blR_len]; omega)) (by rfl)) ?_
    refine any_n (rfl : _ = [_, _, _, _, _, _, _, _, _, _, _, _, _, _, _, _, _, _, _, _]) ?_
    refine any_cy (_, []) rfl (fun τ => rfl) (fun τ => op_fldF _ inferInstance rfl rfl) ?_
    refine any_n (rfl : _ = [_, _, _, _, _, _, _, _, _, _, _, _, _, _, _, _, _, _, _, _, _]) ?_
    refine any_cy (_, []) rfl (fun τ => rfl) (fun τ => op_ldF _ inferInstance rfl (by exact blR_get1 _ _ (by omega)) rfl) ?_
    refine any_n (rfl : _ = [_, _, _, _, _, _, _, _, _, _, _, _, _, _, _, _, _, _, _, _, _, _]) ?_
    refine any_cy (_, []) rfl (fun τ => rfl) (fun τ => (op_callH inferInstance (by repeat' (first | exact argsLv_nil | refine argsLv_cons ?_ ?_ | exact Lv.sl)) (same_spec _ _ ((L.getD k (0, [])).2.map fun (x : Nat) => (x : Int)) ((M.getD k (0, [])).2.map fun (x : Nat) => (x : Int)) (by simp) (by simp) (by omega) (by omega)) rfl rfl)) ?_
    refine any_n (rfl : _ = [_, _, _, _, _, _, _, _, _, _, _, _, _, _, _, _, _, _, _, _, _, _, _]) ?_
    refine any_cy (_, []) rfl (fun τ => rfl) (fun τ => op_not _ rfl rfl) ?_
    refine any_n (rfl : _ = [_, _, _, _, _, _, _, _, _, _, _, _, _, _, _, _, _, _, _, _, _, _, _, _]) ?_
    refine any_c (_, []) (fun τ => op_pick _ _ _ rfl (rfl : _ = AV.v (.bool _))) ?_
    refine any_n (rfl : _ = [_, _, _, _, _, _, _, _, _, _, _, _, _, _, _, _, _, _, _, _, _, _, _, _, _]) ?_
    refine any_end ⟨rfl, ?_⟩
    refine DL_nil (hK10 _ ?_)
    clear hK10; try clear K10
    refine D_splitC rfl (fun hc41 => ?_) (fun hc41 => ?_)
    ·skip
     refine D_seq fun K12 hK12 => ?_
     refine D_le (σ' := mkStI 42 [] [] [] []) (by
      refine Le.mkJ [] [] rfl ?_ ?_ trivial trivial ?_
      ·exact trivial
      ·exact trivial
      ·kernel_rfl) ?_
     refine D_region ?_
     refine DL_c (op_as _ (rfl : _ = AV.v (.bool _))) ?_
     refine DL_nil (hK12 _ ?_)
     clear hK12; try clear K12
     refine D_ret ?_
     refine ret1 (.inr rfl) rfl (.tmp (rfl : _ = AV.v (.bool _))) (Le.out [] [] (lvB ?_) rfl rfl rfl trivial trivial)
     exact decide_eq_false fun h => by subst h; exact hc41 rfl
    ·skip
     have hek : L.getD k (0, []) = M.getD k (0, []) := Prod.ext (by omega) (cast_inj.1 hc41)
     refine D_skip (hK9 _ ?_)
     clear hK9; try clear K9
     refine D_le (σ' := mkStI 42 [(0, _), (1, _), (5, _)] [] [] []) (by
      refine Le.mkJ [] [] rfl ?_ ?_ trivial trivial ?_
      ·exact ⟨(iS rfl), (iS rfl), (iV rfl), trivial⟩
      ·exact trivial
      ·kernel_rfl) ?_
     refine D_region ?_
     refine DL_c (op_mv _ (rfl : _ = AV.v (.int _ _))) ?_
     refine DL_c (op_add _ _ rfl rfl (i64w (by omega))) ?_
     refine DL_c (op_as _ (rfl : _ = AV.v (.int _ _))) ?_
     refine DL_nil ?_
     refine ⟨k + 1, ?_, ?_, ?_⟩
     ·exact ⟨by omega, hl, by rw [take1 (0, []) hkx, take1 (0, []) hky, ht, hek]⟩
     ·skip
      refine Le.mkJ [] [] rfl ?_ ?_ trivial trivial ?_
      ·exact ⟨(iS rfl), (iS rfl), (lvI (by rfl)), trivial⟩
      ·exact trivial
      ·kernel_rfl
     ·omega
  ·skip
   refine D_exit ?_
   refine id (hK5 _ ?_)
   clear hK5; try clear K5
   refine D_seq fun K13 hK13 => ?_
   refine D_region ?_
   refine DL_c (op_as _ (rfl : _ = AV.v (.bool _))) ?_
   refine DL_nil (hK13 _ ?_)
   clear hK13; try clear K13
   refine D_ret ?_
   refine ret1 (.inr rfl) rfl (.tmp (rfl : _ = AV.v (.bool _))) (Le.out [] [] (lvB ?_) rfl rfl rfl trivial trivial)
   rw [List.take_of_length_le (by omega), List.take_of_length_le (by omega)] at ht; exact decide_eq_true ht
/-! ### The documented example -/
theorem fnd4 : fnd (fun a v => decide (a ≤ v) && decide (v < 4)) 4 (fun v => wat 4 (parW (chM 4)) (v : Int)) [0, 0, 1, 1] 3 [0, 1, 2, 3] = (([3, 1, 2], [(2, [])]), true) := by decide
end Go.Proofs.Ytkbkmngbenohkaa

namespace Go.Proofs.Ytkbkmngbenohkaa
open Go.RowKit

/-- What is known of a graph, as the search takes it. -/
theorem findG_spec {n : Nat} {Ps : List (List Int)} (hPs : Ps.length = n) (h64 : n ≤ 64) (hV : Valid Ps) (hlt : ∀ {a b : Nat}, Clo (edg Ps n 0) a b → a < b) (st : List Int) (h1 : st.length ≤ 4611686018427387904) (h : Nat) (hh : h < n) (hs : nst st h = 1) :
  Spec Try.prog 72 (inStI [.fp 0 (gra n (parW Ps) (ancW n (edg Ps n 0))), .v (.int .i64 (h : Int)), .fn (.func 73) [.ptr (3, 9) 0] []] [((3, 9), .box 93 [.sl st.length (isl st), .v (.slice none 0 0)])])
   (fOut st (fnd (anR n (ancW n (edg Ps n 0))) n (fun v => wat n (parW Ps) (v : Int)) st h (upE Ps h))) := by
 have hG := gr_of hPs h64 hV hlt
 subst hPs
 have hu : wat Ps.length (ancW Ps.length (edg Ps Ps.length 0)) (h : Int) = upE Ps h := rfl
 have := find_spec Ps.length (parW Ps) (ancW Ps.length (edg Ps Ps.length 0)) (parW_len Ps) (ancW_len _ _) h64 (parW_lt hV h64) (ancW_lt h64 _) (fun v p hp => (hG.lt (hG.par hp)).1) st h1 h hh hs
  (by rw [hu]; exact (upE_mem h64 hh).2 ⟨hh, .inl rfl⟩) (fun v hv => by rw [hu] at hv; exact ((upE_mem h64 hh).1 hv).1)
 rw [hu] at this
 exact this
theorem findGv_spec {n : Nat} {Ps : List (List Int)} (hPs : Ps.length = n) (h64 : n ≤ 64) (hV : Valid Ps) (hlt : ∀ {a b : Nat}, Clo (edg Ps n 0) a b → a < b) (st : List Int) (h1 : st.length ≤ 4611686018427387904) (h : Nat) (hh : h < n) (hs : nst st h ≠ 1) :
  Spec Try.prog 72 (inStI [.fp 0 (gra n (parW Ps) (ancW n (edg Ps n 0))), .v (.int .i64 (h : Int)), .fn (.func 73) [.ptr (3, 9) 0] []] [((3, 9), .box 93 [.sl st.length (isl st), .v (.slice none 0 0)])])
   (outStI (.tup [.v (.slice none 0 0), .v (.slice none 0 0), .v (.int .i64 41)]) [((3, 9), .box 93 [.sl st.length (isl st), .ref (4, 8) 0 [h].length]), ((4, 8), .row 3 1 (nsl [h]))] [(3, 9)] [(3, 9)]) := by
 have hG := gr_of hPs h64 hV hlt
 subst hPs
 exact find_ver Ps.length (parW Ps) (ancW Ps.length (edg Ps Ps.length 0)) (parW_len Ps) (ancW_len _ _) h64 (parW_lt hV h64) (ancW_lt h64 _) (fun v p hp => (hG.lt (hG.par hp)).1) st h1 h hh hs
theorem bl_one (x : Nat × List Nat) (h : x.2.length ≤ 1000) (i : Nat) : ([x].getD i (0, [])).2.length ≤ 1000 := by
 cases i with
 | zero => exact h
 | succ i => simp
theorem lives33_spec : Spec Try.prog 76 (inSt [] []) (outSt (.v (.bool true)) []) := by
 have hC := chain_spec 4 (by decide)
 have hN := newC_spec 4 (by decide)
 have hF := findG_spec (chM_len 4) (by decide) (chM_valid 4) chM_lt [0, 0, 1, 1] (by decide) 3 (by decide) (by decide)
 have hRf : anR 4 (ancW 4 (edg (chM 4) 4 0)) = fun a v => decide (a ≤ v) && decide (v < 4) := funext fun a => funext fun v => chM_R (by decide) a v
 rw [hRf, chM_up (by decide) (by decide), show List.range (3 + 1) = [0, 1, 2, 3] from rfl, fnd4] at hF
 have hF : Spec Try.prog 72 (inStI [.fp 0 (gra 4 (parW (chM 4)) (ancW 4 (edg (chM 4) 4 0))), .v (.int .i64 3), .fn (.func 73) [.ptr (3, 9) 0] []] [((3, 9), .box 93 [.sl 4 (isl [0, 0, 1, 1]), .v (.slice none 0 0)])])
   (outStI (.tup [.ref (0, 8) 0 1, .ref (2, 8) 0 3, .v (.int .i64 0)]) [((3, 9), .box 93 [.sl 4 (isl [0, 0, 1, 1]), .ref (4, 8) 0 3]), ((4, 8), .row 3 1 (nsl [3, 1, 2])), ((0, 8), .row 75 2 (blR [(2, [])])), ((2, 8), .row 3 1 (nsl [3, 1, 2]))] [(3, 9)] [(3, 9)]) := hF
 have hS := same33_spec 1 1 [(2, [])] [(2, [])] rfl rfl (by decide) (by decide) (bl_one _ (by decide)) (bl_one _ (by decide))
 have hO := same_spec 3 3 [3, 1, 2] [3, 1, 2] rfl rfl (by decide) (by decide)
 generalize ancW 4 (edg (chM 4) 4 0) = A at *
 generalize parW (chM 4) = P at *
 refine Spec.ofN Try.func76 rfl Try.ntmps76 rfl ?_
 refine D_seq fun K1 hK1 => ?_
 refine D_region ?_
 refine DL_c (op_as _ (rfl : _ = AV.v (.bool _))) ?_
 refine DL_nil (hK1 _ ?_)
 clear hK1; try clear K1
 refine D_seq fun K2 hK2 => ?_
 refine D_region ?_
 refine DL_c (op_callH inferInstance (by repeat' (first | exact argsLv_nil | refine argsLv_cons ?_ ?_ | exact Lv.v)) (hC) rfl rfl) ?_
 refine DL_c (op_callH inferInstance (by repeat' (first | exact argsLv_nil | refine argsLv_cons ?_ ?_ | exact Lv.sl)) (hN) rfl rfl) ?_
 refine DL_c (op_mv _ (rfl : _ = AV.tup _)) ?_
 refine DL_c (op_ext _ rfl (rfl : _ = some (AV.fp _ _))) ?_
 refine DL_c (op_ext _ rfl (rfl : _ = some (AV.v (.int _ _)))) ?_
 refine DL_c (op_as _ (rfl : _ = AV.fp _ _)) ?_
 refine DL_c (op_as _ (rfl : _ = AV.v (.int _ _))) ?_
 refine DL_nil (hK2 _ ?_)
 clear hK2; try clear K2
 refine D_seq fun K3 hK3 => ?_
 refine D_seq fun K4 hK4 => ?_
 refine D_region ?_
 refine DL_c (op_mv _ (rfl : _ = AV.fp _ _)) ?_
 refine DL_c (op_eqN _ _ (by kernel_rfl) (.inr ⟨_, _, rfl⟩) rfl) ?_
 refine DL_c (op_mv _ (rfl : _ = AV.v (.bool _))) ?_
 refine DL_cy rfl rfl (op_mv _ (rfl : _ = AV.v (.int _ _))) ?_
 refine DL_cy rfl rfl (op_neq (r := false) _ _ rfl rfl rfl) ?_
 refine DL_c (op_pick (b := false) _ _ _ rfl rfl) ?_
 refine DL_nil (hK4 _ ?_)
 clear hK4; try clear K4
 refine D_cF rfl rfl ?_
 refine D_skip (hK3 _ ?_)
 clear hK3; try clear K3
 refine D_seq fun K5 hK5 => ?_
 refine D_region ?_
 refine DL_c (op_bsF _ _ inferInstance rfl (by rfl) (by simp <;> rfl) (by decide) rfl) ?_
 refine DL_c (op_build _ inferInstance rfl (by exact (rfl : _ = some [_, _]))) ?_
 refine DL_c (op_box (20, 0) _ rfl rfl) ?_
 refine DL_c (op_as _ (rfl : _ = AV.ptr _ _)) ?_
 refine DL_nil (hK5 _ ?_)
 clear hK5; try clear K5
 refine D_seq fun K6 hK6 => ?_
 refine D_le (σ' := mkStI 47 [(1, _), (3, _)] [((20, 0), _)] [] []) (by
  refine Le.mkJ [] [] rfl ?_ ?_ trivial trivial ?_
  ·exact ⟨(iF rfl), (iP rfl), trivial⟩
  ·exact ⟨(obE rfl rfl rfl), trivial⟩
  ·kernel_rfl) ?_
 refine D_region ?_
 refine DL_c (op_mv _ (rfl : _ = AV.fp _ _)) ?_
 refine DL_c (op_mv _ (rfl : _ = AV.ptr _ _)) ?_
 refine DL_c (op_mf _ _ (rfl : _ = [_]) (rfl : _ = [])) ?_
 refine DL_c (op_callP inferInstance [((3, 9), (20, 0)), ((4, 8), (60, 0)), ((0, 8), (61, 0)), ((2, 8), (62, 0))] ?_ (hF) ⟨⟨rfl, ⟨_, rfl, .box rfl (lv_cons .sl (lv_cons .v lv_nil))⟩, rfl⟩, trivial⟩ ⟨rfl, rfl, rfl, rfl, trivial⟩ (by kernel_rfl)) ?_
 ·repeat' (first | exact argsR_nil | refine argsR_cons ?_ ?_ | exact Lv.v | exact Lv.fp | exact lvPr rfl | refine Lv.fn rfl ?_ rfl ?_ | exact lv_nil | refine lv_cons ?_ ?_)
 refine DL_c (op_mv _ (rfl : _ = AV.tup _)) ?_
 refine DL_c (op_ext _ rfl (rfl : _ = some (AV.ref _ _ _))) ?_
 refine DL_c (op_ext _ rfl (rfl : _ = some (AV.ref _ _ _))) ?_
 refine DL_c (op_ext _ rfl (rfl : _ = some (AV.v (.int _ _)))) ?_
 refine DL_c (op_as _ (rfl : _ = AV.ref _ _ _)) ?_
 refine DL_c (op_as _ (rfl : _ = AV.ref _ _ _)) ?_
 refine DL_c (op_as _ (rfl : _ = AV.v (.int _ _))) ?_
 refine DL_nil (hK6 _ ?_)
 clear hK6; try clear K6
 refine D_seq fun K7 hK7 => ?_
 refine D_region ?_
 refine DL_c (op_mv _ (rfl : _ = AV.v (.int _ _))) ?_
 refine DL_c (op_eql (r := true) _ _ rfl rfl rfl) ?_
 refine DL_c (op_mv _ (rfl : _ = AV.v (.bool _))) ?_
 refine DL_cy rfl rfl (op_mv _ (rfl : _ = AV.ref _ _ _)) ?_
 refine DL_cy rfl rfl (op_lenR _ inferInstance rfl rfl) ?_
 refine DL_cy rfl rfl (op_eql (r := true) _ _ rfl rfl rfl) ?_
 refine DL_c (op_pick _ _ _ rfl (rfl : _ = AV.v (.bool _))) ?_
 refine DL_c (op_mv _ (rfl : _ = AV.v (.bool _))) ?_
 refine DL_cy rfl rfl (op_mv _ (rfl : _ = AV.ref _ _ _)) ?_
 refine DL_cy rfl rfl (op_build _ inferInstance rfl (by exact (rfl : _ = some [_, _]))) ?_
 refine DL_cy rfl rfl (op_bsB (39, 0) 1 _ inferInstance (r := [[.v (.int .i64 2), .v (.slice none 0 0)]]) rfl rfl (by simp) (by decide) (by decide) rfl rfl) ?_
 refine DL_le (Le.trans (Le.frzRt (ys := blR [(2, [])]) 39 rfl rfl rfl (by rfl)) (Le.nil0 (39, 0) 1 rfl rfl)) ?_
 refine DL_cy rfl rfl (op_callBH inferInstance (by repeat' (first | exact argsLv_nil | refine argsLv_cons ?_ ?_ | exact Lv.sl | (refine frz0 rfl rfl ?_ rfl; (simp; done)))) (hS) rfl) ?_
 refine DL_c (op_pick _ _ _ rfl (rfl : _ = AV.v (.bool _))) ?_
 refine DL_c (op_mv _ (rfl : _ = AV.v (.bool _))) ?_
 refine DL_cy rfl rfl (op_mv _ (rfl : _ = AV.ref _ _ _)) ?_
 refine DL_cy rfl rfl (op_bsF _ _ inferInstance rfl (by rfl) (by simp <;> rfl) (by decide) rfl) ?_
 refine DL_cy rfl rfl (op_callBH inferInstance (by repeat' (first | exact argsLv_nil | refine argsLv_cons ?_ ?_ | exact Lv.sl | (refine frz0 rfl rfl ?_ rfl; (simp; done)))) (hO) rfl) ?_
 refine DL_c (op_pick _ _ _ rfl (rfl : _ = AV.v (.bool _))) ?_
 refine DL_c (op_as _ (rfl : _ = AV.v (.bool _))) ?_
 refine DL_nil (hK7 _ ?_)
 clear hK7; try clear K7
 refine D_ret ?_
 refine ret1 (.inr rfl) rfl (.tmp (rfl : _ = AV.v (.bool _))) (Le.out [] [] (lvB ?_) rfl rfl rfl trivial trivial)
 rfl
end Go.Proofs.Ytkbkmngbenohkaa

namespace Go.Proofs.Ytkbkmngbenohkaa
open Go.RowKit

theorem find_argN (n : Nat) (P A : List Nat) (hP : P.length = n) (st : List Int) (h : Int) (hh : h < 0 ∨ (n : Int) ≤ h) :
  Spec Try.prog 72 (inStI [.fp 0 (gra n P A), .v (.int .i64 h), .fn (.func 73) [.ptr (3, 9) 0] []] [((3, 9), .box 93 [.sl st.length (isl st), .v (.slice none 0 0)])])
   (outStI (.tup [.sl 0 [], .sl 0 [], .v (.int .i64 1)]) [((3, 9), .box 93 [.sl st.length (isl st), .ref (4, 8) 0 0]), ((4, 8), .row 3 1 [])] [(3, 9)] [(3, 9)]) := by
 have hl := vlen_spec n P A
 refine Spec.ofNI Try.func72 rfl Try.ntmps72 rfl ?_
 refine D_seq fun K1 hK1 => ?_
 refine D_region ?_
 refine DL_c (op_as _ (rfl : _ = AV.v (.slice _ _ _))) ?_
 refine DL_c (op_as _ (rfl : _ = AV.v (.slice _ _ _))) ?_
 refine DL_c (op_as _ (rfl : _ = AV.v (.int _ _))) ?_
 refine DL_nil (hK1 _ ?_)
 clear hK1; try clear K1
 refine D_seq fun K2 hK2 => ?_
 refine D_seq fun K3 hK3 => ?_
 refine D_le (Le.nilB (3, 9) 1 (4, 9) 3 1 rfl rfl rfl) ?_
 refine D_region ?_
 refine DL_c (op_mv _ (rfl : _ = AV.v (.int _ _))) ?_
 refine DL_c (op_lss _ _ rfl rfl rfl) ?_
 refine DL_c (op_mv _ (rfl : _ = AV.v (.bool _))) ?_
 refine DL_caseC (fun hg18 => ?_) (fun hg18 => ?_)
 ·skip
  refine DL_cn rfl rfl (by decide) ?_
  refine DL_cn rfl rfl (by decide) ?_
  refine DL_cn rfl rfl (by decide) ?_
  refine DL_cn rfl rfl (by decide) ?_
  refine DL_c (op_pick _ _ _ rfl (rfl : _ = AV.v (.bool _))) ?_
  refine DL_nil (hK3 _ ?_)
  clear hK3; try clear K3
  refine D_cT rfl rfl ?_
  refine D_seq fun K4 hK4 => ?_
  refine D_region ?_
  refine DL_c (op_as _ (rfl : _ = AV.v (.slice _ _ _))) ?_
  refine DL_c (op_as _ (rfl : _ = AV.v (.slice _ _ _))) ?_
  refine DL_c (op_as _ (rfl : _ = AV.v (.int _ _))) ?_
  refine DL_nil (hK4 _ ?_)
  clear hK4; try clear K4
  refine D_ret ?_
  exact ret3 (.inr rfl) rfl (.tmp (rfl : _ = AV.v _)) (.tmp (rfl : _ = AV.v _)) (.tmp (rfl : _ = AV.v _)) (Le.outI [((4, 8), (4, 9))] [] (.tup rfl (lv_cons .nil (lv_cons .nil (lv_cons .v lv_nil)))) rfl rfl rfl trivial ⟨⟨rfl, ⟨_, rfl, .box rfl (lv_cons .sl (lv_cons (lvRr rfl rfl) lv_nil))⟩, rfl⟩, ⟨rfl, ⟨_, rfl, .rowE rfl⟩, rfl⟩, trivial⟩ ⟨rfl, trivial⟩ rfl)
 ·skip
  skip
  refine DL_cy rfl rfl (op_mv _ (rfl : _ = AV.v (.int _ _))) ?_
  refine DL_cy rfl rfl (op_mv _ (rfl : _ = AV.fp _ _)) ?_
  refine DL_cy rfl rfl (op_callH inferInstance (by repeat' (first | exact argsLv_nil | refine argsLv_cons ?_ ?_ | exact Lv.fp)) (hl) rfl rfl) ?_
  refine DL_cy rfl rfl (op_geq _ _ rfl rfl rfl) ?_
  refine DL_c (op_pick _ _ _ rfl (rfl : _ = AV.v (.bool _))) ?_
  refine DL_nil (hK3 _ ?_)
  clear hK3; try clear K3
  refine D_splitC rfl (fun hc23 => ?_) (fun hc23 => ?_)
  ·skip
   refine D_seq fun K5 hK5 => ?_
   refine D_region ?_
   refine DL_c (op_as _ (rfl : _ = AV.v (.slice _ _ _))) ?_
   refine DL_c (op_as _ (rfl : _ = AV.v (.slice _ _ _))) ?_
   refine DL_c (op_as _ (rfl : _ = AV.v (.int _ _))) ?_
   refine DL_nil (hK5 _ ?_)
   clear hK5; try clear K5
   refine D_ret ?_
   exact ret3 (.inr rfl) rfl (.tmp (rfl : _ = AV.v _)) (.tmp (rfl : _ = AV.v _)) (.tmp (rfl : _ = AV.v _)) (Le.outI [((4, 8), (4, 9))] [] (.tup rfl (lv_cons .nil (lv_cons .nil (lv_cons .v lv_nil)))) rfl rfl rfl trivial ⟨⟨rfl, ⟨_, rfl, .box rfl (lv_cons .sl (lv_cons (lvRr rfl rfl) lv_nil))⟩, rfl⟩, ⟨rfl, ⟨_, rfl, .rowE rfl⟩, rfl⟩, trivial⟩ ⟨rfl, trivial⟩ rfl)
  ·skip
   exact absurd  hc23 (by omega)
/-- What Find comes to: the tests in order, the blames, the order that is told, the error. -/
noncomputable def findR (n : Nat) (Ps : List (List Int)) (st : List Int) (head : Int) : List Nat × List (Nat × List Nat) × List Nat × Int :=
 if head < 0 ∨ (n : Int) ≤ head then ([], [], [], 1)
 else if nst st head.toNat ≠ 1 then ([head.toNat], [], [], 41)
 else if (fnd (anR n (ancW n (edg Ps n 0))) n (fun v => wat n (parW Ps) (v : Int)) st head.toNat (upE Ps head.toNat)).2 = true
  then ((fnd (anR n (ancW n (edg Ps n 0))) n (fun v => wat n (parW Ps) (v : Int)) st head.toNat (upE Ps head.toNat)).1.1, (fnd (anR n (ancW n (edg Ps n 0))) n (fun v => wat n (parW Ps) (v : Int)) st head.toNat (upE Ps head.toNat)).1.2, (fnd (anR n (ancW n (edg Ps n 0))) n (fun v => wat n (parW Ps) (v : Int)) st head.toNat (upE Ps head.toNat)).1.1, 0)
  else ((fnd (anR n (ancW n (edg Ps n 0))) n (fun v => wat n (parW Ps) (v : Int)) st head.toNat (upE Ps head.toNat)).1.1, [], [], 42)
/-- Find, the box of whose tester bears the name (3, 9): the answers are data. -/
abbrev findS (n : Nat) (Ps : List (List Int)) (st : List Int) (head : Int) (r : List Nat × List (Nat × List Nat) × List Nat × Int) : Prop :=
 Spec Try.prog 72 (inStI [.fp 0 (gra n (parW Ps) (ancW n (edg Ps n 0))), .v (.int .i64 head), .fn (.func 73) [.ptr (3, 9) 0] []] [((3, 9), .box 93 [.sl st.length (isl st), .v (.slice none 0 0)])])
  (outStI (.tup [.sl r.2.1.length (blR r.2.1), .sl r.2.2.1.length (nsl r.2.2.1), .v (.int .i64 r.2.2.2)]) [((3, 9), .box 93 [.sl st.length (isl st), .ref (4, 8) 0 r.1.length]), ((4, 8), .row 3 1 (nsl r.1))] [(3, 9)] [(3, 9)])
theorem findR_spec {n : Nat} {Ps : List (List Int)} (hPs : Ps.length = n) (h64 : n ≤ 64) (hV : Valid Ps) (hlt : ∀ {a b : Nat}, Clo (edg Ps n 0) a b → a < b) (st : List Int) (h1 : st.length ≤ 4611686018427387904) (head : Int) :
  findS n Ps st head (findR n Ps st head) := by
 unfold findS findR
 by_cases hr : head < 0 ∨ (n : Int) ≤ head
 ·rw [if_pos hr]
  exact find_argN n (parW Ps) (ancW n (edg Ps n 0)) (by rw [parW_len, hPs]) st head hr
 ·rw [if_neg hr]
  obtain ⟨h, rfl⟩ := Int.eq_ofNat_of_zero_le (show 0 ≤ head by omega)
  have hh : h < n := by omega
  rw [Int.toNat_natCast]
  by_cases hs : nst st h = 1
  ·rw [if_neg (fun hn => hn hs)]
   have hF := findG_spec hPs h64 hV hlt st h1 h hh hs
   generalize fnd (anR n (ancW n (edg Ps n 0))) n (fun v => wat n (parW Ps) (v : Int)) st h (upE Ps h) = r at hF ⊢
   obtain ⟨⟨ord, bl⟩, b⟩ := r
   cases b with
   | true =>
    rw [if_pos rfl]
    refine hF.mono (Le.outII [] [(0, 8), (2, 8)] (.tup rfl (lv_cons (frz0 rfl rfl (by simp) rfl) (lv_cons (frz0 rfl rfl (by simp) rfl) (lv_cons .v lv_nil)))) rfl rfl rfl ⟨rfl, rfl, trivial⟩ ⟨⟨rfl, ⟨_, rfl, .box rfl (lv_cons .sl (lv_cons (lvRr rfl rfl) lv_nil))⟩, rfl⟩, ⟨rfl, ⟨_, rfl, .rowE rfl⟩, rfl⟩, trivial⟩ ⟨rfl, trivial⟩ rfl)
   | false =>
    rw [if_neg (by simp)]
    refine hF.mono (Le.outII [] [] (.tup rfl (lv_cons .nil (lv_cons .nil (lv_cons .v lv_nil)))) rfl rfl rfl trivial ⟨⟨rfl, ⟨_, rfl, .box rfl (lv_cons .sl (lv_cons (lvRr rfl rfl) lv_nil))⟩, rfl⟩, ⟨rfl, ⟨_, rfl, .rowE rfl⟩, rfl⟩, trivial⟩ ⟨rfl, trivial⟩ rfl)
  ·rw [if_pos hs]
   have hF := findGv_spec hPs h64 hV hlt st h1 h hh hs
   refine hF.mono (Le.outII [] [] (.tup rfl (lv_cons .nil (lv_cons .nil (lv_cons .v lv_nil)))) rfl rfl rfl trivial ⟨⟨rfl, ⟨_, rfl, .box rfl (lv_cons .sl (lv_cons (lvRr rfl rfl) lv_nil))⟩, rfl⟩, ⟨rfl, ⟨_, rfl, .rowE rfl⟩, rfl⟩, trivial⟩ ⟨rfl, trivial⟩ rfl)
end Go.Proofs.Ytkbkmngbenohkaa

namespace Go.Proofs.Ytkbkmngbenohkaa
open Go.RowKit

/-- Good ones up to the first bad one. -/
def cst (bad k : Nat) : List Int := (List.range k).map fun i => if i < bad then 0 else 1
@[simp] theorem cst_len (bad k : Nat) : (cst bad k).length = k := by simp [cst]
theorem cst_succ (bad k : Nat) : cst bad (k + 1) = cst bad k ++ [if k < bad then 0 else 1] := by simp [cst, List.range_succ]
theorem cst_nst {bad n v : Nat} (hv : v < n) : nst (cst bad n) v = if v < bad then 0 else 1 := by
 have e : (cst bad n).getD v 2 = if v < bad then 0 else 1 := by simp [cst, List.getD_eq_getElem?_getD, hv]
 unfold nst
 rw [e]
 by_cases h : v < bad
 ·rw [if_pos h]; decide
 ·rw [if_neg h]; decide
theorem chain_R {n bad : Nat} (hn : n ≤ 64) (hb : bad < n) : ∃ ord : List Nat, findR n (chM n) (cst bad n) ((n - 1 : Nat) : Int) = (ord, [(bad, [])], ord, 0) ∧ ord.length ≤ bnd n := by
 have h := chain_fnd (R := anR n (ancW n (edg (chM n) n 0))) (n := n) (fun a v => chM_R hn a v) (st := cst bad n) (bad := bad) (fun v hv => cst_nst hv) (par := fun v => wat n (parW (chM n)) (v : Int)) (fun v _ p hp => (chM_par hn hp).1) hb
 have hup := chM_up hn (show n - 1 < n by omega)
 rw [show n - 1 + 1 = n by omega] at hup
 unfold findR
 rw [if_neg (by omega), Int.toNat_natCast, if_neg (fun hc => hc (by rw [cst_nst (by omega), if_neg (by omega)])), hup, if_pos h.1, h.2.1]
 refine ⟨_, rfl, ?_⟩
 unfold bnd
 rw [if_neg (by omega)]
 exact h.2.2
theorem chain_law (n0 first : Int) (hn0 : -9223372036854775808 ≤ n0 ∧ n0 ≤ 9223372036854775807) (hf0 : -9223372036854775808 ≤ first ∧ first ≤ 9223372036854775807) :
  Spec Try.prog 24 (inSt [.v (.int .i64 n0), .v (.int .i64 first)] []) (outSt (.v (.bool true)) []) := by
 have ha := around_spec n0 64 (by decide) (by decide) hn0.1 hn0.2
 have hlo := around_lo n0 64 (by decide)
 have hhi := around_hi n0 64 (by decide)
 obtain ⟨j, hj⟩ := Int.eq_ofNat_of_zero_le hlo
 rw [hj] at ha hhi
 obtain ⟨k, hk⟩ : ∃ k, k = j + 1 := ⟨_, rfl⟩
 have hk64 : k ≤ 64 := by omega
 have hk1 : 1 ≤ k := by omega
 have hb := around_spec first k (by omega) (by omega) hf0.1 hf0.2
 have hblo := around_lo first k (by omega)
 have hbhi := around_hi first k (by omega)
 obtain ⟨bad, hbad⟩ := Int.eq_ofNat_of_zero_le hblo
 rw [hbad] at hb hbhi
 have hbk : bad < k := by omega
 have hC := chain_spec k (by omega)
 have hN := newC_spec k hk64
 have hF := findR_spec (chM_len k) hk64 (chM_valid k) chM_lt (cst bad k) (by rw [cst_len]; omega) ((k - 1 : Nat) : Int)
 obtain ⟨ord, ho, hol⟩ := chain_R hk64 hbk
 unfold findS at hF
 rw [ho, cst_len, show ((k - 1 : Nat) : Int) = (k : Int) - 1 by omega] at hF
 simp only at hF
 have hS := same33_spec 1 1 [(bad, [])] [(bad, [])] rfl rfl (by decide) (by decide) (bl_one _ (by simp)) (bl_one _ (by simp))
 rw [decide_eq_true rfl] at hS
 have hB := bound_spec k (by omega)
 have hbl : bnd k ≤ k + 1 := by
  unfold bnd
  split
  ·omega
  ·have := dgt_le (k - 1) (k - 1) (Nat.le_refl _)
   omega
 generalize ancW k (edg (chM k) k 0) = A at *
 generalize parW (chM k) = P at *
 have hkj : (k : Int) = 1 + (j : Int) := by omega
 refine Spec.ofN Try.func24 rfl Try.ntmps24 rfl ?_
 refine D_seq fun K1 hK1 => ?_
 refine D_region ?_
 refine DL_c (op_as _ (rfl : _ = AV.v (.bool _))) ?_
 refine DL_nil (hK1 _ ?_)
 clear hK1; try clear K1
 refine D_seq fun K2 hK2 => ?_
 refine D_region ?_
 refine DL_c (op_mv _ (rfl : _ = AV.v (.int _ _))) ?_
 refine DL_c (op_callH inferInstance (by repeat' (first | exact argsLv_nil | refine argsLv_cons ?_ ?_ | exact Lv.v)) (ha) rfl rfl) ?_
 refine DL_c (op_add _ _ rfl rfl ((i64w (by omega)).trans hkj.symm)) ?_
 refine DL_c (op_as _ (rfl : _ = AV.v (.int _ _))) ?_
 refine DL_nil (hK2 _ ?_)
 clear hK2; try clear K2
 refine D_seq fun K3 hK3 => ?_
 refine D_region ?_
 refine DL_c (op_mv _ (rfl : _ = AV.v (.int _ _))) ?_
 refine DL_c (op_mv _ (rfl : _ = AV.v (.int _ _))) ?_
 refine DL_c (op_callH inferInstance (by repeat' (first | exact argsLv_nil | refine argsLv_cons ?_ ?_ | exact Lv.v)) (hb) rfl rfl) ?_
 refine DL_c (op_as _ (rfl : _ = AV.v (.int _ _))) ?_
 refine DL_nil (hK3 _ ?_)
 clear hK3; try clear K3
 refine D_seq fun K4 hK4 => ?_
 refine D_region ?_
 refine DL_c (op_mv _ (rfl : _ = AV.v (.int _ _))) ?_
 refine DL_c (op_callH inferInstance (by repeat' (first | exact argsLv_nil | refine argsLv_cons ?_ ?_ | exact Lv.v)) (hC) rfl rfl) ?_
 refine DL_c (op_callH inferInstance (by repeat' (first | exact argsLv_nil | refine argsLv_cons ?_ ?_ | exact Lv.sl)) (hN) rfl rfl) ?_
 refine DL_c (op_mv _ (rfl : _ = AV.tup _)) ?_
 refine DL_c (op_ext _ rfl (rfl : _ = some (AV.fp _ _))) ?_
 refine DL_c (op_ext _ rfl (rfl : _ = some (AV.v (.int _ _)))) ?_
 refine DL_c (op_as _ (rfl : _ = AV.fp _ _)) ?_
 refine DL_c (op_as _ (rfl : _ = AV.v (.int _ _))) ?_
 refine DL_nil (hK4 _ ?_)
 clear hK4; try clear K4
 refine D_seq fun K5 hK5 => ?_
 refine D_seq fun K6 hK6 => ?_
 refine D_le (σ' := mkStI 89 [(5, _), (6, _), (7, _), (8, _)] [] [] []) (by
  refine Le.mkJ [] [] rfl ?_ ?_ trivial trivial ?_
  ·exact ⟨(iV rfl), (iV rfl), (iF rfl), (iV rfl), trivial⟩
  ·exact trivial
  ·kernel_rfl) ?_
 refine D_region ?_
 refine DL_c (op_mv _ (rfl : _ = AV.fp _ _)) ?_
 refine DL_c (op_eqN _ _ (by kernel_rfl) (.inr ⟨_, _, rfl⟩) rfl) ?_
 refine DL_c (op_mv _ (rfl : _ = AV.v (.bool _))) ?_
 refine DL_cy rfl rfl (op_mv _ (rfl : _ = AV.v (.int _ _))) ?_
 refine DL_cy rfl rfl (op_neq (r := false) _ _ rfl rfl rfl) ?_
 refine DL_c (op_pick (b := false) _ _ _ rfl rfl) ?_
 refine DL_nil (hK6 _ ?_)
 clear hK6; try clear K6
 refine D_cF rfl rfl ?_
 refine D_skip (hK5 _ ?_)
 clear hK5; try clear K5
 refine D_seq fun K7 hK7 => ?_
 refine D_region ?_
 refine DL_c (op_asN (9, 0) _ 3 1 rfl rfl) ?_
 refine DL_nil (hK7 _ ?_)
 clear hK7; try clear K7
 refine D_seq fun K8 hK8 => ?_
 refine D_seq fun K9 hK9 => ?_
 refine D_region ?_
 refine DL_c (op_as _ (rfl : _ = AV.v (.int _ _))) ?_
 refine DL_nil (hK9 _ ?_)
 clear hK9; try clear K9
 refine D_block ?_
 refine D_loopL (α := Nat) (fun v => v ≤ k) 89 [(5, _), (6, _), (7, _)] [] (fun v => [(10, .v (.int .i64 (v : Int))), (9, .ref (9, 0) 0 v)]) (fun v => [((9, 0), .row 3 1 (isl (cst bad v)))]) [] [] (fun v => k - v) 0 ?_ (by
  refine Le.mkJ [] [] rfl ?_ ?_ trivial trivial ?_
  ·exact ⟨(iV rfl), (iV rfl), (iF rfl), (lvI (by rfl)), (lvRr rfl (by rfl)), trivial⟩
  ·exact ⟨(obR rfl rfl rfl (by rfl)), trivial⟩
  ·kernel_rfl) ?_
 ·omega
 intro v hv
 refine D_seq fun K10 hK10 => ?_
 refine D_seq fun K11 hK11 => ?_
 refine D_region ?_
 refine DL_c (op_mv _ (rfl : _ = AV.v (.int _ _))) ?_
 refine DL_c (op_mv _ (rfl : _ = AV.v (.int _ _))) ?_
 refine DL_c (op_lss _ _ rfl rfl rfl) ?_
 refine DL_nil (hK11 _ ?_)
 clear hK11; try clear K11
 refine D_splitC rfl (fun hc35 => ?_) (fun hc35 => ?_)
 ·skip
  have hos := cst_succ bad v
  refine D_skip (hK10 _ ?_)
  clear hK10; try clear K10
  refine D_seq fun K12 hK12 => ?_
  refine D_block ?_
  refine D_seq fun K13 hK13 => ?_
  refine D_region ?_
  refine DL_c (op_mv _ (rfl : _ = AV.v (.int _ _))) ?_
  refine DL_c (op_mv _ (rfl : _ = AV.v (.int _ _))) ?_
  refine DL_c (op_lss _ _ rfl rfl rfl) ?_
  refine DL_nil (hK13 _ ?_)
  clear hK13; try clear K13
  refine D_splitC rfl (fun hc40 => ?_) (fun hc40 => ?_)
  ·skip
   have hx : (if v < bad then (0 : Int) else 1) = 0 := if_pos (by omega)
   refine D_region ?_
   refine DL_c (op_mv _ (rfl : _ = AV.ref _ _ _)) ?_
   refine DL_c (op_bsF _ _ inferInstance rfl (by rfl) (by simp <;> rfl) (by decide) rfl) ?_
   refine DL_c (op_ap (43, 0) _ _ inferInstance rfl rfl (by (simp only [isl_len, bsl_len, psl_len, mrows_len, nsl_len, ws_len, List.length_map, ul_len, psl_len, isl_len, nrows_len, mmap_len, smap_len, dcl_len, blR_len, prL_len, stK_len, inh1_len, st0_len, status32_len, cst_len]; omega)) (by (refine .sl ?_; (simp [isl]; done))) (by omega) rfl (rfl) (rfl)) ?_
   refine DL_c (op_as _ (rfl : _ = AV.ref _ _ _)) ?_
   refine DL_nil (hK12 _ ?_)
   clear hK12; try clear K12
   refine D_region ?_
   refine DL_c (op_mv _ (rfl : _ = AV.v (.int _ _))) ?_
   refine DL_c (op_add _ _ rfl rfl (i64w (by omega))) ?_
   refine DL_c (op_as _ (rfl : _ = AV.v (.int _ _))) ?_
   refine DL_nil ?_
   refine ⟨v + 1, ?_, ?_, ?_⟩
   ·omega
   ·skip
    refine Le.mkJ [((9, 0), (43, 0))] [] rfl ?_ ?_ trivial trivial ?_
    ·exact ⟨(by repeat' (exact Lv.v)), (by repeat' (exact Lv.v)), (by repeat' (exact Lv.fp)), (lvI (by rfl)), (lvRr rfl (by rfl)), trivial⟩
    ·exact ⟨(obR rfl rfl rfl (by rw [hos, hx]; simp [isl])), trivial⟩
    ·kernel_rfl
   ·omega
  ·skip
   have hx : (if v < bad then (0 : Int) else 1) = 1 := if_neg (by omega)
   refine D_region ?_
   refine DL_c (op_mv _ (rfl : _ = AV.ref _ _ _)) ?_
   refine DL_c (op_bsF _ _ inferInstance rfl (by rfl) (by simp <;> rfl) (by decide) rfl) ?_
   refine DL_c (op_ap (46, 0) _ _ inferInstance rfl rfl (by (simp only [isl_len, bsl_len, psl_len, mrows_len, nsl_len, ws_len, List.length_map, ul_len, psl_len, isl_len, nrows_len, mmap_len, smap_len, dcl_len, blR_len, prL_len, stK_len, inh1_len, st0_len, status32_len, cst_len]; omega)) (by (refine .sl ?_; (simp [isl]; done))) (by omega) rfl (rfl) (rfl)) ?_
   refine DL_c (op_as _ (rfl : _ = AV.ref _ _ _)) ?_
   refine DL_nil (hK12 _ ?_)
   clear hK12; try clear K12
   refine D_region ?_
   refine DL_c (op_mv _ (rfl : _ = AV.v (.int _ _))) ?_
   refine DL_c (op_add _ _ rfl rfl (i64w (by omega))) ?_
   refine DL_c (op_as _ (rfl : _ = AV.v (.int _ _))) ?_
   refine DL_nil ?_
   refine ⟨v + 1, ?_, ?_, ?_⟩
   ·omega
   ·skip
    refine Le.mkJ [((9, 0), (46, 0))] [] rfl ?_ ?_ trivial trivial ?_
    ·exact ⟨(by repeat' (exact Lv.v)), (by repeat' (exact Lv.v)), (by repeat' (exact Lv.fp)), (lvI (by rfl)), (lvRr rfl (by rfl)), trivial⟩
    ·exact ⟨(obR rfl rfl rfl (by rw [hos, hx]; simp [isl])), trivial⟩
    ·kernel_rfl
   ·omega
 ·skip
  obtain rfl : v = k := by omega
  refine D_exit ?_
  refine id (hK8 _ ?_)
  clear hK8; try clear K8
  refine D_seq fun K14 hK14 => ?_
  refine D_le (Le.frzS 9 (ys := isl (cst bad v)) rfl rfl rfl (by rw [List.drop_zero, Nat.mul_one, List.take_of_length_le (by simp)]) (by simp)) ?_
  refine D_region ?_
  refine DL_c (op_mv _ (rfl : _ = AV.sl _ _)) ?_
  refine DL_c (op_build _ inferInstance rfl (by exact (rfl : _ = some [_, _]))) ?_
  refine DL_c (op_box (49, 0) _ rfl rfl) ?_
  refine DL_c (op_as _ (rfl : _ = AV.ptr _ _)) ?_
  refine DL_nil (hK14 _ ?_)
  clear hK14; try clear K14
  refine D_seq fun K15 hK15 => ?_
  refine D_region ?_
  refine DL_c (op_mv _ (rfl : _ = AV.fp _ _)) ?_
  refine DL_c (op_mv _ (rfl : _ = AV.v (.int _ _))) ?_
  refine DL_c (op_sub _ _ rfl rfl (i64w (by omega))) ?_
  refine DL_c (op_mv _ (rfl : _ = AV.ptr _ _)) ?_
  refine DL_c (op_mf _ _ (rfl : _ = [_]) (rfl : _ = [])) ?_
  refine DL_c (op_callP inferInstance [((3, 9), (49, 0)), ((4, 8), (60, 0))] ?_ (hF) ⟨⟨rfl, ⟨_, rfl, .box rfl (lv_cons .sl (lv_cons .v lv_nil))⟩, rfl⟩, trivial⟩ ⟨rfl, rfl, trivial⟩ (by kernel_rfl)) ?_
  ·repeat' (first | exact argsR_nil | refine argsR_cons ?_ ?_ | exact Lv.v | exact Lv.fp | exact lvPr rfl | refine Lv.fn rfl ?_ rfl ?_ | exact lv_nil | refine lv_cons ?_ ?_)
  refine DL_c (op_mv _ (rfl : _ = AV.tup _)) ?_
  refine DL_c (op_ext _ rfl (rfl : _ = some (AV.sl _ _))) ?_
  refine DL_c (op_ext _ rfl (rfl : _ = some (AV.sl _ _))) ?_
  refine DL_c (op_ext _ rfl (rfl : _ = some (AV.v (.int _ _)))) ?_
  refine DL_c (op_as _ (rfl : _ = AV.sl _ _)) ?_
  refine DL_c (op_as _ (rfl : _ = AV.sl _ _)) ?_
  refine DL_c (op_as _ (rfl : _ = AV.v (.int _ _))) ?_
  refine DL_nil (hK15 _ ?_)
  clear hK15; try clear K15
  refine D_seq fun K16 hK16 => ?_
  refine D_le (σ' := mkStI 89 [(5, _), (6, _), (11, _), (12, _), (13, _), (14, _)] [((49, 0), _), ((60, 0), _)] [] []) (by
   refine Le.mkJ [] [] rfl ?_ ?_ trivial trivial ?_
   ·exact ⟨(iV rfl), (iV rfl), (iP rfl), (iS rfl), (iS rfl), (iV rfl), trivial⟩
   ·exact ⟨(obE rfl rfl rfl), (obE rfl rfl rfl), trivial⟩
   ·kernel_rfl) ?_
  refine D_region ?_
  refine DL_c (op_mv _ (rfl : _ = AV.v (.int _ _))) ?_
  refine DL_c (op_eql (r := true) _ _ rfl rfl rfl) ?_
  refine DL_c (op_mv _ (rfl : _ = AV.v (.bool _))) ?_
  refine DL_cy rfl rfl (op_mv _ (rfl : _ = AV.sl _ _)) ?_
  refine DL_cy rfl rfl (op_mv _ (rfl : _ = AV.v (.int _ _))) ?_
  refine DL_cy rfl rfl (op_build _ inferInstance rfl (by exact (rfl : _ = some [_, _]))) ?_
  refine DL_cy rfl rfl (op_bsB (66, 0) 1 _ inferInstance (r := [[.v (.int .i64 (bad : Int)), .v (.slice none 0 0)]]) rfl rfl (by simp) (by decide) (by decide) rfl rfl) ?_
  refine DL_le (Le.trans (Le.frzRt (ys := blR [(bad, [])]) 66 rfl rfl rfl (by rfl)) (Le.nil0 (66, 0) 1 rfl rfl)) ?_
  refine DL_cy rfl rfl (op_callBH inferInstance (by repeat' (first | exact argsLv_nil | refine argsLv_cons ?_ ?_ | exact Lv.sl)) (hS) rfl) ?_
  refine DL_c (op_pick _ _ _ rfl (rfl : _ = AV.v (.bool _))) ?_
  refine DL_c (op_mv _ (rfl : _ = AV.v (.bool _))) ?_
  refine DL_cy rfl rfl (op_mv _ (rfl : _ = AV.sl _ _)) ?_
  refine DL_cy rfl rfl (op_lenS _ inferInstance rfl) ?_
  refine DL_cy rfl rfl (op_mv _ (rfl : _ = AV.v (.int _ _))) ?_
  refine DL_cy rfl rfl (op_callH inferInstance (by repeat' (first | exact argsLv_nil | refine argsLv_cons ?_ ?_ | exact Lv.v)) (hB) rfl rfl) ?_
  refine DL_cy rfl rfl (op_leq (r := true) _ _ rfl rfl (by rw [decide_eq_true_eq]; omega)) ?_
  refine DL_c (op_pick _ _ _ rfl (rfl : _ = AV.v (.bool _))) ?_
  refine DL_c (op_mv _ (rfl : _ = AV.v (.bool _))) ?_
  refine DL_cy rfl rfl (op_mv _ (rfl : _ = AV.ptr _ _)) ?_
  refine DL_cy rfl rfl (op_nilp _ rfl rfl) ?_
  refine DL_cy rfl rfl (op_fldP _ inferInstance rfl rfl rfl) ?_
  refine DL_cy rfl rfl (op_ldB _ inferInstance rfl rfl (rfl : _ = some (AV.ref _ _ _))) ?_
  refine DL_cy rfl rfl (op_lenR _ inferInstance rfl rfl) ?_
  refine DL_cy rfl rfl (op_mv _ (rfl : _ = AV.sl _ _)) ?_
  refine DL_cy rfl rfl (op_lenS _ inferInstance rfl) ?_
  refine DL_cy rfl rfl (op_eql (r := true) _ _ rfl rfl (by exact beq_self_eq_true _)) ?_
  refine DL_c (op_pick _ _ _ rfl (rfl : _ = AV.v (.bool _))) ?_
  refine DL_c (op_mv _ (rfl : _ = AV.v (.bool _))) ?_
  refine DL_cy rfl rfl (op_callH inferInstance (by repeat' (exact argsLv_nil)) (lives33_spec) rfl rfl) ?_
  refine DL_c (op_pick _ _ _ rfl (rfl : _ = AV.v (.bool _))) ?_
  refine DL_c (op_as _ (rfl : _ = AV.v (.bool _))) ?_
  refine DL_nil (hK16 _ ?_)
  clear hK16; try clear K16
  refine D_ret ?_
  refine ret1 (.inr rfl) rfl (.tmp (rfl : _ = AV.v (.bool _))) (Le.out [] [] (lvB ?_) rfl rfl rfl trivial trivial)
  rfl
end Go.Proofs.Ytkbkmngbenohkaa
