/- The reference's blames are the words'. Plain Lean; no program. -/
import Derived.Test.YtkbkmngbenohkaaReW7
set_option linter.unusedSimpArgs false
set_option linter.unusedVariables false
namespace Go.Proofs.Ytkbkmngbenohkaa
open Go.RowKit

/-- Statuses from numbers. -/
def stv (l : List Int) (v : Nat) : Int := [0, 0, 2, 1, 0, 2].getD (pk l v 6).toNat 0
def st0 (n : Nat) (l : List Int) : List Int := (List.range n).map (stv l)
@[simp] theorem st0_len (n : Nat) (l : List Int) : (st0 n l).length = n := by simp [st0]
theorem st0_succ (n : Nat) (l : List Int) : st0 (n + 1) l = st0 n l ++ [stv l n] := by simp [st0, List.range_succ]
theorem pk_bd (l : List Int) (i : Nat) (n : Int) (hn : 1 ≤ n) : 0 ≤ pk l i n ∧ pk l i n < n := by
  unfold pk; split
  · exact ⟨around_lo _ _ hn, around_hi _ _ hn⟩
  · omega
def inh1 (o : List Int) (v : Nat) (a : List Nat) : List Int := a.foldl (fun o u => if o.getD u 0 = 1 ∧ o.getD v 0 = 0 then o.set v 1 else o) o
theorem inh1_snoc (o : List Int) (v : Nat) (a : List Nat) (u : Nat) : inh1 o v (a ++ [u]) = if (inh1 o v a).getD u 0 = 1 ∧ (inh1 o v a).getD v 0 = 0 then (inh1 o v a).set v 1 else inh1 o v a := by simp [inh1, List.foldl_append]
@[simp] theorem inh1_len (v : Nat) : ∀ (a : List Nat) (o : List Int), (inh1 o v a).length = o.length
  | [], _ => rfl
  | u :: a, o => by
    have e : inh1 o v (u :: a) = inh1 (if o.getD u 0 = 1 ∧ o.getD v 0 = 0 then o.set v 1 else o) v a := rfl
    rw [e, inh1_len v a]
    split <;> simp
/-- The versions above one, in increasing order. -/
noncomputable def upE (Ps : List (List Int)) (v : Nat) : List Nat := wat Ps.length (ancW Ps.length (edg Ps Ps.length 0)) (v : Int)
noncomputable def stK (Ps : List (List Int)) (l : List Int) (b : Bool) (k : Nat) : List Int := if b = true then (List.range k).foldl (fun o v => inh1 o v (upE Ps v)) (st0 Ps.length l) else st0 Ps.length l
theorem stK_zero (Ps : List (List Int)) (l : List Int) (b : Bool) : stK Ps l b 0 = st0 Ps.length l := by unfold stK; split <;> rfl
theorem stK_succ (Ps : List (List Int)) (l : List Int) (k : Nat) : stK Ps l true (k + 1) = inh1 (stK Ps l true k) k (upE Ps k) := by simp [stK, List.range_succ, List.foldl_append]
theorem stK_false (Ps : List (List Int)) (l : List Int) (k j : Nat) : stK Ps l false k = stK Ps l false j := rfl
@[simp] theorem stK_len (Ps : List (List Int)) (l : List Int) (b : Bool) : ∀ k, (stK Ps l b k).length = Ps.length
  | 0 => by rw [stK_zero]; simp
  | k + 1 => by
    cases b with
    | false => rw [stK_false Ps l (k + 1) k]; exact stK_len Ps l false k
    | true => rw [stK_succ, inh1_len]; exact stK_len Ps l true k
noncomputable def status32 (Ps : List (List Int)) (l : List Int) (b : Bool) : List Int := stK Ps l b Ps.length
@[simp] theorem status32_len (Ps : List (List Int)) (l : List Int) (b : Bool) : (status32 Ps l b).length = Ps.length := stK_len _ _ _ _
theorem upE_mem {Ps : List (List Int)} (h64 : Ps.length ≤ 64) {v u : Nat} (hv : v < Ps.length) : u ∈ upE Ps v ↔ u < Ps.length ∧ (u = v ∨ Clo (edg Ps Ps.length 0) u v) := by
  unfold upE wat
  rw [if_pos (by omega), Int.toNat_natCast, ancW_get hv, els_mem, aw1, cw_bit]
  simp only [Bool.and_eq_true, Bool.or_eq_true, decide_eq_true_eq, cl_iff]
  constructor
  · exact fun h => h.2
  · exact fun h => ⟨by omega, h⟩
theorem upE_nodup (Ps : List (List Int)) (v : Nat) : (upE Ps v).Nodup := by
  unfold upE wat
  split
  · exact List.Pairwise.filter _ List.nodup_range
  · exact List.nodup_nil
/-- The reference's test of a minimal version. -/
def rmin (Ps : List (List Int)) (st : List Int) (v : Nat) : Prop := st.getD v 0 = 1 ∧ ∀ u ∈ upE Ps v, u ≠ v → st.getD u 0 ≠ 1
theorem rmin_iff {Ps : List (List Int)} (h64 : Ps.length ≤ 64) {st : List Int} (hst : st.length = Ps.length) {v : Nat} (hv : v < Ps.length) : rmin Ps st v ↔ (aw1 Ps.length (edg Ps Ps.length 0) v &&& whr st 1) = 2 ^ v := by
  have hb : ∀ c, (aw1 Ps.length (edg Ps Ps.length 0) v &&& whr st 1).testBit c = true ↔ c ∈ upE Ps v ∧ st.getD c 0 = 1 := by
    intro c
    rw [Nat.testBit_and, aw1, cw_bit, whr_bit, upE_mem h64 hv, hst]
    simp only [Bool.and_eq_true, Bool.or_eq_true, decide_eq_true_eq, cl_iff]
    constructor
    · exact fun h => ⟨h.1, h.2.2⟩
    · exact fun h => ⟨h.1, h.1.1, h.2⟩
  have hvu : v ∈ upE Ps v := (upE_mem h64 hv).2 ⟨hv, .inl rfl⟩
  constructor
  · rintro ⟨h1, h2⟩
    apply Nat.eq_of_testBit_eq
    intro c
    rw [Nat.testBit_two_pow, Bool.eq_iff_iff, hb, decide_eq_true_eq]
    constructor
    · rintro ⟨h3, h4⟩
      exact Classical.byContradiction fun hne => h2 c h3 (fun e => hne e.symm) h4
    · rintro rfl; exact ⟨hvu, h1⟩
  · intro h
    have h3 := fun c => hb c
    rw [h] at h3
    simp only [Nat.testBit_two_pow, decide_eq_true_eq] at h3
    refine ⟨((h3 v).1 rfl).2, fun u hu hne hs => hne ((h3 u).2 ⟨hu, hs⟩).symm⟩
/-- The untestable parents alone. -/
def unt (st : List Int) (p : Int) : Bool := decide (st.getD p.toNat 0 = 2)
def Pst (Ps : List (List Int)) (st : List Int) : List (List Int) := Ps.map fun r => r.filter (unt st)
@[simp] theorem Pst_len (Ps : List (List Int)) (st : List Int) : (Pst Ps st).length = Ps.length := by simp [Pst]
theorem els_cw {n : Nat} (h64 : n ≤ 64) (f : Nat → Bool) : els (cw n f) = (List.range n).filter f := by
  unfold els
  obtain ⟨d, hd⟩ : ∃ d, 64 = n + d := ⟨64 - n, by omega⟩
  rw [hd, List.range_add, List.filter_append]
  have e1 : List.filter (fun b => (cw n f).testBit b) (List.range n) = (List.range n).filter f := by
    refine List.filter_congr fun b hb => ?_
    rw [cw_bit, decide_eq_true (List.mem_range.1 hb), Bool.true_and]
  have e2 : List.filter (fun b => (cw n f).testBit b) ((List.range d).map (n + ·)) = [] := by
    rw [List.filter_eq_nil_iff]
    intro b hb
    obtain ⟨k, _, rfl⟩ := List.mem_map.1 hb
    rw [cw_bit, decide_eq_false (by omega), Bool.false_and]
    simp
  rw [e1, e2, List.append_nil]
/-- Inherited, as the reference says it. -/
def rinh (Ps : List (List Int)) (st : List Int) (k : Nat) : Prop := ∀ v, v < k → st.getD v 0 = 0 → ∀ u ∈ upE Ps v, st.getD u 0 ≠ 1
theorem inh_iff {Ps : List (List Int)} (h64 : Ps.length ≤ 64) {st : List Int} (hst : st.length = Ps.length) : inhB Ps.length (ancW Ps.length (edg Ps Ps.length 0)) st = true ↔ rinh Ps st Ps.length := by
  unfold inhB rinh
  rw [Bool.not_eq_true', List.any_eq_false]
  constructor
  · intro h v hv hs u hu h1
    have h2 := h v (els_mem.2 ⟨by omega, by rw [whr_bit, Bool.and_eq_true, decide_eq_true_eq, decide_eq_true_eq]; exact ⟨by omega, hs⟩⟩)
    apply h2
    rw [bne_iff_ne]
    intro he
    rw [ancW_get hv] at he
    have h3 : (aw1 Ps.length (edg Ps Ps.length 0) v &&& whr st 1).testBit u = true := by
      have h4 := (upE_mem h64 hv).1 hu
      rw [Nat.testBit_and, aw1, cw_bit, whr_bit]
      simp only [Bool.and_eq_true, Bool.or_eq_true, decide_eq_true_eq, cl_iff]
      exact ⟨h4, by omega, h1⟩
    rw [he] at h3
    simp at h3
  · intro h v hv hne
    have h1 := (els_mem.1 hv).2
    rw [whr_bit, Bool.and_eq_true, decide_eq_true_eq, decide_eq_true_eq, hst] at h1
    rw [bne_iff_ne, ancW_get h1.1] at hne
    apply hne
    apply Nat.eq_of_testBit_eq
    intro u
    rw [Nat.zero_testBit, Bool.eq_false_iff]
    intro hb
    rw [Nat.testBit_and, aw1, cw_bit, whr_bit] at hb
    simp only [Bool.and_eq_true, Bool.or_eq_true, decide_eq_true_eq, cl_iff] at hb
    exact h v h1.1 h1.2 u ((upE_mem h64 h1.1).2 hb.1) hb.2.2
end Go.Proofs.Ytkbkmngbenohkaa
