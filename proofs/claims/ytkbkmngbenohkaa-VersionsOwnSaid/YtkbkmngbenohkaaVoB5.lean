/- The words of the closure. Plain. -/
import Derived.Test.YtkbkmngbenohkaaVoB4
set_option linter.unusedSimpArgs false
set_option linter.unusedVariables false
namespace Go.Proofs.Ytkbkmngbenohkaa
open Go.RowKit

def f1 (s : List (List Nat)) (w : Nat) (b : Int) : Nat := (w ||| 2 ^ b.toNat) ||| (s.getD b.toNat []).getD 0 0
def cw (n : Nat) (f : Nat → Bool) : Nat := (List.range n).foldl (fun w b => if f b = true then w ||| 2 ^ b else w) 0
theorem cw_bit (n : Nat) (f : Nat → Bool) (c : Nat) : (cw n f).testBit c = (decide (c < n) && f c) := by
  induction n with
  | zero => simp [cw]
  | succ n ih =>
    have hs : cw (n + 1) f = if f n = true then cw n f ||| 2 ^ n else cw n f := by simp [cw, List.range_succ, List.foldl_append]
    rw [hs]
    by_cases hf : f n = true
    · rw [if_pos hf, Nat.testBit_or, ih, Nat.testBit_two_pow]
      by_cases hc : c = n
      · subst hc; simp [hf]
      · have : (decide (c < n + 1)) = decide (c < n) := by rw [Bool.eq_iff_iff]; simp; omega
        rw [this]
        have h2 : decide (n = c) = false := by simp; omega
        rw [h2, Bool.or_false]
    · rw [if_neg hf, ih]
      by_cases hc : c = n
      · subst hc; simp [hf]
      · have : (decide (c < n + 1)) = decide (c < n) := by rw [Bool.eq_iff_iff]; simp; omega
        rw [this]
theorem cw_lt (n : Nat) (f : Nat → Bool) (hn : n ≤ 64) : cw n f < 18446744073709551616 := by
  rw [show (18446744073709551616 : Nat) = 2 ^ 64 from rfl]
  refine Nat.lt_pow_two_of_testBit _ fun i hi => ?_
  rw [cw_bit]
  have : ¬ i < n := by omega
  simp [this]
theorem nxt_mem {E : Prs} {a : Nat} {x : Int} : x ∈ nxt E a ↔ ((a : Int), x) ∈ E := by
  simp only [nxt, List.mem_map, List.mem_filter, beq_iff_eq]
  constructor
  · rintro ⟨p, ⟨hp, h1⟩, h2⟩
    have : p = ((a : Int), x) := Prod.ext h1 h2
    rw [← this]; exact hp
  · intro h; exact ⟨_, ⟨h, rfl⟩, rfl⟩
end Go.Proofs.Ytkbkmngbenohkaa
