/- What comes in, opened: integers, rows of integers. -/
import Derived.Test.YtphlaojoehmhaaaLib
import Derived.DataReads
namespace Go.Proofs.Ytphlaojoehmhaaa
open Go.RowKit

theorem fits_of {n : Int} (h : (Lit.int .i64 n).wf = true) : -9223372036854775808 ≤ n ∧ n ≤ 9223372036854775807 := by
  simp [Lit.wf, IntKind.min, IntKind.max, IntKind.signed, IntKind.bits] at h; omega

theorem sl_of_row {w : World} {a : Option Addr} {len cap : Nat} {zs : List Int} (h : (a = none ∧ len = 0 ∧ cap = 0 ∧ zs = []) ∨
    ∃ x, a = some x ∧ len ≤ cap ∧ cap ≤ maxLen ∧ zs.length = cap ∧ (∀ i, i < zs.length → w.cell? (x.add i) = some (.int .i64 (zs.getD i 0))) ∧ ∀ n ∈ zs, (Lit.int .i64 n).wf = true) :
    Sl w 1 (.slice a len cap) len (ints (zs.take len)) ∧ len ≤ 9223372036854775807 ∧ ∀ x ∈ zs.take len, -9223372036854775808 ≤ x ∧ x ≤ 9223372036854775807 := by
  rcases h with ⟨rfl, rfl, rfl, rfl⟩ | ⟨x, rfl, h1, h2, h3, h4, h5⟩
  · refine ⟨⟨none, 0, rfl, Nat.le_refl _, by simp, by simp [ints], by simp [ints], fun _ => ⟨rfl, rfl⟩, fun h => absurd h (by omega), by simp⟩, by omega, by simp⟩
  · refine ⟨⟨some x, cap, rfl, h1, h2, by rw [length_ints, List.length_take]; omega, ints_one _, by simp, fun hp => ?_, fun ad had j u hu => ?_⟩, ?_, fun y hy => fits_of (h5 y (List.mem_of_mem_take hy))⟩
    · have := World.cell?_spot (h4 0 (by omega))
      obtain ⟨b, off, s⟩ := x
      simp [Addr.add] at this
      subst this
      exact ⟨b, off, rfl⟩
    · obtain rfl := Option.some.inj had
      have hj : j < (ints (zs.take len)).length := (List.getElem?_eq_some_iff.1 hu).1
      rw [length_ints, List.length_take] at hj
      rw [h4 j (by omega)]
      rw [← hu, ints_get _ _ (by rw [List.length_take]; omega), List.getElem_take]
      simp [List.getD, List.getElem?_eq_getElem (show j < zs.length by omega)]
    · unfold maxLen at h2; omega
end Go.Proofs.Ytphlaojoehmhaaa
