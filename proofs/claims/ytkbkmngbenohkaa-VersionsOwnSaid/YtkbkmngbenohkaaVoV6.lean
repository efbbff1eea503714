/- Blames: apart from each other, one above each bad version, those of a version above. Plain Lean; no program. -/
import Derived.Test.YtkbkmngbenohkaaVoV5
set_option linter.unusedSimpArgs false
set_option linter.unusedVariables false
namespace Go.Proofs.Ytkbkmngbenohkaa
open Go.RowKit

theorem minL_mem {n : Nat} {E : Prs} {st : List Int} {l : List Nat} {b : Nat × List Nat} (h : b ∈ minL n E st l) : b.1 ∈ l ∧ (aw1 n E b.1 &&& whr st 1) = 2 ^ b.1 ∧ b.2 = els (susW n E (whr st 2).testBit b.1) := by
  unfold minL at h
  obtain ⟨v, hv, rfl⟩ := List.mem_map.1 h
  obtain ⟨h1, h2⟩ := List.mem_filter.1 hv
  exact ⟨h1, by simpa using h2, rfl⟩
theorem getD_mem' {α : Type} {l : List α} {k : Nat} (d : α) (h : k < l.length) : l.getD k d ∈ l := by
  rw [List.getD_eq_getElem?_getD, List.getElem?_eq_getElem h]; exact List.getElem_mem h
end Go.Proofs.Ytkbkmngbenohkaa
