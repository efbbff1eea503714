/- What comes in, opened: integers, rows of integers, rows of bools, as the machine reads them. No program text. -/
import Derived.Test.YtphlaojoehmhaaaDLib18
import Derived.DataReads
import Derived.ChangeSlices
import Derived.WalkKit
import Derived.ChangeOld
set_option linter.unusedSimpArgs false
set_option linter.unusedVariables false
namespace Go.Proofs.Ytphlaojoehmhaaa
open Go.RowKit Go.ChangeShapes Go.WideShapes

theorem fitsI {n : Int} (h : (Lit.int .i64 n).wf = true) : -9223372036854775808 ≤ n ∧ n ≤ 9223372036854775807 := by
  simp [Lit.wf, IntKind.min, IntKind.max, IntKind.signed, IntKind.bits] at h; omega
section
variable {H : Type} {enc : TypeId × Value → H} {P : Program} {w : World} {base : Nat} {spare : Nat → Bool} {held : Bool}

/-- A row of one-cell values of one kind. -/
theorem open_cells {t e : TypeId} {α : Type} (f : α → Value) (d0 : α) (g : Lit → Prop) {fuel : Nat} {cs : List Value} {x : DataW H × List MemPlace} (ht : P.underlying t = some (.slice e)) (hc : P.cellsOf e = 1)
    (hone : ∀ (n : Nat) (c : List Value) (y : DataW H × List MemPlace), DataW.trod enc P w base spare held n e c = some y → ∃ z : α, c = [f z] ∧ (f z).oneCell' = true) {ao : Option Addr} {len cap : Nat} (hcs : cs = [.slice ao len cap])
    (h : DataW.trod enc P w base spare held fuel t cs = some x) : ∃ zs : List α, zs.length = len ∧ Sl w 1 (.slice ao len cap) len (zs.map f) := by
  rcases DataW.trod_slice ht h with ⟨h0, _⟩ | ⟨a, len', cap', elems, rest, n, _, h0, rfl, hb, hl, hm, hlen, hel, hsp, hns⟩
  · rw [hcs] at h0
    simp at h0
    obtain ⟨rfl, rfl, rfl⟩ := h0
    exact ⟨[], rfl, ⟨none, 0, rfl, Nat.le_refl _, by simp, rfl, by simp, fun _ => ⟨rfl, rfl⟩, fun h => absurd h (by omega), by simp⟩⟩
  · rw [hcs] at h0
    simp at h0
    obtain ⟨rfl, rfl, rfl⟩ := h0
    have key : ∀ i, i < len → ∃ z : α, w.cell? (a.add i) = some (f z) ∧ (f z).oneCell' = true := by
      intro i hi
      have h1 := hel i hi
      rw [hc, Nat.mul_one, List.getElem?_eq_getElem (by omega), Option.bind_eq_some_iff] at h1
      obtain ⟨c, h2, h3⟩ := h1
      obtain ⟨z, rfl, h4⟩ := hone _ _ _ h3
      exact ⟨z, cell_of_cells?_one h2, h4⟩
    have pick : ∀ m, m ≤ len → ∃ zs : List α, zs.length = m ∧ ∀ i z, zs[i]? = some z → w.cell? (a.add i) = some (f z) ∧ (f z).oneCell' = true := by
      intro m
      induction m with
      | zero => exact fun _ => ⟨[], rfl, by simp⟩
      | succ m ih =>
        intro hm
        obtain ⟨zs, h1, h2⟩ := ih (by omega)
        obtain ⟨z, h3⟩ := key m (by omega)
        refine ⟨zs ++ [z], by simp [h1], fun i y hy => ?_⟩
        by_cases hi : i < zs.length
        · rw [List.getElem?_append_left hi] at hy; exact h2 i y hy
        · have hil := (List.getElem?_eq_some_iff.1 hy).1
          simp at hil
          have : i = m := by omega
          subst this
          rw [List.getElem?_append_right (by omega), show i - zs.length = 0 by omega] at hy
          simp at hy
          subst hy
          exact h3
    obtain ⟨zs, h1, h2⟩ := pick len (Nat.le_refl _)
    refine ⟨zs, h1, ⟨some a, cap, rfl, hl, hm, by simp [h1], fun u hu => ?_, by simp, fun hp => ?_, fun ad had j u hu => ?_⟩⟩
    · obtain ⟨z, hz, rfl⟩ := List.mem_map.1 hu
      obtain ⟨i, hi⟩ := List.getElem?_of_mem hz
      exact (h2 i z hi).2
    · obtain ⟨z, h3, _⟩ := key 0 hp
      have := World.cell?_spot h3
      obtain ⟨b, off, s⟩ := a
      simp [Addr.add] at this
      subst this
      exact ⟨b, off, rfl⟩
    · obtain rfl := Option.some.inj had
      rw [List.getElem?_map] at hu
      obtain ⟨z, hz, rfl⟩ := Option.map_eq_some_iff.1 hu
      exact (h2 j z hz).1

theorem sl_bools {t e : TypeId} (ht : P.underlying t = some (.slice e)) (he : P.underlying e = some .bool) (hc : P.cellsOf e = 1) {ao : Option Addr} {len cap : Nat} {d : DataW H} {p : List MemPlace}
    (h : DataW.Trod enc P w base spare held t (.slice ao len cap) d p) : ∃ bs : List Bool, bs.length = len ∧ Sl w 1 (.slice ao len cap) len (bs.map Value.bool) := by
  obtain ⟨fuel, hf⟩ := h
  refine open_cells Value.bool false (fun _ => True) ht hc (fun n c y hy => ?_) rfl hf
  obtain ⟨b, h, _⟩ := DataW.trod_bool he hy
  exact ⟨b, h, rfl⟩
theorem sl_ints {t e : TypeId} {k : IntKind} (ht : P.underlying t = some (.slice e)) (he : P.underlying e = some (.int k)) (hc : P.cellsOf e = 1) {ao : Option Addr} {len cap : Nat} {d : DataW H} {p : List MemPlace}
    (h : DataW.Trod enc P w base spare held t (.slice ao len cap) d p) : ∃ zs : List { n : Int // (Lit.int k n).wf = true }, zs.length = len ∧ Sl w 1 (.slice ao len cap) len (zs.map fun z => Value.int k z.1) := by
  obtain ⟨fuel, hf⟩ := h
  refine open_cells (fun z : { n : Int // (Lit.int k n).wf = true } => Value.int k z.1) ⟨0, by cases k <;> rfl⟩ (fun _ => True) ht hc (fun n c y hy => ?_) rfl hf
  obtain ⟨m, h, _, hw⟩ := DataW.trod_int he hy
  exact ⟨⟨m, hw⟩, h, rfl⟩
theorem Sl.le63 {w : World} {sz n : Nat} {v : Value} {xs : List Value} (h : Sl w sz v n xs) : n ≤ 9223372036854775807 := by
  obtain ⟨ao, c, _, h1, h2, _⟩ := h
  unfold maxLen at h2; omega
end
end Go.Proofs.Ytphlaojoehmhaaa
