/- Equal neighbours put together. Plain Lean; no program. -/
import Derived.Test.YtkbkmngbenohkaaGrV1
set_option linter.unusedSimpArgs false
set_option linter.unusedVariables false
namespace Go.Proofs.Ytkbkmngbenohkaa
open Go.RowKit

def ddf (o : List Int) (x : Int) : List Int := if o.getLast? = some x then o else o ++ [x]
def dd (l : List Int) : List Int := l.foldl ddf []
theorem dd_snoc (l : List Int) (x : Int) : dd (l ++ [x]) = ddf (dd l) x := by simp [dd, List.foldl_append]
theorem dd_last {L : List Int} : ∀ {p : Nat}, p < L.length → (dd (L.take (p + 1))).getLast? = some (L.getD p 0)
  | p, hp => by
    rw [take1 0 hp, dd_snoc]
    unfold ddf
    split
    · assumption
    · simp
theorem dd_succ {L : List Int} {p : Nat} (h0 : 0 < p) (hp : p < L.length) : dd (L.take (p + 1)) = if L.getD p 0 = L.getD (p - 1) 0 then dd (L.take p) else dd (L.take p) ++ [L.getD p 0] := by
  have hl := dd_last (L := L) (p := p - 1) (by omega)
  rw [show p - 1 + 1 = p by omega] at hl
  rw [take1 0 hp, dd_snoc]
  unfold ddf
  rw [hl]
  by_cases h : L.getD p 0 = L.getD (p - 1) 0
  · rw [if_pos h, if_pos (by rw [h])]
  · rw [if_neg h, if_neg (fun e => h (Option.some.inj e).symm)]
theorem dd_one {L : List Int} (h : L.length ≤ 1) : dd L = L := by
  match L, h with
  | [], _ => rfl
  | [x], _ => rfl
theorem dd_len_le (L : List Int) : (dd L).length ≤ L.length := by
  have h : ∀ (l o : List Int), (l.foldl ddf o).length ≤ o.length + l.length := by
    intro l
    induction l with
    | nil => intro o; simp
    | cons x l ih =>
      intro o
      have h1 := ih (ddf o x)
      have h2 : (ddf o x).length ≤ o.length + 1 := by unfold ddf; split <;> simp
      rw [List.foldl_cons, List.length_cons]; omega
  have := h L []
  simpa [dd] using this
theorem dd_mem {L : List Int} {y : Int} : y ∈ dd L ↔ y ∈ L := by
  have h : ∀ (l o : List Int), y ∈ l.foldl ddf o ↔ y ∈ o ∨ y ∈ l := by
    intro l
    induction l with
    | nil => intro o; simp
    | cons x l ih =>
      intro o
      rw [List.foldl_cons, ih, List.mem_cons]
      unfold ddf
      split
      · rename_i hx
        have hm : x ∈ o := List.mem_of_getLast? hx
        constructor
        · rintro (h | h)
          · exact .inl h
          · exact .inr (.inr h)
        · rintro (h | rfl | h)
          · exact .inl h
          · exact .inl hm
          · exact .inr h
      · rw [List.mem_append, List.mem_singleton]
        constructor
        · rintro ((h | h) | h)
          · exact .inl h
          · exact .inr (.inl h)
          · exact .inr (.inr h)
        · rintro (h | h | h)
          · exact .inl (.inl h)
          · exact .inl (.inr h)
          · exact .inr h
  have := h L []
  simpa [dd] using this
/-- Of what is in order each once. -/
theorem dd_nodup {L : List Int} (hs : L.Pairwise fun a b => a ≤ b) : (dd L).Nodup := by
  have h : ∀ p, p ≤ L.length → (dd (L.take p)).Pairwise fun a b => a < b := by
    intro p
    induction p with
    | zero => intro _; simp [dd]
    | succ p ih =>
      intro hp
      have hi := ih (by omega)
      by_cases h0 : p = 0
      · subst h0
        have : (dd (L.take 1)).length ≤ 1 := Nat.le_trans (dd_len_le _) (by simp; omega)
        match hd : dd (L.take 1), this with
        | [], _ => exact List.Pairwise.nil
        | [x], _ => exact List.pairwise_singleton _ _
      · rw [dd_succ (by omega) (by omega)]
        split
        · exact hi
        · rename_i hne
          rw [List.pairwise_append]
          refine ⟨hi, List.pairwise_singleton _ _, fun a ha b hb => ?_⟩
          rw [List.mem_singleton] at hb
          subst hb
          have hl := dd_last (L := L) (p := p - 1) (by omega)
          rw [show p - 1 + 1 = p by omega] at hl
          have ham : a ∈ L.take p := dd_mem.1 ha
          -- all of the first p are at most the last of them, and that is less than what comes
          have hle : ∀ i j, i ≤ j → j < L.length → L.getD i 0 ≤ L.getD j 0 := by
            intro i j hij hj
            by_cases he : i = j
            · subst he; exact Int.le_refl _
            · have := List.pairwise_iff_getElem.1 hs i j (by omega) hj (by omega)
              rw [List.getD_eq_getElem?_getD, List.getD_eq_getElem?_getD, List.getElem?_eq_getElem (by omega), List.getElem?_eq_getElem hj]
              exact this
          obtain ⟨i, hi2, rfl⟩ := List.getElem_of_mem ham
          have hip : i < p := by rw [List.length_take] at hi2; omega
          have e1 : (L.take p)[i] = L.getD i 0 := by
            rw [List.getElem_take, List.getD_eq_getElem?_getD, List.getElem?_eq_getElem (by omega)]; rfl
          rw [e1]
          have h1 := hle i (p - 1) (by omega) (by omega)
          have h2 := hle (p - 1) p (by omega) (by omega)
          omega
  have := h L.length (Nat.le_refl _)
  rw [List.take_length] at this
  exact this.imp fun h => by omega
end Go.Proofs.Ytkbkmngbenohkaa
