/- The machine's library, part 10. No program text. -/
import Derived.Test.YtkbkmngbenohkaaM6
import Derived.Test.YtkbkmngbenohkaaM7
set_option linter.unusedSimpArgs false
set_option linter.unusedVariables false
namespace Go.Proofs.Ytkbkmngbenohkaa
open Go.RowKit Go.ChangeShapes Go.WideShapes

/-- What a slice of cells holds, each told by its own. -/
theorem Sl.rdG {w : World} {n : Nat} {v : Value} {xs : List Value} (h : Sl w 1 v n xs) (ps : List PV) (hl : ps.length = xs.length) (hp : ∀ (j : Nat) (p : PV) (u : Value), ps[j]? = some p → xs[j]? = some u → Rd (fun g => g < w.heap.size) w p u) :
    Rd (fun g => g < w.heap.size) w (.sl n ps) v := by
  obtain ⟨ao, c, rfl, h1, h2, h3, h4, h5, h6, h7⟩ := h
  cases xs with
  | nil =>
    obtain rfl : ps = [] := List.eq_nil_of_length_eq_zero hl
    exact .sl0 h1 h2 h5
  | cons x xs =>
    have hn : 0 < n := by
      rcases Nat.eq_zero_or_pos n with h | h
      · subst h; simp at h3
      · exact h
    obtain ⟨b, off, rfl⟩ := h6 hn
    have hjl : ∀ {j : Nat} {p : PV}, ps[j]? = some p → j < (x :: xs).length := fun hj => by
      have := (List.getElem?_eq_some_iff.1 hj).1
      omega
    refine .sl (fun j => (x :: xs).getD j undef) h1 h2 ?_ (fun j p hj => ?_) (fun j p hj => ?_)
    · have := h7 _ rfl 0 x rfl
      refine ⟨World.block_lt_of_cell? w _ this, ?_⟩
      simp only [World.cell?, Addr.add_lit] at this
      split at this
      · rename_i c e f hc
        exact ⟨c, e, f, hc⟩
      · cases this
    · have hj' := hjl hj
      have := h7 _ rfl j _ (List.getElem?_eq_getElem hj')
      simp only [List.getD_eq_getElem?_getD, List.getElem?_eq_getElem hj', Option.getD_some]
      by_cases hj0 : j = 0
      · subst hj0; simpa [Addr.add] using this
      · simpa [Addr.add, hj0] using this
    · have hj' := hjl hj
      simp only [List.getD_eq_getElem?_getD, List.getElem?_eq_getElem hj', Option.getD_some]
      exact hp j p _ hj (List.getElem?_eq_getElem hj')
/-- A row that came in: the slice's value, its numbers. -/
abbrev InRow (w : World) := { q : Value × List { n : Int // (Lit.int .i64 n).wf = true } // Sl w 1 q.1 q.2.length (q.2.map fun z => Value.int .i64 z.1) }
def InRow.nums {w : World} (q : InRow w) : List Int := q.1.2.map (·.1)
section
variable {H : Type} {enc : TypeId × Value → H} {P : Program} {w : World} {base : Nat} {spare : Nat → Bool} {held : Bool}
theorem sl_rows {t e f : TypeId} (ht : P.underlying t = some (.slice e)) (he : P.underlying e = some (.slice f)) (hf : P.underlying f = some (.int .i64)) (hce : P.cellsOf e = 1) (hcf : P.cellsOf f = 1) {ao : Option Addr} {len cap : Nat} {d : DataW H} {p : List MemPlace}
    (h : DataW.Trod enc P w base spare held t (.slice ao len cap) d p) : ∃ zs : List (InRow w), zs.length = len ∧ Sl w 1 (.slice ao len cap) len (zs.map fun q => q.1.1) := by
  obtain ⟨fuel, hfu⟩ := h
  refine open_cells (fun q : InRow w => q.1.1) ⟨(.slice none 0 0, []), ⟨none, 0, rfl, Nat.le_refl _, by simp, rfl, by simp, fun _ => ⟨rfl, rfl⟩, fun h => absurd h (by simp), by simp⟩⟩ (fun _ => True) ht hce (fun n c y hy => ?_) rfl hfu
  have key : ∃ ao' len' cap', c = [.slice ao' len' cap'] := by
    rcases DataW.trod_slice he hy with ⟨h0, _⟩ | ⟨a, len', cap', _, _, _, _, h0, _⟩
    · exact ⟨_, _, _, h0⟩
    · exact ⟨_, _, _, h0⟩
  obtain ⟨ao', len', cap', rfl⟩ := key
  obtain ⟨zs, h1, h2⟩ := sl_ints (d := y.1) (p := y.2) he hf hcf ⟨n, hy⟩
  subst h1
  exact ⟨⟨(.slice ao' zs.length cap', zs), h2⟩, rfl, rfl⟩
theorem rows_in {n : Nat} {v : Value} {zs : List (InRow w)} {ι : Oid → Option Blk} (h : Sl w 1 v n (zs.map fun q => q.1.1)) : Rep ι (fun g => g < w.heap.size) w (.sl n ((zs.map InRow.nums).map fun r => PV.sl r.length (isl r))) v := by
  refine .sl (h.rdG _ (by simp) fun j p u hj hu => ?_)
  rw [List.getElem?_map, List.getElem?_map] at hj
  rw [List.getElem?_map] at hu
  cases hz : zs[j]? with
  | none => rw [hz] at hj; cases hj
  | some q =>
    rw [hz] at hj hu
    simp at hj hu
    subst hj; subst hu
    have h1 := q.2.rd
    rw [show (q.1.2.map fun z => Value.int .i64 z.1).map PV.v = isl (InRow.nums q) by simp [isl, InRow.nums]] at h1
    have h2 : (InRow.nums q).length = q.1.2.length := by simp [InRow.nums]
    rw [h2]
    exact h1
theorem rows_le {zs : List (InRow w)} : ∀ r ∈ zs.map InRow.nums, r.length ≤ 9223372036854775807 := by
  intro r hr
  obtain ⟨q, _, rfl⟩ := List.mem_map.1 hr
  have := q.2.le63
  simpa [InRow.nums] using this
end
end Go.Proofs.Ytkbkmngbenohkaa
