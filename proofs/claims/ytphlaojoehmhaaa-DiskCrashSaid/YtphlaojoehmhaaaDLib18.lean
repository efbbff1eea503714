/- From a contract on data to what the statement asks: the call returns the value, and nothing that was there is written. No program text. -/
import Derived.Test.YtphlaojoehmhaaaDLib17
set_option linter.unusedSimpArgs false
set_option linter.unusedVariables false
namespace Go.Proofs.Ytphlaojoehmhaaa
open Go.RowKit

theorem Sl.rd {w : World} {sz n : Nat} {v : Value} {xs : List Value} (h : Sl w sz v n xs) : Rd (fun g => g < w.heap.size) w (.sl n (xs.map PV.v)) v := by
  obtain ⟨ao, c, rfl, h1, h2, h3, h4, h5, h6, h7⟩ := h
  cases xs with
  | nil => exact .sl0 h1 h2 h5
  | cons x xs =>
    have hn : 0 < n := by
      rcases Nat.eq_zero_or_pos n with h | h
      · subst h; simp at h3
      · exact h
    obtain ⟨b, off, rfl⟩ := h6 hn
    refine .sl (fun j => (x :: xs).getD j undef) h1 h2 ?_ (fun j p hj => ?_) (fun j p hj => ?_)
    · have := h7 _ rfl 0 x rfl
      exact World.block_lt_of_cell? w _ this
    · have hj' : j < (x :: xs).length := by
        have := (List.getElem?_eq_some_iff.1 hj).1
        simpa using this
      have := h7 _ rfl j _ (List.getElem?_eq_getElem hj')
      simp only [List.getD_eq_getElem?_getD, List.getElem?_eq_getElem hj', Option.getD_some]
      by_cases hj0 : j = 0
      · subst hj0; simpa [Addr.add] using this
      · simpa [Addr.add, hj0] using this
    · have hj' : j < (x :: xs).length := by
        have := (List.getElem?_eq_some_iff.1 hj).1
        simpa using this
      rw [List.getElem?_map, List.getElem?_eq_getElem hj'] at hj
      cases hj
      simp only [List.getD_eq_getElem?_getD, List.getElem?_eq_getElem hj', Option.getD_some]
      exact .v (h4 _ (List.getElem_mem hj'))

theorem Spec.law {P : Program} {f : FuncId} {args : List AV} {r : Value} {vs : List Value} {w : World} (sp : Spec P f (inSt args []) (outSt (.v r) [])) (hp : AV.pures args = true) (hl : vs.length = args.length)
    (h : ∀ (j : Nat) (a : AV) (v : Value), args[j]? = some a → vs[j]? = some v → Rep (fun _ => none) (fun g => g < w.heap.size) w a v) : Calls P f vs.toArray w fun e w' => e = .returned r ∧ Below w.heap.size w w' := by
  have hnh : ∀ t id, ¬ Has id (args.getD t .dead) := by
    intro t id hh
    by_cases ht : t < args.length
    · have : args.getD t .dead = args[t] := by simp [ht]
      rw [this] at hh
      exact pures_has _ hp _ (List.getElem_mem ht) hh
    · have : args.getD t .dead = .dead := by simp [show args.length ≤ t by omega]
      rw [this] at hh; cases hh
  have R : RelI ⟨w, fun _ => False, fun g => g < w.heap.size, fun _ => none⟩ (fun _ => none) (fun g => g < w.heap.size) (inSt args []) ⟨vs.toArray, []⟩ w := by
    have hfree : ∀ i o, (inSt args []).ob i ≠ .obj o := fun i o h => by cases h
    refine { keeps := .refl _ _, S0 := fun g h => .inl h, Slt := fun g h => h, nt := by simpa [inSt] using hl, df := rfl, fr := fun t ht => ?_, cl := fun t id hh => (hnh t id hh).elim, clo := fun i o j ho => (hfree i o ho).elim, ob := fun i o ho => (hfree i o ho).elim, dom := fun i B hB => (by cases hB), inj := fun i j B B' g hB => (by cases hB), sep := fun i B g hB => (by cases hB), pin := fun i hh o hp => (by cases hp), pf := fun _ _ => rfl }
    replace ht : t < args.length := ht
    have ht' : t < vs.length := by omega
    have := h t args[t] vs[t] (List.getElem?_eq_getElem ht) (List.getElem?_eq_getElem ht')
    show Rep _ _ _ (args.getD t .dead) _
    simpa [ht, ht'] using this
  refine (sp _ _ _ _ w rfl R).mono ?_
  rintro e w' ⟨v, ι', S', rfl, R'⟩
  have h0 : Rep ι' S' w' (.v r) v := R'.fr 0 (by show 0 < 1; omega)
  rw [h0.toV]
  refine ⟨rfl, R'.keeps.os, R'.keeps.tape, R'.keeps.output, R'.keeps.size, fun g hg => R'.keeps.block g hg fun h => h⟩
/-- The arguments, in the world. -/
def ArgsRep (w : World) : List AV → List Value → Prop
  | [], [] => True
  | a :: xs, v :: vs => Rep (fun _ => none) (fun g => g < w.heap.size) w a v ∧ ArgsRep w xs vs
  | _, _ => False
theorem ArgsRep.len {w : World} : ∀ {xs : List AV} {vs : List Value}, ArgsRep w xs vs → vs.length = xs.length
  | [], [], _ => rfl
  | _ :: _, _ :: _, h => by simp [h.2.len]
  | [], _ :: _, h => h.elim
  | _ :: _, [], h => h.elim
theorem ArgsRep.at {w : World} : ∀ {xs : List AV} {vs : List Value}, ArgsRep w xs vs → ∀ (j : Nat) (a : AV) (v : Value), xs[j]? = some a → vs[j]? = some v → Rep (fun _ => none) (fun g => g < w.heap.size) w a v
  | [], _, _, _, _, _, ha, _ => by simp at ha
  | _ :: _, [], h, _, _, _, _, _ => h.elim
  | _ :: _, _ :: _, h, 0, _, _, ha, hv => by simp at ha hv; subst ha; subst hv; exact h.1
  | _ :: _, _ :: _, h, j + 1, a, v, ha, hv => h.2.at j a v (by simpa using ha) (by simpa using hv)
theorem Spec.calls {P : Program} {f : FuncId} {args : List AV} {r : Value} {w : World} (sp : Spec P f (inSt args []) (outSt (.v r) [])) (hp : AV.pures args = true) {vs : List Value} (h : ArgsRep w args vs) : Calls P f vs.toArray w fun e w' => e = .returned r ∧ Below w.heap.size w w' :=
  sp.law hp h.len h.at
end Go.Proofs.Ytphlaojoehmhaaa
