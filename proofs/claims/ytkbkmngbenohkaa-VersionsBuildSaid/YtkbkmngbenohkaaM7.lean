/- The machine's library, part 7. No program text. -/
import Derived.Test.YtkbkmngbenohkaaM6
import Derived.Test.YtkbkmngbenohkaaM4
import Derived.Test.YtkbkmngbenohkaaM5
import Derived.OpenShut
set_option linter.unusedSimpArgs false
set_option linter.unusedVariables false
namespace Go.Proofs.Ytkbkmngbenohkaa
open Go.RowKit Go.ChangeShapes Go.WideShapes

section
variable {H : Type} {enc : TypeId × Value → H} {P : Program} {w : World} {base : Nat} {spare : Nat → Bool} {held : Bool}
theorem trod_pair {t e : TypeId} {k : IntKind} {fuel : Nat} {cs : List Value} {x : DataW H × List MemPlace} (ht : P.underlying t = some (.array 2 e)) (he : P.underlying e = some (.int k)) (hc : P.cellsOf e = 1) (hct : P.cellsOf t = 2)
    (h : DataW.trod enc P w base spare held fuel t cs = some x) : ∃ a b : Int, cs = [.int k a, .int k b] ∧ (Lit.int k a).wf = true ∧ (Lit.int k b).wf = true ∧ x.2 = [] := by
  obtain ⟨xs, m, _, hx, hl, hn, hi⟩ := DataW.trod_array ht h
  rw [hct] at hl
  match cs, hl with
  | [c0, c1], _ =>
    have h0 := hi 0 (by omega)
    have h1 := hi 1 (by omega)
    rw [hc] at h0 h1
    match xs, hn with
    | [x0, x1], _ =>
      simp at h0 h1
      obtain ⟨a, e0, f0, g0⟩ := DataW.trod_int he h0
      obtain ⟨b, e1, f1, g1⟩ := DataW.trod_int he h1
      simp at e0 e1
      subst e0; subst e1; subst f0; subst f1
      exact ⟨a, b, rfl, g0, g1, by rw [hx]; rfl⟩
theorem open_pair {t e : TypeId} {k : IntKind} {r : Reach} {b0 : Nat} {v : Value} {d : DataW H} {ps : List MemPlace} (ht : P.underlying t = some (.array 2 e)) (he : P.underlying e = some (.int k)) (hc : P.cellsOf e = 1) (hct : P.cellsOf t = 2)
    (hval : Value.okWide P w r b0 t v) (hd : DataW.Trod enc P w base spare held t v d ps) : ∃ x y : Int, v = .agg #[.int k x, .int k y] ∧ (Lit.int k x).wf = true ∧ (Lit.int k y).wf = true := by
  simp only [Value.okWide, ht] at hval
  obtain ⟨cs, rfl, h2, _⟩ := hval
  obtain ⟨fuel, hf⟩ := hd
  obtain ⟨a, b, h3, h4, h5, h6⟩ := trod_pair ht he hc hct hf
  have h7 : cs.toList = [.int k a, .int k b] := h3
  refine ⟨a, b, ?_, h4, h5⟩
  rw [← h7]
def cs2 (zs : List (Int × Int)) : List Value := zs.flatMap fun p => [.int .i64 p.1, .int .i64 p.2]
theorem cs2_get : ∀ {zs : List (Int × Int)} {j : Nat} {u : Value}, (cs2 zs)[j]? = some u → ∃ i p, zs[i]? = some p ∧ ((j = 2 * i ∧ u = .int .i64 p.1) ∨ (j = 2 * i + 1 ∧ u = .int .i64 p.2))
  | [], j, u, h => by simp [cs2] at h
  | p :: zs, 0, u, h => by simp [cs2] at h; exact ⟨0, p, rfl, .inl ⟨rfl, h.symm⟩⟩
  | p :: zs, 1, u, h => by simp [cs2] at h; exact ⟨0, p, rfl, .inr ⟨rfl, h.symm⟩⟩
  | p :: zs, j + 2, u, h => by
    obtain ⟨i, q, h1, h2⟩ := cs2_get (zs := zs) (j := j) (u := u) (by simpa [cs2] using h)
    refine ⟨i + 1, q, by simpa using h1, ?_⟩
    rcases h2 with ⟨h3, h4⟩ | ⟨h3, h4⟩
    · exact .inl ⟨by omega, h4⟩
    · exact .inr ⟨by omega, h4⟩
theorem cs2_len : ∀ zs : List (Int × Int), (cs2 zs).length = zs.length * 2
  | [] => rfl
  | p :: zs => by have := cs2_len zs; simp [cs2] at this ⊢; omega
theorem cs2_psl (zs : List (Int × Int)) : (cs2 zs).map PV.v = psl zs := by
  induction zs with
  | nil => rfl
  | cons p zs ih => rw [psl_cons, ← ih]; rfl
theorem sl_pairs {t e f : TypeId} (ht : P.underlying t = some (.slice e)) (hte : P.underlying e = some (.array 2 f)) (he : P.underlying f = some (.int .i64)) (hc : P.cellsOf f = 1) (hct : P.cellsOf e = 2) {ao : Option Addr} {len cap : Nat} {d : DataW H} {p : List MemPlace}
    (h : DataW.Trod enc P w base spare held t (.slice ao len cap) d p) : ∃ zs : List (Int × Int), zs.length = len ∧ Sl w 2 (.slice ao len cap) len (cs2 zs) := by
  obtain ⟨fuel, hf⟩ := h
  rcases DataW.trod_slice ht hf with ⟨h0, _⟩ | ⟨a, len', cap', elems, rest, n, _, h0, h1, hb', hl, hm, hlen, hel, hsp, hns⟩
  · replace h0 : [Value.slice ao len cap] = [Value.slice none 0 0] := h0
    simp at h0
    obtain ⟨rfl, rfl, rfl⟩ := h0
    exact ⟨[], rfl, ⟨none, 0, rfl, Nat.le_refl _, by simp, rfl, by simp [cs2], fun _ => ⟨rfl, rfl⟩, fun h => absurd h (by omega), by simp⟩⟩
  · replace h0 : [Value.slice ao len cap] = [Value.slice (some a) len' cap'] := h0
    simp at h0
    obtain ⟨rfl, rfl, rfl⟩ := h0
    have key : ∀ i, i < len → ∃ q : Int × Int, w.cell? (a.add (2 * i)) = some (.int .i64 q.1) ∧ w.cell? (a.add (2 * i + 1)) = some (.int .i64 q.2) := by
      intro i hi
      have h1 := hel i hi
      rw [hct, List.getElem?_eq_getElem (by omega), Option.bind_eq_some_iff] at h1
      obtain ⟨c, h2, h3⟩ := h1
      obtain ⟨x, y, rfl, _, _, _⟩ := trod_pair hte he hc hct h3
      have h4 := (World.cells?_some h2).2.2 0 (by omega)
      have h5 := (World.cells?_some h2).2.2 1 (by omega)
      simp at h4 h5
      have e0 : (a.add (i * 2)).add 0 = a.add (2 * i) := by rw [Nat.mul_comm]; simp [Addr.add]
      have e1 : (a.add (i * 2)).add 1 = a.add (2 * i + 1) := by
        rw [Nat.mul_comm]
        by_cases h : i = 0
        · subst h; simp [Addr.add]
        · simp only [Addr.add]
          rw [if_neg (by omega : ¬ 2 * i = 0)]
          simp; omega
      rw [e0] at h4
      rw [e1] at h5
      exact ⟨(x, y), h4, h5⟩
    have pick : ∀ m, m ≤ len → ∃ zs : List (Int × Int), zs.length = m ∧ ∀ i q, zs[i]? = some q → w.cell? (a.add (2 * i)) = some (.int .i64 q.1) ∧ w.cell? (a.add (2 * i + 1)) = some (.int .i64 q.2) := by
      intro m
      induction m with
      | zero => exact fun _ => ⟨[], rfl, by simp⟩
      | succ m ih =>
        intro hm
        obtain ⟨zs, h1, h2⟩ := ih (by omega)
        obtain ⟨z, h3⟩ := key m (by omega)
        refine ⟨zs ++ [z], by simp [h1], fun i y hy => ?_⟩
        by_cases hi : i < zs.length
        · rw [List.getElem?_append_left hi] at hy; exact h2 i y hy
        · have hil := (List.getElem?_eq_some_iff.1 hy).1
          simp at hil
          have : i = m := by omega
          subst this
          rw [List.getElem?_append_right (by omega), show i - zs.length = 0 by omega] at hy
          simp at hy
          subst hy
          exact h3
    obtain ⟨zs, h1, h2⟩ := pick len (Nat.le_refl _)
    refine ⟨zs, h1, ⟨some a, cap, rfl, hl, hm, by rw [cs2_len, h1], fun u hu => ?_, by simp, fun hp => ?_, fun ad had j u hu => ?_⟩⟩
    · obtain ⟨j, hj⟩ := List.getElem?_of_mem hu
      obtain ⟨i, q, _, h3⟩ := cs2_get hj
      rcases h3 with ⟨_, rfl⟩ | ⟨_, rfl⟩ <;> rfl
    · obtain ⟨z, h3, _⟩ := key 0 hp
      have := World.cell?_spot h3
      obtain ⟨b, off, s⟩ := a
      simp [Addr.add] at this
      subst this
      exact ⟨b, off, rfl⟩
    · obtain rfl := Option.some.inj had
      obtain ⟨i, q, h3, h4⟩ := cs2_get hu
      have h5 := h2 i q h3
      rcases h4 with ⟨rfl, rfl⟩ | ⟨rfl, rfl⟩
      · exact h5.1
      · exact h5.2
theorem psl_in {w : World} {n : Nat} {v : Value} {z : List (Int × Int)} {ι : Oid → Option Blk} (h : Sl w 2 v n (cs2 z)) : Rep ι (fun g => g < w.heap.size) w (.sl n (psl z)) v := by
  have := h.rd
  rw [cs2_psl] at this
  exact .sl this
theorem pair_in {w : World} {x y : Int} {ι : Oid → Option Blk} {S : Nat → Prop} : Rep ι S w (.agg [.v (.int .i64 x), .v (.int .i64 y)]) (.agg #[.int .i64 x, .int .i64 y]) :=
  .agg rfl (by simp; exact ⟨rfl, rfl⟩) fun j a h => by
    match j, h with
    | 0, h => simp at h; subst h; exact .v
    | 1, h => simp at h; subst h; exact .v
end
end Go.Proofs.Ytkbkmngbenohkaa
