/- The machine's rules: drawn regions with their lists spelt out. No program text. -/
import Derived.Test.YtphlaojoehmhaaaDLib17
set_option linter.unusedSimpArgs false
set_option linter.unusedVariables false
namespace Go.Proofs.Ytphlaojoehmhaaa
open Go.RowKit
section
variable {P : Program} {T e : TypeId} {size bytes : Nat} {z : List Value}
theorem run_app0 [E : Elem P T e size bytes z] (w : World) (ty : TypeId) (a : Addr) (vx : Value) (m : Nat) (news : List Value) (hsl : Sl w size vx m news) (hb : m * bytes ≤ 140737488355328) :
    (m = 0 ∧ (Builtin.append_ #[T, T] ty #[.slice (some a) 0 0, vx]).run P w = .ok (.slice (some a) 0 0) w) ∨
    (Builtin.append_ #[T, T] ty #[.slice (some a) 0 0, vx]).run P w = (Builtin.append_ #[T, T] ty #[.slice none 0 0, vx]).run P w := by
  obtain ⟨i, zv, hi, hz, hs, hby, hzc⟩ := E.info
  obtain ⟨ao, c, rfl, hmc, hcm, hln, hone, hnil, hpos, hcells⟩ := hsl
  have hl0 : ∀ (b : Addr) w, (loadCellsFrom b 0 0 #[]).run P w = .ok #[] w := fun b w => by simp [loadCellsFrom]
  rcases Nat.eq_zero_or_pos m with h0 | h0
  · subst h0
    refine .inl ⟨rfl, ?_⟩
    cases ao with
    | none => simp [Builtin.append_, run_underlying E.und, sizeOf, typeInfo, hi, Builtin.lenOf, Builtin.firstCells, storeCells]
    | some b => simp [Builtin.append_, run_underlying E.und, sizeOf, typeInfo, hi, Builtin.lenOf, Builtin.firstCells, storeCells, loadCells, hl0]
  · refine .inr ?_
    have hne : ¬ m = 0 := by omega
    have h48 : ¬ (2 ^ 48 < Builtin.nextslicecap m 0 * i.bytes) := by
      have := growslice_fits (need := m) (old := 0) (by omega) hb
      rw [hby]; simp at this ⊢; omega
    have h63 : ¬ (9223372036854775807 < (m : Int)) := by
      have : m * 1 ≤ m * bytes := Nat.mul_le_mul_left _ E.bpos
      omega
    simp [Builtin.append_, run_underlying E.und, sizeOf, typeInfo, hi, hz, Builtin.lenOf, Builtin.firstCells, loadCells, hne, h48, h63, hl0]

/-- An empty literal slice: no spare room. -/
theorem op_bsZ {σ : St} {dd : Option Tmp} {ty : TypeId} (parts : Array (Nat × Operand)) (E : Elem P T e size bytes z) (hp : parts = #[]) : Stp P dd (.buildSlice T 0 parts) ty σ (σ.put dd .z) := by
  intro o hd ho ht
  subst hd; subst hp
  intro K ι S a w R
  obtain ⟨i, zv, hi, hz, hs, hby, hzc⟩ := E.info
  have hrun : (execOp a.eval o).run P w = .ok (.value (.slice (some ⟨w.heap.size, 0, none⟩) 0 0)) (w.alloc (.cells #[] e)) := by
    simp [execOp, ho, Instr.buildSlice, run_underlying E.und, sizeOf, typeInfo, hi, hs, newRow, Instr.fill]
    congr 2
    exact Array.size_eq_zero_iff.1 (by simp)
  have hbl : Below w.heap.size w (w.alloc (.cells #[] e)) := (Below.refl _ _).alloc (Nat.le_refl _) _
  have R3 := R.gen (ι' := ι) (S' := S) (w' := w.alloc (.cells #[] e)) (ob' := σ.ob) (inc' := σ.inc) (fun _ => False) (.of_below hbl) (fun _ _ => rfl) (fun _ _ => rfl) (fun _ _ => rfl) (fun _ h => h) (fun _ h => h) (fun _ h => .inl h) (fun g h => Nat.lt_of_lt_of_le (R.Slt g h) hbl.size)
      (fun _ _ h => h.elim) (fun _ _ h => h.elim) (fun _ _ h => h.elim) (fun _ _ _ _ _ h => h.elim) (fun _ _ _ h => h.elim) (fun _ _ _ h => h.elim)
  exact yields_value hrun ⟨ι, S, R3.put o.dst .z fun i hi => by cases hi⟩
/-- append to a slice with no spare room; what comes is only read. -/
theorem op_apZ {σ : St} {dd : Option Tmp} {ty : TypeId} (s x : Operand) (E : Elem P T e size bytes z) (hs : σ.eval s = .z) {m : Nat} {news : List PV} (hx : SrcAV σ (σ.eval x) size m news) (hb : m * bytes ≤ 140737488355328) :
    Stp P dd (.call { callee := .builtin .append, args := #[s, x], argTypes := #[T, T] }) ty σ (σ.put dd (.sl m news)) := by
  intro o hd ho ht
  subst hd
  intro K ι S a w R
  have hv := R.eval s
  rw [hs] at hv
  obtain ⟨vs, hsl, hvl, hvr⟩ := hx.src R E.pos
  have stay : ∀ (v' : Value), v' = a.eval s → m = 0 → (execOp a.eval o).run P w = .ok (.value v') w → Yields P o a.eval w fun v w'' => ∃ ι' S', RelI K ι' S' (σ.put o.dst (.sl m news)) (a.put o.dst v) w'' := by
    intro v' hv' h0 hr
    have hn0 : news = [] := List.eq_nil_of_length_eq_zero (by
      have := hsl.len
      rw [hvl, h0] at this
      simpa using this)
    subst h0; subst hn0
    refine yields_value hr ⟨ι, S, R.put o.dst ?_ fun i hi => noHasS hi⟩
    rw [hv']
    generalize a.eval s = u at hv
    cases hv
    exact .sl (.sl0 (Nat.le_refl _) (by unfold maxLen; omega) fun _ => ⟨rfl, rfl⟩)
  obtain ⟨v', w', hr, h4, h5, _, h7⟩ := run_app (P := P) (T := T) o.type 0 (.slice none 0 0) 0 [] (World.ownsRow_nil _ _ _ _) (a.eval x) m vs hsl (by simpa using hb) (Nat.zero_le _)
  have hbl : Below w.heap.size w w' := below_grown (by simpa [Value.ownBlock] using h5)
  have key : (m = 0 ∧ (execOp a.eval o).run P w = .ok (.value (a.eval s)) w) ∨ (execOp a.eval o).run P w = .ok (.value v') w' := by
    generalize hu : a.eval s = u at hv
    cases hv with
    | z =>
      rename_i ao
      have hex : ∀ r, (Builtin.append_ #[T, T] o.type #[.slice ao 0 0, a.eval x]).run P w = r → (execOp a.eval o).run P w = r.andThen fun v w => .ok (.value v) w := by
        intro r h
        unfold execOp
        simp only [ho, resolve, invoke, builtin, Sem.run_bind, Sem.run_pure, Result.andThen_ok, List.map_toArray, List.map_cons, List.map_nil, hu, h]
      cases ao with
      | none => exact .inr (hex _ hr)
      | some b =>
        rcases run_app0 (P := P) (T := T) w o.type b (a.eval x) m vs hsl hb with ⟨h0, h1⟩ | h1
        · exact .inl ⟨h0, hex _ h1⟩
        · exact .inr (hex _ (h1.trans hr))
  rcases key with ⟨h0, hrun⟩ | hrun
  · exact stay _ rfl h0 hrun
  have fin : ∀ (S' : Nat → Prop), (∀ g, S g → S' g) → (∀ g, S' g → S g ∨ w.heap.size ≤ g) → (∀ g, S' g → g < w'.heap.size) → Rd S' w' (.sl m news) v' → Yields P o a.eval w fun v w'' => ∃ ι' S', RelI K ι' S' (σ.put o.dst (.sl m news)) (a.put o.dst v) w'' := by
    intro S' g1 g2 g3 hrd
    have R3 := R.gen (ι' := ι) (S' := S') (w' := w') (ob' := σ.ob) (inc' := σ.inc) (fun _ => False) (.of_below hbl) (fun _ _ => rfl) (fun _ _ => rfl) (fun _ _ => rfl) (fun _ h => h) g1
      (fun g h => by rcases g2 g h with h | h; · exact .inl h
                     · exact .inr (.inl h)) g3
      (fun _ _ h => h.elim) (fun _ _ h => h.elim) (fun _ _ h => h.elim) (fun _ _ _ _ _ h => h.elim) (fun _ _ _ h => h.elim) (fun _ _ _ h => h.elim)
    exact yields_value hrun ⟨ι, S', R3.put o.dst (.sl hrd) fun i hi => noHasS hi⟩
  simp only [List.nil_append, Nat.zero_add] at h4
  rcases own_split h4 with ⟨hv', hn0, hu0⟩ | ⟨g, c, cur, hv', hg, hnc, hcm, hcs, hcu⟩
  · subst hv'
    have : news = [] := List.eq_nil_of_length_eq_zero (by rw [← hvl, hu0]; rfl)
    subst this; subst hn0
    exact fin S (fun _ h => h) (fun _ h => .inl h) (fun g h => Nat.lt_of_lt_of_le (R.Slt g h) hbl.size) (.sl0 (Nat.le_refl _) (by unfold maxLen; omega) fun _ => ⟨rfl, rfl⟩)
  · subst hv'
    have hgw : w.heap.size ≤ g := by
      rcases h7 with h | ⟨k, hk, hle⟩
      · simp [Value.ownBlock] at h
      · simp [Value.ownBlock] at hk; omega
    refine fin (fun k => S k ∨ k = g) (fun _ h => .inl h) (fun k h => by
      rcases h with h | h
      · exact .inl h
      · exact .inr (by rw [h]; exact hgw)) (fun k h => ?_) ?_
    · rcases h with h | h
      · exact Nat.lt_of_lt_of_le (R.Slt k h) hbl.size
      · rw [h]; exact (Array.getElem?_eq_some_iff.1 hg).1
    · have key : ∀ (j : Nat) (p : PV), news[j]? = some p → ∃ u, cur[j]? = some u ∧ Rd (fun k => S k ∨ k = g) w' p u := by
        intro j p hj
        obtain ⟨u, hu, h1, hru⟩ := hvr j p hj
        exact ⟨u, hcu j u hu, hru.next (fun k hk => hbl.block k (R.Slt k hk)) fun _ h => .inl h⟩
      have := Rd.sl (S := fun k => S k ∨ k = g) (w := w') (n := m) (c := c) (b := g) (o := 0) (xs := news) (fun j => cur.getD j undef) hnc hcm (.inr rfl) (fun j p hj => ?_) (fun j p hj => ?_)
      · exact this
      · obtain ⟨u, hu, _⟩ := key j p hj
        simp only [Nat.zero_add, Array.getD_eq_getD_getElem?, hu, Option.getD_some]
        exact cell_in hg hu
      · obtain ⟨u, hu, hru⟩ := key j p hj
        simp only [Array.getD_eq_getD_getElem?, hu, Option.getD_some]
        exact hru
end
theorem any_n {P : Program} {all : List Oper} {W : List Nat} {I : List Oid} {σ : St} {Kont : List Res → Prop} {os : List Oper} {rs rs' : List Res} (h : rs = rs') (hh : AnyOps P all W I σ Kont os rs') : AnyOps P all W I σ Kont os rs := h ▸ hh
theorem D_anyL {P : Program} {Q : Exit → St → Prop} {σ : St} {id : Nat} {l hd tl : List Oper} (n : Nat) (W : List Nat) (I : List Oid) (hm : P.follows .mixedOrders = true) (hB : headB l.toArray n = true) (hW : (l.take n).filterMap (·.dst) = W) (hI : I.Nodup)
    (e1 : l.take n = hd) (e2 : l.drop n = tl) (h : AnyOps P hd W I σ (fun rs => made rs = I ∧ DL P l.toArray Q tl (stOf hd rs (fun _ => true) 0 σ)) hd []) : D P (.region id l.toArray true) Q σ := by
  subst e1; subst e2
  exact D_any n W I hm hB hW hI h
end Go.Proofs.Ytphlaojoehmhaaa
