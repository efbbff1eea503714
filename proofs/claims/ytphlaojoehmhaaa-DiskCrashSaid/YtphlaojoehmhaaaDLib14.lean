/- The machine's rules: literal slices as frozen data; results that are frozen. No program text. -/
import Derived.Test.YtphlaojoehmhaaaDLib13
set_option linter.unusedSimpArgs false
set_option linter.unusedVariables false
namespace Go.Proofs.Ytphlaojoehmhaaa
open Go.RowKit

theorem Spec.mono {P : Program} {f : FuncId} {σ σ' σ'' : St} (h : Spec P f σ σ') (hl : Le σ'' σ') : Spec P f σ σ'' := by
  intro K ι S vs w hK R
  refine (h K ι S vs w hK R).mono ?_
  rintro e w' ⟨v, ι', S', rfl, R'⟩
  obtain ⟨ι2, S2, R2⟩ := hl K ι' S' _ w' R'
  exact ⟨v, ι2, S2, rfl, R2⟩
theorem Spec.pre {P : Program} {f : FuncId} {σ σ' σ'' : St} (h : Spec P f σ σ') (hl : Le σ σ'') : Spec P f σ'' σ' := by
  intro K ι S vs w hK R
  obtain ⟨ι2, S2, R2⟩ := hl K ι S _ w R
  exact h K ι2 S2 vs w hK R2

theorem frz0 {ρ : Oid → Oid} {σ : St} {F : Oid → Bool} {id : Oid} {e : TypeId} {sz n : Nat} {xs ys : List PV} (hid : σ.ob id = .obj (.row e sz xs)) (hF : F id = true) (hl : n * sz = xs.length) (hy : xs = ys) : Lv ρ σ F (.sl n ys) (.ref id 0 n) :=
  .frz hid hF (by rw [List.drop_zero, hl, List.take_length, hy]) (by omega)

/-- From one result to a weaker one. -/
theorem Le.outO {r r' : AV} {obs obs' : List (Oid × Cells)} {I Pn : List Oid} (rn : List (Oid × Oid)) (Fz : List Oid) (hr : Lv (rnOf rn) (outStI r obs' I Pn) (fun i => inO i Fz) r' r) (hw1 : r'.within (obs.map (·.1)) = true) (hw2 : obsWithin (obs.map (·.1)) obs = true)
    (hd : nodupO ((obs.map (·.1)).map (rnOf rn)) = true) (hi : AllInc (outStI r obs' I Pn) Fz) (ho : AllLvO (rnOf rn) (outStI r obs' I Pn) (fun i => inO i Fz) obs) : Le (outSt r' obs) (outStI r obs' I Pn) := by
  refine Le.gen (n := 1) rn Fz rfl (fun t => ?_) (fun t id h => ?_) hw2 hd hi ho
  · show Lv _ _ _ _ (bif Nat.beq t 0 then r else .dead)
    cases hb : Nat.beq t 0 with
    | true => exact hr
    | false => exact .dead
  · cases hb : Nat.beq t 0 with
    | true => rw [hb] at h; exact within_has r' hw1 h
    | false => rw [hb] at h; cases h
theorem Le.outII {r r' : AV} {obs obs' : List (Oid × Cells)} {I I' Pn Pn' : List Oid} (rn : List (Oid × Oid)) (Fz : List Oid) (hr : Lv (rnOf rn) (outStI r obs' I' Pn') (fun i => inO i Fz) r' r) (hw1 : r'.within (obs.map (·.1)) = true) (hw2 : obsWithin (obs.map (·.1)) obs = true)
    (hd : nodupO ((obs.map (·.1)).map (rnOf rn)) = true) (hi : AllInc (outStI r obs' I' Pn') Fz) (ho : AllLvI (rnOf rn) (outStI r obs' I' Pn') (fun i => inO i Fz) I obs) (hp : AllPin (rnOf rn) (outStI r obs' I' Pn') Pn) (hsb : subO Pn (obs.map (·.1)) = true) : Le (outStI r' obs I Pn) (outStI r obs' I' Pn') := by
  refine Le.genI (n := 1) rn Fz rfl (fun t => ?_) (fun t id h => ?_) hw2 hd hi ho hp hsb
  · show Lv _ _ _ _ (bif Nat.beq t 0 then r else .dead)
    cases hb : Nat.beq t 0 with
    | true => exact hr
    | false => exact .dead
  · cases hb : Nat.beq t 0 with
    | true => rw [hb] at h; exact within_has r' hw1 h
    | false => rw [hb] at h; cases h
/-- What takes data alone. -/
theorem Spec.toIn {P : Program} {f : FuncId} {args : List AV} {σ' : St} (h : Spec P f (inStI args []) σ') : Spec P f (inSt args []) σ' := h
theorem Spec.ofIn {P : Program} {f : FuncId} {args : List AV} {σ' : St} (h : Spec P f (inSt args []) σ') : Spec P f (inStI args []) σ' := h

section
variable {P : Program} {σ : St} {o : Oper} {z : List Value} {T e : TypeId} {size bytes : Nat}

/-- A literal slice that is only read. -/
theorem op_bsF {dd : Option Tmp} {ty : TypeId} (len : Nat) (parts : Array (Nat × Operand)) (E : Elem P T e size bytes z) {r : List (List AV)} (hp : partsL σ 0 parts.toList = some r) (hlen : r.length = len) (hsz : ∀ c ∈ r, c.length = size)
    (hb : len * size ≤ 100000) {xs : List PV} (hxs : downs r.flatten = some xs) : Stp P dd (.buildSlice T len parts) ty σ (σ.put dd (.sl len xs)) := by
  intro o hd ho ht
  subst hd
  intro K ι S a w R
  obtain ⟨vs, h1, h2, h3, h4, h5, h6⟩ := partsL_spec R _ _ _ hp
  obtain ⟨d1, d2⟩ := downs_get hxs
  have hvsz : ∀ v ∈ vs, v.cells.size = size := by
    intro v hv
    obtain ⟨j, hj, rfl⟩ := List.getElem_of_mem hv
    have hjr : j < r.length := by omega
    rw [h3 j _ _ (List.getElem?_eq_getElem hj) (List.getElem?_eq_getElem hjr)]
    exact hsz _ (List.getElem_mem hjr)
  obtain ⟨v', w', hr, H', hbl, hfr, _⟩ := run_bs (P := P) (ρ := a.eval) (SH.start w) len parts ho vs h1 (by omega) hvsz _ rfl h5 hb
  have hrow := H'.get (i := 0) (x := .row v' e size len (vs.flatMap fun v => v.cells.toList)) rfl
  have hxl : xs.length = len * size := by
    have : ∀ (r : List (List AV)), (∀ c ∈ r, c.length = size) → r.flatten.length = r.length * size := by
      intro r
      induction r with
      | nil => simp
      | cons c r ih =>
        intro h
        rw [List.flatten_cons, List.length_append, ih fun c hc => h c (List.mem_cons_of_mem _ hc), h c List.mem_cons_self, List.length_cons, Nat.add_mul, Nat.one_mul, Nat.add_comm]
    rw [← d1, this r hsz, hlen]
  have fin : ∀ (S' : Nat → Prop), (∀ g, S g → S' g) → (∀ g, S' g → S g ∨ w.heap.size ≤ g) → (∀ g, S' g → g < w'.heap.size) → Rd S' w' (.sl len xs) v' → Yields P o a.eval w fun v w'' => ∃ ι' S', RelI K ι' S' (σ.put o.dst (.sl len xs)) (a.put o.dst v) w'' := by
    intro S' g1 g2 g3 hrd
    have R3 := R.gen (ι' := ι) (S' := S') (w' := w') (ob' := σ.ob) (inc' := σ.inc) (fun _ => False) (.of_below hbl) (fun _ _ => rfl) (fun _ _ => rfl) (fun _ _ => rfl) (fun _ h => h) g1
      (fun g h => by rcases g2 g h with h | h; · exact .inl h
                     · exact .inr (.inl h)) g3
      (fun _ _ h => h.elim) (fun _ _ h => h.elim) (fun _ _ h => h.elim) (fun _ _ _ _ _ h => h.elim) (fun _ _ _ h => h.elim) (fun _ _ _ h => h.elim)
    exact yields_value hr ⟨ι, S', R3.put o.dst (.sl hrd) fun i hi => noHasS hi⟩
  rcases own_split (w := w') (e := e) (sz := size) (n := len) (v := v') (us := vs.flatMap fun v => v.cells.toList) ⟨hrow.1.1, by
    rcases hrow.1.2 with h | ⟨g, cap, cur, a1, a2, a3⟩
    · exact .inl h
    · exact .inr ⟨g, cap, cur, a1, Nat.zero_le _, a3⟩⟩ with ⟨hv, rfl, hu0⟩ | ⟨g, c, cur, hv, hg, hnc, hcm, hcs, hcu⟩
  · subst hv
    have : xs = [] := List.eq_nil_of_length_eq_zero (by simpa using hxl)
    subst this
    exact fin S (fun _ h => h) (fun _ h => .inl h) (fun g h => Nat.lt_of_lt_of_le (R.Slt g h) hbl.size) (.sl0 (Nat.le_refl _) (by unfold maxLen; omega) fun _ => ⟨rfl, rfl⟩)
  · subst hv
    have hgw : w.heap.size ≤ g := hfr g rfl
    refine fin (fun k => S k ∨ k = g) (fun _ h => .inl h) (fun k h => by
      rcases h with h | h
      · exact .inl h
      · exact .inr (by rw [h]; exact hgw)) (fun k h => ?_) ?_
    · rcases h with h | h
      · exact Nat.lt_of_lt_of_le (R.Slt k h) hbl.size
      · rw [h]; exact (Array.getElem?_eq_some_iff.1 hg).1
    · have key : ∀ (j : Nat) (p : PV), xs[j]? = some p → ∃ u, cur[j]? = some u ∧ Rd (fun k => S k ∨ k = g) w' p u := by
        intro j p hj
        obtain ⟨b, hb', hbd⟩ := d2 j p hj
        obtain ⟨u, hu, hru⟩ := h6 j b hb'
        exact ⟨u, hcu j u hu, (hru.down hbd (h5 u (List.mem_of_getElem? hu))).next (fun k hk => hbl.block k (R.Slt k hk)) fun _ h => .inl h⟩
      have := Rd.sl (S := fun k => S k ∨ k = g) (w := w') (n := len) (c := c) (b := g) (o := 0) (xs := xs) (fun j => cur.getD j undef) hnc hcm (.inr rfl) (fun j p hj => ?_) (fun j p hj => ?_)
      · exact this
      · obtain ⟨u, hu, _⟩ := key j p hj
        simp only [Nat.zero_add, Array.getD_eq_getD_getElem?, hu, Option.getD_some]
        exact cell_in hg hu
      · obtain ⟨u, hu, hru⟩ := key j p hj
        simp only [Array.getD_eq_getD_getElem?, hu, Option.getD_some]
        exact hru
end
end Go.Proofs.Ytphlaojoehmhaaa
