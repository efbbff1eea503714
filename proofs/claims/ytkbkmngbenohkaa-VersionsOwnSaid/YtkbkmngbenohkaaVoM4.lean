/- The machine's library, part 4. No program text. -/
import Derived.Test.YtkbkmngbenohkaaVoM3
import Derived.DataReads
import Derived.ChangeSlices
import Derived.WalkKit
import Derived.ChangeOld
import Derived.SizedLaws
set_option linter.unusedSimpArgs false
set_option linter.unusedVariables false
namespace Go.Proofs.Ytkbkmngbenohkaa
open Go.RowKit

def fillL {α : Type} (pl : Nat → Option (Nat × Nat)) : List α → List (Nat × List α) → Option (List α)
  | cs, [] => some cs
  | cs, (i, vs) :: rest => match pl i with
    | some (off, size) => bif Nat.beq vs.length size && Nat.ble (off + size) cs.length then fillL pl (putL cs off vs) rest else none
    | none => none

/-- What is known of a struct's or an array's making: its zero cells, its parts' places. -/
class Bld (P : Program) (t : TypeId) (z : outParam (List Value)) (pl : outParam (Nat → Option (Nat × Nat))) : Prop where
  out : ∀ (parts : Array (Nat × Value)) (cs : Array Value) (w : World), Instr.fill pl z.toArray parts.toList = some cs → (Instr.build t parts).run P w = .ok (.agg cs) w
  one : ∀ u ∈ z, u.oneCell' = true

theorem Bld.struct {P : Program} {t : TypeId} {z : List Value} {fs : Array Field} {bytes : Nat} (zv : Value) (pl : List (Nat × Nat)) (h1 : P.underlying t = some (.struct fs)) (h2 : (P.info? t).map (fun i => (i.zero, i.size, i.bytes)) = some (some zv, z.length, bytes)) (h3 : zv.cells = z.toArray)
    (h4 : ∀ u ∈ z, u.oneCell' = true) (hp : ∀ w, (fs.mapM fun f => do pure (f.offset, ← sizeOf f.type) : Sem (Array (Nat × Nat))).run P w = .ok pl.toArray w) : Bld P t z (fun i => pl[i]?) := by
  obtain ⟨i, hi, a, b, c⟩ := info_parts h2
  refine ⟨fun parts cs w hf => ?_, h4⟩
  have hp' := hp w
  have hz : (zeroValue t).run P w = .ok zv w := by simp [zeroValue, typeInfo, hi, a]
  simp only [Instr.build, Sem.run_bind, hz, run_underlying h1, Result.andThen_ok, hp', h3, Sem.run_pure, List.getElem?_toArray, hf]
theorem Bld.array {P : Program} {t e : TypeId} {z : List Value} {n size bytes : Nat} (zv : Value) (h1 : P.underlying t = some (.array n e)) (h2 : (P.info? t).map (fun i => (i.zero, i.size, i.bytes)) = some (some zv, z.length, bytes)) (h3 : zv.cells = z.toArray)
    (h4 : ∀ u ∈ z, u.oneCell' = true) (hs : (P.info? e).map (·.size) = some size) : Bld P t z (fun i => some (i * size, size)) := by
  obtain ⟨i, hi, a, b, c⟩ := info_parts h2
  obtain ⟨j, hj, hjs⟩ := Option.map_eq_some_iff.1 hs
  refine ⟨fun parts cs w hf => ?_, h4⟩
  simp [Instr.build, zeroValue, typeInfo, sizeOf, hi, a, h3, run_underlying h1, hj, hjs, hf]

/-- The cells of the parts that a literal gives. -/
def partsP (σ : St) : List (Nat × Operand) → Option (List (Nat × List AV))
  | [] => some []
  | (i, x) :: l => match (σ.eval x).cells, partsP σ l with
    | some c, some r => some ((i, c) :: r)
    | _, _ => none

theorem fill_real (pl : Nat → Option (Nat × Nat)) {R : AV → Value → Prop} : ∀ (ps : List (Nat × List AV)) (vs : List (Nat × Value)) (cs : List AV) (us : Array Value) (ys : List AV), fillL pl cs ps = some ys →
    vs.length = ps.length → (∀ (j : Nat) (p : Nat × List AV) (v : Nat × Value), ps[j]? = some p → vs[j]? = some v → p.1 = v.1 ∧ v.2.cells.size = p.2.length ∧ (∀ x ∈ v.2.cells.toList, x.oneCell' = true) ∧ ∀ (k : Nat) (b : AV), p.2[k]? = some b → R b (v.2.cells.getD k undef)) →
    us.size = cs.length → (∀ u ∈ us.toList, u.oneCell' = true) → (∀ (k : Nat) (b : AV), cs[k]? = some b → R b (us.getD k undef)) →
    ∃ us', Instr.fill pl us vs = some us' ∧ us'.size = ys.length ∧ (∀ u ∈ us'.toList, u.oneCell' = true) ∧ ∀ (k : Nat) (b : AV), ys[k]? = some b → R b (us'.getD k undef)
  | [], vs, cs, us, ys, h, hl, _, h1, h2, h3 => by
    obtain rfl : vs = [] := List.eq_nil_of_length_eq_zero hl
    simp only [fillL] at h
    obtain rfl := Option.some.inj h
    exact ⟨us, rfl, h1, h2, h3⟩
  | (i, c) :: ps, vs, cs, us, ys, h, hl, hp, h1, h2, h3 => by
    cases vs with
    | nil => simp at hl
    | cons v vs =>
      obtain ⟨i', v⟩ := v
      obtain ⟨e1, e2, e3, e4⟩ := hp 0 _ _ rfl rfl
      simp only at e1 e2 e3 e4
      subst e1
      simp only [fillL] at h
      split at h
      · rename_i off size hpl
        cases hc : (Nat.beq c.length size && Nat.ble (off + size) cs.length) with
        | false => rw [hc] at h; cases h
        | true =>
          rw [hc] at h
          simp only [Bool.and_eq_true, Nat.beq_eq, Nat.ble_eq] at hc
          obtain ⟨hc1, hc2⟩ := hc
          subst hc1
          have hf := fold_put v.cells.toList off 0 us (by simp [e2]; omega)
          simp only [Nat.add_zero] at hf
          have hz : (v.cells.zipIdx.foldl (fun (cs : Array Value) (p : Value × Nat) => cs.setIfInBounds (off + p.2) p.1) us) = (put us.toList off v.cells.toList).toArray := by
            rw [← hf, ← Array.foldl_toList, Array.toList_zipIdx]
          have hz' : (Array.foldl (fun cs (x : Value × Nat) => match x with | (c, j) => cs.setIfInBounds (off + j) c) us v.cells.zipIdx) = (put us.toList off v.cells.toList).toArray := hz
          have hvl : v.cells.toList.length = c.length := by simpa using e2
          have hcl : off + v.cells.toList.length ≤ us.toList.length := by rw [hvl]; simp; omega
          have hstep := fill_real pl (R := R) ps vs (putL cs off c) (putL us.toList off v.cells.toList).toArray ys h (by simpa using hl) (fun j p q hj hq => hp (j + 1) p q (by simpa using hj) (by simpa using hq))
            (by simp [putL_len _ _ _ hcl, putL_len _ _ _ hc2, h1]) (fun u hu => by
              rcases putL_mem (by simpa using hu) with hu | hu
              · exact h2 u hu
              · exact e3 u hu) (fun k b hb => by
              rw [putL_get _ _ _ hc2] at hb
              have hk : (putL us.toList off v.cells.toList).toArray.getD k undef = ((putL us.toList off v.cells.toList)[k]?).getD undef := by simp [List.getD_eq_getElem?_getD]
              rw [hk, putL_get _ _ _ hcl, hvl]
              split at hb
              · rename_i hin
                rw [if_pos hin]
                have := e4 _ b hb
                simpa using this
              · rename_i hin
                rw [if_neg hin]
                have := h3 k b hb
                simpa using this)
          obtain ⟨us', r1, r2, r3, r4⟩ := hstep
          refine ⟨us', ?_, r2, r3, r4⟩
          simp only [Instr.fill, hpl]
          rw [if_neg (by simp [e2]; omega)]
          rw [hz']
          exact r1
      · cases h

section
variable {P : Program} {σ : St} {o : Oper} {z : List Value}
theorem partsP_spec {K : Ctx} {ι : Oid → Option Blk} {S : Nat → Prop} {a : Act} {w : World} (R : RelI K ι S σ a w) : ∀ (l : List (Nat × Operand)) (r : List (Nat × List AV)), partsP σ l = some r →
    l.length = r.length ∧ (∀ (j : Nat) (p : Nat × List AV) (v : Nat × Value), r[j]? = some p → (l.map fun q => (q.1, a.eval q.2))[j]? = some v → p.1 = v.1 ∧ v.2.cells.size = p.2.length ∧ (∀ x ∈ v.2.cells.toList, x.oneCell' = true) ∧ ∀ (k : Nat) (b : AV), p.2[k]? = some b → Rep ι S w b (v.2.cells.getD k undef)) ∧
      ∀ p ∈ r, ∀ b ∈ p.2, ∀ i, Has i b → σ.ob i ≠ .free
  | [], r, h => by simp [partsP] at h; subst h; simp
  | (i, x) :: l, r, h => by
    simp only [partsP] at h
    split at h
    · rename_i c r' hc hr
      obtain rfl := Option.some.inj h
      obtain ⟨h1, h2, h3⟩ := partsP_spec R l r' hr
      obtain ⟨c1, c2, c3⟩ := (R.eval x).cells hc
      refine ⟨by simp [h1], fun j p v hp hv => ?_, fun p hp b hb k hk => ?_⟩
      · cases j with
        | zero =>
          simp at hp hv
          subst hp; subst hv
          exact ⟨rfl, c1, c2, c3⟩
        | succ j => exact h2 j p v (by simpa using hp) (by simpa using hv)
      · rcases List.mem_cons.1 hp with rfl | hp
        · exact R.evalHas x (cells_has hc hb hk)
        · exact h3 p hp b hb k hk
    · cases h

theorem fillL_has {pl : Nat → Option (Nat × Nat)} {Q : AV → Prop} : ∀ (ps : List (Nat × List AV)) (cs ys : List AV), fillL pl cs ps = some ys → (∀ b ∈ cs, Q b) → (∀ p ∈ ps, ∀ b ∈ p.2, Q b) → ∀ b ∈ ys, Q b
  | [], cs, ys, h, h1, _ => by
    simp only [fillL] at h
    obtain rfl := Option.some.inj h
    exact h1
  | (i, c) :: ps, cs, ys, h, h1, h2 => by
    simp only [fillL] at h
    split at h
    · cases hc : (Nat.beq c.length _ && Nat.ble _ cs.length) with
      | false => rw [hc] at h; cases h
      | true =>
        rw [hc] at h
        exact fillL_has ps _ ys h (fun b hb => by
          rcases putL_mem hb with hb | hb
          · exact h1 b hb
          · exact h2 _ List.mem_cons_self b hb) fun p hp => h2 p (List.mem_cons_of_mem _ hp)
    · cases h

theorem op_build {dd : Option Tmp} {ty t : TypeId} {pl : Nat → Option (Nat × Nat)} (parts : Array (Nat × Operand)) (B : Bld P t z pl) {r : List (Nat × List AV)} (hp : partsP σ parts.toList = some r) {ys : List AV} (hf : fillL pl (z.map AV.v) r = some ys) :
    Stp P dd (.build t parts) ty σ (σ.put dd (.agg ys)) := by
  intro o hd ho ht
  subst hd
  refine step_val fun K ι S a w R => ?_
  obtain ⟨h1, h2, h3⟩ := partsP_spec R _ _ hp
  obtain ⟨us, u1, u2, u3, u4⟩ := fill_real pl (R := Rep ι S w) r (parts.toList.map fun q => (q.1, a.eval q.2)) (z.map AV.v) z.toArray ys hf (by simp at h1 ⊢; omega) h2 (by simp) (by simpa using B.one) (fun k b hb => by
    simp only [List.getElem?_map] at hb
    obtain ⟨x, hx, rfl⟩ := Option.map_eq_some_iff.1 hb
    have : z.toArray.getD k undef = x := by simp [hx]
    rw [this]; exact .v)
  refine ⟨.agg us, ?_, .agg u2 u3 u4, fun i hi => ?_⟩
  · have := B.out (parts.map fun q => (q.1, a.eval q.2)) us w (by simpa using u1)
    have he : (parts.map fun x => match x with | (i, x) => (i, a.eval x)) = parts.map fun q => (q.1, a.eval q.2) := rfl
    simp only [execOp, ho, he, Sem.run_bind, this, Result.andThen_ok, Sem.run_pure]
  · cases hi with
    | agg hm hi =>
      refine fillL_has (Q := fun b => ∀ i, Has i b → σ.ob i ≠ .free) r _ ys hf (fun b hb i hi => ?_) h3 _ hm i hi
      simp only [List.mem_map] at hb
      obtain ⟨x, _, rfl⟩ := hb
      cases hi

theorem op_ext {dd : Option Tmp} {ty : TypeId} {av : AV} (x : Operand) {j : Nat} {xs : List AV} (hx : σ.eval x = .tup xs) (hv : xs[j]? = some av) : Stp P dd (.extract x j) ty σ (σ.put dd av) := by
  intro o hd ho ht
  subst hd
  refine step_val fun K ι S a w R => ?_
  have hp := R.eval x
  rw [hx] at hp
  generalize hve : a.eval x = v at hp
  cases hp with
  | tup h1 h3 =>
    rename_i us
    have hlt : j < us.size := by rw [h1]; exact (List.getElem?_eq_some_iff.1 hv).1
    refine ⟨us[j], by simp [execOp, ho, Instr.extract, hve, hlt], by have := h3 j av hv; simpa [hlt] using this, fun i h => R.evalHas x (by rw [hx]; exact .tup (List.mem_of_getElem? hv) h)⟩
end
end Go.Proofs.Ytkbkmngbenohkaa

namespace Go.Proofs.Ytkbkmngbenohkaa
open Go.RowKit

theorem Spec.mono {P : Program} {f : FuncId} {σ σ' σ'' : St} (h : Spec P f σ σ') (hl : Le σ'' σ') : Spec P f σ σ'' := by
  intro K ι S vs w hK hr R
  refine (h K ι S vs w hK hr R).mono ?_
  rintro e w' ⟨v, ι', S', rfl, R'⟩
  obtain ⟨ι2, S2, R2⟩ := hl K ι' S' _ w' R'
  exact ⟨v, ι2, S2, rfl, R2⟩
theorem Spec.pre {P : Program} {f : FuncId} {σ σ' σ'' : St} (h : Spec P f σ σ') (hl : Le σ σ'') : Spec P f σ'' σ' := by
  intro K ι S vs w hK hr R
  obtain ⟨ι2, S2, R2⟩ := hl K ι S _ w R
  exact h K ι2 S2 vs w hK hr R2

theorem frz0 {ρ : Oid → Oid} {σ : St} {F : Oid → Bool} {id : Oid} {e : TypeId} {sz n : Nat} {xs ys : List PV} (hid : σ.ob id = .obj (.row e sz xs)) (hF : F id = true) (hl : n * sz = xs.length) (hy : xs = ys) : Lv ρ σ F (.sl n ys) (.ref id 0 n) :=
  .frz hid hF (by rw [List.drop_zero, hl, List.take_length, hy]) (by omega)

/-- From one result to a weaker one. -/
theorem Le.outO {r r' : AV} {obs obs' : List (Oid × Cells)} {I Pn : List Oid} (rn : List (Oid × Oid)) (Fz : List Oid) (hr : Lv (rnOf rn) (outStI r obs' I Pn) (fun i => inO i Fz) r' r) (hw1 : r'.within (obs.map (·.1)) = true) (hw2 : obsWithin (obs.map (·.1)) obs = true)
    (hd : nodupO ((obs.map (·.1)).map (rnOf rn)) = true) (hi : AllInc (outStI r obs' I Pn) Fz) (ho : AllLvO (rnOf rn) (outStI r obs' I Pn) (fun i => inO i Fz) obs) : Le (outSt r' obs) (outStI r obs' I Pn) := by
  refine Le.gen (n := 1) rn Fz rfl (fun t => ?_) (fun t id h => ?_) hw2 hd hi ho
  · show Lv _ _ _ _ (bif Nat.beq t 0 then r else .dead)
    cases hb : Nat.beq t 0 with
    | true => exact hr
    | false => exact .dead
  · cases hb : Nat.beq t 0 with
    | true => rw [hb] at h; exact within_has r' hw1 h
    | false => rw [hb] at h; cases h
section
variable {P : Program} {σ : St} {o : Oper} {z : List Value} {T e : TypeId} {size bytes : Nat}

/-- A literal slice that is only read. -/
theorem op_bsF {dd : Option Tmp} {ty : TypeId} (len : Nat) (parts : Array (Nat × Operand)) (E : Elem P T e size bytes z) {r : List (List AV)} (hp : partsL σ 0 parts.toList = some r) (hlen : r.length = len) (hsz : ∀ c ∈ r, c.length = size)
    (hb : len * size ≤ 100000) {xs : List PV} (hxs : downs r.flatten = some xs) : Stp P dd (.buildSlice T len parts) ty σ (σ.put dd (.sl len xs)) := by
  intro o hd ho ht
  subst hd
  intro K ι S a w R
  obtain ⟨vs, h1, h2, h3, h4, h5, h6⟩ := partsL_spec R _ _ _ hp
  obtain ⟨d1, d2⟩ := downs_get hxs
  have hvsz : ∀ v ∈ vs, v.cells.size = size := by
    intro v hv
    obtain ⟨j, hj, rfl⟩ := List.getElem_of_mem hv
    have hjr : j < r.length := by omega
    rw [h3 j _ _ (List.getElem?_eq_getElem hj) (List.getElem?_eq_getElem hjr)]
    exact hsz _ (List.getElem_mem hjr)
  obtain ⟨v', w', hr, H', hbl, hfr, _⟩ := run_bs (P := P) (ρ := a.eval) (SH.start w) len parts ho vs h1 (by omega) hvsz _ rfl h5 hb
  have hrow := H'.get (i := 0) (x := .row v' e size len (vs.flatMap fun v => v.cells.toList)) rfl
  have hxl : xs.length = len * size := by
    have : ∀ (r : List (List AV)), (∀ c ∈ r, c.length = size) → r.flatten.length = r.length * size := by
      intro r
      induction r with
      | nil => simp
      | cons c r ih =>
        intro h
        rw [List.flatten_cons, List.length_append, ih fun c hc => h c (List.mem_cons_of_mem _ hc), h c List.mem_cons_self, List.length_cons, Nat.add_mul, Nat.one_mul, Nat.add_comm]
    rw [← d1, this r hsz, hlen]
  have fin : ∀ (S' : Nat → Prop), (∀ g, S g → S' g) → (∀ g, S' g → S g ∨ w.heap.size ≤ g) → (∀ g, S' g → g < w'.heap.size) → Rd S' w' (.sl len xs) v' → Yields P o a.eval w fun v w'' => ∃ ι' S', RelI K ι' S' (σ.put o.dst (.sl len xs)) (a.put o.dst v) w'' := by
    intro S' g1 g2 g3 hrd
    have R3 := R.gen (ι' := ι) (S' := S') (w' := w') (ob' := σ.ob) (inc' := σ.inc) (fun _ => False) (.of_below hbl) (fun _ _ => rfl) (fun _ _ => rfl) (fun _ _ => rfl) (fun _ h => h) g1
      (fun g h => by rcases g2 g h with h | h; · exact .inl h
                     · exact .inr (.inl h)) g3
      (fun _ _ h => h.elim) (fun _ _ h => h.elim) (fun _ _ h => h.elim) (fun _ _ _ _ _ h => h.elim) (fun _ _ _ h => h.elim) (fun _ _ _ h => h.elim)
    exact yields_value hr ⟨ι, S', R3.put o.dst (.sl hrd) fun i hi => noHasS hi⟩
  rcases own_split (w := w') (e := e) (sz := size) (n := len) (v := v') (us := vs.flatMap fun v => v.cells.toList) ⟨hrow.1.1, by
    rcases hrow.1.2 with h | ⟨g, cap, cur, a1, a2, a3⟩
    · exact .inl h
    · exact .inr ⟨g, cap, cur, a1, Nat.zero_le _, a3⟩⟩ with ⟨hv, rfl, hu0⟩ | ⟨g, c, cur, hv, hg, hnc, hcm, hcs, hcu⟩
  · subst hv
    have : xs = [] := List.eq_nil_of_length_eq_zero (by simpa using hxl)
    subst this
    exact fin S (fun _ h => h) (fun _ h => .inl h) (fun g h => Nat.lt_of_lt_of_le (R.Slt g h) hbl.size) (.sl0 (Nat.le_refl _) (by unfold maxLen; omega) fun _ => ⟨rfl, rfl⟩)
  · subst hv
    have hgw : w.heap.size ≤ g := hfr g rfl
    refine fin (fun k => S k ∨ k = g) (fun _ h => .inl h) (fun k h => by
      rcases h with h | h
      · exact .inl h
      · exact .inr (by rw [h]; exact hgw)) (fun k h => ?_) ?_
    · rcases h with h | h
      · exact Nat.lt_of_lt_of_le (R.Slt k h) hbl.size
      · rw [h]; exact (Array.getElem?_eq_some_iff.1 hg).1
    · have key : ∀ (j : Nat) (p : PV), xs[j]? = some p → ∃ u, cur[j]? = some u ∧ Rd (fun k => S k ∨ k = g) w' p u := by
        intro j p hj
        obtain ⟨b, hb', hbd⟩ := d2 j p hj
        obtain ⟨u, hu, hru⟩ := h6 j b hb'
        exact ⟨u, hcu j u hu, (hru.down hbd (h5 u (List.mem_of_getElem? hu))).next (fun k hk => hbl.block k (R.Slt k hk)) fun _ h => .inl h⟩
      have := Rd.sl (S := fun k => S k ∨ k = g) (w := w') (n := len) (c := c) (b := g) (o := 0) (xs := xs) (fun j => cur.getD j undef) hnc hcm (.mk (.inr rfl) hg) (fun j p hj => ?_) (fun j p hj => ?_)
      · exact this
      · obtain ⟨u, hu, _⟩ := key j p hj
        simp only [Nat.zero_add, Array.getD_eq_getD_getElem?, hu, Option.getD_some]
        exact cell_in hg hu
      · obtain ⟨u, hu, hru⟩ := key j p hj
        simp only [Array.getD_eq_getD_getElem?, hu, Option.getD_some]
        exact hru
end
end Go.Proofs.Ytkbkmngbenohkaa

namespace Go.Proofs.Ytkbkmngbenohkaa
open Go.RowKit
section
variable {P : Program} {σ : St} {z : List Value} {T e : TypeId} {size bytes : Nat}

theorem below_self (w : World) : Below w.heap.size w w := Below.refl _ _

theorem op_asN {dd : Option Tmp} {ty : TypeId} (id : Oid) (x : Operand) (e : TypeId) (sz : Nat) (hx : σ.eval x = .v (.slice none 0 0)) (hid : σ.ob id = .free) : Stp P dd (.assign x) ty σ ((σ.setOb id (.obj (.row e sz []))).put dd (.ref id 0 0)) := by
  intro o hd ho ht
  subst hd
  intro K ι S a w R
  have hv := R.eval x
  rw [hx] at hv
  have hv := hv.toV
  exact yields_value (by simp [execOp, ho, hv]) (R.newNil hid (below_self w) e sz _)
end

mutual
theorem Lv.same {σ : St} {F : Oid → Bool} : (a : AV) → Lv (fun i => i) σ F a a
  | .dead => .dead
  | .v _ => .v
  | .sl _ _ => .sl
  | .fp _ _ => .fp
  | .z => .z
  | .mp _ => .mp (ρ := fun i => i)
  | .ref _ _ _ => .ref (ρ := fun i => i)
  | .ptr _ _ => .ptr (ρ := fun i => i)
  | .agg xs => .agg rfl fun j a b ha hb => by
      rw [ha] at hb; cases hb; exact Lv.sames xs j a ha
  | .fn f xs us => .fn rfl (fun j a b ha hb => by
      rw [ha] at hb; cases hb; exact Lv.sames xs j a ha) rfl fun j a b ha hb => by
      rw [ha] at hb; cases hb; exact Lv.sames us j a ha
  | .ifc t a => .ifc (Lv.same a)
  | .tup xs => .tup rfl fun j a b ha hb => by
      rw [ha] at hb; cases hb; exact Lv.sames xs j a ha
theorem Lv.sames {σ : St} {F : Oid → Bool} : (xs : List AV) → (j : Nat) → (a : AV) → xs[j]? = some a → Lv (fun i => i) σ F a a
  | [], _, _, h => by simp at h
  | x :: xs, 0, a, h => by simp at h; subst h; exact Lv.same x
  | x :: xs, j + 1, a, h => Lv.sames xs j a (by simpa using h)
end
theorem LvO.same {σ : St} {F : Oid → Bool} : (o : Cells) → LvO (fun i => i) σ F o o
  | .row _ _ xs => .row (List.append_nil xs).symm
  | .box _ xs => .box rfl fun j a b ha hb => by
      rw [ha] at hb; cases hb; exact Lv.sames xs j a ha
  | .rowA _ _ xs => .rowA rfl fun j a b ha hb => by
      rw [ha] at hb; cases hb; exact Lv.sames xs j a ha
  | .mp _ _ => .mp
  | .it _ _ _ _ => .it (ρ := fun i => i)

/-- A slot's slice is only read from here on. -/
theorem Le.frzS {σ : St} (t : Nat) {id : Oid} {off n : Nat} {e : TypeId} {sz : Nat} {xs ys : List PV} (hr : σ.fr t = .ref id off n) (hid : σ.ob id = .obj (.row e sz xs)) (hi : σ.inc id = false) (hy : (xs.drop off).take (n * sz) = ys) (hl : off + n * sz ≤ xs.length) :
    Le ((σ.setOb id .gone).put (some t) (.sl n ys)) σ := by
  intro K ι S a w R
  have hob : ∀ i o, ((σ.setOb id .gone).put (some t) (.sl n ys)).ob i = .obj o → oeq i id = false ∧ σ.ob i = .obj o := by
    intro i o h
    rw [St.put_ob] at h
    simp only [St.setOb] at h
    cases hb : oeq i id with
    | true => rw [hb] at h; cases h
    | false => rw [hb] at h; exact ⟨rfl, h⟩
  have hnf : ∀ i, σ.ob i ≠ .free → ((σ.setOb id .gone).put (some t) (.sl n ys)).ob i ≠ .free := by
    intro i h h'
    rw [St.put_ob] at h'
    simp only [St.setOb] at h'
    cases hb : oeq i id with
    | true => rw [hb] at h'; cases h'
    | false => rw [hb] at h'; exact h h'
  refine Le.of (fun i => i) (fun i => oeq i id) (by rw [St.put_n]; rfl) (fun u hu => ?_) (fun i o h => ?_) (fun _ _ _ _ _ _ h => h) (fun i h => ?_) (fun i o h h' => ?_) (fun u i h => ?_) (fun i o j h h' => ?_) (fun i h o hp ho => ?_) (fun i h => ?_) K ι S a w R
  · show Lv _ _ _ (bif Nat.beq u t then _ else σ.fr u) _
    cases hb : Nat.beq u t with
    | true => rw [Nat.eq_of_beq_eq_true hb, hr]; exact .frz hid (oeq_self id) hy hl
    | false => exact Lv.same _
  · obtain ⟨h1, h2⟩ := hob i o h
    exact ⟨h1, o, h2, LvO.same o⟩
  · rw [oeq_iff.1 h]; exact hi
  · exact h'
  · replace h : Has i (bif Nat.beq u t then _ else σ.fr u) := h
    cases hb : Nat.beq u t with
    | true => rw [hb] at h; cases h
    | false => rw [hb] at h; exact hnf i (R.cl u i h)
  · exact hnf j (R.clo i o j (hob i o h).2 h')
  · exact hp
  · refine R.pf i ?_
    rw [St.put_ob] at h
    simp only [St.setOb] at h
    cases hb : oeq i id with
    | true => rw [hb] at h; cases h
    | false => rw [hb] at h; exact h
/-- A box's slice is only read from here on. -/
theorem Le.frzB {σ : St} (ib : Oid) (j : Nat) {T : TypeId} {cs : List AV} {id : Oid} {off n : Nat} {e : TypeId} {sz : Nat} {xs ys : List PV} (hb : σ.ob ib = .obj (.box T cs)) (hr : cs[j]? = some (.ref id off n)) (hid : σ.ob id = .obj (.row e sz xs)) (hi : σ.inc id = false) (hy : (xs.drop off).take (n * sz) = ys) (hl : off + n * sz ≤ xs.length) :
    Le ((σ.setOb id .gone).setOb ib (.obj (.box T (cs.set j (.sl n ys))))) σ := by
  intro K ι S a w R
  have hne : oeq ib id = false := by
    cases h : oeq ib id with
    | true => rw [oeq_iff.1 h, hid] at hb; cases hb
    | false => rfl
  have hob : ∀ i o, ((σ.setOb id .gone).setOb ib (.obj (.box T (cs.set j (.sl n ys))))).ob i = .obj o → oeq i id = false ∧ ((oeq i ib = false ∧ σ.ob i = .obj o) ∨ (i = ib ∧ o = .box T (cs.set j (.sl n ys)))) := by
    intro i o h
    simp only [St.setOb] at h
    cases h1 : oeq i ib with
    | true =>
      rw [h1] at h
      have := oeq_iff.1 h1
      subst this
      cases h
      exact ⟨hne, .inr ⟨rfl, rfl⟩⟩
    | false =>
      rw [h1] at h
      cases h2 : oeq i id with
      | true => rw [h2] at h; cases h
      | false => rw [h2] at h; exact ⟨rfl, .inl ⟨rfl, h⟩⟩
  have hnf : ∀ i, σ.ob i ≠ .free → ((σ.setOb id .gone).setOb ib (.obj (.box T (cs.set j (.sl n ys))))).ob i ≠ .free := by
    intro i h h'
    simp only [St.setOb] at h'
    cases h1 : oeq i ib with
    | true => rw [h1] at h'; cases h'
    | false =>
      rw [h1] at h'
      cases h2 : oeq i id with
      | true => rw [h2] at h'; cases h'
      | false => rw [h2] at h'; exact h h'
  refine Le.of (σ1 := (σ.setOb id .gone).setOb ib (.obj (.box T (cs.set j (.sl n ys))))) (σ2 := σ) (fun i => i) (fun i => oeq i id) rfl (fun u hu => Lv.same _) (fun i o h => ?_) (fun _ _ _ _ _ _ h => h) (fun i h => ?_) (fun i o h h' => h') (fun u i h => hnf i (R.cl u i h)) (fun i o k h h' => ?_) (fun i h o hp ho => hp) (fun i h => ?_) K ι S a w R
  · obtain ⟨h1, ⟨_, h2⟩ | ⟨rfl, rfl⟩⟩ := hob i o h
    · exact ⟨h1, o, h2, LvO.same o⟩
    · refine ⟨h1, _, hb, .box (by simp) fun k a b ha hb' => ?_⟩
      by_cases hk : j = k
      · subst hk
        rw [hr] at hb'; cases hb'
        have hjl : j < cs.length := (List.getElem?_eq_some_iff.1 hr).1
        rw [List.getElem?_set_self hjl] at ha; cases ha
        exact .frz hid (oeq_self id) hy hl
      · rw [List.getElem?_set_ne hk, hb'] at ha; cases ha; exact Lv.same _
  · rw [oeq_iff.1 h]; exact hi
  · obtain ⟨h1, ⟨_, h2⟩ | ⟨rfl, rfl⟩⟩ := hob i o h
    · exact hnf k (R.clo i o k h2 h')
    · obtain ⟨x, hx, hk⟩ := h'
      rcases List.mem_or_eq_of_mem_set hx with hx | hx
      · exact hnf k (R.clo _ _ k hb ⟨x, hx, hk⟩)
      · subst hx; cases hk
  · refine R.pf i ?_
    simp only [St.setOb] at h
    cases h1 : oeq i ib with
    | true => rw [h1] at h; cases h
    | false =>
      rw [h1] at h
      cases h2 : oeq i id with
      | true => rw [h2] at h; cases h
      | false => rw [h2] at h; exact h
end Go.Proofs.Ytkbkmngbenohkaa

namespace Go.Proofs.Ytkbkmngbenohkaa
open Go.RowKit

/-- nil in a box's cell as data. -/
theorem Le.nil0 {σ : St} (ib : Oid) (j : Nat) {T : TypeId} {cs : List AV} (hb : σ.ob ib = .obj (.box T cs)) (hr : cs[j]? = some (.v (.slice none 0 0))) : Le (σ.setOb ib (.obj (.box T (cs.set j (.sl 0 []))))) σ := by
  intro K ι S a w R
  obtain ⟨B, g, h1, h2, h3, h4⟩ := R.ob ib _ hb
  refine ⟨ι, S, R.upd hb h1 (.of_below (below_self w)) ⟨B, g, h1, h2, by simpa using h3, ?_⟩ ?_⟩
  · rw [List.length_set]
    refine h4.next (fun _ _ => rfl) fun k u hu x hx => ?_
    by_cases hk : j = k
    · subst hk
      have := (hu _ hr).toV
      subst this
      rw [List.getElem?_set_self (List.getElem?_eq_some_iff.1 hr).1] at hx
      cases hx
      exact .sl (.sl0 (Nat.le_refl _) (by unfold maxLen; omega) fun _ => ⟨rfl, rfl⟩)
    · rw [List.getElem?_set_ne hk] at hx
      exact hu x hx
  · rintro i ⟨x, hx, hi⟩
    rcases List.mem_or_eq_of_mem_set hx with hx | hx
    · exact R.clo ib _ i hb ⟨x, hx, hi⟩
    · subst hx; cases hi
end Go.Proofs.Ytkbkmngbenohkaa

namespace Go.Proofs.Ytkbkmngbenohkaa
open Go.RowKit
section
variable {P : Program} {σ : St} {dd : Option Tmp} {ty : TypeId} {t t' : TypeId} {k k' : IntKind} {a b : Int}

theorem stp_bin {op : BinOp} {x y : Operand} {u v : Value} (hx : σ.eval x = .v u) (hy : σ.eval y = .v v) {r : Value} (h : ∀ (o : Oper) (ρ : Operand → Value) w, o.op = .binOp op t x y t' → ρ x = u → ρ y = v → (execOp ρ o).run P w = .ok (.value r) w) : Stp P dd (.binOp op t x y t') ty σ (σ.put dd (.v r)) := by
  intro o hd ho ht
  subst hd
  exact st_bool ho hx hy fun ρ w h1 h2 => h o ρ w ho h1 h2
theorem stp_un {op : Op} {x : Operand} {u : Value} (hx : σ.eval x = .v u) {r : Value} (h : ∀ (o : Oper) (ρ : Operand → Value) w, o.op = op → ρ x = u → (execOp ρ o).run P w = .ok (.value r) w) : Stp P dd op ty σ (σ.put dd (.v r)) := by
  intro o hd ho ht
  subst hd
  exact step_val fun _ _ _ a w R => ⟨r, h o a.eval w ho (Rep.evV R hx), .v, fun _ => noHasV⟩

theorem op_conv (x : Operand) (hs : P.underlying t = some (.int k)) (ht : P.underlying t' = some (.int k')) (hx : σ.eval x = .v (.int k a)) {r : Int} (hr : k'.wrap a = r) : Stp P dd (.convert t t' x) ty σ (σ.put dd (.v (.int k' r))) :=
  stp_un hx fun o ρ w ho hx => by subst hr; simp [execOp, ho, hx, go_sem, hs, ht, run_underlying hs, run_underlying ht]
theorem op_shr (x y : Operand) (hx : σ.eval x = .v (.int k a)) (hy : σ.eval y = .v (.int k' b)) (hb : 0 ≤ b) {r : Int} (hr : a.fdiv (2 ^ min b.toNat k.bits) = r) : Stp P dd (.binOp .shr t x y t') ty σ (σ.put dd (.v (.int k r))) :=
  stp_bin hx hy fun o ρ w ho hx hy => by subst hr; simp [execOp, ho, hx, hy, eqGuard, go_sem, Op.shift, Int.not_lt.2 hb]
theorem op_shl (x y : Operand) (hx : σ.eval x = .v (.int k a)) (hy : σ.eval y = .v (.int k' b)) (hb : 0 ≤ b) {r : Int} (hr : k.wrap (a * 2 ^ min b.toNat k.bits) = r) : Stp P dd (.binOp .shl t x y t') ty σ (σ.put dd (.v (.int k r))) :=
  stp_bin hx hy fun o ρ w ho hx hy => by subst hr; simp [execOp, ho, hx, hy, eqGuard, go_sem, Op.shift, Int.not_lt.2 hb]
theorem op_and (x y : Operand) (hx : σ.eval x = .v (.int k a)) (hy : σ.eval y = .v (.int k b)) {r : Int} (hr : k.wrap (BitVec.ofInt k.bits a &&& BitVec.ofInt k.bits b).toNat = r) : Stp P dd (.binOp .and t x y t') ty σ (σ.put dd (.v (.int k r))) :=
  stp_bin hx hy fun o ρ w ho hx hy => by subst hr; simp [execOp, ho, hx, hy, eqGuard, go_sem, Op.intBits]
theorem op_or (x y : Operand) (hx : σ.eval x = .v (.int k a)) (hy : σ.eval y = .v (.int k b)) {r : Int} (hr : k.wrap (BitVec.ofInt k.bits a ||| BitVec.ofInt k.bits b).toNat = r) : Stp P dd (.binOp .or t x y t') ty σ (σ.put dd (.v (.int k r))) :=
  stp_bin hx hy fun o ρ w ho hx hy => by subst hr; simp [execOp, ho, hx, hy, eqGuard, go_sem, Op.intBits]
theorem u64w {n : Int} (h : 0 ≤ n ∧ n < 18446744073709551616) : IntKind.u64.wrap n = n := by
  show IntKind.wrap .u64 n = n
  simp only [IntKind.wrap, IntKind.bits, IntKind.signed, Bool.false_and, Bool.false_eq_true, if_false]
  omega
end
end Go.Proofs.Ytkbkmngbenohkaa

namespace Go.Proofs.Ytkbkmngbenohkaa
open Go.RowKit

theorem Sl.rd {w : World} {sz n : Nat} {v : Value} {xs : List Value} (h : Sl w sz v n xs) : Rd (fun g => g < w.heap.size) w (.sl n (xs.map PV.v)) v := by
  obtain ⟨ao, c, rfl, h1, h2, h3, h4, h5, h6, h7⟩ := h
  cases xs with
  | nil => exact .sl0 h1 h2 h5
  | cons x xs =>
    have hn : 0 < n := by
      rcases Nat.eq_zero_or_pos n with h | h
      · subst h; simp at h3
      · exact h
    obtain ⟨b, off, rfl⟩ := h6 hn
    refine .sl (fun j => (x :: xs).getD j undef) h1 h2 ?_ (fun j p hj => ?_) (fun j p hj => ?_)
    · have := h7 _ rfl 0 x rfl
      refine ⟨World.block_lt_of_cell? w _ this, ?_⟩
      simp only [World.cell?, Addr.add_lit] at this
      split at this
      · rename_i c e f hc
        exact ⟨c, e, f, hc⟩
      · cases this
    · have hj' : j < (x :: xs).length := by
        have := (List.getElem?_eq_some_iff.1 hj).1
        simpa using this
      have := h7 _ rfl j _ (List.getElem?_eq_getElem hj')
      simp only [List.getD_eq_getElem?_getD, List.getElem?_eq_getElem hj', Option.getD_some]
      by_cases hj0 : j = 0
      · subst hj0; simpa [Addr.add] using this
      · simpa [Addr.add, hj0] using this
    · have hj' : j < (x :: xs).length := by
        have := (List.getElem?_eq_some_iff.1 hj).1
        simpa using this
      rw [List.getElem?_map, List.getElem?_eq_getElem hj'] at hj
      cases hj
      simp only [List.getD_eq_getElem?_getD, List.getElem?_eq_getElem hj', Option.getD_some]
      exact .v (h4 _ (List.getElem_mem hj'))

theorem Spec.law {P : Program} {f : FuncId} {args : List AV} {r : Value} {vs : List Value} {w : World} (sp : Spec P f (inSt args []) (outSt (.v r) [])) (hp : AV.pures args = true) (hl : vs.length = args.length)
    (h : ∀ (j : Nat) (a : AV) (v : Value), args[j]? = some a → vs[j]? = some v → Rep (fun _ => none) (fun g => g < w.heap.size) w a v) : Calls P f vs.toArray w fun e w' => e = .returned r ∧ Below w.heap.size w w' := by
  have hnh : ∀ t id, ¬ Has id (args.getD t .dead) := by
    intro t id hh
    by_cases ht : t < args.length
    · have : args.getD t .dead = args[t] := by simp [ht]
      rw [this] at hh
      exact pures_has _ hp _ (List.getElem_mem ht) hh
    · have : args.getD t .dead = .dead := by simp [show args.length ≤ t by omega]
      rw [this] at hh; cases hh
  have R : RelI ⟨w, fun _ => False, fun g => g < w.heap.size, fun _ => none, none⟩ (fun _ => none) (fun g => g < w.heap.size) (inSt args []) ⟨vs.toArray, []⟩ w := by
    have hfree : ∀ i o, (inSt args []).ob i ≠ .obj o := fun i o h => by cases h
    refine { keeps := .refl _ _, S0 := fun g h => .inl h, Slt := fun g h => h, nt := by simpa [inSt] using hl, df := .nil, fr := fun t ht => ?_, cl := fun t id hh => (hnh t id hh).elim, clo := fun i o j ho => (hfree i o ho).elim, ob := fun i o ho => (hfree i o ho).elim, dom := fun i B hB => (by cases hB), inj := fun i j B B' g hB => (by cases hB), sep := fun i B g hB => (by cases hB), pin := fun i hh o hp => (by cases hp), pf := fun _ _ => rfl }
    replace ht : t < args.length := ht
    have ht' : t < vs.length := by omega
    have := h t args[t] vs[t] (List.getElem?_eq_getElem ht) (List.getElem?_eq_getElem ht')
    show Rep _ _ _ (args.getD t .dead) _
    simpa [ht, ht'] using this
  refine (sp _ _ _ _ w rfl rfl R).mono ?_
  rintro e w' ⟨v, ι', S', rfl, R'⟩
  have h0 : Rep ι' S' w' (.v r) v := R'.fr 0 (by show 0 < 1; omega)
  rw [h0.toV]
  refine ⟨rfl, R'.keeps.os, R'.keeps.tape, R'.keeps.output, R'.keeps.size, fun g hg => R'.keeps.block g hg fun h => h⟩
/-- The arguments, in the world. -/
def ArgsRep (w : World) : List AV → List Value → Prop
  | [], [] => True
  | a :: xs, v :: vs => Rep (fun _ => none) (fun g => g < w.heap.size) w a v ∧ ArgsRep w xs vs
  | _, _ => False
theorem ArgsRep.len {w : World} : ∀ {xs : List AV} {vs : List Value}, ArgsRep w xs vs → vs.length = xs.length
  | [], [], _ => rfl
  | _ :: _, _ :: _, h => by simp [h.2.len]
  | [], _ :: _, h => h.elim
  | _ :: _, [], h => h.elim
theorem ArgsRep.at {w : World} : ∀ {xs : List AV} {vs : List Value}, ArgsRep w xs vs → ∀ (j : Nat) (a : AV) (v : Value), xs[j]? = some a → vs[j]? = some v → Rep (fun _ => none) (fun g => g < w.heap.size) w a v
  | [], _, _, _, _, _, ha, _ => by simp at ha
  | _ :: _, [], h, _, _, _, _, _ => h.elim
  | _ :: _, _ :: _, h, 0, _, _, ha, hv => by simp at ha hv; subst ha; subst hv; exact h.1
  | _ :: _, _ :: _, h, j + 1, a, v, ha, hv => h.2.at j a v (by simpa using ha) (by simpa using hv)
theorem Spec.calls {P : Program} {f : FuncId} {args : List AV} {r : Value} {w : World} (sp : Spec P f (inSt args []) (outSt (.v r) [])) (hp : AV.pures args = true) {vs : List Value} (h : ArgsRep w args vs) : Calls P f vs.toArray w fun e w' => e = .returned r ∧ Below w.heap.size w w' :=
  sp.law hp h.len h.at
end Go.Proofs.Ytkbkmngbenohkaa

namespace Go.Proofs.Ytkbkmngbenohkaa
open Go.RowKit Go.ChangeShapes Go.WideShapes

theorem fitsI {n : Int} (h : (Lit.int .i64 n).wf = true) : -9223372036854775808 ≤ n ∧ n ≤ 9223372036854775807 := by
  simp [Lit.wf, IntKind.min, IntKind.max, IntKind.signed, IntKind.bits] at h; omega
section
variable {H : Type} {enc : TypeId × Value → H} {P : Program} {w : World} {base : Nat} {spare : Nat → Bool} {held : Bool}

/-- A row of one-cell values of one kind. -/
theorem open_cells {t e : TypeId} {α : Type} (f : α → Value) (d0 : α) (g : Lit → Prop) {fuel : Nat} {cs : List Value} {x : DataW H × List MemPlace} (ht : P.underlying t = some (.slice e)) (hc : P.cellsOf e = 1)
    (hone : ∀ (n : Nat) (c : List Value) (y : DataW H × List MemPlace), DataW.trod enc P w base spare held n e c = some y → ∃ z : α, c = [f z] ∧ (f z).oneCell' = true) {ao : Option Addr} {len cap : Nat} (hcs : cs = [.slice ao len cap])
    (h : DataW.trod enc P w base spare held fuel t cs = some x) : ∃ zs : List α, zs.length = len ∧ Sl w 1 (.slice ao len cap) len (zs.map f) := by
  rcases DataW.trod_slice ht h with ⟨h0, _⟩ | ⟨a, len', cap', elems, rest, n, _, h0, rfl, hb, hl, hm, hlen, hel, hsp, hns⟩
  · rw [hcs] at h0
    simp at h0
    obtain ⟨rfl, rfl, rfl⟩ := h0
    exact ⟨[], rfl, ⟨none, 0, rfl, Nat.le_refl _, by simp, rfl, by simp, fun _ => ⟨rfl, rfl⟩, fun h => absurd h (by omega), by simp⟩⟩
  · rw [hcs] at h0
    simp at h0
    obtain ⟨rfl, rfl, rfl⟩ := h0
    have key : ∀ i, i < len → ∃ z : α, w.cell? (a.add i) = some (f z) ∧ (f z).oneCell' = true := by
      intro i hi
      have h1 := hel i hi
      rw [hc, Nat.mul_one, List.getElem?_eq_getElem (by omega), Option.bind_eq_some_iff] at h1
      obtain ⟨c, h2, h3⟩ := h1
      obtain ⟨z, rfl, h4⟩ := hone _ _ _ h3
      exact ⟨z, cell_of_cells?_one h2, h4⟩
    have pick : ∀ m, m ≤ len → ∃ zs : List α, zs.length = m ∧ ∀ i z, zs[i]? = some z → w.cell? (a.add i) = some (f z) ∧ (f z).oneCell' = true := by
      intro m
      induction m with
      | zero => exact fun _ => ⟨[], rfl, by simp⟩
      | succ m ih =>
        intro hm
        obtain ⟨zs, h1, h2⟩ := ih (by omega)
        obtain ⟨z, h3⟩ := key m (by omega)
        refine ⟨zs ++ [z], by simp [h1], fun i y hy => ?_⟩
        by_cases hi : i < zs.length
        · rw [List.getElem?_append_left hi] at hy; exact h2 i y hy
        · have hil := (List.getElem?_eq_some_iff.1 hy).1
          simp at hil
          have : i = m := by omega
          subst this
          rw [List.getElem?_append_right (by omega), show i - zs.length = 0 by omega] at hy
          simp at hy
          subst hy
          exact h3
    obtain ⟨zs, h1, h2⟩ := pick len (Nat.le_refl _)
    refine ⟨zs, h1, ⟨some a, cap, rfl, hl, hm, by simp [h1], fun u hu => ?_, by simp, fun hp => ?_, fun ad had j u hu => ?_⟩⟩
    · obtain ⟨z, hz, rfl⟩ := List.mem_map.1 hu
      obtain ⟨i, hi⟩ := List.getElem?_of_mem hz
      exact (h2 i z hi).2
    · obtain ⟨z, h3, _⟩ := key 0 hp
      have := World.cell?_spot h3
      obtain ⟨b, off, s⟩ := a
      simp [Addr.add] at this
      subst this
      exact ⟨b, off, rfl⟩
    · obtain rfl := Option.some.inj had
      rw [List.getElem?_map] at hu
      obtain ⟨z, hz, rfl⟩ := Option.map_eq_some_iff.1 hu
      exact (h2 j z hz).1

theorem sl_ints {t e : TypeId} {k : IntKind} (ht : P.underlying t = some (.slice e)) (he : P.underlying e = some (.int k)) (hc : P.cellsOf e = 1) {ao : Option Addr} {len cap : Nat} {d : DataW H} {p : List MemPlace}
    (h : DataW.Trod enc P w base spare held t (.slice ao len cap) d p) : ∃ zs : List { n : Int // (Lit.int k n).wf = true }, zs.length = len ∧ Sl w 1 (.slice ao len cap) len (zs.map fun z => Value.int k z.1) := by
  obtain ⟨fuel, hf⟩ := h
  refine open_cells (fun z : { n : Int // (Lit.int k n).wf = true } => Value.int k z.1) ⟨0, by cases k <;> rfl⟩ (fun _ => True) ht hc (fun n c y hy => ?_) rfl hf
  obtain ⟨m, h, _, hw⟩ := DataW.trod_int he hy
  exact ⟨⟨m, hw⟩, h, rfl⟩
end
/-- The form's own reach: a slice that comes in takes less than 2 ^ 47 bytes. -/
theorem len_reach {H : Type} {enc : TypeId × Value → H} {P : Program} {w : World} {base : Nat} {spare : Nat → Bool} {held : Bool} {ts : List TypeId} {ds : List (DataW H)} (hsz : (DataW.weightsEach P ts ds).all (· ≤ reachBytes) = true) {j : Nat} {t e : TypeId} {d : DataW H} {p : List MemPlace}
    (htj : ts[j]? = some t) (hd : ds[j]? = some d) (ht : P.underlying t = some (.slice e)) (hb : 0 < P.bytesOf e) {ao : Option Addr} {len cap : Nat} (h : DataW.Trod enc P w base spare held t (.slice ao len cap) d p) : len ≤ 4611686018427387904 := by
  obtain ⟨fuel, hf⟩ := h
  rcases DataW.trod_slice ht hf with ⟨h0, _⟩ | ⟨a, len', cap', elems, rest, n, _, h0, h1, hb', hl, hm, hlen, hel, hsp, hns⟩
  · replace h0 : [Value.slice ao len cap] = [Value.slice none 0 0] := h0
    simp at h0; omega
  · replace h0 : [Value.slice ao len cap] = [Value.slice (some a) len' cap'] := h0
    simp at h0
    obtain ⟨rfl, rfl, rfl⟩ := h0
    have e1 : d = .slice (elems.map (·.1)) (rest.map (·.1)) := congrArg Prod.fst h1
    subst e1
    have h2 := sized_slice hsz htj hd ht
    rw [List.length_map, List.length_map, hlen] at h2
    have h3 := reachBytes_lt
    have h4 : len * 1 ≤ (len + rest.length) * P.bytesOf e := Nat.mul_le_mul (by omega) hb
    omega
/-! What a cut's head says, for any program. -/
theorem strip_cut (ws : List (List Char)) : stripLifts liftWords ("cut".toList :: ws) = ([], "cut".toList :: ws) := by kernel_rfl
theorem lifts_cut {P : Program} {ws : List (List Char)} (h : behindMainWord (wordsSigns P.initOrder.toList) = "cut".toList :: ws) : P.headLifts = [] := by
  unfold Program.headLifts; rw [h, strip_cut]; kernel_rfl
theorem make_cut {P : Program} {ws : List (List Char)} (h : behindMainWord (wordsSigns P.initOrder.toList) = "cut".toList :: ws) : P.make = some .cut := by
  unfold Program.make; rw [h, lifts_cut h]; kernel_rfl
theorem final_cut {P : Program} {ws : List (List Char)} (h : behindMainWord (wordsSigns P.initOrder.toList) = "cut".toList :: ws) : P.liftsFinal = false := by
  unfold Program.liftsFinal; rw [h, lifts_cut h]; kernel_rfl
theorem may_cut {P : Program} {ws : List (List Char)} (h : behindMainWord (wordsSigns P.initOrder.toList) = "cut".toList :: ws) (h1 : P.laysLater = false) (h2 : P.bearsReflect = false) (h3 : P.doorFits [] = true) : P.mayEnter = true := by
  unfold Program.mayEnter; rw [h]; simp only [strip_cut, h1, h2, h3]; kernel_rfl
theorem and2 {a b : Bool} (h : a = true) (h2 : b = true) : (a && b) = true := by rw [h, h2]; rfl
end Go.Proofs.Ytkbkmngbenohkaa

namespace Go.Proofs.Ytkbkmngbenohkaa
open Go.RowKit
section
variable {P : Program} {T e : TypeId} {size bytes : Nat} {z : List Value}
end
theorem AnyOps.imp {P : Program} {all : List Oper} {W : List Nat} {I : List Oid} {AA : List (List Oid)} {σ : St} {K K' : List Res → Prop} (hk : ∀ rs, K rs → K' rs) : ∀ {os : List Oper} {rs : List Res}, AnyOps P all W I AA σ K os rs → AnyOps P all W I AA σ K' os rs
  | [], rs, h => hk rs h
  | o :: os, rs, ⟨r, h1, h2⟩ => ⟨r, h1, AnyOps.imp hk h2⟩
theorem any_n {P : Program} {all : List Oper} {W : List Nat} {I : List Oid} {AA : List (List Oid)} {σ : St} {Kont : List Res → Prop} {os : List Oper} {rs rs' : List Res} (h : rs = rs') (hh : AnyOps P all W I AA σ Kont os rs') : AnyOps P all W I AA σ Kont os rs := h ▸ hh
theorem D_anyL {rb : Bool} {P : Program} {Q : Exit → St → Prop} {σ : St} {id : Nat} {l hd tl : List Oper} (n : Nat) (W : List Nat) (I : List Oid) (hm : P.follows .mixedOrders = true) (hB : headC l.toArray n = true) (hW : (l.take n).filterMap (·.dst) = W) (hI : I.Nodup)
    (e1 : l.take n = hd) (e2 : l.drop n = tl) (h : AnyOps P hd W I [] σ (fun rs => made rs = I ∧ DL rb P l.toArray Q tl (stOf hd rs (fun _ => true) 0 σ)) hd []) : D rb P (.region id l.toArray true) Q σ := by
  subst e1; subst e2
  exact D_any n W I [] hm hB hW hI (AnyOps.imp (fun rs h => ⟨⟨h.1, rfl⟩, h.2⟩) h)
/-- The same, where some operations come ahead of those that turn the objects which they read. -/
theorem D_anyA {rb : Bool} {P : Program} {Q : Exit → St → Prop} {σ : St} {id : Nat} {l hd tl : List Oper} (n : Nat) (W : List Nat) (I : List Oid) (AA : List (List Oid)) (hm : P.follows .mixedOrders = true) (hB : headC l.toArray n = true) (hW : (l.take n).filterMap (·.dst) = W) (hI : I.Nodup)
    (e1 : l.take n = hd) (e2 : l.drop n = tl) (h : AnyOps P hd W I AA σ (fun rs => (made rs = I ∧ aheadB hd rs 0 AA = true) ∧ DL rb P l.toArray Q tl (stOf hd rs (fun _ => true) 0 σ)) hd []) : D rb P (.region id l.toArray true) Q σ := by
  subst e1; subst e2
  exact D_any n W I AA hm hB hW hI h
end Go.Proofs.Ytkbkmngbenohkaa

namespace Go.Proofs.Ytkbkmngbenohkaa
open Go.RowKit
theorem op_ixB {P : Program} {σ : St} {dd : Option Tmp} {ty : TypeId} {T e e' : TypeId} {size bytes : Nat} {z : List Value} (x y : Operand) (E : Elem P T e size bytes z) {id : Oid} {of0 n : Nat} {xs : List AV} (hx : σ.eval x = .ref id of0 n) (hid : σ.ob id = .obj (.box e' xs))
    {k : IntKind} {I : Int} (hy : σ.eval y = .v (.int k I)) (j : Nat) (hI : I = (j : Int)) (hj : j < n) {off : Nat} (he : of0 + j * size = off) : Stp P dd (.indexAddr T x y) ty σ (σ.put dd (.ptr id off)) := by
  intro o hd ho ht
  subst hd; subst he; subst hI
  refine step_val fun _ ι S a w R => ?_
  have hi := R.eval y
  rw [hy] at hi
  have hi := hi.toV
  obtain ⟨inf, zv, hinf, _, hs, _⟩ := E.info
  obtain ⟨B, g, h1, hg, _, _⟩ := R.ob id _ hid
  have hr := R.eval x
  rw [hx] at hr
  generalize hu : a.eval x = u at hr
  cases hr with
  | ref h _ =>
    obtain ⟨c, h3, h4, h5⟩ := h B h1
    rw [hg] at h5
    obtain ⟨o', h6, h7, _⟩ := h5
    obtain rfl := h7.resolve_right (by omega)
    subst h6
    refine ⟨.pointer (some ⟨g, o' + j * size, none⟩), ?_, .ptr (fun B' hB' => ?_) rfl, fun i h => R.evalHas x (by rw [hx]; cases h; exact .ref)⟩
    · simp [execOp, ho, Instr.indexAt, hu, hi, asIntOf, run_underlying E.und, sizeOf, typeInfo, hinf, hs, hj, Addr.add_lit]
    · rw [h1] at hB'
      obtain rfl := Option.some.inj hB'
      exact ⟨g, hg, rfl⟩
/-- A new block that a slice leads to, its cells as the machine's values. -/
theorem RelI.newBoxR {K : Ctx} {ι : Oid → Option Blk} {S : Nat → Prop} {σ : St} {a : Act} {w w' : World} (R : RelI K ι S σ a w) {id : Oid} (hid : σ.ob id = .free) (hb : Below w.heap.size w w') (e : TypeId) (sz n c g : Nat) {cur : Array Value} {xs : List AV}
    (hg : w'.heap[g]? = some (.cells cur e (0, 0))) (hge : w.heap.size ≤ g) (hn : n ≤ c) (hc : c ≤ maxLen) (hcs : cur.size = c * sz) (h1 : xs.length ≤ cur.size) (h2 : ∀ (j : Nat) (b : AV), xs[j]? = some b → ∃ u, cur[j]? = some u ∧ u.oneCell' = true ∧ Rep ι S w b u) (h4 : ∀ b ∈ xs, ∀ i, Has i b → σ.ob i ≠ .free) (d : Option Tmp) :
    ∃ ι' S', RelI K ι' S' ((σ.setOb id (.obj (.box e xs))).put d (.ref id 0 n)) (a.put d (.slice (some ⟨g, 0, none⟩) n c)) w' := by
  have hni : ∀ i, (∃ b ∈ xs, Has i b) → i ≠ id := fun i ⟨b, hb, hi⟩ e => by subst e; exact h4 b hb i hi hid
  have hw : ∀ k, S k → w'.heap[k]? = w.heap[k]? := fun k hk => hb.block k (R.Slt k hk)
  have R1 := R.new (w' := w') (o := .box e xs) (B := ⟨some g, cur.size, sz⟩) hid hb (fun k hk => by obtain rfl := Option.some.inj hk; exact hge)
    ⟨_, g, setI_same _ _ _, rfl, h1, .inr ⟨g, cur, rfl, hg, rfl, by omega, fun j hj => by
      obtain ⟨u, a1, a2, a3⟩ := h2 j _ (List.getElem?_eq_getElem hj)
      refine ⟨u, a1, a2, fun p hp => ?_⟩
      rw [List.getElem?_eq_getElem hj] at hp
      obtain rfl := Option.some.inj hp
      refine a3.next hw (fun _ h => h) fun i B' hi hB' => ?_
      rwa [setI_ne _ _ (hni i ⟨_, List.getElem_mem hj, hi⟩)] at hB'⟩⟩ (fun i hi => by
        obtain ⟨b, hb, hh⟩ := hi
        exact .inr (h4 b hb i hh))
  refine ⟨_, S, R1.put d (.ref (fun B hB => ?_) rfl) fun i hi => ?_⟩
  · rw [setI_same] at hB
    obtain rfl := Option.some.inj hB
    exact ⟨c, hn, hc, 0, rfl, .inl rfl, by simp [hcs]⟩
  · cases hi; rw [St.setOb_same]; intro h; cases h
section
variable {P : Program} {w : World} {o : Oper} {ρ : Operand → Value} {e : TypeId} {z : List Value}
theorem run_bsv {T : TypeId} {size bytes : Nat} [E : Elem P T e size bytes z] (len : Nat) (parts : Array (Nat × Operand)) (ho : o.op = .buildSlice T len parts) (vs : List Value)
    (hp : parts.toList.map (fun p => (p.1, ρ p.2)) = enumV 0 vs) (hlen : vs.length = len) (hsz : ∀ v ∈ vs, v.cells.size = size) (xs : List Value) (hxs : (vs.flatMap fun v => v.cells.toList) = xs) (h1 : ∀ u ∈ xs, u.oneCell' = true)
    (hb : len * size ≤ 100000) :
    (execOp ρ o).run P w = .ok (.value (.slice (some ⟨w.heap.size, 0, none⟩) len len)) (w.alloc (.cells xs.toArray e)) := by
  obtain ⟨i, zv, hi, hz, hs, hby, hzc⟩ := E.info
  subst hlen
  have hxl : xs.length = vs.length * size := by
    subst hxs
    have : ∀ (vs : List Value), (∀ v ∈ vs, v.cells.size = size) → (vs.flatMap fun v => v.cells.toList).length = vs.length * size := by
      intro vs
      induction vs with
      | nil => simp
      | cons v vs ih =>
        intro h
        rw [List.flatMap_cons, List.length_append, ih (fun u hu => h u (List.mem_cons_of_mem _ hu)), List.length_cons, Nat.add_mul]
        have := h v List.mem_cons_self
        simp [this]; omega
    exact this vs hsz
  have hfill : ∀ zz : Array Value, Instr.fill (fun i => some (i * size, size)) ((Array.range (vs.length * size)).map (fun j => zz[j % zz.size]!)) (enumV 0 vs) = some xs.toArray := by
    intro zz
    rw [fill_enum size vs 0 _ hsz (by simp)]
    simp [hxs]
  have hpl : (parts.map fun p => (p.1, ρ p.2)).toList = enumV 0 vs := by simpa using hp
  have hrun : (execOp ρ o).run P w = .ok (.value (.slice (some ⟨w.heap.size, 0, none⟩) vs.length vs.length)) (w.alloc (.cells xs.toArray e)) := by
    have hnb : ¬ vs.length * size > 2 ^ 24 := by omega
    have hpl' : (parts.map fun x => match x with | (i, x) => (i, ρ x)).toList = enumV 0 vs := hpl
    simp only [execOp, ho, Instr.buildSlice, Sem.run_bind, run_underlying E.und, Result.andThen_ok, sizeOf, typeInfo, hi, hs]
    by_cases h0 : vs.length * size = 0
    · have := hfill #[]
      simp [hi, hs, hnb, h0, hpl'] at this ⊢
      simp [hs, hp, this, newRow]
    · have := hfill zv.cells
      simp [hi, hs, hnb, h0, zeroValue, typeInfo, hz, hpl'] at this ⊢
      simp [hi, hs, hz, hp, this, newRow]
  exact hrun
end
theorem partsL_has {σ : St} {i : Oid} : ∀ (l : List (Nat × Operand)) (k : Nat) (r : List (List AV)), partsL σ k l = some r → ∀ b ∈ r.flatten, Has i b → ∃ p ∈ l, Has i (σ.eval p.2)
  | [], k, r, h, b, hb, _ => by simp only [partsL, Option.some.injEq] at h; subst h; simp at hb
  | (j, x) :: l, k, r, h, b, hb, hi => by
    simp only [partsL] at h
    split at h
    · cases hc : (σ.eval x).cells with
      | none => rw [hc] at h; cases h
      | some c =>
        cases hr : partsL σ (k + 1) l with
        | none => rw [hc, hr] at h; cases h
        | some r' =>
          rw [hc, hr] at h
          simp only [Option.some.injEq] at h
          subst h
          rw [List.flatten_cons] at hb
          rcases List.mem_append.1 hb with hb | hb
          · exact ⟨_, List.mem_cons_self, cells_has hc hb hi⟩
          · obtain ⟨p, hp, hh⟩ := partsL_has l (k + 1) r' hr b hb hi
            exact ⟨p, List.mem_cons_of_mem _ hp, hh⟩
    · cases h
section
variable {P : Program} {σ : St} {z : List Value} {T e : TypeId} {size bytes : Nat}
/-- A literal slice whose elements hold objects. -/
theorem op_bsB {dd : Option Tmp} {ty : TypeId} (id : Oid) (len : Nat) (parts : Array (Nat × Operand)) (E : Elem P T e size bytes z) {r : List (List AV)} (hp : partsL σ 0 parts.toList = some r) (hlen : r.length = len) (hsz : ∀ c ∈ r, c.length = size)
    (hb : len * size ≤ 100000) (hpos : 0 < len) (hid : σ.ob id = .free) {xs : List AV} (hxs : r.flatten = xs) : Stp P dd (.buildSlice T len parts) ty σ ((σ.setOb id (.obj (.box e xs))).put dd (.ref id 0 len)) := by
  intro o hd ho ht
  subst hd; subst hxs
  intro K ι S a w R
  obtain ⟨vs, h1, h2, h3, h4, h5, h6⟩ := partsL_spec R _ _ _ hp
  have hvsz : ∀ v ∈ vs, v.cells.size = size := by
    intro v hv
    obtain ⟨j, hj, rfl⟩ := List.getElem_of_mem hv
    have hjr : j < r.length := by omega
    rw [h3 j _ _ (List.getElem?_eq_getElem hj) (List.getElem?_eq_getElem hjr)]
    exact hsz _ (List.getElem_mem hjr)
  obtain ⟨v', w', hr, H', hbl, hfr, _⟩ := run_bs (P := P) (ρ := a.eval) (SH.start w) len parts ho vs h1 (by omega) hvsz _ rfl h5 hb
  have hrow := H'.get (i := 0) (x := .row v' e size len (vs.flatMap fun v => v.cells.toList)) rfl
  have hxl : r.flatten.length = len * size := by
    have : ∀ (r : List (List AV)), (∀ c ∈ r, c.length = size) → r.flatten.length = r.length * size := by
      intro r
      induction r with
      | nil => simp
      | cons c r ih =>
        intro h
        rw [List.flatten_cons, List.length_append, ih fun c hc => h c (List.mem_cons_of_mem _ hc), h c List.mem_cons_self, List.length_cons, Nat.add_mul, Nat.one_mul, Nat.add_comm]
    rw [this r hsz, hlen]
  rcases hrow.1.2 with ⟨hv, hx0⟩ | ⟨g, cap, cur, hv, hbg, hg, hnc, hcm, hcs, htake⟩
  · omega
  · subst hv
    have hlv : (vs.flatMap fun v => v.cells.toList).length = len * size := by rw [h4, hxl]
    by_cases hcap : cap = len
    · subst hcap
      refine yields_value hr (R.newBoxR hid hbl e size cap cap g hg hbg hnc hcm hcs (Nat.le_of_eq (by rw [hcs, hxl])) (fun j b hb => ?_) (fun b hb i hi => ?_) _)
      · obtain ⟨u, hu, hru⟩ := h6 j b hb
        refine ⟨u, ?_, h5 u (List.mem_of_getElem? hu), hru⟩
        have := congrArg (fun l => l[j]?) htake
        simp only [hu] at this
        rw [List.getElem?_take] at this
        split at this
        · simpa using this
        · cases this
      · obtain ⟨p, hp', hh⟩ := partsL_has _ _ _ hp b hb hi
        exact R.evalHas p.2 hh
    · exfalso
      have h9 := run_bsv (P := P) (ρ := a.eval) (w := w) len parts ho vs h1 (by omega) hvsz _ rfl h5 hb
      rw [hr] at h9
      injection h9 with h9 _
      injection h9 with h9
      injection h9 with _ _ h9
      exact hcap h9
/-- make of a slice whose elements will hold objects. -/
theorem op_mkB {dd : Option Tmp} {ty : TypeId} (id : Oid) (x y : Operand) (E : Elem P T e size bytes z) {kl kc : IntKind} {N M : Int} (hx : σ.eval x = .v (.int kl N)) (hy : σ.eval y = .v (.int kc M)) (n : Nat) (hN : N = (n : Int)) (hM : M = (n : Int)) (hb : n * bytes ≤ 140737488355328)
    (hid : σ.ob id = .free) {xs : List AV} (hxs : (rep n z).map AV.v = xs) : Stp P dd (.makeSlice T x y) ty σ ((σ.setOb id (.obj (.box e xs))).put dd (.ref id 0 n)) := by
  intro o hd ho ht
  subst hd; subst hxs; subst hN; subst hM
  intro K ι S a w R
  obtain ⟨i, zv, hi, hz, hs, hby, hzc⟩ := E.info
  have hm : n ≤ maxLen := by
    have : n * 1 ≤ n * bytes := Nat.mul_le_mul_left _ E.bpos
    unfold maxLen; omega
  have hl := R.eval x
  rw [hx] at hl
  have hc := R.eval y
  rw [hy] at hc
  obtain ⟨w', hr, h1, h2⟩ := run_make_full (P := P) w w.heap.size T e i zv size E.und hi hz hs kl kc n (by rw [hby, Nat.mul_comm]; omega) hm (Nat.le_refl _)
  rw [hzc, ← E.len, madeCells_rep _ _ (by rw [E.len]; exact E.pos), E.len] at h1
  rcases h1.2 with ⟨h, _⟩ | ⟨g, cap, cur, he, hbg, hg, hnc, hcm, hcs, htake⟩
  · cases h
  · simp only [Value.slice.injEq] at he
    obtain ⟨he, _, hcap⟩ := he
    obtain rfl := hcap
    have hgw : w.heap.size = g := by simpa using he
    subst hgw
    have hrun : (execOp a.eval o).run P w = .ok (.value (.slice (some ⟨w.heap.size, 0, none⟩) n n)) w' := by simp [execOp, ho, hl.toV, hc.toV, hr, Result.andThen]
    refine yields_value hrun (R.newBoxR hid (below_grown h2) e size n n w.heap.size hg (Nat.le_refl _) (Nat.le_refl _) hm hcs (Nat.le_of_eq (by simp [length_rep, E.len, hcs])) (fun j b hb => ?_) (fun b hb i hi => ?_) _)
    · simp only [List.getElem?_map] at hb
      obtain ⟨u, hu, rfl⟩ := Option.map_eq_some_iff.1 hb
      have h3 : cur[j]? = some u := by
        have := congrArg (fun l => l[j]?) htake
        simp only [hu] at this
        rw [List.getElem?_take] at this
        split at this
        · simpa using this
        · cases this
      have h4 : u.oneCell' = true := by
        have := List.mem_of_getElem? hu
        simp only [rep, List.mem_flatten, List.mem_replicate] at this
        obtain ⟨m, ⟨_, rfl⟩, hm⟩ := this
        exact E.one u hm
      exact ⟨u, h3, h4, .v⟩
    · obtain ⟨u, _, rfl⟩ := List.mem_map.1 hb
      cases hi
end
end Go.Proofs.Ytkbkmngbenohkaa

namespace Go.Proofs.Ytkbkmngbenohkaa
open Go.RowKit
def isl (l : List Int) : List PV := l.map fun x => .v (.int .i64 x)
@[simp] theorem isl_len (l : List Int) : (isl l).length = l.length := by simp [isl]
theorem isl_get (l : List Int) (k : Nat) (h : k < l.length) : (isl l)[k]? = some (.v (.int .i64 (l.getD k 0))) := by simp [isl, h]
theorem isl_append (a b : List Int) : isl a ++ isl b = isl (a ++ b) := by simp [isl]
theorem isl_take (a : List Int) (k : Nat) : (isl a).take k = isl (a.take k) := by simp [isl]
theorem isl_drop (a : List Int) (k : Nat) : (isl a).drop k = isl (a.drop k) := by simp [isl]
theorem isl_put (a : List Int) (k : Nat) (x : Int) (h : k < a.length) : putL (isl a) k [.v (.int .i64 x)] = isl (a.set k x) := by rw [putL_one _ _ _ (by simpa using h)]; simp [isl, List.map_set]
theorem isl_zeros (n : Nat) : (rep n [Value.int .i64 0]).map PV.v = isl (List.replicate n 0) := by rw [rep_one]; simp [isl]
theorem getD_at {α : Type} (l : List α) (k : Nat) (d : α) (h : k < l.length) : l.getD k d = l[k] := by simp [h]

def bsl (l : List Bool) : List PV := l.map fun x => .v (.bool x)
@[simp] theorem bsl_len (l : List Bool) : (bsl l).length = l.length := by simp [bsl]
theorem bsl_get (l : List Bool) (k : Nat) (h : k < l.length) : (bsl l)[k]? = some (.v (.bool (l.getD k false))) := by simp [bsl, h]
def Rng (l : List Int) : Prop := ∀ x ∈ l, -9223372036854775808 ≤ x ∧ x ≤ 9223372036854775807
theorem Rng.at {l : List Int} (h : Rng l) (k : Nat) (hk : k < l.length) : -9223372036854775808 ≤ l.getD k 0 ∧ l.getD k 0 ≤ 9223372036854775807 := by
  rw [getD_at _ _ _ hk]; exact h _ (List.getElem_mem hk)
theorem rng_of (z : List { n : Int // (Lit.int .i64 n).wf = true }) : Rng (z.map (·.1)) := by
  intro x hx
  obtain ⟨y, _, rfl⟩ := List.mem_map.1 hx
  exact fitsI y.2
theorem isl_in {w : World} {n : Nat} {v : Value} {z : List { n : Int // (Lit.int .i64 n).wf = true }} {ι : Oid → Option Blk} (h : Sl w 1 v n (z.map fun y => Value.int .i64 y.1)) : Rep ι (fun g => g < w.heap.size) w (.sl n (isl (z.map (·.1)))) v := by
  have := h.rd
  rw [show (z.map fun y => Value.int .i64 y.1).map PV.v = isl (z.map (·.1)) by simp [isl]] at this
  exact .sl this
end Go.Proofs.Ytkbkmngbenohkaa
