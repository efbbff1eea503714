/- Part 5 of the texts that the walk leans on: the machine, the walks, the plain laws. -/
import Derived.DataReads
import Derived.ChangeSlices
import Derived.WalkKit
import Derived.ChangeOld
import Derived.SizedLaws
import Derived.ChangeKeysEq
import Derived.Test.YtkbkmngbenohkaaBmZ4
set_option linter.unusedSimpArgs false
set_option linter.unusedVariables false
namespace Go.Proofs.Ytkbkmngbenohkaa
open Go.RowKit

def fillL {α : Type} (pl : Nat → Option (Nat × Nat)) : List α → List (Nat × List α) → Option (List α)
  | cs, [] => some cs
  | cs, (i, vs) :: rest => match pl i with
    | some (off, size) => bif Nat.beq vs.length size && Nat.ble (off + size) cs.length then fillL pl (putL cs off vs) rest else none
    | none => none

class Bld (P : Program) (t : TypeId) (z : outParam (List Value)) (pl : outParam (Nat → Option (Nat × Nat))) : Prop where
  out : ∀ (parts : Array (Nat × Value)) (cs : Array Value) (w : World), Instr.fill pl z.toArray parts.toList = some cs → (Instr.build t parts).run P w = .ok (.agg cs) w
  one : ∀ u ∈ z, u.oneCell' = true

theorem Bld.struct {P : Program} {t : TypeId} {z : List Value} {fs : Array Field} {bytes : Nat} (zv : Value) (pl : List (Nat × Nat)) (h1 : P.underlying t = some (.struct fs)) (h2 : (P.info? t).map (fun i => (i.zero, i.size, i.bytes)) = some (some zv, z.length, bytes)) (h3 : zv.cells = z.toArray)
    (h4 : ∀ u ∈ z, u.oneCell' = true) (hp : ∀ w, (fs.mapM fun f => do pure (f.offset, ← sizeOf f.type) : Sem (Array (Nat × Nat))).run P w = .ok pl.toArray w) : Bld P t z (fun i => pl[i]?) := by
  obtain ⟨i, hi, a, b, c⟩ := info_parts h2
  refine ⟨fun parts cs w hf => ?_, h4⟩
  have hp' := hp w
  have hz : (zeroValue t).run P w = .ok zv w := by simp [zeroValue, typeInfo, hi, a]
  simp only [Instr.build, Sem.run_bind, hz, run_underlying h1, Result.andThen_ok, hp', h3, Sem.run_pure, List.getElem?_toArray, hf]
theorem Bld.array {P : Program} {t e : TypeId} {z : List Value} {n size bytes : Nat} (zv : Value) (h1 : P.underlying t = some (.array n e)) (h2 : (P.info? t).map (fun i => (i.zero, i.size, i.bytes)) = some (some zv, z.length, bytes)) (h3 : zv.cells = z.toArray)
    (h4 : ∀ u ∈ z, u.oneCell' = true) (hs : (P.info? e).map (·.size) = some size) : Bld P t z (fun i => some (i * size, size)) := by
  obtain ⟨i, hi, a, b, c⟩ := info_parts h2
  obtain ⟨j, hj, hjs⟩ := Option.map_eq_some_iff.1 hs
  refine ⟨fun parts cs w hf => ?_, h4⟩
  simp [Instr.build, zeroValue, typeInfo, sizeOf, hi, a, h3, run_underlying h1, hj, hjs, hf]

def partsP (σ : St) : List (Nat × Operand) → Option (List (Nat × List AV))
  | [] => some []
  | (i, x) :: l => match (σ.eval x).cells, partsP σ l with
    | some c, some r => some ((i, c) :: r)
    | _, _ => none

theorem fill_real (pl : Nat → Option (Nat × Nat)) {R : AV → Value → Prop} : ∀ (ps : List (Nat × List AV)) (vs : List (Nat × Value)) (cs : List AV) (us : Array Value) (ys : List AV), fillL pl cs ps = some ys →
    vs.length = ps.length → (∀ (j : Nat) (p : Nat × List AV) (v : Nat × Value), ps[j]? = some p → vs[j]? = some v → p.1 = v.1 ∧ v.2.cells.size = p.2.length ∧ (∀ x ∈ v.2.cells.toList, x.oneCell' = true) ∧ ∀ (k : Nat) (b : AV), p.2[k]? = some b → R b (v.2.cells.getD k undef)) →
    us.size = cs.length → (∀ u ∈ us.toList, u.oneCell' = true) → (∀ (k : Nat) (b : AV), cs[k]? = some b → R b (us.getD k undef)) →
    ∃ us', Instr.fill pl us vs = some us' ∧ us'.size = ys.length ∧ (∀ u ∈ us'.toList, u.oneCell' = true) ∧ ∀ (k : Nat) (b : AV), ys[k]? = some b → R b (us'.getD k undef)
  | [], vs, cs, us, ys, h, hl, _, h1, h2, h3 => by
    obtain rfl : vs = [] := List.eq_nil_of_length_eq_zero hl
    simp only [fillL] at h
    obtain rfl := Option.some.inj h
    exact ⟨us, rfl, h1, h2, h3⟩
  | (i, c) :: ps, vs, cs, us, ys, h, hl, hp, h1, h2, h3 => by
    cases vs with
    | nil => simp at hl
    | cons v vs =>
      obtain ⟨i', v⟩ := v
      obtain ⟨e1, e2, e3, e4⟩ := hp 0 _ _ rfl rfl
      simp only at e1 e2 e3 e4
      subst e1
      simp only [fillL] at h
      split at h
      · rename_i off size hpl
        cases hc : (Nat.beq c.length size && Nat.ble (off + size) cs.length) with
        | false => rw [hc] at h; cases h
        | true =>
          rw [hc] at h
          simp only [Bool.and_eq_true, Nat.beq_eq, Nat.ble_eq] at hc
          obtain ⟨hc1, hc2⟩ := hc
          subst hc1
          have hf := fold_put v.cells.toList off 0 us (by simp [e2]; omega)
          simp only [Nat.add_zero] at hf
          have hz : (v.cells.zipIdx.foldl (fun (cs : Array Value) (p : Value × Nat) => cs.setIfInBounds (off + p.2) p.1) us) = (put us.toList off v.cells.toList).toArray := by
            rw [← hf, ← Array.foldl_toList, Array.toList_zipIdx]
          have hz' : (Array.foldl (fun cs (x : Value × Nat) => match x with | (c, j) => cs.setIfInBounds (off + j) c) us v.cells.zipIdx) = (put us.toList off v.cells.toList).toArray := hz
          have hvl : v.cells.toList.length = c.length := by simpa using e2
          have hcl : off + v.cells.toList.length ≤ us.toList.length := by rw [hvl]; simp; omega
          have hstep := fill_real pl (R := R) ps vs (putL cs off c) (putL us.toList off v.cells.toList).toArray ys h (by simpa using hl) (fun j p q hj hq => hp (j + 1) p q (by simpa using hj) (by simpa using hq))
            (by simp [putL_len _ _ _ hcl, putL_len _ _ _ hc2, h1]) (fun u hu => by
              rcases putL_mem (by simpa using hu) with hu | hu
              · exact h2 u hu
              · exact e3 u hu) (fun k b hb => by
              rw [putL_get _ _ _ hc2] at hb
              have hk : (putL us.toList off v.cells.toList).toArray.getD k undef = ((putL us.toList off v.cells.toList)[k]?).getD undef := by simp [List.getD_eq_getElem?_getD]
              rw [hk, putL_get _ _ _ hcl, hvl]
              split at hb
              · rename_i hin
                rw [if_pos hin]
                have := e4 _ b hb
                simpa using this
              · rename_i hin
                rw [if_neg hin]
                have := h3 k b hb
                simpa using this)
          obtain ⟨us', r1, r2, r3, r4⟩ := hstep
          refine ⟨us', ?_, r2, r3, r4⟩
          simp only [Instr.fill, hpl]
          rw [if_neg (by simp [e2]; omega)]
          rw [hz']
          exact r1
      · cases h

section
variable {P : Program} {σ : St} {o : Oper} {z : List Value}
theorem partsP_spec {K : Ctx} {ι : Oid → Option Blk} {S : Nat → Prop} {a : Act} {w : World} (R : RelI K ι S σ a w) : ∀ (l : List (Nat × Operand)) (r : List (Nat × List AV)), partsP σ l = some r →
    l.length = r.length ∧ (∀ (j : Nat) (p : Nat × List AV) (v : Nat × Value), r[j]? = some p → (l.map fun q => (q.1, a.eval q.2))[j]? = some v → p.1 = v.1 ∧ v.2.cells.size = p.2.length ∧ (∀ x ∈ v.2.cells.toList, x.oneCell' = true) ∧ ∀ (k : Nat) (b : AV), p.2[k]? = some b → Rep ι S w b (v.2.cells.getD k undef)) ∧
      ∀ p ∈ r, ∀ b ∈ p.2, ∀ i, Has i b → σ.ob i ≠ .free
  | [], r, h => by simp [partsP] at h; subst h; simp
  | (i, x) :: l, r, h => by
    simp only [partsP] at h
    split at h
    · rename_i c r' hc hr
      obtain rfl := Option.some.inj h
      obtain ⟨h1, h2, h3⟩ := partsP_spec R l r' hr
      obtain ⟨c1, c2, c3⟩ := (R.eval x).cells hc
      refine ⟨by simp [h1], fun j p v hp hv => ?_, fun p hp b hb k hk => ?_⟩
      · cases j with
        | zero =>
          simp at hp hv
          subst hp; subst hv
          exact ⟨rfl, c1, c2, c3⟩
        | succ j => exact h2 j p v (by simpa using hp) (by simpa using hv)
      · rcases List.mem_cons.1 hp with rfl | hp
        · exact R.evalHas x (cells_has hc hb hk)
        · exact h3 p hp b hb k hk
    · cases h

theorem fillL_has {pl : Nat → Option (Nat × Nat)} {Q : AV → Prop} : ∀ (ps : List (Nat × List AV)) (cs ys : List AV), fillL pl cs ps = some ys → (∀ b ∈ cs, Q b) → (∀ p ∈ ps, ∀ b ∈ p.2, Q b) → ∀ b ∈ ys, Q b
  | [], cs, ys, h, h1, _ => by
    simp only [fillL] at h
    obtain rfl := Option.some.inj h
    exact h1
  | (i, c) :: ps, cs, ys, h, h1, h2 => by
    simp only [fillL] at h
    split at h
    · cases hc : (Nat.beq c.length _ && Nat.ble _ cs.length) with
      | false => rw [hc] at h; cases h
      | true =>
        rw [hc] at h
        exact fillL_has ps _ ys h (fun b hb => by
          rcases putL_mem hb with hb | hb
          · exact h1 b hb
          · exact h2 _ List.mem_cons_self b hb) fun p hp => h2 p (List.mem_cons_of_mem _ hp)
    · cases h

theorem op_build {dd : Option Tmp} {ty t : TypeId} {pl : Nat → Option (Nat × Nat)} (parts : Array (Nat × Operand)) (B : Bld P t z pl) {r : List (Nat × List AV)} (hp : partsP σ parts.toList = some r) {ys : List AV} (hf : fillL pl (z.map AV.v) r = some ys) :
    Stp P dd (.build t parts) ty σ (σ.put dd (.agg ys)) := by
  intro o hd ho ht
  subst hd
  refine step_val fun K ι S a w R => ?_
  obtain ⟨h1, h2, h3⟩ := partsP_spec R _ _ hp
  obtain ⟨us, u1, u2, u3, u4⟩ := fill_real pl (R := Rep ι S w) r (parts.toList.map fun q => (q.1, a.eval q.2)) (z.map AV.v) z.toArray ys hf (by simp at h1 ⊢; omega) h2 (by simp) (by simpa using B.one) (fun k b hb => by
    simp only [List.getElem?_map] at hb
    obtain ⟨x, hx, rfl⟩ := Option.map_eq_some_iff.1 hb
    have : z.toArray.getD k undef = x := by simp [hx]
    rw [this]; exact .v)
  refine ⟨.agg us, ?_, .agg u2 u3 u4, fun i hi => ?_⟩
  · have := B.out (parts.map fun q => (q.1, a.eval q.2)) us w (by simpa using u1)
    have he : (parts.map fun x => match x with | (i, x) => (i, a.eval x)) = parts.map fun q => (q.1, a.eval q.2) := rfl
    simp only [execOp, ho, he, Sem.run_bind, this, Result.andThen_ok, Sem.run_pure]
  · cases hi with
    | agg hm hi =>
      refine fillL_has (Q := fun b => ∀ i, Has i b → σ.ob i ≠ .free) r _ ys hf (fun b hb i hi => ?_) h3 _ hm i hi
      simp only [List.mem_map] at hb
      obtain ⟨x, _, rfl⟩ := hb
      cases hi

theorem op_ext {dd : Option Tmp} {ty : TypeId} {av : AV} (x : Operand) {j : Nat} {xs : List AV} (hx : σ.eval x = .tup xs) (hv : xs[j]? = some av) : Stp P dd (.extract x j) ty σ (σ.put dd av) := by
  intro o hd ho ht
  subst hd
  refine step_val fun K ι S a w R => ?_
  have hp := R.eval x
  rw [hx] at hp
  generalize hve : a.eval x = v at hp
  cases hp with
  | tup h1 h3 =>
    rename_i us
    have hlt : j < us.size := by rw [h1]; exact (List.getElem?_eq_some_iff.1 hv).1
    refine ⟨us[j], by simp [execOp, ho, Instr.extract, hve, hlt], by have := h3 j av hv; simpa [hlt] using this, fun i h => R.evalHas x (by rw [hx]; exact .tup (List.mem_of_getElem? hv) h)⟩
end
end Go.Proofs.Ytkbkmngbenohkaa

namespace Go.Proofs.Ytkbkmngbenohkaa
open Go.RowKit

theorem Spec.mono {P : Program} {f : FuncId} {σ σ' σ'' : St} (h : Spec P f σ σ') (hl : Le σ'' σ') : Spec P f σ σ'' := by
  intro K ι S vs w hK hr R
  refine (h K ι S vs w hK hr R).mono ?_
  rintro e w' ⟨v, ι', S', rfl, R'⟩
  obtain ⟨ι2, S2, R2⟩ := hl K ι' S' _ w' R'
  exact ⟨v, ι2, S2, rfl, R2⟩
theorem Spec.pre {P : Program} {f : FuncId} {σ σ' σ'' : St} (h : Spec P f σ σ') (hl : Le σ σ'') : Spec P f σ'' σ' := by
  intro K ι S vs w hK hr R
  obtain ⟨ι2, S2, R2⟩ := hl K ι S _ w R
  exact h K ι2 S2 vs w hK hr R2

theorem frz0 {ρ : Oid → Oid} {σ : St} {F : Oid → Bool} {id : Oid} {e : TypeId} {sz n : Nat} {xs ys : List PV} (hid : σ.ob id = .obj (.row e sz xs)) (hF : F id = true) (hl : n * sz = xs.length) (hy : xs = ys) : Lv ρ σ F (.sl n ys) (.ref id 0 n) :=
  .frz hid hF (by rw [List.drop_zero, hl, List.take_length, hy]) (by omega)

theorem Le.outO {r r' : AV} {obs obs' : List (Oid × Cells)} {I Pn : List Oid} (rn : List (Oid × Oid)) (Fz : List Oid) (hr : Lv (rnOf rn) (outStI r obs' I Pn) (fun i => inO i Fz) r' r) (hw1 : r'.within (obs.map (·.1)) = true) (hw2 : obsWithin (obs.map (·.1)) obs = true)
    (hd : nodupO ((obs.map (·.1)).map (rnOf rn)) = true) (hi : AllInc (outStI r obs' I Pn) Fz) (ho : AllLvO (rnOf rn) (outStI r obs' I Pn) (fun i => inO i Fz) obs) : Le (outSt r' obs) (outStI r obs' I Pn) := by
  refine Le.gen (n := 1) rn Fz rfl (fun t => ?_) (fun t id h => ?_) hw2 hd hi ho
  · show Lv _ _ _ _ (bif Nat.beq t 0 then r else .dead)
    cases hb : Nat.beq t 0 with
    | true => exact hr
    | false => exact .dead
  · cases hb : Nat.beq t 0 with
    | true => rw [hb] at h; exact within_has r' hw1 h
    | false => rw [hb] at h; cases h
theorem Le.outII {r r' : AV} {obs obs' : List (Oid × Cells)} {I I' Pn Pn' : List Oid} (rn : List (Oid × Oid)) (Fz : List Oid) (hr : Lv (rnOf rn) (outStI r obs' I' Pn') (fun i => inO i Fz) r' r) (hw1 : r'.within (obs.map (·.1)) = true) (hw2 : obsWithin (obs.map (·.1)) obs = true)
    (hd : nodupO ((obs.map (·.1)).map (rnOf rn)) = true) (hi : AllInc (outStI r obs' I' Pn') Fz) (ho : AllLvI (rnOf rn) (outStI r obs' I' Pn') (fun i => inO i Fz) I obs) (hp : AllPin (rnOf rn) (outStI r obs' I' Pn') Pn) (hsb : subO Pn (obs.map (·.1)) = true) : Le (outStI r' obs I Pn) (outStI r obs' I' Pn') := by
  refine Le.genI (n := 1) rn Fz rfl (fun t => ?_) (fun t id h => ?_) hw2 hd hi ho hp hsb
  · show Lv _ _ _ _ (bif Nat.beq t 0 then r else .dead)
    cases hb : Nat.beq t 0 with
    | true => exact hr
    | false => exact .dead
  · cases hb : Nat.beq t 0 with
    | true => rw [hb] at h; exact within_has r' hw1 h
    | false => rw [hb] at h; cases h
section
variable {P : Program} {σ : St} {o : Oper} {z : List Value} {T e : TypeId} {size bytes : Nat}

theorem op_bsF {dd : Option Tmp} {ty : TypeId} (len : Nat) (parts : Array (Nat × Operand)) (E : Elem P T e size bytes z) {r : List (List AV)} (hp : partsL σ 0 parts.toList = some r) (hlen : r.length = len) (hsz : ∀ c ∈ r, c.length = size)
    (hb : len * size ≤ 100000) {xs : List PV} (hxs : downs r.flatten = some xs) : Stp P dd (.buildSlice T len parts) ty σ (σ.put dd (.sl len xs)) := by
  intro o hd ho ht
  subst hd
  intro K ι S a w R
  obtain ⟨vs, h1, h2, h3, h4, h5, h6⟩ := partsL_spec R _ _ _ hp
  obtain ⟨d1, d2⟩ := downs_get hxs
  have hvsz : ∀ v ∈ vs, v.cells.size = size := by
    intro v hv
    obtain ⟨j, hj, rfl⟩ := List.getElem_of_mem hv
    have hjr : j < r.length := by omega
    rw [h3 j _ _ (List.getElem?_eq_getElem hj) (List.getElem?_eq_getElem hjr)]
    exact hsz _ (List.getElem_mem hjr)
  obtain ⟨v', w', hr, H', hbl, hfr, _⟩ := run_bs (P := P) (ρ := a.eval) (SH.start w) len parts ho vs h1 (by omega) hvsz _ rfl h5 hb
  have hrow := H'.get (i := 0) (x := .row v' e size len (vs.flatMap fun v => v.cells.toList)) rfl
  have hxl : xs.length = len * size := by
    have : ∀ (r : List (List AV)), (∀ c ∈ r, c.length = size) → r.flatten.length = r.length * size := by
      intro r
      induction r with
      | nil => simp
      | cons c r ih =>
        intro h
        rw [List.flatten_cons, List.length_append, ih fun c hc => h c (List.mem_cons_of_mem _ hc), h c List.mem_cons_self, List.length_cons, Nat.add_mul, Nat.one_mul, Nat.add_comm]
    rw [← d1, this r hsz, hlen]
  have fin : ∀ (S' : Nat → Prop), (∀ g, S g → S' g) → (∀ g, S' g → S g ∨ w.heap.size ≤ g) → (∀ g, S' g → g < w'.heap.size) → Rd S' w' (.sl len xs) v' → Yields P o a.eval w fun v w'' => ∃ ι' S', RelI K ι' S' (σ.put o.dst (.sl len xs)) (a.put o.dst v) w'' := by
    intro S' g1 g2 g3 hrd
    have R3 := R.gen (ι' := ι) (S' := S') (w' := w') (ob' := σ.ob) (inc' := σ.inc) (fun _ => False) (.of_below hbl) (fun _ _ => rfl) (fun _ _ => rfl) (fun _ _ => rfl) (fun _ h => h) g1
      (fun g h => by rcases g2 g h with h | h; · exact .inl h
                     · exact .inr (.inl h)) g3
      (fun _ _ h => h.elim) (fun _ _ h => h.elim) (fun _ _ h => h.elim) (fun _ _ _ _ _ h => h.elim) (fun _ _ _ h => h.elim) (fun _ _ _ h => h.elim)
    exact yields_value hr ⟨ι, S', R3.put o.dst (.sl hrd) fun i hi => noHasS hi⟩
  rcases own_split (w := w') (e := e) (sz := size) (n := len) (v := v') (us := vs.flatMap fun v => v.cells.toList) ⟨hrow.1.1, by
    rcases hrow.1.2 with h | ⟨g, cap, cur, a1, a2, a3⟩
    · exact .inl h
    · exact .inr ⟨g, cap, cur, a1, Nat.zero_le _, a3⟩⟩ with ⟨hv, rfl, hu0⟩ | ⟨g, c, cur, hv, hg, hnc, hcm, hcs, hcu⟩
  · subst hv
    have : xs = [] := List.eq_nil_of_length_eq_zero (by simpa using hxl)
    subst this
    exact fin S (fun _ h => h) (fun _ h => .inl h) (fun g h => Nat.lt_of_lt_of_le (R.Slt g h) hbl.size) (.sl0 (Nat.le_refl _) (by unfold maxLen; omega) fun _ => ⟨rfl, rfl⟩)
  · subst hv
    have hgw : w.heap.size ≤ g := hfr g rfl
    refine fin (fun k => S k ∨ k = g) (fun _ h => .inl h) (fun k h => by
      rcases h with h | h
      · exact .inl h
      · exact .inr (by rw [h]; exact hgw)) (fun k h => ?_) ?_
    · rcases h with h | h
      · exact Nat.lt_of_lt_of_le (R.Slt k h) hbl.size
      · rw [h]; exact (Array.getElem?_eq_some_iff.1 hg).1
    · have key : ∀ (j : Nat) (p : PV), xs[j]? = some p → ∃ u, cur[j]? = some u ∧ Rd (fun k => S k ∨ k = g) w' p u := by
        intro j p hj
        obtain ⟨b, hb', hbd⟩ := d2 j p hj
        obtain ⟨u, hu, hru⟩ := h6 j b hb'
        exact ⟨u, hcu j u hu, (hru.down hbd (h5 u (List.mem_of_getElem? hu))).next (fun k hk => hbl.block k (R.Slt k hk)) fun _ h => .inl h⟩
      have := Rd.sl (S := fun k => S k ∨ k = g) (w := w') (n := len) (c := c) (b := g) (o := 0) (xs := xs) (fun j => cur.getD j undef) hnc hcm (.mk (.inr rfl) hg) (fun j p hj => ?_) (fun j p hj => ?_)
      · exact this
      · obtain ⟨u, hu, _⟩ := key j p hj
        simp only [Nat.zero_add, Array.getD_eq_getD_getElem?, hu, Option.getD_some]
        exact cell_in hg hu
      · obtain ⟨u, hu, hru⟩ := key j p hj
        simp only [Array.getD_eq_getD_getElem?, hu, Option.getD_some]
        exact hru
end
end Go.Proofs.Ytkbkmngbenohkaa

namespace Go.Proofs.Ytkbkmngbenohkaa
open Go.RowKit
section
variable {P : Program} {σ : St} {z : List Value} {T e : TypeId} {size bytes : Nat}

theorem below_self (w : World) : Below w.heap.size w w := Below.refl _ _

theorem op_asN {dd : Option Tmp} {ty : TypeId} (id : Oid) (x : Operand) (e : TypeId) (sz : Nat) (hx : σ.eval x = .v (.slice none 0 0)) (hid : σ.ob id = .free) : Stp P dd (.assign x) ty σ ((σ.setOb id (.obj (.row e sz []))).put dd (.ref id 0 0)) := by
  intro o hd ho ht
  subst hd
  intro K ι S a w R
  have hv := R.eval x
  rw [hx] at hv
  have hv := hv.toV
  exact yields_value (by simp [execOp, ho, hv]) (R.newNil hid (below_self w) e sz _)
end

mutual
theorem Lv.same {σ : St} {F : Oid → Bool} : (a : AV) → Lv (fun i => i) σ F a a
  | .dead => .dead
  | .v _ => .v
  | .sl _ _ => .sl
  | .fp _ _ => .fp
  | .z => .z
  | .mp _ => .mp (ρ := fun i => i)
  | .ref _ _ _ => .ref (ρ := fun i => i)
  | .ptr _ _ => .ptr (ρ := fun i => i)
  | .agg xs => .agg rfl fun j a b ha hb => by
      rw [ha] at hb; cases hb; exact Lv.sames xs j a ha
  | .fn f xs us => .fn rfl (fun j a b ha hb => by
      rw [ha] at hb; cases hb; exact Lv.sames xs j a ha) rfl fun j a b ha hb => by
      rw [ha] at hb; cases hb; exact Lv.sames us j a ha
  | .ifc t a => .ifc (Lv.same a)
  | .tup xs => .tup rfl fun j a b ha hb => by
      rw [ha] at hb; cases hb; exact Lv.sames xs j a ha
theorem Lv.sames {σ : St} {F : Oid → Bool} : (xs : List AV) → (j : Nat) → (a : AV) → xs[j]? = some a → Lv (fun i => i) σ F a a
  | [], _, _, h => by simp at h
  | x :: xs, 0, a, h => by simp at h; subst h; exact Lv.same x
  | x :: xs, j + 1, a, h => Lv.sames xs j a (by simpa using h)
end
theorem LvO.same {σ : St} {F : Oid → Bool} : (o : Cells) → LvO (fun i => i) σ F o o
  | .row _ _ xs => .row (List.append_nil xs).symm
  | .box _ xs => .box rfl fun j a b ha hb => by
      rw [ha] at hb; cases hb; exact Lv.sames xs j a ha
  | .rowA _ _ xs => .rowA rfl fun j a b ha hb => by
      rw [ha] at hb; cases hb; exact Lv.sames xs j a ha
  | .mp _ _ => .mp
  | .it _ _ _ _ => .it (ρ := fun i => i)

theorem Le.frzS {σ : St} (t : Nat) {id : Oid} {off n : Nat} {e : TypeId} {sz : Nat} {xs ys : List PV} (hr : σ.fr t = .ref id off n) (hid : σ.ob id = .obj (.row e sz xs)) (hi : σ.inc id = false) (hy : (xs.drop off).take (n * sz) = ys) (hl : off + n * sz ≤ xs.length) :
    Le ((σ.setOb id .gone).put (some t) (.sl n ys)) σ := by
  intro K ι S a w R
  have hob : ∀ i o, ((σ.setOb id .gone).put (some t) (.sl n ys)).ob i = .obj o → oeq i id = false ∧ σ.ob i = .obj o := by
    intro i o h
    rw [St.put_ob] at h
    simp only [St.setOb] at h
    cases hb : oeq i id with
    | true => rw [hb] at h; cases h
    | false => rw [hb] at h; exact ⟨rfl, h⟩
  have hnf : ∀ i, σ.ob i ≠ .free → ((σ.setOb id .gone).put (some t) (.sl n ys)).ob i ≠ .free := by
    intro i h h'
    rw [St.put_ob] at h'
    simp only [St.setOb] at h'
    cases hb : oeq i id with
    | true => rw [hb] at h'; cases h'
    | false => rw [hb] at h'; exact h h'
  refine Le.of (fun i => i) (fun i => oeq i id) (by rw [St.put_n]; rfl) (fun u hu => ?_) (fun i o h => ?_) (fun _ _ _ _ _ _ h => h) (fun i h => ?_) (fun i o h h' => ?_) (fun u i h => ?_) (fun i o j h h' => ?_) (fun i h o hp ho => ?_) (fun i h => ?_) K ι S a w R
  · show Lv _ _ _ (bif Nat.beq u t then _ else σ.fr u) _
    cases hb : Nat.beq u t with
    | true => rw [Nat.eq_of_beq_eq_true hb, hr]; exact .frz hid (oeq_self id) hy hl
    | false => exact Lv.same _
  · obtain ⟨h1, h2⟩ := hob i o h
    exact ⟨h1, o, h2, LvO.same o⟩
  · rw [oeq_iff.1 h]; exact hi
  · exact h'
  · replace h : Has i (bif Nat.beq u t then _ else σ.fr u) := h
    cases hb : Nat.beq u t with
    | true => rw [hb] at h; cases h
    | false => rw [hb] at h; exact hnf i (R.cl u i h)
  · exact hnf j (R.clo i o j (hob i o h).2 h')
  · exact hp
  · refine R.pf i ?_
    rw [St.put_ob] at h
    simp only [St.setOb] at h
    cases hb : oeq i id with
    | true => rw [hb] at h; cases h
    | false => rw [hb] at h; exact h
theorem Le.frzB {σ : St} (ib : Oid) (j : Nat) {T : TypeId} {cs : List AV} {id : Oid} {off n : Nat} {e : TypeId} {sz : Nat} {xs ys : List PV} (hb : σ.ob ib = .obj (.box T cs)) (hr : cs[j]? = some (.ref id off n)) (hid : σ.ob id = .obj (.row e sz xs)) (hi : σ.inc id = false) (hy : (xs.drop off).take (n * sz) = ys) (hl : off + n * sz ≤ xs.length) :
    Le ((σ.setOb id .gone).setOb ib (.obj (.box T (cs.set j (.sl n ys))))) σ := by
  intro K ι S a w R
  have hne : oeq ib id = false := by
    cases h : oeq ib id with
    | true => rw [oeq_iff.1 h, hid] at hb; cases hb
    | false => rfl
  have hob : ∀ i o, ((σ.setOb id .gone).setOb ib (.obj (.box T (cs.set j (.sl n ys))))).ob i = .obj o → oeq i id = false ∧ ((oeq i ib = false ∧ σ.ob i = .obj o) ∨ (i = ib ∧ o = .box T (cs.set j (.sl n ys)))) := by
    intro i o h
    simp only [St.setOb] at h
    cases h1 : oeq i ib with
    | true =>
      rw [h1] at h
      have := oeq_iff.1 h1
      subst this
      cases h
      exact ⟨hne, .inr ⟨rfl, rfl⟩⟩
    | false =>
      rw [h1] at h
      cases h2 : oeq i id with
      | true => rw [h2] at h; cases h
      | false => rw [h2] at h; exact ⟨rfl, .inl ⟨rfl, h⟩⟩
  have hnf : ∀ i, σ.ob i ≠ .free → ((σ.setOb id .gone).setOb ib (.obj (.box T (cs.set j (.sl n ys))))).ob i ≠ .free := by
    intro i h h'
    simp only [St.setOb] at h'
    cases h1 : oeq i ib with
    | true => rw [h1] at h'; cases h'
    | false =>
      rw [h1] at h'
      cases h2 : oeq i id with
      | true => rw [h2] at h'; cases h'
      | false => rw [h2] at h'; exact h h'
  refine Le.of (σ1 := (σ.setOb id .gone).setOb ib (.obj (.box T (cs.set j (.sl n ys))))) (σ2 := σ) (fun i => i) (fun i => oeq i id) rfl (fun u hu => Lv.same _) (fun i o h => ?_) (fun _ _ _ _ _ _ h => h) (fun i h => ?_) (fun i o h h' => h') (fun u i h => hnf i (R.cl u i h)) (fun i o k h h' => ?_) (fun i h o hp ho => hp) (fun i h => ?_) K ι S a w R
  · obtain ⟨h1, ⟨_, h2⟩ | ⟨rfl, rfl⟩⟩ := hob i o h
    · exact ⟨h1, o, h2, LvO.same o⟩
    · refine ⟨h1, _, hb, .box (by simp) fun k a b ha hb' => ?_⟩
      by_cases hk : j = k
      · subst hk
        rw [hr] at hb'; cases hb'
        have hjl : j < cs.length := (List.getElem?_eq_some_iff.1 hr).1
        rw [List.getElem?_set_self hjl] at ha; cases ha
        exact .frz hid (oeq_self id) hy hl
      · rw [List.getElem?_set_ne hk, hb'] at ha; cases ha; exact Lv.same _
  · rw [oeq_iff.1 h]; exact hi
  · obtain ⟨h1, ⟨_, h2⟩ | ⟨rfl, rfl⟩⟩ := hob i o h
    · exact hnf k (R.clo i o k h2 h')
    · obtain ⟨x, hx, hk⟩ := h'
      rcases List.mem_or_eq_of_mem_set hx with hx | hx
      · exact hnf k (R.clo _ _ k hb ⟨x, hx, hk⟩)
      · subst hx; cases hk
  · refine R.pf i ?_
    simp only [St.setOb] at h
    cases h1 : oeq i ib with
    | true => rw [h1] at h; cases h
    | false =>
      rw [h1] at h
      cases h2 : oeq i id with
      | true => rw [h2] at h; cases h
      | false => rw [h2] at h; exact h
end Go.Proofs.Ytkbkmngbenohkaa

namespace Go.Proofs.Ytkbkmngbenohkaa
open Go.RowKit

theorem Le.nilB {σ : St} (ib : Oid) (j : Nat) (id : Oid) (e : TypeId) (sz : Nat) {T : TypeId} {cs : List AV} (hb : σ.ob ib = .obj (.box T cs)) (hr : cs[j]? = some (.v (.slice none 0 0))) (hid : σ.ob id = .free) :
    Le ((σ.setOb id (.obj (.row e sz []))).setOb ib (.obj (.box T (cs.set j (.ref id 0 0))))) σ := by
  intro K ι S a w R
  have R1 := R.new (w' := w) (o := .row e sz []) (B := ⟨none, 0, sz⟩) hid (below_self w) (fun k hk => by cases hk) ⟨_, setI_same _ _ _, rfl, .inl ⟨rfl, rfl, rfl⟩⟩ (fun i hi => hi.elim)
  have hne : ib ≠ id := fun h => by rw [h, hid] at hb; cases hb
  have hb1 : (σ.setOb id (.obj (.row e sz []))).ob ib = .obj (.box T cs) := by rw [St.setOb_ne _ _ hne]; exact hb
  obtain ⟨B, g, h1, h2, h3, h4⟩ := R1.ob ib _ hb1
  refine ⟨_, S, R1.upd hb1 h1 (.of_below (below_self w)) ⟨B, g, h1, h2, by simpa using h3, ?_⟩ ?_⟩
  · rw [List.length_set]
    refine h4.next (fun _ _ => rfl) fun k u hu x hx => ?_
    by_cases hk : j = k
    · subst hk
      have := (hu _ hr).toV
      subst this
      rw [List.getElem?_set_self (List.getElem?_eq_some_iff.1 hr).1] at hx
      cases hx
      refine .ref (fun B' hB => ?_) rfl
      rw [setI_same] at hB
      obtain rfl := Option.some.inj hB
      exact ⟨0, Nat.le_refl _, by unfold maxLen; omega, rfl, rfl, rfl⟩
    · rw [List.getElem?_set_ne hk] at hx
      exact hu x hx
  · rintro i ⟨x, hx, hi⟩
    rcases List.mem_or_eq_of_mem_set hx with hx | hx
    · exact R1.clo ib _ i hb1 ⟨x, hx, hi⟩
    · subst hx; cases hi; rw [St.setOb_same]; intro h; cases h
theorem Le.nil0 {σ : St} (ib : Oid) (j : Nat) {T : TypeId} {cs : List AV} (hb : σ.ob ib = .obj (.box T cs)) (hr : cs[j]? = some (.v (.slice none 0 0))) : Le (σ.setOb ib (.obj (.box T (cs.set j (.sl 0 []))))) σ := by
  intro K ι S a w R
  obtain ⟨B, g, h1, h2, h3, h4⟩ := R.ob ib _ hb
  refine ⟨ι, S, R.upd hb h1 (.of_below (below_self w)) ⟨B, g, h1, h2, by simpa using h3, ?_⟩ ?_⟩
  · rw [List.length_set]
    refine h4.next (fun _ _ => rfl) fun k u hu x hx => ?_
    by_cases hk : j = k
    · subst hk
      have := (hu _ hr).toV
      subst this
      rw [List.getElem?_set_self (List.getElem?_eq_some_iff.1 hr).1] at hx
      cases hx
      exact .sl (.sl0 (Nat.le_refl _) (by unfold maxLen; omega) fun _ => ⟨rfl, rfl⟩)
    · rw [List.getElem?_set_ne hk] at hx
      exact hu x hx
  · rintro i ⟨x, hx, hi⟩
    rcases List.mem_or_eq_of_mem_set hx with hx | hx
    · exact R.clo ib _ i hb ⟨x, hx, hi⟩
    · subst hx; cases hi
end Go.Proofs.Ytkbkmngbenohkaa

namespace Go.Proofs.Ytkbkmngbenohkaa
open Go.RowKit
section
variable {P : Program} {σ : St} {dd : Option Tmp} {ty : TypeId} {t t' : TypeId} {k k' : IntKind} {a b : Int}

theorem stp_bin {op : BinOp} {x y : Operand} {u v : Value} (hx : σ.eval x = .v u) (hy : σ.eval y = .v v) {r : Value} (h : ∀ (o : Oper) (ρ : Operand → Value) w, o.op = .binOp op t x y t' → ρ x = u → ρ y = v → (execOp ρ o).run P w = .ok (.value r) w) : Stp P dd (.binOp op t x y t') ty σ (σ.put dd (.v r)) := by
  intro o hd ho ht
  subst hd
  exact st_bool ho hx hy fun ρ w h1 h2 => h o ρ w ho h1 h2
theorem stp_un {op : Op} {x : Operand} {u : Value} (hx : σ.eval x = .v u) {r : Value} (h : ∀ (o : Oper) (ρ : Operand → Value) w, o.op = op → ρ x = u → (execOp ρ o).run P w = .ok (.value r) w) : Stp P dd op ty σ (σ.put dd (.v r)) := by
  intro o hd ho ht
  subst hd
  exact step_val fun _ _ _ a w R => ⟨r, h o a.eval w ho (Rep.evV R hx), .v, fun _ => noHasV⟩

theorem op_conv (x : Operand) (hs : P.underlying t = some (.int k)) (ht : P.underlying t' = some (.int k')) (hx : σ.eval x = .v (.int k a)) {r : Int} (hr : k'.wrap a = r) : Stp P dd (.convert t t' x) ty σ (σ.put dd (.v (.int k' r))) :=
  stp_un hx fun o ρ w ho hx => by subst hr; simp [execOp, ho, hx, go_sem, hs, ht, run_underlying hs, run_underlying ht]
theorem op_shr (x y : Operand) (hx : σ.eval x = .v (.int k a)) (hy : σ.eval y = .v (.int k' b)) (hb : 0 ≤ b) {r : Int} (hr : a.fdiv (2 ^ min b.toNat k.bits) = r) : Stp P dd (.binOp .shr t x y t') ty σ (σ.put dd (.v (.int k r))) :=
  stp_bin hx hy fun o ρ w ho hx hy => by subst hr; simp [execOp, ho, hx, hy, eqGuard, go_sem, Op.shift, Int.not_lt.2 hb]
theorem op_shl (x y : Operand) (hx : σ.eval x = .v (.int k a)) (hy : σ.eval y = .v (.int k' b)) (hb : 0 ≤ b) {r : Int} (hr : k.wrap (a * 2 ^ min b.toNat k.bits) = r) : Stp P dd (.binOp .shl t x y t') ty σ (σ.put dd (.v (.int k r))) :=
  stp_bin hx hy fun o ρ w ho hx hy => by subst hr; simp [execOp, ho, hx, hy, eqGuard, go_sem, Op.shift, Int.not_lt.2 hb]
theorem op_and (x y : Operand) (hx : σ.eval x = .v (.int k a)) (hy : σ.eval y = .v (.int k b)) {r : Int} (hr : k.wrap (BitVec.ofInt k.bits a &&& BitVec.ofInt k.bits b).toNat = r) : Stp P dd (.binOp .and t x y t') ty σ (σ.put dd (.v (.int k r))) :=
  stp_bin hx hy fun o ρ w ho hx hy => by subst hr; simp [execOp, ho, hx, hy, eqGuard, go_sem, Op.intBits]
theorem op_or (x y : Operand) (hx : σ.eval x = .v (.int k a)) (hy : σ.eval y = .v (.int k b)) {r : Int} (hr : k.wrap (BitVec.ofInt k.bits a ||| BitVec.ofInt k.bits b).toNat = r) : Stp P dd (.binOp .or t x y t') ty σ (σ.put dd (.v (.int k r))) :=
  stp_bin hx hy fun o ρ w ho hx hy => by subst hr; simp [execOp, ho, hx, hy, eqGuard, go_sem, Op.intBits]
theorem op_min (x y : Operand) (hx : σ.eval x = .v (.int .i64 a)) (hy : σ.eval y = .v (.int .i64 b)) {r : Int} (hr : min a b = r) : Stp P dd (.call { callee := .builtin .min, args := #[x, y], argTypes := #[t, t'] }) ty σ (σ.put dd (.v (.int .i64 r))) := by
  intro o hd ho ht
  subst hd
  refine step_val fun _ _ _ A w R => ⟨_, ?_, .v, fun _ => noHasV⟩
  have h1 := Rep.evV R hx
  have h2 := Rep.evV R hy
  generalize A.eval = ρ at h1 h2
  subst hr
  have hm : min a b = if b < a then b else a := by omega
  simp [execOp, ho, resolve, invoke, builtin, h1, h2, go_sem, Builtin.min_, Builtin.min2, hm]
theorem u64w {n : Int} (h : 0 ≤ n ∧ n < 18446744073709551616) : IntKind.u64.wrap n = n := by
  show IntKind.wrap .u64 n = n
  simp only [IntKind.wrap, IntKind.bits, IntKind.signed, Bool.false_and, Bool.false_eq_true, if_false]
  omega
end
end Go.Proofs.Ytkbkmngbenohkaa

namespace Go.Proofs.Ytkbkmngbenohkaa
open Go.RowKit

theorem Sl.rd {w : World} {sz n : Nat} {v : Value} {xs : List Value} (h : Sl w sz v n xs) : Rd (fun g => g < w.heap.size) w (.sl n (xs.map PV.v)) v := by
  obtain ⟨ao, c, rfl, h1, h2, h3, h4, h5, h6, h7⟩ := h
  cases xs with
  | nil => exact .sl0 h1 h2 h5
  | cons x xs =>
    have hn : 0 < n := by
      rcases Nat.eq_zero_or_pos n with h | h
      · subst h; simp at h3
      · exact h
    obtain ⟨b, off, rfl⟩ := h6 hn
    refine .sl (fun j => (x :: xs).getD j undef) h1 h2 ?_ (fun j p hj => ?_) (fun j p hj => ?_)
    · have := h7 _ rfl 0 x rfl
      refine ⟨World.block_lt_of_cell? w _ this, ?_⟩
      simp only [World.cell?, Addr.add_lit] at this
      split at this
      · rename_i c e f hc
        exact ⟨c, e, f, hc⟩
      · cases this
    · have hj' : j < (x :: xs).length := by
        have := (List.getElem?_eq_some_iff.1 hj).1
        simpa using this
      have := h7 _ rfl j _ (List.getElem?_eq_getElem hj')
      simp only [List.getD_eq_getElem?_getD, List.getElem?_eq_getElem hj', Option.getD_some]
      by_cases hj0 : j = 0
      · subst hj0; simpa [Addr.add] using this
      · simpa [Addr.add, hj0] using this
    · have hj' : j < (x :: xs).length := by
        have := (List.getElem?_eq_some_iff.1 hj).1
        simpa using this
      rw [List.getElem?_map, List.getElem?_eq_getElem hj'] at hj
      cases hj
      simp only [List.getD_eq_getElem?_getD, List.getElem?_eq_getElem hj', Option.getD_some]
      exact .v (h4 _ (List.getElem_mem hj'))

theorem Spec.law {P : Program} {f : FuncId} {args : List AV} {r : Value} {vs : List Value} {w : World} (sp : Spec P f (inSt args []) (outSt (.v r) [])) (hp : AV.pures args = true) (hl : vs.length = args.length)
    (h : ∀ (j : Nat) (a : AV) (v : Value), args[j]? = some a → vs[j]? = some v → Rep (fun _ => none) (fun g => g < w.heap.size) w a v) : Calls P f vs.toArray w fun e w' => e = .returned r ∧ Below w.heap.size w w' := by
  have hnh : ∀ t id, ¬ Has id (args.getD t .dead) := by
    intro t id hh
    by_cases ht : t < args.length
    · have : args.getD t .dead = args[t] := by simp [ht]
      rw [this] at hh
      exact pures_has _ hp _ (List.getElem_mem ht) hh
    · have : args.getD t .dead = .dead := by simp [show args.length ≤ t by omega]
      rw [this] at hh; cases hh
  have R : RelI ⟨w, fun _ => False, fun g => g < w.heap.size, fun _ => none, none⟩ (fun _ => none) (fun g => g < w.heap.size) (inSt args []) ⟨vs.toArray, []⟩ w := by
    have hfree : ∀ i o, (inSt args []).ob i ≠ .obj o := fun i o h => by cases h
    refine { keeps := .refl _ _, S0 := fun g h => .inl h, Slt := fun g h => h, nt := by simpa [inSt] using hl, df := .nil, fr := fun t ht => ?_, cl := fun t id hh => (hnh t id hh).elim, clo := fun i o j ho => (hfree i o ho).elim, ob := fun i o ho => (hfree i o ho).elim, dom := fun i B hB => (by cases hB), inj := fun i j B B' g hB => (by cases hB), sep := fun i B g hB => (by cases hB), pin := fun i hh o hp => (by cases hp), pf := fun _ _ => rfl }
    replace ht : t < args.length := ht
    have ht' : t < vs.length := by omega
    have := h t args[t] vs[t] (List.getElem?_eq_getElem ht) (List.getElem?_eq_getElem ht')
    show Rep _ _ _ (args.getD t .dead) _
    simpa [ht, ht'] using this
  refine (sp _ _ _ _ w rfl rfl R).mono ?_
  rintro e w' ⟨v, ι', S', rfl, R'⟩
  have h0 : Rep ι' S' w' (.v r) v := R'.fr 0 (by show 0 < 1; omega)
  rw [h0.toV]
  refine ⟨rfl, R'.keeps.os, R'.keeps.tape, R'.keeps.output, R'.keeps.size, fun g hg => R'.keeps.block g hg fun h => h⟩
def ArgsRep (w : World) : List AV → List Value → Prop
  | [], [] => True
  | a :: xs, v :: vs => Rep (fun _ => none) (fun g => g < w.heap.size) w a v ∧ ArgsRep w xs vs
  | _, _ => False
theorem ArgsRep.len {w : World} : ∀ {xs : List AV} {vs : List Value}, ArgsRep w xs vs → vs.length = xs.length
  | [], [], _ => rfl
  | _ :: _, _ :: _, h => by simp [h.2.len]
  | [], _ :: _, h => h.elim
  | _ :: _, [], h => h.elim
theorem ArgsRep.at {w : World} : ∀ {xs : List AV} {vs : List Value}, ArgsRep w xs vs → ∀ (j : Nat) (a : AV) (v : Value), xs[j]? = some a → vs[j]? = some v → Rep (fun _ => none) (fun g => g < w.heap.size) w a v
  | [], _, _, _, _, _, ha, _ => by simp at ha
  | _ :: _, [], h, _, _, _, _, _ => h.elim
  | _ :: _, _ :: _, h, 0, _, _, ha, hv => by simp at ha hv; subst ha; subst hv; exact h.1
  | _ :: _, _ :: _, h, j + 1, a, v, ha, hv => h.2.at j a v (by simpa using ha) (by simpa using hv)
theorem Spec.calls {P : Program} {f : FuncId} {args : List AV} {r : Value} {w : World} (sp : Spec P f (inSt args []) (outSt (.v r) [])) (hp : AV.pures args = true) {vs : List Value} (h : ArgsRep w args vs) : Calls P f vs.toArray w fun e w' => e = .returned r ∧ Below w.heap.size w w' :=
  sp.law hp h.len h.at
end Go.Proofs.Ytkbkmngbenohkaa

namespace Go.Proofs.Ytkbkmngbenohkaa
open Go.RowKit Go.ChangeShapes Go.WideShapes

theorem fitsI {n : Int} (h : (Lit.int .i64 n).wf = true) : -9223372036854775808 ≤ n ∧ n ≤ 9223372036854775807 := by
  simp [Lit.wf, IntKind.min, IntKind.max, IntKind.signed, IntKind.bits] at h; omega
section
variable {H : Type} {enc : TypeId × Value → H} {P : Program} {w : World} {base : Nat} {spare : Nat → Bool} {held : Bool}

theorem open_cells {t e : TypeId} {α : Type} (f : α → Value) (d0 : α) (g : Lit → Prop) {fuel : Nat} {cs : List Value} {x : DataW H × List MemPlace} (ht : P.underlying t = some (.slice e)) (hc : P.cellsOf e = 1)
    (hone : ∀ (n : Nat) (c : List Value) (y : DataW H × List MemPlace), DataW.trod enc P w base spare held n e c = some y → ∃ z : α, c = [f z] ∧ (f z).oneCell' = true) {ao : Option Addr} {len cap : Nat} (hcs : cs = [.slice ao len cap])
    (h : DataW.trod enc P w base spare held fuel t cs = some x) : ∃ zs : List α, zs.length = len ∧ Sl w 1 (.slice ao len cap) len (zs.map f) := by
  rcases DataW.trod_slice ht h with ⟨h0, _⟩ | ⟨a, len', cap', elems, rest, n, _, h0, rfl, hb, hl, hm, hlen, hel, hsp, hns⟩
  · rw [hcs] at h0
    simp at h0
    obtain ⟨rfl, rfl, rfl⟩ := h0
    exact ⟨[], rfl, ⟨none, 0, rfl, Nat.le_refl _, by simp, rfl, by simp, fun _ => ⟨rfl, rfl⟩, fun h => absurd h (by omega), by simp⟩⟩
  · rw [hcs] at h0
    simp at h0
    obtain ⟨rfl, rfl, rfl⟩ := h0
    have key : ∀ i, i < len → ∃ z : α, w.cell? (a.add i) = some (f z) ∧ (f z).oneCell' = true := by
      intro i hi
      have h1 := hel i hi
      rw [hc, Nat.mul_one, List.getElem?_eq_getElem (by omega), Option.bind_eq_some_iff] at h1
      obtain ⟨c, h2, h3⟩ := h1
      obtain ⟨z, rfl, h4⟩ := hone _ _ _ h3
      exact ⟨z, cell_of_cells?_one h2, h4⟩
    have pick : ∀ m, m ≤ len → ∃ zs : List α, zs.length = m ∧ ∀ i z, zs[i]? = some z → w.cell? (a.add i) = some (f z) ∧ (f z).oneCell' = true := by
      intro m
      induction m with
      | zero => exact fun _ => ⟨[], rfl, by simp⟩
      | succ m ih =>
        intro hm
        obtain ⟨zs, h1, h2⟩ := ih (by omega)
        obtain ⟨z, h3⟩ := key m (by omega)
        refine ⟨zs ++ [z], by simp [h1], fun i y hy => ?_⟩
        by_cases hi : i < zs.length
        · rw [List.getElem?_append_left hi] at hy; exact h2 i y hy
        · have hil := (List.getElem?_eq_some_iff.1 hy).1
          simp at hil
          have : i = m := by omega
          subst this
          rw [List.getElem?_append_right (by omega), show i - zs.length = 0 by omega] at hy
          simp at hy
          subst hy
          exact h3
    obtain ⟨zs, h1, h2⟩ := pick len (Nat.le_refl _)
    refine ⟨zs, h1, ⟨some a, cap, rfl, hl, hm, by simp [h1], fun u hu => ?_, by simp, fun hp => ?_, fun ad had j u hu => ?_⟩⟩
    · obtain ⟨z, hz, rfl⟩ := List.mem_map.1 hu
      obtain ⟨i, hi⟩ := List.getElem?_of_mem hz
      exact (h2 i z hi).2
    · obtain ⟨z, h3, _⟩ := key 0 hp
      have := World.cell?_spot h3
      obtain ⟨b, off, s⟩ := a
      simp [Addr.add] at this
      subst this
      exact ⟨b, off, rfl⟩
    · obtain rfl := Option.some.inj had
      rw [List.getElem?_map] at hu
      obtain ⟨z, hz, rfl⟩ := Option.map_eq_some_iff.1 hu
      exact (h2 j z hz).1

theorem sl_ints {t e : TypeId} {k : IntKind} (ht : P.underlying t = some (.slice e)) (he : P.underlying e = some (.int k)) (hc : P.cellsOf e = 1) {ao : Option Addr} {len cap : Nat} {d : DataW H} {p : List MemPlace}
    (h : DataW.Trod enc P w base spare held t (.slice ao len cap) d p) : ∃ zs : List { n : Int // (Lit.int k n).wf = true }, zs.length = len ∧ Sl w 1 (.slice ao len cap) len (zs.map fun z => Value.int k z.1) := by
  obtain ⟨fuel, hf⟩ := h
  refine open_cells (fun z : { n : Int // (Lit.int k n).wf = true } => Value.int k z.1) ⟨0, by cases k <;> rfl⟩ (fun _ => True) ht hc (fun n c y hy => ?_) rfl hf
  obtain ⟨m, h, _, hw⟩ := DataW.trod_int he hy
  exact ⟨⟨m, hw⟩, h, rfl⟩
end
theorem len_reach {H : Type} {enc : TypeId × Value → H} {P : Program} {w : World} {base : Nat} {spare : Nat → Bool} {held : Bool} {ts : List TypeId} {ds : List (DataW H)} (hsz : (DataW.weightsEach P ts ds).all (· ≤ reachBytes) = true) {j : Nat} {t e : TypeId} {d : DataW H} {p : List MemPlace}
    (htj : ts[j]? = some t) (hd : ds[j]? = some d) (ht : P.underlying t = some (.slice e)) (hb : 0 < P.bytesOf e) {ao : Option Addr} {len cap : Nat} (h : DataW.Trod enc P w base spare held t (.slice ao len cap) d p) : len ≤ 4611686018427387904 := by
  obtain ⟨fuel, hf⟩ := h
  rcases DataW.trod_slice ht hf with ⟨h0, _⟩ | ⟨a, len', cap', elems, rest, n, _, h0, h1, hb', hl, hm, hlen, hel, hsp, hns⟩
  · replace h0 : [Value.slice ao len cap] = [Value.slice none 0 0] := h0
    simp at h0; omega
  · replace h0 : [Value.slice ao len cap] = [Value.slice (some a) len' cap'] := h0
    simp at h0
    obtain ⟨rfl, rfl, rfl⟩ := h0
    have e1 : d = .slice (elems.map (·.1)) (rest.map (·.1)) := congrArg Prod.fst h1
    subst e1
    have h2 := sized_slice hsz htj hd ht
    rw [List.length_map, List.length_map, hlen] at h2
    have h3 := reachBytes_lt
    have h4 : len * 1 ≤ (len + rest.length) * P.bytesOf e := Nat.mul_le_mul (by omega) hb
    omega
/-! What a cut's head says, for any program. -/
theorem strip_cut (ws : List (List Char)) : stripLifts liftWords ("cut".toList :: ws) = ([], "cut".toList :: ws) := by kernel_rfl
theorem lifts_cut {P : Program} {ws : List (List Char)} (h : behindMainWord (wordsSigns P.initOrder.toList) = "cut".toList :: ws) : P.headLifts = [] := by
  unfold Program.headLifts; rw [h, strip_cut]; kernel_rfl
theorem make_cut {P : Program} {ws : List (List Char)} (h : behindMainWord (wordsSigns P.initOrder.toList) = "cut".toList :: ws) : P.make = some .cut := by
  unfold Program.make; rw [h, lifts_cut h]; kernel_rfl
theorem final_cut {P : Program} {ws : List (List Char)} (h : behindMainWord (wordsSigns P.initOrder.toList) = "cut".toList :: ws) : P.liftsFinal = false := by
  unfold Program.liftsFinal; rw [h, lifts_cut h]; kernel_rfl
theorem may_cut {P : Program} {ws : List (List Char)} (h : behindMainWord (wordsSigns P.initOrder.toList) = "cut".toList :: ws) (h1 : P.laysLater = false) (h2 : P.bearsReflect = false) (h3 : P.doorFits [] = true) : P.mayEnter = true := by
  unfold Program.mayEnter; rw [h]; simp only [strip_cut, h1, h2, h3]; kernel_rfl
theorem and2 {a b : Bool} (h : a = true) (h2 : b = true) : (a && b) = true := by rw [h, h2]; rfl
end Go.Proofs.Ytkbkmngbenohkaa

namespace Go.Proofs.Ytkbkmngbenohkaa
open Go.RowKit
section
variable {P : Program} {T e : TypeId} {size bytes : Nat} {z : List Value}
theorem run_app0 [E : Elem P T e size bytes z] (w : World) (ty : TypeId) (a : Addr) (vx : Value) (m : Nat) (news : List Value) (hsl : Sl w size vx m news) (hb : m * bytes ≤ 140737488355328) :
    (m = 0 ∧ (Builtin.append_ #[T, T] ty #[.slice (some a) 0 0, vx]).run P w = .ok (.slice (some a) 0 0) w) ∨
    (Builtin.append_ #[T, T] ty #[.slice (some a) 0 0, vx]).run P w = (Builtin.append_ #[T, T] ty #[.slice none 0 0, vx]).run P w := by
  obtain ⟨i, zv, hi, hz, hs, hby, hzc⟩ := E.info
  obtain ⟨ao, c, rfl, hmc, hcm, hln, hone, hnil, hpos, hcells⟩ := hsl
  have hl0 : ∀ (b : Addr) w, (loadCellsFrom b 0 0 #[]).run P w = .ok #[] w := fun b w => by simp [loadCellsFrom]
  rcases Nat.eq_zero_or_pos m with h0 | h0
  · subst h0
    refine .inl ⟨rfl, ?_⟩
    cases ao with
    | none => simp [Builtin.append_, run_underlying E.und, sizeOf, typeInfo, hi, Builtin.lenOf, Builtin.firstCells, storeCells]
    | some b => simp [Builtin.append_, run_underlying E.und, sizeOf, typeInfo, hi, Builtin.lenOf, Builtin.firstCells, storeCells, loadCells, hl0]
  · refine .inr ?_
    have hne : ¬ m = 0 := by omega
    have h48 : ¬ (2 ^ 48 < Builtin.nextslicecap m 0 * i.bytes) := by
      have := growslice_fits (need := m) (old := 0) (by omega) hb
      rw [hby]; simp at this ⊢; omega
    have h63 : ¬ (9223372036854775807 < (m : Int)) := by
      have : m * 1 ≤ m * bytes := Nat.mul_le_mul_left _ E.bpos
      omega
    simp [Builtin.append_, run_underlying E.und, sizeOf, typeInfo, hi, hz, Builtin.lenOf, Builtin.firstCells, loadCells, hne, h48, h63, hl0]

theorem op_bsZ {σ : St} {dd : Option Tmp} {ty : TypeId} (parts : Array (Nat × Operand)) (E : Elem P T e size bytes z) (hp : parts = #[]) : Stp P dd (.buildSlice T 0 parts) ty σ (σ.put dd .z) := by
  intro o hd ho ht
  subst hd; subst hp
  intro K ι S a w R
  obtain ⟨i, zv, hi, hz, hs, hby, hzc⟩ := E.info
  have hrun : (execOp a.eval o).run P w = .ok (.value (.slice (some ⟨w.heap.size, 0, none⟩) 0 0)) (w.alloc (.cells #[] e)) := by
    simp [execOp, ho, Instr.buildSlice, run_underlying E.und, sizeOf, typeInfo, hi, hs, newRow, Instr.fill]
    congr 2
    exact Array.size_eq_zero_iff.1 (by simp)
  have hbl : Below w.heap.size w (w.alloc (.cells #[] e)) := (Below.refl _ _).alloc (Nat.le_refl _) _
  have R3 := R.gen (ι' := ι) (S' := S) (w' := w.alloc (.cells #[] e)) (ob' := σ.ob) (inc' := σ.inc) (fun _ => False) (.of_below hbl) (fun _ _ => rfl) (fun _ _ => rfl) (fun _ _ => rfl) (fun _ h => h) (fun _ h => h) (fun _ h => .inl h) (fun g h => Nat.lt_of_lt_of_le (R.Slt g h) hbl.size)
      (fun _ _ h => h.elim) (fun _ _ h => h.elim) (fun _ _ h => h.elim) (fun _ _ _ _ _ h => h.elim) (fun _ _ _ h => h.elim) (fun _ _ _ h => h.elim)
  exact yields_value hrun ⟨ι, S, R3.put o.dst .z fun i hi => by cases hi⟩
end
theorem AnyOps.imp {P : Program} {all : List Oper} {W : List Nat} {I : List Oid} {AA : List (List Oid)} {σ : St} {K K' : List Res → Prop} (hk : ∀ rs, K rs → K' rs) : ∀ {os : List Oper} {rs : List Res}, AnyOps P all W I AA σ K os rs → AnyOps P all W I AA σ K' os rs
  | [], rs, h => hk rs h
  | o :: os, rs, ⟨r, h1, h2⟩ => ⟨r, h1, AnyOps.imp hk h2⟩
theorem any_n {P : Program} {all : List Oper} {W : List Nat} {I : List Oid} {AA : List (List Oid)} {σ : St} {Kont : List Res → Prop} {os : List Oper} {rs rs' : List Res} (h : rs = rs') (hh : AnyOps P all W I AA σ Kont os rs') : AnyOps P all W I AA σ Kont os rs := h ▸ hh
theorem D_anyL {rb : Bool} {P : Program} {Q : Exit → St → Prop} {σ : St} {id : Nat} {l hd tl : List Oper} (n : Nat) (W : List Nat) (I : List Oid) (hm : P.follows .mixedOrders = true) (hB : headC l.toArray n = true) (hW : (l.take n).filterMap (·.dst) = W) (hI : I.Nodup)
    (e1 : l.take n = hd) (e2 : l.drop n = tl) (h : AnyOps P hd W I [] σ (fun rs => made rs = I ∧ DL rb P l.toArray Q tl (stOf hd rs (fun _ => true) 0 σ)) hd []) : D rb P (.region id l.toArray true) Q σ := by
  subst e1; subst e2
  exact D_any n W I [] hm hB hW hI (AnyOps.imp (fun rs h => ⟨⟨h.1, rfl⟩, h.2⟩) h)
theorem D_anyA {rb : Bool} {P : Program} {Q : Exit → St → Prop} {σ : St} {id : Nat} {l hd tl : List Oper} (n : Nat) (W : List Nat) (I : List Oid) (AA : List (List Oid)) (hm : P.follows .mixedOrders = true) (hB : headC l.toArray n = true) (hW : (l.take n).filterMap (·.dst) = W) (hI : I.Nodup)
    (e1 : l.take n = hd) (e2 : l.drop n = tl) (h : AnyOps P hd W I AA σ (fun rs => (made rs = I ∧ aheadB hd rs 0 AA = true) ∧ DL rb P l.toArray Q tl (stOf hd rs (fun _ => true) 0 σ)) hd []) : D rb P (.region id l.toArray true) Q σ := by
  subst e1; subst e2
  exact D_any n W I AA hm hB hW hI h
end Go.Proofs.Ytkbkmngbenohkaa

namespace Go.Proofs.Ytkbkmngbenohkaa
open Go.RowKit
theorem op_ixB {P : Program} {σ : St} {dd : Option Tmp} {ty : TypeId} {T e e' : TypeId} {size bytes : Nat} {z : List Value} (x y : Operand) (E : Elem P T e size bytes z) {id : Oid} {of0 n : Nat} {xs : List AV} (hx : σ.eval x = .ref id of0 n) (hid : σ.ob id = .obj (.box e' xs))
    {k : IntKind} {I : Int} (hy : σ.eval y = .v (.int k I)) (j : Nat) (hI : I = (j : Int)) (hj : j < n) {off : Nat} (he : of0 + j * size = off) : Stp P dd (.indexAddr T x y) ty σ (σ.put dd (.ptr id off)) := by
  intro o hd ho ht
  subst hd; subst he; subst hI
  refine step_val fun _ ι S a w R => ?_
  have hi := R.eval y
  rw [hy] at hi
  have hi := hi.toV
  obtain ⟨inf, zv, hinf, _, hs, _⟩ := E.info
  obtain ⟨B, g, h1, hg, _, _⟩ := R.ob id _ hid
  have hr := R.eval x
  rw [hx] at hr
  generalize hu : a.eval x = u at hr
  cases hr with
  | ref h _ =>
    obtain ⟨c, h3, h4, h5⟩ := h B h1
    rw [hg] at h5
    obtain ⟨o', h6, h7, _⟩ := h5
    obtain rfl := h7.resolve_right (by omega)
    subst h6
    refine ⟨.pointer (some ⟨g, o' + j * size, none⟩), ?_, .ptr (fun B' hB' => ?_) rfl, fun i h => R.evalHas x (by rw [hx]; cases h; exact .ref)⟩
    · simp [execOp, ho, Instr.indexAt, hu, hi, asIntOf, run_underlying E.und, sizeOf, typeInfo, hinf, hs, hj, Addr.add_lit]
    · rw [h1] at hB'
      obtain rfl := Option.some.inj hB'
      exact ⟨g, hg, rfl⟩
theorem RelI.newBoxR {K : Ctx} {ι : Oid → Option Blk} {S : Nat → Prop} {σ : St} {a : Act} {w w' : World} (R : RelI K ι S σ a w) {id : Oid} (hid : σ.ob id = .free) (hb : Below w.heap.size w w') (e : TypeId) (sz n c g : Nat) {cur : Array Value} {xs : List AV}
    (hg : w'.heap[g]? = some (.cells cur e (0, 0))) (hge : w.heap.size ≤ g) (hn : n ≤ c) (hc : c ≤ maxLen) (hcs : cur.size = c * sz) (h1 : xs.length ≤ cur.size) (h2 : ∀ (j : Nat) (b : AV), xs[j]? = some b → ∃ u, cur[j]? = some u ∧ u.oneCell' = true ∧ Rep ι S w b u) (h4 : ∀ b ∈ xs, ∀ i, Has i b → σ.ob i ≠ .free) (d : Option Tmp) :
    ∃ ι' S', RelI K ι' S' ((σ.setOb id (.obj (.box e xs))).put d (.ref id 0 n)) (a.put d (.slice (some ⟨g, 0, none⟩) n c)) w' := by
  have hni : ∀ i, (∃ b ∈ xs, Has i b) → i ≠ id := fun i ⟨b, hb, hi⟩ e => by subst e; exact h4 b hb i hi hid
  have hw : ∀ k, S k → w'.heap[k]? = w.heap[k]? := fun k hk => hb.block k (R.Slt k hk)
  have R1 := R.new (w' := w') (o := .box e xs) (B := ⟨some g, cur.size, sz⟩) hid hb (fun k hk => by obtain rfl := Option.some.inj hk; exact hge)
    ⟨_, g, setI_same _ _ _, rfl, h1, .inr ⟨g, cur, rfl, hg, rfl, by omega, fun j hj => by
      obtain ⟨u, a1, a2, a3⟩ := h2 j _ (List.getElem?_eq_getElem hj)
      refine ⟨u, a1, a2, fun p hp => ?_⟩
      rw [List.getElem?_eq_getElem hj] at hp
      obtain rfl := Option.some.inj hp
      refine a3.next hw (fun _ h => h) fun i B' hi hB' => ?_
      rwa [setI_ne _ _ (hni i ⟨_, List.getElem_mem hj, hi⟩)] at hB'⟩⟩ (fun i hi => by
        obtain ⟨b, hb, hh⟩ := hi
        exact .inr (h4 b hb i hh))
  refine ⟨_, S, R1.put d (.ref (fun B hB => ?_) rfl) fun i hi => ?_⟩
  · rw [setI_same] at hB
    obtain rfl := Option.some.inj hB
    exact ⟨c, hn, hc, 0, rfl, .inl rfl, by simp [hcs]⟩
  · cases hi; rw [St.setOb_same]; intro h; cases h
section
variable {P : Program} {w : World} {o : Oper} {ρ : Operand → Value} {e : TypeId} {z : List Value}
theorem run_bsv {T : TypeId} {size bytes : Nat} [E : Elem P T e size bytes z] (len : Nat) (parts : Array (Nat × Operand)) (ho : o.op = .buildSlice T len parts) (vs : List Value)
    (hp : parts.toList.map (fun p => (p.1, ρ p.2)) = enumV 0 vs) (hlen : vs.length = len) (hsz : ∀ v ∈ vs, v.cells.size = size) (xs : List Value) (hxs : (vs.flatMap fun v => v.cells.toList) = xs) (h1 : ∀ u ∈ xs, u.oneCell' = true)
    (hb : len * size ≤ 100000) :
    (execOp ρ o).run P w = .ok (.value (.slice (some ⟨w.heap.size, 0, none⟩) len len)) (w.alloc (.cells xs.toArray e)) := by
  obtain ⟨i, zv, hi, hz, hs, hby, hzc⟩ := E.info
  subst hlen
  have hxl : xs.length = vs.length * size := by
    subst hxs
    have : ∀ (vs : List Value), (∀ v ∈ vs, v.cells.size = size) → (vs.flatMap fun v => v.cells.toList).length = vs.length * size := by
      intro vs
      induction vs with
      | nil => simp
      | cons v vs ih =>
        intro h
        rw [List.flatMap_cons, List.length_append, ih (fun u hu => h u (List.mem_cons_of_mem _ hu)), List.length_cons, Nat.add_mul]
        have := h v List.mem_cons_self
        simp [this]; omega
    exact this vs hsz
  have hfill : ∀ zz : Array Value, Instr.fill (fun i => some (i * size, size)) ((Array.range (vs.length * size)).map (fun j => zz[j % zz.size]!)) (enumV 0 vs) = some xs.toArray := by
    intro zz
    rw [fill_enum size vs 0 _ hsz (by simp)]
    simp [hxs]
  have hpl : (parts.map fun p => (p.1, ρ p.2)).toList = enumV 0 vs := by simpa using hp
  have hrun : (execOp ρ o).run P w = .ok (.value (.slice (some ⟨w.heap.size, 0, none⟩) vs.length vs.length)) (w.alloc (.cells xs.toArray e)) := by
    have hnb : ¬ vs.length * size > 2 ^ 24 := by omega
    have hpl' : (parts.map fun x => match x with | (i, x) => (i, ρ x)).toList = enumV 0 vs := hpl
    simp only [execOp, ho, Instr.buildSlice, Sem.run_bind, run_underlying E.und, Result.andThen_ok, sizeOf, typeInfo, hi, hs]
    by_cases h0 : vs.length * size = 0
    · have := hfill #[]
      simp [hi, hs, hnb, h0, hpl'] at this ⊢
      simp [hs, hp, this, newRow]
    · have := hfill zv.cells
      simp [hi, hs, hnb, h0, zeroValue, typeInfo, hz, hpl'] at this ⊢
      simp [hi, hs, hz, hp, this, newRow]
  exact hrun
end
theorem partsL_has {σ : St} {i : Oid} : ∀ (l : List (Nat × Operand)) (k : Nat) (r : List (List AV)), partsL σ k l = some r → ∀ b ∈ r.flatten, Has i b → ∃ p ∈ l, Has i (σ.eval p.2)
  | [], k, r, h, b, hb, _ => by simp only [partsL, Option.some.injEq] at h; subst h; simp at hb
  | (j, x) :: l, k, r, h, b, hb, hi => by
    simp only [partsL] at h
    split at h
    · cases hc : (σ.eval x).cells with
      | none => rw [hc] at h; cases h
      | some c =>
        cases hr : partsL σ (k + 1) l with
        | none => rw [hc, hr] at h; cases h
        | some r' =>
          rw [hc, hr] at h
          simp only [Option.some.injEq] at h
          subst h
          rw [List.flatten_cons] at hb
          rcases List.mem_append.1 hb with hb | hb
          · exact ⟨_, List.mem_cons_self, cells_has hc hb hi⟩
          · obtain ⟨p, hp, hh⟩ := partsL_has l (k + 1) r' hr b hb hi
            exact ⟨p, List.mem_cons_of_mem _ hp, hh⟩
    · cases h
section
variable {P : Program} {σ : St} {z : List Value} {T e : TypeId} {size bytes : Nat}
theorem op_bsB {dd : Option Tmp} {ty : TypeId} (id : Oid) (len : Nat) (parts : Array (Nat × Operand)) (E : Elem P T e size bytes z) {r : List (List AV)} (hp : partsL σ 0 parts.toList = some r) (hlen : r.length = len) (hsz : ∀ c ∈ r, c.length = size)
    (hb : len * size ≤ 100000) (hpos : 0 < len) (hid : σ.ob id = .free) {xs : List AV} (hxs : r.flatten = xs) : Stp P dd (.buildSlice T len parts) ty σ ((σ.setOb id (.obj (.box e xs))).put dd (.ref id 0 len)) := by
  intro o hd ho ht
  subst hd; subst hxs
  intro K ι S a w R
  obtain ⟨vs, h1, h2, h3, h4, h5, h6⟩ := partsL_spec R _ _ _ hp
  have hvsz : ∀ v ∈ vs, v.cells.size = size := by
    intro v hv
    obtain ⟨j, hj, rfl⟩ := List.getElem_of_mem hv
    have hjr : j < r.length := by omega
    rw [h3 j _ _ (List.getElem?_eq_getElem hj) (List.getElem?_eq_getElem hjr)]
    exact hsz _ (List.getElem_mem hjr)
  obtain ⟨v', w', hr, H', hbl, hfr, _⟩ := run_bs (P := P) (ρ := a.eval) (SH.start w) len parts ho vs h1 (by omega) hvsz _ rfl h5 hb
  have hrow := H'.get (i := 0) (x := .row v' e size len (vs.flatMap fun v => v.cells.toList)) rfl
  have hxl : r.flatten.length = len * size := by
    have : ∀ (r : List (List AV)), (∀ c ∈ r, c.length = size) → r.flatten.length = r.length * size := by
      intro r
      induction r with
      | nil => simp
      | cons c r ih =>
        intro h
        rw [List.flatten_cons, List.length_append, ih fun c hc => h c (List.mem_cons_of_mem _ hc), h c List.mem_cons_self, List.length_cons, Nat.add_mul, Nat.one_mul, Nat.add_comm]
    rw [this r hsz, hlen]
  rcases hrow.1.2 with ⟨hv, hx0⟩ | ⟨g, cap, cur, hv, hbg, hg, hnc, hcm, hcs, htake⟩
  · omega
  · subst hv
    have hlv : (vs.flatMap fun v => v.cells.toList).length = len * size := by rw [h4, hxl]
    by_cases hcap : cap = len
    · subst hcap
      refine yields_value hr (R.newBoxR hid hbl e size cap cap g hg hbg hnc hcm hcs (Nat.le_of_eq (by rw [hcs, hxl])) (fun j b hb => ?_) (fun b hb i hi => ?_) _)
      · obtain ⟨u, hu, hru⟩ := h6 j b hb
        refine ⟨u, ?_, h5 u (List.mem_of_getElem? hu), hru⟩
        have := congrArg (fun l => l[j]?) htake
        simp only [hu] at this
        rw [List.getElem?_take] at this
        split at this
        · simpa using this
        · cases this
      · obtain ⟨p, hp', hh⟩ := partsL_has _ _ _ hp b hb hi
        exact R.evalHas p.2 hh
    · exfalso
      have h9 := run_bsv (P := P) (ρ := a.eval) (w := w) len parts ho vs h1 (by omega) hvsz _ rfl h5 hb
      rw [hr] at h9
      injection h9 with h9 _
      injection h9 with h9
      injection h9 with _ _ h9
      exact hcap h9
theorem op_mkB {dd : Option Tmp} {ty : TypeId} (id : Oid) (x y : Operand) (E : Elem P T e size bytes z) {kl kc : IntKind} {N M : Int} (hx : σ.eval x = .v (.int kl N)) (hy : σ.eval y = .v (.int kc M)) (n : Nat) (hN : N = (n : Int)) (hM : M = (n : Int)) (hb : n * bytes ≤ 140737488355328)
    (hid : σ.ob id = .free) {xs : List AV} (hxs : (rep n z).map AV.v = xs) : Stp P dd (.makeSlice T x y) ty σ ((σ.setOb id (.obj (.box e xs))).put dd (.ref id 0 n)) := by
  intro o hd ho ht
  subst hd; subst hxs; subst hN; subst hM
  intro K ι S a w R
  obtain ⟨i, zv, hi, hz, hs, hby, hzc⟩ := E.info
  have hm : n ≤ maxLen := by
    have : n * 1 ≤ n * bytes := Nat.mul_le_mul_left _ E.bpos
    unfold maxLen; omega
  have hl := R.eval x
  rw [hx] at hl
  have hc := R.eval y
  rw [hy] at hc
  obtain ⟨w', hr, h1, h2⟩ := run_make_full (P := P) w w.heap.size T e i zv size E.und hi hz hs kl kc n (by rw [hby, Nat.mul_comm]; omega) hm (Nat.le_refl _)
  rw [hzc, ← E.len, madeCells_rep _ _ (by rw [E.len]; exact E.pos), E.len] at h1
  rcases h1.2 with ⟨h, _⟩ | ⟨g, cap, cur, he, hbg, hg, hnc, hcm, hcs, htake⟩
  · cases h
  · simp only [Value.slice.injEq] at he
    obtain ⟨he, _, hcap⟩ := he
    obtain rfl := hcap
    have hgw : w.heap.size = g := by simpa using he
    subst hgw
    have hrun : (execOp a.eval o).run P w = .ok (.value (.slice (some ⟨w.heap.size, 0, none⟩) n n)) w' := by simp [execOp, ho, hl.toV, hc.toV, hr, Result.andThen]
    refine yields_value hrun (R.newBoxR hid (below_grown h2) e size n n w.heap.size hg (Nat.le_refl _) (Nat.le_refl _) hm hcs (Nat.le_of_eq (by simp [length_rep, E.len, hcs])) (fun j b hb => ?_) (fun b hb i hi => ?_) _)
    · simp only [List.getElem?_map] at hb
      obtain ⟨u, hu, rfl⟩ := Option.map_eq_some_iff.1 hb
      have h3 : cur[j]? = some u := by
        have := congrArg (fun l => l[j]?) htake
        simp only [hu] at this
        rw [List.getElem?_take] at this
        split at this
        · simpa using this
        · cases this
      have h4 : u.oneCell' = true := by
        have := List.mem_of_getElem? hu
        simp only [rep, List.mem_flatten, List.mem_replicate] at this
        obtain ⟨m, ⟨_, rfl⟩, hm⟩ := this
        exact E.one u hm
      exact ⟨u, h3, h4, .v⟩
    · obtain ⟨u, _, rfl⟩ := List.mem_map.1 hb
      cases hi
end
end Go.Proofs.Ytkbkmngbenohkaa

namespace Go.Proofs.Ytkbkmngbenohkaa
open Go.RowKit
def isl (l : List Int) : List PV := l.map fun x => .v (.int .i64 x)
@[simp] theorem isl_len (l : List Int) : (isl l).length = l.length := by simp [isl]
theorem isl_get (l : List Int) (k : Nat) (h : k < l.length) : (isl l)[k]? = some (.v (.int .i64 (l.getD k 0))) := by simp [isl, h]
theorem isl_append (a b : List Int) : isl a ++ isl b = isl (a ++ b) := by simp [isl]
theorem isl_take (a : List Int) (k : Nat) : (isl a).take k = isl (a.take k) := by simp [isl]
theorem isl_drop (a : List Int) (k : Nat) : (isl a).drop k = isl (a.drop k) := by simp [isl]
theorem isl_put (a : List Int) (k : Nat) (x : Int) (h : k < a.length) : putL (isl a) k [.v (.int .i64 x)] = isl (a.set k x) := by rw [putL_one _ _ _ (by simpa using h)]; simp [isl, List.map_set]
theorem isl_zeros (n : Nat) : (rep n [Value.int .i64 0]).map PV.v = isl (List.replicate n 0) := by rw [rep_one]; simp [isl]
theorem getD_at {α : Type} (l : List α) (k : Nat) (d : α) (h : k < l.length) : l.getD k d = l[k] := by simp [h]

def bsl (l : List Bool) : List PV := l.map fun x => .v (.bool x)
@[simp] theorem bsl_len (l : List Bool) : (bsl l).length = l.length := by simp [bsl]
def Rng (l : List Int) : Prop := ∀ x ∈ l, -9223372036854775808 ≤ x ∧ x ≤ 9223372036854775807
theorem Rng.at {l : List Int} (h : Rng l) (k : Nat) (hk : k < l.length) : -9223372036854775808 ≤ l.getD k 0 ∧ l.getD k 0 ≤ 9223372036854775807 := by
  rw [getD_at _ _ _ hk]; exact h _ (List.getElem_mem hk)
theorem rng_of (z : List { n : Int // (Lit.int .i64 n).wf = true }) : Rng (z.map (·.1)) := by
  intro x hx
  obtain ⟨y, _, rfl⟩ := List.mem_map.1 hx
  exact fitsI y.2
theorem isl_in {w : World} {n : Nat} {v : Value} {z : List { n : Int // (Lit.int .i64 n).wf = true }} {ι : Oid → Option Blk} (h : Sl w 1 v n (z.map fun y => Value.int .i64 y.1)) : Rep ι (fun g => g < w.heap.size) w (.sl n (isl (z.map (·.1)))) v := by
  have := h.rd
  rw [show (z.map fun y => Value.int .i64 y.1).map PV.v = isl (z.map (·.1)) by simp [isl]] at this
  exact .sl this
end Go.Proofs.Ytkbkmngbenohkaa

namespace Go.Proofs.Ytkbkmngbenohkaa
open Go.RowKit

theorem rnOf_nil : rnOf [] = fun i => i := by funext i; rfl
theorem lv_id {σ : St} {F : Oid → Bool} (a : AV) : Lv (rnOf []) σ F a a := by rw [rnOf_nil]; exact Lv.same a
theorem lv_idE {σ : St} {F : Oid → Bool} {a b : AV} (h : b = a) : Lv (rnOf []) σ F a b := by subst h; exact lv_id _
theorem lvO_id {σ : St} {F : Oid → Bool} (o : Cells) : LvO (rnOf []) σ F o o := by rw [rnOf_nil]; exact LvO.same o
theorem lv_pure {ρ : Oid → Oid} {σ : St} {F : Oid → Bool} : ∀ (a : AV), a.pure = true → Lv ρ σ F a a := by
 have key : ∀ (a : AV), (a.pure = true → Lv ρ σ F a a) := by
  intro a
  induction a using AV.rec (motive_2 := fun l => AV.pures l = true → ∀ (j : Nat) (a : AV), l[j]? = some a → Lv ρ σ F a a) with
  | dead => intro _; exact .dead
  | v x => intro _; exact .v
  | sl n xs => intro _; exact .sl
  | fp o xs => intro _; exact .fp
  | ref id o n => intro h; simp [AV.pure] at h
  | ptr id o => intro h; simp [AV.pure] at h
  | mp id => intro h; simp [AV.pure] at h
  | z => intro _; exact .z
  | agg xs ih =>
   intro h
   simp only [AV.pure] at h
   exact .agg rfl fun j a b ha hb => by rw [ha] at hb; cases hb; exact ih h j a ha
  | fn f xs ys ih ih' =>
   intro h
   simp only [AV.pure, Bool.and_eq_true] at h
   exact .fn rfl (fun j a b ha hb => by rw [ha] at hb; cases hb; exact ih h.1 j a ha) rfl fun j a b ha hb => by rw [ha] at hb; cases hb; exact ih' h.2 j a ha
  | ifc t x ih =>
   intro h
   simp only [AV.pure] at h
   exact .ifc (ih h)
  | tup xs ih =>
   intro h
   simp only [AV.pure] at h
   exact .tup rfl fun j a b ha hb => by rw [ha] at hb; cases hb; exact ih h j a ha
  | nil => rename_i h j a ha; simp at ha
  | cons x l ih ih' =>
   rename_i h j a ha
   simp only [AV.pures, Bool.and_eq_true] at h
   cases j with
   | zero => simp at ha; subst ha; exact ih h.1
   | succ j => exact ih' h.2 j a (by simpa using ha)
 exact key
theorem lvRr {ρ : Oid → Oid} {σ : St} {F : Oid → Bool} {id id' : Oid} {off n m : Nat} (hi : ρ id = id') (h : n = m) : Lv ρ σ F (.ref id off n) (.ref id' off m) := by subst hi; subst h; exact .ref
theorem lvPr {ρ : Oid → Oid} {σ : St} {F : Oid → Bool} {id id' : Oid} {off : Nat} (hi : ρ id = id') : Lv ρ σ F (.ptr id off) (.ptr id' off) := by subst hi; exact .ptr
theorem lvSr {ρ : Oid → Oid} {σ : St} {F : Oid → Bool} {n m : Nat} {xs ys : List PV} (h : n = m) (h' : xs = ys) : Lv ρ σ F (.sl n xs) (.sl m ys) := by subst h; subst h'; exact .sl
theorem obR {ρ : Oid → Oid} {Fz : List Oid} {σ : St} {I : List Oid} {i : Oid} {e : TypeId} {sz : Nat} {xs ys : List PV} (hF : inO (ρ i) Fz = false) (h : σ.ob (ρ i) = .obj (.row e sz ys)) (hinc : (bif inO i I then false else σ.inc (ρ i)) = false) (hx : xs = ys) :
  inO (ρ i) Fz = false ∧ (∃ o2, σ.ob (ρ i) = .obj o2 ∧ LvO (ρ) σ (fun i => inO i Fz) (.row e sz xs) o2) ∧ (bif inO i I then false else σ.inc (ρ i)) = false := ⟨hF, ⟨_, h, .rowE hx.symm⟩, hinc⟩
theorem obB {ρ : Oid → Oid} {Fz : List Oid} {σ : St} {I : List Oid} {i : Oid} {e : TypeId} {xs ys : List AV} (hF : inO (ρ i) Fz = false) (h : σ.ob (ρ i) = .obj (.box e ys)) (hinc : (bif inO i I then false else σ.inc (ρ i)) = false) (hl : xs.length = ys.length)
  (hx : ∀ (j : Nat) (a b : AV), xs[j]? = some a → ys[j]? = some b → Lv (ρ) σ (fun i => inO i Fz) a b) :
  inO (ρ i) Fz = false ∧ (∃ o2, σ.ob (ρ i) = .obj o2 ∧ LvO (ρ) σ (fun i => inO i Fz) (.box e xs) o2) ∧ (bif inO i I then false else σ.inc (ρ i)) = false := ⟨hF, ⟨_, h, .box hl hx⟩, hinc⟩
theorem obE {Fz : List Oid} {σ : St} {I : List Oid} {i : Oid} {o : Cells} (hF : inO (rnOf [] i) Fz = false) (h : σ.ob (rnOf [] i) = .obj o) (hinc : (bif inO i I then false else σ.inc (rnOf [] i)) = false) :
  inO (rnOf [] i) Fz = false ∧ (∃ o2, σ.ob (rnOf [] i) = .obj o2 ∧ LvO (rnOf []) σ (fun i => inO i Fz) o o2) ∧ (bif inO i I then false else σ.inc (rnOf [] i)) = false := ⟨hF, ⟨_, h, lvO_id o⟩, hinc⟩
theorem obM {ρ : Oid → Oid} {Fz : List Oid} {σ : St} {I : List Oid} {i : Oid} {es fs : List MapEntry} {c d : Nat} (hF : inO (ρ i) Fz = false) (h : σ.ob (ρ i) = .obj (.mp fs d)) (hinc : (bif inO i I then false else σ.inc (ρ i)) = false) (hx : es = fs) (hc : c = d) :
  inO (ρ i) Fz = false ∧ (∃ o2, σ.ob (ρ i) = .obj o2 ∧ LvO (ρ) σ (fun i => inO i Fz) (.mp es c) o2) ∧ (bif inO i I then false else σ.inc (ρ i)) = false := ⟨hF, ⟨_, h, by subst hx; subst hc; exact .mp⟩, hinc⟩

theorem Spec.toI {P : Program} {f : FuncId} {args : List AV} {r : AV} {outs : List (Oid × Cells)} (h : Spec P f (inSt args []) (outSt r outs)) : Spec P f (inStI args []) (outStI r outs [] []) := h
theorem Le.mkJ {σ : St} {n : Nat} {slots : List (Nat × AV)} {obs : List (Oid × Cells)} {I Pn : List Oid} (rn : List (Oid × Oid)) (Fz : List Oid) (hn : σ.n = n) (hs : AllLv (rnOf rn) σ (fun i => inO i Fz) slots) (ho : AllLvI (rnOf rn) σ (fun i => inO i Fz) I obs) (hi : AllInc σ Fz) (hp : AllPin (rnOf rn) σ Pn)
  (hb : (slotsWithin (obs.map (·.1)) slots && obsWithin (obs.map (·.1)) obs && nodupO ((obs.map (·.1)).map (rnOf rn)) && subO Pn (obs.map (·.1))) = true) : Le (mkStI n slots obs I Pn) σ := by
 simp only [Bool.and_eq_true] at hb
 exact Le.mkI rn Fz hn hs hb.1.1.1 hb.1.1.2 hb.1.2 hi ho hp hb.2
section
variable {rb : Bool} {P : Program} {Q : Exit → St → Prop} {σ : St}
theorem D_loopL {c : Code} {α : Type} (J : α → Prop) (n : Nat) (sl : List (Nat × AV)) (os : List (Oid × Cells)) (sv : α → List (Nat × AV)) (ov : α → List (Oid × Cells)) (I Pn : List Oid) (μ : α → Nat) (x0 : α) (hJ : J x0) (h0 : Le (mkStI n (sl ++ sv x0) (os ++ ov x0) I Pn) σ)
  (round : ∀ x, J x → D rb P c (thenQ (fun σ' => ∃ y, J y ∧ Le (mkStI n (sl ++ sv y) (os ++ ov y) I Pn) σ' ∧ μ y < μ x) Q) (mkStI n (sl ++ sv x) (os ++ ov x) I Pn)) : D rb P (.loop c) Q σ :=
 D_loopP J (fun x => mkStI n (sl ++ sv x) (os ++ ov x) I Pn) μ x0 hJ h0 round
theorem DL_caseB {ops : Array Oper} {rest : List Oper} {d : Nat} {b : Bool} (h1 : b = true → DL rb P ops Q rest (σ.put (some d) (.v (.bool true)))) (h2 : b = false → DL rb P ops Q rest (σ.put (some d) (.v (.bool false)))) : DL rb P ops Q rest (σ.put (some d) (.v (.bool b))) := by
 cases b
 ·exact h2 rfl
 ·exact h1 rfl
theorem any_caseB {all : List Oper} {W : List Nat} {I : List Oid} {AA : List (List Oid)} {Kont : List Res → Prop} {os : List Oper} {rs : List Res} {b : Bool} (h1 : b = true → AnyOps P all W I AA σ Kont os (rs ++ [(.v (.bool true), [])])) (h2 : b = false → AnyOps P all W I AA σ Kont os (rs ++ [(.v (.bool false), [])])) :
  AnyOps P all W I AA σ Kont os (rs ++ [(.v (.bool b), [])]) := by
 cases b
 ·exact h2 rfl
 ·exact h1 rfl
end
end Go.Proofs.Ytkbkmngbenohkaa

namespace Go.Proofs.Ytkbkmngbenohkaa
open Go.RowKit

class Arr (P : Program) (T : TypeId) (n : outParam Nat) (size : outParam Nat) : Prop where
 out : ∃ e i, P.underlying T = some (.array n e) ∧ P.info? e = some i ∧ i.size = size
theorem Arr.of {P : Program} {T e : TypeId} {n size : Nat} (h1 : P.underlying T = some (.array n e)) (h2 : (P.info? e).map (fun i => i.size) = some size) : Arr P T n size := by
 obtain ⟨i, hi, h⟩ := Option.map_eq_some_iff.1 h2
 exact ⟨e, i, h1, hi, h⟩

section
variable {P : Program} {σ : St} {dd : Option Tmp} {ty T : TypeId} {n size : Nat}
theorem op_ixA (x y : Operand) (E : Arr P T n size) {id : Oid} {of0 : Nat} {oc : Cells} (hx : σ.eval x = .ptr id of0) (hid : σ.ob id = .obj oc)
  {k : IntKind} {I : Int} (hy : σ.eval y = .v (.int k I)) (j : Nat) (hI : I = (j : Int)) (hj : j < n) {off : Nat} (he : of0 + j * size = off) : Stp P dd (.indexAddr T x y) ty σ (σ.put dd (.ptr id off)) := by
 intro o hd ho ht
 subst hd; subst he; subst hI
 obtain ⟨e, inf, hu, hinf, hs⟩ := E.out
 refine step_val fun _ ι S a w R => ?_
 have hi := (hy ▸ R.eval y : Rep ι S w (.v (.int k (j : Int))) (a.eval y)).toV
 obtain ⟨B, g, h1, h2, h3⟩ := R.ptrB hid hx
 refine ⟨.pointer (some ⟨g, of0 + j * size, none⟩), ?_, .ptr (fun B' hB' => ?_) rfl, fun i h => R.evalHas x (by rw [hx]; cases h; exact .ptr)⟩
 ·simp [execOp, ho, Instr.indexAt, h3, hi, asIntOf, run_underlying hu, sizeOf, typeInfo, hinf, hs, hj, Addr.add_lit, Instr.sureAddr]
 ·rw [h1] at hB'
  obtain rfl := Option.some.inj hB'
  exact ⟨g, h2, rfl⟩
theorem repL {K : Ctx} {ι : Oid → Option Blk} {S : Nat → Prop} {a : Act} {w : World} (R : RelI K ι S σ a w) (xs : Array Operand) {avs : List AV} (h : xs.toList.map σ.eval = avs) :
  (xs.map a.eval).size = avs.length ∧ (∀ (j : Nat) (p : AV), avs[j]? = some p → Rep ι S w p ((xs.map a.eval).getD j undef)) ∧ ∀ av ∈ avs, ∀ id, Has id av → σ.ob id ≠ .free := by
 subst h
 refine ⟨by simp, fun j p hp => ?_, fun av hav id hi => ?_⟩
 ·rw [List.getElem?_map] at hp
  obtain ⟨y, hy, rfl⟩ := Option.map_eq_some_iff.1 hp
  have hy' : xs[j]? = some y := by simpa using hy
  have hj := (Array.getElem?_eq_some_iff.1 hy').1
  have : (xs.map a.eval).getD j undef = a.eval y := by
   have h2 := (Array.getElem?_eq_some_iff.1 hy').2
   simp [hj, h2]
  rw [this]; exact R.eval y
 ·obtain ⟨y, _, rfl⟩ := List.mem_map.1 hav
  exact R.evalHas y hi
theorem op_mf {fn : Fn} (first caps : Array Operand) {fs cs : List AV} (hf : first.toList.map σ.eval = fs) (hc : caps.toList.map σ.eval = cs) : Stp P dd (.makeFunc fn first caps) ty σ (σ.put dd (.fn fn fs cs)) := by
 intro o hd ho ht
 subst hd
 refine step_val fun _ ι S a w R => ?_
 obtain ⟨f1, f2, f3⟩ := repL R first hf
 obtain ⟨c1, c2, c3⟩ := repL R caps hc
 refine ⟨.func fn (first.map a.eval) (caps.map a.eval), by simp [execOp, ho, Instr.makeFunc], .fn f1 c1 f2 c2, fun id h => ?_⟩
 cases h with
 | fn1 hm h => exact f3 _ hm id h
 | fn2 hm h => exact c3 _ hm id h

/-! pointers and nil -/
theorem ptr_some {K : Ctx} {ι : Oid → Option Blk} {S : Nat → Prop} {a : Act} {w : World} (R : RelI K ι S σ a w) (x : Operand) (h : (∃ id off oc, σ.eval x = .ptr id off ∧ σ.ob id = .obj oc) ∨ ∃ off xs, σ.eval x = .fp off xs) : ∃ p, a.eval x = .pointer (some p) := by
 rcases h with ⟨id, off, oc, h1, h2⟩ | ⟨off, xs, h1⟩
 ·obtain ⟨B, g, _, _, h3⟩ := R.ptrB h2 h1
  exact ⟨_, h3⟩
 ·have hp := R.eval x
  rw [h1] at hp
  cases hp with
  | fp h =>
   generalize a.eval x = v at h
   cases h
   exact ⟨_, rfl⟩
theorem op_eqN {t t' : TypeId} (x y : Operand) (h : P.underlying t = some (.pointer (P.pointee t))) (hx : (∃ id off oc, σ.eval x = .ptr id off ∧ σ.ob id = .obj oc) ∨ ∃ off xs, σ.eval x = .fp off xs) (hy : σ.eval y = .v (.pointer none)) : Stp P dd (.binOp .eql t x y t') ty σ (σ.put dd (.v (.bool false))) := by
 intro o hd ho ht
 subst hd
 refine step_val fun _ ι S a w R => ⟨_, ?_, .v, fun _ => noHasV⟩
 obtain ⟨p, hp⟩ := ptr_some R x hx
 have h2 := Rep.evV R hy
 have hq := run_eql_pointer_nil w t (some p) h
 clear h hx hy
 generalize a.eval = ρ at hp h2
 simp [execOp, ho, hp, h2, eqGuard, hq]
/-! arrays of two numbers -/
end
end Go.Proofs.Ytkbkmngbenohkaa

namespace Go.Proofs.Ytkbkmngbenohkaa
open Go.RowKit
def psl (l : List (Int × Int)) : List PV := l.flatMap fun p => [.v (.int .i64 p.1), .v (.int .i64 p.2)]
theorem psl_cons (p : Int × Int) (l : List (Int × Int)) : psl (p :: l) = [.v (.int .i64 p.1), .v (.int .i64 p.2)] ++ psl l := rfl
@[simp] theorem psl_len : ∀ (l : List (Int × Int)), (psl l).length = 2 * l.length
 | [] => rfl
 | p :: l => by rw [psl_cons, List.length_append, psl_len l]; simp; omega
theorem psl_append (a b : List (Int × Int)) : psl a ++ psl b = psl (a ++ b) := by simp [psl]
theorem psl_drop : ∀ (l : List (Int × Int)) (k : Nat), (psl l).drop (2 * k) = psl (l.drop k)
 | _, 0 => rfl
 | [], k + 1 => by simp [psl]
 | p :: l, k + 1 => by
  rw [psl_cons, show 2 * (k + 1) = 2 * k + 2 by omega, ← List.drop_drop]
  have : List.drop (2 * k) ([PV.v (.int .i64 p.1), .v (.int .i64 p.2)] ++ psl l) = List.drop (2 * k) (psl (p :: l)) := rfl
  rw [List.drop_drop, Nat.add_comm, ← List.drop_drop]
  show List.drop (2 * k) (psl l) = _
  rw [psl_drop l k]; rfl
theorem psl_at (l : List (Int × Int)) (k : Nat) (h : k < l.length) : ((psl l).drop (k * 2)).take 2 = [.v (.int .i64 (l.getD k (0, 0)).1), .v (.int .i64 (l.getD k (0, 0)).2)] := by
 rw [Nat.mul_comm, psl_drop, List.drop_eq_getElem_cons h, getD_at _ _ _ h]
 rfl
theorem psl_geta (l : List (Int × Int)) (k : Nat) (h : k < l.length) : PV.ups (((psl l).drop (k * 2)).take 2) = [.v (.int .i64 (l.getD k (0, 0)).1), .v (.int .i64 (l.getD k (0, 0)).2)] := by
 rw [psl_at l k h]; rfl
/-! parts of slices -/
theorem argsLv_pures {σ : St} {F : Oid → Bool} (l : List AV) (hp : AV.pures l = true) : ArgsLv σ F l l := by
 refine ⟨rfl, fun j x a hx ha => ?_⟩
 rw [hx] at ha
 cases ha
 have hx' : x.pure = true := by
  induction l generalizing j with
  | nil => simp at hx
  | cons y l ih =>
   simp only [AV.pures, Bool.and_eq_true] at hp
   cases j with
   | zero => simp at hx; subst hx; exact hp.1
   | succ j => exact ih hp.2 j (by simpa using hx)
 exact lv_pure x hx'

theorem Spec.frz {P : Program} {f : FuncId} {σ : St} {e : TypeId} {sz n : Nat} {xs : List PV} (h : Spec P f σ (outSt (.ref (0, 8) 0 n) [((0, 8), .row e sz xs)])) (hl : n * sz = xs.length) : Spec P f σ (outSt (.sl n xs) []) :=
 h.mono (Le.outO (I := []) (Pn := []) [] [(0, 8)] (frz0 rfl rfl hl rfl) rfl rfl rfl ⟨rfl, trivial⟩ trivial)
theorem getD_take {α : Type} (a : List α) (i k : Nat) (d : α) (h : i < k) : (a.take k).getD i d = a.getD i d := by simp [List.getElem?_take, h]
end Go.Proofs.Ytkbkmngbenohkaa

namespace Go.Proofs.Ytkbkmngbenohkaa
open Go.RowKit

section
variable {P : Program} {σ : St} {z : List Value} {T e : TypeId} {size bytes : Nat}
theorem St.setInc_same {σ : St} {id : Oid} {b : Bool} (h : σ.inc id = b) : σ.setInc id b = σ := by
 refine St.eq rfl (fun _ => rfl) (fun _ => rfl) (funext fun i => ?_) rfl
 show (bif oeq i id then b else σ.inc i) = σ.inc i
 cases hb : oeq i id with
 | true => rw [oeq_iff.1 hb, h]; rfl
 | false => rfl
theorem op_apN {dd : Option Tmp} {ty : TypeId} (id' : Oid) (s x : Operand) (E : Elem P T e size bytes z) {id : Oid} {n : Nat} {xs : List PV} (hs : σ.eval s = .ref id 0 n) (hid : σ.ob id = .obj (.row e size xs)) (hl : n * size = xs.length) {m : Nat} {news : List PV} (hx : SrcAV σ (σ.eval x) size m news) (hb : (n + m) * bytes ≤ 140737488355328) (hid' : σ.ob id' = .free)
  (hi : σ.inc id = false) (hi' : σ.inc id' = false) {ys : List PV} (hy : xs ++ news = ys) {k : Nat} (hk : n + m = k) : Stp P dd (.call { callee := .builtin .append, args := #[s, x], argTypes := #[T, T] }) ty σ (((σ.setOb id .gone).setOb id' (.obj (.row e size ys))).put dd (.ref id' 0 k)) := by
 have h := op_ap (P := P) (dd := dd) (ty := ty) id' s x E hs hid hl hx hb hid' hy hk
 rwa [hi, St.setInc_same (by exact hi')] at h

theorem op_lenB {dd : Option Tmp} {ty : TypeId} {T e e' : TypeId} {size bytes : Nat} {z : List Value} (x : Operand) (E : Elem P T e size bytes z) {id : Oid} {off n : Nat} {xs : List AV} (hx : σ.eval x = .ref id off n) (hid : σ.ob id = .obj (.box e' xs)) : Stp P dd (.call { callee := .builtin .len, args := #[x], argTypes := #[T] }) ty σ (σ.put dd (.v (.int .i64 (n : Int)))) := by
 intro o hd ho ht
 subst hd
 refine step_val fun _ ι S a w R => ?_
 obtain ⟨B, g, h1, hg, _, _⟩ := R.ob id _ hid
 have hr := R.eval x
 rw [hx] at hr
 generalize hu : a.eval x = u at hr
 cases hr with
 | ref h _ =>
  obtain ⟨c, _, _, h5⟩ := h B h1
  rw [hg] at h5
  obtain ⟨o', rfl, _⟩ := h5
  exact ⟨_, by simp [execOp, ho, resolve, invoke, builtin, Builtin.len_, run_underlying E.und, hu, goInt], .v, fun _ => noHasV⟩
end

/-! ### Bundles -/

structure Bun where
 box : Oid
 gr : Bool
 E : TypeId
 e : TypeId
 fam : Nat
 rows : List (List PV)

def Bun.cell (b : Bun) (j : Nat) : AV := .ref (b.fam, j) 0 (b.rows.getD j []).length
def Bun.cells (b : Bun) : List AV := (List.range b.rows.length).map b.cell
def Bun.outer (b : Bun) (cs : List AV) : Cells := bif b.gr then .rowA b.E 1 cs else .box b.E cs
def Bun.ob (b : Bun) (id : Oid) : Slot :=
 bif oeq id b.box then .obj (b.outer b.cells) else bif Nat.beq id.1 b.fam && Nat.blt id.2 b.rows.length then .obj (.row b.e 1 (b.rows.getD id.2 [])) else .free
def orFree : Slot → Slot → Slot
 | .free, s => s
 | s, _ => s
def mkStB (n : Nat) (l : List (Nat × AV)) (obs : List (Oid × Cells)) (b : Bun) (I Pn : List Oid) : St := ⟨n, frOf l, fun id => orFree (obOf obs id) (b.ob id), fun i => inO i I, pinOf Pn⟩

theorem Bun.cells_len (b : Bun) : b.cells.length = b.rows.length := by simp [Bun.cells]
theorem Bun.cells_get (b : Bun) {j : Nat} (hj : j < b.rows.length) : b.cells[j]? = some (b.cell j) := by simp [Bun.cells, hj]
theorem bun_cell {b : Bun} {cs : List AV} {j n : Nat} {f : Nat} (hc : cs = b.cells) (hj : j < b.rows.length) (hn : (b.rows.getD j []).length = n) (hf : b.fam = f) : cs[j]? = some (.ref (f, j) 0 n) := by
 subst hc; subst hn; subst hf
 exact b.cells_get hj
theorem blt_iff {a b : Nat} : Nat.blt a b = true ↔ a < b := by
 simp only [Nat.blt, Nat.ble_eq]; omega
theorem Bun.ob_mem {b : Bun} (hb : b.box.1 ≠ b.fam) {j : Nat} (hj : j < b.rows.length) : b.ob (b.fam, j) = .obj (.row b.e 1 (b.rows.getD j [])) := by
 have h1 : oeq (b.fam, j) b.box = false := oeq_ne fun e => hb (by rw [← e])
 have h2 : Nat.blt j b.rows.length = true := blt_iff.2 hj
 simp [Bun.ob, h1, h2]
theorem bun_row {b : Bun} {s : Slot} {e : TypeId} {j : Nat} {xs : List PV} (hs : s = b.ob (b.fam, j)) (hb : Nat.beq b.box.1 b.fam = false) (he : b.e = e) (hj : j < b.rows.length) (hx : b.rows.getD j [] = xs) : s = .obj (.row e 1 xs) := by
 subst hs; subst he; subst hx
 exact Bun.ob_mem (fun h => by rw [h] at hb; simp at hb) hj
theorem bun_other {j i : Nat} {f : Nat} {s x : Slot} (h : j ≠ i) : (bif oeq (f, j) (f, i) then s else x) = x := by
 rw [oeq_ne fun e => h (Prod.mk.inj e).2]; rfl
theorem bun_self {i : Nat} {f : Nat} {s x : Slot} : (bif oeq (f, i) (f, i) then s else x) = s := by rw [oeq_self]; rfl

def famFree (f : Nat) : List Oid → Bool
 | [] => true
 | i :: l => !(Nat.beq i.1 f) && famFree f l
theorem famFree_mem {f : Nat} {i : Oid} : ∀ {l : List Oid}, famFree f l = true → i ∈ l → i.1 ≠ f
 | [], _, h => by simp at h
 | x :: l, hl, hm => by
  simp only [famFree, Bool.and_eq_true, Bool.not_eq_true'] at hl
  rcases List.mem_cons.1 hm with h | hm
  ·subst h
   intro e
   rw [e] at hl
   simp at hl
  ·exact famFree_mem hl.2 hm
def rnB (f i : Nat) (T : Oid) (rn : List (Oid × Oid)) : Oid → Oid := fun id => bif oeq id (f, i) then T else rnOf rn id
theorem rnOf_fam {f : Nat} {j : Nat} : ∀ {rn : List (Oid × Oid)}, famFree f (rn.map (·.1)) = true → rnOf rn (f, j) = (f, j)
 | [], _ => rfl
 | (k, x) :: l, h => by
  simp only [List.map_cons, famFree, Bool.and_eq_true, Bool.not_eq_true'] at h
  have : oeq (f, j) k = false := oeq_ne fun e => by
   have h1 := h.1
   rw [← e] at h1
   simp at h1
  simp only [rnOf, this, cond_false]
  exact rnOf_fam h.2

theorem Le.genB {σ : St} {n : Nat} {slots : List (Nat × AV)} {obs : List (Oid × Cells)} {b : Bun} {I Pn : List Oid} (i : Nat) (T : Oid) (rn : List (Oid × Oid)) (Fz : List Oid) (hn : σ.n = n)
  (hs : AllLv (rnB b.fam i T rn) σ (fun i => inO i Fz) slots) (ho : AllLvI (rnB b.fam i T rn) σ (fun i => inO i Fz) I obs) (hi : AllInc σ Fz) (hp : AllPin (rnB b.fam i T rn) σ Pn)
  (hT : T = (b.fam, i) ∨ Nat.beq T.1 b.fam = false)
  (hb : (slotsWithin (b.box :: obs.map (·.1)) slots && obsWithin (b.box :: obs.map (·.1)) obs && nodupO (T :: (b.box :: obs.map (·.1)).map (rnOf rn)) && nodupO (b.box :: obs.map (·.1)) && subO Pn (obs.map (·.1)) && famFree b.fam (b.box :: obs.map (·.1)) && famFree b.fam ((b.box :: obs.map (·.1)).map (rnOf rn)) && famFree b.fam (rn.map (·.1)) && famFree b.fam I && famFree b.fam Fz && !(inO T Fz) && !(inO (rnOf rn b.box) Fz) && !(inO b.box I)) = true)
  (hbx : ∃ cs, σ.ob (rnOf rn b.box) = .obj (b.outer cs) ∧ cs.length = b.rows.length ∧ ∀ j a, cs[j]? = some a → Lv (rnB b.fam i T rn) σ (fun i => inO i Fz) (b.cell j) a) (hbi : σ.inc (rnOf rn b.box) = false)
  (hm : ∀ j, j < b.rows.length → j ≠ i → (∃ ys, σ.ob (b.fam, j) = .obj (.row b.e 1 (b.rows.getD j [] ++ ys))) ∧ σ.inc (b.fam, j) = false)
  (hmi : i < b.rows.length → (∃ ys, σ.ob T = .obj (.row b.e 1 (b.rows.getD i [] ++ ys))) ∧ σ.inc T = false) : Le (mkStB n slots obs b I Pn) σ := by
 simp only [Bool.and_eq_true, Bool.not_eq_true'] at hb
 obtain ⟨⟨⟨⟨⟨⟨⟨⟨⟨⟨⟨⟨b1, b2⟩, b3⟩, b3'⟩, b4⟩, b5⟩, b6⟩, b7⟩, b8⟩, b9⟩, b10⟩, b11⟩, b12⟩ := hb
 have hbf : b.box.1 ≠ b.fam := famFree_mem b5 List.mem_cons_self
 have hc0 : ∀ c : Oid, c.1 ≠ b.fam → rnB b.fam i T rn c = rnOf rn c := fun c hc => by
  simp only [rnB, oeq_ne (fun e => hc (by rw [e]) : c ≠ (b.fam, i)), cond_false]
 have hmi' : rnB b.fam i T rn (b.fam, i) = T := by simp only [rnB, oeq_self, cond_true]
 have hmj : ∀ j, j ≠ i → rnB b.fam i T rn (b.fam, j) = (b.fam, j) := fun j hj => by
  simp only [rnB, oeq_ne (fun e => hj (Prod.mk.inj e).2 : (b.fam, j) ≠ (b.fam, i)), cond_false]
  exact rnOf_fam b7
 -- what stands at a name
 have hob : ∀ id o, (mkStB n slots obs b I Pn).ob id = .obj o → (obOf obs id = .obj o ∧ id ∈ obs.map (·.1)) ∨ (id = b.box ∧ o = b.outer b.cells) ∨ ∃ j, id = (b.fam, j) ∧ j < b.rows.length ∧ o = .row b.e 1 (b.rows.getD j []) := by
  intro id o h
  simp only [mkStB] at h
  cases hx : obOf obs id with
  | obj o' => rw [hx] at h; exact .inl ⟨h, List.mem_map_of_mem (f := (·.1)) (obOf_mem hx)⟩
  | gone => rw [hx] at h; cases h
  | free =>
   rw [hx] at h
   replace h : b.ob id = .obj o := h
   simp only [Bun.ob] at h
   cases hq : oeq id b.box with
   | true => rw [hq] at h; exact .inr (.inl ⟨oeq_iff.1 hq, (Slot.obj.inj h).symm⟩)
   | false =>
    rw [hq] at h
    cases hr : (Nat.beq id.1 b.fam && Nat.blt id.2 b.rows.length) with
    | false => rw [hr] at h; cases h
    | true =>
     rw [hr] at h
     simp only [Bool.and_eq_true] at hr
     exact .inr (.inr ⟨id.2, by rw [← Nat.eq_of_beq_eq_true hr.1], blt_iff.1 hr.2, (Slot.obj.inj h).symm⟩)
 have hne : ∀ id, id ∈ b.box :: obs.map (·.1) → (mkStB n slots obs b I Pn).ob id ≠ .free := by
  intro id h
  simp only [mkStB]
  rcases List.mem_cons.1 h with h | h
  ·subst h
   cases hx : obOf obs b.box with
   | obj o' => intro h; cases h
   | gone => intro h; cases h
   | free =>
    show b.ob b.box ≠ .free
    simp [Bun.ob, oeq_self]
  ·have := obOf_ne h
   cases hx : obOf obs id with
   | obj o' => intro h; cases h
   | gone => intro h; cases h
   | free => exact absurd hx this
 have hnf : ∀ j, j < b.rows.length → (mkStB n slots obs b I Pn).ob (b.fam, j) ≠ .free := by
  intro j hj
  simp only [mkStB]
  cases hx : obOf obs (b.fam, j) with
  | obj o' => intro h; cases h
  | gone => intro h; cases h
  | free => show b.ob (b.fam, j) ≠ .free; rw [Bun.ob_mem hbf hj]; intro h; cases h
 have hcon : ∀ id, id ∈ obs.map (·.1) → id.1 ≠ b.fam := fun id h => famFree_mem b5 (List.mem_cons_of_mem _ h)
 have hFm : ∀ j, inO (b.fam, j) Fz = false := fun j => by
  cases h : inO (b.fam, j) Fz with
  | false => rfl
  | true => exact absurd rfl (famFree_mem b9 (inO_iff.1 h))
 have hIm : ∀ j, inO (b.fam, j) I = false := fun j => by
  cases h : inO (b.fam, j) I with
  | false => rfl
  | true => exact absurd rfl (famFree_mem b8 (inO_iff.1 h))
 have hnd := nodupO_iff b3
 rw [List.nodup_cons] at hnd
 have hTn : ∀ c, c ∈ b.box :: obs.map (·.1) → rnOf rn c ≠ T := fun c hc e => hnd.1 (e ▸ List.mem_map_of_mem hc)
 have hcf : ∀ c, c ∈ b.box :: obs.map (·.1) → (rnOf rn c).1 ≠ b.fam := fun c hc => famFree_mem b6 (List.mem_map_of_mem hc)
 have himg : ∀ id o, (mkStB n slots obs b I Pn).ob id = .obj o → (id ∈ b.box :: obs.map (·.1) ∧ rnB b.fam i T rn id = rnOf rn id) ∨ (id = (b.fam, i) ∧ rnB b.fam i T rn id = T) ∨ ∃ j, j ≠ i ∧ id = (b.fam, j) ∧ rnB b.fam i T rn id = (b.fam, j) := by
  intro id o h
  rcases hob id o h with ⟨_, h⟩ | ⟨h, _⟩ | ⟨j, h, hj, _⟩
  ·exact .inl ⟨List.mem_cons_of_mem _ h, hc0 _ (hcon _ h)⟩
  ·subst h; exact .inl ⟨List.mem_cons_self, hc0 _ hbf⟩
  ·subst h
   by_cases hji : j = i
   ·subst hji; exact .inr (.inl ⟨rfl, hmi'⟩)
   ·exact .inr (.inr ⟨j, hji, rfl, hmj j hji⟩)
 have hTj : ∀ j, j ≠ i → T ≠ (b.fam, j) := by
  intro j hj e
  rcases hT with h | h
  ·rw [h] at e; exact hj (Prod.mk.inj e).2.symm
  ·rw [e] at h; simp at h
 refine Le.of (rnB b.fam i T rn) (fun i => inO i Fz) hn.symm (fun t _ => frOf_lv hs t) (fun id o h => ?_) (fun id id' o o' h h' he => ?_) (fun id h => ?_) (fun id o h hf => ?_) (fun t id h => hne id (slots_has b1 h)) (fun id' o id h hh => ?_) (fun id h o hpn _ => ?_) (fun id hf => ?_)
 ·rcases hob id o h with ⟨h, _⟩ | ⟨h, h'⟩ | ⟨j, h, hj, h'⟩
  ·exact ⟨(allLvI_mem ho (obOf_mem h)).1, (allLvI_mem ho (obOf_mem h)).2.1⟩
  ·subst h; subst h'
   rw [hc0 _ hbf]
   obtain ⟨cs, c1, c2, c3⟩ := hbx
   refine ⟨b11, _, c1, ?_⟩
   have key : ∀ (j : Nat) (a d : AV), b.cells[j]? = some a → cs[j]? = some d → Lv (rnB b.fam i T rn) σ (fun i => inO i Fz) a d := by
    intro j a d ha hd
    have hj : j < b.rows.length := by rw [← b.cells_len]; exact (List.getElem?_eq_some_iff.1 ha).1
    rw [b.cells_get hj] at ha
    obtain rfl := Option.some.inj ha
    exact c3 j d hd
   unfold Bun.outer
   cases b.gr
   ·exact .box (by rw [b.cells_len, c2]) key
   ·exact .rowA (by rw [b.cells_len, c2]) key
  ·subst h; subst h'
   by_cases hji : j = i
   ·subst hji
    rw [hmi']
    obtain ⟨⟨ys, h1⟩, _⟩ := hmi hj
    exact ⟨b10, _, h1, .row rfl⟩
   ·rw [hmj j hji]
    obtain ⟨⟨ys, h1⟩, _⟩ := hm j hj hji
    exact ⟨hFm j, _, h1, .row rfl⟩
 ·have hcc := nodupO_iff b3'
  rcases himg id o h with ⟨m1, m2⟩ | ⟨m1, m2⟩ | ⟨j, m0, m1, m2⟩ <;> rcases himg id' o' h' with ⟨n1, n2⟩ | ⟨n1, n2⟩ | ⟨j', n0, n1, n2⟩ <;> rw [m2, n2] at he
  ·exact inj_of_nodup (rnOf rn) hnd.2 m1 n1 he
  ·exact absurd he (hTn id m1)
  ·exact absurd (by rw [he]) (hcf id m1)
  ·exact absurd he.symm (hTn id' n1)
  ·rw [m1, n1]
  ·exact absurd he (hTj j' n0)
  ·exact absurd (by rw [← he]) (hcf id' n1)
  ·exact absurd he.symm (hTj j m0)
  ·rw [m1, n1, he]
 ·exact allInc_mem hi (inO_iff.1 h)
 ·rcases hob id o h with ⟨h, _⟩ | ⟨h, _⟩ | ⟨j, h, hj, _⟩
  ·have := (allLvI_mem ho (obOf_mem h)).2.2
   simp only [mkStB] at hf
   rw [hf] at this
   exact this
  ·subst h; rw [hc0 _ hbf]; exact hbi
  ·subst h
   by_cases hji : j = i
   ·subst hji; rw [hmi']; exact (hmi hj).2
   ·rw [hmj j hji]; exact (hm j hj hji).2
 ·rcases hob id' o h with ⟨h, _⟩ | ⟨_, h'⟩ | ⟨j, _, hj, h'⟩
  ·exact hne id (obs_has b2 (obOf_mem h) hh)
  ·subst h'
   have : ∃ a ∈ b.cells, Has id a := by
    unfold Bun.outer at hh
    cases hg : b.gr <;> rw [hg] at hh <;> exact hh
   obtain ⟨a, ha, hi2⟩ := this
   simp only [Bun.cells, List.mem_map, List.mem_range] at ha
   obtain ⟨j, hj, rfl⟩ := ha
   cases hi2
   exact hnf j hj
  ·subst h'; exact hh.elim
 ·simp only [mkStB, pinOf] at hpn
  cases hb : inO id Pn with
  | true => rw [hb] at hpn; obtain rfl := Option.some.inj hpn; exact allPin_mem hp (inO_iff.1 hb)
  | false => rw [hb] at hpn; cases hpn
 ·simp only [mkStB, pinOf]
  cases hb : inO id Pn with
  | true =>
   exact absurd hf (hne id (List.mem_cons_of_mem _ (subO_mem b4 (inO_iff.1 hb))))
  | false => rfl
end Go.Proofs.Ytkbkmngbenohkaa

namespace Go.Proofs.Ytkbkmngbenohkaa
open Go.RowKit

def okB (slots : List (Nat × AV)) (obs : List (Oid × Cells)) (box : Oid) (fam : Nat) (T : Oid) (rn : List (Oid × Oid)) (Fz I Pn : List Oid) : Bool :=
 (slotsWithin (box :: obs.map (·.1)) slots && obsWithin (box :: obs.map (·.1)) obs && nodupO (T :: (box :: obs.map (·.1)).map (rnOf rn)) && nodupO (box :: obs.map (·.1)) && subO Pn (obs.map (·.1)) && famFree fam (box :: obs.map (·.1)) && famFree fam ((box :: obs.map (·.1)).map (rnOf rn)) && famFree fam (rn.map (·.1)) && famFree fam I && famFree fam Fz && !(inO T Fz) && !(inO (rnOf rn box) Fz) && !(inO box I))

theorem getD_set_eq {α : Type} {l : List α} {i : Nat} {x d : α} (h : i < l.length) : (l.set i x).getD i d = x := by simp [List.getD_eq_getElem?_getD, h]
theorem getD_set_ne' {α : Type} {l : List α} {i j : Nat} {x d : α} (h : j ≠ i) : (l.set i x).getD j d = l.getD j d := by
 simp [List.getD_eq_getElem?_getD, List.getElem?_set_ne (Ne.symm h)]
section
variable {σ : St} {n : Nat} {slots : List (Nat × AV)} {obs : List (Oid × Cells)} {I Pn : List Oid} {bx bx0 : Oid} {gr : Bool} {E e : TypeId} {fam : Nat} {rows : List (List PV)}

theorem rnB_fam {i j : Nat} {T : Oid} {rn : List (Oid × Oid)} (h : famFree fam (rn.map (·.1)) = true) (hj : j ≠ i) : rnB fam i T rn (fam, j) = (fam, j) := by
 simp only [rnB, oeq_ne (fun e => hj (Prod.mk.inj e).2 : (fam, j) ≠ (fam, i)), cond_false]
 exact rnOf_fam h
theorem rnB_self {i : Nat} {T : Oid} {rn : List (Oid × Oid)} : rnB fam i T rn (fam, i) = T := by simp only [rnB, oeq_self, cond_true]

theorem okB_rn {T : Oid} {rn : List (Oid × Oid)} {Fz : List Oid} (h : okB slots obs bx fam T rn Fz I Pn = true) : famFree fam (rn.map (·.1)) = true := by
 simp only [okB, Bool.and_eq_true] at h
 exact h.1.1.1.1.1.2
theorem Le.keepB {rows' : List (List PV)} (rn : List (Oid × Oid)) (Fz : List Oid) (hn : σ.n = n)
  (hs : AllLv (rnB fam 0 (fam, 0) rn) σ (fun i => inO i Fz) slots) (ho : AllLvI (rnB fam 0 (fam, 0) rn) σ (fun i => inO i Fz) I obs) (hi : AllInc σ Fz) (hp : AllPin (rnB fam 0 (fam, 0) rn) σ Pn)
  (hb : okB slots obs bx fam (fam, 0) rn Fz I Pn = true)
  (hr : rows' = rows)
  (hbx : σ.ob (rnOf rn bx) = .obj ((⟨bx0, gr, E, e, fam, rows⟩ : Bun).outer (⟨bx0, gr, E, e, fam, rows⟩ : Bun).cells)) (hbi : σ.inc (rnOf rn bx) = false)
  (hfam : ∀ j, σ.ob (fam, j) = (⟨bx0, gr, E, e, fam, rows⟩ : Bun).ob (fam, j)) (h0 : Nat.beq bx0.1 fam = false) (hinc : ∀ j, σ.inc (fam, j) = false) : Le (mkStB n slots obs ⟨bx, gr, E, e, fam, rows'⟩ I Pn) σ := by
 subst hr
 have h0' : bx0.1 ≠ fam := fun h => by rw [h] at h0; simp at h0
 have hall : ∀ j, rnB fam 0 (fam, 0) rn (fam, j) = (fam, j) := fun j => by
  by_cases h : j = 0
  ·subst h; exact rnB_self
  ·exact rnB_fam (okB_rn hb) h
 have hm : ∀ j, j < rows'.length → (∃ ys, σ.ob (fam, j) = .obj (.row e 1 (rows'.getD j [] ++ ys))) ∧ σ.inc (fam, j) = false := fun j hj =>
  ⟨⟨[], by rw [hfam j, List.append_nil]; exact Bun.ob_mem (b := ⟨bx0, gr, E, e, fam, rows'⟩) h0' hj⟩, hinc j⟩
 refine Le.genB 0 (fam, 0) rn Fz hn hs ho hi hp (.inl rfl) hb ⟨_, hbx, Bun.cells_len _, fun j a ha => ?_⟩ hbi (fun j hj _ => hm j hj) fun h => hm 0 h
 have hj : j < rows'.length := by
  have := (List.getElem?_eq_some_iff.1 ha).1
  rwa [Bun.cells_len] at this
 rw [Bun.cells_get _ hj] at ha
 obtain rfl := Option.some.inj ha
 exact lvRr (hall j) rfl
theorem Le.setB {r : List PV} {rows' : List (List PV)} {m : Nat} (i : Nat) (T : Oid) (rn : List (Oid × Oid)) (Fz : List Oid) (hn : σ.n = n)
  (hs : AllLv (rnB fam i T rn) σ (fun i => inO i Fz) slots) (ho : AllLvI (rnB fam i T rn) σ (fun i => inO i Fz) I obs) (hi : AllInc σ Fz) (hp : AllPin (rnB fam i T rn) σ Pn)
  (hT : Nat.beq T.1 fam = false) (hb : okB slots obs bx fam T rn Fz I Pn = true)
  (hr : rows' = rows.set i r) (hm : r.length = m)
  (hbx : σ.ob (rnOf rn bx) = .obj ((⟨bx0, gr, E, e, fam, rows⟩ : Bun).outer ((⟨bx0, gr, E, e, fam, rows⟩ : Bun).cells.set i (.ref T 0 m)))) (hbi : σ.inc (rnOf rn bx) = false)
  (hob : σ.ob T = .obj (.row e 1 r)) (hti : σ.inc T = false)
  (hfam : ∀ j, j ≠ i → σ.ob (fam, j) = (⟨bx0, gr, E, e, fam, rows⟩ : Bun).ob (fam, j)) (h0 : Nat.beq bx0.1 fam = false) (hinc : ∀ j, σ.inc (fam, j) = false) : Le (mkStB n slots obs ⟨bx, gr, E, e, fam, rows'⟩ I Pn) σ := by
 subst hr; subst hm
 have h0' : bx0.1 ≠ fam := fun h => by rw [h] at h0; simp at h0
 refine Le.genB i T rn Fz hn hs ho hi hp (.inr hT) hb ⟨_, hbx, by rw [List.length_set, Bun.cells_len]; simp, fun j a ha => ?_⟩ hbi (fun j hj hji => ⟨⟨[], ?_⟩, hinc j⟩) fun h => ⟨⟨[], ?_⟩, hti⟩
 ·have hj : j < rows.length := by
   have := (List.getElem?_eq_some_iff.1 ha).1
   rwa [List.length_set, Bun.cells_len] at this
  by_cases hji : j = i
  ·subst hji
   rw [List.getElem?_set_self (by rw [Bun.cells_len]; exact hj)] at ha
   obtain rfl := Option.some.inj ha
   exact lvRr rnB_self (by show ((rows.set j r).getD j []).length = _; rw [getD_set_eq hj])
  ·rw [List.getElem?_set_ne (Ne.symm hji), Bun.cells_get _ hj] at ha
   obtain rfl := Option.some.inj ha
   exact lvRr (rnB_fam (okB_rn hb) hji) (by show ((rows.set i r).getD j []).length = _; rw [getD_set_ne' hji])
 ·simp only [List.length_set] at hj
  rw [hfam j hji, List.append_nil]
  show _ = Slot.obj (.row e 1 ((rows.set i r).getD j []))
  rw [getD_set_ne' hji]
  exact Bun.ob_mem (b := ⟨bx0, gr, E, e, fam, rows⟩) h0' hj
 ·simp only [List.length_set] at h
  show σ.ob T = Slot.obj (.row e 1 ((rows.set i r).getD i [] ++ []))
  rw [getD_set_eq h, List.append_nil]
  exact hob
/-! new bundles, and ones that are only read from here on -/
def famOb (f : Nat) (e : TypeId) (k : Nat) (bx : Oid) (o : Slot) (ob : Oid → Slot) : Oid → Slot := fun id =>
 bif oeq id bx then o else bif Nat.beq id.1 f && Nat.blt id.2 k then .obj (.row e 1 []) else ob id
theorem Le.newB0 (f : Nat) (e : TypeId) {ib : Oid} {E : TypeId} {k : Nat} (hib : σ.ob ib = .obj (.box E (List.replicate k (.v (.slice none 0 0))))) (hbf : Nat.beq ib.1 f = false) (hfr : ∀ j, σ.ob (f, j) = .free) (hinc : ∀ j, σ.inc (f, j) = false) :
  Le { σ with ob := famOb f e k ib (.obj (.box E ((List.range k).map fun j => .ref (f, j) 0 0))) σ.ob } σ := by
 intro K ι S a w R
 have hne : ib.1 ≠ f := fun h => by rw [h] at hbf; simp at hbf
 let mem : Oid → Prop := fun id => id.1 = f ∧ id.2 < k
 have hmem : ∀ id, (Nat.beq id.1 f && Nat.blt id.2 k) = true ↔ mem id := fun id => by
  rw [Bool.and_eq_true, blt_iff]
  exact ⟨fun h => ⟨Nat.eq_of_beq_eq_true h.1, h.2⟩, fun h => ⟨by rw [h.1]; exact Nat.beq_refl f, h.2⟩⟩
 have hmfree : ∀ id, mem id → σ.ob id = .free := fun id h => by
  have := hfr id.2
  rwa [show (f, id.2) = id from by rw [← h.1]] at this
 have hmb : ∀ id, mem id → id ≠ ib := fun id h e => hne (by rw [← e]; exact h.1)
 let ι' : Oid → Option Blk := fun id => bif Nat.beq id.1 f && Nat.blt id.2 k then some ⟨none, 0, 1⟩ else ι id
 have hι1 : ∀ id, mem id → ι' id = some ⟨none, 0, 1⟩ := fun id h => by simp only [ι', (hmem id).2 h, cond_true]
 have hι2 : ∀ id, ¬ mem id → ι' id = ι id := fun id h => by
  cases hb : (Nat.beq id.1 f && Nat.blt id.2 k) with
  | true => exact absurd ((hmem id).1 hb) h
  | false => simp only [ι', hb, cond_false]
 have hob1 : famOb f e k ib (.obj (.box E ((List.range k).map fun j => .ref (f, j) 0 0))) σ.ob ib = .obj (.box E ((List.range k).map fun j => .ref (f, j) 0 0)) := by simp only [famOb, oeq_self, cond_true]
 have hob2 : ∀ id, mem id → famOb f e k ib (.obj (.box E ((List.range k).map fun j => .ref (f, j) 0 0))) σ.ob id = .obj (.row e 1 []) := fun id h => by
  simp only [famOb, oeq_ne (hmb id h), cond_false, (hmem id).2 h, cond_true]
 have hob3 : ∀ id, id ≠ ib → ¬ mem id → famOb f e k ib (.obj (.box E ((List.range k).map fun j => .ref (f, j) 0 0))) σ.ob id = σ.ob id := fun id h h' => by
  cases hb : (Nat.beq id.1 f && Nat.blt id.2 k) with
  | true => exact absurd ((hmem id).1 hb) h'
  | false => simp only [famOb, oeq_ne h, cond_false, hb]
 obtain ⟨B, g, h1, h2, h3, h4⟩ := R.ob ib _ hib
 have hbm : ¬ mem ib := fun h => hmb ib h rfl
 refine ⟨ι', S, R.gen (ob' := famOb f e k ib (.obj (.box E ((List.range k).map fun j => .ref (f, j) 0 0))) σ.ob) (inc' := σ.inc) (fun id => id = ib ∨ mem id) ((Keeps.refl (fun _ => False) w).mono fun g h => h.elim) (fun id h => hι2 id fun h' => h (.inr h')) (fun id h => hob3 id (fun h' => h (.inl h')) fun h' => h (.inr h')) (fun _ _ => rfl)
  (fun id h => ?_) (fun _ h => h) (fun _ h => .inl h) R.Slt (fun id B' hM hB => ?_) (fun id o hM ho => ?_) (fun id B' hM hB => ?_) (fun id id' B1 B2 g hM hB1 hB2 hg1 hg2 => ?_) (fun id B' g hM hB hg => ?_) (fun id h o hM hp ho => ?_)⟩
 ·by_cases h5 : id = ib
  ·subst h5; rw [hob1] at h; cases h
  ·by_cases h6 : mem id
   ·rw [hob2 id h6] at h; cases h
   ·rwa [hob3 id h5 h6] at h
 ·rcases hM with h | h
  ·subst h; rw [hι2 _ hbm] at hB; exact .inl hB
  ·exact .inr (hmfree id h)
 ·rcases hM with h | h
  ·subst h
   rw [hob1] at ho
   obtain rfl := Slot.obj.inj ho
   refine ⟨⟨B, g, by rw [hι2 _ hbm]; exact h1, h2, by simpa using h3, ?_⟩, fun id' hi => ?_⟩
   ·simp only [List.length_map, List.length_range]
    simp only [List.length_replicate] at h4
    refine h4.next (fun _ _ => rfl) fun j u hu b hb => ?_
    rw [List.getElem?_map] at hb
    obtain ⟨q, hq, rfl⟩ := Option.map_eq_some_iff.1 hb
    have hj : j < k := by have := (List.getElem?_eq_some_iff.1 hq).1; simpa using this
    rw [List.getElem?_range hj] at hq
    obtain rfl := Option.some.inj hq
    have := (hu (.v (.slice none 0 0)) (by simp [hj])).toV
    subst this
    refine .ref (fun B' hB => ?_) rfl
    rw [hι1 (f, j) ⟨rfl, hj⟩] at hB
    obtain rfl := Option.some.inj hB
    exact ⟨0, Nat.le_refl _, by unfold maxLen; omega, rfl, rfl, rfl⟩
   ·obtain ⟨b, hb, hi⟩ := hi
    simp only [List.mem_map, List.mem_range] at hb
    obtain ⟨j, hj, rfl⟩ := hb
    cases hi
    rw [hob2 (f, j) ⟨rfl, hj⟩]; intro h; cases h
  ·rw [hob2 id h] at ho
   obtain rfl := Slot.obj.inj ho
   exact ⟨⟨_, hι1 id h, rfl, .inl ⟨rfl, rfl, rfl⟩⟩, fun id' hi => hi.elim⟩
 ·rcases hM with h | h
  ·subst h; exact ⟨_, hob1⟩
  ·exact ⟨_, hob2 id h⟩
 ·rcases hM with h | h
  ·subst h
   rw [hι2 _ hbm] at hB1
   by_cases h6 : mem id'
   ·rw [hι1 id' h6] at hB2; obtain rfl := Option.some.inj hB2; cases hg2
   ·rw [hι2 id' h6] at hB2; exact R.inj _ _ _ _ _ hB1 hB2 hg1 hg2
  ·rw [hι1 id h] at hB1; obtain rfl := Option.some.inj hB1; cases hg1
 ·rcases hM with h | h
  ·subst h; rw [hι2 _ hbm] at hB; exact R.sep _ _ _ hB hg
  ·rw [hι1 id h] at hB; obtain rfl := Option.some.inj hB; cases hg
 ·rcases hM with h5 | h5
  ·subst h5; exact ⟨hι2 _ hbm, _, hib⟩
  ·rw [R.pf id (hmfree id h5)] at hp; cases hp
theorem newB_cells {k : Nat} {f : Nat} {bx : Oid} {gr : Bool} {E e : TypeId} : ((List.range k).map fun j => AV.ref (f, j) 0 0) = (⟨bx, gr, E, e, f, List.replicate k []⟩ : Bun).cells := by
 unfold Bun.cells Bun.cell
 simp only [List.length_replicate]
 apply List.map_congr_left
 intro j hj
 rw [List.getD_eq_getElem?_getD, List.getElem?_replicate]
 split <;> rfl
theorem Le.newB {rows' : List (List PV)} (f : Nat) (e : TypeId) {ib : Oid} {E : TypeId} {k : Nat} (hib : σ.ob ib = .obj (.box E (List.replicate k (.v (.slice none 0 0))))) (hbf : Nat.beq ib.1 f = false) (hfr : ∀ j, σ.ob (f, j) = .free) (hinc : ∀ j, σ.inc (f, j) = false) (hbi : σ.inc ib = false) (rn : List (Oid × Oid)) (hn : σ.n = n)
  (hs : AllLv (rnB f 0 (f, 0) rn) { σ with ob := famOb f e k ib (.obj (.box E ((List.range k).map fun j => .ref (f, j) 0 0))) σ.ob } (fun i => inO i []) slots) (ho : AllLvI (rnB f 0 (f, 0) rn) { σ with ob := famOb f e k ib (.obj (.box E ((List.range k).map fun j => .ref (f, j) 0 0))) σ.ob } (fun i => inO i []) I obs) (hp : AllPin (rnB f 0 (f, 0) rn) σ Pn)
  (hb : okB slots obs bx f (f, 0) rn [] I Pn = true) (hbx : rnOf rn bx = ib) (hr : rows' = List.replicate k []) : Le (mkStB n slots obs ⟨bx, false, E, e, f, rows'⟩ I Pn) σ := by
 subst hbx; subst hr
 have hp' : ∀ l, AllPin (rnB f 0 (f, 0) rn) σ l → AllPin (rnB f 0 (f, 0) rn) { σ with ob := famOb f e k (rnOf rn bx) (.obj (.box E ((List.range k).map fun j => .ref (f, j) 0 0))) σ.ob } l := by
  intro l
  induction l with
  | nil => intro h; exact h
  | cons x l ih => intro h; exact ⟨h.1, ih h.2⟩
 refine Le.trans (Le.keepB (σ := { σ with ob := famOb f e k (rnOf rn bx) (.obj (.box E ((List.range k).map fun j => .ref (f, j) 0 0))) σ.ob }) (bx0 := rnOf rn bx) rn [] hn hs ho trivial (hp' Pn hp) hb rfl ?_ hbi (fun j => ?_) hbf hinc) (Le.newB0 f e hib hbf hfr hinc)
 ·show famOb f e k (rnOf rn bx) _ σ.ob (rnOf rn bx) = _
  simp only [famOb, oeq_self, cond_true]
  rw [newB_cells (bx := rnOf rn bx) (gr := false) (E := E) (e := e)]
  rfl
 ·show famOb f e k (rnOf rn bx) _ σ.ob (f, j) = _
  have h1 : oeq (f, j) (rnOf rn bx) = false := oeq_ne fun e => by rw [← e] at hbf; simp at hbf
  simp only [famOb, h1, cond_false, Bun.ob, List.length_replicate, hfr]
  congr 1
  rw [List.getD_eq_getElem?_getD, List.getElem?_replicate]
  split <;> rfl
def rowsSl (rows : List (List PV)) : List AV := rows.map fun r => .sl r.length r
theorem withins_rowsSl (ids : List Oid) : ∀ rows : List (List PV), AV.withins ids (rowsSl rows) = true
 | [] => rfl
 | r :: l => by
  have := withins_rowsSl ids l
  simp only [rowsSl] at this
  simp only [rowsSl, List.map_cons, AV.withins, AV.within, this, Bool.and_self]
theorem obsWithin_app {ids : List Oid} {i : Oid} {o : Cells} : ∀ {l : List (Oid × Cells)}, obsWithin ids l = true → o.within ids = true → obsWithin ids (l ++ [(i, o)]) = true
 | [], _, h => by simp [obsWithin, h]
 | (k, c) :: l, hl, h => by
  simp only [obsWithin, Bool.and_eq_true] at hl
  simp only [List.cons_append, obsWithin, hl.1, obsWithin_app hl.2 h, Bool.and_self]
theorem Le.frzFam (fam : Nat) {obs0 : List (Oid × Cells)} {bx : Oid} (hn : σ.n = n) (hs : AllLv (rnOf []) σ (fun i => Nat.beq i.1 fam) slots) (ho : AllLvI (rnOf []) σ (fun i => Nat.beq i.1 fam) I (obs0 ++ [(bx, (⟨bx0, gr, E, e, fam, rows⟩ : Bun).outer (rowsSl rows))])) (hinc : ∀ j, σ.inc (fam, j) = false) (hp : AllPin (rnOf []) σ Pn)
  (hb : (slotsWithin (obs0.map (·.1) ++ [bx]) slots && obsWithin (obs0.map (·.1) ++ [bx]) obs0 && subO Pn (obs0.map (·.1) ++ [bx])) = true) : Le (mkStI n slots (obs0 ++ [(bx, (⟨bx0, gr, E, e, fam, rows⟩ : Bun).outer (rowsSl rows))]) I Pn) σ := by
 simp only [Bool.and_eq_true] at hb
 obtain ⟨obs, hobs⟩ : ∃ obs, obs = obs0 ++ [(bx, (⟨bx0, gr, E, e, fam, rows⟩ : Bun).outer (rowsSl rows))] := ⟨_, rfl⟩
 have hids : obs.map (·.1) = obs0.map (·.1) ++ [bx] := by rw [hobs]; simp
 have how : obsWithin (obs.map (·.1)) obs = true := by
  rw [hids, hobs]
  refine obsWithin_app hb.1.2 ?_
  unfold Bun.outer
  cases gr
  ·exact withins_rowsSl _ _
  ·exact withins_rowsSl _ _
 rw [← hids] at hb
 rw [← hobs] at ho ⊢
 replace hb : (slotsWithin (obs.map (·.1)) slots = true ∧ obsWithin (obs.map (·.1)) obs = true) ∧ subO Pn (obs.map (·.1)) = true := ⟨⟨hb.1.1, how⟩, hb.2⟩
 rw [rnOf_nil] at *
 refine Le.of (fun i => i) (fun i => Nat.beq i.1 fam) hn.symm (fun t _ => frOf_lv hs t) (fun id o h => ?_) (fun id id' o o' h h' he => he) (fun id h => ?_) (fun id o h hf => ?_) (fun t id h => obOf_ne (slots_has hb.1.1 h)) (fun id' o id h hh => obOf_ne (obs_has hb.1.2 (obOf_mem h) hh)) (fun id h o hpn _ => ?_) (fun id hf => ?_)
 ·exact ⟨(allLvI_mem ho (obOf_mem h)).1, (allLvI_mem ho (obOf_mem h)).2.1⟩
 ·have := hinc id.2
  rwa [show (fam, id.2) = id from by rw [← Nat.eq_of_beq_eq_true h]] at this
 ·have := (allLvI_mem ho (obOf_mem h)).2.2
  simp only [mkStI] at hf
  rw [hf] at this
  exact this
 ·simp only [mkStI, pinOf] at hpn
  cases hb : inO id Pn with
  | true => rw [hb] at hpn; obtain rfl := Option.some.inj hpn; exact allPin_mem hp (inO_iff.1 hb)
  | false => rw [hb] at hpn; cases hpn
 ·simp only [mkStI, pinOf]
  cases hq : inO id Pn with
  | true => exact absurd hf (obOf_ne (subO_mem hb.2 (inO_iff.1 hq)))
  | false => rfl
theorem frzOuter {i : Oid} (hF : Nat.beq (rnOf [] i).1 fam = false) (hbx : σ.ob (rnOf [] i) = .obj ((⟨bx0, gr, E, e, fam, rows⟩ : Bun).outer (⟨bx0, gr, E, e, fam, rows⟩ : Bun).cells)) (hfam : ∀ j, σ.ob (fam, j) = (⟨bx0, gr, E, e, fam, rows⟩ : Bun).ob (fam, j)) (h0 : Nat.beq bx0.1 fam = false)
  (hinc : (bif inO i I then false else σ.inc (rnOf [] i)) = false) {o : Cells} (ho : o = (⟨bx0, gr, E, e, fam, rows⟩ : Bun).outer (rowsSl rows)) :
  Nat.beq (rnOf [] i).1 fam = false ∧ (∃ o2, σ.ob (rnOf [] i) = .obj o2 ∧ LvO (rnOf []) σ (fun i => Nat.beq i.1 fam) o o2) ∧ (bif inO i I then false else σ.inc (rnOf [] i)) = false := by
 subst ho
 have h0' : bx0.1 ≠ fam := fun h => by rw [h] at h0; simp at h0
 have key : ∀ (j : Nat) (a d : AV), (rowsSl rows)[j]? = some a → (⟨bx0, gr, E, e, fam, rows⟩ : Bun).cells[j]? = some d → Lv (rnOf []) σ (fun i => Nat.beq i.1 fam) a d := by
  intro j a d ha hd
  have hj : j < rows.length := by
   have := (List.getElem?_eq_some_iff.1 hd).1
   rwa [Bun.cells_len] at this
  rw [Bun.cells_get _ hj] at hd
  obtain rfl := Option.some.inj hd
  simp only [rowsSl, List.getElem?_map] at ha
  rw [List.getElem?_eq_getElem hj] at ha
  obtain rfl := Option.some.inj ha
  have hr : rows.getD j [] = rows[j] := by simp [List.getD_eq_getElem?_getD, hj]
  have hob : σ.ob (fam, j) = .obj (.row e 1 (rows.getD j [])) := by rw [hfam j]; exact Bun.ob_mem (b := ⟨bx0, gr, E, e, fam, rows⟩) h0' hj
  have := Lv.frz (ρ := rnOf []) (F := fun i => Nat.beq i.1 fam) (off := 0) (n := (rows.getD j []).length) hob (Nat.beq_refl fam) (ys := rows.getD j []) (by simp) (by omega)
  show Lv _ _ _ (.sl rows[j].length rows[j]) (.ref (fam, j) 0 (rows.getD j []).length)
  rw [← hr]
  exact this
 refine ⟨hF, ⟨_, hbx, ?_⟩, hinc⟩
 unfold Bun.outer
 cases gr
 ·exact .box (by rw [Bun.cells_len]; simp [rowsSl]) key
 ·exact .rowA (by rw [Bun.cells_len]; simp [rowsSl]) key
theorem downs_rowsSl : ∀ (rows : List (List PV)), downs (rowsSl rows) = some (rows.map fun r => PV.sl r.length r)
 | [] => rfl
 | r :: l => by
  have := downs_rowsSl l
  simp only [rowsSl] at this
  simp only [rowsSl, List.map_cons, downs, this, AV.down]
theorem D_loopLB {rb : Bool} {P : Program} {Q : Exit → St → Prop} {c : Code} {α : Type} (J : α → Prop) (n : Nat) (sl : List (Nat × AV)) (os : List (Oid × Cells)) (sv : α → List (Nat × AV)) (ov : α → List (Oid × Cells)) (bv : α → Bun) (I Pn : List Oid) (μ : α → Nat) (x0 : α) (hJ : J x0) (h0 : Le (mkStB n (sl ++ sv x0) (os ++ ov x0) (bv x0) I Pn) σ)
  (round : ∀ x, J x → D rb P c (thenQ (fun σ' => ∃ y, J y ∧ Le (mkStB n (sl ++ sv y) (os ++ ov y) (bv y) I Pn) σ' ∧ μ y < μ x) Q) (mkStB n (sl ++ sv x) (os ++ ov x) (bv x) I Pn)) : D rb P (.loop c) Q σ :=
 D_loopP J (fun x => mkStB n (sl ++ sv x) (os ++ ov x) (bv x) I Pn) μ x0 hJ h0 round
end
end Go.Proofs.Ytkbkmngbenohkaa
