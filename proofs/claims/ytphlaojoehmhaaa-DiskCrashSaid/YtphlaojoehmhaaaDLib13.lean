/- The machine's steps: values of structs and arrays, tuples. No program text. -/
import Derived.Test.YtphlaojoehmhaaaDLib12
set_option linter.unusedSimpArgs false
set_option linter.unusedVariables false
namespace Go.Proofs.Ytphlaojoehmhaaa
open Go.RowKit

def fillL {α : Type} (pl : Nat → Option (Nat × Nat)) : List α → List (Nat × List α) → Option (List α)
  | cs, [] => some cs
  | cs, (i, vs) :: rest => match pl i with
    | some (off, size) => bif Nat.beq vs.length size && Nat.ble (off + size) cs.length then fillL pl (putL cs off vs) rest else none
    | none => none

/-- What is known of a struct's or an array's making: its zero cells, its parts' places. -/
class Bld (P : Program) (t : TypeId) (z : outParam (List Value)) (pl : outParam (Nat → Option (Nat × Nat))) : Prop where
  out : ∀ (parts : Array (Nat × Value)) (cs : Array Value) (w : World), Instr.fill pl z.toArray parts.toList = some cs → (Instr.build t parts).run P w = .ok (.agg cs) w
  one : ∀ u ∈ z, u.oneCell' = true

theorem Bld.struct {P : Program} {t : TypeId} {z : List Value} {fs : Array Field} {bytes : Nat} (zv : Value) (pl : List (Nat × Nat)) (h1 : P.underlying t = some (.struct fs)) (h2 : (P.info? t).map (fun i => (i.zero, i.size, i.bytes)) = some (some zv, z.length, bytes)) (h3 : zv.cells = z.toArray)
    (h4 : ∀ u ∈ z, u.oneCell' = true) (hp : ∀ w, (fs.mapM fun f => do pure (f.offset, ← sizeOf f.type) : Sem (Array (Nat × Nat))).run P w = .ok pl.toArray w) : Bld P t z (fun i => pl[i]?) := by
  obtain ⟨i, hi, a, b, c⟩ := info_parts h2
  refine ⟨fun parts cs w hf => ?_, h4⟩
  have hp' := hp w
  have hz : (zeroValue t).run P w = .ok zv w := by simp [zeroValue, typeInfo, hi, a]
  simp only [Instr.build, Sem.run_bind, hz, run_underlying h1, Result.andThen_ok, hp', h3, Sem.run_pure, List.getElem?_toArray, hf]
theorem Bld.array {P : Program} {t e : TypeId} {z : List Value} {n size bytes : Nat} (zv : Value) (h1 : P.underlying t = some (.array n e)) (h2 : (P.info? t).map (fun i => (i.zero, i.size, i.bytes)) = some (some zv, z.length, bytes)) (h3 : zv.cells = z.toArray)
    (h4 : ∀ u ∈ z, u.oneCell' = true) (hs : (P.info? e).map (·.size) = some size) : Bld P t z (fun i => some (i * size, size)) := by
  obtain ⟨i, hi, a, b, c⟩ := info_parts h2
  obtain ⟨j, hj, hjs⟩ := Option.map_eq_some_iff.1 hs
  refine ⟨fun parts cs w hf => ?_, h4⟩
  simp [Instr.build, zeroValue, typeInfo, sizeOf, hi, a, h3, run_underlying h1, hj, hjs, hf]

/-- The cells of the parts that a literal gives. -/
def partsP (σ : St) : List (Nat × Operand) → Option (List (Nat × List AV))
  | [] => some []
  | (i, x) :: l => match (σ.eval x).cells, partsP σ l with
    | some c, some r => some ((i, c) :: r)
    | _, _ => none

theorem fill_real (pl : Nat → Option (Nat × Nat)) {R : AV → Value → Prop} : ∀ (ps : List (Nat × List AV)) (vs : List (Nat × Value)) (cs : List AV) (us : Array Value) (ys : List AV), fillL pl cs ps = some ys →
    vs.length = ps.length → (∀ (j : Nat) (p : Nat × List AV) (v : Nat × Value), ps[j]? = some p → vs[j]? = some v → p.1 = v.1 ∧ v.2.cells.size = p.2.length ∧ (∀ x ∈ v.2.cells.toList, x.oneCell' = true) ∧ ∀ (k : Nat) (b : AV), p.2[k]? = some b → R b (v.2.cells.getD k undef)) →
    us.size = cs.length → (∀ u ∈ us.toList, u.oneCell' = true) → (∀ (k : Nat) (b : AV), cs[k]? = some b → R b (us.getD k undef)) →
    ∃ us', Instr.fill pl us vs = some us' ∧ us'.size = ys.length ∧ (∀ u ∈ us'.toList, u.oneCell' = true) ∧ ∀ (k : Nat) (b : AV), ys[k]? = some b → R b (us'.getD k undef)
  | [], vs, cs, us, ys, h, hl, _, h1, h2, h3 => by
    obtain rfl : vs = [] := List.eq_nil_of_length_eq_zero hl
    simp only [fillL] at h
    obtain rfl := Option.some.inj h
    exact ⟨us, rfl, h1, h2, h3⟩
  | (i, c) :: ps, vs, cs, us, ys, h, hl, hp, h1, h2, h3 => by
    cases vs with
    | nil => simp at hl
    | cons v vs =>
      obtain ⟨i', v⟩ := v
      obtain ⟨e1, e2, e3, e4⟩ := hp 0 _ _ rfl rfl
      simp only at e1 e2 e3 e4
      subst e1
      simp only [fillL] at h
      split at h
      · rename_i off size hpl
        cases hc : (Nat.beq c.length size && Nat.ble (off + size) cs.length) with
        | false => rw [hc] at h; cases h
        | true =>
          rw [hc] at h
          simp only [Bool.and_eq_true, Nat.beq_eq, Nat.ble_eq] at hc
          obtain ⟨hc1, hc2⟩ := hc
          subst hc1
          have hf := fold_put v.cells.toList off 0 us (by simp [e2]; omega)
          simp only [Nat.add_zero] at hf
          have hz : (v.cells.zipIdx.foldl (fun (cs : Array Value) (p : Value × Nat) => cs.setIfInBounds (off + p.2) p.1) us) = (put us.toList off v.cells.toList).toArray := by
            rw [← hf, ← Array.foldl_toList, Array.toList_zipIdx]
          have hz' : (Array.foldl (fun cs (x : Value × Nat) => match x with | (c, j) => cs.setIfInBounds (off + j) c) us v.cells.zipIdx) = (put us.toList off v.cells.toList).toArray := hz
          have hvl : v.cells.toList.length = c.length := by simpa using e2
          have hcl : off + v.cells.toList.length ≤ us.toList.length := by rw [hvl]; simp; omega
          have hstep := fill_real pl (R := R) ps vs (putL cs off c) (putL us.toList off v.cells.toList).toArray ys h (by simpa using hl) (fun j p q hj hq => hp (j + 1) p q (by simpa using hj) (by simpa using hq))
            (by simp [putL_len _ _ _ hcl, putL_len _ _ _ hc2, h1]) (fun u hu => by
              rcases putL_mem (by simpa using hu) with hu | hu
              · exact h2 u hu
              · exact e3 u hu) (fun k b hb => by
              rw [putL_get _ _ _ hc2] at hb
              have hk : (putL us.toList off v.cells.toList).toArray.getD k undef = ((putL us.toList off v.cells.toList)[k]?).getD undef := by simp [List.getD_eq_getElem?_getD]
              rw [hk, putL_get _ _ _ hcl, hvl]
              split at hb
              · rename_i hin
                rw [if_pos hin]
                have := e4 _ b hb
                simpa using this
              · rename_i hin
                rw [if_neg hin]
                have := h3 k b hb
                simpa using this)
          obtain ⟨us', r1, r2, r3, r4⟩ := hstep
          refine ⟨us', ?_, r2, r3, r4⟩
          simp only [Instr.fill, hpl]
          rw [if_neg (by simp [e2]; omega)]
          rw [hz']
          exact r1
      · cases h

theorem ob1I {ρ : Oid → Oid} {σ : St} {F : Oid → Bool} {I : List Oid} {i : Oid} {o o2 : Cells} (hF : F (ρ i) = false) (h : σ.ob (ρ i) = .obj o2) (hinc : (bif inO i I then false else σ.inc (ρ i)) = false) (hl : LvO ρ σ F o o2) :
    F (ρ i) = false ∧ (∃ o2, σ.ob (ρ i) = .obj o2 ∧ LvO ρ σ F o o2) ∧ (bif inO i I then false else σ.inc (ρ i)) = false := ⟨hF, ⟨o2, h, hl⟩, hinc⟩
section
variable {P : Program} {σ : St} {o : Oper} {z : List Value}
theorem partsP_spec {K : Ctx} {ι : Oid → Option Blk} {S : Nat → Prop} {a : Act} {w : World} (R : RelI K ι S σ a w) : ∀ (l : List (Nat × Operand)) (r : List (Nat × List AV)), partsP σ l = some r →
    l.length = r.length ∧ (∀ (j : Nat) (p : Nat × List AV) (v : Nat × Value), r[j]? = some p → (l.map fun q => (q.1, a.eval q.2))[j]? = some v → p.1 = v.1 ∧ v.2.cells.size = p.2.length ∧ (∀ x ∈ v.2.cells.toList, x.oneCell' = true) ∧ ∀ (k : Nat) (b : AV), p.2[k]? = some b → Rep ι S w b (v.2.cells.getD k undef)) ∧
      ∀ p ∈ r, ∀ b ∈ p.2, ∀ i, Has i b → σ.ob i ≠ .free
  | [], r, h => by simp [partsP] at h; subst h; simp
  | (i, x) :: l, r, h => by
    simp only [partsP] at h
    split at h
    · rename_i c r' hc hr
      obtain rfl := Option.some.inj h
      obtain ⟨h1, h2, h3⟩ := partsP_spec R l r' hr
      obtain ⟨c1, c2, c3⟩ := (R.eval x).cells hc
      refine ⟨by simp [h1], fun j p v hp hv => ?_, fun p hp b hb k hk => ?_⟩
      · cases j with
        | zero =>
          simp at hp hv
          subst hp; subst hv
          exact ⟨rfl, c1, c2, c3⟩
        | succ j => exact h2 j p v (by simpa using hp) (by simpa using hv)
      · rcases List.mem_cons.1 hp with rfl | hp
        · exact R.evalHas x (cells_has hc hb hk)
        · exact h3 p hp b hb k hk
    · cases h

theorem fillL_has {pl : Nat → Option (Nat × Nat)} {Q : AV → Prop} : ∀ (ps : List (Nat × List AV)) (cs ys : List AV), fillL pl cs ps = some ys → (∀ b ∈ cs, Q b) → (∀ p ∈ ps, ∀ b ∈ p.2, Q b) → ∀ b ∈ ys, Q b
  | [], cs, ys, h, h1, _ => by
    simp only [fillL] at h
    obtain rfl := Option.some.inj h
    exact h1
  | (i, c) :: ps, cs, ys, h, h1, h2 => by
    simp only [fillL] at h
    split at h
    · cases hc : (Nat.beq c.length _ && Nat.ble _ cs.length) with
      | false => rw [hc] at h; cases h
      | true =>
        rw [hc] at h
        exact fillL_has ps _ ys h (fun b hb => by
          rcases putL_mem hb with hb | hb
          · exact h1 b hb
          · exact h2 _ List.mem_cons_self b hb) fun p hp => h2 p (List.mem_cons_of_mem _ hp)
    · cases h

theorem op_build {dd : Option Tmp} {ty t : TypeId} {pl : Nat → Option (Nat × Nat)} (parts : Array (Nat × Operand)) (B : Bld P t z pl) {r : List (Nat × List AV)} (hp : partsP σ parts.toList = some r) {ys : List AV} (hf : fillL pl (z.map AV.v) r = some ys) :
    Stp P dd (.build t parts) ty σ (σ.put dd (.agg ys)) := by
  intro o hd ho ht
  subst hd
  refine step_val fun K ι S a w R => ?_
  obtain ⟨h1, h2, h3⟩ := partsP_spec R _ _ hp
  obtain ⟨us, u1, u2, u3, u4⟩ := fill_real pl (R := Rep ι S w) r (parts.toList.map fun q => (q.1, a.eval q.2)) (z.map AV.v) z.toArray ys hf (by simp at h1 ⊢; omega) h2 (by simp) (by simpa using B.one) (fun k b hb => by
    simp only [List.getElem?_map] at hb
    obtain ⟨x, hx, rfl⟩ := Option.map_eq_some_iff.1 hb
    have : z.toArray.getD k undef = x := by simp [hx]
    rw [this]; exact .v)
  refine ⟨.agg us, ?_, .agg u2 u3 u4, fun i hi => ?_⟩
  · have := B.out (parts.map fun q => (q.1, a.eval q.2)) us w (by simpa using u1)
    have he : (parts.map fun x => match x with | (i, x) => (i, a.eval x)) = parts.map fun q => (q.1, a.eval q.2) := rfl
    simp only [execOp, ho, he, Sem.run_bind, this, Result.andThen_ok, Sem.run_pure]
  · cases hi with
    | agg hm hi =>
      refine fillL_has (Q := fun b => ∀ i, Has i b → σ.ob i ≠ .free) r _ ys hf (fun b hb i hi => ?_) h3 _ hm i hi
      simp only [List.mem_map] at hb
      obtain ⟨x, _, rfl⟩ := hb
      cases hi

theorem op_ext {dd : Option Tmp} {ty : TypeId} {av : AV} (x : Operand) {j : Nat} {xs : List AV} (hx : σ.eval x = .tup xs) (hv : xs[j]? = some av) : Stp P dd (.extract x j) ty σ (σ.put dd av) := by
  intro o hd ho ht
  subst hd
  refine step_val fun K ι S a w R => ?_
  have hp := R.eval x
  rw [hx] at hp
  generalize hve : a.eval x = v at hp
  cases hp with
  | tup h1 h3 =>
    rename_i us
    have hlt : j < us.size := by rw [h1]; exact (List.getElem?_eq_some_iff.1 hv).1
    refine ⟨us[j], by simp [execOp, ho, Instr.extract, hve, hlt], by have := h3 j av hv; simpa [hlt] using this, fun i h => R.evalHas x (by rw [hx]; exact .tup (List.mem_of_getElem? hv) h)⟩
end
end Go.Proofs.Ytphlaojoehmhaaa
