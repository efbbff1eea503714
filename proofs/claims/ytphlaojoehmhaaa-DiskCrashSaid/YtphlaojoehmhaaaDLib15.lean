/- The machine's rules: nil as a slice of its own that can be appended to. No program text. -/
import Derived.Test.YtphlaojoehmhaaaDLib14
set_option linter.unusedSimpArgs false
set_option linter.unusedVariables false
namespace Go.Proofs.Ytphlaojoehmhaaa
open Go.RowKit
section
variable {P : Program} {σ : St} {z : List Value} {T e : TypeId} {size bytes : Nat}

theorem below_self (w : World) : Below w.heap.size w w := Below.refl _ _

theorem op_asN {dd : Option Tmp} {ty : TypeId} (id : Oid) (x : Operand) (e : TypeId) (sz : Nat) (hx : σ.eval x = .v (.slice none 0 0)) (hid : σ.ob id = .free) : Stp P dd (.assign x) ty σ ((σ.setOb id (.obj (.row e sz []))).put dd (.ref id 0 0)) := by
  intro o hd ho ht
  subst hd
  intro K ι S a w R
  have hv := R.eval x
  rw [hx] at hv
  have hv := hv.toV
  exact yields_value (by simp [execOp, ho, hv]) (R.newNil hid (below_self w) e sz _)
theorem op_mvN {dd : Option Tmp} {ty : TypeId} (id : Oid) (x : Operand) (e : TypeId) (sz : Nat) (hx : σ.eval x = .v (.slice none 0 0)) (hid : σ.ob id = .free) : Stp P dd (.move x) ty σ ((σ.setOb id (.obj (.row e sz []))).put dd (.ref id 0 0)) := by
  intro o hd ho ht
  subst hd
  intro K ι S a w R
  have hv := R.eval x
  rw [hx] at hv
  have hv := hv.toV
  exact yields_value (by simp [execOp, ho, hv]) (R.newNil hid (below_self w) e sz _)
end

mutual
theorem Lv.same {σ : St} {F : Oid → Bool} : (a : AV) → Lv (fun i => i) σ F a a
  | .dead => .dead
  | .v _ => .v
  | .sl _ _ => .sl
  | .fp _ _ => .fp
  | .z => .z
  | .ref _ _ _ => .ref (ρ := fun i => i)
  | .ptr _ _ => .ptr (ρ := fun i => i)
  | .agg xs => .agg rfl fun j a b ha hb => by
      rw [ha] at hb; cases hb; exact Lv.sames xs j a ha
  | .fn f xs us => .fn rfl (fun j a b ha hb => by
      rw [ha] at hb; cases hb; exact Lv.sames xs j a ha) rfl fun j a b ha hb => by
      rw [ha] at hb; cases hb; exact Lv.sames us j a ha
  | .ifc t a => .ifc (Lv.same a)
  | .tup xs => .tup rfl fun j a b ha hb => by
      rw [ha] at hb; cases hb; exact Lv.sames xs j a ha
theorem Lv.sames {σ : St} {F : Oid → Bool} : (xs : List AV) → (j : Nat) → (a : AV) → xs[j]? = some a → Lv (fun i => i) σ F a a
  | [], _, _, h => by simp at h
  | x :: xs, 0, a, h => by simp at h; subst h; exact Lv.same x
  | x :: xs, j + 1, a, h => Lv.sames xs j a (by simpa using h)
end
theorem LvO.same {σ : St} {F : Oid → Bool} : (o : Cells) → LvO (fun i => i) σ F o o
  | .row _ _ xs => .row (List.append_nil xs).symm
  | .box _ xs => .box rfl fun j a b ha hb => by
      rw [ha] at hb; cases hb; exact Lv.sames xs j a ha

/-- A slot's slice is only read from here on. -/
theorem Le.frzS {σ : St} (t : Nat) {id : Oid} {off n : Nat} {e : TypeId} {sz : Nat} {xs ys : List PV} (hr : σ.fr t = .ref id off n) (hid : σ.ob id = .obj (.row e sz xs)) (hi : σ.inc id = false) (hy : (xs.drop off).take (n * sz) = ys) (hl : off + n * sz ≤ xs.length) :
    Le ((σ.setOb id .gone).put (some t) (.sl n ys)) σ := by
  intro K ι S a w R
  have hob : ∀ i o, ((σ.setOb id .gone).put (some t) (.sl n ys)).ob i = .obj o → oeq i id = false ∧ σ.ob i = .obj o := by
    intro i o h
    rw [St.put_ob] at h
    simp only [St.setOb] at h
    cases hb : oeq i id with
    | true => rw [hb] at h; cases h
    | false => rw [hb] at h; exact ⟨rfl, h⟩
  have hnf : ∀ i, σ.ob i ≠ .free → ((σ.setOb id .gone).put (some t) (.sl n ys)).ob i ≠ .free := by
    intro i h h'
    rw [St.put_ob] at h'
    simp only [St.setOb] at h'
    cases hb : oeq i id with
    | true => rw [hb] at h'; cases h'
    | false => rw [hb] at h'; exact h h'
  refine Le.of (fun i => i) (fun i => oeq i id) (by rw [St.put_n]; rfl) (fun u hu => ?_) (fun i o h => ?_) (fun _ _ _ _ _ _ h => h) (fun i h => ?_) (fun i o h h' => ?_) (fun u i h => ?_) (fun i o j h h' => ?_) (fun i h o hp ho => ?_) (fun i h => ?_) K ι S a w R
  · show Lv _ _ _ (bif Nat.beq u t then _ else σ.fr u) _
    cases hb : Nat.beq u t with
    | true => rw [Nat.eq_of_beq_eq_true hb, hr]; exact .frz hid (oeq_self id) hy hl
    | false => exact Lv.same _
  · obtain ⟨h1, h2⟩ := hob i o h
    exact ⟨h1, o, h2, LvO.same o⟩
  · rw [oeq_iff.1 h]; exact hi
  · exact h'
  · replace h : Has i (bif Nat.beq u t then _ else σ.fr u) := h
    cases hb : Nat.beq u t with
    | true => rw [hb] at h; cases h
    | false => rw [hb] at h; exact hnf i (R.cl u i h)
  · exact hnf j (R.clo i o j (hob i o h).2 h')
  · exact hp
  · refine R.pf i ?_
    rw [St.put_ob] at h
    simp only [St.setOb] at h
    cases hb : oeq i id with
    | true => rw [hb] at h; cases h
    | false => rw [hb] at h; exact h
/-- A box's slice is only read from here on. -/
theorem Le.frzB {σ : St} (ib : Oid) (j : Nat) {T : TypeId} {cs : List AV} {id : Oid} {off n : Nat} {e : TypeId} {sz : Nat} {xs ys : List PV} (hb : σ.ob ib = .obj (.box T cs)) (hr : cs[j]? = some (.ref id off n)) (hid : σ.ob id = .obj (.row e sz xs)) (hi : σ.inc id = false) (hy : (xs.drop off).take (n * sz) = ys) (hl : off + n * sz ≤ xs.length) :
    Le ((σ.setOb id .gone).setOb ib (.obj (.box T (cs.set j (.sl n ys))))) σ := by
  intro K ι S a w R
  have hne : oeq ib id = false := by
    cases h : oeq ib id with
    | true => rw [oeq_iff.1 h, hid] at hb; cases hb
    | false => rfl
  have hob : ∀ i o, ((σ.setOb id .gone).setOb ib (.obj (.box T (cs.set j (.sl n ys))))).ob i = .obj o → oeq i id = false ∧ ((oeq i ib = false ∧ σ.ob i = .obj o) ∨ (i = ib ∧ o = .box T (cs.set j (.sl n ys)))) := by
    intro i o h
    simp only [St.setOb] at h
    cases h1 : oeq i ib with
    | true =>
      rw [h1] at h
      have := oeq_iff.1 h1
      subst this
      cases h
      exact ⟨hne, .inr ⟨rfl, rfl⟩⟩
    | false =>
      rw [h1] at h
      cases h2 : oeq i id with
      | true => rw [h2] at h; cases h
      | false => rw [h2] at h; exact ⟨rfl, .inl ⟨rfl, h⟩⟩
  have hnf : ∀ i, σ.ob i ≠ .free → ((σ.setOb id .gone).setOb ib (.obj (.box T (cs.set j (.sl n ys))))).ob i ≠ .free := by
    intro i h h'
    simp only [St.setOb] at h'
    cases h1 : oeq i ib with
    | true => rw [h1] at h'; cases h'
    | false =>
      rw [h1] at h'
      cases h2 : oeq i id with
      | true => rw [h2] at h'; cases h'
      | false => rw [h2] at h'; exact h h'
  refine Le.of (σ1 := (σ.setOb id .gone).setOb ib (.obj (.box T (cs.set j (.sl n ys))))) (σ2 := σ) (fun i => i) (fun i => oeq i id) rfl (fun u hu => Lv.same _) (fun i o h => ?_) (fun _ _ _ _ _ _ h => h) (fun i h => ?_) (fun i o h h' => h') (fun u i h => hnf i (R.cl u i h)) (fun i o k h h' => ?_) (fun i h o hp ho => hp) (fun i h => ?_) K ι S a w R
  · obtain ⟨h1, ⟨_, h2⟩ | ⟨rfl, rfl⟩⟩ := hob i o h
    · exact ⟨h1, o, h2, LvO.same o⟩
    · refine ⟨h1, _, hb, .box (by simp) fun k a b ha hb' => ?_⟩
      by_cases hk : j = k
      · subst hk
        rw [hr] at hb'; cases hb'
        have hjl : j < cs.length := (List.getElem?_eq_some_iff.1 hr).1
        rw [List.getElem?_set_self hjl] at ha; cases ha
        exact .frz hid (oeq_self id) hy hl
      · rw [List.getElem?_set_ne hk, hb'] at ha; cases ha; exact Lv.same _
  · rw [oeq_iff.1 h]; exact hi
  · obtain ⟨h1, ⟨_, h2⟩ | ⟨rfl, rfl⟩⟩ := hob i o h
    · exact hnf k (R.clo i o k h2 h')
    · obtain ⟨x, hx, hk⟩ := h'
      rcases List.mem_or_eq_of_mem_set hx with hx | hx
      · exact hnf k (R.clo _ _ k hb ⟨x, hx, hk⟩)
      · subst hx; cases hk
  · refine R.pf i ?_
    simp only [St.setOb] at h
    cases h1 : oeq i ib with
    | true => rw [h1] at h; cases h
    | false =>
      rw [h1] at h
      cases h2 : oeq i id with
      | true => rw [h2] at h; cases h
      | false => rw [h2] at h; exact h
/-- A value whose cells are known. -/
theorem Rep.toAgg {ι : Oid → Option Blk} {S : Nat → Prop} {w : World} {us : List Value} {u : Value} (h : Rep ι S w (.agg (us.map AV.v)) u) : u = .agg us.toArray := by
  cases h with
  | @agg xs vs h1 h2 h3 =>
    congr 1
    refine Array.ext (by simpa using h1) fun j hj hj' => ?_
    have hjl : j < us.length := by simpa using hj'
    have := h3 j (.v us[j]) (by simp [hjl])
    have := this.toV
    rw [Array.getD_eq_getD_getElem?, Array.getElem?_eq_getElem hj] at this
    simpa using this
/-- An operation on two values whose cells are known. -/
theorem op_binA {P : Program} {σ : St} {dd : Option Tmp} {ty : TypeId} {op : BinOp} {t t' : TypeId} {x y : Operand} (us vs : List Value) (hx : σ.eval x = .agg (us.map AV.v)) (hy : σ.eval y = .agg (vs.map AV.v)) {r : Value}
    (h : ∀ (o : Oper) (ρ : Operand → Value) w, o.op = .binOp op t x y t' → ρ x = .agg us.toArray → ρ y = .agg vs.toArray → (execOp ρ o).run P w = .ok (.value r) w) : Stp P dd (.binOp op t x y t') ty σ (σ.put dd (.v r)) := by
  intro o hd ho ht
  subst hd
  exact step_val fun _ _ _ a w R => ⟨r, h o a.eval w ho (Rep.toAgg (hx ▸ R.eval x)) (Rep.toAgg (hy ▸ R.eval y)), .v, fun _ => noHasV⟩
theorem lvR {ρ : Oid → Oid} {σ : St} {F : Oid → Bool} {id : Oid} {off n m : Nat} (h : n = m) : Lv ρ σ F (.ref id off n) (.ref (ρ id) off m) := h ▸ .ref
end Go.Proofs.Ytphlaojoehmhaaa
