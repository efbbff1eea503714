/- The machine's library, part 12. No program text. -/
import Derived.Test.YtkbkmngbenohkaaVoM6
set_option linter.unusedSimpArgs false
set_option linter.unusedVariables false
namespace Go.Proofs.Ytkbkmngbenohkaa
open Go.RowKit

mutual
/-- Nothing in it is read elsewhere than in objects. -/
def AV.flat : AV → Bool
  | .sl _ _ => false
  | .fp _ _ => false
  | .agg xs => AV.flats xs
  | .fn _ xs ys => AV.flats xs && AV.flats ys
  | .ifc _ a => a.flat
  | .tup xs => AV.flats xs
  | _ => true
def AV.flats : List AV → Bool
  | [] => true
  | a :: l => a.flat && AV.flats l
end
theorem flats_mem : ∀ {l : List AV}, AV.flats l = true → ∀ a ∈ l, a.flat = true
  | [], _, a, h => by simp at h
  | b :: l, hl, a, h => by
    simp only [AV.flats, Bool.and_eq_true] at hl
    rcases List.mem_cons.1 h with rfl | h
    · exact hl.1
    · exact flats_mem hl.2 a h
theorem Rep.flat {ι : Oid → Option Blk} {S T : Nat → Prop} {w : World} {a : AV} {x : Value} (h : Rep ι S w a x) : a.flat = true → Rep ι T w a x := by
  induction h with
  | dead => intro _; exact .dead
  | v => intro _; exact .v
  | sl h => intro hf; simp [AV.flat] at hf
  | fp h => intro hf; simp [AV.flat] at hf
  | ref h h1 => intro _; exact .ref h h1
  | ptr h h1 => intro _; exact .ptr h h1
  | agg h1 h2 h ih => intro hf; simp only [AV.flat] at hf; exact .agg h1 h2 fun j a ha => ih j a ha (flats_mem hf a (List.mem_of_getElem? ha))
  | fn h1 h2 h3 h4 i3 i4 => intro hf; simp only [AV.flat, Bool.and_eq_true] at hf; exact .fn h1 h2 (fun j a ha => i3 j a ha (flats_mem hf.1 a (List.mem_of_getElem? ha))) fun j a ha => i4 j a ha (flats_mem hf.2 a (List.mem_of_getElem? ha))
  | ifc h ih => intro hf; simp only [AV.flat] at hf; exact .ifc (ih hf)
  | z => intro _; exact .z
  | mp h h1 => intro _; exact .mp h h1
  | tup h1 h ih => intro hf; simp only [AV.flat] at hf; exact .tup h1 fun j a ha => ih j a ha (flats_mem hf a (List.mem_of_getElem? ha))
def Cells.Flat : Cells → Prop
  | .row _ _ xs => ∀ p ∈ xs, ∃ x, p = PV.v x
  | .box _ xs => AV.flats xs = true
  | .rowA _ _ xs => AV.flats xs = true
  | _ => True
theorem ObjOk.flatO {ι : Oid → Option Blk} {S T : Nat → Prop} {w : World} {id : Oid} {o : Cells} (h : ObjOk ι S w id o) (hf : o.Flat) : ObjOk ι T w id o := by
  cases o with
  | row e sz xs =>
    obtain ⟨B, h1, h2, h3⟩ := h
    refine ⟨B, h1, h2, h3.next (fun _ _ => rfl) fun j u hu p hp => ?_⟩
    obtain ⟨x, rfl⟩ := hf p (List.mem_of_getElem? hp)
    cases hu _ hp with
    | v h => exact .v h
  | box e xs =>
    obtain ⟨B, g, h1, h2, h3, h4⟩ := h
    exact ⟨B, g, h1, h2, h3, h4.next (fun _ _ => rfl) fun j u hu p hp => (hu p hp).flat (flats_mem hf p (List.mem_of_getElem? hp))⟩
  | rowA e sz xs =>
    obtain ⟨B, h1, h2, h3⟩ := h
    exact ⟨B, h1, h2, h3.next (fun _ _ => rfl) fun j u hu p hp => (hu p hp).flat (flats_mem hf p (List.mem_of_getElem? hp))⟩
  | mp es clock => exact h
  | it m since seen stepped => exact h

section
variable {P : Program} {σ τ : St}
/-- σ with the objects of τ beside its own. -/
def St.join (σ τ : St) : St := { σ with ob := fun id => orFree (σ.ob id) (τ.ob id) }
theorem orFree_l {s : Slot} (h : s = .free) (t : Slot) : orFree s t = t := by rw [h]; rfl
theorem orFree_r {s t : Slot} (h : t = .free) : orFree s t = s := by rw [h]; cases s <;> rfl
open Classical in
theorem RelI.join {K Kc : Ctx} {ι ι2 : Oid → Option Blk} {S S2 T : Nat → Prop} {a : Act} {w w' : World} {v : Value} (R : RelI K ι S σ a w) (R2 : RelI Kc ι2 S2 τ ⟨#[v], []⟩ w') (hw : Kc.w0 = w) (hown : ∀ g, ¬ Kc.own g)
    (hTS : ∀ g, T g → S2 g) (hT : ∀ g, T g → S g ∨ w.heap.size ≤ g) (hob : ∀ id o, τ.ob id = .obj o → ObjOk ι2 T w' id o) (hinc : ∀ id, τ.inc id = false) (hdis : ∀ id, τ.ob id = .free ∨ σ.ob id = .free) :
    RelI K (fun id => if τ.ob id = .free then ι id else ι2 id) (fun g => S g ∨ T g) (σ.join τ) a w' := by
  subst hw
  have hb : Below Kc.w0.heap.size Kc.w0 w' := ⟨R2.keeps.os, R2.keeps.tape, R2.keeps.output, R2.keeps.size, fun g hg => R2.keeps.block g hg (hown g)⟩
  have hfre : ∀ {id}, τ.ob id ≠ .free → σ.ob id = .free := fun {id} h => (hdis id).resolve_left h
  have hge : ∀ id B g, ι2 id = some B → B.g = some g → Kc.w0.heap.size ≤ g := fun id B g h1 h2 => (R2.sep id B g h1 h2).2.2 (hinc id)
  refine R.gen (fun id => τ.ob id ≠ .free) (.of_below hb) (fun id h => ?_) (fun id h => ?_) (fun _ _ => rfl) (fun id h => ?_) (fun g h => .inl h) (fun g h => ?_) (fun g h => ?_) (fun id B h _ => .inr (hfre h)) (fun id o h ho => ?_) (fun id B h hB => ?_) (fun id id' B B' g h hB hB' hg hg' => ?_) (fun id B g h hB hg => ?_) (fun id x o h hp => ?_)
  · simp only [ne_eq, Decidable.not_not] at h; simp [h]
  · simp only [ne_eq, Decidable.not_not] at h
    exact orFree_r h
  · revert h
    show orFree _ _ = _ → _
    cases σ.ob id <;> intro h <;> first | rfl | cases h
  · rcases h with h | h
    · exact .inl h
    · exact (hT g h).imp id .inl
  · rcases h with h | h
    · exact Nat.lt_of_lt_of_le (R.Slt g h) hb.size
    · exact R2.Slt g (hTS g h)
  · have e : orFree (σ.ob id) (τ.ob id) = .obj o := ho
    rw [orFree_l (hfre h)] at e
    refine ⟨(hob id o e).next (by simp [h]) (fun _ _ _ _ => rfl) (fun _ _ => rfl) (fun g hg => .inr hg) (fun id' B hi hB => ?_), fun id' hi => ?_⟩
    · have hn := R2.clo id o id' e hi
      simpa [hn] using hB
    · have hn := R2.clo id o id' e hi
      show orFree _ _ ≠ _
      rw [orFree_l (hfre hn)]; exact hn
  · rw [if_neg h] at hB
    obtain ⟨o, ho⟩ := R2.dom id B hB
    exact ⟨o, by show orFree _ _ = _; rw [orFree_l (hfre h)]; exact ho⟩
  · rw [if_neg h] at hB
    by_cases h' : τ.ob id' = .free
    · rw [if_pos h'] at hB'
      have := R.lt hB' hg'
      have := hge id B g hB hg
      omega
    · rw [if_neg h'] at hB'
      exact R2.inj id id' B B' g hB hB' hg hg'
  · rw [if_neg h] at hB
    have h1 := hge id B g hB hg
    refine ⟨fun hs => ?_, .inr (Nat.le_trans R.keeps.size h1), fun _ => Nat.le_trans R.keeps.size h1⟩
    rcases hs with hs | hs
    · have := R.Slt g hs; omega
    · exact (R2.sep id B g hB hg).1 (hTS g hs)
  · rw [R.pf id (hfre h)] at hp; cases hp
variable {o : Oper}
theorem RelI.joinPut {K Kc : Ctx} {ι ι2 : Oid → Option Blk} {S S2 T : Nat → Prop} {a : Act} {w w' : World} {v : Value} {d : Option Tmp} (R : RelI K ι S σ a w) (R2 : RelI Kc ι2 S2 τ ⟨#[v], []⟩ w') (hw : Kc.w0 = w) (hown : ∀ g, ¬ Kc.own g)
    (hTS : ∀ g, T g → S2 g) (hT : ∀ g, T g → S g ∨ w.heap.size ≤ g) (hob : ∀ id o, τ.ob id = .obj o → ObjOk ι2 T w' id o) (hr : Rep ι2 T w' (τ.fr 0) v) (hinc : ∀ id, τ.inc id = false) (hdis : ∀ id, τ.ob id = .free ∨ σ.ob id = .free) :
    ∃ ι' S', RelI K ι' S' ((σ.join τ).put d (τ.fr 0)) (a.put d v) w' := by
  refine ⟨_, _, (R.join R2 hw hown hTS hT hob hinc hdis).put d (hr.next (fun _ _ => rfl) (fun g h => .inr h) fun id B hi hB => ?_) fun id hi => ?_⟩
  · have hn := R2.cl 0 id hi
    simpa [hn] using hB
  · have hn := R2.cl 0 id hi
    show orFree _ _ ≠ _
    rw [orFree_l ((hdis id).resolve_left hn)]; exact hn
/-- A call that takes data; its objects come beside the caller's. -/
theorem st_callU {f : FuncId} {avs : List AV} (hE : EntersAt P o σ f avs) {args : List AV} (sp : Spec P f (inSt args []) τ) (ha : ArgsLv σ (fun _ => false) avs args) (hp : AV.pures args = true) (hn : τ.n = 1) (hinc : ∀ id, τ.inc id = false) (hdis : ∀ id, τ.ob id = .free ∨ σ.ob id = .free) :
    Step P o σ ((σ.join τ).put o.dst (τ.fr 0)) := by
  intro K ι S a w R
  obtain ⟨vs, hrun, hvs, hrep⟩ := hE K ι S a w R
  have R1 := R.args ha hp hvs hrep
  refine yields_call hrun (sp _ _ _ _ w rfl rfl R1) ?_
  rintro e w' ⟨v, ι', S', rfl, R2⟩
  refine ⟨v, rfl, R.joinPut R2 rfl (fun _ h => h) (fun _ h => h) (fun g hg => ?_) (fun id o h => R2.ob id o h) ?_ hinc hdis⟩
  · rcases R2.S0 g hg with (h | ⟨_, _, h, _⟩) | h
    · exact .inl h
    · cases h
    · exact .inr h
  · have := R2.fr 0 (by omega)
    simpa using this
/-- A call that is lent whatever σf shows as data; what comes back is new throughout. -/
theorem st_callL {σf : St} {f : FuncId} {avs : List AV} (hl : Le σf σ) (hE : EntersAt P o σf f avs) {args : List AV} (sp : Spec P f (inSt args []) τ) (ha : ArgsLv σf (fun _ => true) avs args) (hp : AV.pures args = true) (hn : τ.n = 1) (hinc : ∀ id, τ.inc id = false) (hdis : ∀ id, τ.ob id = .free ∨ σ.ob id = .free)
    (hf : (τ.fr 0).flat = true) (hfo : ∀ id o, τ.ob id = .obj o → o.Flat) : Step P o σ ((σ.join τ).put o.dst (τ.fr 0)) := by
  intro K ι S a w R
  obtain ⟨ι1, S1, Rf⟩ := hl K ι S a w R
  obtain ⟨vs, hrun, hvs, hrep⟩ := hE K ι1 S1 a w Rf
  have R1 := Rf.args ha hp hvs hrep
  refine yields_call hrun (sp _ _ _ _ w rfl rfl R1) ?_
  rintro e w' ⟨v, ι', S', rfl, R2⟩
  refine ⟨v, rfl, R.joinPut (T := fun _ => False) R2 rfl (fun _ h => h) (fun _ h => h.elim) (fun g hg => hg.elim) (fun id o h => (R2.ob id o h).flatO (hfo id o h)) ?_ hinc hdis⟩
  have := R2.fr 0 (by omega)
  exact (by simpa using this : Rep ι' S' w' (τ.fr 0) v).flat hf
theorem op_callU {dd : Option Tmp} {ty : TypeId} {f : FuncId} {xs : Array Operand} {ats : Array TypeId} (C : Cbl P f) {args : List AV} (ha : ArgsLv σ (fun _ => false) (xs.toList.map σ.eval) args) (sp : Spec P f (inSt args []) τ)
    (hp : AV.pures args = true) (hn : τ.n = 1) (hinc : ∀ id, τ.inc id = false) (hdis : ∀ id, τ.ob id = .free ∨ σ.ob id = .free) : Stp P dd (.call { callee := .value (.func f), args := xs, argTypes := ats }) ty σ ((σ.join τ).put dd (τ.fr 0)) := fun o hd ho ht => by subst hd; exact st_callU (.fnc ho C) sp ha hp hn hinc hdis
/-- The same, the new objects first. -/
def St.joinL (σ τ : St) : St := { σ with ob := fun id => orFree (τ.ob id) (σ.ob id) }
theorem joinL_eq (hdis : ∀ id, τ.ob id = .free ∨ σ.ob id = .free) : σ.joinL τ = σ.join τ := by
  refine St.eq rfl (fun _ => rfl) (fun id => ?_) rfl rfl
  show orFree (τ.ob id) (σ.ob id) = orFree (σ.ob id) (τ.ob id)
  rcases hdis id with h | h
  · rw [orFree_l h, orFree_r h]
  · rw [orFree_l h, orFree_r h]
theorem op_callL {dd : Option Tmp} {ty : TypeId} {σf : St} {f : FuncId} {xs : Array Operand} {ats : Array TypeId} (C : Cbl P f) (hl : Le σf σ) {args : List AV} (ha : ArgsLv σf (fun _ => true) (xs.toList.map σf.eval) args) (sp : Spec P f (inSt args []) τ)
    (hp : AV.pures args = true) (hn : τ.n = 1) (hinc : ∀ id, τ.inc id = false) (hdis : ∀ id, τ.ob id = .free ∨ σ.ob id = .free) (hf : (τ.fr 0).flat = true) (hfo : ∀ id o, τ.ob id = .obj o → o.Flat) : Stp P dd (.call { callee := .value (.func f), args := xs, argTypes := ats }) ty σ ((σ.joinL τ).put dd (τ.fr 0)) :=
  fun o hd ho ht => by subst hd; rw [joinL_eq hdis]; exact st_callL hl (.fnc ho C) sp ha hp hn hinc hdis hf hfo
theorem flat_obs {r : AV} : ∀ {outs : List (Oid × Cells)}, (∀ x ∈ outs, x.2.Flat) → ∀ id o, (outSt r outs).ob id = .obj o → o.Flat := fun h id o ho => h (id, o) (obOf_mem ho)
theorem dis_obs {r : AV} {outs : List (Oid × Cells)} (h : ∀ x ∈ outs, σ.ob x.1 = .free) (id : Oid) : (outSt r outs).ob id = .free ∨ σ.ob id = .free := by
  by_cases hm : id ∈ outs.map (·.1)
  · obtain ⟨x, hx, rfl⟩ := List.mem_map.1 hm
    exact .inr (h x hx)
  · left
    show obOf outs id = .free
    have : ∀ {l : List (Oid × Cells)}, id ∉ l.map (·.1) → obOf l id = .free := by
      intro l
      induction l with
      | nil => intro _; rfl
      | cons x l ih =>
        intro h
        simp only [List.map_cons, List.mem_cons, not_or] at h
        simp only [obOf, oeq_ne h.1, cond_false]
        exact ih h.2
    exact this hm
/-- What comes back is a row under a name of the caller's. -/
theorem Spec.named {f : FuncId} {σ0 : St} (id : Oid) {n : Nat} {e : TypeId} {sz : Nat} {xs : List PV} (h : Spec P f σ0 (outSt (.ref (0, 8) 0 n) [((0, 8), .row e sz xs)])) : Spec P f σ0 (outSt (.ref id 0 n) [(id, .row e sz xs)]) := by
  have h1 : rnOf [(id, (0, 8))] id = (0, 8) := by simp [rnOf, oeq_self]
  have h2 : inO id [id] = true := by simp [inO, oeq_self]
  refine h.mono (Le.outO (I := []) (Pn := []) [(id, (0, 8))] [] (lvRr h1 rfl) ?_ rfl ?_ trivial ⟨⟨?_, ⟨_, ?_, .rowE rfl⟩, ?_⟩, trivial⟩)
  · simp [AV.within, h2]
  · simp [nodupO, inO]
  · rfl
  · rw [h1]; rfl
  · rfl
theorem dis1 {r : AV} {i : Oid} {c : Cells} (h : σ.ob i = .free) : ∀ id, (outSt r [(i, c)]).ob id = .free ∨ σ.ob id = .free := dis_obs (by simp [h])
theorem dis3 {r : AV} {i j k : Oid} {c d e : Cells} (h : σ.ob i = .free) (h2 : σ.ob j = .free) (h3 : σ.ob k = .free) : ∀ id, (outSt r [(i, c), (j, d), (k, e)]).ob id = .free ∨ σ.ob id = .free := dis_obs (by simp [h, h2, h3])
theorem flat1 {r : AV} {i : Oid} {c : Cells} (h : c.Flat) : ∀ id o, (outSt r [(i, c)]).ob id = .obj o → o.Flat := flat_obs (by simpa using h)
theorem flat3 {r : AV} {i j k : Oid} {c d e : Cells} (h : c.Flat) (h2 : d.Flat) (h3 : e.Flat) : ∀ id o, (outSt r [(i, c), (j, d), (k, e)]).ob id = .obj o → o.Flat := flat_obs (by simp [h, h2, h3])
theorem op_lenA {dd : Option Tmp} {ty : TypeId} {T e e' : TypeId} {size bytes sz : Nat} {z : List Value} (x : Operand) (E : Elem P T e size bytes z) {id : Oid} {off n : Nat} {xs : List AV} (hx : σ.eval x = .ref id off n) (hid : σ.ob id = .obj (.rowA e' sz xs)) : Stp P dd (.call { callee := .builtin .len, args := #[x], argTypes := #[T] }) ty σ (σ.put dd (.v (.int .i64 (n : Int)))) := by
  intro o hd ho ht
  subst hd
  refine step_val fun _ ι S a w R => ?_
  obtain ⟨B, h1, _, _⟩ := R.ob id _ hid
  have hr := R.eval x
  rw [hx] at hr
  generalize hu : a.eval x = u at hr
  cases hr with
  | ref h _ =>
    obtain ⟨c, _, _, h5⟩ := h B h1
    cases hg : B.g with
    | none =>
      rw [hg] at h5
      obtain ⟨rfl, rfl, _⟩ := h5
      exact ⟨_, by simp [execOp, ho, resolve, invoke, builtin, Builtin.len_, run_underlying E.und, hu, goInt], .v, fun _ => noHasV⟩
    | some g =>
      rw [hg] at h5
      obtain ⟨o', rfl, _⟩ := h5
      exact ⟨_, by simp [execOp, ho, resolve, invoke, builtin, Builtin.len_, run_underlying E.und, hu, goInt], .v, fun _ => noHasV⟩
/-- nil in a slot as a slice of a call's own whose elements will hold objects. -/
theorem Le.nilSA (t : Nat) (id : Oid) (e : TypeId) (sz : Nat) (ht : σ.fr t = .v (.slice none 0 0)) (hid : σ.ob id = .free) : Le ((σ.setOb id (.obj (.rowA e sz []))).put (some t) (.ref id 0 0)) σ := by
  intro K ι S a w R
  have R1 := R.new (w' := w) (o := .rowA e sz []) (B := ⟨none, 0, sz⟩) hid (below_self w) (fun k hk => by cases hk) ⟨_, setI_same _ _ _, rfl, .inl ⟨rfl, rfl, rfl⟩⟩ (fun i hi => by obtain ⟨_, h, _⟩ := hi; cases h)
  refine ⟨_, S, ⟨R1.keeps, R1.S0, R1.Slt, R1.nt, R1.df, fun u hu => ?_, fun u i hi => ?_, R1.clo, R1.ob, R1.dom, R1.inj, R1.sep, R1.pin, R1.pf⟩⟩
  · show Rep _ _ _ (bif Nat.beq u t then _ else σ.fr u) _
    cases hb : Nat.beq u t with
    | true =>
      have := Nat.eq_of_beq_eq_true hb
      subst this
      have h0 := R1.fr u hu
      rw [show (σ.setOb id (.obj (.rowA e sz []))).fr u = .v (.slice none 0 0) from ht] at h0
      rw [h0.toV]
      refine .ref (fun B' hB => ?_) rfl
      rw [setI_same] at hB
      obtain rfl := Option.some.inj hB
      exact ⟨0, Nat.le_refl _, by unfold maxLen; omega, rfl, rfl, rfl⟩
    | false => exact R1.fr u hu
  · replace hi : Has i (bif Nat.beq u t then _ else σ.fr u) := hi
    cases hb : Nat.beq u t with
    | true => rw [hb] at hi; cases hi; show (σ.setOb id _).ob id ≠ _; rw [St.setOb_same]; intro h; cases h
    | false => rw [hb] at hi; exact R1.cl u i hi
end
end Go.Proofs.Ytkbkmngbenohkaa
