/- The machine's steps: reads. No program text. -/
import Derived.Test.YtphlaojoehmhaaaDLib2
set_option linter.unusedSimpArgs false
set_option linter.unusedVariables false
namespace Go.Proofs.Ytphlaojoehmhaaa
open Go.RowKit

mutual
def PV.up : PV → AV
  | .v x => .v x
  | .sl n xs => .sl n xs
  | .ptr o xs => .fp o xs
  | .fn f a b => .fn f (PV.ups a) (PV.ups b)
  | .ifc t p => .ifc t p.up
def PV.ups : List PV → List AV
  | [] => []
  | p :: l => p.up :: PV.ups l
end

theorem ups_get : ∀ (l : List PV) (j : Nat), (PV.ups l)[j]? = (l[j]?).map PV.up
  | [], j => by simp [PV.ups]
  | p :: l, 0 => by simp [PV.ups]
  | p :: l, j + 1 => by simp [PV.ups, ups_get l j]
theorem ups_len : ∀ (l : List PV), (PV.ups l).length = l.length
  | [] => rfl
  | p :: l => by simp [PV.ups, ups_len l]
theorem ups_map : ∀ (l : List PV), PV.ups l = l.map PV.up
  | [] => rfl
  | p :: l => by simp [PV.ups, ups_map l]

mutual
theorem up_has {id : Oid} : ∀ (p : PV), ¬ Has id p.up
  | .v _, h => by simp only [PV.up] at h; cases h
  | .sl _ _, h => by simp only [PV.up] at h; cases h
  | .ptr _ _, h => by simp only [PV.up] at h; cases h
  | .fn f a b, h => by
    simp only [PV.up] at h
    cases h with
    | fn1 hm h => exact ups_has a _ hm h
    | fn2 hm h => exact ups_has b _ hm h
  | .ifc t p, h => by
    simp only [PV.up] at h
    cases h with
    | ifc h => exact up_has p h
theorem ups_has {id : Oid} : ∀ (l : List PV) (a : AV), a ∈ PV.ups l → ¬ Has id a
  | [], a, h => by simp [PV.ups] at h
  | p :: l, a, h => by
    simp only [PV.ups, List.mem_cons] at h
    rcases h with rfl | h
    · exact up_has p
    · exact ups_has l a h
end

theorem Rd.up {ι : Oid → Option Blk} {S : Nat → Prop} {w : World} {p : PV} {u : Value} (h : Rd S w p u) : Rep ι S w p.up u := by
  induction h with
  | v h1 => simp only [PV.up]; exact .v
  | sl0 a b c => simp only [PV.up]; exact .sl (.sl0 a b c)
  | sl us h0 h1 hs h2 h3 ih => simp only [PV.up]; exact .sl (.sl us h0 h1 hs h2 h3)
  | ptr us hs h2 h3 ih => simp only [PV.up]; exact .fp (.ptr us hs h2 h3)
  | fn h1 h2 h3 h4 i3 i4 =>
    simp only [PV.up]
    refine .fn (by rw [ups_len]; exact h1) (by rw [ups_len]; exact h2) (fun j q hq => ?_) fun j q hq => ?_
    · rw [ups_get] at hq
      obtain ⟨p, hp, rfl⟩ := Option.map_eq_some_iff.1 hq
      exact i3 j p hp
    · rw [ups_get] at hq
      obtain ⟨p, hp, rfl⟩ := Option.map_eq_some_iff.1 hq
      exact i4 j p hp
  | ifc h ih => simp only [PV.up]; exact .ifc ih

def AV.down : AV → Option PV
  | .v x => some (.v x)
  | .sl n xs => some (.sl n xs)
  | .fp o xs => some (.ptr o xs)
  | _ => none
theorem Rep.down {ι : Oid → Option Blk} {S : Nat → Prop} {w : World} {a : AV} {u : Value} (h : Rep ι S w a u) {p : PV} (hp : a.down = some p) (h1 : u.oneCell' = true) : Rd S w p u := by
  cases h <;> simp [AV.down] at hp <;> subst hp
  · exact .v h1
  · assumption
  · assumption

/-- The cells that a value takes. -/
def AV.cells : AV → Option (List AV)
  | .agg xs => some xs
  | .tup _ => none
  | .dead => none
  | .v x => if x.oneCell' = true then some [.v x] else none
  | a => some [a]

theorem Rep.one {ι : Oid → Option Blk} {S : Nat → Prop} {w : World} {a : AV} {u : Value} (h : Rep ι S w a u) (ha : a.cells = some [a]) : u.oneCell' = true := by
  cases h with
  | dead => simp [AV.cells] at ha
  | v =>
    simp only [AV.cells] at ha
    split at ha
    · assumption
    · cases ha
  | sl h => exact h.one
  | fp h => exact h.one
  | ref _ h1 => exact h1
  | ptr _ h1 => exact h1
  | agg _ _ _ =>
    simp only [AV.cells] at ha
    injection ha with ha
    have := congrArg SizeOf.sizeOf ha
    simp at this
    omega
  | fn _ _ _ _ => rfl
  | ifc _ => rfl
  | z => rfl
  | tup _ _ => simp [AV.cells] at ha

theorem Rep.cells {ι : Oid → Option Blk} {S : Nat → Prop} {w : World} {a : AV} {u : Value} (h : Rep ι S w a u) {xs : List AV} (ha : a.cells = some xs) :
    u.cells.size = xs.length ∧ (∀ x ∈ u.cells.toList, x.oneCell' = true) ∧ ∀ j b, xs[j]? = some b → Rep ι S w b (u.cells.getD j undef) := by
  have single : a.cells = some [a] → u.oneCell' = true → xs = [a] → u.cells.size = xs.length ∧ (∀ x ∈ u.cells.toList, x.oneCell' = true) ∧ ∀ j b, xs[j]? = some b → Rep ι S w b (u.cells.getD j undef) := by
    intro h0 h1 h2
    subst h2
    have hc : u.cells = #[u] := cells_one h1
    rw [hc]
    refine ⟨rfl, by simpa using h1, fun j b hb => ?_⟩
    cases j with
    | zero => simp at hb; subst hb; simpa using h
    | succ j => simp at hb
  cases h with
  | dead => simp [AV.cells] at ha
  | v =>
    simp only [AV.cells] at ha
    split at ha
    · rename_i h1
      exact single (by simp [AV.cells, h1]) h1 (Option.some.inj ha).symm
    · cases ha
  | sl h0 => exact single rfl h0.one (Option.some.inj ha).symm
  | fp h0 => exact single rfl h0.one (Option.some.inj ha).symm
  | ref _ h1 => exact single rfl h1 (Option.some.inj ha).symm
  | ptr _ h1 => exact single rfl h1 (Option.some.inj ha).symm
  | agg h1 h2 h3 => obtain rfl := Option.some.inj ha; exact ⟨h1, h2, h3⟩
  | fn _ _ _ _ => exact single rfl rfl (Option.some.inj ha).symm
  | ifc _ => exact single rfl rfl (Option.some.inj ha).symm
  | z => exact single rfl rfl (Option.some.inj ha).symm
  | tup _ _ => simp [AV.cells] at ha
theorem cells_has {a : AV} {xs : List AV} (ha : a.cells = some xs) {id : Oid} {b : AV} (hb : b ∈ xs) (h : Has id b) : Has id a := by
  have single : xs = [a] → Has id a := fun e => by subst e; simp at hb; subst hb; exact h
  cases a <;> simp only [AV.cells] at ha <;> first
    | (obtain rfl := Option.some.inj ha; exact .agg hb h)
    | exact single (Option.some.inj ha).symm
    | (split at ha <;> first | exact single (Option.some.inj ha).symm | cases ha)
    | cases ha

/-- What o does in the state σ leaves σ'. -/
def Step (P : Program) (o : Oper) (σ σ' : St) : Prop :=
  ∀ K ι S a w, RelI K ι S σ a w → Yields P o a.eval w fun v w' => ∃ ι' S', RelI K ι' S' σ' (a.put o.dst v) w'

section
variable {P : Program} {o : Oper} {σ : St} {av : AV}

theorem step_val (h : ∀ K ι S a w, RelI K ι S σ a w → ∃ v, (execOp a.eval o).run P w = .ok (.value v) w ∧ Rep ι S w av v ∧ ∀ id, Has id av → σ.ob id ≠ .free) : Step P o σ (σ.put o.dst av) :=
  fun K ι S a w R => let ⟨_, h1, h2, h3⟩ := h K ι S a w R; yields_value h1 ⟨ι, S, R.put o.dst h2 h3⟩

theorem noHasV {x : Value} {id : Oid} {Q : Prop} : Has id (.v x) → Q := fun h => by cases h
theorem noHasS {n : Nat} {xs : List PV} {id : Oid} {Q : Prop} : Has id (.sl n xs) → Q := fun h => by cases h
theorem noHasP {n : Nat} {xs : List PV} {id : Oid} {Q : Prop} : Has id (.fp n xs) → Q := fun h => by cases h

theorem st_mv (x : Operand) (ho : o.op = .move x) (hx : σ.eval x = av) : Step P o σ (σ.put o.dst av) :=
  step_val fun _ _ _ a _ R => ⟨a.eval x, by simp [execOp, ho], hx ▸ R.eval x, fun _ h => R.evalHas x (by rw [hx]; exact h)⟩
theorem st_as (x : Operand) (ho : o.op = .assign x) (hx : σ.eval x = av) : Step P o σ (σ.put o.dst av) :=
  step_val fun _ _ _ a _ R => ⟨a.eval x, by simp [execOp, ho], hx ▸ R.eval x, fun _ h => R.evalHas x (by rw [hx]; exact h)⟩

theorem Rep.toV {ι : Oid → Option Blk} {S : Nat → Prop} {w : World} {x u : Value} (h : Rep ι S w (.v x) u) : u = x := by cases h; rfl

theorem st_pick {b : Bool} (c x y : Operand) (ho : o.op = .pick c x y) (hc : σ.eval c = .v (.bool b)) (hx : σ.eval (if b then x else y) = av) : Step P o σ (σ.put o.dst av) := by
  refine step_val fun _ _ _ a _ R => ⟨a.eval (if b then x else y), ?_, hx ▸ R.eval _, fun _ h => R.evalHas _ (by rw [hx]; exact h)⟩
  have h := R.eval c
  rw [hc] at h
  have h := h.toV
  cases b <;> simp [execOp, ho, h, asBool]

theorem st_nilc (x : Operand) (ho : o.op = .nilCheck x) {off : Nat} {xs : List PV} (hx : σ.eval x = .fp off xs) : Step P o σ (σ.put o.dst (.fp off xs)) := by
  refine step_val fun _ _ _ a _ R => ⟨a.eval x, ?_, hx ▸ R.eval x, fun _ => noHasP⟩
  have h := R.eval x
  rw [hx] at h
  generalize hv : a.eval x = v at h
  cases h with
  | fp h => cases h with
    | ptr us hS h2 h3 => simp [execOp, ho, hv]

theorem RelI.ptrB {K : Ctx} {ι : Oid → Option Blk} {S : Nat → Prop} {σ : St} {a : Act} {w : World} (R : RelI K ι S σ a w) {id : Oid} {oc : Cells} (hid : σ.ob id = .obj oc) {x : Operand} {off : Nat} (hx : σ.eval x = .ptr id off) :
    ∃ B g, ι id = some B ∧ B.g = some g ∧ a.eval x = .pointer (some ⟨g, off, none⟩) := by
  have ho := R.ob id oc hid
  have hp := R.eval x
  rw [hx] at hp
  cases hp with
  | ptr h _ =>
    cases oc with
    | row e sz xs =>
      obtain ⟨B, h1, _⟩ := ho
      obtain ⟨g, h2, h3⟩ := h B h1
      exact ⟨B, g, h1, h2, h3⟩
    | box e xs =>
      obtain ⟨B, _, h1, _⟩ := ho
      obtain ⟨g, h2, h3⟩ := h B h1
      exact ⟨B, g, h1, h2, h3⟩

theorem st_nilp (x : Operand) (ho : o.op = .nilCheck x) {id : Oid} {off : Nat} {oc : Cells} (hx : σ.eval x = .ptr id off) (hid : σ.ob id = .obj oc) : Step P o σ (σ.put o.dst (.ptr id off)) := by
  refine step_val fun _ _ _ a _ R => ⟨a.eval x, ?_, hx ▸ R.eval x, fun _ h => R.evalHas x (by rw [hx]; exact h)⟩
  obtain ⟨B, g, h1, h2, h3⟩ := R.ptrB hid hx
  simp [execOp, ho, h3]

/-! fields' and elements' addresses -/
theorem st_fldP {T : TypeId} {f off : Nat} (x : Operand) (ho : o.op = .fieldAddr T x f) (F : Fld P T f off) {id : Oid} {of0 of1 : Nat} {oc : Cells} (hx : σ.eval x = .ptr id of0) (hid : σ.ob id = .obj oc) (he : of0 + off = of1) : Step P o σ (σ.put o.dst (.ptr id of1)) := by
  subst he
  refine step_val fun _ ι S a w R => ?_
  obtain ⟨B, g, h1, h2, h3⟩ := R.ptrB hid hx
  refine ⟨_, run_fld x ho h3, ?_, fun i h => R.evalHas x (by rw [hx]; cases h; exact .ptr)⟩
  rw [Addr.add_lit]
  refine .ptr (fun B' hB' => ?_) rfl
  rw [h1] at hB'
  obtain rfl := Option.some.inj hB'
  exact ⟨g, h2, rfl⟩

theorem st_fldF {T : TypeId} {f off : Nat} (x : Operand) (ho : o.op = .fieldAddr T x f) (F : Fld P T f off) {of0 of1 : Nat} {xs : List PV} (hx : σ.eval x = .fp of0 xs) (he : of0 + off = of1) : Step P o σ (σ.put o.dst (.fp of1 xs)) := by
  subst he
  refine step_val fun _ ι S a w R => ?_
  have hp := R.eval x
  rw [hx] at hp
  cases hp with
  | fp h =>
    generalize hv : a.eval x = v at h
    cases h with
    | ptr us hS h2 h3 =>
      refine ⟨_, run_fld x ho hv, ?_, fun _ => noHasP⟩
      rw [Addr.add_lit, Nat.add_assoc]
      exact .fp (.ptr us hS h2 h3)

theorem st_ixS {T e : TypeId} {size bytes : Nat} {z : List Value} (x y : Operand) (ho : o.op = .indexAddr T x y) (E : Elem P T e size bytes z) {n : Nat} {xs : List PV} (hx : σ.eval x = .sl n xs) {k : IntKind} {I : Int} (hy : σ.eval y = .v (.int k I))
    (j : Nat) (hI : I = (j : Int)) (hj : j < n) (hne : 0 < xs.length) {off : Nat} (he : j * size = off) : Step P o σ (σ.put o.dst (.fp off xs)) := by
  subst he; subst hI
  refine step_val fun _ ι S a w R => ?_
  have hp := R.eval x
  have hi := R.eval y
  rw [hx] at hp
  rw [hy] at hi
  have hi := hi.toV
  obtain ⟨inf, zv, hinf, _, hs, _⟩ := E.info
  cases hp with
  | sl h =>
    generalize hv : a.eval x = v at h
    cases h with
    | sl0 => exact absurd hne (by simp)
    | sl us h0 h1 hS h2 h3 =>
      refine ⟨_, ?_, .fp (.ptr us hS h2 h3), fun _ => noHasP⟩
      simp [execOp, ho, Instr.indexAt, hv, hi, asIntOf, run_underlying E.und, sizeOf, typeInfo, hinf, hs, hj, Addr.add_lit]

theorem RelI.refB {K : Ctx} {ι : Oid → Option Blk} {S : Nat → Prop} {σ : St} {a : Act} {w : World} (R : RelI K ι S σ a w) {id : Oid} {e : TypeId} {sz : Nat} {xs : List PV} (hid : σ.ob id = .obj (.row e sz xs)) {x : Operand} {off n : Nat} (hx : σ.eval x = .ref id off n) :
    ∃ B, ι id = some B ∧ B.sz = sz ∧ HdrOk B off n (a.eval x) ∧ RowOk w B e xs.length fun j u => ∀ p, xs[j]? = some p → Rd S w p u := by
  obtain ⟨B, h1, h2, h3⟩ := R.ob id _ hid
  have hp := R.eval x
  rw [hx] at hp
  cases hp with
  | ref h _ => exact ⟨B, h1, h2, h B h1, h3⟩

theorem st_ixR {T e e' : TypeId} {size bytes sz : Nat} {z : List Value} (x y : Operand) (ho : o.op = .indexAddr T x y) (E : Elem P T e size bytes z) {id : Oid} {of0 n : Nat} {xs : List PV} (hx : σ.eval x = .ref id of0 n) (hid : σ.ob id = .obj (.row e' sz xs))
    {k : IntKind} {I : Int} (hy : σ.eval y = .v (.int k I)) (j : Nat) (hI : I = (j : Int)) (hj : j < n) {off : Nat} (he : of0 + j * size = off) : Step P o σ (σ.put o.dst (.ptr id off)) := by
  subst he; subst hI
  refine step_val fun _ ι S a w R => ?_
  have hi := R.eval y
  rw [hy] at hi
  have hi := hi.toV
  obtain ⟨inf, zv, hinf, _, hs, _⟩ := E.info
  obtain ⟨B, h1, h2, ⟨c, h3, h4, h5⟩, _⟩ := R.refB hid hx
  cases hg : B.g with
  | none => rw [hg] at h5; obtain ⟨_, rfl, _⟩ := h5; omega
  | some g =>
    rw [hg] at h5
    obtain ⟨o', h6, h7, _⟩ := h5
    obtain rfl := h7.resolve_right (by omega)
    refine ⟨.pointer (some ⟨g, o' + j * size, none⟩), ?_, .ptr (fun B' hB' => ?_) rfl, fun i h => R.evalHas x (by rw [hx]; cases h; exact .ref)⟩
    · simp [execOp, ho, Instr.indexAt, h6, hi, asIntOf, run_underlying E.und, sizeOf, typeInfo, hinf, hs, hj, Addr.add_lit]
    · rw [h1] at hB'
      obtain rfl := Option.some.inj hB'
      exact ⟨g, hg, rfl⟩

/-! loads -/
theorem RelI.boxB {K : Ctx} {ι : Oid → Option Blk} {S : Nat → Prop} {σ : St} {a : Act} {w : World} (R : RelI K ι S σ a w) {id : Oid} {e : TypeId} {xs : List AV} (hid : σ.ob id = .obj (.box e xs)) {x : Operand} {off : Nat} (hx : σ.eval x = .ptr id off) :
    ∃ B g cur, ι id = some B ∧ B.g = some g ∧ a.eval x = .pointer (some ⟨g, off, none⟩) ∧ w.heap[g]? = some (.cells cur e (0, 0)) ∧ cur.size = xs.length ∧ (∀ (j : Nat) (b : AV), xs[j]? = some b → ∃ u, cur[j]? = some u ∧ u.oneCell' = true ∧ Rep ι S w b u) := by
  obtain ⟨B, g, h1, h2, h3⟩ := R.ptrB hid hx
  obtain ⟨B', g', h4, h5, h6, h7⟩ := R.ob id _ hid
  rw [h1] at h4
  obtain rfl := Option.some.inj h4
  rcases h7 with ⟨h8, _⟩ | ⟨g2, cur, h8, h9, h10, h11, h12⟩
  · rw [h2] at h8; cases h8
  · rw [h2] at h8
    obtain rfl := Option.some.inj h8
    refine ⟨B, g, cur, h1, h2, h3, h9, by omega, fun j b hb => ?_⟩
    obtain ⟨u, hu, hu1, hu2⟩ := h12 j (List.getElem?_eq_some_iff.1 hb).1
    exact ⟨u, hu, hu1, hu2 b hb⟩

theorem RelI.rowB {K : Ctx} {ι : Oid → Option Blk} {S : Nat → Prop} {σ : St} {a : Act} {w : World} (R : RelI K ι S σ a w) {id : Oid} {e : TypeId} {sz : Nat} {xs : List PV} (hid : σ.ob id = .obj (.row e sz xs)) {x : Operand} {off : Nat} (hx : σ.eval x = .ptr id off) :
    ∃ B g cur, ι id = some B ∧ B.g = some g ∧ a.eval x = .pointer (some ⟨g, off, none⟩) ∧ w.heap[g]? = some (.cells cur e (0, 0)) ∧ B.sz = sz ∧ cur.size = B.tot ∧ xs.length ≤ cur.size ∧ (∀ (j : Nat) (b : PV), xs[j]? = some b → ∃ u, cur[j]? = some u ∧ u.oneCell' = true ∧ Rd S w b u) := by
  obtain ⟨B, g, h1, h2, h3⟩ := R.ptrB hid hx
  obtain ⟨B', h4, h5, h7⟩ := R.ob id _ hid
  rw [h1] at h4
  obtain rfl := Option.some.inj h4
  rcases h7 with ⟨h8, _⟩ | ⟨g2, cur, h8, h9, h10, h11, h12⟩
  · rw [h2] at h8; cases h8
  · rw [h2] at h8
    obtain rfl := Option.some.inj h8
    refine ⟨B, g, cur, h1, h2, h3, h9, h5, h10, h11, fun j b hb => ?_⟩
    obtain ⟨u, hu, hu1, hu2⟩ := h12 j (List.getElem?_eq_some_iff.1 hb).1
    exact ⟨u, hu, hu1, hu2 b hb⟩

theorem cell_in {w : World} {g off : Nat} {cur : Array Value} {e : TypeId} {u : Value} (hg : w.heap[g]? = some (.cells cur e (0, 0))) (hu : cur[off]? = some u) : w.cell? ⟨g, off, none⟩ = some u := by
  simp [World.cell?, hg, hu]

variable {t : TypeId} {z : List Value}
theorem st_ldB (x : Operand) (ho : o.op = .load t x) (T : Ty P t false z) {id : Oid} {off : Nat} (hx : σ.eval x = .ptr id off) {e : TypeId} {xs : List AV} (hid : σ.ob id = .obj (.box e xs)) (hv : xs[off]? = some av) : Step P o σ (σ.put o.dst av) := by
  refine step_val fun _ ι S a w R => ?_
  obtain ⟨B, g, cur, h1, h2, h3, h4, h5, h6⟩ := R.boxB hid hx
  obtain ⟨u, hu, hu1, hu2⟩ := h6 off av hv
  exact ⟨u, run_ld1 x ho h3 (cell_in h4 hu), hu2, fun i h => R.clo id _ i hid ⟨av, List.mem_of_getElem? hv, h⟩⟩

theorem st_ldR (x : Operand) (ho : o.op = .load t x) (T : Ty P t false z) {id : Oid} {off : Nat} (hx : σ.eval x = .ptr id off) {e : TypeId} {sz : Nat} {xs : List PV} (hid : σ.ob id = .obj (.row e sz xs)) {p : PV} (hv : xs[off]? = some p) (ha : p.up = av) : Step P o σ (σ.put o.dst av) := by
  subst ha
  refine step_val fun _ ι S a w R => ?_
  obtain ⟨B, g, cur, h1, h2, h3, h4, _, h5, h6, h7⟩ := R.rowB hid hx
  obtain ⟨u, hu, hu1, hu2⟩ := h7 off p hv
  exact ⟨u, run_ld1 x ho h3 (cell_in h4 hu), hu2.up, fun i h => absurd h (up_has p)⟩

theorem st_ldF (x : Operand) (ho : o.op = .load t x) (T : Ty P t false z) {off : Nat} {xs : List PV} (hx : σ.eval x = .fp off xs) {p : PV} (hv : xs[off]? = some p) (ha : p.up = av) : Step P o σ (σ.put o.dst av) := by
  subst ha
  refine step_val fun _ ι S a w R => ?_
  have hp := R.eval x
  rw [hx] at hp
  cases hp with
  | fp h =>
    generalize hve : a.eval x = v at h
    cases h with
    | ptr us hS h2 h3 => exact ⟨us off, run_ld1 x ho hve (h2 off p hv), (h3 off p hv).up, fun i h => absurd h (up_has p)⟩

theorem cellsAt_of {w : World} {g off k : Nat} {us : List Value} (h : ∀ j, j < k → ∃ u, w.cell? ⟨g, off + j, none⟩ = some u ∧ us[j]? = some u) (hl : us.length = k) : CellsAt w ⟨g, off, none⟩ us := by
  intro j u hu
  have hj : j < k := by rw [← hl]; exact (List.getElem?_eq_some_iff.1 hu).1
  obtain ⟨u', h1, h2⟩ := h j hj
  rw [hu] at h2
  obtain rfl := Option.some.inj h2
  rw [Addr.add_lit]; exact h1

/-- Values for a list of positions. -/
theorem list_of {α : Type} {R : Nat → α → Prop} : ∀ (k : Nat), (∀ j, j < k → ∃ u, R j u) → ∃ us : List α, us.length = k ∧ ∀ j u, us[j]? = some u → R j u
  | 0, _ => ⟨[], rfl, by simp⟩
  | k + 1, h => by
    obtain ⟨us, h1, h2⟩ := list_of k fun j hj => h j (by omega)
    obtain ⟨u, hu⟩ := h k (by omega)
    refine ⟨us ++ [u], by simp [h1], fun j v hv => ?_⟩
    rw [List.getElem?_append] at hv
    split at hv
    · exact h2 j v hv
    · rename_i hj
      have : j - us.length = 0 := by
        have := (List.getElem?_eq_some_iff.1 hv).1
        simp at this; omega
      rw [this] at hv
      simp at hv
      subst hv
      have : j = k := by omega
      subst this; exact hu

/-- A struct or an array that is loaded whole: from k cells. -/
theorem st_ldA_aux (x : Operand) (ho : o.op = .load t x) (T : Ty P t true z) {xs : List AV} (hl : xs.length = z.length)
    (h : ∀ K ι S a w, RelI K ι S σ a w → ∃ g off, a.eval x = .pointer (some ⟨g, off, none⟩) ∧ (∀ j b, xs[j]? = some b → ∃ u, w.cell? ⟨g, off + j, none⟩ = some u ∧ u.oneCell' = true ∧ Rep ι S w b u) ∧ ∀ i, (∃ b ∈ xs, Has i b) → σ.ob i ≠ .free) : Step P o σ (σ.put o.dst (.agg xs)) := by
  refine step_val fun K ι S a w R => ?_
  obtain ⟨g, off, h1, h2, h3⟩ := h K ι S a w R
  obtain ⟨us, hu1, hu2⟩ := list_of (R := fun j u => w.cell? ⟨g, off + j, none⟩ = some u ∧ u.oneCell' = true ∧ ∀ b, xs[j]? = some b → Rep ι S w b u) xs.length fun j hj => by
    obtain ⟨u, a1, a2, a3⟩ := h2 j _ (List.getElem?_eq_getElem hj)
    exact ⟨u, a1, a2, fun b hb => by rw [List.getElem?_eq_getElem hj] at hb; obtain rfl := Option.some.inj hb; exact a3⟩
  refine ⟨.agg us.toArray, run_ldA x ho h1 (fun j u hu => by rw [Addr.add_lit]; exact (hu2 j u hu).1) (by omega), .agg (by simpa using hu1) (fun u hu => ?_) (fun j b hb => ?_), fun i hi => ?_⟩
  · obtain ⟨j, hj, rfl⟩ := List.getElem_of_mem (by simpa using hu)
    exact (hu2 j _ (List.getElem?_eq_getElem hj)).2.1
  · have hj : j < us.length := by rw [hu1]; exact (List.getElem?_eq_some_iff.1 hb).1
    have := (hu2 j _ (List.getElem?_eq_getElem hj)).2.2 b hb
    simpa [hj] using this
  · cases hi with
    | agg hm h => exact h3 i ⟨_, hm, h⟩

theorem st_ldBA (x : Operand) (ho : o.op = .load t x) (T : Ty P t true z) {id : Oid} {off : Nat} (hx : σ.eval x = .ptr id off) {e : TypeId} {xs : List AV} (hid : σ.ob id = .obj (.box e xs)) {ys : List AV} (hy : (xs.drop off).take z.length = ys) (hl : ys.length = z.length) : Step P o σ (σ.put o.dst (.agg ys)) := by
  refine st_ldA_aux x ho T hl fun K ι S a w R => ?_
  obtain ⟨B, g, cur, h1, h2, h3, h4, h5, h6⟩ := R.boxB hid hx
  subst hy
  refine ⟨g, off, h3, fun j b hb => ?_, fun i ⟨b, hb, hi⟩ => R.clo id _ i hid ⟨b, List.mem_of_mem_drop (List.mem_of_mem_take hb), hi⟩⟩
  rw [List.getElem?_take] at hb
  split at hb
  · rw [List.getElem?_drop] at hb
    obtain ⟨u, a1, a2, a3⟩ := h6 _ b hb
    exact ⟨u, cell_in h4 a1, a2, a3⟩
  · cases hb

theorem st_ldRA (x : Operand) (ho : o.op = .load t x) (T : Ty P t true z) {id : Oid} {off : Nat} (hx : σ.eval x = .ptr id off) {e : TypeId} {sz : Nat} {xs : List PV} (hid : σ.ob id = .obj (.row e sz xs)) {ys : List AV} (hy : PV.ups ((xs.drop off).take z.length) = ys) (hl : ys.length = z.length) : Step P o σ (σ.put o.dst (.agg ys)) := by
  refine st_ldA_aux x ho T hl fun K ι S a w R => ?_
  obtain ⟨B, g, cur, h1, h2, h3, h4, _, h5, h6, h7⟩ := R.rowB hid hx
  subst hy
  refine ⟨g, off, h3, fun j b hb => ?_, fun i ⟨b, hb, hi⟩ => absurd hi (ups_has _ b hb)⟩
  rw [ups_get, List.getElem?_take] at hb
  split at hb
  · rw [List.getElem?_drop] at hb
    obtain ⟨p, hp, rfl⟩ := Option.map_eq_some_iff.1 hb
    obtain ⟨u, a1, a2, a3⟩ := h7 _ p hp
    exact ⟨u, cell_in h4 a1, a2, a3.up⟩
  · cases hb

theorem st_ldFA (x : Operand) (ho : o.op = .load t x) (T : Ty P t true z) {off : Nat} {xs : List PV} (hx : σ.eval x = .fp off xs) {ys : List AV} (hy : PV.ups ((xs.drop off).take z.length) = ys) (hl : ys.length = z.length) : Step P o σ (σ.put o.dst (.agg ys)) := by
  refine st_ldA_aux x ho T hl fun K ι S a w R => ?_
  have hp := R.eval x
  rw [hx] at hp
  subst hy
  cases hp with
  | fp h =>
    generalize hve : a.eval x = v at h
    cases h with
    | ptr us hS h2 h3 =>
      refine ⟨_, _, rfl, fun j b hb => ?_, fun i ⟨b, hb, hi⟩ => absurd hi (ups_has _ b hb)⟩
      rw [ups_get, List.getElem?_take] at hb
      split at hb
      · rw [List.getElem?_drop] at hb
        obtain ⟨p, hp, rfl⟩ := Option.map_eq_some_iff.1 hb
        exact ⟨us (off + j), by rw [Nat.add_assoc]; exact h2 _ p hp, (h3 _ p hp).one, (h3 _ p hp).up⟩
      · cases hb

/-! parts of a struct's value -/
theorem st_fv1 {T : TypeId} {f off sz : Nat} (x : Operand) (ho : o.op = .field T x f) (F : Fvl P T f off false sz) {xs : List AV} (hx : σ.eval x = .agg xs) (hv : xs[off]? = some av) : Step P o σ (σ.put o.dst av) := by
  refine step_val fun _ ι S a w R => ?_
  have hp := R.eval x
  rw [hx] at hp
  generalize hve : a.eval x = v at hp
  cases hp with
  | agg h1 h2 h3 =>
    rename_i us
    have hlt : off < us.size := by rw [h1]; exact (List.getElem?_eq_some_iff.1 hv).1
    refine ⟨us[off], run_fv1 x ho hve (by simp [hlt]), by have := h3 off av hv; simpa [hlt] using this, fun i h => R.evalHas x (by rw [hx]; exact .agg (List.mem_of_getElem? hv) h)⟩

theorem st_fvA {T : TypeId} {f off sz : Nat} (x : Operand) (ho : o.op = .field T x f) (F : Fvl P T f off true sz) {xs : List AV} (hx : σ.eval x = .agg xs) {ys : List AV} (hy : (xs.drop off).take sz = ys) (hl : ys.length = sz) : Step P o σ (σ.put o.dst (.agg ys)) := by
  refine step_val fun _ ι S a w R => ?_
  have hp := R.eval x
  rw [hx] at hp
  generalize hve : a.eval x = v at hp
  subst hy
  cases hp with
  | agg h1 h2 h3 =>
    rename_i us
    have hle : off + sz ≤ us.size ∨ sz = 0 := by simp at hl; omega
    refine ⟨_, run_fvA x ho hve, .agg ?_ (fun u hu => h2 u ?_) (fun j b hb => ?_), fun i h => ?_⟩
    · simp at hl ⊢; omega
    · simp only [Array.toList_extract, List.extract_eq_take_drop] at hu
      exact List.mem_of_mem_drop (List.mem_of_mem_take hu)
    · rw [List.getElem?_take] at hb
      split at hb
      · rename_i hj
        rw [List.getElem?_drop] at hb
        have := h3 _ b hb
        have e : (us.extract off (off + sz)).getD j undef = us.getD (off + j) undef := by
          simp [Array.getElem?_extract]
          rw [if_pos (by omega)]
        rw [e]; exact this
      · cases hb
    · cases h with
      | agg hm h => exact R.evalHas x (by rw [hx]; exact .agg (List.mem_of_mem_drop (List.mem_of_mem_take hm)) h)

/-! lengths -/
theorem st_lenS {T e : TypeId} {size bytes : Nat} (x : Operand) (ho : o.op = .call { callee := .builtin .len, args := #[x], argTypes := #[T] }) (E : Elem P T e size bytes z) {n : Nat} {xs : List PV} (hx : σ.eval x = .sl n xs) : Step P o σ (σ.put o.dst (.v (.int .i64 (n : Int)))) := by
  refine step_val fun _ ι S a w R => ?_
  have hp := R.eval x
  rw [hx] at hp
  have : ∃ ao c, a.eval x = .slice ao n c := by
    cases hp with
    | sl h =>
      generalize a.eval x = v at h
      cases h <;> exact ⟨_, _, rfl⟩
  obtain ⟨ao, c, hv⟩ := this
  exact ⟨_, by simp [execOp, ho, resolve, invoke, builtin, Builtin.len_, run_underlying E.und, hv, goInt], .v, fun _ => noHasV⟩
theorem st_lenN {T e : TypeId} {size bytes : Nat} (x : Operand) (ho : o.op = .call { callee := .builtin .len, args := #[x], argTypes := #[T] }) (E : Elem P T e size bytes z) (hx : σ.eval x = .v (.slice none 0 0)) : Step P o σ (σ.put o.dst (.v (.int .i64 0))) := by
  refine step_val fun _ ι S a w R => ?_
  have hp := R.eval x
  rw [hx] at hp
  exact ⟨_, by simp [execOp, ho, resolve, invoke, builtin, Builtin.len_, run_underlying E.und, hp.toV, goInt], .v, fun _ => noHasV⟩
theorem st_lenR {T e e' : TypeId} {size bytes sz : Nat} (x : Operand) (ho : o.op = .call { callee := .builtin .len, args := #[x], argTypes := #[T] }) (E : Elem P T e size bytes z) {id : Oid} {off n : Nat} {xs : List PV} (hx : σ.eval x = .ref id off n) (hid : σ.ob id = .obj (.row e' sz xs)) : Step P o σ (σ.put o.dst (.v (.int .i64 (n : Int)))) := by
  refine step_val fun _ ι S a w R => ?_
  obtain ⟨B, h1, h2, ⟨c, h3, h4, h5⟩, _⟩ := R.refB hid hx
  have : ∃ ao c, a.eval x = .slice ao n c := by
    cases hg : B.g with
    | none => rw [hg] at h5; obtain ⟨h6, rfl, _⟩ := h5; exact ⟨_, _, h6⟩
    | some g => rw [hg] at h5; obtain ⟨o', h6, _⟩ := h5; exact ⟨_, _, h6⟩
  obtain ⟨ao, c, hv⟩ := this
  exact ⟨_, by simp [execOp, ho, resolve, invoke, builtin, Builtin.len_, run_underlying E.und, hv, goInt], .v, fun _ => noHasV⟩
end
end Go.Proofs.Ytphlaojoehmhaaa
