/- The machine's library, part 8. No program text. -/
import Derived.Test.YtkbkmngbenohkaaVoM6
set_option linter.unusedSimpArgs false
set_option linter.unusedVariables false
namespace Go.Proofs.Ytkbkmngbenohkaa
open Go.RowKit

/-- The method of a type that takes its receiver as it is. -/
class MthP (P : Program) (t : TypeId) (name : String) (f : outParam FuncId) : Prop where
  out : ∀ (x : Value) (args : Array Value) (w : World), (callMethod (.iface t x) name args).run P w = .ok (.enter f (#[x] ++ args)) w
/-- The method of a pointer's type that takes what the pointer leads to. -/
class MthV (P : Program) (t : TypeId) (name : String) (f e : outParam TypeId) : Prop where
  out : ∀ (ad : Addr) (w : World), (method (P.types.size + Made.depth) t (.pointer (some ad)) name).run P w = ((loadVar e ad).run P w).andThen fun v w' => .ok (f, v) w'
theorem run_wrapChk {P : Program} {t : TypeId} {ad : Addr} {nm : String} {w : World} : (Builtin.ssaWrapNilChk_ #[t] t #[.pointer (some ad), strVal "", strVal nm]).run P w = .ok (.pointer (some ad)) w := rfl
theorem method_V {P : Program} {n : Nat} {t e f : TypeId} {name : String} {i : TypeInfo} {m : Method} {ad : Addr} {w : World} (hi : P.info? t = some i) (hfind : i.methods.find? (·.name == name) = some m) (hpath : m.path = #[]) (hfunc : m.func = some (f, false))
    (hu : P.underlying t = some (.pointer e)) : (method (n + 1) t (.pointer (some ad)) name).run P w = ((loadVar e ad).run P w).andThen fun v w' => .ok (f, v) w' := by
  have h1 : (typeInfo t).run P w = .ok i w := by simp [typeInfo, Sem.run, hi]
  have h2 : (underlying t).run P w = .ok (.pointer e) w := by simp [underlying, Sem.run, hu]
  simp only [method, Sem.run_bind, h1, Result.andThen_ok, hfind, hpath, hfunc, follow, Sem.run_pure, receiverAt, h2, Place.get]
  simp only [Array.isEmpty_empty, if_true, Sem.run_bind, run_wrapChk, Result.andThen_ok, asAddr, Sem.run_pure]
/-- The facts of a pointer's method that takes what the pointer leads to. -/
def mthOf (P : Program) (t : TypeId) (name : String) : Option (TypeId × TypeId) :=
  match P.info? t with
  | some i => match i.methods.find? (·.name == name) with
    | some m => match m.path.isEmpty, m.func, P.underlying t with
      | true, some (f, false), some (.pointer e) => some (f, e)
      | _, _, _ => none
    | none => none
  | none => none
theorem MthV.of {P : Program} {t e f : TypeId} {name : String} (h : mthOf P t name = some (f, e)) : MthV P t name f e := by
  refine ⟨fun ad w => ?_⟩
  obtain ⟨n, hn⟩ : ∃ n, P.types.size + Made.depth = n + 1 := ⟨_, rfl⟩
  rw [hn]
  unfold mthOf at h
  split at h
  · rename_i i hi
    split at h
    · rename_i m hm
      split at h
      · rename_i f' e' hp hf hu
        cases h
        exact method_V hi hm (by simpa using hp) hf hu
      · cases h
    · cases h
  · cases h
theorem run_callMethod {P : Program} {t : TypeId} {x : Value} {name : String} {args : Array Value} {w : World} : (callMethod (.iface t x) name args).run P w = ((method (P.types.size + Made.depth) t x name).run P w).andThen fun p w' => (callFunc p.1 (#[p.2] ++ args)).run P w' := by
  simp only [callMethod, Sem.run_bind]
  show (Result.ok P w).andThen _ = _
  rw [Result.andThen_ok]
theorem run_inv {P : Program} {o : Oper} {ρ : Operand → Value} {x : Operand} {name : String} {xs : Array Operand} {ats : Array TypeId} (ho : o.op = .call { callee := .invoke x name, args := xs, argTypes := ats }) (w : World) :
    (execOp ρ o).run P w = (callMethod (ρ x) name (xs.map ρ)).run P w := by
  have e1 : (#[ρ x] ++ xs.map ρ)[0]? = some (ρ x) := by rw [Array.getElem?_append_left (by simp)]; rfl
  have e2 : (#[ρ x] ++ xs.map ρ).extract 1 (#[ρ x] ++ xs.map ρ).size = xs.map ρ := by
    apply Array.ext'
    simp
    exact List.take_of_length_le (by simp)
  simp only [execOp, ho, resolve, Sem.run_bind, Sem.run_pure, Result.andThen_ok, invoke, e1, e2]
section
variable {P : Program} {σ : St} {o : Oper} {t : TypeId} {name : String} {f : FuncId} {x : Operand} {xs : Array Operand} {ats : Array TypeId}
theorem avs_get {K : Ctx} {ι : Oid → Option Blk} {S : Nat → Prop} {a : Act} {w : World} (R : RelI K ι S σ a w) {v : AV} {u : Value} (hu : Rep ι S w v u) (xs : Array Operand) :
    (#[u] ++ xs.map a.eval).size = (v :: xs.toList.map σ.eval).length ∧ ∀ (j : Nat) (y : AV), (v :: xs.toList.map σ.eval)[j]? = some y → Rep ι S w y ((#[u] ++ xs.map a.eval).getD j undef) := by
  refine ⟨by simp; omega, fun j y hy => ?_⟩
  cases j with
  | zero =>
    simp at hy
    subst hy
    have : (#[u] ++ xs.map a.eval).getD 0 undef = u := by rw [Array.getD_eq_getD_getElem?, Array.getElem?_append_left (by simp)]; rfl
    rw [this]; exact hu
  | succ j =>
    rw [List.getElem?_cons_succ, List.getElem?_map] at hy
    obtain ⟨z, hz, rfl⟩ := Option.map_eq_some_iff.1 hy
    have hz' : xs[j]? = some z := by simpa using hz
    have : (#[u] ++ xs.map a.eval).getD (j + 1) undef = a.eval z := by
      rw [Array.getD_eq_getD_getElem?, Array.getElem?_append_right (by simp)]
      simp [hz']
    rw [this]; exact R.eval z
theorem EntersAt.invP (M : MthP P t name f) (ho : o.op = .call { callee := .invoke x name, args := xs, argTypes := ats }) {v : AV} (hx : σ.eval x = .ifc t v) : EntersAt P o σ f (v :: xs.toList.map σ.eval) := by
  intro K ι S a w R
  have h1 := R.eval x
  rw [hx] at h1
  generalize hy : a.eval x = y at h1
  cases h1 with
  | ifc hu =>
    rename_i u
    have h2 := avs_get R hu xs
    exact ⟨#[u] ++ xs.map a.eval, by rw [run_inv ho w, hy]; exact M.out u _ w, h2.1, h2.2⟩
theorem EntersAt.invV {e : TypeId} {z : List Value} (M : MthV P t name f e) (T : Ty P e false z) (C : Cbl P f) (ho : o.op = .call { callee := .invoke x name, args := xs, argTypes := ats }) {id : Oid} (hx : σ.eval x = .ifc t (.ptr id 0)) {E : TypeId} {v : AV} {vs : List AV}
    (hid : σ.ob id = .obj (.box E (v :: vs))) : EntersAt P o σ f (v :: xs.toList.map σ.eval) := by
  intro K ι S a w R
  have h1 := R.eval x
  rw [hx] at h1
  generalize hy : a.eval x = y at h1
  cases h1 with
  | ifc hu =>
    rename_i u
    obtain ⟨B, g, hB, hg, _, hrow⟩ := R.ob id _ hid
    have hp : u = .pointer (some ⟨g, 0, none⟩) := by
      cases hu with
      | ptr h _ =>
        obtain ⟨g', hg', rfl⟩ := h B hB
        rw [hg] at hg'
        obtain rfl := Option.some.inj hg'
        rfl
    subst hp
    rcases hrow with ⟨h0, _⟩ | ⟨g', cur, hg', hcur, _, _, hcells⟩
    · rw [hg] at h0; cases h0
    · rw [hg] at hg'
      obtain rfl := Option.some.inj hg'
      obtain ⟨c, hc1, hc2, hc3⟩ := hcells 0 (by simp)
      have hrep := hc3 v rfl
      have h2 := avs_get R hrep xs
      refine ⟨#[c] ++ xs.map a.eval, ?_, h2.1, h2.2⟩
      rw [run_inv ho w, hy, run_callMethod, M.out, run_loadVar1 (P := P) (t := e) (cell_in hcur hc1), Result.andThen_ok, Result.andThen_ok]
      exact C.out _ w
end
section
variable {P : Program} {σ : St} {dd : Option Tmp} {op : Op} {ty : TypeId} {f : FuncId} {avs : List AV}
theorem op_callBHE (hE : ∀ o : Oper, o.op = op → EntersAt P o σ f avs) {args : List AV} {x : Value} (ha : ArgsLv σ (fun _ => true) avs args) (sp : Spec P f (inSt args []) (outSt (.v x) []))
    (hp : AV.pures args = true) : Stp P dd op ty σ (σ.put dd (.v x)) := fun o hd ho ht => by subst hd; exact st_callB (hE o ho) sp ha hp
theorem op_callRE (hE : ∀ o : Oper, o.op = op → EntersAt P o σ f avs) (rn : List (Oid × Oid)) {args : List AV} {ins outs : List (Oid × Cells)} {r : AV} {I Pn : List Oid}
    (ha : ArgsR σ rn avs args) (sp : Spec P f (inStI args ins) (outStI r outs I Pn)) (hins : AllLvI (rnOf rn) σ (fun _ => false) (ins.map (·.1)) ins) (hfr : AllFree σ (rnOf rn) (ins.map (·.1)) outs)
    (hb : (AV.withins (ins.map (·.1)) args && obsWithin (ins.map (·.1)) ins && nodupO ((ins.map (·.1)).map (rnOf rn)) && nodupO (ins.map (·.1)) && nodupO ((outs.map (·.1)).map (rnOf rn)) && nodupO (outs.map (·.1)) && keptB (ins.map (·.1)) Pn outs && r.within (outs.map (·.1)) && obsWithin (outs.map (·.1)) outs) = true) :
    Stp P dd op ty σ ((σ.after (rnOf rn) outs (ins.map (·.1)) I).put dd (r.ren (rnOf rn))) := by
  intro o hd ho ht
  subst hd
  simp only [Bool.and_eq_true] at hb
  obtain ⟨⟨⟨⟨⟨⟨⟨⟨h1, h2⟩, h3⟩, h4⟩, h5⟩, h6⟩, h7⟩, h8⟩, h9⟩ := hb
  exact st_callR (hE o ho) rn ha h1 h2 hins h3 h4 h5 h6 hfr h7 h8 h9 sp
/-- A value as an interface's. -/
theorem op_mkI {t : TypeId} {d : TypeDesc} (x : Operand) (hu : P.underlying t = some d) (hd : (match d with | .interface _ => false | _ => true) = true) {v : AV} (hx : σ.eval x = v) : Stp P dd (.makeInterface t x) ty σ (σ.put dd (.ifc t v)) := by
  intro o h1 h2 h3
  subst h1; subst hx
  intro K ι S a w R
  have hr : (execOp a.eval o).run P w = .ok (.value (.iface t (a.eval x))) w := by
    simp only [execOp, h2, Instr.makeInterface, Sem.run_bind, Sem.run_pure]
    have hu' : (underlying t).run P w = .ok d w := by simp [underlying, Sem.run, hu]
    rw [hu']
    cases d <;> first | rfl | cases hd
  exact yields_value hr ⟨ι, S, R.put o.dst (.ifc (R.eval x)) fun i h => by cases h with | ifc h => exact R.evalHas x h⟩
/-- An interface's value of the type that is asked for. -/
theorem op_tA {t s : TypeId} {d : TypeDesc} (x : Operand) (hu : P.underlying t = some d) (hd : (match d with | .interface _ => false | _ => true) = true) {v : AV} (hx : σ.eval x = .ifc t v) : Stp P dd (.typeAssert x s t false) ty σ (σ.put dd v) := by
  intro o h1 h2 h3
  subst h1
  intro K ι S a w R
  have hv := R.eval x
  have hH : ∀ {i : Oid}, Has i v → σ.ob i ≠ .free := fun {i} h => R.evalHas x (by rw [hx]; exact .ifc h)
  rw [hx] at hv
  generalize hy : a.eval x = y at hv
  cases hv with
  | ifc hu' =>
    rename_i u
    have hr : (execOp a.eval o).run P w = .ok (.value u) w := by
      simp only [execOp, h2, hy, Instr.typeAssert, Sem.run_bind, Sem.run_pure]
      have hu2 : (underlying t).run P w = .ok d w := by simp [underlying, Sem.run, hu]
      rw [hu2]
      cases d <;> first | rfl | (simp [Sem.run_bind, Sem.run_pure]; done) | cases hd
    exact yields_value hr ⟨ι, S, R.put o.dst hu' fun i h => hH h⟩
/-- A byte of a string. -/
theorem op_ixStr {t : TypeId} (x y : Operand) (hu : P.underlying t = some .string) {s : ByteArray} (hx : σ.eval x = .v (.string s)) {k : IntKind} {I : Int} (hy : σ.eval y = .v (.int k I)) (j : Nat) (hI : I = (j : Int)) {b : UInt8} (hb : s[j]? = some b) :
    Stp P dd (.index t x y) ty σ (σ.put dd (.v (.int .u8 (b.toNat : Int)))) := by
  intro o h1 h2 h3
  subst h1; subst hI
  intro K ι S a w R
  have e1 := Rep.evV R hx
  have e2 := Rep.evV R hy
  have hr : (execOp a.eval o).run P w = .ok (.value (.int .u8 (b.toNat : Int))) w := by
    have hu' : (underlying t).run P w = .ok .string w := by simp [underlying, Sem.run, hu]
    simp only [execOp, h2, e1, e2, Instr.index, asIntOf, Sem.run_bind, Sem.run_pure, Result.andThen_ok, hu', Int.toNat_natCast, hb]
    rw [if_pos (Int.natCast_nonneg j)]
    simp [hb]
  exact yields_value hr ⟨ι, S, R.put o.dst .v fun i h => by cases h⟩
theorem op_ixStrN {t : TypeId} (x y : Operand) (hu : P.underlying t = some .string) {s : ByteArray} (hx : σ.eval x = .v (.string s)) {k : IntKind} {I : Int} (hy : σ.eval y = .v (.int k I)) (j : Nat) (hI : I = (j : Int)) {N : Nat} (hs : Nat.ble N s.size = true) (hj : j < N) :
    Stp P dd (.index t x y) ty σ (σ.put dd (.v (.int .u8 ((s[j]?.getD 0).toNat : Int)))) := by
  have h1 : j < s.size := Nat.lt_of_lt_of_le hj (Nat.le_of_ble_eq_true hs)
  have h2 : s[j]? = some (s[j]?.getD 0) := by rw [getElem?_pos s j h1]; rfl
  exact op_ixStr x y hu hx hy j hI h2
end
theorem after_one {σ : St} {id : Oid} {e : TypeId} {sz : Nat} {ds : List PV} (hi : σ.inc id = false) (I : List Oid) : σ.after (rnOf [((0, 9), id)]) [((0, 9), .row e sz ds)] [(0, 9)] I = σ.setOb id (.obj (.row e sz ds)) := by
  refine St.eq rfl (fun _ => rfl) (fun c => ?_) (funext fun c => ?_) rfl
  · show (bif oeq c id then Slot.obj (.row e sz ds) else (bif (oeq c id || false) then Slot.gone else σ.ob c)) = (bif oeq c id then Slot.obj (.row e sz ds) else σ.ob c)
    cases oeq c id <;> rfl
  · show (bif oeq c id then (bif inO (0, 9) I then (σ.inc id || false) else false) else σ.inc c) = σ.inc c
    cases hc : oeq c id with
    | true =>
      rw [oeq_iff.1 hc, hi]
      cases inO (0, 9) I <;> rfl
    | false => rfl
/-- A call that is handed one row to write. -/
theorem op_callF {P : Program} {σ : St} {dd : Option Tmp} {ty : TypeId} {f : FuncId} {xs : Array Operand} {ats : Array TypeId} (C : Cbl P f) {id : Oid} {e : TypeId} {sz : Nat} {cs ds : List PV} {args : List AV} {r : AV} {I : List Oid} (ha : ArgsR σ [((0, 9), id)] (xs.toList.map σ.eval) args)
    (sp : Spec P f (inStI args [((0, 9), .row e sz cs)]) (outStI r [((0, 9), .row e sz ds)] I [(0, 9)])) (hid : σ.ob id = .obj (.row e sz cs)) (hi : σ.inc id = false) (h1 : AV.withins [(0, 9)] args = true) (h2 : r.within [(0, 9)] = true) :
    Stp P dd (.call { callee := .value (.func f), args := xs, argTypes := ats }) ty σ ((σ.setOb id (.obj (.row e sz ds))).put dd (r.ren (rnOf [((0, 9), id)]))) := by
  rw [← after_one hi I]
  refine op_callR C [((0, 9), id)] ha sp ⟨⟨rfl, ⟨_, hid, .rowE rfl⟩, rfl⟩, trivial⟩ ⟨rfl, trivial⟩ ?_
  show (AV.withins [(0, 9)] args && true && true && true && true && true && true && r.within [(0, 9)] && true) = true
  rw [h1, h2]; rfl
theorem aft_other {j i : Nat} {f : Nat} {s x : Slot} (h : j ≠ i) : (bif inO (f, j) [(f, i)] then Slot.gone else (bif oeq (f, j) (f, i) then s else x)) = x := by
  have : oeq (f, j) (f, i) = false := oeq_ne fun e => h (Prod.mk.inj e).2
  simp only [inO, this, Bool.or_false, cond_false]
/-- A name that is free may be said to come from outside. -/
theorem Le.incT {σ : St} (id : Oid) (h : σ.ob id = .free) : Le (σ.setInc id true) σ := by
  intro K ι S a w R
  refine ⟨ι, S, R.keeps, R.S0, R.Slt, R.nt, R.df, R.fr, R.cl, R.clo, R.ob, R.dom, R.inj, fun i B g h1 h2 => ?_, R.pin, R.pf⟩
  obtain ⟨h3, h4, h5⟩ := R.sep i B g h1 h2
  refine ⟨h3, h4, fun h6 => h5 ?_⟩
  have h7 : (bif oeq i id then true else σ.inc i) = false := h6
  cases hb : oeq i id with
  | true => rw [hb] at h7; cases h7
  | false => rw [hb] at h7; exact h7
theorem op_apM {P : Program} {σ : St} {z : List Value} {T e : TypeId} {size bytes : Nat} {dd : Option Tmp} {ty : TypeId} (id' : Oid) (s x : Operand) (E : Elem P T e size bytes z) {id : Oid} {n : Nat} {xs : List PV} (hs : σ.eval s = .ref id 0 n) (hid : σ.ob id = .obj (.row e size xs)) (hl : n * size = xs.length) {m : Nat} {news : List PV} (hx : SrcAV σ (σ.eval x) size m news) (hb : (n + m) * bytes ≤ 140737488355328) (hid' : σ.ob id' = .free)
    {b : Bool} (hi : σ.inc id = b) (hi' : σ.inc id' = b) {ys : List PV} (hy : xs ++ news = ys) {k : Nat} (hk : n + m = k) : Stp P dd (.call { callee := .builtin .append, args := #[s, x], argTypes := #[T, T] }) ty σ (((σ.setOb id .gone).setOb id' (.obj (.row e size ys))).put dd (.ref id' 0 k)) := by
  have h := op_ap (P := P) (dd := dd) (ty := ty) id' s x E hs hid hl hx hb hid' hy hk
  rwa [hi, St.setInc_same (by exact hi')] at h
end Go.Proofs.Ytkbkmngbenohkaa
