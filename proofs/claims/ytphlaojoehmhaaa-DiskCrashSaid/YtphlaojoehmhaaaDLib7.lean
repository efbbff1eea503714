/- The machine's rules: functions and calls. No program text. -/
import Derived.Test.YtphlaojoehmhaaaDLib6
set_option linter.unusedSimpArgs false
set_option linter.unusedVariables false
namespace Go.Proofs.Ytphlaojoehmhaaa
open Go.RowKit

def obOf : List (Oid × Cells) → Oid → Slot
  | [], _ => .free
  | (k, o) :: l, i => bif oeq i k then .obj o else obOf l i
def frOf : List (Nat × AV) → Nat → AV
  | [], _ => .dead
  | (k, a) :: l, t => bif Nat.beq t k then a else frOf l t
/-- A state in few words. -/
def mkSt (n : Nat) (l : List (Nat × AV)) (obs : List (Oid × Cells)) : St := ⟨n, frOf l, obOf obs, fun _ => false, fun _ => none⟩
def inSt (args : List AV) (obs : List (Oid × Cells)) : St := ⟨args.length, fun t => args.getD t .dead, obOf obs, fun _ => false, fun _ => none⟩
def retSt (r : AV) (σ : St) : St := ⟨1, fun t => bif Nat.beq t 0 then r else .dead, σ.ob, σ.inc, σ.pin⟩
def outSt (r : AV) (obs : List (Oid × Cells)) : St := ⟨1, fun t => bif Nat.beq t 0 then r else .dead, obOf obs, fun _ => false, fun _ => none⟩

/-- What f, called in the state σ, leaves. -/
def Spec (P : Program) (f : FuncId) (σ σ' : St) : Prop :=
  ∀ K ι S vs w, K.w0 = w → RelI K ι S σ ⟨vs, []⟩ w → Calls P f vs w fun e w' => ∃ v ι' S', e = .returned v ∧ RelI K ι' S' σ' ⟨#[v], []⟩ w'

def RetQ (P : Program) (fn : Func) (σ' : St) : Exit → St → Prop := fun e σ =>
  (e = .normal ∨ e = .ret) ∧ ∀ K ι S a w, RelI K ι S σ a w → ∃ v ι' S', (results fn a.tmps).run P w = .ok v w ∧ RelI K ι' S' σ' ⟨#[v], []⟩ w

theorem Spec.of {P : Program} {f : FuncId} {fn : Func} {c : Code} {σ σ' : St} (hf : P.funcs[f]? = some fn) (hb : fn.body = some c) (hn : σ.n ≤ fn.ntmps) (hd : ∀ t, σ.n ≤ t → σ.fr t = .dead)
    (h : D P c (RetQ P fn σ') { σ with n := fn.ntmps }) : Spec P f σ σ' := by
  intro K ι S vs w hK R
  refine calls_of_wp hf hb ?_
  have R1 : RelI K ι S { σ with n := fn.ntmps } { tmps := vs ++ Array.replicate (fn.ntmps - vs.size) undef, defers := [] } w := by
    refine ⟨R.keeps, R.S0, R.Slt, ?_, rfl, fun t ht => ?_, R.cl, R.clo, R.ob, R.dom, R.inj, R.sep, R.pin, R.pf⟩
    · have := R.nt
      simp at this ⊢; omega
    · by_cases h : t < σ.n
      · have := R.fr t h
        have hs : t < vs.size := by have := R.nt; simp at this; omega
        simpa [Array.getElem?_append, hs] using this
      · show Rep ι S w (σ.fr t) _
        rw [hd t (by omega)]; exact .dead
  refine wp_mono (h K _ w ⟨ι, S, R1⟩) ?_
  rintro e a' w' ⟨σ2, ⟨ι2, S2, R2⟩, hq, hr⟩
  obtain ⟨v, ι', S', h1, h2⟩ := hr K ι2 S2 a' w' R2
  rcases hq with rfl | rfl
  · exact ⟨R2.df, v, h1, v, ι', S', rfl, h2⟩
  · exact ⟨R2.df, v, h1, v, ι', S', rfl, h2⟩

section
variable {P : Program} {σ σ' : St}

theorem RelI.ret {K : Ctx} {ι : Oid → Option Blk} {S : Nat → Prop} {a : Act} {w : World} (R : RelI K ι S σ a w) {r : AV} {v : Value} (h : Rep ι S w r v) (hh : ∀ id, Has id r → σ.ob id ≠ .free) : RelI K ι S (retSt r σ) ⟨#[v], []⟩ w := by
  refine ⟨R.keeps, R.S0, R.Slt, rfl, rfl, fun t ht => ?_, fun t id hb => ?_, R.clo, R.ob, R.dom, R.inj, R.sep, R.pin, R.pf⟩
  · have : t = 0 := by simp only [retSt] at ht; omega
    subst this; exact h
  · simp only [retSt] at hb ⊢
    cases hc : Nat.beq t 0 with
    | true => rw [hc] at hb; exact hh id hb
    | false => rw [hc] at hb; cases hb

/-- One result's value. -/
inductive ResV (P : Program) (σ : St) : ResultVar → AV → Prop where
  | tmp {t : Nat} {a : AV} (h : σ.eval (.tmp t) = a) : ResV P σ (.tmp t) a
  | cellA {t ty : Nat} {z : List Value} {id : Oid} {e : TypeId} {xs : List AV} (T : Ty P ty true z) (h : σ.eval (.tmp t) = .ptr id 0) (hid : σ.ob id = .obj (.box e xs)) (hl : xs.length = z.length) : ResV P σ (.cell t ty) (.agg xs)
  | cell1 {t ty : Nat} {z : List Value} {id : Oid} {e : TypeId} {xs : List AV} {a : AV} (T : Ty P ty false z) (h : σ.eval (.tmp t) = .ptr id 0) (hid : σ.ob id = .obj (.box e xs)) (hx : xs[0]? = some a) : ResV P σ (.cell t ty) a

theorem ResV.run {K : Ctx} {ι : Oid → Option Blk} {S : Nat → Prop} {a : Act} {w : World} (R : RelI K ι S σ a w) {x : ResultVar} {r : AV} (h : ResV P σ x r) :
    ∃ v, (match x with | .tmp t => pure (a.tmps.getD t undef) | .cell b t => do loadVar t (← asAddr (a.tmps.getD b undef)) : Sem Value).run P w = .ok v w ∧ Rep ι S w r v ∧ ∀ id, Has id r → σ.ob id ≠ .free := by
  cases h with
  | tmp h => subst h; exact ⟨_, rfl, R.eval _, fun id hi => R.evalHas _ hi⟩
  | cell1 T h hid hx =>
    rename_i t ty z id e xs
    obtain ⟨B, g, cur, h1, h2, h3, h4, h5, h6⟩ := R.boxB hid h
    obtain ⟨u, hu, hu1, hu2⟩ := h6 0 _ hx
    have h3' : a.tmps[t]?.getD undef = .pointer (some ⟨g, 0, none⟩) := by simpa [Act.eval] using h3
    exact ⟨u, by simp [h3', asAddr, run_loadVar1 (P := P) (cell_in h4 hu)], hu2, fun i h => R.clo id _ i hid ⟨_, List.mem_of_getElem? hx, h⟩⟩
  | cellA T h hid hl =>
    rename_i t ty z id e xs
    obtain ⟨B, g, cur, h1, h2, h3, h4, h5, h6⟩ := R.boxB hid h
    have h3' : a.tmps[t]?.getD undef = .pointer (some ⟨g, 0, none⟩) := by simpa [Act.eval] using h3
    have hc : CellsAt w ⟨g, 0, none⟩ cur.toList := fun j u hu => by rw [Addr.add_lit]; exact cell_in h4 (by simpa using hu)
    have hrun := run_loadVarA (P := P) (T := T) hc (by simp; omega)
    refine ⟨.agg cur, by simp [h3', asAddr, hrun], .agg h5 (fun u hu => ?_) (fun j b hb => ?_), fun i h => ?_⟩
    · obtain ⟨j, hj, rfl⟩ := List.getElem_of_mem hu
      have hj' : j < xs.length := by simp at hj; omega
      obtain ⟨u, a1, a2, _⟩ := h6 j _ (List.getElem?_eq_getElem hj')
      have : cur[j]? = some cur.toList[j] := by simp at hj; simp [hj]
      rw [this] at a1
      obtain rfl := Option.some.inj a1
      exact a2
    · obtain ⟨u, a1, a2, a3⟩ := h6 j b hb
      simpa [a1] using a3
    · cases h with
      | agg hm h => exact R.clo id _ i hid ⟨_, hm, h⟩

theorem andThen_inv {α β : Type} {A : Result α} {f : α → World → Result β} {u : β} {w : World} (h : A.andThen f = .ok u w) : ∃ x w1, A = .ok x w1 ∧ f x w1 = .ok u w := by
  cases A with
  | ok x w1 => exact ⟨x, w1, rfl, h⟩
  | halt e w1 => cases h

variable {fn : Func} {e : Exit}
theorem ret0 (he : e = .normal ∨ e = .ret) (hr : fn.results = #[]) (h : Le σ' (retSt (.tup []) σ)) : RetQ P fn σ' e σ := by
  refine ⟨he, fun K ι S a w R => ?_⟩
  obtain ⟨ι', S', R'⟩ := h K ι S _ w (R.ret (r := .tup []) (v := .tuple #[]) (.tup rfl (by simp)) fun id h => by cases h; simp at *)
  exact ⟨_, ι', S', by simp [results, hr], R'⟩
theorem ret1 {x : ResultVar} {r : AV} (he : e = .normal ∨ e = .ret) (hr : fn.results = #[x]) (h1 : ResV P σ x r) (h : Le σ' (retSt r σ)) : RetQ P fn σ' e σ := by
  refine ⟨he, fun K ι S a w R => ?_⟩
  obtain ⟨v, a1, a2, a3⟩ := h1.run R
  obtain ⟨ι', S', R'⟩ := h K ι S _ w (R.ret a2 a3)
  exact ⟨v, ι', S', by cases x <;> (simp at a1; simp [results, hr, a1]), R'⟩
theorem tupRep2 {ι : Oid → Option Blk} {S : Nat → Prop} {w : World} {r s : AV} {v u : Value} (h : Rep ι S w r v) (h' : Rep ι S w s u) : Rep ι S w (.tup [r, s]) (.tuple #[v, u]) :=
  .tup rfl fun j a ha => by
    match j, ha with
    | 0, ha => simp at ha; subst ha; exact h
    | 1, ha => simp at ha; subst ha; exact h'
theorem tupRep3 {ι : Oid → Option Blk} {S : Nat → Prop} {w : World} {r s t : AV} {v u x : Value} (h : Rep ι S w r v) (h' : Rep ι S w s u) (h3 : Rep ι S w t x) : Rep ι S w (.tup [r, s, t]) (.tuple #[v, u, x]) :=
  .tup rfl fun j a ha => by
    match j, ha with
    | 0, ha => simp at ha; subst ha; exact h
    | 1, ha => simp at ha; subst ha; exact h'
    | 2, ha => simp at ha; subst ha; exact h3
theorem ret2 {x y : ResultVar} {r s : AV} (he : e = .normal ∨ e = .ret) (hr : fn.results = #[x, y]) (h1 : ResV P σ x r) (h2 : ResV P σ y s) (h : Le σ' (retSt (.tup [r, s]) σ)) : RetQ P fn σ' e σ := by
  refine ⟨he, fun K ι S a w R => ?_⟩
  obtain ⟨v, a1, a2, a3⟩ := h1.run R
  obtain ⟨u, b1, b2, b3⟩ := h2.run R
  obtain ⟨ι', S', R'⟩ := h K ι S _ w (R.ret (tupRep2 a2 b2) fun id hi => by
    cases hi with
    | tup hm hi =>
      simp only [List.mem_cons, List.not_mem_nil, or_false] at hm
      rcases hm with rfl | rfl
      · exact a3 id hi
      · exact b3 id hi)
  exact ⟨_, ι', S', by
    cases x <;> cases y <;> (simp at a1 b1; simp [results, hr, a1])
    · exact b1
    · obtain ⟨_, _, e1, e2⟩ := andThen_inv b1
      simp [e1, e2]
    · obtain ⟨_, _, e1, e2⟩ := andThen_inv a1
      simp [e1, e2, b1]
    · obtain ⟨_, _, e1, e2⟩ := andThen_inv a1
      obtain ⟨_, _, e3, e4⟩ := andThen_inv b1
      simp [e1, e2, e3, e4], R'⟩
theorem ret3 {x y z : ResultVar} {r s t : AV} (he : e = .normal ∨ e = .ret) (hr : fn.results = #[x, y, z]) (h1 : ResV P σ x r) (h2 : ResV P σ y s) (h3 : ResV P σ z t) (h : Le σ' (retSt (.tup [r, s, t]) σ)) : RetQ P fn σ' e σ := by
  refine ⟨he, fun K ι S a w R => ?_⟩
  obtain ⟨v, a1, a2, a3⟩ := h1.run R
  obtain ⟨u, b1, b2, b3⟩ := h2.run R
  obtain ⟨q, c1, c2, c3⟩ := h3.run R
  obtain ⟨ι', S', R'⟩ := h K ι S _ w (R.ret (tupRep3 a2 b2 c2) fun id hi => by
    cases hi with
    | tup hm hi =>
      simp only [List.mem_cons, List.not_mem_nil, or_false] at hm
      rcases hm with rfl | rfl | rfl
      · exact a3 id hi
      · exact b3 id hi
      · exact c3 id hi)
  exact ⟨_, ι', S', by
    cases x <;> cases y <;> cases z <;> (simp at a1 b1 c1; simp [results, hr])
    · simp [a1, b1, c1]
    · obtain ⟨_, _, r1, r2⟩ := andThen_inv c1
      simp [a1, b1, r1, r2]
    · obtain ⟨_, _, q1, q2⟩ := andThen_inv b1
      simp [a1, q1, q2, c1]
    · obtain ⟨_, _, q1, q2⟩ := andThen_inv b1
      obtain ⟨_, _, r1, r2⟩ := andThen_inv c1
      simp [a1, q1, q2, r1, r2]
    · obtain ⟨_, _, p1, p2⟩ := andThen_inv a1
      simp [p1, p2, b1, c1]
    · obtain ⟨_, _, p1, p2⟩ := andThen_inv a1
      obtain ⟨_, _, r1, r2⟩ := andThen_inv c1
      simp [p1, p2, b1, r1, r2]
    · obtain ⟨_, _, p1, p2⟩ := andThen_inv a1
      obtain ⟨_, _, q1, q2⟩ := andThen_inv b1
      simp [p1, p2, q1, q2, c1]
    · obtain ⟨_, _, p1, p2⟩ := andThen_inv a1
      obtain ⟨_, _, q1, q2⟩ := andThen_inv b1
      obtain ⟨_, _, r1, r2⟩ := andThen_inv c1
      simp [p1, p2, q1, q2, r1, r2], R'⟩

/-! calls of functions that take data alone -/

mutual
def AV.pure : AV → Bool
  | .ref _ _ _ => false
  | .ptr _ _ => false
  | .agg xs => AV.pures xs
  | .fn _ xs ys => AV.pures xs && AV.pures ys
  | .ifc _ a => a.pure
  | .tup xs => AV.pures xs
  | _ => true
def AV.pures : List AV → Bool
  | [] => true
  | a :: l => a.pure && AV.pures l
end
mutual
theorem pure_has {id : Oid} : ∀ (a : AV), a.pure = true → ¬ Has id a
  | .dead, _, h => by cases h
  | .v _, _, h => by cases h
  | .sl _ _, _, h => by cases h
  | .fp _ _, _, h => by cases h
  | .z, _, h => by cases h
  | .ref _ _ _, hp, _ => by simp [AV.pure] at hp
  | .ptr _ _, hp, _ => by simp [AV.pure] at hp
  | .agg xs, hp, h => by
    simp only [AV.pure] at hp
    cases h with
    | agg hm h => exact pures_has xs hp _ hm h
  | .fn f xs ys, hp, h => by
    simp only [AV.pure, Bool.and_eq_true] at hp
    cases h with
    | fn1 hm h => exact pures_has xs hp.1 _ hm h
    | fn2 hm h => exact pures_has ys hp.2 _ hm h
  | .ifc t a, hp, h => by
    simp only [AV.pure] at hp
    cases h with
    | ifc h => exact pure_has a hp h
  | .tup xs, hp, h => by
    simp only [AV.pure] at hp
    cases h with
    | tup hm h => exact pures_has xs hp _ hm h
theorem pures_has {id : Oid} : ∀ (l : List AV), AV.pures l = true → ∀ a ∈ l, ¬ Has id a
  | [], _, a, h => by simp at h
  | b :: l, hp, a, h => by
    simp only [AV.pures, Bool.and_eq_true] at hp
    rcases List.mem_cons.1 h with h0 | h
    · rw [h0]; exact pure_has b hp.1
    · exact pures_has l hp.2 a h
end

/-- The arguments, as a callee sees them: data alone. -/
def ArgsLv (σ : St) (F : Oid → Bool) (xs : List Operand) (args : List AV) : Prop := args.length = xs.length ∧ ∀ (j : Nat) (x : Operand) (a : AV), xs[j]? = some x → args[j]? = some a → Lv id σ F a (σ.eval x)
theorem argsLv_nil {F : Oid → Bool} : ArgsLv σ F [] [] := ⟨rfl, by simp⟩
theorem argsLv_cons {F : Oid → Bool} {x : Operand} {xs : List Operand} {a : AV} {args : List AV} (h : Lv id σ F a (σ.eval x)) (hs : ArgsLv σ F xs args) : ArgsLv σ F (x :: xs) (a :: args) := by
  refine ⟨by simp [hs.1], fun j y b hy hb => ?_⟩
  cases j with
  | zero => simp at hy hb; subst hy; subst hb; exact h
  | succ j => exact hs.2 j y b (by simpa using hy) (by simpa using hb)

theorem RelI.args {K : Ctx} {ι : Oid → Option Blk} {S : Nat → Prop} {a : Act} {w : World} (R : RelI K ι S σ a w) {F : Oid → Bool} {xs : List Operand} {args : List AV} (h : ArgsLv σ F xs args) (hp : AV.pures args = true) :
    RelI ⟨w, fun _ => False, fun g => S g ∨ ∃ id B, F id = true ∧ ι id = some B ∧ B.g = some g, fun _ => none⟩ (fun _ => none) (fun g => S g ∨ ∃ id B, F id = true ∧ ι id = some B ∧ B.g = some g) (inSt args []) ⟨(xs.map a.eval).toArray, []⟩ w := by
  refine ⟨Keeps.refl _ _, fun g h => .inl h, fun g hg => ?_, by simp [inSt, h.1], rfl, fun t ht => ?_, fun t id hb => ?_, fun id' o id ho => (by cases ho), fun id o ho => (by cases ho), fun id B hB => (by cases hB), fun id id' B B' g hB => (by cases hB), fun id B g hB => (by cases hB), fun id h o hp => (by cases hp), fun id _ => rfl⟩
  · rcases hg with hg | ⟨id, B, _, h2, h3⟩
    · exact R.Slt g hg
    · obtain ⟨o, ho⟩ := R.dom id B h2
      have := R.ob id o ho
      cases o with
      | row e sz xs =>
        obtain ⟨B2, h3', _, h4⟩ := this
        rw [h2] at h3'; obtain rfl := Option.some.inj h3'
        rcases h4 with ⟨h5, _⟩ | ⟨g', cur, h5, h6, _⟩
        · rw [h3] at h5; cases h5
        · rw [h3] at h5; obtain rfl := Option.some.inj h5
          exact (Array.getElem?_eq_some_iff.1 h6).1
      | box e xs =>
        obtain ⟨B2, g2, h3', _, _, h4⟩ := this
        rw [h2] at h3'; obtain rfl := Option.some.inj h3'
        rcases h4 with ⟨h5, _⟩ | ⟨g', cur, h5, h6, _⟩
        · rw [h3] at h5; cases h5
        · rw [h3] at h5; obtain rfl := Option.some.inj h5
          exact (Array.getElem?_eq_some_iff.1 h6).1
  · simp only [inSt] at ht ⊢
    have hx : t < xs.length := by rw [← h.1]; exact ht
    have := (h.2 t _ _ (List.getElem?_eq_getElem hx) (List.getElem?_eq_getElem ht)).rep (ι1 := fun _ => none) R (fun id B hB => by cases hB) (S1 := fun g => S g ∨ ∃ id B, F id = true ∧ ι id = some B ∧ B.g = some g) (fun g h => .inl h) (fun id B g a b c => .inr ⟨id, B, a, b, c⟩) (R.eval _)
    simpa [List.getD_eq_getElem?_getD, ht, hx] using this
  · simp only [inSt] at hb
    by_cases ht : t < args.length
    · rw [List.getD_eq_getElem?_getD, List.getElem?_eq_getElem ht] at hb
      exact absurd hb (pures_has args hp _ (List.getElem_mem ht))
    · rw [List.getD_eq_getElem?_getD, List.getElem?_eq_none (by omega)] at hb
      cases hb

variable {o : Oper}
/-- A call: what comes back is data. -/
theorem st_call {f : FuncId} {xs : Array Operand} {ats : Array TypeId} (ho : o.op = .call { callee := .value (.func f), args := xs, argTypes := ats }) (C : Cbl P f) {args : List AV} {r : AV} (sp : Spec P f (inSt args []) (outSt r []))
    (ha : ArgsLv σ (fun _ => false) xs.toList args) (hp : AV.pures args = true) (hr : r.pure = true) : Step P o σ (σ.put o.dst r) := by
  intro K ι S a w R
  have R1 := R.args ha hp
  rw [show (xs.toList.map a.eval).toArray = xs.map a.eval from Array.ext' (by simp)] at R1
  refine yields_call (run_call (ρ := a.eval) ho rfl) (sp _ _ _ _ w rfl R1) ?_
  rintro e w' ⟨v, ι', S', rfl, R2⟩
  refine ⟨v, rfl, ?_⟩
  have hb : Below w.heap.size w w' := ⟨R2.keeps.os, R2.keeps.tape, R2.keeps.output, R2.keeps.size, fun g hg => R2.keeps.block g hg (by simp)⟩
  have hS' : ∀ g, S' g → S g ∨ w.heap.size ≤ g := fun g hg => by
    rcases R2.S0 g hg with (h | ⟨_, _, h, _⟩) | h
    · exact .inl h
    · cases h
    · exact .inr h
  have R3 := R.gen (ι' := ι) (S' := fun g => S g ∨ S' g) (w' := w') (ob' := σ.ob) (inc' := σ.inc) (fun _ => False) (.of_below hb) (fun _ _ => rfl) (fun _ _ => rfl) (fun _ _ => rfl) (fun _ h => h) (fun g h => .inl h)
    (fun g h => by rcases h with h | h; · exact .inl h
                   · rcases hS' g h with h | h
                     · exact .inl h
                     · exact .inr (.inl h))
    (fun g h => by rcases h with h | h; · exact Nat.lt_of_lt_of_le (R.Slt g h) hb.size
                   · exact R2.Slt g h)
    (fun _ _ h => h.elim) (fun _ _ h => h.elim) (fun _ _ h => h.elim) (fun _ _ _ _ _ h => h.elim) (fun _ _ _ h => h.elim) (fun _ _ _ h => h.elim)
  refine ⟨ι, _, R3.put o.dst (av := r) ?_ fun id hi => absurd hi (pure_has r hr)⟩
  have := R2.fr 0 (by simp [outSt])
  simp only [outSt, Nat.beq_refl, cond_true] at this
  exact (by simpa using this : Rep ι' S' w' r v).next (fun _ _ => rfl) (fun g h => .inr h) (fun id B hi => absurd hi (pure_has r hr))

/-- A call that only looks at objects: what comes back is a plain value. -/
theorem st_callB {f : FuncId} {xs : Array Operand} {ats : Array TypeId} (ho : o.op = .call { callee := .value (.func f), args := xs, argTypes := ats }) (C : Cbl P f) {args : List AV} {x : Value} (sp : Spec P f (inSt args []) (outSt (.v x) []))
    (ha : ArgsLv σ (fun _ => true) xs.toList args) (hp : AV.pures args = true) : Step P o σ (σ.put o.dst (.v x)) := by
  intro K ι S a w R
  have R1 := R.args ha hp
  rw [show (xs.toList.map a.eval).toArray = xs.map a.eval from Array.ext' (by simp)] at R1
  refine yields_call (run_call (ρ := a.eval) ho rfl) (sp _ _ _ _ w rfl R1) ?_
  rintro e w' ⟨v, ι', S', rfl, R2⟩
  refine ⟨v, rfl, ?_⟩
  have hb : Below w.heap.size w w' := ⟨R2.keeps.os, R2.keeps.tape, R2.keeps.output, R2.keeps.size, fun g hg => R2.keeps.block g hg (by simp)⟩
  have R3 := R.gen (ι' := ι) (S' := S) (w' := w') (ob' := σ.ob) (inc' := σ.inc) (fun _ => False) (.of_below hb) (fun _ _ => rfl) (fun _ _ => rfl) (fun _ _ => rfl) (fun _ h => h) (fun g h => h)
    (fun g h => .inl h) (fun g h => Nat.lt_of_lt_of_le (R.Slt g h) hb.size)
    (fun _ _ h => h.elim) (fun _ _ h => h.elim) (fun _ _ h => h.elim) (fun _ _ _ _ _ h => h.elim) (fun _ _ _ h => h.elim) (fun _ _ _ h => h.elim)
  refine ⟨ι, _, R3.put o.dst (av := .v x) ?_ fun id hi => noHasV hi⟩
  have := R2.fr 0 (by simp [outSt])
  simp only [outSt, Nat.beq_refl, cond_true] at this
  have := (by simpa using this : Rep ι' S' w' (.v x) v).toV
  rw [this]; exact .v
end
end Go.Proofs.Ytphlaojoehmhaaa
