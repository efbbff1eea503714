/- Part 11 of the texts that the walk leans on: the machine, the walks, the plain laws. -/
import Derived.Lib.SliceRun
import Derived.Test.YtkbkmngbenohkaaBrZ10
set_option linter.unusedSimpArgs false
set_option linter.unusedVariables false
namespace Go.Proofs.Ytkbkmngbenohkaa
open Go.RowKit

/-- What a holds, with the objects it leads to, as data. -/
inductive Ln (σ : St) : PV → AV → Prop where
  | v {x : Value} (h : x.oneCell' = true) : Ln σ (.v x) (.v x)
  | sl {n : Nat} {xs : List PV} : Ln σ (.sl n xs) (.sl n xs)
  | nil : Ln σ (.sl 0 []) (.v (.slice none 0 0))
  | fp {off : Nat} {xs : List PV} : Ln σ (.ptr off xs) (.fp off xs)
  | ref {id : Oid} {off n : Nat} {e : TypeId} {sz : Nat} {xs ys : List PV} (hid : σ.ob id = .obj (.row e sz xs)) (hy : (xs.drop off).take (n * sz) = ys) (hl : off + n * sz ≤ xs.length) : Ln σ (.sl n ys) (.ref id off n)
  | ptr {id : Oid} {off : Nat} {e : TypeId} {xs : List AV} {ys : List PV} (hid : σ.ob id = .obj (.box e xs)) (hl : ys.length ≤ xs.length) (h : ∀ (j : Nat) (p : PV) (a : AV), ys[j]? = some p → xs[j]? = some a → Ln σ p a) : Ln σ (.ptr off ys) (.ptr id off)
  | fn {f : Fn} {xs us : List PV} {ys vs : List AV} (hl : xs.length = ys.length) (h : ∀ (j : Nat) (p : PV) (a : AV), xs[j]? = some p → ys[j]? = some a → Ln σ p a)
      (hl' : us.length = vs.length) (h' : ∀ (j : Nat) (p : PV) (a : AV), us[j]? = some p → vs[j]? = some a → Ln σ p a) : Ln σ (.fn f xs us) (.fn f ys vs)
theorem ln_nil {σ : St} {ys : List AV} : ∀ (j : Nat) (p : PV) (a : AV), ([] : List PV)[j]? = some p → ys[j]? = some a → Ln σ p a := by simp
theorem ln_cons {σ : St} {p : PV} {a : AV} {ps : List PV} {bs : List AV} (h : Ln σ p a) (hs : ∀ (j : Nat) (p : PV) (a : AV), ps[j]? = some p → bs[j]? = some a → Ln σ p a) : ∀ (j : Nat) (q : PV) (b : AV), (p :: ps)[j]? = some q → (a :: bs)[j]? = some b → Ln σ q b := by
  intro j q b hq hb
  cases j with
  | zero => simp at hq hb; subst hq; subst hb; exact h
  | succ j => exact hs j q b (by simpa using hq) (by simpa using hb)

theorem Ln.rd {K : Ctx} {ι : Oid → Option Blk} {S S1 : Nat → Prop} {σ : St} {act : Act} {w : World} (R : RelI K ι S σ act w) (hS : ∀ g, S g → S1 g) (hF : ∀ id B g, ι id = some B → B.g = some g → S1 g) {p : PV} {a : AV} (h : Ln σ p a) : ∀ {v : Value}, Rep ι S w a v → Rd S1 w p v := by
  induction h with
  | v h1 => intro v hv; cases hv; exact .v h1
  | sl => intro v hv; cases hv with
    | sl h => exact h.next (fun _ _ => rfl) hS
  | nil => intro v hv; cases hv; exact .sl0 (Nat.le_refl _) (by unfold maxLen; omega) fun _ => ⟨rfl, rfl⟩
  | fp => intro v hv; cases hv with
    | fp h => exact h.next (fun _ _ => rfl) hS
  | ref hid hy hl =>
    intro v hv
    have := (Lv.frz (ρ := fun i => i) (F := fun _ => true) hid rfl hy hl).rep (ι1 := ι) (S1 := S1) R (fun _ _ h => h) hS (fun id B g _ a b => hF id B g a b) hv
    cases this with
    | sl h => exact h
  | ptr hid hl h ih =>
    intro v hv
    rename_i id off e xs ys
    obtain ⟨B, g, hB, hg, htot, hrow⟩ := R.ob id _ hid
    cases hv with
    | ptr hp _ =>
      obtain ⟨g', hg', rfl⟩ := hp B hB
      rw [hg] at hg'
      obtain rfl := Option.some.inj hg'
      rcases hrow with ⟨h6, _⟩ | ⟨g', cur, h10, h11, h12, h13, h14⟩
      · rw [hg] at h6; cases h6
      · rw [hg] at h10
        obtain rfl := Option.some.inj h10
        have := Rd.ptr (S := S1) (w := w) (off := off) (b := g) (o := 0) (xs := ys) (fun j => cur.getD j undef) (.mk (hF id B g hB hg) h11) (fun j p hp => ?_) (fun j p hp => ?_)
        · simp only [Nat.zero_add] at this; exact this
        · have hj := (List.getElem?_eq_some_iff.1 hp).1
          obtain ⟨u, hu, _⟩ := h14 j (by omega)
          exact cell_in h11 (by simp [hu])
        · have hj := (List.getElem?_eq_some_iff.1 hp).1
          have ha := List.getElem?_eq_getElem (show j < xs.length by omega)
          obtain ⟨u, hu, hu1, hu2⟩ := h14 j (by omega)
          simp only [Array.getD_eq_getD_getElem?, hu, Option.getD_some]
          exact ih j p _ hp ha (hu2 _ ha)
  | fn hl h hl' h' ih ih' =>
    intro v hv
    cases hv with
    | fn a1 a2 a3 a4 =>
      refine .fn (by omega) (by omega) (fun j p hp => ?_) fun j p hp => ?_
      · have hj := (List.getElem?_eq_some_iff.1 hp).1
        exact ih j p _ hp (List.getElem?_eq_getElem (show j < _ by omega)) (a3 j _ (List.getElem?_eq_getElem (show j < _ by omega)))
      · have hj := (List.getElem?_eq_some_iff.1 hp).1
        exact ih' j p _ hp (List.getElem?_eq_getElem (show j < _ by omega)) (a4 j _ (List.getElem?_eq_getElem (show j < _ by omega)))

/-- The arguments, as a callee that only looks sees them. -/
def ArgsD (σ : St) (avs args : List AV) : Prop := args.length = avs.length ∧ ∀ (j : Nat) (x a : AV), avs[j]? = some x → args[j]? = some a → Lv id σ (fun _ => true) a x ∨ ∃ p, Ln σ p x ∧ a = p.up
theorem argsD_nil {σ : St} : ArgsD σ [] [] := ⟨rfl, by simp⟩
theorem argsD_cons {σ : St} {x a : AV} {xs args : List AV} (h : Lv id σ (fun _ => true) a x ∨ ∃ p, Ln σ p x ∧ a = p.up) (hs : ArgsD σ xs args) : ArgsD σ (x :: xs) (a :: args) := by
  refine ⟨by simp [hs.1], fun j y b hy hb => ?_⟩
  cases j with
  | zero => simp at hy hb; subst hy; subst hb; exact h
  | succ j => exact hs.2 j y b (by simpa using hy) (by simpa using hb)
theorem argD {σ : St} {x a : AV} {p : PV} (h : Ln σ p x) (he : p.up = a) : Lv id σ (fun _ => true) a x ∨ ∃ p, Ln σ p x ∧ a = p.up := .inr ⟨p, h, he.symm⟩
theorem RelI.argsD {K : Ctx} {ι : Oid → Option Blk} {S : Nat → Prop} {σ : St} {a : Act} {w : World} (R : RelI K ι S σ a w) {avs args : List AV} (h : ArgsD σ avs args) (hp : AV.pures args = true)
    {vs : Array Value} (hv : vs.size = avs.length) (hr : ∀ (j : Nat) (x : AV), avs[j]? = some x → Rep ι S w x (vs.getD j undef)) :
    RelI ⟨w, fun _ => False, fun g => S g ∨ ∃ id B, ι id = some B ∧ B.g = some g, fun _ => none, none⟩ (fun _ => none) (fun g => S g ∨ ∃ id B, ι id = some B ∧ B.g = some g) (inSt args []) ⟨vs, []⟩ w := by
  refine ⟨Keeps.refl _ _, fun g h => .inl h, fun g hg => ?_, by simp [inSt, h.1, hv], .nil, fun t ht => ?_, fun t id hb => ?_, fun id' o id ho => (by cases ho), fun id o ho => (by cases ho), fun id B hB => (by cases hB), fun id id' B B' g hB => (by cases hB), fun id B g hB => (by cases hB), fun id h o hp => (by cases hp), fun id _ => rfl⟩
  · rcases hg with hg | ⟨id, B, h2, h3⟩
    · exact R.Slt g hg
    · exact R.lt h2 h3
  · simp only [inSt] at ht ⊢
    have hx : t < avs.length := by rw [← h.1]; exact ht
    have hax : args.getD t .dead = args[t] := by simp [List.getD_eq_getElem?_getD, ht]
    rw [hax]
    rcases h.2 t _ _ (List.getElem?_eq_getElem hx) (List.getElem?_eq_getElem ht) with h1 | ⟨p, h1, h2⟩
    · exact h1.rep (ι1 := fun _ => none) R (fun id B hB => by cases hB) (S1 := fun g => S g ∨ ∃ id B, ι id = some B ∧ B.g = some g) (fun g h => .inl h) (fun id B g _ b c => .inr ⟨id, B, b, c⟩) (hr t _ (List.getElem?_eq_getElem hx))
    · rw [h2]
      exact (h1.rd R (S1 := fun g => S g ∨ ∃ id B, ι id = some B ∧ B.g = some g) (fun g h => .inl h) (fun id B g b c => .inr ⟨id, B, b, c⟩) (hr t _ (List.getElem?_eq_getElem hx))).up
  · simp only [inSt] at hb
    by_cases ht : t < args.length
    · rw [List.getD_eq_getElem?_getD, List.getElem?_eq_getElem ht] at hb
      exact absurd hb (pures_has args hp _ (List.getElem_mem ht))
    · rw [List.getD_eq_getElem?_getD, List.getElem?_eq_none (by omega)] at hb
      cases hb
section
variable {P : Program} {σ τ : St} {o : Oper}
theorem st_callBD {f : FuncId} {avs : List AV} (hE : EntersAt P o σ f avs) {args : List AV} {x : Value} (sp : Spec P f (inSt args []) (outSt (.v x) []))
    (ha : ArgsD σ avs args) (hp : AV.pures args = true) : Step P o σ (σ.put o.dst (.v x)) := by
  intro K ι S a w R
  obtain ⟨vs, hrun, hvs, hrep⟩ := hE K ι S a w R
  have R1 := R.argsD ha hp hvs hrep
  refine yields_call hrun (sp _ _ _ _ w rfl rfl R1) ?_
  rintro e w' ⟨v, ι', S', rfl, R2⟩
  refine ⟨v, rfl, ?_⟩
  have hb : Below w.heap.size w w' := ⟨R2.keeps.os, R2.keeps.tape, R2.keeps.output, R2.keeps.size, fun g hg => R2.keeps.block g hg (by simp)⟩
  have R3 := R.gen (ι' := ι) (S' := S) (w' := w') (ob' := σ.ob) (inc' := σ.inc) (fun _ => False) (.of_below hb) (fun _ _ => rfl) (fun _ _ => rfl) (fun _ _ => rfl) (fun _ h => h) (fun g h => h)
    (fun g h => .inl h) (fun g h => Nat.lt_of_lt_of_le (R.Slt g h) hb.size)
    (fun _ _ h => h.elim) (fun _ _ h => h.elim) (fun _ _ h => h.elim) (fun _ _ _ _ _ h => h.elim) (fun _ _ _ h => h.elim) (fun _ _ _ h => h.elim)
  refine ⟨ι, _, R3.put o.dst (av := .v x) ?_ fun id hi => noHasV hi⟩
  have := R2.fr 0 (by simp [outSt])
  simp only [outSt, Nat.beq_refl, cond_true] at this
  have := (by simpa using this : Rep ι' S' w' (.v x) v).toV
  rw [this]; exact .v
theorem op_callBD {dd : Option Tmp} {ty : TypeId} {f : FuncId} {xs : Array Operand} {ats : Array TypeId} (C : Cbl P f) {args : List AV} {x : Value} (ha : ArgsD σ (xs.toList.map σ.eval) args) (sp : Spec P f (inSt args []) (outSt (.v x) []))
    (hp : AV.pures args = true) : Stp P dd (.call { callee := .value (.func f), args := xs, argTypes := ats }) ty σ (σ.put dd (.v x)) := fun o hd ho ht => by subst hd; exact st_callBD (.fnc ho C) sp ha hp
mutual
theorem ren_id {ρ : Oid → Oid} {ids : List Oid} (h : ∀ i, inO i ids = true → ρ i = i) : ∀ (a : AV), a.within ids = true → a.ren ρ = a
  | .dead, _ => rfl
  | .v _, _ => rfl
  | .sl _ _, _ => rfl
  | .fp _ _, _ => rfl
  | .z, _ => rfl
  | .mp i, hw => by simp only [AV.ren, h i hw]
  | .ref i _ _, hw => by simp only [AV.ren, h i hw]
  | .ptr i _, hw => by simp only [AV.ren, h i hw]
  | .agg xs, hw => by simp only [AV.ren, rens_id h xs hw]
  | .fn f xs ys, hw => by
    simp only [AV.within, Bool.and_eq_true] at hw
    simp only [AV.ren, rens_id h xs hw.1, rens_id h ys hw.2]
  | .ifc t a, hw => by simp only [AV.ren, ren_id h a hw]
  | .tup xs, hw => by simp only [AV.ren, rens_id h xs hw]
theorem rens_id {ρ : Oid → Oid} {ids : List Oid} (h : ∀ i, inO i ids = true → ρ i = i) : ∀ (l : List AV), AV.withins ids l = true → AV.rens ρ l = l
  | [], _ => rfl
  | a :: l, hw => by
    simp only [AV.withins, Bool.and_eq_true] at hw
    simp only [AV.rens, ren_id h a hw.1, rens_id h l hw.2]
end
mutual
theorem ren_all : ∀ (a : AV), a.ren (fun i => i) = a
  | .dead => rfl
  | .v _ => rfl
  | .sl _ _ => rfl
  | .fp _ _ => rfl
  | .z => rfl
  | .mp i => rfl
  | .ref i _ _ => rfl
  | .ptr i _ => rfl
  | .agg xs => by simp only [AV.ren, rens_all xs]
  | .fn f xs ys => by simp only [AV.ren, rens_all xs, rens_all ys]
  | .ifc t a => by simp only [AV.ren, ren_all a]
  | .tup xs => by simp only [AV.ren, rens_all xs]
theorem rens_all : ∀ (l : List AV), AV.rens (fun i => i) l = l
  | [] => rfl
  | a :: l => by simp only [AV.rens, ren_all a, rens_all l]
end
mutual
theorem lv_within {ρ : Oid → Oid} {F : Oid → Bool} {ids : List Oid} (h : ∀ i, inO i ids = true → ρ i = i) : ∀ (a : AV), a.within ids = true → Lv ρ σ F a a
  | .dead, _ => .dead
  | .v _, _ => .v
  | .sl _ _, _ => .sl
  | .fp _ _, _ => .fp
  | .z, _ => .z
  | .mp i, hw => by have := Lv.mp (ρ := ρ) (σ := σ) (F := F) (id := i); rwa [h i hw] at this
  | .ref i o n, hw => lvRr (h i hw) rfl
  | .ptr i o, hw => lvPr (h i hw)
  | .agg xs, hw => .agg rfl fun j a b ha hb => by rw [ha] at hb; cases hb; exact lvs_within h xs hw j a ha
  | .fn f xs ys, hw => by
    simp only [AV.within, Bool.and_eq_true] at hw
    exact .fn rfl (fun j a b ha hb => by rw [ha] at hb; cases hb; exact lvs_within h xs hw.1 j a ha) rfl fun j a b ha hb => by rw [ha] at hb; cases hb; exact lvs_within h ys hw.2 j a ha
  | .ifc t a, hw => .ifc (lv_within h a hw)
  | .tup xs, hw => .tup rfl fun j a b ha hb => by rw [ha] at hb; cases hb; exact lvs_within h xs hw j a ha
theorem lvs_within {ρ : Oid → Oid} {F : Oid → Bool} {ids : List Oid} (h : ∀ i, inO i ids = true → ρ i = i) : ∀ (l : List AV), AV.withins ids l = true → ∀ (j : Nat) (a : AV), l[j]? = some a → Lv ρ σ F a a
  | [], _, j, a, ha => by simp at ha
  | x :: l, hw, 0, a, ha => by
    simp only [AV.withins, Bool.and_eq_true] at hw
    simp at ha; subst ha; exact lv_within h x hw.1
  | x :: l, hw, j + 1, a, ha => by
    simp only [AV.withins, Bool.and_eq_true] at hw
    exact lvs_within h l hw.2 j a (by simpa using ha)
end
theorem lvO_within {ρ : Oid → Oid} {F : Oid → Bool} {ids : List Oid} (h : ∀ i, inO i ids = true → ρ i = i) (o : Cells) (hw : o.within ids = true) : LvO ρ σ F o o := by
  cases o with
  | row e sz xs => exact .row (List.append_nil xs).symm
  | box e xs => exact .box rfl fun j a b ha hb => by rw [ha] at hb; cases hb; exact lvs_within h xs hw j a ha
  | rowA e sz xs => exact .rowA rfl fun j a b ha hb => by rw [ha] at hb; cases hb; exact lvs_within h xs hw j a ha
  | mp => exact .mp
  | it m a b c => have := LvO.it (ρ := ρ) (σ := σ) (F := F) (m := m) (since := a) (seen := b) (stepped := c); rwa [h m hw] at this
theorem cren_all (o : Cells) : o.ren (fun i => i) = o := by
  cases o with
  | row => rfl
  | box e xs => simp only [Cells.ren, rens_all xs]
  | rowA e sz xs => simp only [Cells.ren, rens_all xs]
  | mp => rfl
  | it m => rfl
theorem cren_id {ρ : Oid → Oid} {ids : List Oid} (h : ∀ i, inO i ids = true → ρ i = i) (o : Cells) (hw : o.within ids = true) : o.ren ρ = o := by
  cases o with
  | row => rfl
  | box e xs => simp only [Cells.ren, rens_id h xs hw]
  | rowA e sz xs => simp only [Cells.ren, rens_id h xs hw]
  | mp => rfl
  | it m => simp only [Cells.ren, h m hw]
theorem obsWithin_mem {ids : List Oid} : ∀ {l : List (Oid × Cells)}, obsWithin ids l = true → ∀ {x}, x ∈ l → x.2.within ids = true
  | [], _, x, h => by simp at h
  | y :: l, hw, x, h => by
    simp only [obsWithin, Bool.and_eq_true] at hw
    rcases List.mem_cons.1 h with rfl | h
    · exact hw.1
    · exact obsWithin_mem hw.2 h
theorem inO_app {i j : Oid} {l : List Oid} (h : inO i l = true) : inO i (l ++ [j]) = true := inO_iff.2 (List.mem_append_left _ (inO_iff.1 h))
mutual
theorem within_app {ids : List Oid} {j : Oid} : ∀ (a : AV), a.within ids = true → a.within (ids ++ [j]) = true
  | .dead, _ => rfl
  | .v _, _ => rfl
  | .sl _ _, _ => rfl
  | .fp _ _, _ => rfl
  | .z, _ => rfl
  | .mp _, h => inO_app h
  | .ref _ _ _, h => inO_app h
  | .ptr _ _, h => inO_app h
  | .agg xs, h => by simp only [AV.within] at h ⊢; exact withins_app xs h
  | .fn f xs ys, h => by
    simp only [AV.within, Bool.and_eq_true] at h ⊢
    exact ⟨withins_app xs h.1, withins_app ys h.2⟩
  | .ifc t a, h => by simp only [AV.within] at h ⊢; exact within_app a h
  | .tup xs, h => by simp only [AV.within] at h ⊢; exact withins_app xs h
theorem withins_app {ids : List Oid} {j : Oid} : ∀ (l : List AV), AV.withins ids l = true → AV.withins (ids ++ [j]) l = true
  | [], _ => rfl
  | a :: l, h => by
    simp only [AV.withins, Bool.and_eq_true] at h ⊢
    exact ⟨within_app a h.1, withins_app l h.2⟩
end
theorem cwithin_app {ids : List Oid} {j : Oid} {o : Cells} (h : o.within ids = true) : o.within (ids ++ [j]) = true := by
  cases o with
  | row => rfl
  | box e xs => exact withins_app xs h
  | rowA e sz xs => exact withins_app xs h
  | mp => rfl
  | it m => exact inO_app h
theorem keptB_app {ins Pn : List Oid} {c : Cells} : ∀ {l : List (Oid × Cells)}, keptB ins Pn l = true → ∀ {j : Oid}, inO j ins = false → keptB ins Pn (l ++ [(j, c)]) = true
  | [], _, j, hj => by simp [keptB, hj]
  | (i, o) :: l, h, j, hj => by
    simp only [keptB, Bool.and_eq_true] at h
    simp only [List.cons_append, keptB, Bool.and_eq_true]
    exact ⟨h.1, keptB_app h.2 hj⟩
def AllKept (σ : St) : List (Oid × Cells) → Prop
  | [] => True
  | (i, o) :: l => σ.ob i = .obj o ∧ AllKept σ l
theorem allKept_mem : ∀ {l : List (Oid × Cells)}, AllKept σ l → ∀ {i o}, (i, o) ∈ l → σ.ob i = .obj o
  | [], _, i, o, h => by simp at h
  | (k, c) :: l, h, i, o, hm => by
    rcases List.mem_cons.1 hm with h0 | hm
    · obtain ⟨rfl, rfl⟩ := Prod.mk.inj h0; exact h.1
    · exact allKept_mem h.2 hm
theorem keep_mem {I : List Oid} {SS : List (Oid × Cells)} (hI : SS.map (·.1) = I) {c : Oid} (h : c ∈ I) : ∃ o, (c, o) ∈ SS := by
  subst hI
  obtain ⟨⟨i, o⟩, hm, rfl⟩ := List.mem_map.1 h
  exact ⟨o, hm⟩
theorem after_kept {SS : List (Oid × Cells)} {I : List Oid} (hI : SS.map (·.1) = I) (hk : AllKept σ SS) (hn : nodupO I = true) : σ.afterP (rnOf []) SS I I = σ := by
  have hid : I.map (rnOf []) = I := by rw [rnOf_nil]; simp
  have hno : ((SS.map (·.1)).map (rnOf [])).Nodup := by rw [hI, hid]; exact nodupO_iff hn
  have hren : ∀ o : Cells, o.ren (rnOf []) = o := fun o => by rw [rnOf_nil]; exact cren_all o
  refine St.eq rfl (fun _ => rfl) (fun c => ?_) (funext fun c => ?_) rfl
  · show obAfter _ _ _ _ c = _
    by_cases hc : c ∈ I
    · obtain ⟨o, ho⟩ := keep_mem hI hc
      have := obAfter_out (ins := I) (ob := σ.ob) hno ho
      rw [hren] at this
      exact this.trans (allKept_mem hk ho).symm
    · rw [obAfter_other (by rw [hI, hid]; exact hc), hid]
      have : inO c I = false := by
        cases h : inO c I with
        | true => exact absurd (inO_iff.1 h) hc
        | false => rfl
      rw [this]; rfl
  · show incP _ _ _ _ _ _ c = _
    by_cases hc : c ∈ I
    · have := incP_out (ins := I) (I := I) (any := anyInc σ ((notIn SS I).map (rnOf []))) (inc := σ.inc) hno (hI ▸ hc)
      rw [inO_iff.2 hc, cond_true] at this
      exact this
    · exact incP_other (by rw [hI, hid]; exact hc)
theorem rn1_ne {id i : Oid} (h : i ≠ (0, 8)) : rnOf [((0, 8), id)] i = i := by simp [rnOf, oeq_ne h]
theorem rn1_eq {id : Oid} : rnOf [((0, 8), id)] (0, 8) = id := by simp [rnOf, oeq_self]
theorem map_rn1 {id : Oid} : ∀ {I : List Oid}, inO (0, 8) I = false → I.map (rnOf [((0, 8), id)]) = I
  | [], _ => rfl
  | i :: l, h => by
    simp only [inO, Bool.or_eq_false_iff] at h
    have : i ≠ (0, 8) := fun e => by rw [e, oeq_self] at h; cases h.1
    rw [List.map_cons, rn1_ne this, map_rn1 h.2]
theorem after_keptN {SS : List (Oid × Cells)} {I : List Oid} {id : Oid} {c : Cells} (hI : SS.map (·.1) = I) (hk : AllKept σ SS) (hn : nodupO I = true) (h8 : inO (0, 8) I = false) (hw : obsWithin I SS = true) (hid : σ.ob id = .free) (hii : σ.inc id = false) (hc0 : c.within I = true) :
    σ.afterP (rnOf [((0, 8), id)]) (SS ++ [((0, 8), c)]) I I = σ.setOb id (.obj c) := by
  have hidI : id ∉ I := fun h => by
    obtain ⟨o, ho⟩ := keep_mem hI h
    have := allKept_mem hk ho
    rw [hid] at this; cases this
  have hno : (((SS ++ [((0, 8), c)]).map Prod.fst).map (rnOf [((0, 8), id)])).Nodup := by
    rw [List.map_append, hI, List.map_append, map_rn1 h8]
    simp only [List.map_cons, List.map_nil, rn1_eq]
    exact List.nodup_append.2 ⟨nodupO_iff hn, by simp, fun a ha b hb e => by simp at hb; subst hb; subst e; exact hidI ha⟩
  have hρ : ∀ i, inO i I = true → rnOf [((0, 8), id)] i = i := fun i hi => rn1_ne fun e => by rw [e, h8] at hi; cases hi
  have hren : ∀ o : Cells, o.within I = true → o.ren (rnOf [((0, 8), id)]) = o := fun o ho => cren_id hρ o ho
  have hSw : ∀ {l : List (Oid × Cells)}, obsWithin I l = true → ∀ {i o}, (i, o) ∈ l → o.within I = true := by
    intro l
    induction l with
    | nil => intro _ i o h; simp at h
    | cons x l ih =>
      intro h i o hm
      simp only [obsWithin, Bool.and_eq_true] at h
      rcases List.mem_cons.1 hm with rfl | hm
      · exact h.1
      · exact ih h.2 hm
  have hmI : ∀ x : Oid, x ∉ I → x ≠ id → x ∉ ((SS ++ [((0, 8), c)]).map Prod.fst).map (rnOf [((0, 8), id)]) := fun x hx hxi => by
    rw [List.map_append, hI, List.map_append, map_rn1 h8]
    simp only [List.map_cons, List.map_nil, rn1_eq, List.mem_append, List.mem_singleton, not_or]
    exact ⟨hx, hxi⟩
  refine St.eq rfl (fun _ => rfl) (fun x => ?_) (funext fun x => ?_) rfl
  · show obAfter _ _ _ _ x = bif oeq x id then _ else _
    by_cases hx : x = id
    · subst hx
      have := obAfter_out (ins := I) (ob := σ.ob) hno (List.mem_append_right _ (List.mem_singleton_self _) : ((0, 8), c) ∈ SS ++ [((0, 8), c)])
      rw [rn1_eq, hren c hc0] at this
      rw [this, oeq_self]; rfl
    · rw [oeq_ne hx]
      by_cases hc : x ∈ I
      · obtain ⟨o, ho⟩ := keep_mem hI hc
        have := obAfter_out (ins := I) (ob := σ.ob) hno (List.mem_append_left _ ho)
        rw [hρ x (inO_iff.2 hc), hren o (hSw hw ho)] at this
        exact this.trans (allKept_mem hk ho).symm
      · rw [obAfter_other (hmI x hc hx), map_rn1 h8]
        have : inO x I = false := by
          cases h : inO x I with
          | true => exact absurd (inO_iff.1 h) hc
          | false => rfl
        rw [this]; rfl
  · show incP _ _ _ _ _ _ x = σ.inc x
    by_cases hx : x = id
    · subst hx
      have := incP_out (ins := I) (I := I) (any := anyInc σ ((notIn (SS ++ [((0, 8), c)]) I).map (rnOf [((0, 8), x)]))) (inc := σ.inc) hno (show ((0, 8) : Oid) ∈ (SS ++ [((0, 8), c)]).map Prod.fst by rw [List.map_append]; exact List.mem_append_right _ (by simp))
      rw [rn1_eq, h8, hii] at this
      exact this.trans hii.symm
    · by_cases hc : x ∈ I
      · have := incP_out (ins := I) (I := I) (any := anyInc σ ((notIn (SS ++ [((0, 8), c)]) I).map (rnOf [((0, 8), id)]))) (inc := σ.inc) hno (show x ∈ (SS ++ [((0, 8), c)]).map Prod.fst by rw [List.map_append, hI]; exact List.mem_append_left _ hc)
        rw [hρ x (inO_iff.2 hc), inO_iff.2 hc, cond_true] at this
        exact this
      · exact incP_other (hmI x hc hx)
theorem allLvI_kept {SS : List (Oid × Cells)} {I : List Oid} {rn : List (Oid × Oid)} (hr : ∀ i, inO i I = true → rnOf rn i = i) (hk : AllKept σ SS) (hs : ∀ x ∈ SS, inO x.1 I = true ∧ x.2.within I = true) : AllLvI (rnOf rn) σ (fun _ => false) I SS := by
  induction SS with
  | nil => trivial
  | cons x l ih =>
    obtain ⟨i, o⟩ := x
    obtain ⟨h1, h2⟩ := hs _ List.mem_cons_self
    refine ⟨⟨rfl, ⟨o, by rw [hr i h1]; exact hk.1, ?_⟩, by rw [h1]; rfl⟩, ih hk.2 fun x hx => hs x (List.mem_cons_of_mem _ hx)⟩
    exact lvO_within hr o h2
theorem allFree_in {I : List Oid} {ρ : Oid → Oid} {l' : List (Oid × Cells)} (h' : AllFree σ ρ I l') : ∀ {l : List (Oid × Cells)}, (∀ x ∈ l, inO x.1 I = true) → AllFree σ ρ I (l ++ l')
  | [], _ => h'
  | (i, o) :: l, h => ⟨by rw [h (i, o) List.mem_cons_self]; rfl, allFree_in h' fun x hx => h x (List.mem_cons_of_mem _ hx)⟩
/-- A call that leaves the objects it is given as they were; a plain value comes back. -/
theorem st_callK0 {o : Oper} {f : FuncId} {avs : List AV} (hE : EntersAt P o σ f avs) (SS : List (Oid × Cells)) (I : List Oid) {args : List AV} {x : Value} (ha : ArgsR σ [] avs args)
    (sp : Spec P f (inStI args SS) (outStI (.v x) SS I I)) (hk : AllKept σ SS) (hI : SS.map (·.1) = I) (hb : (AV.withins I args && obsWithin I SS && nodupO I && keptB I I SS) = true) (h0 : I ≠ []) : Step P o σ (σ.put o.dst (.v x)) := by
  subst hI
  simp only [Bool.and_eq_true] at hb
  obtain ⟨⟨⟨h1, h2⟩, h3⟩, h4⟩ := hb
  have hid : (SS.map (·.1)).map (rnOf []) = SS.map (·.1) := by rw [rnOf_nil]; simp
  have hw : ∀ x ∈ SS, inO x.1 (SS.map (·.1)) = true ∧ x.2.within (SS.map (·.1)) = true := fun x hx => ⟨inO_iff.2 (List.mem_map_of_mem hx), obsWithin_mem h2 hx⟩
  have h := st_callP hE [] ha h1 h2 (allLvI_kept (rn := []) (fun _ _ => rfl) hk hw) (by rw [hid]; exact h3) h3 (by rw [hid]; exact h3) h3 (by
    have := allFree_in (σ := σ) (ρ := rnOf []) (I := SS.map (·.1)) (l' := []) trivial (l := SS) fun x hx => (hw x hx).1
    rwa [List.append_nil] at this) h4 (r := .v x) rfl h2 sp
  rw [after_kept rfl hk h3] at h
  exact h
/-- The same; a row comes back. -/
theorem st_callK {o : Oper} {f : FuncId} {avs : List AV} (hE : EntersAt P o σ f avs) (id : Oid) (SS : List (Oid × Cells)) (I : List Oid) {args : List AV} {n : Nat} {e : TypeId} {sz : Nat} {cs : List PV} (ha : ArgsR σ [((0, 8), id)] avs args)
    (sp : Spec P f (inStI args SS) (outStI (.ref (0, 8) 0 n) (SS ++ [((0, 8), .row e sz cs)]) I I)) (hk : AllKept σ SS) (hid : σ.ob id = .free) (hii : σ.inc id = false) (hI : SS.map (·.1) = I) (hb : (AV.withins I args && obsWithin I SS && nodupO I && keptB I I SS && !inO (0, 8) I) = true) (h0 : I ≠ []) :
    Step P o σ ((σ.setOb id (.obj (.row e sz cs))).put o.dst (.ref id 0 n)) := by
  subst hI
  simp only [Bool.and_eq_true, Bool.not_eq_true'] at hb
  obtain ⟨⟨⟨⟨h1, h2⟩, h3⟩, h4⟩, h8⟩ := hb
  have hw : ∀ x ∈ SS, inO x.1 (SS.map (·.1)) = true ∧ x.2.within (SS.map (·.1)) = true := fun x hx => ⟨inO_iff.2 (List.mem_map_of_mem hx), obsWithin_mem h2 hx⟩
  have hρ : ∀ i, inO i (SS.map (·.1)) = true → rnOf [((0, 8), id)] i = i := fun i hi => rn1_ne fun e => by rw [e, h8] at hi; cases hi
  have hidI : inO id (SS.map (·.1)) = false := by
    cases h : inO id (SS.map (·.1)) with
    | false => rfl
    | true =>
      obtain ⟨o, ho⟩ := keep_mem rfl (inO_iff.1 h)
      have := (allKept_mem hk ho)
      rw [hid] at this; cases this
  have hmap : ((SS ++ [((0, 8), Cells.row e sz cs)]).map Prod.fst).map (rnOf [((0, 8), id)]) = SS.map (·.1) ++ [id] := by
    rw [List.map_append, List.map_append, map_rn1 h8]
    simp only [List.map_cons, List.map_nil, rn1_eq]
  have hnd : ∀ {l : List Oid} {i : Oid}, nodupO l = true → inO i l = false → nodupO (l ++ [i]) = true := by
    intro l i
    induction l with
    | nil => intro _ _; simp [nodupO, inO]
    | cons x l ih =>
      intro h h'
      simp only [nodupO, Bool.and_eq_true, Bool.not_eq_true'] at h
      simp only [inO, Bool.or_eq_false_iff] at h'
      simp only [List.cons_append, nodupO, Bool.and_eq_true, Bool.not_eq_true']
      refine ⟨?_, ih h.2 h'.2⟩
      cases hc : inO x (l ++ [i]) with
      | false => rfl
      | true =>
        rcases List.mem_append.1 (inO_iff.1 hc) with h4 | h4
        · rw [inO_iff.2 h4] at h; cases h.1
        · simp at h4; subst h4; rw [oeq_self] at h'; cases h'.1
  have hwO : ∀ {l : List (Oid × Cells)} {ids : List Oid} {i : Oid}, obsWithin ids l = true → obsWithin (ids ++ [i]) (l ++ [(i, .row e sz cs)]) = true := by
    intro l ids i
    induction l with
    | nil => intro _; rfl
    | cons x l ih =>
      intro h
      simp only [obsWithin, Bool.and_eq_true] at h
      simp only [List.cons_append, obsWithin, Bool.and_eq_true]
      exact ⟨cwithin_app h.1, ih h.2⟩
  have h := st_callP hE [((0, 8), id)] ha h1 h2 (allLvI_kept hρ hk hw) (by rw [map_rn1 h8]; exact h3) h3 (by rw [hmap]; exact hnd h3 hidI) (by rw [List.map_append]; exact hnd h3 h8) (allFree_in (σ := σ) (l' := [((0, 8), .row e sz cs)]) ⟨by rw [h8, rn1_eq]; exact hid, trivial⟩ fun x hx => (hw x hx).1)
    (keptB_app h4 h8) (r := .ref (0, 8) 0 n) (by
      rw [List.map_append]
      exact inO_iff.2 (List.mem_append_right _ (List.mem_singleton_self _))) (by rw [List.map_append]; exact hwO h2) sp
  rw [after_keptN rfl hk h3 h8 h2 hid hii rfl] at h
  simp only [AV.ren, rn1_eq] at h
  exact h
theorem op_callK0 {dd : Option Tmp} {ty : TypeId} {f : FuncId} {xs : Array Operand} {ats : Array TypeId} (C : Cbl P f) (SS : List (Oid × Cells)) (I : List Oid) {args : List AV} {x : Value} (ha : ArgsR σ [] (xs.toList.map σ.eval) args)
    (sp : Spec P f (inStI args SS) (outStI (.v x) SS I I)) (hk : AllKept σ SS) (hI : SS.map (·.1) = I) (hb : (AV.withins I args && obsWithin I SS && nodupO I && keptB I I SS) = true) (h0 : I ≠ []) : Stp P dd (.call { callee := .value (.func f), args := xs, argTypes := ats }) ty σ (σ.put dd (.v x)) :=
  fun o hd ho ht => by subst hd; exact st_callK0 (.fnc ho C) SS I ha sp hk hI hb h0
theorem op_callK {dd : Option Tmp} {ty : TypeId} {f : FuncId} {xs : Array Operand} {ats : Array TypeId} (C : Cbl P f) (id : Oid) (SS : List (Oid × Cells)) (I : List Oid) {args : List AV} {n : Nat} {e : TypeId} {sz : Nat} {cs : List PV} (ha : ArgsR σ [((0, 8), id)] (xs.toList.map σ.eval) args)
    (sp : Spec P f (inStI args SS) (outStI (.ref (0, 8) 0 n) (SS ++ [((0, 8), .row e sz cs)]) I I)) (hk : AllKept σ SS) (hid : σ.ob id = .free) (hii : σ.inc id = false) (hI : SS.map (·.1) = I) (hb : (AV.withins I args && obsWithin I SS && nodupO I && keptB I I SS && !inO (0, 8) I) = true) (h0 : I ≠ []) :
    Stp P dd (.call { callee := .value (.func f), args := xs, argTypes := ats }) ty σ ((σ.setOb id (.obj (.row e sz cs))).put dd (.ref id 0 n)) :=
  fun o hd ho ht => by subst hd; exact st_callK (.fnc ho C) id SS I ha sp hk hid hii hI hb h0
end
end Go.Proofs.Ytkbkmngbenohkaa

namespace Go.Proofs.Ytkbkmngbenohkaa
open Go.RowKit
section
variable {P : Program} {σ : St} {o : Oper} {T e : TypeId} {size bytes : Nat} {z : List Value}
theorem run_eqlS {w : World} {t e : TypeId} (a : Addr) (n c : Nat) (ht : P.underlying t = some (.slice e)) : (binOp .eql t (.slice (some a) n c) (.slice none 0 0)).run P w = .ok (.bool false) w := by
  have h1 (d : Nat) : (Op.equalIn (d + 1) t (.slice (some a) n c) (.slice none 0 0)).run P w = .ok false w := by
    simp [run_underlying ht, Op.equalIn]
  have h2 := h1 9999
  simp only [binOp]
  simp [Op.equal, Op.maxDepth, h2]
/-- A slice with elements is not nil. -/
theorem op_eqlS {dd : Option Tmp} {ty : TypeId} {t t' e : TypeId} (x y : Operand) (h : P.underlying t = some (.slice e)) {n : Nat} (hx : (∃ xs, σ.eval x = .sl n xs) ∨ ∃ id off e sz xs, σ.eval x = .ref id off n ∧ σ.ob id = .obj (.row e sz xs)) (hn : 0 < n) (hy : σ.eval y = .v (.slice none 0 0)) : Stp P dd (.binOp .eql t x y t') ty σ (σ.put dd (.v (.bool false))) := by
  intro o hd ho ht
  subst hd
  refine step_val fun _ ι S a w R => ⟨_, ?_, .v, fun _ => noHasV⟩
  have hp : ∃ p m c, a.eval x = .slice (some p) m c := by
    rcases hx with ⟨xs, hx⟩ | ⟨id, off, e, sz, xs, hx, hid⟩
    · have hr := R.eval x
      rw [hx] at hr
      generalize a.eval x = u at hr
      cases hr with
      | sl h =>
        cases h with
        | sl0 h0 h1 h2 =>
          rename_i c ao
          cases ao with
          | none => have := h2 rfl; omega
          | some p => exact ⟨_, _, _, rfl⟩
        | sl => exact ⟨_, _, _, rfl⟩
    · obtain ⟨B, h1, _, _⟩ := R.ob id _ hid
      have hr := R.eval x
      rw [hx] at hr
      generalize a.eval x = u at hr
      cases hr with
      | ref h _ =>
        obtain ⟨c, _, _, h5⟩ := h B h1
        cases hg : B.g with
        | none => rw [hg] at h5; have := h5.2.1; omega
        | some g =>
          rw [hg] at h5
          obtain ⟨o', rfl, _⟩ := h5
          exact ⟨_, _, _, rfl⟩
  obtain ⟨p, m, c, hp⟩ := hp
  have h2 := Rep.evV R hy
  have hq := run_eqlS (w := w) p m c h
  clear h hx hy
  generalize a.eval = ρ at hp h2
  simp [execOp, ho, hp, h2, eqGuard, hq]
/-- append to a slice with no spare room, as a row of a call's own. -/
theorem op_apZR {dd : Option Tmp} {ty : TypeId} (id' : Oid) (s x : Operand) (E : Elem P T e size bytes z) (hs : σ.eval s = .z) {m : Nat} (hm : 0 < m) {news : List PV} (hx : SrcAV σ (σ.eval x) size m news) (hb : m * bytes ≤ 140737488355328) (hid' : σ.ob id' = .free) :
    Stp P dd (.call { callee := .builtin .append, args := #[s, x], argTypes := #[T, T] }) ty σ ((σ.setOb id' (.obj (.row e size news))).put dd (.ref id' 0 m)) := by
  intro o hd ho ht
  subst hd
  intro K ι S a w R
  have hv := R.eval s
  rw [hs] at hv
  obtain ⟨vs, hsl, hvl, hvr⟩ := hx.src R E.pos
  obtain ⟨v', w', hr, h4, h5, _, h7⟩ := run_app (P := P) (T := T) o.type 0 (.slice none 0 0) 0 [] (World.ownsRow_nil _ _ _ _) (a.eval x) m vs hsl (by simpa using hb) (Nat.zero_le _)
  have hrun : (execOp a.eval o).run P w = .ok (.value v') w' := by
    generalize hu : a.eval s = u at hv
    cases hv with
    | z =>
      rename_i ao
      have h0 : (Builtin.append_ #[T, T] o.type #[.slice ao 0 0, a.eval x]).run P w = .ok v' w' := by
        cases ao with
        | none => exact hr
        | some b => exact ((run_app0 (P := P) (T := T) w o.type b (a.eval x) m vs hsl hb).resolve_left fun h => by omega).trans hr
      unfold execOp
      simp only [ho, resolve, invoke, builtin, Sem.run_bind, Sem.run_pure, Result.andThen_ok, List.map_toArray, List.map_cons, List.map_nil, hu, h0]
  simp only [List.nil_append, Nat.zero_add] at h4
  have hbl : Below w.heap.size w w' := below_grown (by simpa [Value.ownBlock] using h5)
  rcases own_split h4 with ⟨hv', hn0, hu0⟩ | ⟨g, c, cur, hv', hg, hnc, hcm, hcs, hcu⟩
  · omega
  · subst hv'
    refine yields_value hrun (R.newRow hid' hbl e size m hg ?_ hnc hcm hcs (by rw [← hvl]; exact h4.1) (fun j b hb' => ?_) _)
    · rcases h7 with h | ⟨k, hk, hle⟩
      · simp [Value.ownBlock] at h
      · simp [Value.ownBlock] at hk; omega
    · obtain ⟨u, a1, a2, a3⟩ := hvr j b hb'
      exact ⟨u, hcu j u a1, a2, a3⟩
theorem op_callK0V {dd : Option Tmp} {ty : TypeId} {f : FuncId} {x0 : Operand} {xs : Array Operand} {ats : Array TypeId} {first caps : List AV} (hx : σ.eval x0 = .fn (.func f) first caps) (C : Cbl P f) (SS : List (Oid × Cells)) (I : List Oid) {args : List AV} {x : Value} (ha : ArgsR σ [] (first ++ xs.toList.map σ.eval ++ caps) args)
    (sp : Spec P f (inStI args SS) (outStI (.v x) SS I I)) (hk : AllKept σ SS) (hI : SS.map (·.1) = I) (hb : (AV.withins I args && obsWithin I SS && nodupO I && keptB I I SS) = true) (h0 : I ≠ []) : Stp P dd (.call { callee := .value x0, args := xs, argTypes := ats }) ty σ (σ.put dd (.v x)) :=
  fun o hd ho ht => by subst hd; exact st_callK0 (.fnv ho C hx) SS I ha sp hk hI hb h0
/-- A call that is handed objects; what is kept stays what it was. -/
theorem op_callP {dd : Option Tmp} {ty : TypeId} {f : FuncId} {xs : Array Operand} {ats : Array TypeId} (C : Cbl P f) (rn : List (Oid × Oid)) {args : List AV} {ins outs : List (Oid × Cells)} {r : AV} {I Pn : List Oid}
    (ha : ArgsR σ rn (xs.toList.map σ.eval) args) (sp : Spec P f (inStI args ins) (outStI r outs I Pn)) (hins : AllLvI (rnOf rn) σ (fun _ => false) (ins.map (·.1)) ins) (hfr : AllFree σ (rnOf rn) (ins.map (·.1)) outs)
    (hb : (AV.withins (ins.map (·.1)) args && obsWithin (ins.map (·.1)) ins && nodupO ((ins.map (·.1)).map (rnOf rn)) && nodupO (ins.map (·.1)) && nodupO ((outs.map (·.1)).map (rnOf rn)) && nodupO (outs.map (·.1)) && keptB (ins.map (·.1)) Pn outs && r.within (outs.map (·.1)) && obsWithin (outs.map (·.1)) outs) = true) :
    Stp P dd (.call { callee := .value (.func f), args := xs, argTypes := ats }) ty σ ((σ.afterP (rnOf rn) outs (ins.map (·.1)) I).put dd (r.ren (rnOf rn))) := by
  intro o hd ho ht
  subst hd
  simp only [Bool.and_eq_true] at hb
  obtain ⟨⟨⟨⟨⟨⟨⟨⟨h1, h2⟩, h3⟩, h4⟩, h5⟩, h6⟩, h7⟩, h8⟩, h9⟩ := hb
  exact st_callP (.fnc ho C) rn ha h1 h2 hins h3 h4 h5 h6 hfr h7 h8 h9 sp
theorem op_callPV {dd : Option Tmp} {ty : TypeId} {f : FuncId} {x0 : Operand} {xs : Array Operand} {ats : Array TypeId} {first caps : List AV} (hx : σ.eval x0 = .fn (.func f) first caps) (C : Cbl P f) (rn : List (Oid × Oid)) {args : List AV} {ins outs : List (Oid × Cells)} {r : AV} {I Pn : List Oid}
    (ha : ArgsR σ rn (first ++ xs.toList.map σ.eval ++ caps) args) (sp : Spec P f (inStI args ins) (outStI r outs I Pn)) (hins : AllLvI (rnOf rn) σ (fun _ => false) (ins.map (·.1)) ins) (hfr : AllFree σ (rnOf rn) (ins.map (·.1)) outs)
    (hb : (AV.withins (ins.map (·.1)) args && obsWithin (ins.map (·.1)) ins && nodupO ((ins.map (·.1)).map (rnOf rn)) && nodupO (ins.map (·.1)) && nodupO ((outs.map (·.1)).map (rnOf rn)) && nodupO (outs.map (·.1)) && keptB (ins.map (·.1)) Pn outs && r.within (outs.map (·.1)) && obsWithin (outs.map (·.1)) outs) = true) :
    Stp P dd (.call { callee := .value x0, args := xs, argTypes := ats }) ty σ ((σ.afterP (rnOf rn) outs (ins.map (·.1)) I).put dd (r.ren (rnOf rn))) := by
  intro o hd ho ht
  subst hd
  simp only [Bool.and_eq_true] at hb
  obtain ⟨⟨⟨⟨⟨⟨⟨⟨h1, h2⟩, h3⟩, h4⟩, h5⟩, h6⟩, h7⟩, h8⟩, h9⟩ := hb
  exact st_callP (.fnv ho C hx) rn ha h1 h2 hins h3 h4 h5 h6 hfr h7 h8 h9 sp
theorem obT {ρ : Oid → Oid} {Fz : List Oid} {I : List Oid} {i m : Oid} {since t : Nat} {seen : Array Nat} (hF : inO (ρ i) Fz = false) (h : σ.ob (ρ i) = .obj (.it (ρ m) since seen t)) (hinc : (bif inO i I then false else σ.inc (ρ i)) = false) :
    inO (ρ i) Fz = false ∧ (∃ o2, σ.ob (ρ i) = .obj o2 ∧ LvO (ρ) σ (fun i => inO i Fz) (.it m since seen t) o2) ∧ (bif inO i I then false else σ.inc (ρ i)) = false := ⟨hF, ⟨_, h, .it⟩, hinc⟩
theorem lvO_k {id : Oid} {F : Oid → Bool} (I : List Oid) (h8 : inO (0, 8) I = false) {o : Cells} (hw : o.within I = true) : LvO (rnOf [((0, 8), id)]) σ F o o := lvO_within (fun i hi => rn1_ne fun e => by rw [e, h8] at hi; cases hi) o hw
/-- An object that names none of those renamed. -/
theorem obW {ρ : Oid → Oid} {Fz : List Oid} {I : List Oid} {i : Oid} {o : Cells} (ids : List Oid) (hF : inO (ρ i) Fz = false) (h : σ.ob (ρ i) = .obj o) (hinc : (bif inO i I then false else σ.inc (ρ i)) = false) (hids : ids.all (fun j => oeq (ρ j) j) = true) (hw : o.within ids = true) :
    inO (ρ i) Fz = false ∧ (∃ o2, σ.ob (ρ i) = .obj o2 ∧ LvO (ρ) σ (fun i => inO i Fz) o o2) ∧ (bif inO i I then false else σ.inc (ρ i)) = false :=
  ⟨hF, ⟨_, h, lvO_within (fun j hj => oeq_iff.1 (List.all_eq_true.1 hids j (inO_iff.1 hj))) o hw⟩, hinc⟩
theorem lvW {ρ : Oid → Oid} {F : Oid → Bool} {a b : AV} (ids : List Oid) (hids : ids.all (fun j => oeq (ρ j) j) = true) (hb : b = a) (hw : a.within ids = true) : Lv ρ σ F a b :=
  by subst hb; exact lv_within (fun j hj => oeq_iff.1 (List.all_eq_true.1 hids j (inO_iff.1 hj))) _ hw
/-- The objects that a call gets under their own names. -/
theorem insK {rn : List (Oid × Oid)} {SS : List (Oid × Cells)} (hk : AllKept σ SS) (hr : (SS.map (·.1)).all (fun i => oeq (rnOf rn i) i) = true) (hw : obsWithin (SS.map (·.1)) SS = true) : AllLvI (rnOf rn) σ (fun _ => false) (SS.map (·.1)) SS :=
  allLvI_kept (fun i hi => oeq_iff.1 (List.all_eq_true.1 hr i (inO_iff.1 hi))) hk fun _ hx => ⟨inO_iff.2 (List.mem_map_of_mem hx), obsWithin_mem hw hx⟩
end
/-- A slot's slice whose elements hold objects is only read from here on. -/
theorem Le.frzRt {σ : St} (t : Nat) {id : Oid} {n : Nat} {e : TypeId} {xs : List AV} {ys : List PV} (hr : σ.fr t = .ref id 0 n) (hid : σ.ob id = .obj (.box e xs)) (hi : σ.inc id = false) (hy : downs xs = some ys) :
    Le ((σ.setOb id .gone).put (some t) (.sl n ys)) σ := by
  intro K ι S a w R
  have hob : ∀ i o, ((σ.setOb id .gone).put (some t) (.sl n ys)).ob i = .obj o → oeq i id = false ∧ σ.ob i = .obj o := by
    intro i o h
    rw [St.put_ob] at h
    simp only [St.setOb] at h
    cases hb : oeq i id with
    | true => rw [hb] at h; cases h
    | false => rw [hb] at h; exact ⟨rfl, h⟩
  have hnf : ∀ i, σ.ob i ≠ .free → ((σ.setOb id .gone).put (some t) (.sl n ys)).ob i ≠ .free := by
    intro i h h'
    rw [St.put_ob] at h'
    simp only [St.setOb] at h'
    cases hb : oeq i id with
    | true => rw [hb] at h'; cases h'
    | false => rw [hb] at h'; exact h h'
  refine Le.of (fun i => i) (fun i => oeq i id) (by rw [St.put_n]; rfl) (fun u hu => ?_) (fun i o h => ?_) (fun _ _ _ _ _ _ h => h) (fun i h => ?_) (fun i o h h' => ?_) (fun u i h => ?_) (fun i o j h h' => ?_) (fun i h o hp ho => ?_) (fun i h => ?_) K ι S a w R
  · show Lv _ _ _ (bif Nat.beq u t then _ else σ.fr u) _
    cases hb : Nat.beq u t with
    | true => rw [Nat.eq_of_beq_eq_true hb, hr]; exact .frzR hid (oeq_self id) hy
    | false => exact Lv.same _
  · obtain ⟨h1, h2⟩ := hob i o h
    exact ⟨h1, o, h2, LvO.same o⟩
  · rw [oeq_iff.1 h]; exact hi
  · exact h'
  · replace h : Has i (bif Nat.beq u t then _ else σ.fr u) := h
    cases hb : Nat.beq u t with
    | true => rw [hb] at h; cases h
    | false => rw [hb] at h; exact hnf i (R.cl u i h)
  · exact hnf j (R.clo i o j (hob i o h).2 h')
  · exact hp
  · refine R.pf i ?_
    rw [St.put_ob] at h
    simp only [St.setOb] at h
    cases hb : oeq i id with
    | true => rw [hb] at h; cases h
    | false => rw [hb] at h; exact h

end Go.Proofs.Ytkbkmngbenohkaa

namespace Go.Proofs.Ytkbkmngbenohkaa
open Go.RowKit

/-- R a v: a is v or an ancestor of v. -/
abbrev Rl := Nat → Nat → Bool
/-- What a test of v comes to. -/
def nst (st : List Int) (v : Nat) : Int := if st.getD v 2 ≠ 0 ∧ st.getD v 2 ≠ 1 then 2 else st.getD v 2
def mmap (st : List Int) (ord : List Nat) : List (Int × Value) := ord.map fun (v : Nat) => ((v : Int), .int .i64 (nst st v))
@[simp] theorem mmap_len (st : List Int) (ord : List Nat) : (mmap st ord).length = ord.length := by simp [mmap]
theorem mmap_get {st : List Int} {ord : List Nat} {i : Nat} {p : Int × Value} (h : (mmap st ord)[i]? = some p) : ∃ v, ord[i]? = some v ∧ p = ((v : Int), .int .i64 (nst st v)) := by
 simp only [mmap, List.getElem?_map, Option.map_eq_some_iff] at h
 obtain ⟨v, h1, h2⟩ := h
 exact ⟨v, h1, h2.symm⟩
theorem mmap_none {st : List Int} {ord : List Nat} {v : Nat} (h : v ∉ ord) : mget (mmap st ord) (v : Int) = none := by
 refine mget_none fun p hp e => h ?_
 simp only [mmap, List.mem_map] at hp
 obtain ⟨u, hu, rfl⟩ := hp
 have : u = v := by simp only at e; omega
 exact this ▸ hu
theorem mmap_some {st : List Int} {ord : List Nat} {v : Nat} (h : v ∈ ord) : mget (mmap st ord) (v : Int) = some (.int .i64 (nst st v)) := by
 refine mget_some ⟨_, List.mem_map_of_mem h, rfl⟩ fun p hp e => ?_
 simp only [mmap, List.mem_map] at hp
 obtain ⟨u, hu, rfl⟩ := hp
 have : u = v := by simp only at e; omega
 rw [this]
theorem mmap_app (st : List Int) (ord : List Nat) (v : Nat) : mmap st ord ++ [((v : Int), .int .i64 (nst st v))] = mmap st (ord ++ [v]) := by simp [mmap]
/-- The versions tested with a status, in increasing order. -/
def tst (n : Nat) (ord : List Nat) (st : List Int) (s : Int) : List Nat := (List.range n).filter fun v => decide (v ∈ ord) && decide (nst st v = s)
theorem tst_mem {n : Nat} {ord : List Nat} {st : List Int} {s : Int} {v : Nat} : v ∈ tst n ord st s ↔ v < n ∧ v ∈ ord ∧ nst st v = s := by simp [tst]
theorem tst_len (n : Nat) (ord : List Nat) (st : List Int) (s : Int) : (tst n ord st s).length ≤ n := by
 have := List.length_filter_le (fun v => decide (v ∈ ord) && decide (nst st v = s)) (List.range n)
 simpa [tst] using this
theorem tst_sorted (n : Nat) (ord : List Nat) (st : List Int) (s : Int) : (tst n ord st s).Pairwise (· < ·) := List.Pairwise.filter _ List.pairwise_lt_range
def ok1 (n : Nat) (ord : List Nat) : Prop := ord.Nodup ∧ ∀ v ∈ ord, v < n
theorem ok1.len {n : Nat} {ord : List Nat} (h : ok1 n ord) : ord.length ≤ n := nodup_le n ord h.1 h.2
theorem ok1.add {n : Nat} {ord : List Nat} (h : ok1 n ord) {v : Nat} (hv : v < n) (hn : v ∉ ord) : ok1 n (ord ++ [v]) := by
 refine ⟨List.nodup_append.2 ⟨h.1, by simp, fun a ha b hb e => by simp at hb; subst hb; subst e; exact hn ha⟩, fun u hu => ?_⟩
 rcases List.mem_append.1 hu with hu | hu
 ·exact h.2 u hu
 ·simp at hu; subst hu; exact hv
/-- What is collected from the map in whatever order, sorted. -/
theorem tst_srt {n : Nat} {ord : List Nat} {st : List Int} {s : Int} (ho : ok1 n ord) {seen : List Nat} (hs : seen.Nodup) (hall : ∀ i, i < ord.length → i ∈ seen) (hlt : ∀ i ∈ seen, i < ord.length) :
  isl (srt (((seen.map fun i => ord.getD i 0).filter fun v => decide (nst st v = s)).map fun (v : Nat) => (v : Int))) = nsl (tst n ord st s) := by
 have e : srt (((seen.map fun i => ord.getD i 0).filter fun v => decide (nst st v = s)).map fun (v : Nat) => (v : Int)) = (tst n ord st s).map fun (v : Nat) => (v : Int) := by
  refine (srt_of ?_ ?_).symm
  ·refine List.Perm.map _ ?_
   refine (List.perm_ext_iff_of_nodup ((tst_sorted n ord st s).imp fun h => Nat.ne_of_lt h) ?_).2 fun v => ?_
   ·refine List.Pairwise.filter _ ?_
    refine List.pairwise_map.2 (List.Pairwise.imp_of_mem (fun {i j} hi hj hne h => hne ?_) hs)
    have h1 := hlt i hi
    have h2 := hlt j hj
    have h3 : ord[i] = ord[j] := by simpa [List.getD_eq_getElem?_getD, h1, h2] using h
    exact (List.getElem_inj ho.1).1 h3
   ·rw [tst_mem, List.mem_filter, List.mem_map, decide_eq_true_eq]
    constructor
    ·rintro ⟨h1, h2, h3⟩
     obtain ⟨i, hi, rfl⟩ := List.getElem_of_mem h2
     exact ⟨⟨i, hall i hi, by simp [List.getD_eq_getElem?_getD, hi]⟩, h3⟩
    ·rintro ⟨⟨i, hi, rfl⟩, h3⟩
     have h1 : ord.getD i 0 ∈ ord := getD_mem (hlt i hi)
     exact ⟨ho.2 _ h1, h1, h3⟩
  ·rw [List.pairwise_map]
   exact (tst_sorted n ord st s).imp fun h => by omega
 rw [e]
 simp [isl, nsl]
/-- A version tested as bad is an ancestor of one tested as good. -/
def con (R : Rl) (n : Nat) (ord : List Nat) (st : List Int) : Bool := (tst n ord st 0).any fun g => (tst n ord st 1).any fun b => R b g
def stl (R : Rl) (n : Nat) (ord : List Nat) (st : List Int) (h v : Nat) : Bool := decide (v ∈ ord) || ((tst n ord st 0).any (fun g => R v g) || (tst n ord st 1).any fun b => decide (b ≠ h) && R b v)
def opn (R : Rl) (n : Nat) (ord : List Nat) (st : List Int) (h : Nat) (sc : List Nat) : List Nat := sc.filter fun v => !stl R n ord st h v
def cnd (R : Rl) (n : Nat) (ord : List Nat) (st : List Int) : List Nat := (tst n ord st 1).filter fun v => !(tst n ord st 1).any fun b => decide (b ≠ v) && R b v
def upc (R : Rl) (l : List Nat) (v : Nat) : Nat := l.countP fun x => R x v
def dnc (R : Rl) (l : List Nat) (v : Nat) : Nat := l.countP fun x => R v x
def chs1 (R : Rl) (l : List Nat) (q : Int × Int) (v : Nat) : Int × Int := if ((min (upc R l v) (dnc R l v) : Nat) : Int) > q.2 then ((v : Int), ((min (upc R l v) (dnc R l v) : Nat) : Int)) else q
def chsK (R : Rl) (l : List Nat) (k : Nat) : Int × Int := (l.take k).foldl (chs1 R l) (-1, -1)
def chs (R : Rl) (l : List Nat) : Int := (chsK R l l.length).1
theorem chsK_succ {R : Rl} {l : List Nat} {k : Nat} (hk : k < l.length) : chsK R l (k + 1) = chs1 R l (chsK R l k) (l.getD k 0) := by
 unfold chsK
 rw [take1 0 hk, List.foldl_append]; rfl
theorem countP_take {p : Nat → Bool} {l : List Nat} {k : Nat} (hk : k < l.length) : (l.take (k + 1)).countP p = (l.take k).countP p + (if p (l.getD k 0) then 1 else 0) := by
 rw [take1 0 hk, List.countP_append]
 simp [List.countP_cons]
theorem countP_le {p : Nat → Bool} (l : List Nat) (k : Nat) : (l.take k).countP p ≤ l.length := by
 have h1 := List.countP_le_length (p := p) (l := l.take k)
 simp only [List.length_take] at h1
 omega
theorem chsK_bd {R : Rl} {l : List Nat} : ∀ k, k ≤ l.length → -1 ≤ (chsK R l k).2 ∧ (chsK R l k).2 ≤ l.length
 | 0, _ => by simp only [chsK, List.take_zero, List.foldl_nil]; omega
 | k + 1, h => by
  have ih := chsK_bd (R := R) (l := l) k (by omega)
  rw [chsK_succ (by omega)]
  unfold chs1
  have h1 : upc R l (l.getD k 0) ≤ l.length := List.countP_le_length
  split
  ·simp only; omega
  ·exact ih
end Go.Proofs.Ytkbkmngbenohkaa

namespace Go.Proofs.Ytkbkmngbenohkaa
open Go.RowKit

theorem index_spec (n : Nat) (l : List Int) (x : Int) (hn : l.length = n) (h1 : n ≤ 4611686018427387904) :
    Spec Try.prog 151 (inSt [.sl n (isl l), .v (.int .i64 x)] []) (outSt (.v (.int .i64 (firstI (fun y => decide (x = y)) l))) []) := by
  refine Spec.ofN Try.func151 rfl Try.ntmps151 rfl ?_
  refine D_seq fun K1 hK1 => ?_
  refine D_region ?_
  refine DL_c (op_as _ (rfl : _ = AV.v (.int _ _))) ?_
  refine DL_nil (hK1 _ ?_)
  clear hK1; try clear K1
  refine D_seq fun K2 hK2 => ?_
  refine D_seq fun K3 hK3 => ?_
  refine D_region ?_
  refine DL_c (op_mv _ (rfl : _ = AV.sl _ _)) ?_
  refine DL_c (op_lenS _ inferInstance rfl) ?_
  refine DL_c (op_mv _ (rfl : _ = AV.v (.int _ _))) ?_
  refine DL_nil (hK3 _ ?_)
  clear hK3; try clear K3
  refine D_block ?_
  refine D_loopL (α := Nat) (fun i => i ≤ n ∧ ∀ j, j < i → decide (x = l.getD j 0) = false) 19 [(0, _), (1, _), (7, _)] [] (fun i => [(8, .v (.int .i64 (i : Int)))]) (fun i => []) [] [] (fun i => n - i) 0 ?_ (by
    refine Le.mkJ [] [] rfl ?_ ?_ trivial trivial ?_
    · exact ⟨(iS rfl), (iV rfl), (iV rfl), (lvI (by rfl)), trivial⟩
    · exact trivial
    · kernel_rfl) ?_
  · exact ⟨by omega, fun j hj => by omega⟩
  intro i hi
  obtain ⟨hi, hno⟩ := hi
  refine D_seq fun K4 hK4 => ?_
  refine D_region ?_
  refine DL_c (op_lss _ _ rfl rfl rfl) ?_
  refine DL_nil (hK4 _ ?_)
  clear hK4; try clear K4
  refine D_seq fun K5 hK5 => ?_
  refine D_splitC rfl (fun hc9 => ?_) (fun hc9 => ?_)
  · skip
    refine D_skip (hK5 _ ?_)
    clear hK5; try clear K5
    refine D_seq fun K6 hK6 => ?_
    refine D_block ?_
    refine D_seq fun K7 hK7 => ?_
    refine D_region ?_
    refine DL_c (op_mv _ (rfl : _ = AV.v (.int _ _))) ?_
    refine DL_c (op_as _ (rfl : _ = AV.v (.int _ _))) ?_
    refine DL_nil (hK7 _ ?_)
    clear hK7; try clear K7
    refine D_seq fun K8 hK8 => ?_
    refine D_region ?_
    refine DL_c (op_mv _ (rfl : _ = AV.v (.int _ _))) ?_
    refine DL_c (op_mv _ (rfl : _ = AV.sl _ _)) ?_
    refine DL_c (op_mv _ (rfl : _ = AV.v (.int _ _))) ?_
    refine DL_c (op_ixS _ _ inferInstance rfl rfl _ rfl (by omega) (by (simp only [isl_len, bsl_len, psl_len, mrows_len, nsl_len, ws_len, List.length_map, ul_len, psl_len, isl_len, nrows_len, prL_len, blR_len, stK_len, inh1_len, st0_len, status32_len]; omega)) (by exact Nat.mul_one _)) ?_
    refine DL_c (op_ldF _ inferInstance rfl (by exact isl_get _ _ (by omega)) rfl) ?_
    refine DL_c (op_eql _ _ rfl rfl rfl) ?_
    refine DL_nil (hK8 _ ?_)
    clear hK8; try clear K8
    refine D_splitC rfl (fun hc16 => ?_) (fun hc16 => ?_)
    · skip
      refine D_seq fun K9 hK9 => ?_
      refine D_region ?_
      refine DL_c (op_mv _ (rfl : _ = AV.v (.int _ _))) ?_
      refine DL_c (op_as _ (rfl : _ = AV.v (.int _ _))) ?_
      refine DL_nil (hK9 _ ?_)
      clear hK9; try clear K9
      refine D_ret ?_
      refine ret1 (.inr rfl) rfl (.tmp (rfl : _ = AV.v (.int _ _))) (Le.out [] [] (lvI ?_) rfl rfl rfl trivial trivial)
      exact firstI_at (p := fun y => decide (x = y)) (by omega) hno (decide_eq_true hc16)
    · skip
      refine D_skip (hK6 _ ?_)
      clear hK6; try clear K6
      refine D_region ?_
      refine DL_c (op_add _ _ rfl rfl (i64w (by omega))) ?_
      refine DL_c (op_mv _ (rfl : _ = AV.v (.int _ _))) ?_
      refine DL_nil ?_
      refine ⟨i + 1, ?_, ?_, ?_⟩
      · exact ⟨by omega, all_succ hno (decide_eq_false hc16)⟩
      · skip
        refine Le.mkJ [] [] rfl ?_ ?_ trivial trivial ?_
        · exact ⟨(iS rfl), (iV rfl), (iV rfl), (lvI (by rfl)), trivial⟩
        · exact trivial
        · kernel_rfl
      · omega
  · skip
    refine D_exit ?_
    refine id (hK2 _ ?_)
    clear hK2; try clear K2
    refine D_seq fun K10 hK10 => ?_
    refine D_region ?_
    refine DL_c (op_as _ (rfl : _ = AV.v (.int _ _))) ?_
    refine DL_nil (hK10 _ ?_)
    clear hK10; try clear K10
    refine D_ret ?_
    refine ret1 (.inr rfl) rfl (.tmp (rfl : _ = AV.v (.int _ _))) (Le.out [] [] (lvI ?_) rfl rfl rfl trivial trivial)
    exact firstI_none (p := fun y => decide (x = y)) fun j hj => hno j (by omega)
theorem contains_spec (n : Nat) (l : List Int) (x : Int) (hn : l.length = n) (h1 : n ≤ 4611686018427387904) :
    Spec Try.prog 139 (inSt [.sl n (isl l), .v (.int .i64 x)] []) (outSt (.v (.bool (decide (x ∈ l)))) []) := by
  refine Spec.ofN Try.func139 rfl Try.ntmps139 rfl ?_
  refine D_seq fun K1 hK1 => ?_
  refine D_region ?_
  refine DL_c (op_as _ (rfl : _ = AV.v (.bool _))) ?_
  refine DL_nil (hK1 _ ?_)
  clear hK1; try clear K1
  refine D_seq fun K2 hK2 => ?_
  refine D_region ?_
  refine DL_c (op_mv _ (rfl : _ = AV.sl _ _)) ?_
  refine DL_c (op_mv _ (rfl : _ = AV.v (.int _ _))) ?_
  refine DL_c (op_callH inferInstance (by repeat' (first | exact argsLv_nil | refine argsLv_cons ?_ ?_ | exact Lv.v | exact Lv.sl)) (index_spec n l x hn h1) rfl rfl) ?_
  refine DL_c (op_geq _ _ rfl rfl rfl) ?_
  refine DL_c (op_as _ (rfl : _ = AV.v (.bool _))) ?_
  refine DL_nil (hK2 _ ?_)
  clear hK2; try clear K2
  refine D_ret ?_
  refine ret1 (.inr rfl) rfl (.tmp (rfl : _ = AV.v (.bool _))) (Le.out [] [] (lvB ?_) rfl rfl rfl trivial trivial)
  rw [firstI_any, Bool.eq_iff_iff]; simp
/-- a is v or an ancestor of v, by the words. -/
def anR (n : Nat) (A : List Nat) : Rl := fun a v => decide (a ∈ wat n A (v : Int))
abbrev sP (n : Nat) (P A : List Nat) (h : Nat) (sc : List Nat) : List PV := [.ptr 0 (gra n P A), .v (.int .i64 (h : Int)), .sl sc.length (nsl sc)]
theorem anc_spec (n : Nat) (P A : List Nat) (hA : A.length = n) (hn : n ≤ 64) (hw : ∀ v, A.getD v 0 < 18446744073709551616) (h : Nat) (sc : List Nat) (a v : Nat) :
    Spec Try.prog 128 (inSt [.fp 0 (sP n P A h sc), .v (.int .i64 (a : Int)), .v (.int .i64 (v : Int))] []) (outSt (.v (.bool (anR n A a v))) []) := by
  have hanc := ancestors_spec n P A hA hn hw (v : Int)
  have hwl := wat_len (n := n) A (v : Int)
  have hct := contains_spec (wat n A (v : Int)).length ((wat n A (v : Int)).map fun (x : Nat) => (x : Int)) (a : Int) (by simp) (by omega)
  have e1 : decide ((a : Int) ∈ (wat n A (v : Int)).map fun (x : Nat) => (x : Int)) = anR n A a v := by
    unfold anR
    rw [Bool.eq_iff_iff, decide_eq_true_eq, decide_eq_true_eq, List.mem_map]
    exact ⟨fun ⟨y, h1, h2⟩ => by have : y = a := by omega
                                 exact this ▸ h1, fun h => ⟨a, h, rfl⟩⟩
  rw [e1] at hct
  refine Spec.ofN Try.func128 rfl Try.ntmps128 rfl ?_
  refine D_seq fun K1 hK1 => ?_
  refine D_region ?_
  refine DL_c (op_as _ (rfl : _ = AV.v (.bool _))) ?_
  refine DL_nil (hK1 _ ?_)
  clear hK1; try clear K1
  refine D_seq fun K2 hK2 => ?_
  refine D_region ?_
  refine DL_c (op_mv _ (rfl : _ = AV.fp _ _)) ?_
  refine DL_c (op_nilc _ rfl) ?_
  refine DL_c (op_fldF _ inferInstance rfl rfl) ?_
  refine DL_c (op_ldF _ inferInstance rfl (rfl : _ = some (PV.ptr 0 (gra n P A))) rfl) ?_
  refine DL_c (op_mv _ (rfl : _ = AV.v (.int _ _))) ?_
  refine DL_c (op_callH inferInstance (by repeat' (first | exact argsLv_nil | refine argsLv_cons ?_ ?_ | exact Lv.v | exact Lv.fp)) (hanc) rfl rfl) ?_
  refine DL_c (op_mv _ (rfl : _ = AV.v (.int _ _))) ?_
  refine DL_c (op_callH inferInstance (by repeat' (first | exact argsLv_nil | refine argsLv_cons ?_ ?_ | exact Lv.v | exact Lv.sl)) (hct) rfl rfl) ?_
  refine DL_c (op_as _ (rfl : _ = AV.v (.bool _))) ?_
  refine DL_nil (hK2 _ ?_)
  clear hK2; try clear K2
  refine D_ret ?_
  refine ret1 (.inr rfl) rfl (.tmp (rfl : _ = AV.v (.bool _))) (Le.out [] [] (lvB ?_) rfl rfl rfl trivial trivial)
  rfl
theorem choose_spec (n : Nat) (P A : List Nat) (hA : A.length = n) (hn : n ≤ 64) (hw : ∀ v, A.getD v 0 < 18446744073709551616) (h : Nat) (sc : List Nat) (m : Nat) (l : List Nat) (hm : l.length = m) (h1 : m ≤ 1000) :
    Spec Try.prog 109 (inSt [.fp 0 (sP n P A h sc), .sl m (nsl l)] []) (outSt (.v (.int .i64 (chs (anR n A) l))) []) := by
  have ha := fun a v => anc_spec n P A hA hn hw h sc a v
  have hbd := fun k hk => chsK_bd (R := anR n A) (l := l) k hk
  generalize anR n A = R at *
  refine Spec.ofN Try.func109 rfl Try.ntmps109 rfl ?_
  refine D_seq fun K1 hK1 => ?_
  refine D_region ?_
  refine DL_c (op_as _ (rfl : _ = AV.v (.int _ _))) ?_
  refine DL_nil (hK1 _ ?_)
  clear hK1; try clear K1
  refine D_seq fun K2 hK2 => ?_
  refine D_region ?_
  refine DL_c (op_as _ (rfl : _ = AV.v (.int _ _))) ?_
  refine DL_c (op_as _ (rfl : _ = AV.v (.int _ _))) ?_
  refine DL_nil (hK2 _ ?_)
  clear hK2; try clear K2
  refine D_seq fun K3 hK3 => ?_
  refine D_seq fun K4 hK4 => ?_
  refine D_region ?_
  refine DL_c (op_mv _ (rfl : _ = AV.sl _ _)) ?_
  refine DL_c (op_lenS _ inferInstance rfl) ?_
  refine DL_c (op_mv _ (rfl : _ = AV.v (.int _ _))) ?_
  refine DL_nil (hK4 _ ?_)
  clear hK4; try clear K4
  refine D_block ?_
  refine D_loopL (α := Nat) (fun k => k ≤ m) 49 [(0, _), (1, _), (14, _), (15, _)] [] (fun k => [(16, .v (.int .i64 (k : Int))), (5, .v (.int .i64 (chsK R l k).1)), (6, .v (.int .i64 (chsK R l k).2))]) (fun k => []) [] [] (fun k => m - k) 0 ?_ (by
    refine Le.mkJ [] [] rfl ?_ ?_ trivial trivial ?_
    · exact ⟨(iF rfl), (iS rfl), (iS rfl), (iV rfl), (lvI (by rfl)), (lvI (by rfl)), (lvI (by rfl)), trivial⟩
    · exact trivial
    · kernel_rfl) ?_
  · omega
  intro k hk
  have hb := hbd k (by omega)
  refine D_seq fun K5 hK5 => ?_
  refine D_region ?_
  refine DL_c (op_lss _ _ rfl rfl rfl) ?_
  refine DL_nil (hK5 _ ?_)
  clear hK5; try clear K5
  refine D_seq fun K6 hK6 => ?_
  refine D_splitC rfl (fun hc17 => ?_) (fun hc17 => ?_)
  · skip
    have hsu := chsK_succ (R := R) (l := l) (k := k) (by omega)
    obtain ⟨v, hv⟩ : ∃ v, v = l.getD k 0 := ⟨_, rfl⟩
    rw [← hv] at hsu
    refine D_skip (hK6 _ ?_)
    clear hK6; try clear K6
    refine D_seq fun K7 hK7 => ?_
    refine D_block ?_
    refine D_seq fun K8 hK8 => ?_
    refine D_region ?_
    refine DL_c (op_ixS _ _ inferInstance rfl rfl _ rfl (by omega) (by (simp only [isl_len, bsl_len, psl_len, mrows_len, nsl_len, ws_len, List.length_map, ul_len, psl_len, isl_len, nrows_len, prL_len, blR_len, stK_len, inh1_len, st0_len, status32_len]; omega)) (by exact Nat.mul_one _)) ?_
    refine DL_c (op_ldF _ inferInstance rfl (by exact (nsl_get _ _ (by omega)).trans (by rw [← hv])) rfl) ?_
    refine DL_c (op_as _ (rfl : _ = AV.v (.int _ _))) ?_
    refine DL_nil (hK8 _ ?_)
    clear hK8; try clear K8
    refine D_seq fun K9 hK9 => ?_
    refine D_region ?_
    refine DL_c (op_as _ (rfl : _ = AV.v (.int _ _))) ?_
    refine DL_c (op_as _ (rfl : _ = AV.v (.int _ _))) ?_
    refine DL_nil (hK9 _ ?_)
    clear hK9; try clear K9
    refine D_seq fun K10 hK10 => ?_
    refine D_seq fun K11 hK11 => ?_
    refine D_region ?_
    refine DL_c (op_mv _ (rfl : _ = AV.sl _ _)) ?_
    refine DL_c (op_lenS _ inferInstance rfl) ?_
    refine DL_c (op_mv _ (rfl : _ = AV.v (.int _ _))) ?_
    refine DL_nil (hK11 _ ?_)
    clear hK11; try clear K11
    refine D_block ?_
    refine D_loopL (α := Nat) (fun j => j ≤ m) 49 [(0, _), (1, _), (5, _), (6, _), (8, _), (14, _), (15, _), (16, _), (20, _), (21, _)] [] (fun j => [(22, .v (.int .i64 (j : Int))), (9, .v (.int .i64 (((l.take j).countP fun x => R x v : Nat) : Int))), (10, .v (.int .i64 (((l.take j).countP fun x => R v x : Nat) : Int)))]) (fun j => []) [] [] (fun j => m - j) 0 ?_ (by
      refine Le.mkJ [] [] rfl ?_ ?_ trivial trivial ?_
      · exact ⟨(iF rfl), (iS rfl), (iV rfl), (iV rfl), (iV rfl), (iS rfl), (iV rfl), (iV rfl), (iS rfl), (iV rfl), (lvI (by rfl)), (lvI (by rfl)), (lvI (by rfl)), trivial⟩
      · exact trivial
      · kernel_rfl) ?_
    · omega
    intro j hj
    have hu1 := countP_le (p := fun x => R x v) l j
    have hd1 := countP_le (p := fun x => R v x) l j
    refine D_seq fun K12 hK12 => ?_
    refine D_region ?_
    refine DL_c (op_lss _ _ rfl rfl rfl) ?_
    refine DL_nil (hK12 _ ?_)
    clear hK12; try clear K12
    refine D_seq fun K13 hK13 => ?_
    refine D_splitC rfl (fun hc23 => ?_) (fun hc23 => ?_)
    · skip
      have hu2 := countP_take (p := fun x => R x v) (l := l) (k := j) (by omega)
      have hd2 := countP_take (p := fun x => R v x) (l := l) (k := j) (by omega)
      obtain ⟨x, hx⟩ : ∃ x, x = l.getD j 0 := ⟨_, rfl⟩
      rw [← hx] at hu2 hd2
      refine D_skip (hK13 _ ?_)
      clear hK13; try clear K13
      refine D_seq fun K14 hK14 => ?_
      refine D_block ?_
      refine D_seq fun K15 hK15 => ?_
      refine D_region ?_
      refine DL_c (op_ixS _ _ inferInstance rfl rfl _ rfl (by omega) (by (simp only [isl_len, bsl_len, psl_len, mrows_len, nsl_len, ws_len, List.length_map, ul_len, psl_len, isl_len, nrows_len, prL_len, blR_len, stK_len, inh1_len, st0_len, status32_len]; omega)) (by exact Nat.mul_one _)) ?_
      refine DL_c (op_ldF _ inferInstance rfl (by exact (nsl_get _ _ (by omega)).trans (by rw [← hx])) rfl) ?_
      refine DL_c (op_as _ (rfl : _ = AV.v (.int _ _))) ?_
      refine DL_nil (hK15 _ ?_)
      clear hK15; try clear K15
      refine D_seq fun K16 hK16 => ?_
      refine D_seq fun K17 hK17 => ?_
      refine D_region ?_
      refine DL_c (op_mv _ (rfl : _ = AV.fp _ _)) ?_
      refine DL_c (op_mv _ (rfl : _ = AV.v (.int _ _))) ?_
      refine DL_c (op_mv _ (rfl : _ = AV.v (.int _ _))) ?_
      refine DL_c (op_callH inferInstance (by repeat' (first | exact argsLv_nil | refine argsLv_cons ?_ ?_ | exact Lv.v | exact Lv.fp)) (ha x v) rfl rfl) ?_
      refine DL_nil (hK17 _ ?_)
      clear hK17; try clear K17
      refine D_splitC rfl (fun hc29 => ?_) (fun hc29 => ?_)
      · skip
        rw [if_pos hc29] at hu2
        refine D_region ?_
        refine DL_c (op_mv _ (rfl : _ = AV.v (.int _ _))) ?_
        refine DL_c (op_add _ _ rfl rfl (i64w (by omega))) ?_
        refine DL_c (op_as _ (rfl : _ = AV.v (.int _ _))) ?_
        refine DL_nil (hK16 _ ?_)
        clear hK16; try clear K16
        refine D_seq fun K18 hK18 => ?_
        refine D_region ?_
        refine DL_c (op_mv _ (rfl : _ = AV.fp _ _)) ?_
        refine DL_c (op_mv _ (rfl : _ = AV.v (.int _ _))) ?_
        refine DL_c (op_mv _ (rfl : _ = AV.v (.int _ _))) ?_
        refine DL_c (op_callH inferInstance (by repeat' (first | exact argsLv_nil | refine argsLv_cons ?_ ?_ | exact Lv.v | exact Lv.fp)) (ha v x) rfl rfl) ?_
        refine DL_nil (hK18 _ ?_)
        clear hK18; try clear K18
        refine D_splitC rfl (fun hc35 => ?_) (fun hc35 => ?_)
        · skip
          rw [if_pos hc35] at hd2
          refine D_le (σ' := mkStI 49 [(0, _), (1, _), (5, _), (6, _), (8, _), (9, _), (10, _), (14, _), (15, _), (16, _), (20, _), (21, _), (22, _)] [] [] []) (by
            refine Le.mkJ [] [] rfl ?_ ?_ trivial trivial ?_
            · exact ⟨(iF rfl), (iS rfl), (iV rfl), (iV rfl), (iV rfl), (iV rfl), (iV rfl), (iS rfl), (iV rfl), (iV rfl), (iS rfl), (iV rfl), (iV rfl), trivial⟩
            · exact trivial
            · kernel_rfl) ?_
          refine D_region ?_
          refine DL_c (op_mv _ (rfl : _ = AV.v (.int _ _))) ?_
          refine DL_c (op_add _ _ rfl rfl (i64w (by omega))) ?_
          refine DL_c (op_as _ (rfl : _ = AV.v (.int _ _))) ?_
          refine DL_nil (hK14 _ ?_)
          clear hK14; try clear K14
          refine D_region ?_
          refine DL_c (op_add _ _ rfl rfl (i64w (by omega))) ?_
          refine DL_c (op_mv _ (rfl : _ = AV.v (.int _ _))) ?_
          refine DL_nil ?_
          refine ⟨j + 1, ?_, ?_, ?_⟩
          · omega
          · skip
            refine Le.mkJ [] [] rfl ?_ ?_ trivial trivial ?_
            · exact ⟨(iF rfl), (iS rfl), (iV rfl), (iV rfl), (iV rfl), (iS rfl), (iV rfl), (iV rfl), (iS rfl), (iV rfl), (lvI (by rfl)), (lvI (by omega)), (lvI (by omega)), trivial⟩
            · exact trivial
            · kernel_rfl
          · omega
        · skip
          rw [if_neg (by simp [hc35])] at hd2
          refine D_skip (hK14 _ ?_)
          clear hK14; try clear K14
          refine D_le (σ' := mkStI 49 [(0, _), (1, _), (5, _), (6, _), (8, _), (9, _), (10, _), (14, _), (15, _), (16, _), (20, _), (21, _), (22, _)] [] [] []) (by
            refine Le.mkJ [] [] rfl ?_ ?_ trivial trivial ?_
            · exact ⟨(iF rfl), (iS rfl), (iV rfl), (iV rfl), (iV rfl), (iV rfl), (iV rfl), (iS rfl), (iV rfl), (iV rfl), (iS rfl), (iV rfl), (iV rfl), trivial⟩
            · exact trivial
            · kernel_rfl) ?_
          refine D_region ?_
          refine DL_c (op_add _ _ rfl rfl (i64w (by omega))) ?_
          refine DL_c (op_mv _ (rfl : _ = AV.v (.int _ _))) ?_
          refine DL_nil ?_
          refine ⟨j + 1, ?_, ?_, ?_⟩
          · omega
          · skip
            refine Le.mkJ [] [] rfl ?_ ?_ trivial trivial ?_
            · exact ⟨(iF rfl), (iS rfl), (iV rfl), (iV rfl), (iV rfl), (iS rfl), (iV rfl), (iV rfl), (iS rfl), (iV rfl), (lvI (by rfl)), (lvI (by omega)), (lvI (by omega)), trivial⟩
            · exact trivial
            · kernel_rfl
          · omega
      · skip
        rw [if_neg (by simp [hc29])] at hu2
        refine D_skip (hK16 _ ?_)
        clear hK16; try clear K16
        refine D_seq fun K19 hK19 => ?_
        refine D_region ?_
        refine DL_c (op_mv _ (rfl : _ = AV.fp _ _)) ?_
        refine DL_c (op_mv _ (rfl : _ = AV.v (.int _ _))) ?_
        refine DL_c (op_mv _ (rfl : _ = AV.v (.int _ _))) ?_
        refine DL_c (op_callH inferInstance (by repeat' (first | exact argsLv_nil | refine argsLv_cons ?_ ?_ | exact Lv.v | exact Lv.fp)) (ha v x) rfl rfl) ?_
        refine DL_nil (hK19 _ ?_)
        clear hK19; try clear K19
        refine D_splitC rfl (fun hc35 => ?_) (fun hc35 => ?_)
        · skip
          rw [if_pos hc35] at hd2
          refine D_region ?_
          refine DL_c (op_mv _ (rfl : _ = AV.v (.int _ _))) ?_
          refine DL_c (op_add _ _ rfl rfl (i64w (by omega))) ?_
          refine DL_c (op_as _ (rfl : _ = AV.v (.int _ _))) ?_
          refine DL_nil (hK14 _ ?_)
          clear hK14; try clear K14
          refine D_le (σ' := mkStI 49 [(0, _), (1, _), (5, _), (6, _), (8, _), (9, _), (10, _), (14, _), (15, _), (16, _), (20, _), (21, _), (22, _)] [] [] []) (by
            refine Le.mkJ [] [] rfl ?_ ?_ trivial trivial ?_
            · exact ⟨(iF rfl), (iS rfl), (iV rfl), (iV rfl), (iV rfl), (iV rfl), (iV rfl), (iS rfl), (iV rfl), (iV rfl), (iS rfl), (iV rfl), (iV rfl), trivial⟩
            · exact trivial
            · kernel_rfl) ?_
          refine D_region ?_
          refine DL_c (op_add _ _ rfl rfl (i64w (by omega))) ?_
          refine DL_c (op_mv _ (rfl : _ = AV.v (.int _ _))) ?_
          refine DL_nil ?_
          refine ⟨j + 1, ?_, ?_, ?_⟩
          · omega
          · skip
            refine Le.mkJ [] [] rfl ?_ ?_ trivial trivial ?_
            · exact ⟨(iF rfl), (iS rfl), (iV rfl), (iV rfl), (iV rfl), (iS rfl), (iV rfl), (iV rfl), (iS rfl), (iV rfl), (lvI (by rfl)), (lvI (by omega)), (lvI (by omega)), trivial⟩
            · exact trivial
            · kernel_rfl
          · omega
        · skip
          rw [if_neg (by simp [hc35])] at hd2
          refine D_skip (hK14 _ ?_)
          clear hK14; try clear K14
          refine D_region ?_
          refine DL_c (op_add _ _ rfl rfl (i64w (by omega))) ?_
          refine DL_c (op_mv _ (rfl : _ = AV.v (.int _ _))) ?_
          refine DL_nil ?_
          refine ⟨j + 1, ?_, ?_, ?_⟩
          · omega
          · skip
            refine Le.mkJ [] [] rfl ?_ ?_ trivial trivial ?_
            · exact ⟨(iF rfl), (iS rfl), (iV rfl), (iV rfl), (iV rfl), (iS rfl), (iV rfl), (iV rfl), (iS rfl), (iV rfl), (lvI (by rfl)), (lvI (by omega)), (lvI (by omega)), trivial⟩
            · exact trivial
            · kernel_rfl
          · omega
    · skip
      have hju : (l.take j).countP (fun x => R x v) = upc R l v := by rw [List.take_of_length_le (by omega)]; rfl
      have hjd : (l.take j).countP (fun x => R v x) = dnc R l v := by rw [List.take_of_length_le (by omega)]; rfl
      rw [hju] at hu1 ⊢
      rw [hjd] at hd1 ⊢
      refine D_exit ?_
      refine id (hK10 _ ?_)
      clear hK10; try clear K10
      refine D_seq fun K20 hK20 => ?_
      refine D_region ?_
      refine DL_c (op_mv _ (rfl : _ = AV.v (.int _ _))) ?_
      refine DL_c (op_mv _ (rfl : _ = AV.v (.int _ _))) ?_
      refine DL_c (op_min _ _ rfl rfl (show min (upc R l v : Int) (dnc R l v : Int) = ((min (upc R l v) (dnc R l v) : Nat) : Int) by omega)) ?_
      refine DL_c (op_as _ (rfl : _ = AV.v (.int _ _))) ?_
      refine DL_nil (hK20 _ ?_)
      clear hK20; try clear K20
      refine D_seq fun K21 hK21 => ?_
      refine D_region ?_
      refine DL_c (op_mv _ (rfl : _ = AV.v (.int _ _))) ?_
      refine DL_c (op_mv _ (rfl : _ = AV.v (.int _ _))) ?_
      refine DL_c (op_gtr _ _ rfl rfl rfl) ?_
      refine DL_nil (hK21 _ ?_)
      clear hK21; try clear K21
      refine D_splitC rfl (fun hc44 => ?_) (fun hc44 => ?_)
      · skip
        have hs1 : chsK R l (k + 1) = ((v : Int), ((min (upc R l v) (dnc R l v) : Nat) : Int)) := hsu.trans (if_pos hc44)
        refine D_region ?_
        refine DL_c (op_mv _ (rfl : _ = AV.v (.int _ _))) ?_
        refine DL_c (op_mv _ (rfl : _ = AV.v (.int _ _))) ?_
        refine DL_c (op_as _ (rfl : _ = AV.v (.int _ _))) ?_
        refine DL_c (op_as _ (rfl : _ = AV.v (.int _ _))) ?_
        refine DL_nil (hK7 _ ?_)
        clear hK7; try clear K7
        refine D_region ?_
        refine DL_c (op_add _ _ rfl rfl (i64w (by omega))) ?_
        refine DL_c (op_mv _ (rfl : _ = AV.v (.int _ _))) ?_
        refine DL_nil ?_
        refine ⟨k + 1, ?_, ?_, ?_⟩
        · omega
        · skip
          refine Le.mkJ [] [] rfl ?_ ?_ trivial trivial ?_
          · exact ⟨(iF rfl), (iS rfl), (iS rfl), (iV rfl), (lvI (by rfl)), (lvI (by ((rw [hs1])))), (lvI (by ((rw [hs1])))), trivial⟩
          · exact trivial
          · kernel_rfl
        · omega
      · skip
        have hs1 : chsK R l (k + 1) = chsK R l k := hsu.trans (if_neg (by omega))
        refine D_skip (hK7 _ ?_)
        clear hK7; try clear K7
        refine D_region ?_
        refine DL_c (op_add _ _ rfl rfl (i64w (by omega))) ?_
        refine DL_c (op_mv _ (rfl : _ = AV.v (.int _ _))) ?_
        refine DL_nil ?_
        refine ⟨k + 1, ?_, ?_, ?_⟩
        · omega
        · skip
          refine Le.mkJ [] [] rfl ?_ ?_ trivial trivial ?_
          · exact ⟨(iF rfl), (iS rfl), (iS rfl), (iV rfl), (lvI (by rfl)), (lvI (by ((rw [hs1])))), (lvI (by ((rw [hs1])))), trivial⟩
          · exact trivial
          · kernel_rfl
        · omega
  · skip
    refine D_exit ?_
    refine id (hK3 _ ?_)
    clear hK3; try clear K3
    refine D_seq fun K22 hK22 => ?_
    refine D_region ?_
    refine DL_c (op_mv _ (rfl : _ = AV.v (.int _ _))) ?_
    refine DL_c (op_as _ (rfl : _ = AV.v (.int _ _))) ?_
    refine DL_nil (hK22 _ ?_)
    clear hK22; try clear K22
    refine D_ret ?_
    refine ret1 (.inr rfl) rfl (.tmp (rfl : _ = AV.v (.int _ _))) (Le.out [] [] (lvI ?_) rfl rfl rfl trivial trivial)
    rw [show k = l.length by omega]; rfl
end Go.Proofs.Ytkbkmngbenohkaa

namespace Go.Proofs.Ytkbkmngbenohkaa
open Go.RowKit

/-- The search, as the objects that a method gets. -/
abbrev SSL (n : Nat) (P A : List Nat) (h : Nat) (sc : List Nat) (st : List Int) (ord : List Nat) : List (Oid × Cells) :=
  [((0, 9), .box 136 [.fp 0 (gra n P A), .v (.int .i64 (h : Int)), .sl sc.length (nsl sc), .fn (.func 73) [.ptr (3, 9) 0] [], .mp (1, 9), .ref (2, 9) 0 ord.length]),
   ((1, 9), .mp (ment (mmap st ord)) (mmap st ord).length), ((2, 9), .row 3 1 (nsl ord)), ((3, 9), .box 93 [.sl st.length (isl st), .ref (4, 9) 0 ord.length]), ((4, 9), .row 3 1 (nsl ord))]
abbrev I5 : List Oid := [(0, 9), (1, 9), (2, 9), (3, 9), (4, 9)]
/-- What was collected so far. -/
def cl1 (st : List Int) (ord : List Nat) (s : Int) (x : Array Nat) : List Nat := (x.toList.map fun i => ord.getD i 0).filter fun v => decide (nst st v = s)
theorem cl1_yes {st : List Int} {ord : List Nat} {s : Int} {x : Array Nat} {i v : Nat} (h : ord[i]? = some v) (hs : nst st v = s) : cl1 st ord s (x.push i) = cl1 st ord s x ++ [v] := by
  simp [cl1, List.getD_eq_getElem?_getD, h, hs]
theorem cl1_no {st : List Int} {ord : List Nat} {s : Int} {x : Array Nat} {i v : Nat} (h : ord[i]? = some v) (hs : ¬ nst st v = s) : cl1 st ord s (x.push i) = cl1 st ord s x := by
  simp [cl1, List.getD_eq_getElem?_getD, h, hs]
theorem cl1_len (st : List Int) (ord : List Nat) (s : Int) (x : Array Nat) : (cl1 st ord s x).length ≤ x.size := by
  have := List.length_filter_le (fun v => decide (nst st v = s)) (x.toList.map fun i => ord.getD i 0)
  simpa [cl1] using this
theorem seen_push {m : Nat} {x : Array Nat} {i : Nat} (h : x.toList.Nodup ∧ ∀ i ∈ x.toList, i < m) (hi : i < m) (hn : i ∉ x) : (x.push i).toList.Nodup ∧ ∀ j ∈ (x.push i).toList, j < m := by
  rw [Array.toList_push]
  have hn' : i ∉ x.toList := by simpa using hn
  refine ⟨List.nodup_append.2 ⟨h.1, by simp, fun a ha b hb e => by simp at hb; subst hb; subst e; exact hn' ha⟩, fun j hj => ?_⟩
  rcases List.mem_append.1 hj with hj | hj
  · exact h.2 j hj
  · simp at hj; omega
theorem seen_le {m : Nat} {x : Array Nat} (h : x.toList.Nodup ∧ ∀ i ∈ x.toList, i < m) : x.size ≤ m := by
  have := nodup_le m x.toList h.1 h.2
  simpa using this
set_option maxHeartbeats 1000000 in
theorem tested_spec (n : Nat) (P A : List Nat) (hn : n ≤ 64) (h : Nat) (sc : List Nat) (st : List Int) (ord : List Nat) (ho : ok1 n ord) (s : Int) :
    Spec Try.prog 125 (inStI [.ptr (0, 9) 0, .v (.int .i64 s)] (SSL n P A h sc st ord)) (outStI (.ref (0, 8) 0 (tst n ord st s).length) (SSL n P A h sc st ord ++ [((0, 8), .row 3 1 (nsl (tst n ord st s)))]) I5 I5) := by
  have hol := ho.len
  refine Spec.ofNI Try.func125 rfl Try.ntmps125 rfl ?_
  refine D_seq fun K1 hK1 => ?_
  refine D_region ?_
  refine DL_c (op_as _ (rfl : _ = AV.v (.slice _ _ _))) ?_
  refine DL_nil (hK1 _ ?_)
  clear hK1; try clear K1
  refine D_seq fun K2 hK2 => ?_
  refine D_region ?_
  refine DL_c (op_asN (5, 0) _ 3 1 rfl rfl) ?_
  refine DL_nil (hK2 _ ?_)
  clear hK2; try clear K2
  refine D_seq fun K3 hK3 => ?_
  refine D_seq fun K4 hK4 => ?_
  refine D_region ?_
  refine DL_c (op_mv _ (rfl : _ = AV.ptr _ _)) ?_
  refine DL_c (op_nilp _ rfl rfl) ?_
  refine DL_c (op_fldP _ inferInstance rfl rfl rfl) ?_
  refine DL_c (op_ldB _ inferInstance rfl rfl (rfl : _ = some (AV.mp _))) ?_
  refine DL_c (op_rangeM (12, 0) _ Try.underlying134 rfl rfl rfl) ?_
  refine DL_nil (hK4 _ ?_)
  clear hK4; try clear K4
  refine D_block ?_
  refine D_loopL (α := Array Nat) (fun x => x.toList.Nodup ∧ ∀ i ∈ x.toList, i < ord.length) 28 [(1, _), (12, _)] [((0, 9), _), ((1, 9), _), ((2, 9), _), ((3, 9), _), ((4, 9), _)] (fun x => [(5, .ref (5, 0) 0 (cl1 st ord s x).length)]) (fun x => [((5, 0), .row 3 1 (nsl (cl1 st ord s x))), ((12, 0), .it (1, 9) (mmap st ord).length x (mmap st ord).length)]) [(0, 9), (1, 9), (2, 9), (3, 9), (4, 9)] [(0, 9), (1, 9), (2, 9), (3, 9), (4, 9)] (fun x => ord.length - x.size) #[] ?_ (by
    refine Le.mkJ [] [] rfl ?_ ?_ trivial ⟨rfl, rfl, rfl, rfl, rfl, trivial⟩ ?_
    · exact ⟨(iV rfl), (iP rfl), (lvRr rfl (by rfl)), trivial⟩
    · exact ⟨(obE rfl rfl rfl), (obE rfl rfl rfl), (obE rfl rfl rfl), (obE rfl rfl rfl), (obE rfl rfl rfl), (obR rfl rfl rfl (by rfl)), (obT rfl rfl rfl), trivial⟩
    · kernel_rfl) ?_
  · exact ⟨by simp, by simp⟩
  intro x hx
  have hxs := seen_le hx
  have hcl := cl1_len st ord s x
  refine D_seq fun K5 hK5 => ?_
  refine D_region ?_
  refine DL_cN (op_nextM _ rfl rfl rfl (by rfl) (by exact Nat.le_refl _)) ?_
  rintro _ (⟨hn13, rfl⟩ | ⟨ix13, pp13, hp13, hs13, rfl⟩)
  · skip
    have hall : ∀ i, i < ord.length → i ∈ x.toList := fun i hi => by have := hn13 i (by simpa using hi); simpa using this
    have hfin := tst_srt (st := st) (s := s) ho hx.1 hall hx.2
    have hfl : (cl1 st ord s x).length = (tst n ord st s).length := by have := congrArg List.length hfin; simpa [cl1] using this
    refine DL_c (op_ext _ rfl (rfl : _ = some (AV.v (.bool _)))) ?_
    refine DL_nil (hK5 _ ?_)
    clear hK5; try clear K5
    refine D_seq fun K6 hK6 => ?_
    refine D_cF rfl rfl ?_
    refine D_exit ?_
    refine id (hK3 _ ?_)
    clear hK3; try clear K3
    refine D_seq fun K7 hK7 => ?_
    refine D_region ?_
    refine DL_c (op_mv _ (rfl : _ = AV.ref _ _ _)) ?_
    refine DL_c (op_callR inferInstance [((0, 9), (5, 0))] ?_ (sortG_spec (cl1 st ord s x).length (by omega) ((cl1 st ord s x).map fun (v : Nat) => (v : Int)) (by simp)) ⟨⟨rfl, ⟨_, rfl, .rowE rfl⟩, rfl⟩, trivial⟩ ⟨rfl, trivial⟩ (by kernel_rfl)) ?_
    · repeat' (first | exact argsR_nil | refine argsR_cons ?_ ?_ | exact lvRr rfl rfl)
    refine DL_nil (hK7 _ ?_)
    clear hK7; try clear K7
    refine D_seq fun K8 hK8 => ?_
    refine D_region ?_
    refine DL_c (op_mv _ (rfl : _ = AV.ref _ _ _)) ?_
    refine DL_c (op_as _ (rfl : _ = AV.ref _ _ _)) ?_
    refine DL_nil (hK8 _ ?_)
    clear hK8; try clear K8
    refine D_ret ?_
    exact ret1 (.inr rfl) rfl (.tmp (rfl : _ = AV.ref _ _ _)) (Le.outI [((0, 8), (5, 0))] [] (lvRr rfl hfl.symm) rfl rfl rfl trivial ⟨⟨rfl, ⟨_, rfl, lvO_k I5 rfl rfl⟩, rfl⟩, ⟨rfl, ⟨_, rfl, lvO_k I5 rfl rfl⟩, rfl⟩, ⟨rfl, ⟨_, rfl, lvO_k I5 rfl rfl⟩, rfl⟩, ⟨rfl, ⟨_, rfl, lvO_k I5 rfl rfl⟩, rfl⟩, ⟨rfl, ⟨_, rfl, lvO_k I5 rfl rfl⟩, rfl⟩, ⟨rfl, ⟨_, rfl, .rowE hfin⟩, rfl⟩, trivial⟩ ⟨rfl, rfl, rfl, rfl, rfl, trivial⟩ rfl)
  · skip
    obtain ⟨v13, hv13, rfl⟩ := mmap_get hp13
    have hil : ix13 < ord.length := (List.getElem?_eq_some_iff.1 hv13).1
    have hx2 := seen_push hx hil hs13
    have hxs2 := seen_le hx2
    rw [Array.size_push] at hxs2
    refine DL_c (op_ext _ rfl (rfl : _ = some (AV.v (.bool _)))) ?_
    refine DL_nil (hK5 _ ?_)
    clear hK5; try clear K5
    refine D_seq fun K9 hK9 => ?_
    refine D_cT rfl rfl ?_
    refine D_skip (hK9 _ ?_)
    clear hK9; try clear K9
    refine D_block ?_
    refine D_seq fun K10 hK10 => ?_
    refine D_region ?_
    refine DL_c (op_entryM _ rfl rfl rfl hp13) ?_
    refine DL_c (op_ext _ rfl (rfl : _ = some (AV.v (.int _ _)))) ?_
    refine DL_c (op_ext _ rfl (rfl : _ = some (AV.v (.int _ _)))) ?_
    refine DL_c (op_as _ (rfl : _ = AV.v (.int _ _))) ?_
    refine DL_c (op_as _ (rfl : _ = AV.v (.int _ _))) ?_
    refine DL_nil (hK10 _ ?_)
    clear hK10; try clear K10
    refine D_seq fun K11 hK11 => ?_
    refine D_region ?_
    refine DL_c (op_mv _ (rfl : _ = AV.v (.int _ _))) ?_
    refine DL_c (op_mv _ (rfl : _ = AV.v (.int _ _))) ?_
    refine DL_c (op_eql _ _ rfl rfl rfl) ?_
    refine DL_nil (hK11 _ ?_)
    clear hK11; try clear K11
    refine D_splitC rfl (fun hc20 => ?_) (fun hc20 => ?_)
    · skip
      have hy := cl1_yes (s := s) (x := x) hv13 hc20
      refine D_region ?_
      refine DL_c (op_mv _ (rfl : _ = AV.ref _ _ _)) ?_
      refine DL_c (op_mv _ (rfl : _ = AV.v (.int _ _))) ?_
      refine DL_c (op_bsF _ _ inferInstance rfl (by rfl) (by simp <;> rfl) (by decide) rfl) ?_
      refine DL_c (op_ap (24, 0) _ _ inferInstance rfl rfl (by (simp only [isl_len, bsl_len, psl_len, mrows_len, nsl_len, ws_len, List.length_map, ul_len, psl_len, isl_len, nrows_len, mmap_len]; omega)) (by (refine .sl ?_; (simp [isl]; done))) (by omega) rfl (rfl) (rfl)) ?_
      refine DL_c (op_as _ (rfl : _ = AV.ref _ _ _)) ?_
      refine DL_nil ?_
      refine ⟨x.push ix13, ?_, ?_, ?_⟩
      · exact hx2
      · skip
        refine Le.mkJ [((5, 0), (24, 0))] [] rfl ?_ ?_ trivial ⟨rfl, rfl, rfl, rfl, rfl, trivial⟩ ?_
        · exact ⟨(by repeat' (exact Lv.v)), (lvPr (id := (12, 0)) rfl), (lvRr rfl (by ((rw [hy, List.length_append]; rfl)))), trivial⟩
        · exact ⟨(obB rfl rfl rfl rfl (by repeat' (first | exact Lv.v | exact Lv.sl | exact Lv.fp | exact lvRr (id := (2, 9)) rfl rfl | exact lvPr (id := (3, 9)) rfl | exact Lv.mp | refine Lv.fn rfl ?_ rfl ?_ | exact lv_nil | refine lv_cons ?_ ?_))), (by exact obM rfl rfl rfl rfl rfl), (by exact obR rfl rfl rfl rfl), (obB rfl rfl rfl rfl (by repeat' (first | exact Lv.sl | exact lvRr (id := (4, 9)) rfl rfl | exact lv_nil | refine lv_cons ?_ ?_))), (by exact obR rfl rfl rfl rfl), (obR rfl rfl rfl (by ((rw [hy, ← nsl_append]; rfl)))), (obT rfl rfl rfl), trivial⟩
        · kernel_rfl
      · rw [Array.size_push]; omega
    · skip
      have hy := cl1_no (s := s) (x := x) hv13 hc20
      refine D_skip ?_
      refine ⟨x.push ix13, ?_, ?_, ?_⟩
      · exact hx2
      · skip
        refine Le.mkJ [] [] rfl ?_ ?_ trivial ⟨rfl, rfl, rfl, rfl, rfl, trivial⟩ ?_
        · exact ⟨(iV rfl), (iP rfl), (lvRr rfl (by ((rw [hy]; done)))), trivial⟩
        · exact ⟨(obE rfl rfl rfl), (obE rfl rfl rfl), (obE rfl rfl rfl), (obE rfl rfl rfl), (obE rfl rfl rfl), (obR rfl rfl rfl (by ((rw [hy]; done)))), (obT rfl rfl rfl), trivial⟩
        · kernel_rfl
      · rw [Array.size_push]; omega
theorem lnS {σ : St} {n : Nat} {P A : List Nat} {h : Nat} {sc : List Nat} {id : Oid} {c3 c4 c5 : AV} (hid : σ.ob id = .obj (.box 136 [.fp 0 (gra n P A), .v (.int .i64 (h : Int)), .sl sc.length (nsl sc), c3, c4, c5])) : Ln σ (.ptr 0 (sP n P A h sc)) (.ptr id 0) :=
  .ptr hid (Nat.le_of_ble_eq_true rfl) (ln_cons .fp (ln_cons (.v rfl) (ln_cons .sl ln_nil)))
set_option maxHeartbeats 1000000 in
theorem con_spec (n : Nat) (P A : List Nat) (hA : A.length = n) (hn : n ≤ 64) (hw : ∀ v, A.getD v 0 < 18446744073709551616) (h : Nat) (sc : List Nat) (st : List Int) (ord : List Nat) (ho : ok1 n ord) :
    Spec Try.prog 110 (inStI [.ptr (0, 9) 0] (SSL n P A h sc st ord)) (outStI (.v (.bool (con (anR n A) n ord st))) (SSL n P A h sc st ord) I5 I5) := by
  have ha := fun a v => anc_spec n P A hA hn hw h sc a v
  have ht := fun s => tested_spec n P A hn h sc st ord ho s
  have hG := tst_len n ord st 0
  have hB := tst_len n ord st 1
  unfold con
  generalize anR n A = R at *
  have h0 := ht 0
  have h1 := ht 1
  generalize tst n ord st 0 = G at h0 hG ⊢
  generalize tst n ord st 1 = B at h1 hB ⊢
  refine Spec.ofNI Try.func110 rfl Try.ntmps110 rfl ?_
  refine D_seq fun K1 hK1 => ?_
  refine D_region ?_
  refine DL_c (op_as _ (rfl : _ = AV.v (.bool _))) ?_
  refine DL_nil (hK1 _ ?_)
  clear hK1; try clear K1
  refine D_seq fun K2 hK2 => ?_
  refine D_seq fun K3 hK3 => ?_
  refine D_region ?_
  refine DL_c (op_mv _ (rfl : _ = AV.ptr _ _)) ?_
  refine DL_c (op_callK inferInstance (60, 0) _ _ (by repeat' (first | exact argsR_nil | refine argsR_cons ?_ ?_ | exact Lv.v | exact lvPr rfl)) (h0) ⟨rfl, rfl, rfl, rfl, rfl, trivial⟩ rfl rfl rfl (by kernel_rfl) (by simp)) ?_
  refine DL_c (op_lenR _ inferInstance rfl rfl) ?_
  refine DL_c (op_mv _ (rfl : _ = AV.v (.int _ _))) ?_
  refine DL_nil (hK3 _ ?_)
  clear hK3; try clear K3
  refine D_block ?_
  refine D_loopL (α := Nat) (fun i => i ≤ G.length ∧ ∀ j, j < i → (B.any fun b => R b (G.getD j 0)) = false) 27 [(0, _), (8, _), (9, _)] [((0, 9), _), ((1, 9), _), ((2, 9), _), ((60, 0), _), ((3, 9), _), ((4, 9), _)] (fun i => [(10, .v (.int .i64 (i : Int)))]) (fun i => []) [(0, 9), (1, 9), (2, 9), (3, 9), (4, 9)] [(0, 9), (1, 9), (2, 9), (3, 9), (4, 9)] (fun i => G.length - i) 0 ?_ (by
    refine Le.mkJ [] [] rfl ?_ ?_ trivial ⟨rfl, rfl, rfl, rfl, rfl, trivial⟩ ?_
    · exact ⟨(iP rfl), (iR rfl), (iV rfl), (lvI (by rfl)), trivial⟩
    · exact ⟨(obE rfl rfl rfl), (obE rfl rfl rfl), (obE rfl rfl rfl), (obE rfl rfl rfl), (obE rfl rfl rfl), (obE rfl rfl rfl), trivial⟩
    · kernel_rfl) ?_
  · exact ⟨Nat.zero_le _, fun j hj => by omega⟩
  intro i hi
  obtain ⟨hi, hno⟩ := hi
  refine D_seq fun K4 hK4 => ?_
  refine D_region ?_
  refine DL_c (op_lss _ _ rfl rfl rfl) ?_
  refine DL_nil (hK4 _ ?_)
  clear hK4; try clear K4
  refine D_seq fun K5 hK5 => ?_
  refine D_splitC rfl (fun hc11 => ?_) (fun hc11 => ?_)
  · skip
    obtain ⟨g, hg⟩ : ∃ g, g = G.getD i 0 := ⟨_, rfl⟩
    refine D_skip (hK5 _ ?_)
    clear hK5; try clear K5
    refine D_seq fun K6 hK6 => ?_
    refine D_block ?_
    refine D_seq fun K7 hK7 => ?_
    refine D_region ?_
    refine DL_c (op_ixR _ _ inferInstance rfl rfl rfl _ rfl (by omega) (by exact (Nat.zero_add _).trans (Nat.mul_one _))) ?_
    refine DL_c (op_ldR _ inferInstance rfl rfl (by exact (nsl_get _ _ (by omega)).trans (by rw [← hg])) rfl) ?_
    refine DL_c (op_as _ (rfl : _ = AV.v (.int _ _))) ?_
    refine DL_nil (hK7 _ ?_)
    clear hK7; try clear K7
    refine D_seq fun K8 hK8 => ?_
    refine D_region ?_
    refine DL_c (op_mv _ (rfl : _ = AV.ptr _ _)) ?_
    refine DL_c (op_callK inferInstance (61, 0) _ _ (by repeat' (first | exact argsR_nil | refine argsR_cons ?_ ?_ | exact Lv.v | exact lvPr rfl)) (h1) ⟨rfl, rfl, rfl, rfl, rfl, trivial⟩ rfl rfl rfl (by kernel_rfl) (by simp)) ?_
    refine DL_c (op_lenR _ inferInstance rfl rfl) ?_
    refine DL_c (op_mv _ (rfl : _ = AV.v (.int _ _))) ?_
    refine DL_nil (hK8 _ ?_)
    clear hK8; try clear K8
    refine D_block ?_
    refine D_loopL (α := Nat) (fun k => k ≤ B.length ∧ ∀ j, j < k → R (B.getD j 0) g = false) 27 [(0, _), (4, _), (8, _), (9, _), (10, _), (15, _), (16, _)] [((0, 9), _), ((1, 9), _), ((2, 9), _), ((60, 0), _), ((61, 0), _), ((3, 9), _), ((4, 9), _)] (fun k => [(17, .v (.int .i64 (k : Int)))]) (fun k => []) [(0, 9), (1, 9), (2, 9), (3, 9), (4, 9)] [(0, 9), (1, 9), (2, 9), (3, 9), (4, 9)] (fun k => B.length - k) 0 ?_ (by
      refine Le.mkJ [] [] rfl ?_ ?_ trivial ⟨rfl, rfl, rfl, rfl, rfl, trivial⟩ ?_
      · exact ⟨(iP rfl), (iV rfl), (iR rfl), (iV rfl), (iV rfl), (iR rfl), (iV rfl), (lvI (by rfl)), trivial⟩
      · exact ⟨(obE rfl rfl rfl), (obE rfl rfl rfl), (obE rfl rfl rfl), (obE rfl rfl rfl), (obE rfl rfl rfl), (obE rfl rfl rfl), (obE rfl rfl rfl), trivial⟩
      · kernel_rfl) ?_
    · exact ⟨Nat.zero_le _, fun j hj => by omega⟩
    intro k hk
    obtain ⟨hk, hnk⟩ := hk
    refine D_seq fun K9 hK9 => ?_
    refine D_region ?_
    refine DL_c (op_lss _ _ rfl rfl rfl) ?_
    refine DL_nil (hK9 _ ?_)
    clear hK9; try clear K9
    refine D_seq fun K10 hK10 => ?_
    refine D_splitC rfl (fun hc18 => ?_) (fun hc18 => ?_)
    · skip
      obtain ⟨b, hb⟩ : ∃ b, b = B.getD k 0 := ⟨_, rfl⟩
      refine D_skip (hK10 _ ?_)
      clear hK10; try clear K10
      refine D_seq fun K11 hK11 => ?_
      refine D_block ?_
      refine D_seq fun K12 hK12 => ?_
      refine D_region ?_
      refine DL_c (op_ixR _ _ inferInstance rfl rfl rfl _ rfl (by omega) (by exact (Nat.zero_add _).trans (Nat.mul_one _))) ?_
      refine DL_c (op_ldR _ inferInstance rfl rfl (by exact (nsl_get _ _ (by omega)).trans (by rw [← hb])) rfl) ?_
      refine DL_c (op_as _ (rfl : _ = AV.v (.int _ _))) ?_
      refine DL_nil (hK12 _ ?_)
      clear hK12; try clear K12
      refine D_seq fun K13 hK13 => ?_
      refine D_region ?_
      refine DL_c (op_mv _ (rfl : _ = AV.ptr _ _)) ?_
      refine DL_c (op_mv _ (rfl : _ = AV.v (.int _ _))) ?_
      refine DL_c (op_mv _ (rfl : _ = AV.v (.int _ _))) ?_
      refine DL_c (op_callBD inferInstance (argsD_cons (argD (lnS rfl) rfl) (argsD_cons (.inl Lv.v) (argsD_cons (.inl Lv.v) argsD_nil))) (ha b g) rfl) ?_
      refine DL_nil (hK13 _ ?_)
      clear hK13; try clear K13
      refine D_splitC rfl (fun hc24 => ?_) (fun hc24 => ?_)
      · skip
        refine D_seq fun K14 hK14 => ?_
        refine D_region ?_
        refine DL_c (op_as _ (rfl : _ = AV.v (.bool _))) ?_
        refine DL_nil (hK14 _ ?_)
        clear hK14; try clear K14
        refine D_ret ?_
        have hbm : b ∈ B := hb ▸ getD_mem (by omega)
        have hgm : g ∈ G := hg ▸ getD_mem (by omega)
        exact ret1 (.inr rfl) rfl (.tmp (rfl : _ = AV.v (.bool _))) (Le.outI [] [] (lvB (by rw [List.any_eq_true]; exact ⟨g, hgm, List.any_eq_true.2 ⟨b, hbm, hc24⟩⟩)) rfl rfl rfl trivial ⟨⟨rfl, ⟨_, rfl, lvO_id _⟩, rfl⟩, ⟨rfl, ⟨_, rfl, lvO_id _⟩, rfl⟩, ⟨rfl, ⟨_, rfl, lvO_id _⟩, rfl⟩, ⟨rfl, ⟨_, rfl, lvO_id _⟩, rfl⟩, ⟨rfl, ⟨_, rfl, lvO_id _⟩, rfl⟩, trivial⟩ ⟨rfl, rfl, rfl, rfl, rfl, trivial⟩ rfl)
      · skip
        refine D_skip (hK11 _ ?_)
        clear hK11; try clear K11
        refine D_region ?_
        refine DL_c (op_add _ _ rfl rfl (i64w (by omega))) ?_
        refine DL_c (op_mv _ (rfl : _ = AV.v (.int _ _))) ?_
        refine DL_nil ?_
        refine ⟨k + 1, ?_, ?_, ?_⟩
        · exact ⟨by omega, all_succ hnk (by rw [← hb]; exact hc24)⟩
        · skip
          refine Le.mkJ [] [] rfl ?_ ?_ trivial ⟨rfl, rfl, rfl, rfl, rfl, trivial⟩ ?_
          · exact ⟨(iP rfl), (iV rfl), (iR rfl), (iV rfl), (iV rfl), (iR rfl), (iV rfl), (lvI (by rfl)), trivial⟩
          · exact ⟨(obE rfl rfl rfl), (obE rfl rfl rfl), (obE rfl rfl rfl), (obE rfl rfl rfl), (obE rfl rfl rfl), (obE rfl rfl rfl), (obE rfl rfl rfl), trivial⟩
          · kernel_rfl
        · omega
    · skip
      have hgF : (B.any fun b => R b (G.getD i 0)) = false := by
        rw [List.any_eq_false]
        intro b hb
        obtain ⟨j, hj, rfl⟩ := List.getElem_of_mem hb
        have := hnk j (by omega)
        rw [List.getD_eq_getElem?_getD, List.getElem?_eq_getElem hj, hg] at this
        simpa using this
      refine D_exit ?_
      refine id (hK6 _ ?_)
      clear hK6; try clear K6
      refine D_region ?_
      refine DL_c (op_add _ _ rfl rfl (i64w (by omega))) ?_
      refine DL_c (op_mv _ (rfl : _ = AV.v (.int _ _))) ?_
      refine DL_nil ?_
      refine ⟨i + 1, ?_, ?_, ?_⟩
      · exact ⟨by omega, all_succ hno hgF⟩
      · skip
        refine Le.mkJ [] [] rfl ?_ ?_ trivial ⟨rfl, rfl, rfl, rfl, rfl, trivial⟩ ?_
        · exact ⟨(iP rfl), (iR rfl), (iV rfl), (lvI (by rfl)), trivial⟩
        · exact ⟨(obE rfl rfl rfl), (obE rfl rfl rfl), (obE rfl rfl rfl), (obE rfl rfl rfl), (obE rfl rfl rfl), (obE rfl rfl rfl), trivial⟩
        · kernel_rfl
      · omega
  · skip
    refine D_exit ?_
    refine id (hK2 _ ?_)
    clear hK2; try clear K2
    refine D_seq fun K15 hK15 => ?_
    refine D_region ?_
    refine DL_c (op_as _ (rfl : _ = AV.v (.bool _))) ?_
    refine DL_nil (hK15 _ ?_)
    clear hK15; try clear K15
    refine D_ret ?_
    exact ret1 (.inr rfl) rfl (.tmp (rfl : _ = AV.v (.bool _))) (Le.outI [] [] (lvB (by
        rw [List.any_eq_false]
        intro g hg
        obtain ⟨j, hj, rfl⟩ := List.getElem_of_mem hg
        have := hno j (by omega)
        rw [List.getD_eq_getElem?_getD, List.getElem?_eq_getElem hj] at this
        simpa using this)) rfl rfl rfl trivial ⟨⟨rfl, ⟨_, rfl, lvO_id _⟩, rfl⟩, ⟨rfl, ⟨_, rfl, lvO_id _⟩, rfl⟩, ⟨rfl, ⟨_, rfl, lvO_id _⟩, rfl⟩, ⟨rfl, ⟨_, rfl, lvO_id _⟩, rfl⟩, ⟨rfl, ⟨_, rfl, lvO_id _⟩, rfl⟩, trivial⟩ ⟨rfl, rfl, rfl, rfl, rfl, trivial⟩ rfl)
end Go.Proofs.Ytkbkmngbenohkaa

namespace Go.Proofs.Ytkbkmngbenohkaa
open Go.RowKit

theorem op_clr {P : Program} {σ : St} {z0 : Value} {T e : TypeId} {bytes : Nat} {dd : Option Tmp} {ty : TypeId} (x : Operand) (E : Elem P T e 1 bytes [z0]) {id : Oid} {off n : Nat} {xs : List PV} (hx : σ.eval x = .ref id off n) (hid : σ.ob id = .obj (.row e 1 xs)) (hn : 0 < n) (hfit : off + n ≤ xs.length)
  {ys : List PV} (hy : putL xs off (List.replicate n (.v z0)) = ys) : Stp P dd (.call { callee := .builtin .clear, args := #[x], argTypes := #[T] }) ty σ ((σ.setOb id (.obj (.row e 1 ys))).put dd .dead) := by
 intro o hd ho ht
 subst hd; subst hy
 intro K ι S a w R
 obtain ⟨B, h1, hsz, ⟨c, h3, h4, h5⟩, hrow⟩ := R.refB hid hx
 have hz1 : z0.oneCell' = true := E.one z0 (by simp)
 obtain ⟨inf, zv, hinf, hzero, hs, _, hzc⟩ := E.info
 rcases hrow with ⟨hg0, hl0, _⟩ | ⟨g, cur, hg, hheap, htot, hlen, hcell⟩
 ·omega
 ·rw [hg] at h5
  obtain ⟨o', h6, h7, _⟩ := h5
  obtain rfl := h7.resolve_right (by omega)
  have hvl : (List.replicate n z0).length = n := List.length_replicate
  have hpl : (List.replicate n (PV.v z0)).length = n := List.length_replicate
  have hst := run_storeCells_at (P := P) g o' e (List.replicate n z0) 0 cur w hheap (by rw [hvl]; omega) (fun u hu => by rw [List.eq_of_mem_replicate hu]; exact hz1)
  simp only [Nat.add_zero] at hst
  have hzn : (Builtin.zeroCells zv.cells n).toList = List.replicate n z0 := by
   rw [hzc]
   simp [Builtin.zeroCells]
   apply List.ext_getElem
   ·simp
   ·intro i h1 h2
    simp [Nat.mod_one]
  obtain ⟨m, rfl⟩ : ∃ m, n = m + 1 := ⟨n - 1, by omega⟩
  have hclr : (Builtin.clear_ #[T] o.type #[a.eval x]).run P w = .ok (.tuple #[]) (w.setRow g (putL cur.toList o' (List.replicate (m + 1) z0)).toArray) := by
   rw [h6]
   have hzr : (zeroValue e).run P w = .ok zv w := by simp [zeroValue, typeInfo, Sem.run, hinf, hzero]
   simp [Builtin.clear_, run_underlying E.und, hzr, hzn, hst, putL]
  have hrun : (execOp a.eval o).run P w = .ok (.value (.tuple #[])) (w.setRow g (putL cur.toList o' (List.replicate (m + 1) z0)).toArray) := by
   unfold execOp
   simp only [ho, resolve, invoke, builtin, Sem.run_bind, Sem.run_pure, Result.andThen_ok, List.map_toArray, List.map_cons, List.map_nil, hclr]
  have hcl : o' + (List.replicate (m + 1) z0).length ≤ cur.toList.length := by rw [hvl]; simp; omega
  have hcp : o' + (List.replicate (m + 1) (PV.v z0)).length ≤ xs.length := by rw [hpl]; exact hfit
  have hk : Keeps (fun k => B.g = some k) w (w.setRow g (putL cur.toList o' (List.replicate (m + 1) z0)).toArray) := keeps_setRow w g _ hg
  have hwS : ∀ k, S k → (w.setRow g (putL cur.toList o' (List.replicate (m + 1) z0)).toArray).heap[k]? = w.heap[k]? := fun k hk' => setRow_other w g k _ fun e => (R.sep id B g h1 hg).1 (e ▸ hk')
  have R1 := R.upd (o' := .row e 1 (putL xs o' (List.replicate (m + 1) (PV.v z0)))) hid h1 hk ⟨B, h1, hsz, .inr ⟨g, _, hg, setRow_heap w g _ _ e _ hheap, by simp [putL_len _ _ _ hcl, htot], by
    rw [putL_len _ _ _ hcp]; simp [putL_len _ _ _ hcl, hlen], fun j hj => ?_⟩⟩ (fun i hi => hi.elim)
  ·exact yields_value hrun ⟨ι, S, R1.put o.dst (by exact .dead) fun i hi => by cases hi⟩
  ·rw [putL_len _ _ _ hcp] at hj
   by_cases hin : o' ≤ j ∧ j < o' + (m + 1)
   ·refine ⟨z0, ?_, hz1, fun b hb => ?_⟩
    ·rw [List.getElem?_toArray, putL_get _ _ _ hcl, if_pos (by rw [hvl]; exact hin)]
     rw [List.getElem?_replicate, if_pos (by omega)]
    ·rw [putL_get _ _ _ hcp, if_pos (by rw [hpl]; exact hin)] at hb
     have := List.eq_of_mem_replicate (List.mem_of_getElem? hb)
     subst this
     exact .v hz1
   ·obtain ⟨u, hu, hu1, hu2⟩ := hcell j hj
    refine ⟨u, ?_, hu1, fun b hb => ?_⟩
    ·rw [List.getElem?_toArray, putL_get _ _ _ hcl, if_neg (by rw [hvl]; exact hin)]; simpa using hu
    ·rw [putL_get _ _ _ hcp, if_neg (by rw [hpl]; exact hin)] at hb
     exact (hu2 b hb).next hwS (fun _ h => h)
end Go.Proofs.Ytkbkmngbenohkaa

namespace Go.Proofs.Ytkbkmngbenohkaa
open Go.RowKit

theorem clone_own (m : Nat) (l : List Nat) (hm : l.length = m) (h0 : 0 < m) (h1 : m ≤ 1000000) :
  Spec Try.prog 131 (inSt [.sl m (nsl l)] []) (outSt (.ref (0, 8) 0 m) [((0, 8), .row 3 1 (nsl l))]) := by
 refine Spec.ofN Try.func131 rfl Try.ntmps131 rfl ?_
 refine D_seq fun K1 hK1 => ?_
 refine D_region ?_
 refine DL_c (op_as _ (rfl : _ = AV.v (.slice _ _ _))) ?_
 refine DL_nil (hK1 _ ?_)
 clear hK1; try clear K1
 refine D_seq fun K2 hK2 => ?_
 refine D_seq fun K3 hK3 => ?_
 refine D_region ?_
 refine DL_c (op_mv _ (rfl : _ = AV.sl _ _)) ?_
 refine DL_c (op_eqlS _ _ Try.underlying29 (.inl ⟨_, rfl⟩) h0 rfl) ?_
 refine DL_nil (hK3 _ ?_)
 clear hK3; try clear K3
 refine D_cF rfl rfl ?_
 refine D_skip (hK2 _ ?_)
 clear hK2; try clear K2
 refine D_seq fun K4 hK4 => ?_
 refine D_region ?_
 refine DL_c (op_bsZ _ inferInstance rfl) ?_
 refine DL_c (op_mv _ (rfl : _ = AV.sl _ _)) ?_
 refine DL_c (op_apZR (7, 0) _ _ inferInstance rfl h0 (.sl (by simp; omega)) (by omega) rfl) ?_
 refine DL_c (op_as _ (rfl : _ = AV.ref _ _ _)) ?_
 refine DL_nil (hK4 _ ?_)
 clear hK4; try clear K4
 refine D_ret ?_
 exact ret1 (.inr rfl) rfl (.tmp (rfl : _ = AV.ref _ _ _)) (Le.out [((0, 8), (7, 0))] [] (lvRr rfl (by rfl)) rfl rfl rfl trivial ⟨⟨rfl, ⟨_, rfl, .rowE (by rfl)⟩, rfl⟩, trivial⟩)
theorem open1_spec (n : Nat) (P A : List Nat) (hA : A.length = n) (hn : n ≤ 64) (hw : ∀ v, A.getD v 0 < 18446744073709551616) (h : Nat) (sc : List Nat) (g v : Nat) :
  Spec Try.prog 127 (inSt [.v (.int .i64 (g : Int)), .fp 0 [.ptr 0 (sP n P A h sc)], .fp 0 [.v (.int .i64 (v : Int))]] []) (outSt (.v (.bool (anR n A v g))) []) := by
 have ha := anc_spec n P A hA hn hw h sc v g
 refine Spec.ofN Try.func127 rfl Try.ntmps127 rfl ?_
 refine D_seq fun K1 hK1 => ?_
 refine D_region ?_
 refine DL_c (op_as _ (rfl : _ = AV.v (.bool _))) ?_
 refine DL_nil (hK1 _ ?_)
 clear hK1; try clear K1
 refine D_seq fun K2 hK2 => ?_
 refine D_region ?_
 refine DL_c (op_ldF _ inferInstance rfl (rfl : _ = some (PV.ptr 0 (sP n P A h sc))) rfl) ?_
 refine DL_c (op_ldF _ inferInstance rfl (rfl : _ = some (PV.v (.int .i64 (v : Int)))) rfl) ?_
 refine DL_c (op_mv _ (rfl : _ = AV.v (.int _ _))) ?_
 refine DL_c (op_callH inferInstance (by repeat' (first | exact argsLv_nil | refine argsLv_cons ?_ ?_ | exact Lv.v | exact Lv.fp)) (ha) rfl rfl) ?_
 refine DL_c (op_as _ (rfl : _ = AV.v (.bool _))) ?_
 refine DL_nil (hK2 _ ?_)
 clear hK2; try clear K2
 refine D_ret ?_
 refine ret1 (.inr rfl) rfl (.tmp (rfl : _ = AV.v (.bool _))) (Le.out [] [] (lvB ?_) rfl rfl rfl trivial trivial)
 rfl
theorem open2_spec (n : Nat) (P A : List Nat) (hA : A.length = n) (hn : n ≤ 64) (hw : ∀ v, A.getD v 0 < 18446744073709551616) (h : Nat) (sc : List Nat) (b v : Nat) :
  Spec Try.prog 129 (inSt [.v (.int .i64 (b : Int)), .fp 0 [.ptr 0 (sP n P A h sc)], .fp 0 [.v (.int .i64 (v : Int))]] []) (outSt (.v (.bool (decide (b ≠ h) && anR n A b v))) []) := by
 have ha := anc_spec n P A hA hn hw h sc b v
 refine Spec.ofN Try.func129 rfl Try.ntmps129 rfl ?_
 refine D_seq fun K1 hK1 => ?_
 refine D_region ?_
 refine DL_c (op_as _ (rfl : _ = AV.v (.bool _))) ?_
 refine DL_nil (hK1 _ ?_)
 clear hK1; try clear K1
 refine D_seq fun K2 hK2 => ?_
 refine D_region ?_
 refine DL_c (op_mv _ (rfl : _ = AV.v (.int _ _))) ?_
 refine DL_c (op_ldF _ inferInstance rfl (rfl : _ = some (PV.ptr 0 (sP n P A h sc))) rfl) ?_
 refine DL_c (op_nilc _ rfl) ?_
 refine DL_c (op_fldF _ inferInstance rfl rfl) ?_
 refine DL_c (op_ldF _ inferInstance rfl (rfl : _ = some (PV.v (.int .i64 (h : Int)))) rfl) ?_
 refine DL_c (op_neq _ _ rfl rfl rfl) ?_
 refine DL_c (op_mv _ (rfl : _ = AV.v (.bool _))) ?_
 refine DL_caseC (fun hg11 => ?_) (fun hg11 => ?_)
 ·skip
  refine DL_cy rfl rfl (op_ldF _ inferInstance rfl (rfl : _ = some (PV.ptr 0 (sP n P A h sc))) rfl) ?_
  refine DL_cy rfl rfl (op_mv _ (rfl : _ = AV.v (.int _ _))) ?_
  refine DL_cy rfl rfl (op_ldF _ inferInstance rfl (rfl : _ = some (PV.v (.int .i64 (v : Int)))) rfl) ?_
  refine DL_cy rfl rfl (op_callH inferInstance (by repeat' (first | exact argsLv_nil | refine argsLv_cons ?_ ?_ | exact Lv.v | exact Lv.fp)) (ha) rfl rfl) ?_
  refine DL_c (op_pick _ _ _ rfl (rfl : _ = AV.v (.bool _))) ?_
  refine DL_c (op_as _ (rfl : _ = AV.v (.bool _))) ?_
  refine DL_nil (hK2 _ ?_)
  clear hK2; try clear K2
  refine D_ret ?_
  refine ret1 (.inr rfl) rfl (.tmp (rfl : _ = AV.v (.bool _))) (Le.out [] [] (lvB ?_) rfl rfl rfl trivial trivial)
  have : b ≠ h := fun e => hg11 (by rw [e]); simp [this]
 ·skip
  refine DL_cn rfl rfl (by decide) ?_
  refine DL_cn rfl rfl (by decide) ?_
  refine DL_cn rfl rfl (by decide) ?_
  refine DL_cn rfl rfl (by decide) ?_
  refine DL_c (op_pick _ _ _ rfl (rfl : _ = AV.v (.bool _))) ?_
  refine DL_c (op_as _ (rfl : _ = AV.v (.bool _))) ?_
  refine DL_nil (hK2 _ ?_)
  clear hK2; try clear K2
  refine D_ret ?_
  refine ret1 (.inr rfl) rfl (.tmp (rfl : _ = AV.v (.bool _))) (Le.out [] [] (lvB ?_) rfl rfl rfl trivial trivial)
  have : b = h := (by omega); simp [this]
theorem cand1_spec (n : Nat) (P A : List Nat) (hA : A.length = n) (hn : n ≤ 64) (hw : ∀ v, A.getD v 0 < 18446744073709551616) (h : Nat) (sc : List Nat) (b v : Nat) :
  Spec Try.prog 133 (inSt [.v (.int .i64 (b : Int)), .fp 0 [.v (.int .i64 (v : Int))], .fp 0 [.ptr 0 (sP n P A h sc)]] []) (outSt (.v (.bool (decide (b ≠ v) && anR n A b v))) []) := by
 have ha := anc_spec n P A hA hn hw h sc b v
 refine Spec.ofN Try.func133 rfl Try.ntmps133 rfl ?_
 refine D_seq fun K1 hK1 => ?_
 refine D_region ?_
 refine DL_c (op_as _ (rfl : _ = AV.v (.bool _))) ?_
 refine DL_nil (hK1 _ ?_)
 clear hK1; try clear K1
 refine D_seq fun K2 hK2 => ?_
 refine D_region ?_
 refine DL_c (op_mv _ (rfl : _ = AV.v (.int _ _))) ?_
 refine DL_c (op_ldF _ inferInstance rfl (rfl : _ = some (PV.v (.int .i64 (v : Int)))) rfl) ?_
 refine DL_c (op_neq _ _ rfl rfl rfl) ?_
 refine DL_c (op_mv _ (rfl : _ = AV.v (.bool _))) ?_
 refine DL_caseC (fun hg8 => ?_) (fun hg8 => ?_)
 ·skip
  refine DL_cy rfl rfl (op_ldF _ inferInstance rfl (rfl : _ = some (PV.ptr 0 (sP n P A h sc))) rfl) ?_
  refine DL_cy rfl rfl (op_mv _ (rfl : _ = AV.v (.int _ _))) ?_
  refine DL_cy rfl rfl (op_ldF _ inferInstance rfl (rfl : _ = some (PV.v (.int .i64 (v : Int)))) rfl) ?_
  refine DL_cy rfl rfl (op_callH inferInstance (by repeat' (first | exact argsLv_nil | refine argsLv_cons ?_ ?_ | exact Lv.v | exact Lv.fp)) (ha) rfl rfl) ?_
  refine DL_c (op_pick _ _ _ rfl (rfl : _ = AV.v (.bool _))) ?_
  refine DL_c (op_as _ (rfl : _ = AV.v (.bool _))) ?_
  refine DL_nil (hK2 _ ?_)
  clear hK2; try clear K2
  refine D_ret ?_
  refine ret1 (.inr rfl) rfl (.tmp (rfl : _ = AV.v (.bool _))) (Le.out [] [] (lvB ?_) rfl rfl rfl trivial trivial)
  have : b ≠ v := fun e => hg8 (by rw [e]); simp [this]
 ·skip
  refine DL_cn rfl rfl (by decide) ?_
  refine DL_cn rfl rfl (by decide) ?_
  refine DL_cn rfl rfl (by decide) ?_
  refine DL_cn rfl rfl (by decide) ?_
  refine DL_c (op_pick _ _ _ rfl (rfl : _ = AV.v (.bool _))) ?_
  refine DL_c (op_as _ (rfl : _ = AV.v (.bool _))) ?_
  refine DL_nil (hK2 _ ?_)
  clear hK2; try clear K2
  refine D_ret ?_
  refine ret1 (.inr rfl) rfl (.tmp (rfl : _ = AV.v (.bool _))) (Le.out [] [] (lvB ?_) rfl rfl rfl trivial trivial)
  have : b = v := (by omega); simp [this]
/-- any, of numbers. -/
theorem anyN (p : Nat → Bool) (l : List Nat) : (l.map fun (x : Nat) => (x : Int)).any (fun x => p x.toNat) = l.any p := by
 rw [List.any_map]; rfl
theorem getN (l : List Nat) (i : Nat) : (l.map fun (x : Nat) => (x : Int)).getD i 0 = ((l.getD i 0 : Nat) : Int) := by
 simp only [List.getD_eq_getElem?_getD, List.getElem?_map]
 cases l[i]? <;> rfl
theorem containsN_spec (f : FuncId) (C : Cbl Try.prog f) (caps : List AV) (hcp : AV.pures caps = true) (hcw : ∀ ids, AV.withins ids caps = true) (n : Nat) (xs : List Nat) (hn : xs.length = n) (h1 : n ≤ 4611686018427387904) (p : Nat → Bool)
  (hp : ∀ x : Nat, Spec Try.prog f (inSt (.v (.int .i64 (x : Int)) :: caps) []) (outSt (.v (.bool (p x))) [])) :
  Spec Try.prog 85 (inSt [.sl n (nsl xs), .fn (.func f) [] caps] []) (outSt (.v (.bool (xs.any p))) []) := by
 have h := containsf_spec f C caps hcp hcw n (xs.map fun (x : Nat) => (x : Int)) (by simp [hn]) h1 (fun x => p x.toNat) fun i hi => by
  rw [getN]; exact hp _
 rw [anyN] at h
 exact h
/-- What of the first k stays. -/
def flt (p : Nat → Bool) (l : List Nat) (k : Nat) : List Nat := (l.take k).filter fun v => !p v
/-- The row while it is sieved. -/
def dcl (p : Nat → Bool) (l : List Nat) (k : Nat) : List Nat := flt p l k ++ l.drop (flt p l k).length
theorem flt_len (p : Nat → Bool) (l : List Nat) (k : Nat) : (flt p l k).length ≤ k ∧ (flt p l k).length ≤ l.length := by
 have h1 := List.length_filter_le (fun v => !p v) (l.take k)
 rw [List.length_take] at h1
 unfold flt; omega
theorem flt_yes {p : Nat → Bool} {l : List Nat} {k : Nat} (hk : k < l.length) (h : p (l.getD k 0) = false) : flt p l (k + 1) = flt p l k ++ [l.getD k 0] := by
 unfold flt; rw [take1 0 hk, List.filter_append]; simp only [List.filter_cons, List.filter_nil, h]; rfl
theorem flt_no {p : Nat → Bool} {l : List Nat} {k : Nat} (hk : k < l.length) (h : p (l.getD k 0) = true) : flt p l (k + 1) = flt p l k := by
 unfold flt; rw [take1 0 hk, List.filter_append]; simp only [List.filter_cons, List.filter_nil, h]; simp
@[simp] theorem dcl_len (p : Nat → Bool) (l : List Nat) (k : Nat) : (dcl p l k).length = l.length := by
 have := (flt_len p l k).2
 unfold dcl; rw [List.length_append, List.length_drop]; omega
theorem dcl_get {p : Nat → Bool} {l : List Nat} {k : Nat} : (dcl p l k).getD k 0 = l.getD k 0 := by
 have := (flt_len p l k).1
 unfold dcl
 rw [List.getD_eq_getElem?_getD, List.getElem?_append_right this, List.getElem?_drop, List.getD_eq_getElem?_getD]
 congr 2; omega
theorem dcl_yes {p : Nat → Bool} {l : List Nat} {k : Nat} (hk : k < l.length) (h : p (l.getD k 0) = false) : (dcl p l k).set (flt p l k).length (l.getD k 0) = dcl p l (k + 1) := by
 have h1 := (flt_len p l k).1
 unfold dcl
 rw [flt_yes hk h, List.set_append_right _ _ (Nat.le_refl _), Nat.sub_self, List.drop_eq_getElem_cons (show (flt p l k).length < l.length by omega), List.set_cons_zero, List.length_append, List.append_assoc]
 rfl
theorem dcl_no {p : Nat → Bool} {l : List Nat} {k : Nat} (hk : k < l.length) (h : p (l.getD k 0) = true) : dcl p l (k + 1) = dcl p l k := by
 unfold dcl; rw [flt_no hk h]
theorem flt_all {p : Nat → Bool} {l : List Nat} {k : Nat} (h : ∀ j, j < k → p (l.getD j 0) = false) (hk : k ≤ l.length) : flt p l k = l.take k := by
 unfold flt
 rw [List.filter_eq_self]
 intro v hv
 obtain ⟨j, hj, rfl⟩ := List.getElem_of_mem hv
 rw [List.length_take] at hj
 have := h j (by omega)
 rw [List.getD_eq_getElem?_getD, List.getElem?_eq_getElem (by omega)] at this
 simpa using this
theorem nslN_put (l : List Nat) (k x : Nat) (h : k < l.length) : putL (nsl l) k [.v (.int .i64 (x : Int))] = nsl (l.set k x) := by
 have := nsl_put l k (x : Int) h (by omega)
 rw [Int.toNat_natCast] at this
 exact this.symm
theorem nsl_split (a b : List Nat) : nsl (a ++ b) = nsl a ++ nsl b := (nsl_append a b).symm
theorem clr_rowN {a b : List Nat} {k n : Nat} (ha : a.length = k) (hn : k + b.length = n) : ∃ zs, putL (nsl (a ++ b)) k (List.replicate (n - k) (.v (.int .i64 0))) = nsl a ++ zs := by
 refine ⟨List.replicate (n - k) (.v (.int .i64 0)) ++ (nsl (a ++ b)).drop (k + (List.replicate (n - k) (PV.v (Value.int IntKind.i64 0))).length), ?_⟩
 rw [putL, List.append_assoc, nsl_split, List.take_append_of_le_length (by simp [ha]), List.take_of_length_le (by simp [ha])]
theorem first_case (q : Nat → Bool) : ∀ n, (∀ j, j < n → q j = false) ∨ ∃ i, i < n ∧ (∀ j, j < i → q j = false) ∧ q i = true
 | 0 => .inl fun j hj => by omega
 | n + 1 => by
  rcases first_case q n with h | ⟨i, h1, h2, h3⟩
  ·cases hq : q n with
   | false => exact .inl (all_succ h hq)
   | true => exact .inr ⟨n, by omega, h, hq⟩
  ·exact .inr ⟨i, by omega, h2, h3⟩
theorem filter_none {p : Nat → Bool} {l : List Nat} (h : ∀ j, j < l.length → p (l.getD j 0) = false) : (l.filter fun v => !p v) = l := by
 have := flt_all h (Nat.le_refl _)
 unfold flt at this
 rwa [List.take_length] at this
section
variable (f : FuncId) (C : Cbl Try.prog f) (caps : List AV) (hcp : AV.pures caps = true) (hcw : ∀ ids, AV.withins ids caps = true) (n : Nat) (l : List Nat) (hn : l.length = n) (h1 : n ≤ 1000000) (p : Nat → Bool)
  (hp : ∀ x : Nat, Spec Try.prog f (inSt (.v (.int .i64 (x : Int)) :: caps) []) (outSt (.v (.bool (p x))) []))
include C hcp hcw hn h1 hp
end
end Go.Proofs.Ytkbkmngbenohkaa
