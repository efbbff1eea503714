/- The machine's rule for a call that is handed objects. No program text. -/
import Derived.Test.YtphlaojoehmhaaaDLib11
set_option linter.unusedSimpArgs false
set_option linter.unusedVariables false
namespace Go.Proofs.Ytphlaojoehmhaaa
open Go.RowKit

def iotaAfter (ρ : Oid → Oid) (outs : List (Oid × Cells)) (ins : List Oid) (ι' ι : Oid → Option Blk) : Oid → Option Blk := fun c =>
  match outs with
  | (i, _) :: l => bif oeq c (ρ i) then ι' i else iotaAfter ρ l ins ι' ι c
  | [] => bif inO c (ins.map ρ) then none else ι c
theorem iotaAfter_out {ρ : Oid → Oid} {ins : List Oid} {ι' ι : Oid → Option Blk} : ∀ {outs : List (Oid × Cells)} {i : Oid}, ((outs.map (·.1)).map ρ).Nodup → i ∈ outs.map (·.1) → iotaAfter ρ outs ins ι' ι (ρ i) = ι' i
  | [], i, _, h => by simp at h
  | (k, c) :: l, i, hn, h => by
    simp only [iotaAfter]
    simp only [List.map_cons, List.nodup_cons] at hn
    simp only [List.map_cons, List.mem_cons] at h
    rcases h with h0 | h
    · subst h0; rw [oeq_self]; rfl
    · have : ρ i ≠ ρ k := fun e => hn.1 (e ▸ List.mem_map_of_mem h)
      rw [oeq_ne this]
      exact iotaAfter_out hn.2 h
theorem iotaAfter_other {ρ : Oid → Oid} {ins : List Oid} {ι' ι : Oid → Option Blk} {c : Oid} : ∀ {outs : List (Oid × Cells)}, c ∉ (outs.map (·.1)).map ρ → iotaAfter ρ outs ins ι' ι c = (bif inO c (ins.map ρ) then none else ι c)
  | [], _ => rfl
  | (k, o) :: l, h => by
    simp only [List.map_cons, List.mem_cons, not_or] at h
    simp only [iotaAfter, oeq_ne h.1, cond_false]
    exact iotaAfter_other h.2
def keptB (ins Pn : List Oid) : List (Oid × Cells) → Bool
  | [] => true
  | (i, _) :: l => (bif inO i ins then inO i Pn else true) && keptB ins Pn l
theorem keptB_mem {ins Pn : List Oid} {i : Oid} : ∀ {l : List (Oid × Cells)}, keptB ins Pn l = true → i ∈ l.map (·.1) → i ∈ ins → i ∈ Pn
  | [], _, h, _ => by simp at h
  | (k, o) :: l, hk, h, hi => by
    simp only [keptB, Bool.and_eq_true] at hk
    simp only [List.map_cons, List.mem_cons] at h
    rcases h with h | h
    · subst h
      rw [inO_iff.2 hi] at hk
      exact inO_iff.1 hk.1
    · exact keptB_mem hk.2 h hi

theorem RelI.lt {K : Ctx} {ι : Oid → Option Blk} {S : Nat → Prop} {σ : St} {a : Act} {w : World} (R : RelI K ι S σ a w) {id : Oid} {B : Blk} {g : Nat} (h2 : ι id = some B) (h3 : B.g = some g) : g < w.heap.size := by
  obtain ⟨o, ho⟩ := R.dom id B h2
  have := R.ob id o ho
  cases o with
  | row e sz xs =>
    obtain ⟨B2, h3', _, h4⟩ := this
    rw [h2] at h3'; obtain rfl := Option.some.inj h3'
    rcases h4 with ⟨h5, _⟩ | ⟨g', cur, h5, h6, _⟩
    · rw [h3] at h5; cases h5
    · rw [h3] at h5; obtain rfl := Option.some.inj h5
      exact (Array.getElem?_eq_some_iff.1 h6).1
  | box e xs =>
    obtain ⟨B2, g2, h3', _, _, h4⟩ := this
    rw [h2] at h3'; obtain rfl := Option.some.inj h3'
    rcases h4 with ⟨h5, _⟩ | ⟨g', cur, h5, h6, _⟩
    · rw [h3] at h5; cases h5
    · rw [h3] at h5; obtain rfl := Option.some.inj h5
      exact (Array.getElem?_eq_some_iff.1 h6).1

section
variable {P : Program} {σ : St} {o : Oper}

def ArgsR (σ : St) (rn : List (Oid × Oid)) (xs : List Operand) (args : List AV) : Prop := args.length = xs.length ∧ ∀ (j : Nat) (x : Operand) (a : AV), xs[j]? = some x → args[j]? = some a → Lv (rnOf rn) σ (fun _ => false) a (σ.eval x)
theorem argsR_nil {rn : List (Oid × Oid)} : ArgsR σ rn [] [] := ⟨rfl, by simp⟩
theorem argsR_cons {rn : List (Oid × Oid)} {x : Operand} {xs : List Operand} {a : AV} {args : List AV} (h : Lv (rnOf rn) σ (fun _ => false) a (σ.eval x)) (hs : ArgsR σ rn xs args) : ArgsR σ rn (x :: xs) (a :: args) := by
  refine ⟨by simp [hs.1], fun j y b hy hb => ?_⟩
  cases j with
  | zero => simp at hy hb; subst hy; subst hb; exact h
  | succ j => exact hs.2 j y b (by simpa using hy) (by simpa using hb)

theorem st_callR {f : FuncId} {xs : Array Operand} {ats : Array TypeId} (ho : o.op = .call { callee := .value (.func f), args := xs, argTypes := ats }) (C : Cbl P f) (rn : List (Oid × Oid)) {args : List AV} {ins outs : List (Oid × Cells)} {r : AV} {I Pn : List Oid}
    (ha : ArgsR σ rn xs.toList args) (hw : AV.withins (ins.map (·.1)) args = true) (hwi : obsWithin (ins.map (·.1)) ins = true) (hins : AllLvI (rnOf rn) σ (fun _ => false) (ins.map (·.1)) ins)
    (hni : nodupO ((ins.map (·.1)).map (rnOf rn)) = true) (hni' : nodupO (ins.map (·.1)) = true) (hno : nodupO ((outs.map (·.1)).map (rnOf rn)) = true) (hno' : nodupO (outs.map (·.1)) = true) (hfr : AllFree σ (rnOf rn) (ins.map (·.1)) outs) (hPn : keptB (ins.map (·.1)) Pn outs = true)
    (hwo : r.within (outs.map (·.1)) = true) (hwoo : obsWithin (outs.map (·.1)) outs = true) (sp : Spec P f (inStI args ins) (outStI r outs I Pn)) :
    Step P o σ ((σ.after (rnOf rn) outs (ins.map (·.1)) I).put o.dst (r.ren (rnOf rn))) := by
  intro K ι S a w R
  generalize hρ : rnOf rn = ρ at *
  have hni := nodupO_iff hni
  have hni' := nodupO_iff hni'
  have hno := nodupO_iff hno
  have hno' := nodupO_iff hno'
  -- the callee's state
  have hino : ∀ i, i ∈ ins.map (·.1) → ∃ o o2 B, (i, o) ∈ ins ∧ obOf ins i = .obj o ∧ σ.ob (ρ i) = .obj o2 ∧ LvO ρ σ (fun _ => false) o o2 ∧ ι (ρ i) = some B := by
    intro i hi
    obtain ⟨⟨i', oc⟩, hm, rfl⟩ := List.mem_map.1 hi
    obtain ⟨_, ⟨o2, h2, h3⟩, _⟩ := allLvI_mem hins hm
    have hO := R.ob _ o2 h2
    have : ∃ B, ι (ρ i') = some B := by
      cases o2 with
      | row e sz ys => obtain ⟨B, h, _⟩ := hO; exact ⟨B, h⟩
      | box e ys => obtain ⟨B, _, h, _⟩ := hO; exact ⟨B, h⟩
    obtain ⟨B, hB⟩ := this
    exact ⟨oc, o2, B, hm, obOf_of_mem hni' hm, h2, h3, hB⟩
  let own1 : Nat → Prop := fun g => ∃ i B, i ∈ ins.map (·.1) ∧ ι (ρ i) = some B ∧ B.g = some g
  let ι1 : Oid → Option Blk := fun i => bif inO i (ins.map (·.1)) then ι (ρ i) else none
  have hι1 : ∀ i, i ∈ ins.map (·.1) → ι1 i = ι (ρ i) := fun i hi => by simp only [ι1, inO_iff.2 hi, cond_true]
  have hι1' : ∀ i B, ι1 i = some B → i ∈ ins.map (·.1) ∧ ι (ρ i) = some B := fun i B h => by
    simp only [ι1] at h
    cases hb : inO i (ins.map (·.1)) with
    | true => rw [hb] at h; exact ⟨inO_iff.1 hb, h⟩
    | false => rw [hb] at h; cases h
  have hobm : ∀ {i oc}, obOf ins i = .obj oc → i ∈ ins.map (·.1) := fun h => List.mem_map_of_mem (f := (·.1)) (obOf_mem h)
  have R1 : RelI ⟨w, own1, S, fun i => ι (ρ i)⟩ ι1 S (inStI args ins) ⟨xs.map a.eval, []⟩ w := by
    refine ⟨Keeps.refl _ _, fun g h => .inl h, R.Slt, by simpa [inStI] using ha.1.symm, rfl, fun t ht => ?_, fun t id hb => ?_, fun id' oc id hoc hb => obOf_ne (obs_has hwi (obOf_mem hoc) hb), fun id oc hoc => ?_, fun id B hB => ?_, fun id id' B B' g hB hB' hg hg' => ?_, fun id B g hB hg => ?_, fun id h oc hp hoc => ?_, fun id hf => ?_⟩
    · simp only [inStI] at ht ⊢
      have hx : t < xs.toList.length := by rw [← ha.1]; exact ht
      have hl := ha.2 t _ _ (List.getElem?_eq_getElem hx) (List.getElem?_eq_getElem ht)
      rw [hρ] at hl
      have := hl.rep (ι1 := ι1) R (fun id B hB => (hι1' id B hB).2) (S1 := S) (fun g h => h) (fun id B g h => by cases h) (R.eval _)
      have hx' : t < xs.size := by simpa using hx
      simpa [List.getD_eq_getElem?_getD, ht, hx'] using this
    · simp only [inStI] at hb
      by_cases ht : t < args.length
      · rw [List.getD_eq_getElem?_getD, List.getElem?_eq_getElem ht] at hb
        exact obOf_ne (withins_has args hw _ (List.getElem_mem ht) hb)
      · rw [List.getD_eq_getElem?_getD, List.getElem?_eq_none (by omega)] at hb
        cases hb
    · obtain ⟨o1, o2, B, hm, ho1, h2, h3, hB⟩ := hino id (hobm hoc)
      have : Slot.obj o1 = Slot.obj oc := ho1.symm.trans hoc
      obtain rfl := Slot.obj.inj this
      have hO := R.ob _ o2 h2
      cases h3 with
      | row h =>
        obtain ⟨B, b1, b2, b3⟩ := hO
        refine ⟨B, by rw [hι1 id (hobm hoc)]; exact b1, b2, ?_⟩
        subst h
        rcases b3 with ⟨c1, c2, c3⟩ | ⟨g, cur, c1, c2, c3, c4, c5⟩
        · exact .inl ⟨c1, by simp at c2; simp [c2.1], c3⟩
        · refine .inr ⟨g, cur, c1, c2, c3, by simp at c4; omega, fun j hj => ?_⟩
          obtain ⟨u, d1, d2, d3⟩ := c5 j (by simp; omega)
          exact ⟨u, d1, d2, fun p hp => (d3 p (by rw [List.getElem?_append, if_pos hj]; exact hp))⟩
      | box hl h =>
        obtain ⟨B, g, b1, b2, b3, b4⟩ := hO
        refine ⟨B, g, by rw [hι1 id (hobm hoc)]; exact b1, b2, by omega, ?_⟩
        rw [hl]
        rcases b4 with ⟨c1, _⟩ | ⟨g', cur, c1, c2, c3, c4, c5⟩
        · rw [b2] at c1; cases c1
        · refine .inr ⟨g', cur, c1, c2, c3, c4, fun j hj => ?_⟩
          obtain ⟨u, d1, d2, d3⟩ := c5 j hj
          refine ⟨u, d1, d2, fun p hp => ?_⟩
          exact (h j p _ hp (List.getElem?_eq_getElem hj)).rep R (fun id B hB => (hι1' id B hB).2) (fun _ h => h) (fun id B g h => by cases h) (d3 _ (List.getElem?_eq_getElem hj))
    · obtain ⟨h1, h2⟩ := hι1' id B hB
      obtain ⟨o1, _, _, _, h3, _⟩ := hino id h1
      exact ⟨o1, h3⟩
    · obtain ⟨h1, h2⟩ := hι1' id B hB
      obtain ⟨h3, h4⟩ := hι1' id' B' hB'
      exact inj_of_nodup ρ hni h1 h3 (R.inj _ _ B B' g h2 h4 hg hg')
    · obtain ⟨h1, h2⟩ := hι1' id B hB
      refine ⟨(R.sep _ B g h2 hg).1, .inl ⟨id, B, h1, h2, hg⟩, fun hf => ?_⟩
      simp only [inStI] at hf
      rw [inO_iff.2 h1] at hf; cases hf
    · simp only [inStI, pinOf] at hp
      cases hb : inO id (ins.map (·.1)) with
      | true => rw [hb] at hp; obtain rfl := Option.some.inj hp; exact hι1 _ (inO_iff.1 hb)
      | false => rw [hb] at hp; cases hp
    · simp only [inStI, pinOf]
      cases hb : inO id (ins.map (·.1)) with
      | true => exact absurd hf (obOf_ne (inO_iff.1 hb))
      | false => rfl
  refine yields_call (run_call (ρ := a.eval) ho rfl) (sp _ _ _ _ w rfl R1) ?_
  rintro e w' ⟨v, ι', S', rfl, R2⟩
  refine ⟨v, rfl, iotaAfter ρ outs (ins.map (·.1)) ι' ι, fun g => S g ∨ S' g, ?_⟩
  have hk2 : Keeps own1 w w' := R2.keeps
  have hS2 : ∀ g, S' g → S g ∨ w.heap.size ≤ g := R2.S0
  have houtm : ∀ {i oc}, (i, oc) ∈ outs → i ∈ outs.map (·.1) := fun h => List.mem_map_of_mem (f := (·.1)) h
  have hob2 : ∀ i oc, (i, oc) ∈ outs → ObjOk ι' S' w' i oc := fun i oc h => R2.ob i oc (obOf_of_mem hno' h)
  have hfresh : ∀ i oc, (i, oc) ∈ outs → i ∉ ins.map (·.1) → σ.ob (ρ i) = .free := fun i oc h hn => (allFree_mem hfr h).resolve_left hn
  have hkeep : ∀ i oc, (i, oc) ∈ outs → i ∈ ins.map (·.1) → ι' i = ι (ρ i) := by
    intro i oc h hi
    have hp : i ∈ Pn := keptB_mem hPn (houtm h) hi
    exact R2.pin i i oc (by simp only [outStI, pinOf, inO_iff.2 hp, cond_true]) (obOf_of_mem hno' h)
  have hblk : ∀ i oc B g, (i, oc) ∈ outs → ι' i = some B → B.g = some g → own1 g ∨ w.heap.size ≤ g := fun i oc B g _ hB hg => (R2.sep i B g hB hg).2.1
  have houtcase : ∀ c, c ∈ (outs.map (·.1)).map ρ → ∃ i oc, (i, oc) ∈ outs ∧ c = ρ i := by
    intro c hc
    obtain ⟨i, hi, rfl⟩ := List.mem_map.1 hc
    obtain ⟨⟨i', oc⟩, h, rfl⟩ := List.mem_map.1 hi
    exact ⟨i', oc, h, rfl⟩
  have hincase : ∀ c, c ∈ (ins.map (·.1)).map ρ → ∃ i, i ∈ ins.map (·.1) ∧ c = ρ i := by
    intro c hc
    obtain ⟨i, hi, rfl⟩ := List.mem_map.1 hc
    exact ⟨i, hi, rfl⟩
  have hobA : ∀ c, c ∉ (outs.map (·.1)).map ρ → c ∈ (ins.map (·.1)).map ρ → obAfter ρ outs (ins.map (·.1)) σ.ob c = .gone := fun c h h' => by rw [obAfter_other h, inO_iff.2 h']; rfl
  have hιA : ∀ c, c ∉ (outs.map (·.1)).map ρ → c ∈ (ins.map (·.1)).map ρ → iotaAfter ρ outs (ins.map (·.1)) ι' ι c = none := fun c h h' => by rw [iotaAfter_other h, inO_iff.2 h']; rfl
  have notin : ∀ {c} {l : List Oid}, c ∉ l → inO c l = false := fun {c l} h => by
    cases hb : inO c l with
    | true => exact absurd (inO_iff.1 hb) h
    | false => rfl
  have hrepr : ∀ {b : AV} {u : Value}, (∀ i, Has i b → i ∈ outs.map (·.1)) → Rep ι' S' w' b u → Rep (iotaAfter ρ outs (ins.map (·.1)) ι' ι) (fun g => S g ∨ S' g) w' (b.ren ρ) u := by
    intro b u hb h
    exact h.ren (fun g h => .inr h) fun i B hi hB => by rw [iotaAfter_out hno (hb i hi)] at hB; exact hB
  have R3 := R.gen (ι' := iotaAfter ρ outs (ins.map (·.1)) ι' ι) (S' := fun g => S g ∨ S' g) (w' := w') (ob' := (σ.after ρ outs (ins.map (·.1)) I).ob) (inc' := (σ.after ρ outs (ins.map (·.1)) I).inc) (fun c => c ∈ (outs.map (·.1)).map ρ ∨ c ∈ (ins.map (·.1)).map ρ)
    (hk2.mono fun g ⟨i, B, h1, h2, h3⟩ => ⟨ρ i, B, .inr (List.mem_map_of_mem h1), h2, h3⟩)
    (fun c hc => by rw [iotaAfter_other fun h => hc (.inl h), notin fun h => hc (.inr h)]; rfl)
    (fun c hc => by show obAfter _ _ _ _ _ = _; rw [obAfter_other fun h => hc (.inl h), notin fun h => hc (.inr h)]; rfl)
    (fun c hc => incAfter_other fun h => hc (.inl h))
    (fun c hc => ?_) (fun g h => .inl h) (fun g h => ?_) (fun g h => ?_) (fun c B hc hB => ?_) (fun c oc hc hoc => ?_) (fun c B hc hB => ?_) (fun c c' B B' g hc hB hB' hg hg' => ?_) (fun c B g hc hB hg => ?_) (fun c h oc hc hp hoc => ?_)
  · have := R3.put o.dst (av := r.ren ρ) (v := v) ?_ fun id hi => ?_
    · exact this
    · have := R2.fr 0 (by simp [outStI])
      simp only [outStI, Nat.beq_refl, cond_true] at this
      exact hrepr (fun i hi => within_has r hwo hi) (by simpa using this)
    · obtain ⟨j, hj, rfl⟩ := has_ren r hi
      obtain ⟨⟨i', oc⟩, h, rfl⟩ := List.mem_map.1 (within_has r hwo hj)
      show obAfter _ _ _ _ _ ≠ _
      rw [obAfter_out hno h]
      intro h; cases h
  · by_cases h1 : c ∈ (outs.map (·.1)).map ρ
    · obtain ⟨i, oc, h, rfl⟩ := houtcase c h1
      have : obAfter ρ outs (ins.map (·.1)) σ.ob (ρ i) = .free := hc
      rw [obAfter_out hno h] at this; cases this
    · by_cases h2 : c ∈ (ins.map (·.1)).map ρ
      · have := (hobA c h1 h2).symm.trans hc; cases this
      · have : obAfter ρ outs (ins.map (·.1)) σ.ob c = .free := hc
        rwa [obAfter_other h1, notin h2] at this
  · rcases h with h | h
    · exact .inl h
    · rcases hS2 g h with h | h
      · exact .inl h
      · exact .inr (.inl h)
  · rcases h with h | h
    · exact Nat.lt_of_lt_of_le (R.Slt g h) hk2.size
    · exact R2.Slt g h
  · by_cases h1 : c ∈ (outs.map (·.1)).map ρ
    · obtain ⟨i, oc, h, rfl⟩ := houtcase c h1
      by_cases hi : i ∈ ins.map (·.1)
      · rw [iotaAfter_out hno (houtm h), hkeep i oc h hi] at hB
        exact .inl hB
      · exact .inr (hfresh i oc h hi)
    · rcases hc with hc | hc
      · exact absurd hc h1
      · rw [hιA c h1 hc] at hB; cases hB
  · by_cases h1 : c ∈ (outs.map (·.1)).map ρ
    · obtain ⟨i, oi, h, rfl⟩ := houtcase c h1
      have e : obAfter ρ outs (ins.map (·.1)) σ.ob (ρ i) = .obj oc := hoc
      rw [obAfter_out hno h] at e
      obtain rfl := Slot.obj.inj e
      have hO := hob2 i oi h
      have hι := iotaAfter_out (ins := ins.map (·.1)) (ι' := ι') (ι := ι) hno (houtm h)
      refine ⟨?_, fun id' hi => ?_⟩
      · cases oi with
        | row e sz ys =>
          obtain ⟨B, b1, b2, b3⟩ := hO
          exact ⟨B, by rw [hι]; exact b1, b2, b3.next (fun _ _ => rfl) fun j u hu p hp => (hu p hp).next (fun _ _ => rfl) fun g h => .inr h⟩
        | box e ys =>
          obtain ⟨B, g, b1, b2, b3, b4⟩ := hO
          refine ⟨B, g, by rw [hι]; exact b1, b2, by rw [rens_len]; exact b3, ?_⟩
          rw [rens_len]
          refine b4.next (fun _ _ => rfl) fun j u hu q hq => ?_
          rw [rens_get] at hq
          obtain ⟨b, hb, rfl⟩ := Option.map_eq_some_iff.1 hq
          exact hrepr (fun k hk => obs_has hwoo h ⟨b, List.mem_of_getElem? hb, hk⟩) (hu b hb)
      · cases oi with
        | row e sz ys => exact hi.elim
        | box e ys =>
          obtain ⟨q, hq, hqi⟩ := hi
          obtain ⟨j, b, hb, hj, rfl⟩ := has_rens ys q hq hqi
          obtain ⟨⟨i', oc'⟩, h', rfl⟩ := List.mem_map.1 (obs_has hwoo h ⟨b, hb, hj⟩)
          show obAfter _ _ _ _ _ ≠ _
          rw [obAfter_out hno h']
          intro h; cases h
    · rcases hc with hc | hc
      · exact absurd hc h1
      · have := (hobA c h1 hc).symm.trans hoc; cases this
  · by_cases h1 : c ∈ (outs.map (·.1)).map ρ
    · obtain ⟨i, oi, h, rfl⟩ := houtcase c h1
      exact ⟨_, obAfter_out hno h⟩
    · rcases hc with hc | hc
      · exact absurd hc h1
      · rw [hιA c h1 hc] at hB; cases hB
  · by_cases h1 : c ∈ (outs.map (·.1)).map ρ
    · obtain ⟨i, oi, h, rfl⟩ := houtcase c h1
      rw [iotaAfter_out hno (houtm h)] at hB
      by_cases h2 : c' ∈ (outs.map (·.1)).map ρ
      · obtain ⟨i', oi', h', rfl⟩ := houtcase c' h2
        rw [iotaAfter_out hno (houtm h')] at hB'
        rw [R2.inj i i' B B' g hB hB' hg hg']
      · by_cases h3 : c' ∈ (ins.map (·.1)).map ρ
        · rw [hιA c' h2 h3] at hB'; cases hB'
        · rw [iotaAfter_other h2, notin h3] at hB'
          have hB' : ι c' = some B' := hB'
          rcases hblk i oi B g h hB hg with ⟨i0, B0, a1, a2, a3⟩ | hge
          · have := R.inj _ _ B' B0 g hB' a2 hg' a3
            exact absurd (this ▸ List.mem_map_of_mem a1) h3
          · have := R.lt hB' hg'
            omega
    · rcases hc with hc | hc
      · exact absurd hc h1
      · rw [hιA c h1 hc] at hB; cases hB
  · by_cases h1 : c ∈ (outs.map (·.1)).map ρ
    · obtain ⟨i, oi, h, rfl⟩ := houtcase c h1
      rw [iotaAfter_out hno (houtm h)] at hB
      obtain ⟨s1, s2, s3⟩ := R2.sep i B g hB hg
      refine ⟨fun hs => ?_, ?_, fun hf => ?_⟩
      · rcases hs with hs | hs
        · rcases s2 with ⟨i0, B0, a1, a2, a3⟩ | hge
          · exact (R.sep _ B0 g a2 a3).1 hs
          · have := R.Slt g hs
            have hge : w.heap.size ≤ g := hge
            omega
        · exact s1 hs
      · rcases s2 with ⟨i0, B0, a1, a2, a3⟩ | hge
        · exact (R.sep _ B0 g a2 a3).2.1
        · exact .inr (Nat.le_trans R.keeps.size hge)
      · have hf : incAfter ρ outs I (anyInc σ ((ins.map (·.1)).map ρ)) σ.inc (ρ i) = false := hf
        rw [incAfter_out hno h] at hf
        cases hI : inO i I with
        | false => exact Nat.le_trans R.keeps.size (s3 hI)
        | true =>
          rw [hI] at hf
          simp only [cond_true] at hf
          rcases s2 with ⟨i0, B0, a1, a2, a3⟩ | hge
          · exact (R.sep _ B0 g a2 a3).2.2 (anyInc_false hf _ (List.mem_map_of_mem a1))
          · exact Nat.le_trans R.keeps.size hge
    · rcases hc with hc | hc
      · exact absurd hc h1
      · rw [hιA c h1 hc] at hB; cases hB
  · by_cases h1 : c ∈ (outs.map (·.1)).map ρ
    · obtain ⟨i, oi, hm, rfl⟩ := houtcase c h1
      by_cases hi : i ∈ ins.map (·.1)
      · obtain ⟨_, o2, _, _, _, h2, _⟩ := hino i hi
        exact ⟨by rw [iotaAfter_out hno (houtm hm), hkeep i oi hm hi], o2, h2⟩
      · rw [R.pf _ (hfresh i oi hm hi)] at hp; cases hp
    · rcases hc with hc | hc
      · exact absurd hc h1
      · have := (hobA c h1 hc).symm.trans hoc; cases this

theorem op_callR {dd : Option Tmp} {ty : TypeId} {f : FuncId} {xs : Array Operand} {ats : Array TypeId} (C : Cbl P f) (rn : List (Oid × Oid)) {args : List AV} {ins outs : List (Oid × Cells)} {r : AV} {I Pn : List Oid}
    (ha : ArgsR σ rn xs.toList args) (sp : Spec P f (inStI args ins) (outStI r outs I Pn)) (hins : AllLvI (rnOf rn) σ (fun _ => false) (ins.map (·.1)) ins) (hfr : AllFree σ (rnOf rn) (ins.map (·.1)) outs)
    (hb : (AV.withins (ins.map (·.1)) args && obsWithin (ins.map (·.1)) ins && nodupO ((ins.map (·.1)).map (rnOf rn)) && nodupO (ins.map (·.1)) && nodupO ((outs.map (·.1)).map (rnOf rn)) && nodupO (outs.map (·.1)) && keptB (ins.map (·.1)) Pn outs && r.within (outs.map (·.1)) && obsWithin (outs.map (·.1)) outs) = true) :
    Stp P dd (.call { callee := .value (.func f), args := xs, argTypes := ats }) ty σ ((σ.after (rnOf rn) outs (ins.map (·.1)) I).put dd (r.ren (rnOf rn))) := by
  intro o hd ho ht
  subst hd
  simp only [Bool.and_eq_true] at hb
  obtain ⟨⟨⟨⟨⟨⟨⟨⟨h1, h2⟩, h3⟩, h4⟩, h5⟩, h6⟩, h7⟩, h8⟩, h9⟩ := hb
  exact st_callR ho C rn ha h1 h2 hins h3 h4 h5 h6 hfr h7 h8 h9 sp
end
end Go.Proofs.Ytphlaojoehmhaaa
