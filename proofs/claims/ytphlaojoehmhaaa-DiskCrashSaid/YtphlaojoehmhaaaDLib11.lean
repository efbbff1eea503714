/- The machine's rules: calls that are handed objects, and hand objects back. No program text. -/
import Derived.Test.YtphlaojoehmhaaaDLib10
set_option linter.unusedSimpArgs false
set_option linter.unusedVariables false
namespace Go.Proofs.Ytphlaojoehmhaaa
open Go.RowKit

mutual
def AV.ren (ρ : Oid → Oid) : AV → AV
  | .ref i o n => .ref (ρ i) o n
  | .ptr i o => .ptr (ρ i) o
  | .agg xs => .agg (AV.rens ρ xs)
  | .fn f xs ys => .fn f (AV.rens ρ xs) (AV.rens ρ ys)
  | .ifc t a => .ifc t (a.ren ρ)
  | .tup xs => .tup (AV.rens ρ xs)
  | .dead => .dead
  | .v x => .v x
  | .sl n xs => .sl n xs
  | .fp o xs => .fp o xs
  | .z => .z
def AV.rens (ρ : Oid → Oid) : List AV → List AV
  | [] => []
  | a :: l => a.ren ρ :: AV.rens ρ l
end
def Cells.ren (ρ : Oid → Oid) : Cells → Cells
  | .row e sz xs => .row e sz xs
  | .box e xs => .box e (AV.rens ρ xs)
theorem rens_get {ρ : Oid → Oid} : ∀ (l : List AV) (j : Nat), (AV.rens ρ l)[j]? = (l[j]?).map (AV.ren ρ)
  | [], j => by simp [AV.rens]
  | p :: l, 0 => by simp [AV.rens]
  | p :: l, j + 1 => by simp [AV.rens, rens_get l j]
theorem rens_len {ρ : Oid → Oid} : ∀ (l : List AV), (AV.rens ρ l).length = l.length
  | [] => rfl
  | p :: l => by simp [AV.rens, rens_len l]
theorem rens_mem {ρ : Oid → Oid} {l : List AV} {a : AV} (h : a ∈ AV.rens ρ l) : ∃ b ∈ l, a = b.ren ρ := by
  obtain ⟨j, hj, rfl⟩ := List.getElem_of_mem h
  have := List.getElem?_eq_getElem hj
  rw [rens_get] at this
  obtain ⟨b, hb, he⟩ := Option.map_eq_some_iff.1 this
  exact ⟨b, List.mem_of_getElem? hb, he.symm⟩

theorem Rep.ren {ι ι' : Oid → Option Blk} {S S' : Nat → Prop} {w : World} {ρ : Oid → Oid} {a : AV} {x : Value} (h : Rep ι S w a x) (hS : ∀ g, S g → S' g) : (∀ id B, Has id a → ι' (ρ id) = some B → ι id = some B) → Rep ι' S' w (a.ren ρ) x := by
  induction h with
  | dead => intro _; simp only [AV.ren]; exact .dead
  | v => intro _; simp only [AV.ren]; exact .v
  | sl h => intro _; simp only [AV.ren]; exact .sl (h.next (fun _ _ => rfl) hS)
  | fp h => intro _; simp only [AV.ren]; exact .fp (h.next (fun _ _ => rfl) hS)
  | ref h h1 => intro hι; simp only [AV.ren]; exact .ref (fun B hB => h B (hι _ B .ref hB)) h1
  | ptr h h1 => intro hι; simp only [AV.ren]; exact .ptr (fun B hB => h B (hι _ B .ptr hB)) h1
  | agg h1 h2 h ih =>
    intro hι
    simp only [AV.ren]
    refine .agg (by rw [rens_len]; exact h1) h2 fun j a ha => ?_
    rw [rens_get] at ha
    obtain ⟨b, hb, rfl⟩ := Option.map_eq_some_iff.1 ha
    exact ih j b hb fun id B hi => hι id B (.agg (List.mem_of_getElem? hb) hi)
  | fn h1 h2 h3 h4 i3 i4 =>
    intro hι
    simp only [AV.ren]
    refine .fn (by rw [rens_len]; exact h1) (by rw [rens_len]; exact h2) (fun j a ha => ?_) fun j a ha => ?_
    · rw [rens_get] at ha
      obtain ⟨b, hb, rfl⟩ := Option.map_eq_some_iff.1 ha
      exact i3 j b hb fun id B hi => hι id B (.fn1 (List.mem_of_getElem? hb) hi)
    · rw [rens_get] at ha
      obtain ⟨b, hb, rfl⟩ := Option.map_eq_some_iff.1 ha
      exact i4 j b hb fun id B hi => hι id B (.fn2 (List.mem_of_getElem? hb) hi)
  | z => intro _; simp only [AV.ren]; exact .z
  | ifc h ih => intro hι; simp only [AV.ren]; exact .ifc (ih fun id B hi => hι id B (.ifc hi))
  | tup h1 h ih =>
    intro hι
    simp only [AV.ren]
    refine .tup (by rw [rens_len]; exact h1) fun j a ha => ?_
    rw [rens_get] at ha
    obtain ⟨b, hb, rfl⟩ := Option.map_eq_some_iff.1 ha
    exact ih j b hb fun id B hi => hι id B (.tup (List.mem_of_getElem? hb) hi)
mutual
theorem has_ren {ρ : Oid → Oid} {i : Oid} : ∀ (a : AV), Has i (a.ren ρ) → ∃ j, Has j a ∧ i = ρ j
  | .dead, h => by simp only [AV.ren] at h; cases h
  | .v _, h => by simp only [AV.ren] at h; cases h
  | .sl _ _, h => by simp only [AV.ren] at h; cases h
  | .fp _ _, h => by simp only [AV.ren] at h; cases h
  | .z, h => by simp only [AV.ren] at h; cases h
  | .ref k _ _, h => by simp only [AV.ren] at h; cases h; exact ⟨k, .ref, rfl⟩
  | .ptr k _, h => by simp only [AV.ren] at h; cases h; exact ⟨k, .ptr, rfl⟩
  | .agg xs, h => by
    simp only [AV.ren] at h
    cases h with
    | agg hm h => obtain ⟨j, b, hb, h1, h2⟩ := has_rens xs _ hm h; exact ⟨j, .agg hb h1, h2⟩
  | .fn f xs ys, h => by
    simp only [AV.ren] at h
    cases h with
    | fn1 hm h => obtain ⟨j, b, hb, h1, h2⟩ := has_rens xs _ hm h; exact ⟨j, .fn1 hb h1, h2⟩
    | fn2 hm h => obtain ⟨j, b, hb, h1, h2⟩ := has_rens ys _ hm h; exact ⟨j, .fn2 hb h1, h2⟩
  | .ifc t a, h => by
    simp only [AV.ren] at h
    cases h with
    | ifc h => obtain ⟨j, h1, h2⟩ := has_ren a h; exact ⟨j, .ifc h1, h2⟩
  | .tup xs, h => by
    simp only [AV.ren] at h
    cases h with
    | tup hm h => obtain ⟨j, b, hb, h1, h2⟩ := has_rens xs _ hm h; exact ⟨j, .tup hb h1, h2⟩
theorem has_rens {ρ : Oid → Oid} {i : Oid} : ∀ (l : List AV) (a : AV), a ∈ AV.rens ρ l → Has i a → ∃ j b, b ∈ l ∧ Has j b ∧ i = ρ j
  | [], a, h, _ => by simp [AV.rens] at h
  | b :: l, a, h, hh => by
    simp only [AV.rens, List.mem_cons] at h
    rcases h with h0 | h
    · rw [h0] at hh
      obtain ⟨j, h1, h2⟩ := has_ren b hh
      exact ⟨j, b, List.mem_cons_self, h1, h2⟩
    · obtain ⟨j, c, h1, h2, h3⟩ := has_rens l a h hh
      exact ⟨j, c, List.mem_cons_of_mem _ h1, h2, h3⟩
end

/-- A state in few words; I: objects that came in. -/
def pinOf (Pn : List Oid) (i : Oid) : Option Oid := bif inO i Pn then some i else none
def mkStI (n : Nat) (l : List (Nat × AV)) (obs : List (Oid × Cells)) (I Pn : List Oid) : St := ⟨n, frOf l, obOf obs, fun i => inO i I, pinOf Pn⟩
def inStI (args : List AV) (obs : List (Oid × Cells)) : St := ⟨args.length, fun t => args.getD t .dead, obOf obs, fun i => inO i (obs.map (·.1)), pinOf (obs.map (·.1))⟩
def enStI (n : Nat) (args : List AV) (obs : List (Oid × Cells)) : St := ⟨n, fun t => args.getD t .dead, obOf obs, fun i => inO i (obs.map (·.1)), pinOf (obs.map (·.1))⟩
def outStI (r : AV) (obs : List (Oid × Cells)) (I Pn : List Oid) : St := ⟨1, fun t => bif Nat.beq t 0 then r else .dead, obOf obs, fun i => inO i I, pinOf Pn⟩
theorem Spec.ofNI {P : Program} {f : FuncId} {fn : Func} {c : Code} {args : List AV} {obs : List (Oid × Cells)} {σ' : St} {n : Nat} (hf : P.funcs[f]? = some fn) (hb : fn.body = some c) (hn : fn.ntmps = n) (hl : Nat.ble args.length n = true)
    (h : D P c (RetQ P fn σ') (enStI n args obs)) : Spec P f (inStI args obs) σ' := by
  subst hn
  refine Spec.of hf hb (Nat.le_of_ble_eq_true hl) (fun t ht => ?_) h
  simp only [inStI] at ht ⊢
  rw [List.getD_eq_getElem?_getD, List.getElem?_eq_none ht]; rfl

def AllLvI (ρ : Oid → Oid) (σ : St) (F : Oid → Bool) (I : List Oid) : List (Oid × Cells) → Prop
  | [] => True
  | (i, o) :: l => (F (ρ i) = false ∧ (∃ o2, σ.ob (ρ i) = .obj o2 ∧ LvO ρ σ F o o2) ∧ (bif inO i I then false else σ.inc (ρ i)) = false) ∧ AllLvI ρ σ F I l
theorem allLvI_mem {ρ : Oid → Oid} {σ : St} {F : Oid → Bool} {I : List Oid} : ∀ {l : List (Oid × Cells)}, AllLvI ρ σ F I l → ∀ {i o}, (i, o) ∈ l → F (ρ i) = false ∧ (∃ o2, σ.ob (ρ i) = .obj o2 ∧ LvO ρ σ F o o2) ∧ (bif inO i I then false else σ.inc (ρ i)) = false
  | [], _, i, o, h => by simp at h
  | (k, c) :: l, h, i, o, hm => by
    rcases List.mem_cons.1 hm with h0 | hm
    · obtain ⟨rfl, rfl⟩ := Prod.mk.inj h0; exact h.1
    · exact allLvI_mem h.2 hm
theorem allInc_mem {σ : St} {id : Oid} : ∀ {l : List Oid}, AllInc σ l → id ∈ l → σ.inc id = false
  | [], _, h => by simp at h
  | x :: l, hl, hm => by
    rcases List.mem_cons.1 hm with h | hm
    · rw [h]; exact hl.1
    · exact allInc_mem hl.2 hm
def AllPin (ρ : Oid → Oid) (σ : St) : List Oid → Prop
  | [] => True
  | i :: l => σ.pin (ρ i) = some i ∧ AllPin ρ σ l
theorem allPin_mem {ρ : Oid → Oid} {σ : St} {i : Oid} : ∀ {l : List Oid}, AllPin ρ σ l → i ∈ l → σ.pin (ρ i) = some i
  | [], _, h => by simp at h
  | x :: l, hl, hm => by
    rcases List.mem_cons.1 hm with h | hm
    · rw [h]; exact hl.1
    · exact allPin_mem hl.2 hm
def subO : List Oid → List Oid → Bool
  | [], _ => true
  | i :: l, L => inO i L && subO l L
theorem subO_mem {L : List Oid} {i : Oid} : ∀ {l : List Oid}, subO l L = true → i ∈ l → i ∈ L
  | [], _, h => by simp at h
  | x :: l, hl, hm => by
    simp only [subO, Bool.and_eq_true] at hl
    rcases List.mem_cons.1 hm with h | hm
    · rw [h]; exact inO_iff.1 hl.1
    · exact subO_mem hl.2 hm
theorem Le.genI {σ : St} {n : Nat} {fr : Nat → AV} {obs : List (Oid × Cells)} {I Pn : List Oid} (rn : List (Oid × Oid)) (Fz : List Oid) (hn : σ.n = n) (hfr : ∀ t, Lv (rnOf rn) σ (fun i => inO i Fz) (fr t) (σ.fr t)) (hw1 : ∀ t id, Has id (fr t) → id ∈ obs.map (·.1)) (hw2 : obsWithin (obs.map (·.1)) obs = true)
    (hd : nodupO ((obs.map (·.1)).map (rnOf rn)) = true) (hi : AllInc σ Fz) (ho : AllLvI (rnOf rn) σ (fun i => inO i Fz) I obs) (hp : AllPin (rnOf rn) σ Pn) (hs : subO Pn (obs.map (·.1)) = true) : Le ⟨n, fr, obOf obs, fun i => inO i I, pinOf Pn⟩ σ := by
  refine Le.of (rnOf rn) (fun i => inO i Fz) hn.symm (fun t _ => hfr t) (fun id o h => ?_) (fun id id' o o' h h' he => ?_) (fun id h => ?_) (fun id o h hf => ?_) (fun t id h => obOf_ne (hw1 t id h)) (fun id' o id h hh => obOf_ne (obs_has hw2 (obOf_mem h) hh)) (fun id h o hpn _ => ?_) (fun id hf => ?_)
  · exact ⟨(allLvI_mem ho (obOf_mem h)).1, (allLvI_mem ho (obOf_mem h)).2.1⟩
  · exact inj_of_nodup (rnOf rn) (nodupO_iff hd) (List.mem_map_of_mem (f := (·.1)) (obOf_mem h)) (List.mem_map_of_mem (f := (·.1)) (obOf_mem h')) he
  · exact allInc_mem hi (inO_iff.1 h)
  · have := (allLvI_mem ho (obOf_mem h)).2.2
    simp only at hf
    rw [hf] at this
    exact this
  · simp only [pinOf] at hpn
    cases hb : inO id Pn with
    | true => rw [hb] at hpn; obtain rfl := Option.some.inj hpn; exact allPin_mem hp (inO_iff.1 hb)
    | false => rw [hb] at hpn; cases hpn
  · simp only [pinOf]
    cases hb : inO id Pn with
    | true => exact absurd hf (obOf_ne (subO_mem hs (inO_iff.1 hb)))
    | false => rfl
theorem Le.mkI {σ : St} {n : Nat} {slots : List (Nat × AV)} {obs : List (Oid × Cells)} {I Pn : List Oid} (rn : List (Oid × Oid)) (Fz : List Oid) (hn : σ.n = n) (hs : AllLv (rnOf rn) σ (fun i => inO i Fz) slots) (hw1 : slotsWithin (obs.map (·.1)) slots = true) (hw2 : obsWithin (obs.map (·.1)) obs = true)
    (hd : nodupO ((obs.map (·.1)).map (rnOf rn)) = true) (hi : AllInc σ Fz) (ho : AllLvI (rnOf rn) σ (fun i => inO i Fz) I obs) (hp : AllPin (rnOf rn) σ Pn) (hsb : subO Pn (obs.map (·.1)) = true) : Le (mkStI n slots obs I Pn) σ :=
  Le.genI rn Fz hn (frOf_lv hs) (fun _ _ h => slots_has hw1 h) hw2 hd hi ho hp hsb
theorem Le.outI {σ : St} {r r' : AV} {obs : List (Oid × Cells)} {I Pn : List Oid} (rn : List (Oid × Oid)) (Fz : List Oid) (hr : Lv (rnOf rn) (retSt r σ) (fun i => inO i Fz) r' r) (hw1 : r'.within (obs.map (·.1)) = true) (hw2 : obsWithin (obs.map (·.1)) obs = true)
    (hd : nodupO ((obs.map (·.1)).map (rnOf rn)) = true) (hi : AllInc (retSt r σ) Fz) (ho : AllLvI (rnOf rn) (retSt r σ) (fun i => inO i Fz) I obs) (hp : AllPin (rnOf rn) (retSt r σ) Pn) (hsb : subO Pn (obs.map (·.1)) = true) : Le (outStI r' obs I Pn) (retSt r σ) := by
  refine Le.genI (n := 1) rn Fz rfl (fun t => ?_) (fun t id h => ?_) hw2 hd hi ho hp hsb
  · show Lv _ _ _ _ (bif Nat.beq t 0 then r else .dead)
    cases hb : Nat.beq t 0 with
    | true => exact hr
    | false => exact .dead
  · cases hb : Nat.beq t 0 with
    | true => rw [hb] at h; exact within_has r' hw1 h
    | false => rw [hb] at h; cases h

/-- What a call leaves of the caller's objects. -/
def obAfter (ρ : Oid → Oid) (outs : List (Oid × Cells)) (ins : List Oid) (ob : Oid → Slot) : Oid → Slot := fun c =>
  match outs with
  | (i, o) :: l => bif oeq c (ρ i) then .obj (o.ren ρ) else obAfter ρ l ins ob c
  | [] => bif inO c (ins.map ρ) then .gone else ob c
def incAfter (ρ : Oid → Oid) (outs : List (Oid × Cells)) (I : List Oid) (any : Bool) (inc : Oid → Bool) : Oid → Bool := fun c =>
  match outs with
  | (i, _) :: l => bif oeq c (ρ i) then (bif inO i I then any else false) else incAfter ρ l I any inc c
  | [] => inc c
def anyInc (σ : St) : List Oid → Bool
  | [] => false
  | i :: l => σ.inc i || anyInc σ l
def St.after (σ : St) (ρ : Oid → Oid) (outs : List (Oid × Cells)) (ins I : List Oid) : St :=
  { σ with ob := obAfter ρ outs ins σ.ob, inc := incAfter ρ outs I (anyInc σ (ins.map ρ)) σ.inc }
def AllFree (σ : St) (ρ : Oid → Oid) (ins : List Oid) : List (Oid × Cells) → Prop
  | [] => True
  | (i, _) :: l => ((bif inO i ins then Slot.free else σ.ob (ρ i)) = .free) ∧ AllFree σ ρ ins l
theorem allFree_mem {σ : St} {ρ : Oid → Oid} {ins : List Oid} : ∀ {l : List (Oid × Cells)}, AllFree σ ρ ins l → ∀ {i o}, (i, o) ∈ l → i ∈ ins ∨ σ.ob (ρ i) = .free
  | [], _, i, o, h => by simp at h
  | (k, c) :: l, h, i, o, hm => by
    rcases List.mem_cons.1 hm with h0 | hm
    · obtain ⟨rfl, rfl⟩ := Prod.mk.inj h0
      have := h.1
      cases hb : inO i ins with
      | true => exact .inl (inO_iff.1 hb)
      | false => rw [hb] at this; exact .inr this
    · exact allFree_mem h.2 hm

theorem obAfter_out {ρ : Oid → Oid} {ins : List Oid} {ob : Oid → Slot} : ∀ {outs : List (Oid × Cells)} {i : Oid} {o : Cells}, ((outs.map (·.1)).map ρ).Nodup → (i, o) ∈ outs → obAfter ρ outs ins ob (ρ i) = .obj (o.ren ρ)
  | [], i, o, _, h => by simp at h
  | (k, c) :: l, i, o, hn, h => by
    simp only [obAfter]
    simp only [List.map_cons, List.nodup_cons] at hn
    rcases List.mem_cons.1 h with h0 | h
    · obtain ⟨rfl, rfl⟩ := Prod.mk.inj h0
      rw [oeq_self]; rfl
    · have : ρ i ≠ ρ k := fun e => hn.1 (e ▸ List.mem_map_of_mem (List.mem_map_of_mem (f := (·.1)) h))
      rw [oeq_ne this]
      exact obAfter_out hn.2 h
theorem obAfter_other {ρ : Oid → Oid} {ins : List Oid} {ob : Oid → Slot} {c : Oid} : ∀ {outs : List (Oid × Cells)}, c ∉ (outs.map (·.1)).map ρ → obAfter ρ outs ins ob c = (bif inO c (ins.map ρ) then .gone else ob c)
  | [], _ => rfl
  | (k, o) :: l, h => by
    simp only [List.map_cons, List.mem_cons, not_or] at h
    simp only [obAfter, oeq_ne h.1, cond_false]
    exact obAfter_other h.2
theorem incAfter_out {ρ : Oid → Oid} {I : List Oid} {any : Bool} {inc : Oid → Bool} : ∀ {outs : List (Oid × Cells)} {i : Oid} {o : Cells}, ((outs.map (·.1)).map ρ).Nodup → (i, o) ∈ outs → incAfter ρ outs I any inc (ρ i) = (bif inO i I then any else false)
  | [], i, o, _, h => by simp at h
  | (k, c) :: l, i, o, hn, h => by
    simp only [incAfter]
    simp only [List.map_cons, List.nodup_cons] at hn
    rcases List.mem_cons.1 h with h0 | h
    · obtain ⟨rfl, rfl⟩ := Prod.mk.inj h0
      rw [oeq_self]; rfl
    · have : ρ i ≠ ρ k := fun e => hn.1 (e ▸ List.mem_map_of_mem (List.mem_map_of_mem (f := (·.1)) h))
      rw [oeq_ne this]
      exact incAfter_out hn.2 h
theorem incAfter_other {ρ : Oid → Oid} {I : List Oid} {any : Bool} {inc : Oid → Bool} {c : Oid} : ∀ {outs : List (Oid × Cells)}, c ∉ (outs.map (·.1)).map ρ → incAfter ρ outs I any inc c = inc c
  | [], _ => rfl
  | (k, o) :: l, h => by
    simp only [List.map_cons, List.mem_cons, not_or] at h
    simp only [incAfter, oeq_ne h.1, cond_false]
    exact incAfter_other h.2
theorem anyInc_false {σ : St} : ∀ {l : List Oid}, anyInc σ l = false → ∀ i ∈ l, σ.inc i = false
  | [], _, i, h => by simp at h
  | x :: l, h, i, hm => by
    simp only [anyInc, Bool.or_eq_false_iff] at h
    rcases List.mem_cons.1 hm with h0 | hm
    · rw [h0]; exact h.1
    · exact anyInc_false h.2 i hm
theorem obOf_of_mem : ∀ {l : List (Oid × Cells)} {i : Oid} {o : Cells}, (l.map (·.1)).Nodup → (i, o) ∈ l → obOf l i = .obj o
  | [], i, o, _, h => by simp at h
  | (k, c) :: l, i, o, hn, h => by
    simp only [List.map_cons, List.nodup_cons] at hn
    simp only [obOf]
    rcases List.mem_cons.1 h with h0 | h
    · obtain ⟨rfl, rfl⟩ := Prod.mk.inj h0
      rw [oeq_self]; rfl
    · have : i ≠ k := fun e => hn.1 (e ▸ List.mem_map_of_mem (f := (·.1)) h)
      rw [oeq_ne this]
      exact obOf_of_mem hn.2 h
theorem obOf_free : ∀ {l : List (Oid × Cells)} {i : Oid}, obOf l i ≠ .free → ∃ o, (i, o) ∈ l
  | [], i, h => absurd rfl h
  | (k, c) :: l, i, h => by
    simp only [obOf] at h
    cases hb : oeq i k with
    | true => rw [oeq_iff.1 hb]; exact ⟨c, List.mem_cons_self⟩
    | false =>
      rw [hb] at h
      obtain ⟨o, ho⟩ := obOf_free (l := l) (i := i) (by simpa using h)
      exact ⟨o, List.mem_cons_of_mem _ ho⟩
end Go.Proofs.Ytphlaojoehmhaaa
