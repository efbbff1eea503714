/- The machine's library, part 6. No program text. -/
import Derived.Test.YtkbkmngbenohkaaOwM5
import Derived.RangeFuncNested
set_option linter.unusedSimpArgs false
set_option linter.unusedVariables false
namespace Go.Proofs.Ytkbkmngbenohkaa
open Go.RowKit

/-- An object that lies in cells. -/
def Cells.flat : Cells → Bool
  | .row _ _ _ => true
  | .box _ _ => true
  | .rowA _ _ _ => true
  | _ => false

theorem wpIn_room {r : Option Nat} {n m : Nat} {P : Program} {c : Code} {Q : Exit → Act → World → Prop} {a : Act} {w : World} (h : c.wpIn (WF r) n P Q a w) : c.wpIn (WF r) m P Q a w :=
  fun b k cs hro hb _ => h b k cs hro hb (WF.roomy _ _)

theorem Rep.cells' {ι : Oid → Option Blk} {S : Nat → Prop} {w : World} {a : AV} {x : Value} (h : Rep ι S w a x) : Rep ι (fun g => SC S w g) w a x := by
  induction h with
  | dead => exact .dead
  | v => exact .v
  | sl h => exact .sl h.cells
  | fp h => exact .fp h.cells
  | ref h h1 => exact .ref h h1
  | ptr h h1 => exact .ptr h h1
  | agg h1 h2 h ih => exact .agg h1 h2 ih
  | fn h1 h2 h3 h4 i3 i4 => exact .fn h1 h2 i3 i4
  | ifc h ih => exact .ifc ih
  | z => exact .z
  | mp h h1 => exact .mp h h1
  | tup h1 h ih => exact .tup h1 ih
theorem RowOk.imp {w : World} {B : Blk} {e : TypeId} {n : Nat} {R R' : Nat → Value → Prop} (h : RowOk w B e n R) (hR : ∀ j u, R j u → R' j u) : RowOk w B e n R' := h.next (fun _ _ => rfl) hR
theorem ObjOk.cells' {ι : Oid → Option Blk} {S : Nat → Prop} {w : World} {id : Oid} {o : Cells} (h : ObjOk ι S w id o) : ObjOk ι (fun g => SC S w g) w id o := by
  cases o with
  | row e sz xs => obtain ⟨B, h1, h2, h3⟩ := h; exact ⟨B, h1, h2, h3.imp fun j u hu p hp => (hu p hp).cells⟩
  | box e xs => obtain ⟨B, g, h1, h2, h3, h4⟩ := h; exact ⟨B, g, h1, h2, h3, h4.imp fun j u hu p hp => (hu p hp).cells'⟩
  | rowA e sz xs => obtain ⟨B, h1, h2, h3⟩ := h; exact ⟨B, h1, h2, h3.imp fun j u hu p hp => (hu p hp).cells'⟩
  | mp es clock => exact h
  | it m since seen stepped => exact h
theorem RelI.cells' {K : Ctx} {ι : Oid → Option Blk} {S : Nat → Prop} {σ : St} {a : Act} {w : World} (R : RelI K ι S σ a w) : RelI K ι (fun g => SC S w g) σ a w :=
  ⟨R.keeps, fun g h => R.S0 g h.1, fun g h => R.Slt g h.1, R.nt, ⟨R.df.1, fun d hd => let ⟨r, h1, h2, h3, h4⟩ := R.df.2 d hd; ⟨r, h1, h2, h3, fun h => h4 h.1⟩⟩, fun t ht => (R.fr t ht).cells', R.cl, R.clo, fun id o ho => (R.ob id o ho).cells', R.dom, R.inj,
    fun id B g h1 h2 => let ⟨s1, s2, s3⟩ := R.sep id B g h1 h2; ⟨fun h => s1 h.1, s2, s3⟩, R.pin, R.pf⟩
/-- Where a flat object lies there are cells. -/
theorem ObjOk.flat {ι : Oid → Option Blk} {S : Nat → Prop} {w : World} {id : Oid} {o : Cells} {B : Blk} {g : Nat} (h : ObjOk ι S w id o) (hf : o.flat = true) (h1 : ι id = some B) (h2 : B.g = some g) : ∃ c e f, w.heap[g]? = some (.cells c e f) := by
  have key : ∀ {e n} {R' : Nat → Value → Prop}, RowOk w B e n R' → ∃ c e f, w.heap[g]? = some (.cells c e f) := by
    intro e n R' hr
    rcases hr with ⟨h, _⟩ | ⟨g', cur, h, hh, _⟩
    · rw [h2] at h; cases h
    · rw [h2] at h
      obtain rfl := Option.some.inj h
      exact ⟨_, _, _, hh⟩
  cases o with
  | row e sz xs =>
    obtain ⟨B', h1', _, h3⟩ := h
    rw [h1] at h1'
    obtain rfl := Option.some.inj h1'
    exact key h3
  | box e xs =>
    obtain ⟨B', g', h1', _, _, h3⟩ := h
    rw [h1] at h1'
    obtain rfl := Option.some.inj h1'
    exact key h3
  | rowA e sz xs =>
    obtain ⟨B', h1', _, h3⟩ := h
    rw [h1] at h1'
    obtain rfl := Option.some.inj h1'
    exact key h3
  | mp es clock => cases hf
  | it m since seen stepped => cases hf
/-- A change elsewhere. -/
theorem RelI.away {K : Ctx} {ι : Oid → Option Blk} {S : Nat → Prop} {σ : St} {a : Act} {w w' : World} (R : RelI K ι S σ a w) (hd : a.defers = []) (hk : Keeps K.own K.w0 w') (hsz : w.heap.size ≤ w'.heap.size) (hS : ∀ g, S g → w'.heap[g]? = w.heap[g]?) (ho : ∀ id B g, ι id = some B → B.g = some g → w'.heap[g]? = w.heap[g]?) : RelI K ι S σ a w' :=
  ⟨hk, R.S0, fun g h => Nat.lt_of_lt_of_le (R.Slt g h) hsz, R.nt, by rw [hd]; exact .nil, fun t ht => (R.fr t ht).next hS (fun _ h => h) fun _ _ _ h => h, R.cl, R.clo, fun id o h => (R.ob id o h).next rfl (fun B g h1 h2 => ho id B g h1 h2) hS (fun _ h => h) fun _ _ _ h => h, R.dom, R.inj, R.sep, R.pin, R.pf⟩

/-- An iterator over data: called with a loop's yield it hands on zs, one after another. -/
def SeqOk {α : Type} (P : Program) (gf : FuncId) (cap : PV) (encs : α → Array Value) (zs : List α) : Prop :=
  ∀ (S : Nat → Prop) (lb : Array Value) (w : World), (∀ g, S g → g < w.heap.size) → lb.size = 1 → Rd S w cap (lb.getD 0 undef) →
    SeqStopsK (WF none) 1 P gf lb encs (fun A B => ∀ g, S g → B.heap[g]? = A.heap[g]?) (fun xs => xs = zs) (fun _ => True) zs.length w

def allFlat : List (Oid × Cells) → Bool
  | [] => true
  | (_, o) :: l => o.flat && allFlat l
theorem allFlat_mem : ∀ {l : List (Oid × Cells)}, allFlat l = true → ∀ {i o}, (i, o) ∈ l → o.flat = true
  | [], _, _, _, h => by simp at h
  | (k, c) :: l, h, i, o, hm => by
    simp only [allFlat, Bool.and_eq_true] at h
    rcases List.mem_cons.1 hm with h0 | hm
    · obtain ⟨rfl, rfl⟩ := Prod.mk.inj h0; exact h.1
    · exact allFlat_mem h.2 hm
def putsV : List (Nat × Value) → Act → Act
  | [], a => a
  | (t, v) :: l, a => putsV l (a.put (some t) v)
def putsS : List (Nat × Value) → St → St
  | [], σ => σ
  | (t, v) :: l, σ => putsS l (σ.put (some t) (.v v))
theorem RelI.puts {K : Ctx} {ι : Oid → Option Blk} {S : Nat → Prop} {w : World} : ∀ (l : List (Nat × Value)) {σ : St} {a : Act}, RelI K ι S σ a w → RelI K ι S (putsS l σ) (putsV l a) w
  | [], _, _, R => R
  | (t, v) :: l, _, _, R => RelI.puts l (R.put (some t) (av := .v v) .v fun i hi => noHasV hi)

theorem cells_ne {W : World} {g : Nat} {o : Obj} (h : ∃ c e f, W.heap[g]? = some (.cells c e f)) (ho : W.heap[g]? = some o) (hn : o.isCells = false) : False := by
  obtain ⟨c, e, f, h⟩ := h
  rw [ho] at h
  obtain rfl := Option.some.inj h
  cases hn

/-- A loop over a function: its rounds begin with the slots as they stood ahead of the loop. -/
theorem D_rangeF {α : Type} {P : Program} {Q : Exit → St → Prop} {g : Operand} {ps : Array Tmp} {assign body : Code} {gf : FuncId} (C : Cbl P gf) {n : Nat} {slots : List (Nat × AV)} {off : Nat} {xs : List PV} (obs : List α → List (Oid × Cells)) (I : List Oid) (encs : α → Array Value) (zs : List α) (ups : α → List (Nat × Value))
    (hgv : (mkStI n slots (obs []) [] []).eval g = .fn (.func gf) [] [.fp off xs]) (hseq : SeqOk P gf (.ptr off xs) encs zs) (hps : ∀ x, (encs x).size = ps.size)
    (hasg : ∀ (l : Nat) (x : α) (a : Act) (W : World) (K : Act → World → Prop), a.tmps.size = n → K (putsV (ups x) { a with defers := [] }) W → assign.wpIn (WF (some l)) 0 P (Exit.then K (fun _ _ _ => False)) { tmps := (ps.zip (encs x)).foldl (fun t (p, v) => t.setIfInBounds p v) a.tmps, defers := [] } W)
    (hid : ∀ pre, (obs pre).map (·.1) = I) (hfl : ∀ pre, allFlat (obs pre) = true) (hsl : slotsWithin I slots = true)
    (round : ∀ pre x, D false P body (thenQ (fun σ' => Le (mkStI n [] (obs (pre ++ [x])) I I) σ') (fun _ _ => False)) (putsS (ups x) (mkStI n slots (obs pre) I I)))
    (done : Q .normal (mkStI n slots (obs zs) [] [])) : D true P (.rangeFunc g ps assign body) Q (mkStI n slots (obs []) [] []) := by
  rintro K a w hrd ⟨ι0, S0, R0⟩
  rw [hrd rfl]
  have hgr := R0.eval g
  rw [hgv] at hgr
  generalize hge : a.eval g = u at hgr
  cases hgr with
  | fn h1 h2 h3 h4 =>
  rename_i us vs
  have hus : us = #[] := Array.eq_empty_of_size_eq_zero (by simpa using h1)
  subst hus
  have hcap : Rd S0 w (.ptr off xs) (vs.getD 0 undef) := by
    have := h4 0 _ rfl
    generalize vs.getD 0 undef = v at this
    cases this with
    | fp h => exact h
  have hlive : ∀ (pre : List α) (id : Oid) (o : Cells), obOf (obs pre) id = .obj o → id ∈ I := fun pre id o h => by rw [← hid pre]; exact List.mem_map_of_mem (f := (·.1)) (obOf_mem h)
  have hfree : ∀ (pre : List α) (id : Oid), id ∈ I → obOf (obs pre) id ≠ .free := fun pre id h => by rw [← hid pre] at h; exact obOf_ne h
  have hgone : ∀ (pre : List α) (id : Oid), id ∈ I → ∃ o, obOf (obs pre) id = .obj o := fun pre id h => by
    have key : ∀ l : List (Oid × Cells), obOf l id ≠ .free → ∃ o, obOf l id = .obj o := by
      intro l
      induction l with
      | nil => intro h; exact absurd rfl h
      | cons p l ih =>
        obtain ⟨k, c⟩ := p
        simp only [obOf]
        cases oeq id k with
        | true => intro _; exact ⟨c, rfl⟩
        | false => intro h; exact ih h
    exact key _ (hfree pre id h)
  have hpinI : ∀ id h, pinOf I id = some h → h = id ∧ id ∈ I := fun id h hp => by
    simp only [pinOf] at hp
    cases hb : inO id I with
    | true => rw [hb] at hp; exact ⟨(Option.some.inj hp).symm, inO_iff.1 hb⟩
    | false => rw [hb] at hp; cases hp
  have hpinI' : ∀ id, id ∈ I → pinOf I id = some id := fun id h => by simp only [pinOf, inO_iff.2 h, cond_true]
  have hpfI : ∀ (pre : List α) (id : Oid), obOf (obs pre) id = .free → pinOf I id = none := fun pre id h => by
    simp only [pinOf]
    cases hb : inO id I with
    | true => exact absurd h (hfree pre id (inO_iff.1 hb))
    | false => rfl
  have hflat : ∀ (pre : List α) (id : Oid) (o : Cells), obOf (obs pre) id = .obj o → o.flat = true := fun pre id o h => allFlat_mem (hfl pre) (obOf_mem h)
  let K1 : Ctx := ⟨w, fun g => ∃ id B, ι0 id = some B ∧ B.g = some g, S0, ι0, none⟩
  have hown1 : ∀ g, K1.own g → ¬ S0 g ∧ K.w0.heap.size ≤ g := fun g ⟨id, B, a1, a2⟩ => ⟨(R0.sep id B g a1 a2).1, (R0.sep id B g a1 a2).2.2 rfl⟩
  have R1 : RelI K1 ι0 S0 (mkStI n slots (obs []) I I) { a with defers := [] } w :=
    ⟨Keeps.refl _ _, fun g h => .inl h, R0.Slt, R0.nt, .nil, R0.fr, R0.cl, R0.clo, R0.ob, R0.dom, R0.inj, fun id B g a1 a2 => ⟨(R0.sep id B g a1 a2).1, .inl ⟨id, B, a1, a2⟩, fun hf => by
      obtain ⟨o, ho⟩ := R0.dom id B a1
      have := inO_iff.2 (hlive [] id o ho)
      simp only [mkStI] at hf
      rw [this] at hf; cases hf⟩, fun id h o hp ho => by obtain ⟨rfl, _⟩ := hpinI id h hp; rfl, hpfI []⟩
  refine wpIn_room (n := 2) (wpIn_rangeFunc_ownG (F := WF none) rfl (by omega) hge trivial C.out (hseq S0 vs w R0.Slt (by simpa using h2) hcap) (fun h h' g hg => (h' g hg).trans (h g hg)) (fun W l o o' hl _ _ _ g hg => World.putObj_heap_other (by have := R0.Slt g hg; omega)) (Below.refl _ _) hps
    (fun pre W => ∃ ι S, RelI K1 ι S (mkStI n slots (obs pre) I I) { a with defers := [] } W) (fun _ _ _ => False) ?hI (fun _ _ _ _ _ h _ _ => h) ⟨ι0, S0, R1⟩ (fun x => putsV (ups x) { a with defers := [] }) (fun l x W K hK => hasg l x a W K R0.nt hK) ?hbody ?hdone (fun D c pre W _ _ h _ => h.elim))
  case hI =>
    rintro pre A A' row ⟨ι, S, R⟩ hg hr
    have R' := R.cells'
    have hsafe : ∀ k, (∃ c e f, A.heap[k]? = some (Obj.cells c e f)) → A'.heap[k]? = A.heap[k]? := fun k hc => by
      refine hg.block k ?_ fun e => ?_
      · obtain ⟨c, e, f, hc⟩ := hc; exact (Array.getElem?_eq_some_iff.1 hc).1
      · obtain ⟨_, o, ho, hn⟩ := hr k e.symm
        exact cells_ne hc ho hn
    refine ⟨ι, _, R'.away rfl ⟨hg.os.trans R.keeps.os, hg.tape.trans R.keeps.tape, hg.output.trans R.keeps.output, Nat.le_trans R.keeps.size hg.size, fun k hk hn => (hg.block k (Nat.lt_of_lt_of_le hk R.keeps.size) fun e => ?_).trans (R.keeps.block k hk hn)⟩ hg.size (fun k hk => hsafe k hk.2) fun id B k b1 b2 => ?_⟩
    · have := (hr k e.symm).1
      have hk' : k < w.heap.size := hk
      omega
    · obtain ⟨o, ho⟩ := R.dom id B b1
      exact hsafe k ((R.ob id o ho).flat (hflat pre id o ho) b1 b2)
  case hbody =>
    rintro l pre x W ⟨ι, S, R⟩ _
    let K2 : Ctx := ⟨W, fun g => ∃ id B, ι id = some B ∧ B.g = some g, S, ι, some l⟩
    have R2 : RelI K2 ι S (mkStI n slots (obs pre) I I) { a with defers := [] } W :=
      ⟨Keeps.refl _ _, fun g h => .inl h, R.Slt, R.nt, .nil, R.fr, R.cl, R.clo, R.ob, R.dom, R.inj, fun id B g a1 a2 => ⟨(R.sep id B g a1 a2).1, .inl ⟨id, B, a1, a2⟩, fun hf => by
        obtain ⟨o, ho⟩ := R.dom id B a1
        have := inO_iff.2 (hlive pre id o ho)
        simp only [mkStI] at hf
        rw [this] at hf; cases hf⟩, fun id h o hp ho => by obtain ⟨rfl, _⟩ := hpinI id h hp; rfl, hpfI pre⟩
    have hown2 : ∀ g, K2.own g → (∃ c e f, W.heap[g]? = some (Obj.cells c e f)) ∧ ¬ S g ∧ (K1.own g ∨ w.heap.size ≤ g) := fun g ⟨id, B, a1, a2⟩ => by
      obtain ⟨o, ho⟩ := R.dom id B a1
      exact ⟨(R.ob id o ho).flat (hflat pre id o ho) a1 a2, (R.sep id B g a1 a2).1, (R.sep id B g a1 a2).2.1⟩
    have hw := round pre x K2 (putsV (ups x) { a with defers := [] }) W (fun h => by cases h) ⟨ι, S, R2.puts (ups x)⟩
    refine wpIn_mono hw ?_
    rintro e a' W' ⟨σ', ⟨ι3, S3, R3⟩, hq⟩
    cases e with
    | normal =>
      obtain ⟨ι4, S4, R4⟩ := hq K2 ι3 S3 a' W' R3
      have hpin4 : ∀ id, id ∈ I → ι4 id = ι id := fun id h => by
        obtain ⟨o, ho⟩ := hgone (pre ++ [x]) id h
        exact R4.pin id id o (hpinI' id h) ho
      have hS : ∀ g, S g → W'.heap[g]? = W.heap[g]? := fun g hg => R4.keeps.block g (R.Slt g hg) fun h => (hown2 g h).2.1 hg
      refine ⟨⟨R4.keeps.size, fun k o _ hk ho => (R4.keeps.block k (Array.getElem?_eq_some_iff.1 hk).1 fun h => cells_ne (hown2 k h).1 hk ho).trans hk⟩, fun g hg => R4.keeps.block g (Nat.lt_of_lt_of_le (R0.Slt g hg) R.keeps.size) fun h => ?_, ι4, fun g => S4 g ∨ S g, ?_⟩
      · rcases (hown2 g h).2.2 with h | h
        · exact (hown1 g h).1 hg
        · have := R0.Slt g hg; omega
      · refine ⟨R.keeps.trans R4.keeps fun g hg h => (hown2 g h).2.2.resolve_right (by have hg' : g < w.heap.size := hg; omega), fun g hg => ?_, fun g hg => ?_, R.nt, .nil, fun t ht => (R.fr t ht).next hS (fun _ h => .inr h) fun id B hb hB => ?_, fun t id hb => hfree _ id (slots_has hsl hb), R4.clo, fun id o ho => (R4.ob id o ho).next rfl (fun _ _ _ _ => rfl) (fun _ _ => rfl) (fun _ h => .inl h) fun _ _ _ h => h, R4.dom, R4.inj, fun id B g a1 a2 => ?_, fun id h o hp ho => ?_, R4.pf⟩
        · rcases hg with hg | hg
          · rcases R4.S0 g hg with h | h
            · exact R.S0 g h
            · exact .inr (Nat.le_trans R.keeps.size h)
          · exact R.S0 g hg
        · rcases hg with hg | hg
          · exact R4.Slt g hg
          · exact Nat.lt_of_lt_of_le (R.Slt g hg) R4.keeps.size
        · rw [← hpin4 id (slots_has hsl hb)]; exact hB
        · obtain ⟨o, ho⟩ := R4.dom id B a1
          have hm := hlive _ id o ho
          have a1' := a1
          rw [hpin4 id hm] at a1'
          refine ⟨fun h => ?_, (R.sep id B g a1' a2).2.1, fun hf => ?_⟩
          · rcases h with h | h
            · exact (R4.sep id B g a1 a2).1 h
            · exact (R.sep id B g a1' a2).1 h
          · simp only [mkStI] at hf
            rw [inO_iff.2 hm] at hf; cases hf
        · obtain ⟨rfl, hm⟩ := hpinI id h hp
          rw [hpin4 h hm]
          obtain ⟨o', ho'⟩ := hgone pre h hm
          exact R.pin h h o' (hpinI' h hm) ho'
    | _ => exact hq.elim
  case hdone =>
    rintro D xs W hD rfl ⟨ι, S, R⟩ hDd
    have R' := R.cells'
    refine ⟨mkStI n slots (obs xs) [] [], ⟨ι, _, ⟨R0.keeps.trans R.keeps fun g hg h => absurd (hown1 g h).2 (by omega), fun g hg => ?_, R'.Slt, R.nt, ⟨?_, fun d hd => ?_⟩, R'.fr, R.cl, R.clo, R'.ob, R.dom, R.inj, fun id B g a1 a2 => ⟨(R'.sep id B g a1 a2).1, ?_⟩, fun id h o hp => (by cases hp), fun _ _ => rfl⟩⟩, done⟩
    · rcases R'.S0 g hg with h | h
      · exact R0.S0 g h
      · exact .inr (Nat.le_trans R0.keeps.size h)
    · refine List.nodup_cons.2 ⟨fun hm => ?_, R0.df.1⟩
      obtain ⟨r, b1, b2, _⟩ := R0.df.2 _ hm
      simp only [Deferred.mk.injEq, Target.collected.injEq, and_true] at b1
      have := (Array.getElem?_eq_some_iff.1 b2).1
      omega
    · rcases List.mem_cons.1 hd with rfl | hd
      · refine ⟨D, rfl, hDd, Nat.le_trans R0.keeps.size hD, fun h => cells_ne h.2 hDd rfl⟩
      · obtain ⟨r, b1, b2, b3, b4⟩ := R0.df.2 d hd
        have hr : W.heap[r]? = some (.deferred (some [])) := (R.keeps.block r (Array.getElem?_eq_some_iff.1 b2).1 fun ⟨id, B, c1, c2⟩ => by
          obtain ⟨o, ho⟩ := R0.dom id B c1
          obtain ⟨y, h6, h7⟩ := (R0.ob id o ho).at c1 c2
          rw [b2] at h6
          exact h7 _ (Option.some.inj h6).symm).trans b2
        exact ⟨r, b1, hr, b3, fun h => cells_ne h.2 hr rfl⟩
    · have : K.w0.heap.size ≤ g := by
        rcases (R.sep id B g a1 a2).2.1 with h | h
        · exact (hown1 g h).2
        · exact Nat.le_trans R0.keeps.size h
      exact ⟨.inr this, fun _ => this⟩
/-- The rounds' variables: two come, one is kept. -/
theorem asg2 {α : Type} {P : Program} {n id p1 p2 d : Nat} {ty : TypeId} {pos : String} (v1 v2 : α → Value) (h2 : Nat.blt p2 n = true) (hne : Nat.beq p2 p1 = false) (l : Nat) (x : α) (a : Act) (W : World) (K : Act → World → Prop) (hn : a.tmps.size = n)
    (hK : K (putsV [(p1, v1 x), (p2, v2 x), (d, v2 x)] { a with defers := [] }) W) :
    (Code.region id #[⟨some d, .assign (.tmp p2), ty, pos, #[], none⟩] false).wpIn (WF (some l)) 0 P (Exit.then K (fun _ _ _ => False)) { tmps := (#[p1, p2].zip ((fun x => #[v1 x, v2 x]) x)).foldl (fun t (p, v) => t.setIfInBounds p v) a.tmps, defers := [] } W := by
  have hp : p2 < n := blt_iff.1 h2
  refine wpIn_region_lit (wpListIn_plain rfl fun Kx hKx => wpIn_of_yields (Post := fun v w' => v = v2 x ∧ w' = W) ?_ ?_)
  · refine yields_value (w' := W) (v := v2 x) ?_ ⟨rfl, rfl⟩
    have : (({ tmps := (#[p1, p2].zip #[v1 x, v2 x]).foldl (fun t (p, v) => t.setIfInBounds p v) a.tmps, defers := [] } : Act).eval (.tmp p2)) = v2 x := by
      simp [Act.eval, hn, hp]
    simp only [execOp]
    rw [this]
    rfl
  · rintro v w' ⟨rfl, rfl⟩
    refine hKx _ _ (wpListIn_nil ?_)
    show K _ w'
    simpa [putsV, Act.put] using hK
theorem inO_head {i : Oid} {l : List Oid} : inO i (i :: l) = true := inO_iff.2 List.mem_cons_self
/-- What an operation of a drawn head alone turns stands as it stood. -/
theorem mix_own {σ τ : St} {W : List Nat} {I own : List Oid} {ops : List Oper} {rs : List Res} {dp : List Nat} {i : Oid} {s : Slot} (hd : depOb rs dp 0 i = none) (ho : inO i own = true) (hs : σ.ob i = s) : (mixSt σ W I own ops rs dp τ).ob i = s := by
  simp only [mixSt, hd, ho, Bool.not_true, Bool.and_false, cond_false]
  exact hs
theorem rep_nil (n : Nat) : (rep n [Value.slice none 0 0]).map AV.v = List.replicate n (.v (.slice none 0 0)) := by
  induction n with
  | zero => rfl
  | succ n ih =>
    rw [List.replicate_succ, ← ih]
    simp [rep, List.replicate_succ]
end Go.Proofs.Ytkbkmngbenohkaa

namespace Go.Proofs.Ytkbkmngbenohkaa
open Go.RowKit

/-- A slot's pointer is only read from here on. -/
theorem Le.frzPt {σ : St} (t : Nat) {id : Oid} {off : Nat} {e : TypeId} {xs : List AV} {ys : List PV} (hr : σ.fr t = .ptr id off) (hid : σ.ob id = .obj (.box e xs)) (hi : σ.inc id = false) (hy : downs xs = some ys) :
    Le ((σ.setOb id .gone).put (some t) (.fp off ys)) σ := by
  intro K ι S a w R
  have hob : ∀ i o, ((σ.setOb id .gone).put (some t) (.fp off ys)).ob i = .obj o → oeq i id = false ∧ σ.ob i = .obj o := by
    intro i o h
    rw [St.put_ob] at h
    simp only [St.setOb] at h
    cases hb : oeq i id with
    | true => rw [hb] at h; cases h
    | false => rw [hb] at h; exact ⟨rfl, h⟩
  have hnf : ∀ i, σ.ob i ≠ .free → ((σ.setOb id .gone).put (some t) (.fp off ys)).ob i ≠ .free := by
    intro i h h'
    rw [St.put_ob] at h'
    simp only [St.setOb] at h'
    cases hb : oeq i id with
    | true => rw [hb] at h'; cases h'
    | false => rw [hb] at h'; exact h h'
  refine Le.of (fun i => i) (fun i => oeq i id) (by rw [St.put_n]; rfl) (fun u hu => ?_) (fun i o h => ?_) (fun _ _ _ _ _ _ h => h) (fun i h => ?_) (fun i o h h' => ?_) (fun u i h => ?_) (fun i o j h h' => ?_) (fun i h o hp ho => ?_) (fun i h => ?_) K ι S a w R
  · show Lv _ _ _ (bif Nat.beq u t then _ else σ.fr u) _
    cases hb : Nat.beq u t with
    | true => rw [Nat.eq_of_beq_eq_true hb, hr]; exact .frzP hid (oeq_self id) hy
    | false => exact Lv.same _
  · obtain ⟨h1, h2⟩ := hob i o h
    exact ⟨h1, o, h2, LvO.same o⟩
  · rw [oeq_iff.1 h]; exact hi
  · exact h'
  · replace h : Has i (bif Nat.beq u t then _ else σ.fr u) := h
    cases hb : Nat.beq u t with
    | true => rw [hb] at h; cases h
    | false => rw [hb] at h; exact hnf i (R.cl u i h)
  · exact hnf j (R.clo i o j (hob i o h).2 h')
  · exact hp
  · refine R.pf i ?_
    rw [St.put_ob] at h
    simp only [St.setOb] at h
    cases hb : oeq i id with
    | true => rw [hb] at h; cases h
    | false => rw [hb] at h; exact h

theorem Stp.le {P : Program} {d : Option Tmp} {op : Op} {ty : TypeId} {σ σ1 σ2 : St} (h : Stp P d op ty σ σ1) (hl : Le σ2 σ1) : Stp P d op ty σ σ2 := by
  intro o h1 h2 h3 K ι S a w R
  have h4 := h o h1 h2 h3 K ι S a w R
  unfold Yields at h4 ⊢
  generalize (execOp a.eval o).run P w = r at h4 ⊢
  match r, h4 with
  | .ok (.value v) w', ⟨ι', S', R'⟩ => exact hl K ι' S' _ _ R'
  | .ok .skip w', ⟨ι', S', R'⟩ => exact hl K ι' S' _ _ R'
  | .ok (.enter f args) w', h5 => exact h5.mono fun e w'' ⟨v, he, ι', S', R'⟩ => ⟨v, he, hl K ι' S' _ _ R'⟩
end Go.Proofs.Ytkbkmngbenohkaa

namespace Go.Proofs.Ytkbkmngbenohkaa
open Go.RowKit

section
variable {σ : St} {F : Oid → Bool} {b : AV}
theorem iV {x : Value} (h : b = .v x) : Lv (rnOf []) σ F (.v x) b := lv_idE h
theorem iS {n : Nat} {xs : List PV} (h : b = .sl n xs) : Lv (rnOf []) σ F (.sl n xs) b := lv_idE h
theorem iR {id : Oid} {off n : Nat} (h : b = .ref id off n) : Lv (rnOf []) σ F (.ref id off n) b := lv_idE h
theorem iP {id : Oid} {off : Nat} (h : b = .ptr id off) : Lv (rnOf []) σ F (.ptr id off) b := lv_idE h
theorem iF {off : Nat} {xs : List PV} (h : b = .fp off xs) : Lv (rnOf []) σ F (.fp off xs) b := lv_idE h
theorem iA {xs : List AV} (h : b = .agg xs) : Lv (rnOf []) σ F (.agg xs) b := lv_idE h
theorem iN {f : Fn} {xs ys : List AV} (h : b = .fn f xs ys) : Lv (rnOf []) σ F (.fn f xs ys) b := lv_idE h
theorem iI {t : TypeId} {x : AV} (h : b = .ifc t x) : Lv (rnOf []) σ F (.ifc t x) b := lv_idE h
theorem iT {xs : List AV} (h : b = .tup xs) : Lv (rnOf []) σ F (.tup xs) b := lv_idE h
theorem iM {id : Oid} (h : b = .mp id) : Lv (rnOf []) σ F (.mp id) b := lv_idE h
theorem iZ (h : b = .z) : Lv (rnOf []) σ F .z b := lv_idE h
theorem iD (h : b = .dead) : Lv (rnOf []) σ F .dead b := lv_idE h
end

/-- What a condition says in plain words, where it holds and where it does not. -/
class BoolP (b : Bool) (p q : outParam Prop) : Prop where
  t : b = true → p
  f : b = false → q
instance (priority := 10) boolAny (b : Bool) : BoolP b (b = true) (b = false) := ⟨id, id⟩
instance (priority := 20) boolDec (p : Prop) [Decidable p] : BoolP (decide p) p (¬ p) := ⟨of_decide_eq_true, of_decide_eq_false⟩
instance boolLt (a b : Int) [Decidable (a < b)] : BoolP (decide (a < b)) (a < b) (b ≤ a) := ⟨of_decide_eq_true, fun h => Int.not_lt.1 (of_decide_eq_false h)⟩
instance boolLe (a b : Int) [Decidable (a ≤ b)] : BoolP (decide (a ≤ b)) (a ≤ b) (b < a) := ⟨of_decide_eq_true, fun h => Int.not_le.1 (of_decide_eq_false h)⟩
instance boolEq (a b : Int) : BoolP (a == b) (a = b) (¬ a = b) := ⟨beq_iff_eq.1, beq_eq_false_iff_ne.1⟩
instance boolNe (a b : Int) : BoolP (a != b) (¬ a = b) (a = b) := ⟨bne_iff_ne.1, bne_eq_false_iff_eq.1⟩
instance boolNot (b : Bool) (p q : Prop) [h : BoolP b p q] : BoolP (!b) q p := ⟨fun e => h.f (by simpa using e), fun e => h.t (by simpa using e)⟩
instance boolAnd (a b : Bool) (p q p' q' : Prop) [h : BoolP a p q] [h' : BoolP b p' q'] : BoolP (a && b) (p ∧ p') ((a && b) = false) := ⟨fun e => by rw [Bool.and_eq_true] at e; exact ⟨h.t e.1, h'.t e.2⟩, id⟩
instance boolOr (a b : Bool) (p q p' q' : Prop) [h : BoolP a p q] [h' : BoolP b p' q'] : BoolP (a || b) (p ∨ p') ((a || b) = false) := ⟨fun e => by rw [Bool.or_eq_true] at e; exact e.imp h.t h'.t, id⟩
theorem D_splitC {rb : Bool} {P : Program} {Q : Exit → St → Prop} {σ : St} {x : Operand} {t e : Code} {b : Bool} {p q : Prop} [h : BoolP b p q] (hx : σ.eval x = .v (.bool b)) (h1 : p → D rb P t Q σ) (h2 : q → D rb P e Q σ) : D rb P (.cond x t e) Q σ :=
  D_split hx (fun e => h1 (h.t e)) (fun e => h2 (h.f e))
theorem DL_caseC {rb : Bool} {P : Program} {Q : Exit → St → Prop} {σ : St} {ops : Array Oper} {rest : List Oper} {d : Nat} {b : Bool} {p q : Prop} [h : BoolP b p q] (h1 : p → DL rb P ops Q rest (σ.put (some d) (.v (.bool true)))) (h2 : q → DL rb P ops Q rest (σ.put (some d) (.v (.bool false)))) : DL rb P ops Q rest (σ.put (some d) (.v (.bool b))) :=
  DL_caseB (fun e => h1 (h.t e)) (fun e => h2 (h.f e))
end Go.Proofs.Ytkbkmngbenohkaa
