/- The machine's library, part 11. No program text. -/
import Derived.Test.YtkbkmngbenohkaaOwM6
set_option linter.unusedSimpArgs false
set_option linter.unusedVariables false
namespace Go.Proofs.Ytkbkmngbenohkaa
open Go.RowKit

/-- A loop over a function: its rounds begin with the slots as they stood ahead of the loop. -/
theorem D_rangeFI {α : Type} {P : Program} {Q : Exit → St → Prop} {g : Operand} {ps : Array Tmp} {assign body : Code} {gf : FuncId} (C : Cbl P gf) {n : Nat} {slots : List (Nat × AV)} {off : Nat} {xs : List PV} (obs : List α → List (Oid × Cells)) (I I0 P0 : List Oid) (hP : P0.all (fun i => inO i I) = true) (encs : α → Array Value) (zs : List α) (ups : α → List (Nat × Value))
    (hgv : (mkStI n slots (obs []) I0 P0).eval g = .fn (.func gf) [] [.fp off xs]) (hseq : SeqOk P gf (.ptr off xs) encs zs) (hps : ∀ x, (encs x).size = ps.size)
    (hasg : ∀ (l : Nat) (x : α) (a : Act) (W : World) (K : Act → World → Prop), a.tmps.size = n → K (putsV (ups x) { a with defers := [] }) W → assign.wpIn (WF (some l)) 0 P (Exit.then K (fun _ _ _ => False)) { tmps := (ps.zip (encs x)).foldl (fun t (p, v) => t.setIfInBounds p v) a.tmps, defers := [] } W)
    (hid : ∀ pre, (obs pre).map (·.1) = I) (hfl : ∀ pre, allFlat (obs pre) = true) (hsl : slotsWithin I slots = true)
    (round : ∀ pre x, D false P body (thenQ (fun σ' => Le (mkStI n [] (obs (pre ++ [x])) I I) σ') (fun _ _ => False)) (putsS (ups x) (mkStI n slots (obs pre) I I)))
    (done : Q .normal (mkStI n slots (obs zs) I0 P0)) : D true P (.rangeFunc g ps assign body) Q (mkStI n slots (obs []) I0 P0) := by
  rintro K a w hrd ⟨ι0, S0, R0⟩
  rw [hrd rfl]
  have hgr := R0.eval g
  rw [hgv] at hgr
  generalize hge : a.eval g = u at hgr
  cases hgr with
  | fn h1 h2 h3 h4 =>
  rename_i us vs
  have hus : us = #[] := Array.eq_empty_of_size_eq_zero (by simpa using h1)
  subst hus
  have hcap : Rd S0 w (.ptr off xs) (vs.getD 0 undef) := by
    have := h4 0 _ rfl
    generalize vs.getD 0 undef = v at this
    cases this with
    | fp h => exact h
  have hlive : ∀ (pre : List α) (id : Oid) (o : Cells), obOf (obs pre) id = .obj o → id ∈ I := fun pre id o h => by rw [← hid pre]; exact List.mem_map_of_mem (f := (·.1)) (obOf_mem h)
  have hfree : ∀ (pre : List α) (id : Oid), id ∈ I → obOf (obs pre) id ≠ .free := fun pre id h => by rw [← hid pre] at h; exact obOf_ne h
  have hgone : ∀ (pre : List α) (id : Oid), id ∈ I → ∃ o, obOf (obs pre) id = .obj o := fun pre id h => by
    have key : ∀ l : List (Oid × Cells), obOf l id ≠ .free → ∃ o, obOf l id = .obj o := by
      intro l
      induction l with
      | nil => intro h; exact absurd rfl h
      | cons p l ih =>
        obtain ⟨k, c⟩ := p
        simp only [obOf]
        cases oeq id k with
        | true => intro _; exact ⟨c, rfl⟩
        | false => intro h; exact ih h
    exact key _ (hfree pre id h)
  have hpinI : ∀ id h, pinOf I id = some h → h = id ∧ id ∈ I := fun id h hp => by
    simp only [pinOf] at hp
    cases hb : inO id I with
    | true => rw [hb] at hp; exact ⟨(Option.some.inj hp).symm, inO_iff.1 hb⟩
    | false => rw [hb] at hp; cases hp
  have hpinI' : ∀ id, id ∈ I → pinOf I id = some id := fun id h => by simp only [pinOf, inO_iff.2 h, cond_true]
  have hpfI : ∀ (pre : List α) (id : Oid), obOf (obs pre) id = .free → pinOf I id = none := fun pre id h => by
    simp only [pinOf]
    cases hb : inO id I with
    | true => exact absurd h (hfree pre id (inO_iff.1 hb))
    | false => rfl
  have hflat : ∀ (pre : List α) (id : Oid) (o : Cells), obOf (obs pre) id = .obj o → o.flat = true := fun pre id o h => allFlat_mem (hfl pre) (obOf_mem h)
  let K1 : Ctx := ⟨w, fun g => ∃ id B, ι0 id = some B ∧ B.g = some g, S0, ι0, none⟩
  have hpin0 : ∀ id h, pinOf P0 id = some h → h = id ∧ id ∈ I := fun id h hp => by
    simp only [pinOf] at hp
    cases hb : inO id P0 with
    | true =>
      rw [hb] at hp
      exact ⟨(Option.some.inj hp).symm, inO_iff.1 (List.all_eq_true.1 hP id (inO_iff.1 hb))⟩
    | false => rw [hb] at hp; cases hp
  have hown1 : ∀ g, K1.own g → ¬ S0 g ∧ (K.own g ∨ K.w0.heap.size ≤ g) := fun g ⟨id, B, a1, a2⟩ => ⟨(R0.sep id B g a1 a2).1, (R0.sep id B g a1 a2).2.1⟩
  have R1 : RelI K1 ι0 S0 (mkStI n slots (obs []) I I) { a with defers := [] } w :=
    ⟨Keeps.refl _ _, fun g h => .inl h, R0.Slt, R0.nt, .nil, R0.fr, R0.cl, R0.clo, R0.ob, R0.dom, R0.inj, fun id B g a1 a2 => ⟨(R0.sep id B g a1 a2).1, .inl ⟨id, B, a1, a2⟩, fun hf => by
      obtain ⟨o, ho⟩ := R0.dom id B a1
      have := inO_iff.2 (hlive [] id o ho)
      simp only [mkStI] at hf
      rw [this] at hf; cases hf⟩, fun id h o hp ho => by obtain ⟨rfl, _⟩ := hpinI id h hp; rfl, hpfI []⟩
  refine wpIn_room (n := 2) (wpIn_rangeFunc_ownG (F := WF none) rfl (by omega) hge trivial C.out (hseq S0 vs w R0.Slt (by simpa using h2) hcap) (fun h h' g hg => (h' g hg).trans (h g hg)) (fun W l o o' hl _ _ _ g hg => World.putObj_heap_other (by have := R0.Slt g hg; omega)) (Below.refl _ _) hps
    (fun pre W => ∃ ι S, RelI K1 ι S (mkStI n slots (obs pre) I I) { a with defers := [] } W) (fun _ _ _ => False) ?hI (fun _ _ _ _ _ h _ _ => h) ⟨ι0, S0, R1⟩ (fun x => putsV (ups x) { a with defers := [] }) (fun l x W K hK => hasg l x a W K R0.nt hK) ?hbody ?hdone (fun D c pre W _ _ h _ => h.elim))
  case hI =>
    rintro pre A A' row ⟨ι, S, R⟩ hg hr
    have R' := R.cells'
    have hsafe : ∀ k, (∃ c e f, A.heap[k]? = some (Obj.cells c e f)) → A'.heap[k]? = A.heap[k]? := fun k hc => by
      refine hg.block k ?_ fun e => ?_
      · obtain ⟨c, e, f, hc⟩ := hc; exact (Array.getElem?_eq_some_iff.1 hc).1
      · obtain ⟨_, o, ho, hn⟩ := hr k e.symm
        exact cells_ne hc ho hn
    refine ⟨ι, _, R'.away rfl ⟨hg.os.trans R.keeps.os, hg.tape.trans R.keeps.tape, hg.output.trans R.keeps.output, Nat.le_trans R.keeps.size hg.size, fun k hk hn => (hg.block k (Nat.lt_of_lt_of_le hk R.keeps.size) fun e => ?_).trans (R.keeps.block k hk hn)⟩ hg.size (fun k hk => hsafe k hk.2) fun id B k b1 b2 => ?_⟩
    · have := (hr k e.symm).1
      have hk' : k < w.heap.size := hk
      omega
    · obtain ⟨o, ho⟩ := R.dom id B b1
      exact hsafe k ((R.ob id o ho).flat (hflat pre id o ho) b1 b2)
  case hbody =>
    rintro l pre x W ⟨ι, S, R⟩ _
    let K2 : Ctx := ⟨W, fun g => ∃ id B, ι id = some B ∧ B.g = some g, S, ι, some l⟩
    have R2 : RelI K2 ι S (mkStI n slots (obs pre) I I) { a with defers := [] } W :=
      ⟨Keeps.refl _ _, fun g h => .inl h, R.Slt, R.nt, .nil, R.fr, R.cl, R.clo, R.ob, R.dom, R.inj, fun id B g a1 a2 => ⟨(R.sep id B g a1 a2).1, .inl ⟨id, B, a1, a2⟩, fun hf => by
        obtain ⟨o, ho⟩ := R.dom id B a1
        have := inO_iff.2 (hlive pre id o ho)
        simp only [mkStI] at hf
        rw [this] at hf; cases hf⟩, fun id h o hp ho => by obtain ⟨rfl, _⟩ := hpinI id h hp; rfl, hpfI pre⟩
    have hown2 : ∀ g, K2.own g → (∃ c e f, W.heap[g]? = some (Obj.cells c e f)) ∧ ¬ S g ∧ (K1.own g ∨ w.heap.size ≤ g) := fun g ⟨id, B, a1, a2⟩ => by
      obtain ⟨o, ho⟩ := R.dom id B a1
      exact ⟨(R.ob id o ho).flat (hflat pre id o ho) a1 a2, (R.sep id B g a1 a2).1, (R.sep id B g a1 a2).2.1⟩
    have hw := round pre x K2 (putsV (ups x) { a with defers := [] }) W (fun h => by cases h) ⟨ι, S, R2.puts (ups x)⟩
    refine wpIn_mono hw ?_
    rintro e a' W' ⟨σ', ⟨ι3, S3, R3⟩, hq⟩
    cases e with
    | normal =>
      obtain ⟨ι4, S4, R4⟩ := hq K2 ι3 S3 a' W' R3
      have hpin4 : ∀ id, id ∈ I → ι4 id = ι id := fun id h => by
        obtain ⟨o, ho⟩ := hgone (pre ++ [x]) id h
        exact R4.pin id id o (hpinI' id h) ho
      have hS : ∀ g, S g → W'.heap[g]? = W.heap[g]? := fun g hg => R4.keeps.block g (R.Slt g hg) fun h => (hown2 g h).2.1 hg
      refine ⟨⟨R4.keeps.size, fun k o _ hk ho => (R4.keeps.block k (Array.getElem?_eq_some_iff.1 hk).1 fun h => cells_ne (hown2 k h).1 hk ho).trans hk⟩, fun g hg => R4.keeps.block g (Nat.lt_of_lt_of_le (R0.Slt g hg) R.keeps.size) fun h => ?_, ι4, fun g => S4 g ∨ S g, ?_⟩
      · rcases (hown2 g h).2.2 with h | h
        · exact (hown1 g h).1 hg
        · have := R0.Slt g hg; omega
      · refine ⟨R.keeps.trans R4.keeps fun g hg h => (hown2 g h).2.2.resolve_right (by have hg' : g < w.heap.size := hg; omega), fun g hg => ?_, fun g hg => ?_, R.nt, .nil, fun t ht => (R.fr t ht).next hS (fun _ h => .inr h) fun id B hb hB => ?_, fun t id hb => hfree _ id (slots_has hsl hb), R4.clo, fun id o ho => (R4.ob id o ho).next rfl (fun _ _ _ _ => rfl) (fun _ _ => rfl) (fun _ h => .inl h) fun _ _ _ h => h, R4.dom, R4.inj, fun id B g a1 a2 => ?_, fun id h o hp ho => ?_, R4.pf⟩
        · rcases hg with hg | hg
          · rcases R4.S0 g hg with h | h
            · exact R.S0 g h
            · exact .inr (Nat.le_trans R.keeps.size h)
          · exact R.S0 g hg
        · rcases hg with hg | hg
          · exact R4.Slt g hg
          · exact Nat.lt_of_lt_of_le (R.Slt g hg) R4.keeps.size
        · rw [← hpin4 id (slots_has hsl hb)]; exact hB
        · obtain ⟨o, ho⟩ := R4.dom id B a1
          have hm := hlive _ id o ho
          have a1' := a1
          rw [hpin4 id hm] at a1'
          refine ⟨fun h => ?_, (R.sep id B g a1' a2).2.1, fun hf => ?_⟩
          · rcases h with h | h
            · exact (R4.sep id B g a1 a2).1 h
            · exact (R.sep id B g a1' a2).1 h
          · simp only [mkStI] at hf
            rw [inO_iff.2 hm] at hf; cases hf
        · obtain ⟨rfl, hm⟩ := hpinI id h hp
          rw [hpin4 h hm]
          obtain ⟨o', ho'⟩ := hgone pre h hm
          exact R.pin h h o' (hpinI' h hm) ho'
    | _ => exact hq.elim
  case hdone =>
    rintro D xs W hD rfl ⟨ι, S, R⟩ hDd
    have R' := R.cells'
    refine ⟨mkStI n slots (obs xs) I0 P0, ⟨ι, _, ⟨R0.keeps.trans R.keeps fun g hg h => (hown1 g h).2.resolve_right (by have hg' : g < K.w0.heap.size := hg; omega), fun g hg => ?_, R'.Slt, R.nt, ⟨?_, fun d hd => ?_⟩, R'.fr, R.cl, R.clo, R'.ob, R.dom, R.inj, fun id B g a1 a2 => ⟨(R'.sep id B g a1 a2).1, ?_⟩, fun id h o hp ho => ?_, fun id hf => ?_⟩⟩, done⟩
    · rcases R'.S0 g hg with h | h
      · exact R0.S0 g h
      · exact .inr (Nat.le_trans R0.keeps.size h)
    · refine List.nodup_cons.2 ⟨fun hm => ?_, R0.df.1⟩
      obtain ⟨r, b1, b2, _⟩ := R0.df.2 _ hm
      simp only [Deferred.mk.injEq, Target.collected.injEq, and_true] at b1
      have := (Array.getElem?_eq_some_iff.1 b2).1
      omega
    · rcases List.mem_cons.1 hd with rfl | hd
      · refine ⟨D, rfl, hDd, Nat.le_trans R0.keeps.size hD, fun h => cells_ne h.2 hDd rfl⟩
      · obtain ⟨r, b1, b2, b3, b4⟩ := R0.df.2 d hd
        have hr : W.heap[r]? = some (.deferred (some [])) := (R.keeps.block r (Array.getElem?_eq_some_iff.1 b2).1 fun ⟨id, B, c1, c2⟩ => by
          obtain ⟨o, ho⟩ := R0.dom id B c1
          obtain ⟨y, h6, h7⟩ := (R0.ob id o ho).at c1 c2
          rw [b2] at h6
          exact h7 _ (Option.some.inj h6).symm).trans b2
        exact ⟨r, b1, hr, b3, fun h => cells_ne h.2 hr rfl⟩
    · obtain ⟨o, ho⟩ := R.dom id B a1
      have hm := hlive _ id o ho
      have e : ι id = ι0 id := R.pin id id o (hpinI' id hm) ho
      have a1' : ι0 id = some B := by rw [← e]; exact a1
      exact ⟨(R0.sep id B g a1' a2).2.1, fun hf => (R0.sep id B g a1' a2).2.2 hf⟩
    · obtain ⟨rfl, hm⟩ := hpin0 id h hp
      obtain ⟨o0, ho0⟩ := hgone [] h hm
      exact (R.pin h h o (hpinI' h hm) ho).trans (R0.pin h h o0 hp ho0)
    · cases e : pinOf P0 id with
      | none => exact e
      | some h =>
        obtain ⟨rfl, hm⟩ := hpin0 _ _ e
        exact absurd hf (hfree _ _ hm)
end Go.Proofs.Ytkbkmngbenohkaa
