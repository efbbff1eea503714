/- The machine's steps, one operation each. No program text. -/
import Derived.Test.YtphlaojoehmhaaaDLib1
set_option linter.unusedSimpArgs false
set_option linter.unusedVariables false
namespace Go.Proofs.Ytphlaojoehmhaaa
open Go.RowKit

def oeq (i j : Oid) : Bool := Nat.beq i.1 j.1 && Nat.beq i.2 j.2
theorem oeq_iff {i j : Oid} : oeq i j = true ↔ i = j := by
  obtain ⟨a, b⟩ := i; obtain ⟨c, d⟩ := j
  simp only [oeq, Bool.and_eq_true, Prod.mk.injEq, Nat.beq_eq]
theorem oeq_self (i : Oid) : oeq i i = true := oeq_iff.2 rfl
theorem oeq_ne {i j : Oid} (h : i ≠ j) : oeq i j = false := by
  cases hh : oeq i j with
  | false => rfl
  | true => exact absurd (oeq_iff.1 hh) h

def St.eval (σ : St) : Operand → AV
  | .tmp t => bif Nat.blt t σ.n then σ.fr t else .dead
  | .const v => .v v
  | .global g => .v (.pointer (some ⟨g, 0, none⟩))
  | .func f => .fn (.func f) [] []

def St.put (σ : St) (d : Option Tmp) (a : AV) : St :=
  match d with
  | none => σ
  | some d => { σ with fr := fun t => bif Nat.beq t d then a else σ.fr t }
def St.setInc (σ : St) (id : Oid) (b : Bool) : St := { σ with inc := fun i => bif oeq i id then b else σ.inc i }
def St.setOb (σ : St) (id : Oid) (s : Slot) : St := { σ with ob := fun i => bif oeq i id then s else σ.ob i }

theorem St.put_ob (σ : St) (d : Option Tmp) (a : AV) : (σ.put d a).ob = σ.ob := by cases d <;> rfl
theorem St.put_n (σ : St) (d : Option Tmp) (a : AV) : (σ.put d a).n = σ.n := by cases d <;> rfl
theorem St.setOb_same (σ : St) (id : Oid) (s : Slot) : (σ.setOb id s).ob id = s := by simp [St.setOb, oeq_self]
theorem St.setOb_ne (σ : St) {id i : Oid} (s : Slot) (h : i ≠ id) : (σ.setOb id s).ob i = σ.ob i := by simp [St.setOb, oeq_ne h]

section
variable {K : Ctx} {ι : Oid → Option Blk} {S : Nat → Prop} {σ : St} {a : Act} {w : World}

theorem RelI.eval (R : RelI K ι S σ a w) (x : Operand) : Rep ι S w (σ.eval x) (a.eval x) := by
  cases x with
  | tmp t =>
    simp only [St.eval, Act.eval]
    by_cases h : t < σ.n
    · have : Nat.blt t σ.n = true := by simpa [Nat.blt_eq] using h
      rw [this]; exact R.fr t h
    · have : Nat.blt t σ.n = false := by
        cases hb : Nat.blt t σ.n with
        | false => rfl
        | true => rw [Nat.blt_eq] at hb; exact absurd hb h
      rw [this]; exact .dead
  | const v => exact .v
  | global g => exact .v
  | func f => exact .fn rfl rfl (by simp) (by simp)

theorem RelI.evalHas (R : RelI K ι S σ a w) (x : Operand) {id : Oid} (h : Has id (σ.eval x)) : σ.ob id ≠ .free := by
  cases x with
  | tmp t =>
    simp only [St.eval] at h
    by_cases ht : t < σ.n
    · have : Nat.blt t σ.n = true := by simpa [Nat.blt_eq] using ht
      rw [this] at h; exact R.cl t id h
    · have : Nat.blt t σ.n = false := by
        cases hb : Nat.blt t σ.n with
        | false => rfl
        | true => rw [Nat.blt_eq] at hb; exact absurd hb ht
      rw [this] at h; cases h
  | const v => cases h
  | global g => cases h
  | func f => cases h <;> simp at *

theorem RelI.put (R : RelI K ι S σ a w) (d : Option Tmp) {av : AV} {v : Value} (h : Rep ι S w av v) (hh : ∀ id, Has id av → σ.ob id ≠ .free) : RelI K ι S (σ.put d av) (a.put d v) w := by
  cases d with
  | none => exact R
  | some d =>
    refine ⟨R.keeps, R.S0, R.Slt, by simpa [Act.put, St.put] using R.nt, R.df, fun t ht => ?_, fun t id hb => ?_, R.clo, R.ob, R.dom, R.inj, R.sep, R.pin, R.pf⟩
    · simp only [St.put, Act.put] at ht ⊢
      by_cases hd : t = d
      · subst hd
        have : Nat.beq t t = true := Nat.beq_refl t
        have hs : t < a.tmps.size := by rw [R.nt]; exact ht
        simp only [this, cond_true]
        simpa [hs] using h
      · have : Nat.beq t d = false := by
          cases hb : Nat.beq t d with
          | false => rfl
          | true => exact absurd (Nat.eq_of_beq_eq_true hb) hd
        simp only [this, cond_false]
        have := R.fr t ht
        simpa [Array.getElem?_setIfInBounds_ne (Ne.symm hd)] using this
    · simp only [St.put] at hb ⊢
      by_cases hd : Nat.beq t d = true
      · simp only [hd, cond_true] at hb; exact hh id hb
      · have hd' : Nat.beq t d = false := Bool.eq_false_iff.2 hd
        simp only [hd', cond_false] at hb; exact R.cl t id hb

def setI (ι : Oid → Option Blk) (id : Oid) (B : Option Blk) : Oid → Option Blk := fun i => if i = id then B else ι i
theorem setI_same (ι : Oid → Option Blk) (id : Oid) (B : Option Blk) : setI ι id B id = B := by simp [setI]
theorem setI_ne (ι : Oid → Option Blk) {id i : Oid} (B : Option Blk) (h : i ≠ id) : setI ι id B i = ι i := by simp [setI, h]

/-- A new object. -/
theorem RelI.new (R : RelI K ι S σ a w) {w' : World} {id : Oid} {o : Cells} {B : Blk} (hid : σ.ob id = .free) (hb : Below w.heap.size w w') (hB : ∀ g, B.g = some g → w.heap.size ≤ g)
    (ho : ObjOk (setI ι id (some B)) S w' id o) (hh : ∀ id', o.Has id' → id' = id ∨ σ.ob id' ≠ .free) : RelI K (setI ι id (some B)) S (σ.setOb id (.obj o)) a w' := by
  have hold : ∀ i B' g, ι i = some B' → B'.g = some g → g < w.heap.size := by
    intro i B' g h1 h2
    obtain ⟨o', ho'⟩ := R.dom i B' h1
    have := R.ob i o' ho'
    cases o' with
    | row e sz xs =>
      obtain ⟨B2, h3, _, h4⟩ := this
      rw [h1] at h3; obtain rfl := Option.some.inj h3
      rcases h4 with ⟨h5, _⟩ | ⟨g', cur, h5, h6, _⟩
      · rw [h2] at h5; cases h5
      · rw [h2] at h5; obtain rfl := Option.some.inj h5
        exact (Array.getElem?_eq_some_iff.1 h6).1
    | box e xs =>
      obtain ⟨B2, g2, h3, _, _, h4⟩ := this
      rw [h1] at h3; obtain rfl := Option.some.inj h3
      rcases h4 with ⟨h5, _⟩ | ⟨g', cur, h5, h6, _⟩
      · rw [h2] at h5; cases h5
      · rw [h2] at h5; obtain rfl := Option.some.inj h5
        exact (Array.getElem?_eq_some_iff.1 h6).1
  have hι0 : ι id = none := by
    cases h : ι id with
    | none => rfl
    | some B' => obtain ⟨o', ho'⟩ := R.dom id B' h; rw [hid] at ho'; cases ho'
  refine R.gen (ob' := (σ.setOb id (.obj o)).ob) (inc' := σ.inc) (· = id) (.of_below hb) (fun i hi => setI_ne _ _ hi) (fun i hi => St.setOb_ne _ _ hi) (fun _ _ => rfl) (fun i hi => ?_) (fun _ h => h) (fun _ h => .inl h) (fun g hg => Nat.lt_of_lt_of_le (R.Slt g hg) hb.size)
    (fun i B' hi hB' => .inr (hi ▸ hid)) (fun i o' hi ho' => ?_) (fun i B' hi _ => ⟨o, by subst hi; exact St.setOb_same _ _ _⟩) (fun i i' B1 B2 g hi h1 h2 h3 h4 => ?_) (fun i B' g hi h1 h2 => ?_) (fun i h o' hi hp _ => by subst hi; rw [R.pf i hid] at hp; cases hp)
  · by_cases h : i = id
    · subst h; exact hid
    · rwa [St.setOb_ne _ _ h] at hi
  · subst hi
    rw [St.setOb_same] at ho'
    obtain rfl := Slot.obj.inj ho'
    refine ⟨ho, fun id' hb' => ?_⟩
    by_cases h : id' = i
    · subst h; rw [St.setOb_same]; intro h; cases h
    · rw [St.setOb_ne _ _ h]; exact (hh id' hb').resolve_left h
  · subst hi
    rw [setI_same] at h1
    obtain rfl := Option.some.inj h1
    by_cases h : i' = i
    · exact h.symm
    · rw [setI_ne _ _ h] at h2
      have := hold i' B2 g h2 h4
      have := hB g h3
      omega
  · subst hi
    rw [setI_same] at h1
    obtain rfl := Option.some.inj h1
    have := hB g h2
    have := Nat.le_trans R.keeps.size this
    exact ⟨fun hs => by have := R.Slt g hs; omega, .inr this, fun _ => this⟩

/-- An object's cells change. -/
theorem RelI.upd (R : RelI K ι S σ a w) {w' : World} {id : Oid} {o o' : Cells} {B : Blk} (hid : σ.ob id = .obj o) (hB : ι id = some B) (hk : Keeps (fun g => B.g = some g) w w')
    (ho : ObjOk ι S w' id o') (hh : ∀ id', o'.Has id' → σ.ob id' ≠ .free) : RelI K ι S (σ.setOb id (.obj o')) a w' := by
  refine R.gen (ob' := (σ.setOb id (.obj o')).ob) (inc' := σ.inc) (· = id) (hk.mono fun g hg => ⟨id, B, rfl, hB, hg⟩) (fun i hi => rfl) (fun i hi => St.setOb_ne _ _ hi) (fun _ _ => rfl) (fun i hi => ?_) (fun _ h => h) (fun _ h => .inl h) (fun g hg => Nat.lt_of_lt_of_le (R.Slt g hg) hk.size)
    (fun i B' hi hB' => .inl hB') (fun i o2 hi ho2 => ?_) (fun i B' hi _ => ⟨o', by subst hi; exact St.setOb_same _ _ _⟩) (fun i i' B1 B2 g _ h1 h2 h3 h4 => R.inj i i' B1 B2 g h1 h2 h3 h4) (fun i B' g hi h1 h2 => R.sep i B' g h1 h2) (fun i h o' hi hp _ => ⟨rfl, o, by subst hi; exact hid⟩)
  · by_cases h : i = id
    · subst h; rw [St.setOb_same] at hi; cases hi
    · rwa [St.setOb_ne _ _ h] at hi
  · subst hi
    rw [St.setOb_same] at ho2
    obtain rfl := Slot.obj.inj ho2
    refine ⟨ho, fun id' hb' => ?_⟩
    by_cases h : id' = i
    · subst h; rw [St.setOb_same]; intro h; cases h
    · rw [St.setOb_ne _ _ h]; exact hh id' hb'

/-- What one object held lies in a new one. -/
theorem RelI.moved (R : RelI K ι S σ a w) {w' : World} {id id' : Oid} {o o' : Cells} {B B' : Blk} (hid : σ.ob id = .obj o) (hid' : σ.ob id' = .free) (hB : ι id = some B) (hk : Keeps (fun g => B.g = some g) w w')
    (hB' : ∀ g, B'.g = some g → B.g = some g ∨ w.heap.size ≤ g)
    (ho : ObjOk (setI (setI ι id none) id' (some B')) S w' id' o') (hh : ∀ i, o'.Has i → i = id' ∨ σ.ob i ≠ .free) : RelI K (setI (setI ι id none) id' (some B')) S (((σ.setOb id .gone).setOb id' (.obj o')).setInc id' (σ.inc id)) a w' := by
  have hne : id' ≠ id := fun e => by subst e; rw [hid] at hid'; cases hid'
  have hold : ∀ i B2 g, ι i = some B2 → B2.g = some g → g < w.heap.size := by
    intro i B' g h1 h2
    obtain ⟨o', ho'⟩ := R.dom i B' h1
    have := R.ob i o' ho'
    cases o' with
    | row e sz xs =>
      obtain ⟨B2, h3, _, h4⟩ := this
      rw [h1] at h3; obtain rfl := Option.some.inj h3
      rcases h4 with ⟨h5, _⟩ | ⟨g', cur, h5, h6, _⟩
      · rw [h2] at h5; cases h5
      · rw [h2] at h5; obtain rfl := Option.some.inj h5
        exact (Array.getElem?_eq_some_iff.1 h6).1
    | box e xs =>
      obtain ⟨B2, g2, h3, _, _, h4⟩ := this
      rw [h1] at h3; obtain rfl := Option.some.inj h3
      rcases h4 with ⟨h5, _⟩ | ⟨g', cur, h5, h6, _⟩
      · rw [h2] at h5; cases h5
      · rw [h2] at h5; obtain rfl := Option.some.inj h5
        exact (Array.getElem?_eq_some_iff.1 h6).1
  have hob : ∀ i, i ≠ id → i ≠ id' → ((σ.setOb id .gone).setOb id' (.obj o')).ob i = σ.ob i := fun i h h' => by rw [St.setOb_ne _ _ h', St.setOb_ne _ _ h]
  have hob1 : ((σ.setOb id .gone).setOb id' (.obj o')).ob id = .gone := by rw [St.setOb_ne _ _ (Ne.symm hne), St.setOb_same]
  have hι1 : setI (setI ι id none) id' (some B') id = none := by rw [setI_ne _ _ (Ne.symm hne), setI_same]
  have hι2 : ∀ i, i ≠ id → i ≠ id' → setI (setI ι id none) id' (some B') i = ι i := fun i h h' => by rw [setI_ne _ _ h', setI_ne _ _ h]
  refine R.gen (ob' := ((σ.setOb id .gone).setOb id' (.obj o')).ob) (inc' := fun i => bif oeq i id' then σ.inc id else σ.inc i) (fun i => i = id ∨ i = id') (hk.mono fun g hg => ⟨id, B, .inl rfl, hB, hg⟩) (fun i hi => hι2 i (fun h => hi (.inl h)) fun h => hi (.inr h)) (fun i hi => hob i (fun h => hi (.inl h)) fun h => hi (.inr h))
    (fun i hi => by simp only [oeq_ne (fun h => hi (.inr h)), cond_false]) (fun i hi => ?_) (fun _ h => h) (fun _ h => .inl h)
    (fun g hg => Nat.lt_of_lt_of_le (R.Slt g hg) hk.size) (fun i B2 hi hB2 => ?_) (fun i o2 hi ho2 => ?_) (fun i B2 hi hB2 => ?_) (fun i i' B1 B2 g hi h1 h2 h3 h4 => ?_) (fun i B2 g hi h1 h2 => ?_)
    (fun i h o2 hi hp ho2 => by
      rcases hi with rfl | rfl
      · exact absurd (hob1.symm.trans ho2) (by intro h; cases h)
      · rw [R.pf i hid'] at hp; cases hp)
  · by_cases h : i = id
    · subst h; exact absurd (hob1.symm.trans hi) (by intro h; cases h)
    · by_cases h' : i = id'
      · subst h'; exact hid'
      · rwa [hob i h h'] at hi
  · rcases hi with rfl | rfl
    · rw [hι1] at hB2; cases hB2
    · exact .inr hid'
  · rcases hi with rfl | rfl
    · exact absurd (hob1.symm.trans ho2) (by intro h; cases h)
    · have := (St.setOb_same (σ.setOb id .gone) i (.obj o')).symm.trans ho2
      obtain rfl := Slot.obj.inj this
      refine ⟨ho, fun i2 hb' => ?_⟩
      by_cases h : i2 = i
      · subst h; intro hf; exact absurd ((St.setOb_same (σ.setOb id .gone) i2 (.obj o')).symm.trans hf) (by intro h; cases h)
      · by_cases h' : i2 = id
        · subst h'; intro hf; exact absurd (hob1.symm.trans hf) (by intro h; cases h)
        · intro hf; exact (hh i2 hb').resolve_left h ((hob i2 h' h).symm.trans hf)
  · rcases hi with rfl | rfl
    · rw [hι1] at hB2; cases hB2
    · exact ⟨o', St.setOb_same _ _ _⟩
  · rcases hi with rfl | rfl
    · rw [hι1] at h1; cases h1
    · rw [setI_same] at h1
      obtain rfl := Option.some.inj h1
      by_cases h : i' = i
      · exact h.symm
      · by_cases h' : i' = id
        · subst h'; rw [hι1] at h2; cases h2
        · rw [hι2 i' h' h] at h2
          rcases hB' g h3 with h5 | h5
          · exact absurd (R.inj i' id B2 B g h2 hB h4 h5) h'
          · have := hold i' B2 g h2 h4; omega
  · rcases hi with rfl | rfl
    · rw [hι1] at h1; cases h1
    · rw [setI_same] at h1
      obtain rfl := Option.some.inj h1
      rcases hB' g h2 with h5 | h5
      · simp only [oeq_self, cond_true]; exact R.sep id B g hB h5
      · have := Nat.le_trans R.keeps.size h5
        exact ⟨fun hs => by have := R.Slt g hs; omega, .inr this, fun _ => this⟩

end
end Go.Proofs.Ytphlaojoehmhaaa
