/- A deterministic machine over data: frozen values, objects of a call's own; what it says holds of the model's runs. No program text. -/
import Derived.Test.YtphlaojoehmhaaaLib
set_option linter.unusedSimpArgs false
set_option linter.unusedVariables false
namespace Go.Proofs.Ytphlaojoehmhaaa
open Go.RowKit

/-- Frozen data, one cell each. -/
inductive PV where
  | v (x : Value)
  | sl (n : Nat) (xs : List PV)
  | ptr (off : Nat) (xs : List PV)
  | fn (f : Fn) (first caps : List PV)
  | ifc (t : TypeId) (p : PV)

/-- An object's name. -/
abbrev Oid := Nat × Nat

/-- What a slot or a cell holds. -/
inductive AV where
  | dead
  | v (x : Value)
  | sl (n : Nat) (xs : List PV)
  | fp (off : Nat) (xs : List PV)
  | ref (id : Oid) (off n : Nat)
  | ptr (id : Oid) (off : Nat)
  | agg (xs : List AV)
  | fn (f : Fn) (first caps : List AV)
  | ifc (t : TypeId) (x : AV)
  | tup (xs : List AV)
  | z

inductive Cells where
  | row (e : TypeId) (sz : Nat) (xs : List PV)
  | box (e : TypeId) (xs : List AV)

inductive Slot where
  | free
  | gone
  | obj (o : Cells)

/-- The data p reads in w as the value x; what is read lies in the blocks S. -/
inductive Rd (S : Nat → Prop) (w : World) : PV → Value → Prop where
  | v {x : Value} (h1 : x.oneCell' = true) : Rd S w (.v x) x
  | sl0 {n c : Nat} {ao : Option Addr} (h0 : n ≤ c) (h1 : c ≤ maxLen) (h2 : ao = none → n = 0 ∧ c = 0) : Rd S w (.sl n []) (.slice ao n c)
  | sl {n c b o : Nat} {xs : List PV} (us : Nat → Value) (h0 : n ≤ c) (h1 : c ≤ maxLen) (hS : S b)
      (h2 : ∀ j p, xs[j]? = some p → w.cell? ⟨b, o + j, none⟩ = some (us j)) (h3 : ∀ j p, xs[j]? = some p → Rd S w p (us j)) : Rd S w (.sl n xs) (.slice (some ⟨b, o, none⟩) n c)
  | ptr {off b o : Nat} {xs : List PV} (us : Nat → Value) (hS : S b)
      (h2 : ∀ j p, xs[j]? = some p → w.cell? ⟨b, o + j, none⟩ = some (us j)) (h3 : ∀ j p, xs[j]? = some p → Rd S w p (us j)) : Rd S w (.ptr off xs) (.pointer (some ⟨b, o + off, none⟩))
  | fn {f : Fn} {first caps : List PV} {us vs : Array Value} (h1 : us.size = first.length) (h2 : vs.size = caps.length)
      (h3 : ∀ j p, first[j]? = some p → Rd S w p (us.getD j undef)) (h4 : ∀ j p, caps[j]? = some p → Rd S w p (vs.getD j undef)) : Rd S w (.fn f first caps) (.func f us vs)
  | ifc {t : TypeId} {p : PV} {u : Value} (h : Rd S w p u) : Rd S w (.ifc t p) (.iface t u)

theorem Rd.one {S : Nat → Prop} {w : World} {p : PV} {x : Value} (h : Rd S w p x) : x.oneCell' = true := by
  cases h <;> first | rfl | assumption

theorem Rd.next {S S' : Nat → Prop} {w w' : World} {p : PV} {x : Value} (h : Rd S w p x) (hw : ∀ g, S g → w'.heap[g]? = w.heap[g]?) (hS : ∀ g, S g → S' g) : Rd S' w' p x := by
  induction h with
  | v h1 => exact .v h1
  | sl0 a b c => exact .sl0 a b c
  | sl us h0 h1 hs h2 h3 ih => exact .sl us h0 h1 (hS _ hs) (fun j p hp => by rw [World.cell?_of_block (w := w) (hw _ hs)]; exact h2 j p hp) ih
  | ptr us hs h2 h3 ih => exact .ptr us (hS _ hs) (fun j p hp => by rw [World.cell?_of_block (w := w) (hw _ hs)]; exact h2 j p hp) ih
  | fn h1 h2 h3 h4 i3 i4 => exact .fn h1 h2 i3 i4
  | ifc h ih => exact .ifc ih

/-- Where an object lies: its block (none: a slice that is nil), its cells in all, an element's cells. -/
structure Blk where
  g : Option Nat
  tot : Nat
  sz : Nat

def HdrOk (B : Blk) (off n : Nat) (x : Value) : Prop :=
  ∃ c, n ≤ c ∧ c ≤ maxLen ∧ match B.g with
    | none => x = .slice none 0 0 ∧ n = 0 ∧ c = 0
    | some g => ∃ o, x = .slice (some ⟨g, o, none⟩) n c ∧ (o = off ∨ c = 0 ∧ 0 < off) ∧ off + c * B.sz = B.tot

def PtrOk (B : Blk) (off : Nat) (x : Value) : Prop := ∃ g, B.g = some g ∧ x = .pointer (some ⟨g, off, none⟩)

inductive Rep (ι : Oid → Option Blk) (S : Nat → Prop) (w : World) : AV → Value → Prop where
  | dead {x : Value} : Rep ι S w .dead x
  | v {x : Value} : Rep ι S w (.v x) x
  | sl {n : Nat} {xs : List PV} {x : Value} (h : Rd S w (.sl n xs) x) : Rep ι S w (.sl n xs) x
  | fp {off : Nat} {xs : List PV} {x : Value} (h : Rd S w (.ptr off xs) x) : Rep ι S w (.fp off xs) x
  | ref {id : Oid} {off n : Nat} {x : Value} (h : ∀ B, ι id = some B → HdrOk B off n x) (h1 : x.oneCell' = true) : Rep ι S w (.ref id off n) x
  | ptr {id : Oid} {off : Nat} {x : Value} (h : ∀ B, ι id = some B → PtrOk B off x) (h1 : x.oneCell' = true) : Rep ι S w (.ptr id off) x
  | agg {xs : List AV} {us : Array Value} (h1 : us.size = xs.length) (h2 : ∀ u ∈ us.toList, u.oneCell' = true) (h : ∀ j a, xs[j]? = some a → Rep ι S w a (us.getD j undef)) : Rep ι S w (.agg xs) (.agg us)
  | fn {f : Fn} {first caps : List AV} {us vs : Array Value} (h1 : us.size = first.length) (h2 : vs.size = caps.length)
      (h3 : ∀ j p, first[j]? = some p → Rep ι S w p (us.getD j undef)) (h4 : ∀ j p, caps[j]? = some p → Rep ι S w p (vs.getD j undef)) : Rep ι S w (.fn f first caps) (.func f us vs)
  | ifc {t : TypeId} {a : AV} {u : Value} (h : Rep ι S w a u) : Rep ι S w (.ifc t a) (.iface t u)
  | z {ao : Option Addr} : Rep ι S w .z (.slice ao 0 0)
  | tup {xs : List AV} {us : Array Value} (h1 : us.size = xs.length) (h : ∀ j a, xs[j]? = some a → Rep ι S w a (us.getD j undef)) : Rep ι S w (.tup xs) (.tuple us)

/-- The object id is named in a. -/
inductive Has (id : Oid) : AV → Prop where
  | ref {off n : Nat} : Has id (.ref id off n)
  | ptr {off : Nat} : Has id (.ptr id off)
  | agg {xs : List AV} {a : AV} (hm : a ∈ xs) (h : Has id a) : Has id (.agg xs)
  | fn1 {f : Fn} {xs ys : List AV} {a : AV} (hm : a ∈ xs) (h : Has id a) : Has id (.fn f xs ys)
  | fn2 {f : Fn} {xs ys : List AV} {a : AV} (hm : a ∈ ys) (h : Has id a) : Has id (.fn f xs ys)
  | ifc {t : TypeId} {a : AV} (h : Has id a) : Has id (.ifc t a)
  | tup {xs : List AV} {a : AV} (hm : a ∈ xs) (h : Has id a) : Has id (.tup xs)

theorem Rep.next {ι ι' : Oid → Option Blk} {S S' : Nat → Prop} {w w' : World} {a : AV} {x : Value} (h : Rep ι S w a x) (hw : ∀ g, S g → w'.heap[g]? = w.heap[g]?) (hS : ∀ g, S g → S' g)
    (hι : ∀ id B, Has id a → ι' id = some B → ι id = some B) : Rep ι' S' w' a x := by
  induction h with
  | dead => exact .dead
  | v => exact .v
  | sl h => exact .sl (h.next hw hS)
  | fp h => exact .fp (h.next hw hS)
  | ref h h1 => exact .ref (fun B hB => h B (hι _ B .ref hB)) h1
  | ptr h h1 => exact .ptr (fun B hB => h B (hι _ B .ptr hB)) h1
  | agg h1 h2 h ih => exact .agg h1 h2 fun j a ha => ih j a ha fun id B hb => hι id B (.agg (List.mem_of_getElem? ha) hb)
  | fn h1 h2 h3 h4 i3 i4 => exact .fn h1 h2 (fun j a ha => i3 j a ha fun id B hb => hι id B (.fn1 (List.mem_of_getElem? ha) hb)) fun j a ha => i4 j a ha fun id B hb => hι id B (.fn2 (List.mem_of_getElem? ha) hb)
  | ifc h ih => exact .ifc (ih fun id B hb => hι id B (.ifc hb))
  | z => exact .z
  | tup h1 h ih => exact .tup h1 fun j a ha => ih j a ha fun id B hb => hι id B (.tup (List.mem_of_getElem? ha) hb)

def Cells.Has (id : Oid) : Cells → Prop
  | .row _ _ _ => False
  | .box _ xs => ∃ a ∈ xs, Ytphlaojoehmhaaa.Has id a

/-- What a block holds: the cells us of the element type e. -/
def RowOk (w : World) (B : Blk) (e : TypeId) (n : Nat) (R : Nat → Value → Prop) : Prop :=
  (B.g = none ∧ n = 0 ∧ B.tot = 0) ∨ ∃ g cur, B.g = some g ∧ w.heap[g]? = some (.cells cur e (0, 0)) ∧ cur.size = B.tot ∧ n ≤ cur.size ∧ ∀ j, j < n → ∃ u, cur[j]? = some u ∧ u.oneCell' = true ∧ R j u

def ObjOk (ι : Oid → Option Blk) (S : Nat → Prop) (w : World) (id : Oid) : Cells → Prop
  | .row e sz xs => ∃ B, ι id = some B ∧ B.sz = sz ∧ RowOk w B e xs.length fun j u => ∀ p, xs[j]? = some p → Rd S w p u
  | .box e xs => ∃ B g, ι id = some B ∧ B.g = some g ∧ B.tot = xs.length ∧ RowOk w B e xs.length fun j u => ∀ a, xs[j]? = some a → Rep ι S w a u

structure St where
  n : Nat
  fr : Nat → AV
  ob : Oid → Slot
  inc : Oid → Bool := fun _ => false
  pin : Oid → Option Oid := fun _ => none

/-- What a call is to leave as it was: all of w0 but the blocks own. -/
structure Ctx where
  w0 : World
  own : Nat → Prop
  S0 : Nat → Prop
  home : Oid → Option Blk

structure Keeps (own : Nat → Prop) (w w' : World) : Prop where
  os : w'.os = w.os
  tape : w'.tape = w.tape
  output : w'.output = w.output
  size : w.heap.size ≤ w'.heap.size
  block : ∀ g, g < w.heap.size → ¬ own g → w'.heap[g]? = w.heap[g]?

theorem Keeps.refl (own : Nat → Prop) (w : World) : Keeps own w w := ⟨rfl, rfl, rfl, Nat.le_refl _, fun _ _ _ => rfl⟩
theorem Keeps.of_below {own : Nat → Prop} {w w' : World} (h : Below w.heap.size w w') : Keeps own w w' := ⟨h.os, h.tape, h.output, h.size, fun g hg _ => h.block g hg⟩
theorem Keeps.mono {own own' : Nat → Prop} {w w' : World} (h : Keeps own w w') (ho : ∀ g, own g → own' g) : Keeps own' w w' := ⟨h.os, h.tape, h.output, h.size, fun g hg hn => h.block g hg fun h' => hn (ho g h')⟩
theorem Keeps.trans {own own' : Nat → Prop} {a b c : World} (h : Keeps own a b) (h' : Keeps own' b c) (ho : ∀ g, g < a.heap.size → own' g → own g) : Keeps own a c :=
  ⟨h'.os.trans h.os, h'.tape.trans h.tape, h'.output.trans h.output, Nat.le_trans h.size h'.size, fun g hg hn => (h'.block g (Nat.lt_of_lt_of_le hg h.size) fun h2 => hn (ho g hg h2)).trans (h.block g hg hn)⟩
theorem Keeps.grown {w w' : World} {row : Option Nat} (h : w.grownBy w' row) : Keeps (fun g => row = some g) w w' := ⟨h.os, h.tape, h.output, h.size, fun g hg hn => h.block g hg fun e => hn e.symm⟩

structure RelI (K : Ctx) (ι : Oid → Option Blk) (S : Nat → Prop) (σ : St) (a : Act) (w : World) : Prop where
  keeps : Keeps K.own K.w0 w
  S0 : ∀ g, S g → K.S0 g ∨ K.w0.heap.size ≤ g
  Slt : ∀ g, S g → g < w.heap.size
  nt : a.tmps.size = σ.n
  df : a.defers = []
  fr : ∀ t, t < σ.n → Rep ι S w (σ.fr t) (a.tmps.getD t undef)
  cl : ∀ t id, Has id (σ.fr t) → σ.ob id ≠ .free
  clo : ∀ id' o id, σ.ob id' = .obj o → o.Has id → σ.ob id ≠ .free
  ob : ∀ id o, σ.ob id = .obj o → ObjOk ι S w id o
  dom : ∀ id B, ι id = some B → ∃ o, σ.ob id = .obj o
  inj : ∀ id id' B B' g, ι id = some B → ι id' = some B' → B.g = some g → B'.g = some g → id = id'
  sep : ∀ id B g, ι id = some B → B.g = some g → ¬ S g ∧ (K.own g ∨ K.w0.heap.size ≤ g) ∧ (σ.inc id = false → K.w0.heap.size ≤ g)
  pin : ∀ id h o, σ.pin id = some h → σ.ob id = .obj o → ι id = K.home h
  pf : ∀ id, σ.ob id = .free → σ.pin id = none

def Rel (K : Ctx) (σ : St) (a : Act) (w : World) : Prop := ∃ ι S, RelI K ι S σ a w

theorem RowOk.next {w w' : World} {B : Blk} {e : TypeId} {n : Nat} {R R' : Nat → Value → Prop} (h : RowOk w B e n R) (hw : ∀ g, B.g = some g → w'.heap[g]? = w.heap[g]?) (hR : ∀ j u, R j u → R' j u) : RowOk w' B e n R' := by
  rcases h with h | ⟨g, cur, a, b, c, d, f⟩
  · exact .inl h
  · exact .inr ⟨g, cur, a, by rw [hw g a]; exact b, c, d, fun j hj => let ⟨u, h1, h2, h3⟩ := f j hj; ⟨u, h1, h2, hR j u h3⟩⟩

theorem ObjOk.next {ι ι' : Oid → Option Blk} {S S' : Nat → Prop} {w w' : World} {id : Oid} {o : Cells} (h : ObjOk ι S w id o) (hid : ι' id = ι id) (hw : ∀ B g, ι id = some B → B.g = some g → w'.heap[g]? = w.heap[g]?)
    (hwS : ∀ g, S g → w'.heap[g]? = w.heap[g]?) (hS : ∀ g, S g → S' g) (hι : ∀ id' B, o.Has id' → ι' id' = some B → ι id' = some B) : ObjOk ι' S' w' id o := by
  cases o with
  | row e sz xs =>
    obtain ⟨B, h1, h2, h3⟩ := h
    exact ⟨B, by rw [hid]; exact h1, h2, h3.next (fun g hg => hw B g h1 hg) fun j u hu p hp => (hu p hp).next hwS hS⟩
  | box e xs =>
    obtain ⟨B, g, h1, h2, h3, h4⟩ := h
    exact ⟨B, g, by rw [hid]; exact h1, h2, h3, h4.next (fun g hg => hw B g h1 hg) fun j u hu p hp => (hu p hp).next hwS hS fun id' B' hb => hι id' B' ⟨p, List.mem_of_getElem? hp, hb⟩⟩

/-- Memory changes at the objects M. -/
theorem RelI.gen {K : Ctx} {ι ι' : Oid → Option Blk} {S S' : Nat → Prop} {σ : St} {a : Act} {w w' : World} {ob' : Oid → Slot} {inc' : Oid → Bool} (R : RelI K ι S σ a w) (M : Oid → Prop)
    (hk : Keeps (fun g => ∃ id B, M id ∧ ι id = some B ∧ B.g = some g) w w')
    (hι : ∀ id, ¬ M id → ι' id = ι id) (hob : ∀ id, ¬ M id → ob' id = σ.ob id) (hinc : ∀ id, ¬ M id → inc' id = σ.inc id) (hfree : ∀ id, ob' id = .free → σ.ob id = .free)
    (hS : ∀ g, S g → S' g) (hS' : ∀ g, S' g → S g ∨ w.heap.size ≤ g ∨ ∃ id B, M id ∧ ι id = some B ∧ B.g = some g ∧ ι' id = none ∧ K.w0.heap.size ≤ g) (hSlt : ∀ g, S' g → g < w'.heap.size)
    (hM : ∀ id B, M id → ι' id = some B → ι id = some B ∨ σ.ob id = .free)
    (hobj : ∀ id o, M id → ob' id = .obj o → ObjOk ι' S' w' id o ∧ ∀ id', o.Has id' → ob' id' ≠ .free)
    (hdom : ∀ id B, M id → ι' id = some B → ∃ o, ob' id = .obj o)
    (hinj : ∀ id id' B B' g, M id → ι' id = some B → ι' id' = some B' → B.g = some g → B'.g = some g → id = id')
    (hsep : ∀ id B g, M id → ι' id = some B → B.g = some g → ¬ S' g ∧ (K.own g ∨ K.w0.heap.size ≤ g) ∧ (inc' id = false → K.w0.heap.size ≤ g))
    (hpin : ∀ id h o, M id → σ.pin id = some h → ob' id = .obj o → ι' id = ι id ∧ ∃ o, σ.ob id = .obj o) : RelI K ι' S' { σ with ob := ob', inc := inc' } a w' := by
  have hwS : ∀ g, S g → w'.heap[g]? = w.heap[g]? := fun g hg => hk.block g (R.Slt g hg) fun ⟨id, B, _, h2, h3⟩ => (R.sep id B g h2 h3).1 hg
  have href : ∀ id B, σ.ob id ≠ .free → ι' id = some B → ι id = some B := by
    intro id B hne hB
    by_cases hm : M id
    · exact (hM id B hm hB).resolve_right hne
    · rw [← hι id hm]; exact hB
  have hfr' : ∀ id, σ.ob id ≠ .free → ob' id ≠ .free := fun id h h' => h (hfree id h')
  have hlt : ∀ id B g, ι id = some B → B.g = some g → g < w.heap.size := by
    intro id B g h1 h2
    obtain ⟨o, ho⟩ := R.dom id B h1
    have := R.ob id o ho
    have key : ∀ {e n} {R' : Nat → Value → Prop}, RowOk w B e n R' → g < w.heap.size := by
      intro e n R' hr
      rcases hr with ⟨h, _⟩ | ⟨g', cur, h, hh, _⟩
      · rw [h2] at h; cases h
      · rw [h2] at h
        obtain rfl := Option.some.inj h
        exact (Array.getElem?_eq_some_iff.1 hh).1
    cases o with
    | row e sz xs =>
      obtain ⟨B', h1', _, h3⟩ := this
      rw [h1] at h1'
      obtain rfl := Option.some.inj h1'
      exact key h3
    | box e xs =>
      obtain ⟨B', g', h1', _, _, h3⟩ := this
      rw [h1] at h1'
      obtain rfl := Option.some.inj h1'
      exact key h3
  refine ⟨R.keeps.trans hk fun g hg ⟨id, B, _, h2, h3⟩ => (R.sep id B g h2 h3).2.1.resolve_right (by omega), fun g hg => ?_, hSlt, R.nt, R.df, fun t ht => (R.fr t ht).next hwS hS fun id B hb hB => href id B (R.cl t id hb) hB,
    fun t id hb => hfr' id (R.cl t id hb), fun id' o id ho hb => ?_, fun id o ho => ?_, fun id B hB => ?_, fun id id' B B' g h1 h2 h3 h4 => ?_, fun id B g h1 h2 => ?_, fun id h o hp ho => ?_, fun id hf => R.pf id (hfree id hf)⟩
  · rcases hS' g hg with h | h | ⟨_, _, _, _, _, _, h⟩
    · exact R.S0 g h
    · exact .inr (Nat.le_trans R.keeps.size h)
    · exact .inr h
  · by_cases hm : M id'
    · exact (hobj id' o hm ho).2 id hb
    · simp only [hob id' hm] at ho
      exact hfr' id (R.clo id' o id ho hb)
  · by_cases hm : M id
    · exact (hobj id o hm ho).1
    · simp only [hob id hm] at ho
      refine (R.ob id o ho).next (hι id hm) (fun B g h1 h2 => hk.block g (hlt id B g h1 h2) fun ⟨id2, B2, hm2, h3, h4⟩ => hm (R.inj id id2 B B2 g h1 h3 h2 h4 ▸ hm2)) hwS hS fun id' B hb hB => href id' B (R.clo id o id' ho hb) hB
  · by_cases hm : M id
    · exact hdom id B hm hB
    · rw [hι id hm] at hB
      simp only [hob id hm]
      exact R.dom id B hB
  · by_cases hm : M id
    · exact hinj id id' B B' g hm h1 h2 h3 h4
    · by_cases hm' : M id'
      · exact (hinj id' id B' B g hm' h2 h1 h4 h3).symm
      · rw [hι id hm] at h1
        rw [hι id' hm'] at h2
        exact R.inj id id' B B' g h1 h2 h3 h4
  · by_cases hm : M id
    · exact hsep id B g hm h1 h2
    · rw [hι id hm] at h1
      refine ⟨fun hs => ?_, (R.sep id B g h1 h2).2.1, by simp only [hinc id hm]; exact (R.sep id B g h1 h2).2.2⟩
      rcases hS' g hs with h | h | ⟨id2, B2, hm2, h3, h4, h5, _⟩
      · exact (R.sep id B g h1 h2).1 h
      · have := hlt id B g h1 h2; omega
      · exact hm (R.inj id id2 B B2 g h1 h3 h2 h4 ▸ hm2)
  · by_cases hm : M id
    · obtain ⟨h1, o', h2⟩ := hpin id h o hm hp ho
      rw [h1]; exact R.pin id h o' hp h2
    · rw [hι id hm]
      simp only [hob id hm] at ho
      exact R.pin id h o hp ho
end Go.Proofs.Ytphlaojoehmhaaa
