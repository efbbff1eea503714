/- Own lemmas on memory: slices that are read, rows that are owned, and the walk's laws on make, copy and append in one form. No program text. -/
import Derived.Test.YtphlaojoehmhaaaRows
import Derived.WalkKit
import Derived.Laws.CopyOwn
import Derived.Laws.AppendOwnNone
import Derived.Lib.Hide
import Derived.WalkSpells
import Derived.Deep.DeepMust
import Derived.Deep.QuietTactic
import Derived.BigQuiet
import Derived.StillTailTactics
import Derived.Deep.RegionHeld3
import Derived.WalkLawsBesides
set_option linter.unusedSimpArgs false
set_option linter.unusedVariables false
namespace Go.Proofs.Ytphlaojoehmhaaa
open Go.RowKit

theorem ret_int {k : IntKind} {a b : Int} (h : a = b) : Ending.returned (.int k a) = .returned (.int k b) := by rw [h]
theorem ret_bool {a b : Bool} (h : a = b) : Ending.returned (.bool a) = .returned (.bool b) := by rw [h]

/-- What is known of a slice type's element. -/
class Elem (P : Program) (T : TypeId) (e : outParam TypeId) (size bytes : outParam Nat) (z : outParam (List Value)) : Prop where
  und : P.underlying T = some (.slice e)
  info : ∃ i zv, P.info? e = some i ∧ i.zero = some zv ∧ i.size = size ∧ i.bytes = bytes ∧ zv.cells = z.toArray
  len : z.length = size
  pos : 0 < size
  bpos : 0 < bytes
  one : ∀ u ∈ z, u.oneCell' = true

theorem Elem.of {P : Program} {T e : TypeId} {size bytes : Nat} {z : List Value} (zv : Value) (h1 : P.underlying T = some (.slice e))
    (h2 : (P.info? e).map (fun i => (i.zero, i.size, i.bytes)) = some (some zv, size, bytes)) (h3 : zv.cells = z.toArray) (h4 : z.length = size) (h5 : 0 < size) (h6 : 0 < bytes)
    (h7 : ∀ u ∈ z, u.oneCell' = true) : Elem P T e size bytes z := by
  obtain ⟨i, hi, a, b, c⟩ := info_parts h2
  exact ⟨h1, ⟨i, zv, hi, a, b, c, h3⟩, h4, h5, h6, h7⟩

/-- n times the cells z. -/
def rep (n : Nat) (z : List Value) : List Value := (List.replicate n z).flatten
theorem length_rep (n : Nat) (z : List Value) : (rep n z).length = n * z.length := by simp [rep]
theorem rep_one (n : Nat) (u : Value) : rep n [u] = List.replicate n u := by
  simp only [rep, List.flatten_replicate_singleton]

theorem getElem?_rep (n : Nat) (z : List Value) (hz : 0 < z.length) : ∀ j, (rep n z)[j]? = if j < n * z.length then z[j % z.length]? else none := by
  induction n with
  | zero => intro j; simp [rep]
  | succ n ih =>
    intro j
    have e : rep (n + 1) z = z ++ rep n z := by simp [rep, List.replicate_succ]
    rw [e, List.getElem?_append]
    by_cases h : j < z.length
    · rw [if_pos h, if_pos (by rw [Nat.add_mul]; omega), Nat.mod_eq_of_lt h]
    · rw [if_neg h, ih]
      have e2 : (j - z.length) % z.length = j % z.length := by
        conv => rhs; rw [show j = (j - z.length) + z.length by omega, Nat.add_mod_right]
      rw [e2]
      by_cases h3 : j < (n + 1) * z.length
      · rw [if_pos h3, if_pos (by rw [Nat.add_mul] at h3; omega)]
      · rw [if_neg h3, if_neg (by rw [Nat.add_mul] at h3; omega)]

theorem madeCells_rep (z : List Value) (n : Nat) (hz : 0 < z.length) : (madeCells z.toArray (n * z.length)).toList = rep n z := by
  apply List.ext_getElem?
  intro j
  rw [getElem?_rep n z hz]
  by_cases hj : j < n * z.length
  · rw [if_pos hj]
    simp [madeCells, hj, Nat.mod_lt _ hz]
  · simp [madeCells, hj]

/-- The slice value v, of n elements of sz cells each, reads as the cells xs. -/
def Sl (w : World) (sz : Nat) (v : Value) (n : Nat) (xs : List Value) : Prop :=
  ∃ ao c, v = .slice ao n c ∧ n ≤ c ∧ c ≤ maxLen ∧ xs.length = n * sz ∧ (∀ u ∈ xs, u.oneCell' = true) ∧ (ao = none → n = 0 ∧ c = 0) ∧
    (0 < n → ∃ b off, ao = some ⟨b, off, none⟩) ∧ ∀ ad, ao = some ad → ∀ j u, xs[j]? = some u → w.cell? (ad.add j) = some u

def ints (xs : List Int) : List Value := xs.map (Value.int .i64)
theorem length_ints (xs : List Int) : (ints xs).length = xs.length := by simp [ints]
theorem ints_one (xs : List Int) : ∀ u ∈ ints xs, u.oneCell' = true := ints_oneCell _ _

/-- What is read lies below the heap's end. -/
theorem Sl.below {w w' : World} {sz : Nat} {v : Value} {n : Nat} {xs : List Value} (h : Sl w sz v n xs) (hb : Below w.heap.size w w') : Sl w' sz v n xs := by
  obtain ⟨ao, c, h1, h2, h3, h4, h5, h6, h7, h8⟩ := h
  refine ⟨ao, c, h1, h2, h3, h4, h5, h6, h7, fun ad had j u hu => ?_⟩
  have := h8 ad had j u hu
  rw [hb.cell (World.block_lt_of_cell? w _ this)]; exact this

theorem Sl.grown {w w' : World} {sz : Nat} {v : Value} {n : Nat} {xs : List Value} {row : Option Nat} (h : Sl w sz v n xs) (hb : w.grownBy w' row) (hne : v.ownBlock = none ∨ v.ownBlock ≠ row) : Sl w' sz v n xs := by
  obtain ⟨ao, c, rfl, h2, h3, h4, h5, h6, h7, h8⟩ := h
  refine ⟨ao, c, rfl, h2, h3, h4, h5, h6, h7, fun ad had j u hu => ?_⟩
  have := h8 ad had j u hu
  subst had
  refine hb.cell this ?_
  rcases hne with h | h
  · simp [Value.ownBlock] at h
  · have e : (ad.add j).block = ad.block := by unfold Addr.add; split <;> rfl
    rw [e]; simpa [Value.ownBlock] using h

theorem Sl.len {w : World} {sz : Nat} {v : Value} {n : Nat} {xs : List Value} (h : Sl w sz v n xs) : xs.length = n * sz := by obtain ⟨_, _, _, _, _, h, _⟩ := h; exact h

/-- An owned row can be read. -/
theorem ownSl {w : World} {base : Nat} {e : TypeId} {size : Nat} {v : Value} {n : Nat} {xs : List Value} (h : w.ownsRow base e size v n xs) (h1 : ∀ u ∈ xs, u.oneCell' = true) : Sl w size v n xs := by
  rcases h.2 with ⟨rfl, rfl⟩ | ⟨g, cap, cur, rfl, hb, hg, hnc, hcm, hcs, htake⟩
  · exact ⟨none, 0, rfl, Nat.le_refl _, by simp, h.1, h1, fun _ => ⟨rfl, rfl⟩, fun h => absurd h (by omega), by simp⟩
  · refine ⟨some ⟨g, 0, none⟩, cap, rfl, hnc, hcm, h.1, h1, by simp, fun _ => ⟨g, 0, rfl⟩, fun ad had j u hu => ?_⟩
    obtain rfl := Option.some.inj had
    exact h.cells (g := g) rfl j u hu

theorem own_mono {w : World} {base base' : Nat} {e : TypeId} {size : Nat} {v : Value} {n : Nat} {xs : List Value} (h : w.ownsRow base e size v n xs) (hb : base' ≤ base) : w.ownsRow base' e size v n xs := by
  refine ⟨h.1, ?_⟩
  rcases h.2 with h2 | ⟨g, cap, cur, a, b, r⟩
  · exact .inl h2
  · exact .inr ⟨g, cap, cur, a, by omega, r⟩

/-- What is owned stays owned behind whatever leaves all below it. -/
theorem own_below {w w' : World} {B base : Nat} {e : TypeId} {size : Nat} {v : Value} {n : Nat} {xs : List Value} (h : w.ownsRow base e size v n xs) (hb : Below B w w') (hB : w.heap.size ≤ B) : w'.ownsRow base e size v n xs := by
  refine ⟨h.1, ?_⟩
  rcases h.2 with h2 | ⟨g, cap, cur, a, b, c, r⟩
  · exact .inl h2
  · exact .inr ⟨g, cap, cur, a, b, by rw [hb.block g (Nat.lt_of_lt_of_le (Array.getElem?_eq_some_iff.1 c).1 hB)]; exact c, r⟩

/-- Rows of two element types are two. -/
theorem own_ne {w : World} {base base' : Nat} {e e' : TypeId} {size size' : Nat} {v v' : Value} {n n' : Nat} {xs xs' : List Value} (h : w.ownsRow base e size v n xs) (h' : w.ownsRow base' e' size' v' n' xs') (hne : e ≠ e') :
    v.ownBlock = none ∨ v.ownBlock ≠ v'.ownBlock := by
  rcases h.2 with ⟨rfl, _⟩ | ⟨g, cap, cur, rfl, hb, hg, _⟩
  · exact .inl rfl
  · right
    rcases h'.2 with ⟨rfl, _⟩ | ⟨g', cap', cur', rfl, hb', hg', _⟩
    · simp [Value.ownBlock]
    · simp only [Value.ownBlock]
      intro he
      obtain rfl := Option.some.inj he
      rw [hg] at hg'
      simp at hg'
      exact hne hg'.2

/-- What an operation that writes one row leaves: rules for the walk. -/
theorem grownRules {w w' : World} {row : Option Nat} (hg : w.grownBy w' row) :
    (∀ b o, b < w.heap.size → some b ≠ row → w'.cell? ⟨b, o, none⟩ = w.cell? ⟨b, o, none⟩) ∧ (∀ b o, b < w.heap.size → some b ≠ row → w'.frozen? ⟨b, o, none⟩ = w.frozen? ⟨b, o, none⟩) :=
  ⟨fun b o h hr => World.cell?_of_block (w := w) (hg.block b h hr), fun b o h hr => World.frozen?_of_block (w := w) (hg.block b h hr)⟩

theorem bcell {W w1 : World} (hb : Below W.heap.size W w1) : (∀ b o, b < W.heap.size → w1.cell? ⟨b, o, none⟩ = W.cell? ⟨b, o, none⟩) ∧ (∀ b o, b < W.heap.size → w1.frozen? ⟨b, o, none⟩ = W.frozen? ⟨b, o, none⟩) :=
  ⟨fun b o h => hb.cell (p := ⟨b, o, none⟩) h, fun b o h => hb.frozen (p := ⟨b, o, none⟩) h⟩

section
variable {P : Program} {w : World} {ops : Array Oper} {rest : List Oper} {o : Oper} {a : Act} {Q : Exit → Act → World → Prop}
  {T e : TypeId} {size bytes : Nat} {z : List Value}

/-- Where the row that append leaves lies: in the old one or in a new one. -/
def Fresh (w : World) (v v' : Value) : Prop := v'.ownBlock = v.ownBlock ∨ ∃ k, v'.ownBlock = some k ∧ w.heap.size ≤ k

theorem run_app [E : Elem P T e size bytes z] (ty : TypeId) (base : Nat) (v : Value) (n : Nat) (xs : List Value) (hown : w.ownsRow base e size v n xs)
    (vx : Value) (m : Nat) (news : List Value) (hsl : Sl w size vx m news) (hb : (n + m) * bytes ≤ 140737488355328) (hbase : base ≤ w.heap.size) :
    ∃ v' w', (Builtin.append_ #[T, T] ty #[v, vx]).run P w = .ok v' w' ∧ w'.ownsRow base e size v' (n + m) (xs ++ news) ∧ w.grownBy w' v.ownBlock ∧
      (v' = .slice none 0 0 ↔ v = .slice none 0 0 ∧ m = 0) ∧ Fresh w v v' := by
  obtain ⟨i, zv, hi, hz, hs, hby, hzc⟩ := E.info
  have hm : n + m ≤ maxLen := by
    have : (n + m) * 1 ≤ (n + m) * bytes := Nat.mul_le_mul_left _ E.bpos
    unfold maxLen; omega
  obtain ⟨ao, c, rfl, hmc, hcm, hln, hone, hnil, hpos, hcells⟩ := hsl
  cases ao with
  | none =>
    obtain ⟨rfl, rfl⟩ := hnil rfl
    obtain rfl : news = [] := List.eq_nil_of_length_eq_zero (by simpa using hln)
    refine ⟨v, w, run_append_owned_none w base T ty e i size E.und hi v n xs hown, by simpa using hown, World.grownBy.refl _ _, by simp, .inl rfl⟩
  | some ad =>
    by_cases hroom : ∃ g cap, v = .slice (some ⟨g, 0, none⟩) n cap ∧ n + m ≤ cap
    · obtain ⟨g, cap, rfl, hr⟩ := hroom
      obtain ⟨w', h1, h2, h3⟩ := run_append_fits w base T ty e i size E.und hi hs g n cap xs hown ad m c news hln (hcells ad rfl) hone hr
      exact ⟨_, w', h1, h2, h3, by simp, .inl rfl⟩
    · rcases hown.2 with ⟨rfl, rfl⟩ | ⟨g, cap, cur, rfl, hbg, hg, hnc, hcm', hcs, htake⟩
      · obtain ⟨v', w', h1, h2, h3, h4⟩ := run_append_own (P := P) w w.heap.size T ty e i zv size bytes E.und hi hz hs hby (by rw [hzc]; simpa using E.len) E.pos _ 0 xs
          ⟨hown.1, .inl ⟨rfl, rfl⟩⟩ ad m c news hln (hcells ad rfl) hone hm hb (Nat.le_refl _)
        refine ⟨v', w', h1, own_mono h2 hbase, h3, h4, ?_⟩
        cases hv : v'.ownBlock with
        | none => exact .inl hv
        | some k => exact .inr ⟨k, hv, (h2.lt k hv).1⟩
      · have hgr : cap < n + m := by
          rcases Nat.lt_or_ge cap (n + m) with h | h
          · exact h
          · exact absurd ⟨g, cap, rfl, h⟩ hroom
        obtain ⟨v', w', h1, h2, h3, h4⟩ := run_append_own (P := P) w base T ty e i zv size bytes E.und hi hz hs hby (by rw [hzc]; simpa using E.len) E.pos _ n xs hown ad m c news hln (hcells ad rfl) hone hm hb hbase
        refine ⟨v', w', h1, h2, h3, h4, .inr ?_⟩
        have holds : ∀ j u, xs[j]? = some u → w.cell? ((⟨g, 0, none⟩ : Addr).add j) = some u := hown.cells (g := g) rfl
        have hr := run_append_grow (P := P) w T ty e i zv E.und hi hz ⟨g, 0, none⟩ n cap xs (by rw [hs]; exact hown.1) holds ad m c news (by rw [hs]; exact hln) (hcells ad rfl) hgr (by unfold maxLen at hm; omega) (by rw [hby]; exact growslice_fits hgr hb)
        rw [hr] at h1
        obtain ⟨rfl, _⟩ := Result.ok.inj h1
        exact ⟨_, rfl, Nat.le_refl _⟩

end

/-! ### What a call owns and reads: a list of entries -/

/-- 'box': a block of the call's own, known whole. 'row': a slice of the call's own. 'sl': a slice that is only read. -/
inductive Ent where
  | box (g : Nat) (cs : List Value) (e : TypeId)
  | row (v : Value) (e : TypeId) (sz n : Nat) (xs : List Value)
  | sl (v : Value) (sz n : Nat) (xs : List Value)

def Ent.block : Ent → Option Nat
  | .box g _ _ => some g
  | .row v _ _ _ _ => v.ownBlock
  | .sl v _ _ xs => if xs = [] then none else v.ownBlock

def Ent.ok (B : Nat) (w : World) : Ent → Prop
  | .box g cs e => B ≤ g ∧ w.heap[g]? = some (.cells cs.toArray e (0, 0)) ∧ ∀ u ∈ cs, u.oneCell' = true
  | .row v e sz n xs => w.ownsRow B e sz v n xs ∧ ∀ u ∈ xs, u.oneCell' = true
  | .sl v sz n xs => Sl w sz v n xs

def Ent.read : Ent → Prop
  | .sl _ _ _ _ => True
  | _ => False

def Ent.apart (x y : Ent) : Prop := (x.read ∧ y.read) ∨ x.block = none ∨ x.block ≠ y.block

theorem Ent.apart_symm {x y : Ent} (h : x.apart y) : y.apart x := by
  rcases h with h | h | h
  · exact .inl ⟨h.2, h.1⟩
  · cases hy : y.block with
    | none => exact .inr (.inl hy)
    | some k => exact .inr (.inr (by rw [h, hy]; simp))
  · exact .inr (.inr (Ne.symm h))

structure SH (w0 w : World) (l : List Ent) : Prop where
  below : Below w0.heap.size w0 w
  ok : ∀ x ∈ l, x.ok w0.heap.size w
  apart : l.Pairwise Ent.apart

theorem Sl.lt {w : World} {sz : Nat} {v : Value} {n : Nat} {xs : List Value} (h : Sl w sz v n xs) (hpos : 0 < xs.length) : ∀ k, v.ownBlock = some k → k < w.heap.size := by
  obtain ⟨ao, c, rfl, h2, h3, h4, h5, h6, h7, h8⟩ := h
  intro k hk
  cases ao with
  | none => simp [Value.ownBlock] at hk
  | some ad =>
    simp [Value.ownBlock] at hk
    subst hk
    have := World.block_lt_of_cell? w _ (h8 ad rfl 0 _ (List.getElem?_eq_getElem hpos))
    have e : (ad.add 0).block = ad.block := rfl
    rwa [e] at this

theorem Sl.empty {w w' : World} {sz : Nat} {v : Value} {n : Nat} {xs : List Value} (h : Sl w sz v n xs) (h0 : xs = []) : Sl w' sz v n xs := by
  obtain ⟨ao, c, h1, h2, h3, h4, h5, h6, h7, h8⟩ := h
  exact ⟨ao, c, h1, h2, h3, h4, h5, h6, h7, fun ad _ j u hu => by rw [h0] at hu; simp at hu⟩

theorem Ent.ok_grown {B : Nat} {w w' : World} {row : Option Nat} {x : Ent} (h : x.ok B w) (hg : w.grownBy w' row) (hne : x.block = none ∨ x.block ≠ row) : x.ok B w' := by
  cases x with
  | box g cs e =>
    obtain ⟨h1, h2, h3⟩ := h
    refine ⟨h1, ?_, h3⟩
    rw [hg.block g (Array.getElem?_eq_some_iff.1 h2).1 (by rcases hne with h | h <;> simp [Ent.block] at h; simpa using h)]
    exact h2
  | row v e sz n xs => exact ⟨h.1.kept hg hne, h.2⟩
  | sl v sz n xs =>
    by_cases h0 : xs = []
    · exact Sl.empty h h0
    · exact Sl.grown h hg (by simpa [Ent.block, h0] using hne)

theorem Ent.ok_below {B B' : Nat} {w w' : World} {x : Ent} (h : x.ok B w) (hb : Below w.heap.size w w') : x.ok B w' := by
  cases x with
  | box g cs e =>
    obtain ⟨h1, h2, h3⟩ := h
    refine ⟨h1, ?_, h3⟩
    rw [hb.block g (Array.getElem?_eq_some_iff.1 h2).1]
    exact h2
  | row v e sz n xs => exact ⟨own_below h.1 hb (Nat.le_refl _), h.2⟩
  | sl v sz n xs => exact Sl.below h hb

/-- The blocks of what is owned lie above the base, all below the heap's end. -/
theorem Ent.lt {B : Nat} {w : World} {x : Ent} (h : x.ok B w) : ∀ k, x.block = some k → k < w.heap.size ∧ (x.read ∨ B ≤ k) := by
  cases x with
  | box g cs e =>
    intro k hk
    obtain rfl := Option.some.inj hk
    exact ⟨(Array.getElem?_eq_some_iff.1 h.2.1).1, .inr h.1⟩
  | row v e sz n xs => exact fun k hk => ⟨(h.1.lt k hk).2, .inr (h.1.lt k hk).1⟩
  | sl v sz n xs =>
    intro k hk
    by_cases h0 : xs = []
    · simp [Ent.block, h0] at hk
    · simp [Ent.block, h0] at hk
      exact ⟨Sl.lt h (List.length_pos_iff.2 h0) k hk, .inl trivial⟩

theorem SH.start (w : World) : SH w w [] := ⟨Below.refl _ _, by simp, by simp⟩

/-- A slice that came in. -/
theorem SH.take {w0 w : World} {l : List Ent} (h : SH w0 w l) {sz : Nat} {v : Value} {n : Nat} {xs : List Value} (hs : Sl w sz v n xs) (hl : ∀ x ∈ l, x.read) : SH w0 w (.sl v sz n xs :: l) :=
  ⟨h.below, by simpa using ⟨hs, h.ok⟩, List.pairwise_cons.2 ⟨fun y hy => .inl ⟨trivial, hl y hy⟩, h.apart⟩⟩

theorem SH.below_of {w0 w w' : World} {l : List Ent} (h : SH w0 w l) (hb : Below w.heap.size w w') : SH w0 w' l :=
  ⟨h.below.trans (hb.mono h.below.size), fun x hx => Ent.ok_below (B' := 0) (h.ok x hx) hb, h.apart⟩

theorem below_grown {w w' : World} (h : w.grownBy w' none) : Below w.heap.size w w' := ⟨h.os, h.tape, h.output, h.size, fun k hk => h.block k hk (by simp)⟩
theorem grown_below {w w' : World} (h : Below w.heap.size w w') : w.grownBy w' none := ⟨h.os, h.tape, h.output, h.size, fun k hk _ => h.block k hk⟩

theorem SH.get {w0 w : World} {l : List Ent} (h : SH w0 w l) {i : Nat} {x : Ent} (hi : l[i]? = some x) : x.ok w0.heap.size w := h.ok x (List.mem_of_getElem? hi)

theorem SH.apartAt {w0 w : World} {l : List Ent} (h : SH w0 w l) {i j : Nat} {x y : Ent} (hi : l[i]? = some x) (hj : l[j]? = some y) (hne : i ≠ j) : x.apart y := by
  obtain ⟨hi', rfl⟩ := List.getElem?_eq_some_iff.1 hi
  obtain ⟨hj', rfl⟩ := List.getElem?_eq_some_iff.1 hj
  rcases Nat.lt_or_gt_of_ne hne with hlt | hlt
  · exact List.pairwise_iff_getElem.1 h.apart i j hi' hj' hlt
  · exact Ent.apart_symm (List.pairwise_iff_getElem.1 h.apart j i hj' hi' hlt)

/-- What is forgotten: any sublist in any order, each place once. -/
theorem SH.pick {w0 w : World} {l : List Ent} (h : SH w0 w l) (is : List Nat) (l' : List Ent) (hl : is.map (l[·]?) = l'.map some) (hd : is.Nodup) : SH w0 w l' := by
  have hlen : is.length = l'.length := by have := congrArg List.length hl; simpa using this
  have at_ : ∀ k (hk : k < l'.length), l[is[k]'(by omega)]? = some l'[k] := by
    intro k hk
    have := congrArg (fun m => m[k]?) hl
    simpa [List.getElem?_map, hk, show k < is.length by omega] using this
  refine ⟨h.below, fun x hx => ?_, ?_⟩
  · obtain ⟨k, hk, rfl⟩ := List.getElem_of_mem hx
    exact h.get (at_ k hk)
  · refine List.pairwise_iff_getElem.2 fun i j hi hj hij => h.apartAt (at_ i hi) (at_ j hj) fun e => ?_
    have := (List.pairwise_iff_getElem.1 hd) i j (by omega) (by omega) hij
    exact this e

theorem SH.get1 {w0 w : World} {l : List Ent} (h : SH w0 w l) {i : Nat} {x : Ent} (hi : l[i]? = some x) : SH w0 w [x] := h.pick [i] [x] (by simp [hi]) (by simp)
theorem SH.get2 {w0 w : World} {l : List Ent} (h : SH w0 w l) {i j : Nat} {x y : Ent} (hi : l[i]? = some x) (hj : l[j]? = some y) (hne : i ≠ j) : SH w0 w [x, y] := h.pick [i, j] [x, y] (by simp [hi, hj]) (by simp [hne])

/-- A new entry, of blocks that were not there. -/
theorem SH.add {w0 w w' : World} {l : List Ent} (h : SH w0 w l) (hg : w.grownBy w' none) {y : Ent} (hy : y.ok w0.heap.size w') (hf : ∀ k, y.block = some k → w.heap.size ≤ k) (hr : ¬ y.read) : SH w0 w' (y :: l) := by
  have hb := below_grown hg
  refine ⟨h.below.trans (hb.mono h.below.size), ?_, List.pairwise_cons.2 ⟨fun x hx => ?_, h.apart⟩⟩
  · intro x hx
    rcases List.mem_cons.1 hx with rfl | hx
    · exact hy
    · exact Ent.ok_below (B' := 0) (h.ok x hx) hb
  · cases hyb : y.block with
    | none => exact .inr (.inl hyb)
    | some k =>
      right; right
      intro he
      have hk := hf k hyb
      have hx' := h.ok x hx
      have := (Ent.lt hx' k (by rw [← he]; exact hyb)).1
      omega

/-- One entry is turned, in place or into a new block; all else stays. -/
theorem SH.upd {w0 w w' : World} {l : List Ent} (h : SH w0 w l) {i : Nat} {x y : Ent} (hi : l[i]? = some x) (hx : ¬ x.read) (hg : w.grownBy w' x.block) (hy : y.ok w0.heap.size w')
    (hf : y.block = x.block ∨ ∀ k, y.block = some k → w.heap.size ≤ k) : SH w0 w' (l.set i y) := by
  obtain ⟨hlt, rfl⟩ := List.getElem?_eq_some_iff.1 hi
  have hxo := h.get hi
  have hkeep : ∀ j (hj : j < l.length), j ≠ i → (l[j]).ok w0.heap.size w' ∧ (l[j]).apart y := by
    intro j hj hne
    have hz := h.get (List.getElem?_eq_getElem hj)
    have hap := h.apartAt (List.getElem?_eq_getElem hj) hi hne
    rcases hap with hap | hap
    · exact absurd hap.2 hx
    · refine ⟨Ent.ok_grown hz hg hap, ?_⟩
      rcases hf with hf | hf
      · rw [← hf] at hap
        exact .inr hap
      · cases hzb : (l[j]).block with
        | none => exact .inr (.inl hzb)
        | some k =>
          right; right
          intro he
          have := hf k (by rw [← he]; exact hzb)
          have := (Ent.lt hz k hzb).1
          omega
  refine ⟨h.below.grown hg h.below.size (fun k hk => ?_), ?_, ?_⟩
  · rcases (Ent.lt hxo k hk).2 with h | h
    · exact absurd h hx
    · exact h
  · intro z hz
    obtain ⟨j, hj, rfl⟩ := List.getElem_of_mem hz
    rw [List.length_set] at hj
    rw [List.getElem_set]
    split
    · exact hy
    · exact (hkeep j hj (by omega)).1
  · refine List.pairwise_iff_getElem.2 fun j k hj hk hjk => ?_
    rw [List.length_set] at hj hk
    rw [List.getElem_set, List.getElem_set]
    by_cases h1 : i = j
    · rw [if_pos h1, if_neg (by omega)]
      exact Ent.apart_symm (hkeep k hk (by omega)).2
    · rw [if_neg h1]
      by_cases h2 : i = k
      · rw [if_pos h2]
        exact (hkeep j hj (by omega)).2
      · rw [if_neg h2]
        exact List.pairwise_iff_getElem.1 h.apart j k hj hk hjk

/-- What a callee leaves: new entries. -/
theorem SH.call {w0 w w' : World} {l l' : List Ent} (h : SH w0 w l) (h' : SH w w' l') (hr : ∀ x ∈ l', ∀ k, x.block = some k → w.heap.size ≤ k) : SH w0 w' (l' ++ l) := by
  have hb := h.below_of h'.below
  refine ⟨hb.below, ?_, List.pairwise_append.2 ⟨h'.apart, h.apart, fun x hx z hz => ?_⟩⟩
  · intro x hx
    rcases List.mem_append.1 hx with hx | hx
    · have := h'.ok x hx
      cases x with
      | box g cs e => exact ⟨Nat.le_trans h.below.size this.1, this.2⟩
      | row v e sz n xs => exact ⟨own_mono this.1 h.below.size, this.2⟩
      | sl v sz n xs => exact this
    · exact hb.ok x hx
  · cases hxb : x.block with
    | none => exact .inr (.inl hxb)
    | some k =>
      right; right
      intro he
      have := hr x hx k hxb
      have := (Ent.lt (h.ok z hz) k (by rw [← he]; exact hxb)).1
      omega

/-- A slice that is only read joins: its block is new, or that of another one that is only read. -/
theorem SH.addSl {w0 w : World} {l : List Ent} (h : SH w0 w l) {v : Value} {sz n : Nat} {xs : List Value} (hs : Sl w sz v n xs)
    (hf : xs = [] ∨ ∀ z ∈ l, ¬ z.read → z.block ≠ v.ownBlock) : SH w0 w (.sl v sz n xs :: l) := by
  refine ⟨h.below, by simpa using ⟨hs, h.ok⟩, List.pairwise_cons.2 ⟨fun z hz => ?_, h.apart⟩⟩
  by_cases hzr : z.read
  · exact .inl ⟨trivial, hzr⟩
  · rcases hf with hf | hf
    · exact .inr (.inl (by simp [Ent.block, hf]))
    · by_cases h0 : xs = []
      · exact .inr (.inl (by simp [Ent.block, h0]))
      · exact .inr (.inr (by simpa [Ent.block, h0] using Ne.symm (hf z hz hzr)))

/-- An owned row, from now on only read. -/
theorem Ent.ok_sl {B : Nat} {w : World} {v : Value} {e : TypeId} {sz n : Nat} {xs : List Value} (h : (Ent.row v e sz n xs).ok B w) : Sl w sz v n xs := ownSl h.1 h.2

theorem SH.toSl {w0 w : World} {l : List Ent} (h : SH w0 w l) {i : Nat} {v : Value} {e : TypeId} {sz n : Nat} {xs : List Value} (hi : l[i]? = some (.row v e sz n xs)) : SH w0 w (l.set i (.sl v sz n xs)) := by
  obtain ⟨hlt, hli⟩ := List.getElem?_eq_some_iff.1 hi
  have hxo := h.get hi
  refine ⟨h.below, fun z hz => ?_, List.pairwise_iff_getElem.2 fun j k hj hk hjk => ?_⟩
  · obtain ⟨j, hj, rfl⟩ := List.getElem_of_mem hz
    rw [List.length_set] at hj
    rw [List.getElem_set]
    split
    · exact Ent.ok_sl hxo
    · exact h.get (List.getElem?_eq_getElem hj)
  · rw [List.length_set] at hj hk
    rw [List.getElem_set, List.getElem_set]
    have key : ∀ z : Ent, z.apart (.row v e sz n xs) → z.apart (.sl v sz n xs) := by
      intro z hz
      rcases hz with hz | hz
      · exact hz.2.elim
      · by_cases h0 : xs = []
        · exact Ent.apart_symm (.inr (.inl (by simp [Ent.block, h0])))
        · exact .inr (by simpa [Ent.block, h0] using hz)
    by_cases h1 : i = j
    · rw [if_pos h1, if_neg (by omega)]
      exact Ent.apart_symm (key _ (h.apartAt (List.getElem?_eq_getElem hk) hi (by omega)))
    · rw [if_neg h1]
      by_cases h2 : i = k
      · rw [if_pos h2]
        exact key _ (h.apartAt (List.getElem?_eq_getElem hj) hi (by omega))
      · rw [if_neg h2]
        exact List.pairwise_iff_getElem.1 h.apart j k hj hk hjk

theorem SH.sl {w0 w : World} {l : List Ent} (h : SH w0 w l) {i : Nat} {v : Value} {sz n : Nat} {xs : List Value} (hi : l[i]? = some (.sl v sz n xs)) : Sl w sz v n xs := h.get hi
theorem SH.rowSl {w0 w : World} {l : List Ent} (h : SH w0 w l) {i : Nat} {v : Value} {e : TypeId} {sz n : Nat} {xs : List Value} (hi : l[i]? = some (.row v e sz n xs)) : Sl w sz v n xs := Ent.ok_sl (h.get hi)

theorem Sl.one {w : World} {sz : Nat} {v : Value} {n : Nat} {xs : List Value} (h : Sl w sz v n xs) : v.oneCell' = true := by obtain ⟨_, _, rfl, _⟩ := h; rfl
theorem own_one {w : World} {base : Nat} {e : TypeId} {sz : Nat} {v : Value} {n : Nat} {xs : List Value} (h : w.ownsRow base e sz v n xs) : v.oneCell' = true := by
  rcases h.2 with ⟨rfl, _⟩ | ⟨_, _, _, rfl, _⟩ <;> rfl

/-! ### The laws -/

/-- What is known of a type: an aggregate or not; its zero cells. -/
class Ty (P : Program) (t : TypeId) (agg : outParam Bool) (z : outParam (List Value)) : Prop where
  isagg : ∀ w, (isAgg t).run P w = .ok agg w
  info : ∃ i zv, P.info? t = some i ∧ i.zero = some zv ∧ i.size = z.length ∧ zv.cells = z.toArray
  one : ∀ u ∈ z, u.oneCell' = true

theorem Ty.of {P : Program} {t : TypeId} {agg : Bool} {z : List Value} {bytes : Nat} (zv : Value) {d : TypeDesc} (h1 : P.underlying t = some d) (hd : (match d with | .struct _ | .array _ _ => true | _ => false) = agg)
    (h2 : (P.info? t).map (fun i => (i.zero, i.size, i.bytes)) = some (some zv, z.length, bytes)) (h3 : zv.cells = z.toArray) (h4 : ∀ u ∈ z, u.oneCell' = true) : Ty P t agg z := by
  obtain ⟨i, hi, a, b, c⟩ := info_parts h2
  refine ⟨fun w => ?_, ⟨i, zv, hi, a, b, h3⟩, h4⟩
  subst hd
  cases d <;> simp [isAgg, run_underlying h1]

section
variable {P : Program} {w0 w : World} {l : List Ent} {ops : Array Oper} {rest : List Oper} {o : Oper} {a : Act} {Q : Exit → Act → World → Prop}
  {t e : TypeId} {agg : Bool} {z : List Value}

theorem wpl_value {v : Value} {w' : World} (hgd : Region.wanted o (yielded ops a.tmps) = true) (hrun : (execOp a.eval o).run P w = .ok (.value v) w') (h : wpList P ops Q rest (a.put o.dst v) w') : wpList P ops Q (o :: rest) a w :=
  BigFrame.wpList_want hgd fun K hK => by unfold Oper.wp; rw [hrun]; exact hK _ _ h
theorem wpl_skip {w' : World} (hgd : Region.wanted o (yielded ops a.tmps) = true) (hrun : (execOp a.eval o).run P w = .ok .skip w') (h : wpList P ops Q rest (a.put o.dst undef) w') : wpList P ops Q (o :: rest) a w :=
  BigFrame.wpList_want hgd fun K hK => by unfold Oper.wp; rw [hrun]; exact hK _ _ h

theorem run_box (x : Operand) (ho : o.op = Op.box e x) {cs : List Value} (hx : (a.eval x).cells = cs.toArray) :
    (execOp a.eval o).run P w = .ok (.value (.pointer (some ⟨w.heap.size, 0, none⟩))) (w.alloc (.cells cs.toArray e)) := by
  simp [execOp, ho, Instr.box, newVar, newRow, hx]

theorem lk_box (H : SH w0 w l) (hgd : Region.wanted o (yielded ops a.tmps) = true) (x : Operand) (ho : o.op = Op.box e x) (cs : List Value) (hx : (a.eval x).cells = cs.toArray) (h1 : ∀ u ∈ cs, u.oneCell' = true)
    (h : ∀ g w', SH w0 w' (.box g cs e :: l) → wpList P ops Q rest (a.put o.dst (.pointer (some ⟨g, 0, none⟩))) w') : wpList P ops Q (o :: rest) a w := by
  refine wpl_value hgd (run_box x ho hx) (h _ _ (H.add (World.grownBy_alloc w _ none) ⟨H.below.size, heap_alloc_new w _, h1⟩ ?_ id))
  intro k hk
  obtain rfl := Option.some.inj hk
  exact Nat.le_refl _

theorem lk_alloc [T : Ty P e agg z] (H : SH w0 w l) (hgd : Region.wanted o (yielded ops a.tmps) = true) (ho : o.op = Op.alloc e)
    (h : ∀ g w', SH w0 w' (.box g z e :: l) → wpList P ops Q rest (a.put o.dst (.pointer (some ⟨g, 0, none⟩))) w') : wpList P ops Q (o :: rest) a w := by
  obtain ⟨i, zv, hi, hz, hs, hc⟩ := T.info
  have hrun : (execOp a.eval o).run P w = .ok (.value (.pointer (some ⟨w.heap.size, 0, none⟩))) (w.alloc (.cells z.toArray e)) := by
    simp [execOp, ho, Instr.alloc, zeroValue, typeInfo, hi, hz, newVar, newRow, hc]
  refine wpl_value hgd hrun (h _ _ (H.add (World.grownBy_alloc w _ none) ⟨H.below.size, heap_alloc_new w _, T.one⟩ ?_ id))
  intro k hk
  obtain rfl := Option.some.inj hk
  exact Nat.le_refl _
end

/-! ### A region that draws its order: what each operation of its head yields is said ahead; whatever order is picked, all of it holds at the end -/

/-- What is said of an operation's value, in the world as it stands from then on. -/
abbrev Fact := Value → World → Prop
def Det (e : Value) : Fact := fun v _ => v = e
def Fact.stable (f : Fact) : Prop := ∀ v w w', Below w.heap.size w w' → f v w → f v w'
theorem Det.stable (e : Value) : (Det e).stable := fun _ _ _ _ h => h

def Yields (P : Program) (o : Oper) (ρ : Operand → Value) (w : World) (Post : Value → World → Prop) : Prop :=
  match (execOp ρ o).run P w with
  | .ok (.value v) w' => Post v w'
  | .ok .skip w' => Post undef w'
  | .ok (.enter f args) w' => Calls P f args w' fun e w'' => ∃ v, e = .returned v ∧ Post v w''
  | _ => False

theorem wp_of_yields {P : Program} {o : Oper} {a : Act} {w : World} {K : Act → World → Prop} {Q : Exit → Act → World → Prop} {Post : Value → World → Prop}
    (h : Yields P o a.eval w Post) (hK : ∀ v w', Post v w' → K (a.put o.dst v) w') : o.wp P a w K Q := by
  unfold Yields at h
  unfold Oper.wp
  generalize (execOp a.eval o).run P w = r at *
  cases r with
  | ok n w' =>
    cases n <;> simp only [Oper.upon] <;> try exact h.elim
    case value v => exact hK _ _ h
    case skip => exact hK _ _ h
    case enter f args => exact h.mono fun e w'' ⟨v, he, hp⟩ => by subst he; exact hK _ _ hp
  | halt x w' => exact h.elim

/-- The frame with every place of the head written. -/
def putAll : List Oper → (Nat → Value) → Nat → Act → Act
  | [], _, _, a => a
  | o :: l, ω, k, a => putAll l ω (k + 1) (a.put o.dst (ω k))

def Deps (fs : List Fact) (ω : Nat → Value) (w : World) : List Edge → Prop
  | [] => True
  | e :: es => (match fs[e.on]? with | some f => f (ω e.on) w | none => True) ∧ Deps fs ω w es

def AllF (ω : Nat → Value) (w : World) : List Fact → Nat → Prop
  | [], _ => True
  | f :: fs, k => f (ω k) w ∧ AllF ω w fs (k + 1)

/-- What is asked of one operation. -/
def Obl (P : Program) (ops : Array Oper) (fr : (Nat → Value) → Act) (fs : List Fact) (ws : World) (o : Oper) (f : Fact) : Prop :=
  ∀ (ω : Nat → Value) (w : World), Below ws.heap.size ws w → Deps fs ω w o.after.toList →
    if Region.wanted o (yielded ops (fr ω).tmps) then Yields P o (fr ω).eval w (fun v w' => Below w.heap.size w w' ∧ f v w') else f undef w

def Obls (P : Program) (ops : Array Oper) (fr : (Nat → Value) → Act) (fs : List Fact) (ws : World) : List Oper → List Fact → Prop
  | o :: l, f :: gs => Obl P ops fr fs ws o f ∧ Obls P ops fr fs ws l gs
  | [], [] => True
  | _, _ => False

/-- The checks on a region's operations, by reckoning: n: the head's length. -/
def headB (ops : Array Oper) (n : Nat) : Bool :=
  decide (n ≤ ops.size) && (decide (n = ops.size) || (Region.sinkB .any ops n && Region.chainB .any ops n)) &&
  Region.seqB .any ops (ops.size - n) n (Array.ofFn (n := ops.size) fun i => decide (i.1 < n)) &&
  ((List.range n).all fun j => match ops[j]? with | some o => o.after.toList.all (fun e => Region.binds .any e && decide (e.on < j)) | none => false) &&
  ((List.range n).all fun i => (List.range n).all fun j => decide (i = j) || match ops[i]?, ops[j]? with
    | some oi, some oj => (match oi.dst, oj.dst with | some d, some d' => d != d' | _, _ => true)
    | _, _ => false)

theorem putAll_append (l l' : List Oper) (ω : Nat → Value) : ∀ (k : Nat) (a : Act), putAll (l ++ l') ω k a = putAll l' ω (k + l.length) (putAll l ω k a) := by
  induction l with
  | nil => intro k a; simp [putAll]
  | cons o l ih => intro k a; simp only [List.cons_append, putAll, ih, List.length_cons]; congr 1; omega

theorem putAll_congr (l : List Oper) (ω ω' : Nat → Value) : ∀ (k : Nat) (a : Act), (∀ i, k ≤ i → i < k + l.length → ω i = ω' i) → putAll l ω k a = putAll l ω' k a := by
  induction l with
  | nil => intros; rfl
  | cons o l ih =>
    intro k a h
    simp only [putAll]
    rw [h k (Nat.le_refl _) (by simp), ih (k + 1) _ fun i h1 h2 => h i (by omega) (by simp at h2 ⊢; omega)]

theorem put_put_same (a : Act) (d : Option Tmp) (u v : Value) : (a.put d u).put d v = a.put d v := by
  cases d with
  | none => rfl
  | some d => simp [Act.put]

theorem putAll_put (l : List Oper) (ω : Nat → Value) (d : Option Tmp) (v : Value) : ∀ (k : Nat) (a : Act), (∀ o ∈ l, ∀ x, d = some x → o.dst ≠ some x) → (putAll l ω k a).put d v = putAll l ω k (a.put d v) := by
  induction l with
  | nil => intros; rfl
  | cons o l ih =>
    intro k a h
    simp only [putAll]
    rw [ih (k + 1) _ fun o' ho' => h o' (List.mem_cons_of_mem _ ho')]
    congr 1
    refine Act.put_comm a (ω k) v fun x hx hd => ?_
    exact h o List.mem_cons_self x hd hx

/-- One place written again. -/
theorem putAll_set (l : List Oper) (ω : Nat → Value) (j : Nat) (o : Oper) (v : Value) (a : Act) (hj : l[j]? = some o)
    (hd : ∀ (i : Nat) (oi : Oper), l[i]? = some oi → i ≠ j → ∀ x, o.dst = some x → oi.dst ≠ some x) :
    (putAll l ω 0 a).put o.dst v = putAll l (fun i => if i = j then v else ω i) 0 a := by
  obtain ⟨hlt, rfl⟩ := List.getElem?_eq_some_iff.1 hj
  have e : l = l.take j ++ l[j] :: l.drop (j + 1) := by rw [← List.drop_eq_getElem_cons hlt, List.take_append_drop]
  have hlen : (l.take j).length = j := by rw [List.length_take]; omega
  have hh : ∀ ω' : Nat → Value, putAll l ω' 0 a = putAll (l.drop (j + 1)) ω' (j + 1) ((putAll (l.take j) ω' 0 a).put l[j].dst (ω' j)) := by
    intro ω'
    conv => lhs; rw [e]
    rw [putAll_append, hlen, Nat.zero_add]
    rfl
  rw [hh ω, hh (fun i => if i = j then v else ω i)]
  rw [putAll_put _ _ _ _ _ _ (fun o' ho' x hx => ?_)]
  · rw [put_put_same]
    simp only [if_true]
    rw [putAll_congr (l.drop (j + 1)) ω (fun i => if i = j then v else ω i) _ _ (fun i h1 _ => by rw [if_neg (by omega)]),
      putAll_congr (l.take j) ω (fun i => if i = j then v else ω i) _ _ (fun i _ h2 => by rw [hlen] at h2; rw [if_neg (by omega)])]
  · obtain ⟨i, hi, rfl⟩ := List.getElem_of_mem ho'
    rw [List.getElem_drop]
    rw [List.length_drop] at hi
    exact hd (j + 1 + i) _ (List.getElem?_eq_getElem (by omega)) (by omega) x hx

theorem Obls.get {P : Program} {ops : Array Oper} {fr : (Nat → Value) → Act} {fs : List Fact} {ws : World} : ∀ {l : List Oper} {gs : List Fact}, Obls P ops fr fs ws l gs →
    l.length = gs.length ∧ ∀ (j : Nat) (o : Oper) (f : Fact), l[j]? = some o → gs[j]? = some f → Obl P ops fr fs ws o f
  | [], [], _ => ⟨rfl, by simp⟩
  | [], _ :: _, h => h.elim
  | _ :: _, [], h => h.elim
  | o :: l, f :: gs, h => by
    have ih := Obls.get h.2
    refine ⟨by simp [ih.1], fun j o' f' ho hf => ?_⟩
    cases j with
    | zero => simp at ho hf; subst ho; subst hf; exact h.1
    | succ j => exact ih.2 j o' f' (by simpa using ho) (by simpa using hf)

theorem allF_of {ω : Nat → Value} {w : World} : ∀ (fs : List Fact) (k : Nat), (∀ (j : Nat) (f : Fact), fs[j]? = some f → f (ω (k + j)) w) → AllF ω w fs k
  | [], _, _ => trivial
  | f :: fs, k, h => ⟨h 0 f (by simp), allF_of fs (k + 1) fun j g hg => by have := h (j + 1) g (by simpa using hg); rwa [show k + 1 + j = k + (j + 1) by omega]⟩

theorem deps_of {fs : List Fact} {ω : Nat → Value} {w : World} : ∀ (es : List Edge), (∀ e ∈ es, ∀ f, fs[e.on]? = some f → f (ω e.on) w) → Deps fs ω w es
  | [], _ => trivial
  | e :: es, h => ⟨by (split <;> first | (rename_i f hf; exact h e List.mem_cons_self f hf) | trivial), deps_of es fun e' he' => h e' (List.mem_cons_of_mem _ he')⟩

theorem wp_region_facts {P : Program} {id : Nat} {Q : Exit → Act → World → Prop} {a : Act} {w : World} {l : List Oper} (n : Nat) (fs : List Fact)
    (hm : P.follows .mixedOrders = true) (hB : headB l.toArray n = true) (hs : ∀ f ∈ fs, f.stable)
    (fr : (Nat → Value) → Act) (hfr : ∀ ω, putAll (l.take n) ω 0 a = fr ω) (ho : Obls P l.toArray fr fs w.drew (l.take n) fs)
    (hend : ∀ (ω : Nat → Value) (w' : World), Below w.drew.heap.size w.drew w' → AllF ω w' fs 0 → wpList P l.toArray Q (l.drop n) (fr ω) w') :
    (Code.region id l.toArray true).wp P Q a w := by
  obtain rfl : (fun ω => putAll (l.take n) ω 0 a) = fr := funext hfr
  simp only [headB, Bool.and_eq_true, decide_eq_true_eq, Bool.or_eq_true, List.all_eq_true, List.mem_range] at hB
  obtain ⟨⟨⟨⟨hn, hsc⟩, hseq⟩, hedge⟩, hdst⟩ := hB
  have hsz : l.toArray.size = l.length := by simp
  obtain ⟨hlen, hobl⟩ := ho.get
  have htk : (l.take n).length = n := by rw [List.length_take]; omega
  have hgetT : ∀ (j : Nat) (o : Oper), j < n → l.toArray[j]? = some o → (l.take n)[j]? = some o := by
    intro j o hj ho
    rw [List.getElem?_take, if_pos hj]
    simpa using ho
  have hd : ∀ (j : Nat) (oj : Oper), (l.take n)[j]? = some oj → ∀ (i : Nat) (oi : Oper), (l.take n)[i]? = some oi → i ≠ j → ∀ x, oj.dst = some x → oi.dst ≠ some x := by
    intro j oj hj i oi hi hne x hx hx'
    have hjn := (List.getElem?_eq_some_iff.1 hj).1
    have hin := (List.getElem?_eq_some_iff.1 hi).1
    rw [htk] at hjn hin
    have h := hdst i hin j hjn
    rw [List.getElem?_take, if_pos hjn] at hj
    rw [List.getElem?_take, if_pos hin] at hi
    have hi' : l.toArray[i]? = some oi := by simpa using hi
    have hj' : l.toArray[j]? = some oj := by simpa using hj
    rw [hi', hj'] at h
    simp [hne, hx, hx'] at h
  refine wp_region_any hm ?_
  have key : ∀ (f : Nat) (listed : Array Bool) (ω : Nat → Value) (w' : World), HeadInv .any l.toArray n listed → (((List.range n).filter fun i => !listed.getD i true).length = f) →
      Below w.drew.heap.size w.drew w' → (∀ (j : Nat) (g : Fact), listed.getD j false = true → fs[j]? = some g → g (ω j) w') →
      wpAny P .any l.toArray Q (f + (l.toArray.size - n)) listed (putAll (l.take n) ω 0 a) w' := by
    intro f
    induction f with
    | zero =>
      intro listed ω w' inv hc hb hf
      have hall : ∀ i, i < n → listed.getD i true = true := by
        intro i hi
        have h0 := List.eq_nil_of_length_eq_zero hc
        have := List.filter_eq_nil_iff.1 h0 i (List.mem_range.2 hi)
        simpa using this
      have hcanon : listed = Array.ofFn (n := l.toArray.size) fun i => decide (i.1 < n) := by
        apply Array.ext
        · simp [inv.size]
        · intro i h1 h2
          simp only [Array.getElem_ofFn]
          by_cases hi : i < n
          · have := hall i hi
            simp [h1] at this
            simp [this, hi]
          · have := inv.tail i (by omega) (by rw [inv.size] at h1; exact h1)
            simp [h1] at this
            simp [this, hi]
      rw [Nat.zero_add]
      have hw := hend ω w' hb (allF_of fs 0 fun j g hg => by
        rw [Nat.zero_add]
        refine hf j g ?_ hg
        have hjn : j < n := by have := (List.getElem?_eq_some_iff.1 hg).1; omega
        have h1 := hall j hjn
        have h2 : j < listed.size := by rw [inv.size]; omega
        simp [h2] at h1 ⊢
        exact h1)
      have hdl : (l.drop n).length = l.toArray.size - n := by simp
      have := wpAny_of_seq (md := .any) (Q' := Q) (l.drop n) n listed _ w' (fun j => by simp [List.getElem?_drop]) (by rw [hdl, hcanon]; exact hseq) hw
      rwa [hdl] at this
    | succ f ih =>
      intro listed ω w' inv hc hb hf
      have hex : ∃ i, i < n ∧ listed.getD i true = false := by
        cases hL : (List.range n).filter fun i => !listed.getD i true with
        | nil => rw [hL] at hc; simp at hc
        | cons i r =>
          have : i ∈ (List.range n).filter fun i => !listed.getD i true := by rw [hL]; exact List.mem_cons_self
          rw [List.mem_filter] at this
          exact ⟨i, List.mem_range.1 this.1, by simpa using this.2⟩
      have hnotail : ∀ t, n ≤ t → t ∉ Region.ready .any l.toArray listed := by
        intro t ht
        rcases hsc with he | ⟨hsk, hch⟩
        · intro hr
          obtain ⟨_, ot, hot, _⟩ := mem_ready.1 hr
          have := (Array.getElem?_eq_some_iff.1 hot).1
          omega
        · by_cases hlt : n < l.toArray.size
          · obtain ⟨i, hi, hun⟩ := hex
            exact tail_waits hsk hch hlt inv _ i rfl hi hun t ht
          · intro hr
            obtain ⟨_, ot, hot, _⟩ := mem_ready.1 hr
            have := (Array.getElem?_eq_some_iff.1 hot).1
            omega
      have hfirst : ∀ i, i < n → listed.getD i true = false → ∃ k, k ∈ Region.ready .any l.toArray listed := by
        intro i
        induction i using Nat.strongRecOn with
        | _ i ihi =>
          intro hi hun
          by_cases hp : ∃ k, k < i ∧ listed.getD k true = false
          · obtain ⟨k, hk, hku⟩ := hp
            exact ihi k hk (by omega) hku
          · have hlt : i < l.toArray.size := by omega
            refine ⟨i, mem_ready.2 ⟨hun, l.toArray[i], Array.getElem?_eq_getElem hlt, fun e he _ => ?_⟩⟩
            have h1 := hedge i hi
            rw [Array.getElem?_eq_getElem hlt] at h1
            have h2 := (List.all_eq_true.1 h1) e (by simpa using he)
            simp only [Bool.and_eq_true, decide_eq_true_eq] at h2
            have h3 : listed.getD e.on true = true := by
              cases hx : listed.getD e.on true with
              | true => rfl
              | false => exact absurd ⟨e.on, h2.2, hx⟩ hp
            have h4 : e.on < listed.size := by rw [inv.size]; omega
            simp [h4] at h3 ⊢
            exact h3
      rw [show f + 1 + (l.toArray.size - n) = (f + (l.toArray.size - n)) + 1 by omega]
      refine ⟨fun h0 => ?_, fun j hj => ?_⟩
      · obtain ⟨i, hi, hun⟩ := hex
        obtain ⟨k, hk⟩ := hfirst i hi hun
        rw [h0] at hk
        cases hk
      · have hjn : j < n := by
          rcases Nat.lt_or_ge j n with h | h
          · exact h
          · exact absurd hj (hnotail j h)
        obtain ⟨hjun, oj, hoj, hall⟩ := mem_ready.1 hj
        have hojT := hgetT j oj hjn hoj
        have hfj : j < fs.length := by omega
        have hO := hobl j oj fs[j] hojT (List.getElem?_eq_getElem hfj)
        have hdeps : Deps fs ω w' oj.after.toList := deps_of _ fun e he g hg => by
          have he' : e ∈ oj.after := by simpa using he
          have h1 := hedge j hjn
          rw [hoj] at h1
          have h2 := (List.all_eq_true.1 h1) e he
          simp only [Bool.and_eq_true, decide_eq_true_eq] at h2
          exact hf e.on g (hall e he' h2.1) hg
        have hO := hO ω w' hb hdeps
        have hcnt : ((List.range n).filter fun i => !(listed.setIfInBounds j true).getD i true).length = f := by
          have hjs : j < listed.size := by rw [inv.size]; omega
          have e1 : ((List.range n).filter fun i => !(listed.setIfInBounds j true).getD i true) = ((List.range n).filter fun i => !listed.getD i true).filter fun i => i != j := by
            rw [List.filter_filter]
            apply List.filter_congr
            intro i _
            by_cases hij : j = i
            · subst hij; simp [hjs]
            · rw [getD_set_ne true hij]; simp [Ne.symm hij]
          rw [e1]
          have hnd : ((List.range n).filter fun i => !listed.getD i true).Nodup := List.Pairwise.filter _ List.nodup_range
          have hmem : j ∈ (List.range n).filter fun i => !listed.getD i true := by rw [List.mem_filter]; exact ⟨List.mem_range.2 hjn, by simpa using hjun⟩
          have := List.length_erase_of_mem hmem
          rw [hnd.erase_eq_filter] at this
          rw [this, hc]
          rfl
        have hnext : ∀ (v : Value) (w'' : World), Below w'.heap.size w' w'' → fs[j] v w'' →
            wpAny P .any l.toArray Q (f + (l.toArray.size - n)) (listed.setIfInBounds j true) ((putAll (l.take n) ω 0 a).put oj.dst v) w'' := by
          intro v w'' hb' hfv
          rw [putAll_set (l.take n) ω j oj v a hojT (fun i oi hi hne x hx => hd j oj hojT i oi hi hne x hx)]
          refine ih _ _ w'' (inv.set hj hjn) hcnt (hb.trans (hb'.mono hb.size)) fun i g hl hg => ?_
          by_cases hij : i = j
          · subst hij
            have : g = fs[i] := by rw [List.getElem?_eq_getElem hfj] at hg; exact (Option.some.inj hg).symm
            subst this
            simpa using hfv
          · simp only [if_neg hij]
            rw [getD_set_ne false (Ne.symm hij)] at hl
            exact hs g (List.mem_of_getElem? hg) _ _ _ hb' (hf i g hl hg)
        unfold wpOp
        simp only [hoj]
        split
        · rename_i hw
          rw [if_pos hw] at hO
          exact .inl (wp_of_yields hO fun v w'' hp => hnext v w'' hp.1 hp.2)
        · rename_i hw
          rw [if_neg hw] at hO
          exact hnext _ _ (Below.refl _ _) hO
  have inv0 : HeadInv .any l.toArray n (Array.replicate l.toArray.size false) :=
    ⟨by simp, fun j oj _ hl => (by rw [getD_replicate_false] at hl; cases hl), fun t _ ht => getD_in (by simpa using ht) (getD_replicate_false _ _)⟩
  -- the frame as it stands: what the head's places hold now
  have hω : ∃ ω : Nat → Value, putAll (l.take n) ω 0 a = a := by
    refine ⟨fun i => match (l.take n)[i]? with | some o => (match o.dst with | some d => a.tmps.getD d undef | none => undef) | none => undef, ?_⟩
    have : ∀ (m : List Oper) (k : Nat), (∀ i, m[i]? = (l.take n)[k + i]?) →
        putAll m (fun i => match (l.take n)[i]? with | some o => (match o.dst with | some d => a.tmps.getD d undef | none => undef) | none => undef) k a = a := by
      intro m
      induction m with
      | nil => intros; rfl
      | cons o m ihm =>
        intro k hk
        simp only [putAll]
        have h0 : (l.take n)[k]? = some o := by have := hk 0; simpa using this.symm
        rw [h0]
        have hp : a.put o.dst (match o.dst with | some d => a.tmps.getD d undef | none => undef) = a := by
          cases o.dst with
          | none => rfl
          | some d =>
            simp only [Act.put]
            have : a.tmps.setIfInBounds d (a.tmps.getD d undef) = a.tmps := by
              apply Array.ext
              · simp
              · intro i h1 h2
                rw [Array.getElem_setIfInBounds]
                split
                · rename_i h; subst h; simp [h2]
                · rfl
            rw [this]
        rw [hp]
        exact ihm (k + 1) fun i => by have := hk (i + 1); rw [show k + 1 + i = k + (i + 1) by omega, ← this]; simp
    exact this _ 0 fun i => by rw [Nat.zero_add]
  obtain ⟨ω0, hω0⟩ := hω
  have hcnt0 : ((List.range n).filter fun i => !(Array.replicate l.toArray.size false).getD i true).length = n := by
    have : ((List.range n).filter fun i => !(Array.replicate l.toArray.size false).getD i true) = List.range n := by
      apply List.filter_eq_self.2
      intro i hi
      have : i < l.toArray.size := by have := List.mem_range.1 hi; omega
      simp only [getD_in (listed := Array.replicate l.toArray.size false) (i := i) (by simpa using this) (getD_replicate_false _ _)]; rfl
    rw [this]; simp
  have := key n _ ω0 w.drew inv0 hcnt0 (Below.refl _ _) (fun j g hl _ => by rw [getD_replicate_false] at hl; cases hl)
  rw [hω0, show n + (l.toArray.size - n) = l.toArray.size by omega] at this
  exact this

/-! ### What the operations yield -/

/-- The address of the cell number j of a slice's elements. -/
def elemPtr (v : Value) (j : Nat) : Value := match v with | .slice (some a) _ _ => .pointer (some (a.add j)) | _ => undef

def CellsAt (w : World) (ad : Addr) (us : List Value) : Prop := ∀ i u, us[i]? = some u → w.cell? (ad.add i) = some u

theorem add_add (ad : Addr) (i j : Nat) : (ad.add i).add j = ad.add (i + j) := by
  unfold Addr.add
  split <;> rename_i h <;> split <;> rename_i h2 <;> simp_all [Nat.add_assoc]

section
variable {P : Program} {w : World} {o : Oper} {ρ : Operand → Value} {t e : TypeId} {z : List Value}

theorem yields_value {Post : Value → World → Prop} {v : Value} {w' : World} (hrun : (execOp ρ o).run P w = .ok (.value v) w') (h : Post v w') : Yields P o ρ w Post := by
  unfold Yields; rw [hrun]; exact h
theorem yields_skip {Post : Value → World → Prop} {w' : World} (hrun : (execOp ρ o).run P w = .ok .skip w') (h : Post undef w') : Yields P o ρ w Post := by
  unfold Yields; rw [hrun]; exact h
theorem yields_call {Post : Value → World → Prop} {f : FuncId} {args : Array Value} {R : Ending → World → Prop} (hrun : (execOp ρ o).run P w = .ok (.enter f args) w) (hc : Calls P f args w R)
    (h : ∀ e w', R e w' → ∃ v, e = .returned v ∧ Post v w') : Yields P o ρ w Post := by
  unfold Yields; rw [hrun]; exact hc.mono h
theorem yields_mono {Post Post' : Value → World → Prop} (h : Yields P o ρ w Post) (hp : ∀ v w', Post v w' → Post' v w') : Yields P o ρ w Post' := by
  unfold Yields at *
  generalize (execOp ρ o).run P w = r at *
  cases r with
  | ok n w' =>
    cases n <;> simp only [] at h ⊢ <;> try exact h
    case value v => exact hp _ _ h
    case skip => exact hp _ _ h
    case enter f args => exact h.mono fun e w'' ⟨v, he, hx⟩ => ⟨v, he, hp _ _ hx⟩
  | halt x w' => exact h

class Cbl (P : Program) (f : FuncId) : Prop where
  out : ∀ args w, (callFunc f args).run P w = .ok (.enter f args) w
class Fld (P : Program) (S : TypeId) (f : Nat) (off : outParam Nat) : Prop where
  out : ∀ ad w, (Instr.fieldAt S (.pointer (some ad)) f).run P w = .ok (.pointer (some (ad.add off))) w

theorem run_call {f : FuncId} [C : Cbl P f] {xs : Array Operand} {ats : Array TypeId} (ho : o.op = .call { callee := .value (.func f), args := xs, argTypes := ats }) (hf : ρ (.func f) = .func (.func f) #[] #[]) :
    (execOp ρ o).run P w = .ok (.enter f (xs.map ρ)) w := by
  have hC := C.out (xs.map ρ) w
  simp only [execOp, ho, resolve, hf, Deferred.ofValue, Sem.run_bind, Sem.run_pure, Result.andThen_ok, invoke, Array.append_empty, Array.empty_append]
  exact hC

theorem run_loadVar1 [T : Ty P t false z] {ad : Addr} {u : Value} (hc : w.cell? ad = some u) : (loadVar t ad).run P w = .ok u w := by
  simp only [loadVar, Sem.run_bind, T.isagg, Result.andThen_ok]
  simp [load, Sem.run, hc]

theorem run_loadVarA [T : Ty P t true z] {ad : Addr} {us : List Value} (hc : CellsAt w ad us) (hl : us.length = z.length) : (loadVar t ad).run P w = .ok (.agg us.toArray) w := by
  obtain ⟨i, zv, hi, hz, hs, hzc⟩ := T.info
  have h := run_loadCells_list (P := P) w ad us hc
  simp only [loadVar, Sem.run_bind, T.isagg, Result.andThen_ok]
  simp [sizeOf, typeInfo, hi, hs, ← hl, h]

theorem run_ld1 [T : Ty P t false z] (x : Operand) (ho : o.op = .load t x) {ad : Addr} (hx : ρ x = .pointer (some ad)) {u : Value} (hc : w.cell? ad = some u) : (execOp ρ o).run P w = .ok (.value u) w := by
  simp [execOp, ho, Instr.loadAt, Instr.sureAddr, hx, run_loadVar1 hc]
theorem run_ldA [T : Ty P t true z] (x : Operand) (ho : o.op = .load t x) {ad : Addr} (hx : ρ x = .pointer (some ad)) {us : List Value} (hc : CellsAt w ad us) (hl : us.length = z.length) :
    (execOp ρ o).run P w = .ok (.value (.agg us.toArray)) w := by
  simp [execOp, ho, Instr.loadAt, Instr.sureAddr, hx, run_loadVarA hc hl]

/-! #### Slices that are read -/

theorem Sl.elem {sz : Nat} {v : Value} {n : Nat} {xs : List Value} (h : Sl w sz v n xs) (hpos : 0 < xs.length) : ∃ ad, (∀ j, elemPtr v j = .pointer (some (ad.add j))) ∧ CellsAt w ad xs := by
  obtain ⟨ao, c, rfl, h2, h3, h4, h5, h6, h7, h8⟩ := h
  have hn : 0 < n := by
    rcases Nat.eq_zero_or_pos n with h | h
    · subst h; simp at h4; rw [h4] at hpos; simp at hpos
    · exact h
  obtain ⟨b, off, rfl⟩ := h7 hn
  exact ⟨⟨b, off, none⟩, fun j => rfl, fun i u hu => h8 _ rfl i u hu⟩

theorem run_ix {T : TypeId} {size bytes : Nat} [E : Elem P T e size bytes z] {v : Value} {n : Nat} {xs : List Value} (h : Sl w size v n xs) (x i : Operand) (ho : o.op = .indexAddr T x i) (hx : ρ x = v)
    {k : IntKind} {I : Int} (j : Nat) (hi : ρ i = .int k I) (hI : I = (j : Int)) (hj : j < n) : (execOp ρ o).run P w = .ok (.value (elemPtr v (j * size))) w := by
  obtain ⟨inf, zv, hinf, _, hs, _⟩ := E.info
  obtain ⟨ao, c, rfl, h2, h3, h4, h5, h6, h7, h8⟩ := h
  obtain ⟨b, off, rfl⟩ := h7 (by omega)
  subst hI
  simp [execOp, ho, Instr.indexAt, hx, hi, asIntOf, run_underlying E.und, sizeOf, typeInfo, hinf, hs, hj, elemPtr]

theorem run_el1 [T : Ty P t false z] {sz : Nat} {v : Value} {n : Nat} {xs : List Value} (h : Sl w sz v n xs) (x : Operand) (ho : o.op = .load t x) (j : Nat) (hx : ρ x = elemPtr v j) {u : Value} (hu : xs[j]? = some u) :
    (execOp ρ o).run P w = .ok (.value u) w := by
  obtain ⟨ad, h1, h2⟩ := h.elem (by have := (List.getElem?_eq_some_iff.1 hu).1; omega)
  rw [h1] at hx
  exact run_ld1 x ho hx (h2 j u hu)

theorem run_elA [T : Ty P t true z] {sz : Nat} {v : Value} {n : Nat} {xs : List Value} (h : Sl w sz v n xs) (x : Operand) (ho : o.op = .load t x) (j : Nat) (hx : ρ x = elemPtr v j) (us : List Value)
    (hus : (xs.drop j).take z.length = us) (hl : us.length = z.length) (hz : 0 < z.length) : (execOp ρ o).run P w = .ok (.value (.agg us.toArray)) w := by
  have hlen : j < xs.length := by
    rcases Nat.lt_or_ge j xs.length with h | h
    · exact h
    · rw [List.drop_of_length_le h] at hus; simp at hus; subst hus; simp at hl; omega
  obtain ⟨ad, h1, h2⟩ := h.elem (by omega)
  rw [h1] at hx
  refine run_ldA x ho hx (fun i u hu => ?_) hl
  rw [add_add]
  refine h2 _ _ ?_
  subst hus
  rw [List.getElem?_take] at hu
  split at hu
  · rwa [List.getElem?_drop] at hu
  · cases hu

theorem run_fld {S : TypeId} {f off : Nat} [F : Fld P S f off] (x : Operand) (ho : o.op = .fieldAddr S x f) {ad : Addr} (hx : ρ x = .pointer (some ad)) :
    (execOp ρ o).run P w = .ok (.value (.pointer (some (ad.add off)))) w := by
  simp [execOp, ho, hx, F.out ad w]

/-- The address of a field of a slice's element. -/
theorem run_elf {S : TypeId} {f off : Nat} [F : Fld P S f off] {sz : Nat} {v : Value} {n : Nat} {xs : List Value} (h : Sl w sz v n xs) (x : Operand) (ho : o.op = .fieldAddr S x f) (j : Nat) (hx : ρ x = elemPtr v j) (hj : j < xs.length) :
    (execOp ρ o).run P w = .ok (.value (elemPtr v (j + off))) w := by
  obtain ⟨ad, h1, h2⟩ := h.elem (by omega)
  rw [h1] at hx
  rw [h1, ← add_add]
  exact run_fld x ho hx

theorem run_len {T : TypeId} {sz : Nat} {v : Value} {n : Nat} {xs : List Value} (hu : P.underlying T = some (.slice e)) (h : Sl w sz v n xs) (x : Operand) (ho : o.op = .call { callee := .builtin .len, args := #[x], argTypes := #[T] })
    (hx : ρ x = v) : (execOp ρ o).run P w = .ok (.value (.int .i64 (n : Int))) w := by
  obtain ⟨ao, c, rfl, _⟩ := h
  simp [execOp, ho, resolve, invoke, builtin, Builtin.len_, run_underlying hu, hx, goInt]
end

/-! #### Blocks that are known whole; stores; new rows -/

theorem SH.boxCell {w0 w : World} {l : List Ent} (H : SH w0 w l) {g : Nat} {cs : List Value} {e : TypeId} (hm : Ent.box g cs e ∈ l) (off : Nat) : w.cell? ⟨g, off, none⟩ = cs[off]? := by
  rw [cell_of_row w g off _ _ _ (H.ok _ hm).2.1]; simp

theorem SH.boxCells {w0 w : World} {l : List Ent} (H : SH w0 w l) {g : Nat} {cs : List Value} {e : TypeId} (hm : Ent.box g cs e ∈ l) (off : Nat) : CellsAt w ⟨g, off, none⟩ (cs.drop off) := by
  intro i u hu
  rw [Addr.add_lit, H.boxCell hm, ← hu, List.getElem?_drop]

/-- The cells with vs written from off on. -/
def put (cs : List Value) (off : Nat) (vs : List Value) : List Value := cs.take off ++ vs ++ cs.drop (off + vs.length)
theorem put_whole (cs vs : List Value) (h : cs.length = vs.length) : put cs 0 vs = vs := by simp [put, ← h]
theorem put_one (cs : List Value) (off : Nat) (u : Value) (h : off < cs.length) : put cs off [u] = cs.set off u := by
  simp [put, List.set_eq_take_append_cons_drop, h]
theorem length_put (cs vs : List Value) (off : Nat) (h : off + vs.length ≤ cs.length) : (put cs off vs).length = cs.length := by
  simp [put]; omega
theorem put_mem {cs vs : List Value} {off : Nat} {u : Value} (h : u ∈ put cs off vs) : u ∈ cs ∨ u ∈ vs := by
  simp only [put, List.mem_append] at h
  rcases h with (h | h) | h
  · exact .inl (List.mem_of_mem_take h)
  · exact .inr h
  · exact .inl (List.mem_of_mem_drop h)

section
variable {P : Program} {w0 w : World} {l : List Ent} {o : Oper} {ρ : Operand → Value} {t e : TypeId} {agg : Bool} {z : List Value}

theorem run_storeVar_at [T : Ty P t agg z] {g off : Nat} {cur : Array Value} {e : TypeId} (hg : w.heap[g]? = some (.cells cur e (0, 0))) {v : Value} {vs : List Value} (hv : v.cells = vs.toArray) (hl : vs.length = z.length)
    (hfit : off + vs.length ≤ cur.size) (h1 : ∀ u ∈ vs, u.oneCell' = true) : (storeVar t ⟨g, off, none⟩ v).run P w = .ok () (w.setRow g (put cur.toList off vs).toArray) := by
  obtain ⟨i, zv, hi, hz, hs, hzc⟩ := T.info
  have h := run_storeCells_at P g off e vs 0 cur w hg (by simpa using hfit) h1
  simp only [Nat.add_zero] at h
  simp [storeVar, sizeOf, typeInfo, hi, hs, hv, hl, h, put]

theorem run_st [T : Ty P t agg z] (x y : Operand) (ho : o.op = .store t x y) {g off : Nat} (hx : ρ x = .pointer (some ⟨g, off, none⟩)) {cur : Array Value} {e : TypeId} (hg : w.heap[g]? = some (.cells cur e (0, 0)))
    {vs : List Value} (hv : (ρ y).cells = vs.toArray) (hl : vs.length = z.length) (hfit : off + vs.length ≤ cur.size) (h1 : ∀ u ∈ vs, u.oneCell' = true) :
    (execOp ρ o).run P w = .ok .skip (w.setRow g (put cur.toList off vs).toArray) := by
  simp [execOp, ho, Instr.storeAt, Instr.sureAddr, hx, run_storeVar_at hg hv hl hfit h1]

theorem SH.setBox (H : SH w0 w l) {i g : Nat} {cs : List Value} {e : TypeId} (hi : l[i]? = some (.box g cs e)) (off : Nat) (vs : List Value) (h1 : ∀ u ∈ vs, u.oneCell' = true) :
    SH w0 (w.setRow g (put cs off vs).toArray) (l.set i (.box g (put cs off vs) e)) := by
  obtain ⟨hB, hg, hc⟩ := H.get hi
  refine H.upd hi id ⟨rfl, rfl, rfl, by simp, fun k _ hk => setRow_other w g k _ fun e => hk (by simp [Ent.block, e])⟩ ⟨hB, setRow_heap w g _ _ e _ hg, fun u hu => ?_⟩ (.inl rfl)
  rcases put_mem hu with h | h
  · exact hc u h
  · exact h1 u h

theorem run_stBox [T : Ty P t agg z] (H : SH w0 w l) (i : Nat) {g off : Nat} {cs : List Value} {e : TypeId} (hi : l[i]? = some (.box g cs e)) (x y : Operand) (ho : o.op = .store t x y) (hx : ρ x = .pointer (some ⟨g, off, none⟩))
    {vs : List Value} (hv : (ρ y).cells = vs.toArray) (hl : vs.length = z.length) (hfit : off + vs.length ≤ cs.length) (h1 : ∀ u ∈ vs, u.oneCell' = true) :
    ∃ w', (execOp ρ o).run P w = .ok .skip w' ∧ SH w0 w' (l.set i (.box g (put cs off vs) e)) := by
  obtain ⟨hB, hg, hc⟩ := H.get hi
  exact ⟨_, run_st x y ho hx hg hv hl (by simpa using hfit) h1, by simpa using H.setBox hi off vs h1⟩

theorem run_stRow [T : Ty P t agg z] (hz : 0 < z.length) (H : SH w0 w l) (i : Nat) {v : Value} {e : TypeId} {sz n : Nat} {xs : List Value} (hi : l[i]? = some (.row v e sz n xs)) (x y : Operand) (ho : o.op = .store t x y) (j : Nat) (hx : ρ x = elemPtr v j)
    {vs : List Value} (hv : (ρ y).cells = vs.toArray) (hl : vs.length = z.length) (hfit : j + vs.length ≤ xs.length) (h1 : ∀ u ∈ vs, u.oneCell' = true) :
    ∃ w', (execOp ρ o).run P w = .ok .skip w' ∧ SH w0 w' (l.set i (.row v e sz n (put xs j vs))) := by
  obtain ⟨hown, hc⟩ := H.get hi
  have hlen := hown.1
  rcases hown.2 with ⟨rfl, rfl⟩ | ⟨g, cap, cur, rfl, hbg, hg, hnc, hcm, hcs, htake⟩
  · have : xs.length = 0 := by simpa using hlen
    omega
  · have hx' : ρ x = .pointer (some ⟨g, j, none⟩) := by rw [hx]; simp [elemPtr, Addr.add_lit]
    have hle : n * sz ≤ cap * sz := Nat.mul_le_mul_right _ hnc
    have hcl : cur.toList.length = cap * sz := by simpa using hcs
    refine ⟨_, run_st x y ho hx' hg hv hl (by omega) h1, H.upd hi id ⟨rfl, rfl, rfl, by simp, fun k _ hk => setRow_other w g k _ fun e => hk (by simp [Ent.block, Value.ownBlock, e])⟩
      ⟨⟨by rw [length_put _ _ _ (by omega)]; exact hlen, .inr ⟨g, cap, _, rfl, hbg, setRow_heap w g _ _ e _ hg, hnc, hcm, ?_, ?_⟩⟩, fun u hu => ?_⟩ (.inl rfl)⟩
    · simp only [List.size_toArray]; rw [length_put _ _ _ (by omega)]; exact hcl
    · simp only [put, ← htake]
      rw [List.take_append, List.take_append, List.length_append, List.length_take, List.take_take]
      have e1 : min j (cur.toList).length = j := by omega
      rw [e1, List.take_of_length_le (l := vs) (by omega), List.take_take, Nat.min_eq_right (by omega), Nat.min_eq_left (by omega), List.drop_take]
    · rcases put_mem hu with h | h
      · exact hc u h
      · exact h1 u h

/-! new rows -/

def enumV : Nat → List Value → List (Nat × Value)
  | _, [] => []
  | k, v :: vs => (k, v) :: enumV (k + 1) vs

theorem fold_put (us : List Value) : ∀ (off k : Nat) (c : Array Value), off + k + us.length ≤ c.size →
    (us.zipIdx k).foldl (fun (cs : Array Value) (p : Value × Nat) => cs.setIfInBounds (off + p.2) p.1) c = (put c.toList (off + k) us).toArray := by
  induction us with
  | nil => intro off k c _; simp [put]
  | cons u us ih =>
    intro off k c h
    simp only [List.length_cons] at h
    rw [List.zipIdx_cons, List.foldl_cons, ih off (k + 1) _ (by simp; omega)]
    apply Array.ext'
    simp only [put, Array.toList_setIfInBounds]
    apply List.ext_getElem?
    intro i
    simp only [List.getElem?_append, List.length_append, List.length_take, List.length_set, List.length_cons, List.getElem?_take, List.getElem?_drop, List.getElem?_set, Array.length_toList]
    rcases Nat.lt_trichotomy i (off + k) with hi | hi | hi
    · simp [show i < off + k by omega, show i < min (off + k) c.size by omega, show i < off + (k + 1) by omega, show i < min (off + (k + 1)) c.size by omega, show i < min (off + (k + 1)) c.size + us.length by omega, show ¬ off + k = i by omega, show i < min (off + k) c.size + (us.length + 1) by omega]
    · subst hi
      simp [show off + k < off + (k + 1) by omega, show off + k < min (off + (k + 1)) c.size by omega, show ¬ off + k < min (off + k) c.size by omega, show off + k < c.size by omega, show off + k - min (off + k) c.size = 0 by omega, show off + k < min (off + (k + 1)) c.size + us.length by omega, show off + k < min (off + k) c.size + (us.length + 1) by omega]
    · have e1 : min (off + (k + 1)) c.size = off + k + 1 := by omega
      have e2 : min (off + k) c.size = off + k := by omega
      rw [e1, e2]
      by_cases h2 : i < off + k + 1 + us.length
      · rw [if_pos h2, if_neg (by omega), if_pos (by omega), if_neg (by omega)]
        rw [show i - (off + k) = (i - (off + k + 1)) + 1 by omega]
        simp
      · rw [if_neg h2, if_neg (by omega)]
        rw [show off + k + (us.length + 1) + (i - (off + k + (us.length + 1))) = off + (k + 1) + us.length + (i - (off + k + 1 + us.length)) by omega]
        rw [if_neg (by omega)]

theorem fill_enum (size : Nat) : ∀ (vs : List Value) (k : Nat) (c : Array Value), (∀ v ∈ vs, v.cells.size = size) → (k + vs.length) * size ≤ c.size →
    Instr.fill (fun i => some (i * size, size)) c (enumV k vs) = some (c.toList.take (k * size) ++ (vs.flatMap fun v => v.cells.toList) ++ c.toList.drop ((k + vs.length) * size)).toArray
  | [], k, c, _, _ => by simp [enumV, Instr.fill]
  | v :: vs, k, c, hv, hc => by
    have h0 := hv v List.mem_cons_self
    simp only [List.length_cons] at hc
    have hc1 : (k + 1) * size ≤ c.size := Nat.le_trans (Nat.mul_le_mul_right _ (by omega)) hc
    rw [Nat.add_mul, Nat.one_mul] at hc1
    simp only [enumV, Instr.fill, h0]
    rw [if_neg (by simp; omega)]
    have hf := fold_put v.cells.toList (k * size) 0 c (by simp [h0]; omega)
    simp only [Nat.add_zero] at hf
    have hz : (v.cells.zipIdx.foldl (fun (cs : Array Value) (p : Value × Nat) => cs.setIfInBounds (k * size + p.2) p.1) c) = (put c.toList (k * size) v.cells.toList).toArray := by
      rw [← hf, ← Array.foldl_toList, Array.toList_zipIdx]
    have hz' : (Array.foldl (fun cs (x : Value × Nat) => match x with | (c, j) => cs.setIfInBounds (k * size + j) c) c v.cells.zipIdx) = (put c.toList (k * size) v.cells.toList).toArray := hz
    rw [hz', fill_enum size vs (k + 1) _ (fun u hu => hv u (List.mem_cons_of_mem _ hu)) (by
      simp only [List.size_toArray]; rw [length_put _ _ _ (by simp [h0]; omega)]; simp; rw [show k + 1 + vs.length = k + (vs.length + 1) by omega]; exact hc)]
    congr 2
    have hl : (v.cells.toList).length = size := by simpa using h0
    simp only [put, List.flatMap_cons, List.length_cons]
    have e1 : (c.toList.take (k * size) ++ v.cells.toList).length = (k + 1) * size := by rw [List.length_append, List.length_take, hl, Nat.add_mul, Nat.one_mul]; simp; omega
    have e2 : k * size + (v.cells.toList).length = (k + 1) * size := by rw [hl, Nat.add_mul, Nat.one_mul]
    rw [List.take_append_of_le_length (by rw [e1]; exact Nat.le_refl _), List.take_of_length_le (by rw [e1]; exact Nat.le_refl _)]
    rw [List.drop_append, List.drop_of_length_le (by rw [e1]; exact Nat.mul_le_mul_right _ (by omega)), List.nil_append, e1, e2, List.drop_drop]
    rw [show (k + 1) * size + ((k + 1 + vs.length) * size - (k + 1) * size) = (k + (vs.length + 1)) * size by
      have : (k + 1) * size ≤ (k + 1 + vs.length) * size := Nat.mul_le_mul_right _ (by omega)
      rw [show k + (vs.length + 1) = k + 1 + vs.length by omega]; omega]
    simp [List.append_assoc]

theorem run_bs {T : TypeId} {size bytes : Nat} [E : Elem P T e size bytes z] (H : SH w0 w l) (len : Nat) (parts : Array (Nat × Operand)) (ho : o.op = .buildSlice T len parts) (vs : List Value)
    (hp : parts.toList.map (fun p => (p.1, ρ p.2)) = enumV 0 vs) (hlen : vs.length = len) (hsz : ∀ v ∈ vs, v.cells.size = size) (xs : List Value) (hxs : (vs.flatMap fun v => v.cells.toList) = xs) (h1 : ∀ u ∈ xs, u.oneCell' = true)
    (hb : len * size ≤ 100000) :
    ∃ v' w', (execOp ρ o).run P w = .ok (.value v') w' ∧ SH w0 w' (.row v' e size len xs :: l) ∧ Below w.heap.size w w' ∧ (∀ k, v'.ownBlock = some k → w.heap.size ≤ k) ∧ v'.oneCell' = true := by
  obtain ⟨i, zv, hi, hz, hs, hby, hzc⟩ := E.info
  subst hlen
  have hxl : xs.length = vs.length * size := by
    subst hxs
    have : ∀ (vs : List Value), (∀ v ∈ vs, v.cells.size = size) → (vs.flatMap fun v => v.cells.toList).length = vs.length * size := by
      intro vs
      induction vs with
      | nil => simp
      | cons v vs ih =>
        intro h
        rw [List.flatMap_cons, List.length_append, ih (fun u hu => h u (List.mem_cons_of_mem _ hu)), List.length_cons, Nat.add_mul]
        have := h v List.mem_cons_self
        simp [this]; omega
    exact this vs hsz
  have hfill : ∀ zz : Array Value, Instr.fill (fun i => some (i * size, size)) ((Array.range (vs.length * size)).map (fun j => zz[j % zz.size]!)) (enumV 0 vs) = some xs.toArray := by
    intro zz
    rw [fill_enum size vs 0 _ hsz (by simp)]
    simp [hxs]
  have hpl : (parts.map fun p => (p.1, ρ p.2)).toList = enumV 0 vs := by simpa using hp
  have hrun : (execOp ρ o).run P w = .ok (.value (.slice (some ⟨w.heap.size, 0, none⟩) vs.length vs.length)) (w.alloc (.cells xs.toArray e)) := by
    have hnb : ¬ vs.length * size > 2 ^ 24 := by omega
    have hpl' : (parts.map fun x => match x with | (i, x) => (i, ρ x)).toList = enumV 0 vs := hpl
    simp only [execOp, ho, Instr.buildSlice, Sem.run_bind, run_underlying E.und, Result.andThen_ok, sizeOf, typeInfo, hi, hs]
    by_cases h0 : vs.length * size = 0
    · have := hfill #[]
      simp [hi, hs, hnb, h0, hpl'] at this ⊢
      simp [hs, hp, this, newRow]
    · have := hfill zv.cells
      simp [hi, hs, hnb, h0, zeroValue, typeInfo, hz, hpl'] at this ⊢
      simp [hi, hs, hz, hp, this, newRow]
  have hm : vs.length ≤ maxLen := by
    have := Nat.mul_le_mul_left vs.length E.pos
    unfold maxLen; omega
  have hown := World.ownsRow_lit (size := size) (base := w0.heap.size) (e := e) w xs.toArray vs.length H.below.size hm (by simpa using hxl)
  refine ⟨_, _, hrun, H.add (World.grownBy_alloc w _ none) ⟨by simpa using hown, h1⟩ ?_ id, (Below.refl _ _).alloc (Nat.le_refl _) _, ?_, rfl⟩
  · intro k hk; simp [Ent.block, Value.ownBlock] at hk; omega
  · intro k hk; simp [Value.ownBlock] at hk; omega
end

section
variable {P : Program} {w0 w : World} {l : List Ent} {o : Oper} {ρ : Operand → Value} {t e : TypeId} {agg : Bool} {z : List Value} {T : TypeId} {size bytes : Nat}

theorem run_ap [E : Elem P T e size bytes z] (H : SH w0 w l) (i : Nat) {v : Value} {n : Nat} {xs : List Value} (hi : l[i]? = some (.row v e size n xs)) {vx : Value} {m : Nat} {news : List Value} (hsl : Sl w size vx m news)
    (s x : Operand) (ho : o.op = .call { callee := .builtin .append, args := #[s, x], argTypes := #[T, T] }) (hs : ρ s = v) (hx : ρ x = vx) (hb : (n + m) * bytes ≤ 140737488355328) :
    ∃ v' w', (execOp ρ o).run P w = .ok (.value v') w' ∧ SH w0 w' (l.set i (.row v' e size (n + m) (xs ++ news))) ∧ v'.oneCell' = true ∧ w.grownBy w' v.ownBlock := by
  obtain ⟨hown, h1⟩ := H.get hi
  have h1n : ∀ u ∈ news, u.oneCell' = true := by obtain ⟨_, _, _, _, _, _, h, _⟩ := hsl; exact h
  obtain ⟨v', w', hr, a1, a2, a3, a4⟩ := run_app (P := P) (T := T) o.type w0.heap.size v n xs hown vx m news hsl hb H.below.size
  refine ⟨v', w', ?_, H.upd hi id a2 ⟨a1, fun u hu => ?_⟩ ?_, own_one a1, a2⟩
  · unfold execOp
    simp only [ho, resolve, invoke, builtin, Sem.run_bind, Sem.run_pure, Result.andThen_ok, List.map_toArray, List.map_cons, List.map_nil, hs, hx, hr]
  · rcases List.mem_append.1 hu with h | h
    · exact h1 u h
    · exact h1n u h
  · rcases a4 with h | ⟨k, hk, hle⟩
    · exact .inl h
    · exact .inr fun k' hk' => by
        have : v'.ownBlock = some k' := hk'
        rw [hk] at this
        obtain rfl := Option.some.inj this
        exact hle

theorem SH.addNil (H : SH w0 w l) (e : TypeId) (size : Nat) : SH w0 w (.row (.slice none 0 0) e size 0 [] :: l) :=
  H.add (World.grownBy.refl _ _) ⟨World.ownsRow_nil _ _ _ _, by simp⟩ (fun k hk => by simp [Ent.block, Value.ownBlock] at hk) id

/-- append on a slice that is nil. -/
theorem run_ap0 [E : Elem P T e size bytes z] (H : SH w0 w l) {vx : Value} {m : Nat} {news : List Value} (hsl : Sl w size vx m news)
    (s x : Operand) (ho : o.op = .call { callee := .builtin .append, args := #[s, x], argTypes := #[T, T] }) (hs : ρ s = .slice none 0 0) (hx : ρ x = vx) (hb : m * bytes ≤ 140737488355328) :
    ∃ v' w', (execOp ρ o).run P w = .ok (.value v') w' ∧ SH w0 w' (.row v' e size m news :: l) ∧ v'.oneCell' = true ∧ Below w.heap.size w w' := by
  obtain ⟨v', w', h1, h2, h3, h4⟩ := run_ap (P := P) (ρ := ρ) (o := o) (H.addNil e size) 0 rfl hsl s x ho hs hx (by simpa using hb)
  exact ⟨v', w', h1, by simpa using h2, h3, below_grown h4⟩

theorem run_mk [E : Elem P T e size bytes z] (H : SH w0 w l) (n : Nat) (x y : Operand) (ho : o.op = Op.makeSlice T x y) {kl kc : IntKind} {N M : Int}
    (hl : ρ x = .int kl N) (hc : ρ y = .int kc M) (hN : N = (n : Int)) (hM : M = (n : Int)) (hb : n * bytes ≤ 140737488355328) :
    ∃ v' w', (execOp ρ o).run P w = .ok (.value v') w' ∧ SH w0 w' (.row v' e size n (rep n z) :: l) ∧ v'.oneCell' = true ∧ Below w.heap.size w w' ∧ (∀ k, v'.ownBlock = some k → w.heap.size ≤ k) := by
  obtain ⟨i, zv, hi, hz, hs, hby, hzc⟩ := E.info
  subst hN; subst hM
  have hm : n ≤ maxLen := by
    have : n * 1 ≤ n * bytes := Nat.mul_le_mul_left _ E.bpos
    unfold maxLen; omega
  obtain ⟨w', hr, h1, h2⟩ := run_make_full (P := P) w w0.heap.size T e i zv size E.und hi hz hs kl kc n (by rw [hby, Nat.mul_comm]; omega) hm H.below.size
  rw [hzc, ← E.len, madeCells_rep _ _ (by rw [E.len]; exact E.pos), E.len] at h1
  refine ⟨_, w', ?_, H.add h2 ⟨h1, fun u hu => ?_⟩ ?_ id, rfl, below_grown h2, ?_⟩
  · simp [execOp, ho, hl, hc, hr, Result.andThen]
  · simp only [rep, List.mem_flatten, List.mem_replicate] at hu
    obtain ⟨m, ⟨_, rfl⟩, hu⟩ := hu
    exact E.one u hu
  · intro k hk; simp [Ent.block, Value.ownBlock] at hk; omega
  · intro k hk; simp [Value.ownBlock] at hk; omega

theorem run_cp [E : Elem P T e 1 bytes z] {sT : TypeId} (H : SH w0 w l) (i : Nat) {v : Value} {n : Nat} {xs : List Value} (hi : l[i]? = some (.row v e 1 n xs)) {vx : Value} {m : Nat} {news : List Value} (hsl : Sl w 1 vx m news)
    (d s : Operand) (ho : o.op = .call { callee := .builtin .copy, args := #[d, s], argTypes := #[T, sT] }) (hd : ρ d = v) (hs : ρ s = vx) :
    ∃ w', (execOp ρ o).run P w = .ok (.value (goInt ((min m n : Nat) : Int))) w' ∧ SH w0 w' (l.set i (.row v e 1 n (news.take n ++ xs.drop m))) := by
  obtain ⟨hown, h1⟩ := H.get hi
  obtain ⟨inf, zv, hinf, hz, hsz, hby, hzc⟩ := E.info
  obtain ⟨ao, c, rfl, hmc, hcm, hln, hone, hnil, hpos, hcells⟩ := hsl
  have hszi : (P.info? e).map (·.size) = some 1 := by rw [hinf]; simp [hsz]
  have hlen := hown.1
  simp only [Nat.mul_one] at hln hlen
  have fin : ∀ w', (Builtin.copy_ #[T, sT] o.type #[v, .slice ao m c]).run P w = .ok (goInt ((min m n : Nat) : Int)) w' → (execOp ρ o).run P w = .ok (.value (goInt ((min m n : Nat) : Int))) w' := by
    intro w' hr
    unfold execOp
    simp only [ho, resolve, invoke, builtin, Sem.run_bind, Sem.run_pure, Result.andThen_ok, List.map_toArray, List.map_cons, List.map_nil, hd, hs, hr]
  have keepS : news.take n ++ xs.drop m = xs → SH w0 w (l.set i (.row v e 1 n (news.take n ++ xs.drop m))) := by
    intro he
    rw [he]
    have : l.set i (.row v e 1 n xs) = l := by
      obtain ⟨hlt, hli⟩ := List.getElem?_eq_some_iff.1 hi
      rw [← hli]; exact List.set_getElem_self hlt
    rw [this]; exact H
  by_cases h0 : Nat.min m n = 0
  · have h0' : min m n = 0 := h0
    have he : news.take n ++ xs.drop m = xs := by
      rcases Nat.min_eq_zero_iff.1 h0' with h | h
      · subst h; obtain rfl : news = [] := List.eq_nil_of_length_eq_zero hln
        simp
      · subst h; obtain rfl : xs = [] := List.eq_nil_of_length_eq_zero hlen
        simp
    refine ⟨w, fin w ?_, keepS he⟩
    rcases hown.2 with ⟨rfl, rfl⟩ | ⟨g, cap, cur, rfl, _⟩
    · have := run_copy_none (P := P) w T sT o.type e none ao 0 0 m c E.und hszi h0
      rw [this, h0']; rfl
    · have := run_copy_none (P := P) w T sT o.type e (some ⟨g, 0, none⟩) ao n cap m c E.und hszi h0
      rw [this, h0']; rfl
  · rcases hown.2 with ⟨rfl, rfl⟩ | ⟨g, cap, cur, rfl, hbg, hg, hnc, hcm', hcs, htake⟩
    · exact absurd (Nat.min_zero m) h0
    · cases ao with
      | none => obtain ⟨rfl, _⟩ := hnil rfl; exact absurd (Nat.zero_min n) h0
      | some ad =>
        have hmn : Nat.min m n = min m n := rfl
        have hl1 : (news.take n).length = Nat.min m n := by rw [hmn, List.length_take]; omega
        have hr := run_copy_row (P := P) w T sT o.type e g 0 n cap ad m c cur e (news.take n) E.und hszi hg hl1 (fun j u hu => by
          refine hcells ad rfl j u ?_
          rw [List.getElem?_take] at hu
          split at hu
          · exact hu
          · cases hu) (by simp only [Nat.mul_one] at hcs; rw [hl1, hmn]; omega) (fun u hu => hone u (List.mem_of_mem_take hu))
        rw [hl1, hmn] at hr
        simp only [Nat.mul_one] at htake hcs
        have hlc : cur.toList.length = cap := by simpa using hcs
        refine ⟨_, fin _ hr, H.upd hi id ⟨rfl, rfl, rfl, by simp, fun k _ hk => setRow_other w g k _ (fun e => hk (by simp [Ent.block, Value.ownBlock, e]))⟩ ⟨⟨?_, .inr ⟨g, cap, _, rfl, hbg, setRow_heap w g cur _ e _ hg, hnc, hcm', ?_, ?_⟩⟩, ?_⟩ (.inl rfl)⟩
        · simp only [List.length_append, List.length_take, List.length_drop, hln, hlen]; omega
        · simp only [List.size_toArray, List.length_append, List.length_take, List.length_drop, hln]; omega
        · simp only [Nat.zero_add, List.take_zero, List.nil_append, Nat.mul_one]
          rw [List.take_append, List.take_of_length_le (by rw [hl1, hmn]; omega), hl1, hmn]
          congr 1
          rw [← htake, List.drop_take]
          by_cases hm : m ≤ n
          · rw [Nat.min_eq_left hm]
          · rw [Nat.min_eq_right (by omega), Nat.sub_self, List.take_zero, show n - m = 0 by omega, List.take_zero]
        · intro u hu
          rcases List.mem_append.1 hu with h | h
          · exact hone u (List.mem_of_mem_take h)
          · exact h1 u (List.mem_of_mem_drop h)

/-- v[lo:hi], as far as the length. -/
theorem run_sl [E : Elem P T e size bytes z] {v : Value} {n : Nat} {xs : List Value} (h : Sl w size v n xs) (x : Operand) (lo hi : Option Operand) (ho : o.op = .slice T x lo hi none) (hx : ρ x = v)
    (lv hv : Nat) (hl : (lo = none ∧ lv = 0) ∨ ∃ p k L, lo = some p ∧ ρ p = .int k L ∧ L = (lv : Int)) (hh : (hi = none ∧ hv = n) ∨ ∃ p k L, hi = some p ∧ ρ p = .int k L ∧ L = (hv : Int)) (h1 : lv ≤ hv) (h2 : hv ≤ n) :
    ∃ v', (execOp ρ o).run P w = .ok (.value v') w ∧ Sl w size v' (hv - lv) ((xs.drop (lv * size)).take ((hv - lv) * size)) ∧ v'.ownBlock = v.ownBlock ∧ v'.oneCell' = true := by
  obtain ⟨inf, zv, hinf, _, hs, _⟩ := E.info
  obtain ⟨ao, c, rfl, a2, a3, a4, a5, a6, a7, a8⟩ := h
  refine ⟨.slice (if c = lv then ao else ao.map (·.add (lv * size))) (hv - lv) (c - lv), ?_, ⟨_, _, rfl, by omega, by omega, ?_, ?_, ?_, ?_, ?_⟩, ?_, rfl⟩
  · have hlo : ∀ y, lv ≤ y → ∀ code, (match lo.map ρ with | some v => Instr.sliceBound v y code | none => pure 0 : Sem Nat).run P w = .ok lv w := by
      intro y hy code
      rcases hl with ⟨rfl, rfl⟩ | ⟨p, k, L, rfl, hp, rfl⟩
      · rfl
      · simp [hp, Instr.sliceBound, asIntOf, hy]
    have hhi : (match hi.map ρ with | some v => Instr.sliceBound v c .sliceAcap | none => pure n : Sem Nat).run P w = .ok hv w := by
      rcases hh with ⟨rfl, rfl⟩ | ⟨p, k, L, rfl, hp, rfl⟩
      · rfl
      · simp [hp, Instr.sliceBound, asIntOf, show hv ≤ c by omega]
    have hbo : (Instr.sliceBounds true n c (lo.map ρ) (hi.map ρ) none).run P w = .ok (lv, hv, c) w := by
      have := hlo hv h1 .sliceB
      cases hlo' : lo.map ρ <;> cases hhi' : hi.map ρ <;> simp [hlo', hhi'] at this hhi <;> simp [Instr.sliceBounds, this, hhi] <;> simp_all
    simp [execOp, ho, Instr.sliceAt, hx, run_underlying E.und, Instr.slice, hbo, sizeOf, typeInfo, hinf, hs]
  · simp only [List.length_take, List.length_drop, a4]
    rw [← Nat.sub_mul]
    exact Nat.min_eq_left (Nat.mul_le_mul_right _ (by omega))
  · intro u hu
    exact a5 u (List.mem_of_mem_drop (List.mem_of_mem_take hu))
  · intro he
    split at he
    · obtain ⟨rfl, rfl⟩ := a6 he; omega
    · rw [Option.map_eq_none_iff] at he; obtain ⟨rfl, rfl⟩ := a6 he; omega
  · intro hp
    obtain ⟨b, off, rfl⟩ := a7 (by omega)
    rw [if_neg (by omega)]
    exact ⟨b, off + lv * size, by simp [Addr.add_lit]⟩
  · intro ad had j u hu
    rw [List.getElem?_take] at hu
    split at hu
    · rename_i hj
      rw [List.getElem?_drop] at hu
      have hp : 0 < hv - lv := by
        rcases Nat.eq_zero_or_pos (hv - lv) with h | h
        · rw [h] at hj; omega
        · exact h
      obtain ⟨b, off, rfl⟩ := a7 (by omega)
      rw [if_neg (by omega)] at had
      simp at had
      subst had
      have := a8 _ rfl _ u hu
      rw [Addr.add_lit] at this
      rw [add_add, Addr.add_lit]
      exact this
    · cases hu
  · cases ao with
    | none =>
      have : (if c = lv then none else Option.map (fun x : Addr => x.add (lv * size)) none) = none := by split <;> rfl
      rw [this]; rfl
    | some ad =>
      have hb : (ad.add (lv * size)).block = ad.block := by unfold Addr.add; split <;> rfl
      by_cases hc : c = lv
      · rw [if_pos hc]; rfl
      · rw [if_neg hc]; simp [Value.ownBlock, hb]

/-- A value that some operation yields, and what is known of it. -/
theorem wpl_some {ops : Array Oper} {rest : List Oper} {a : Act} {Q : Exit → Act → World → Prop} {R : Value → World → Prop} (h : ∃ v w', (execOp a.eval o).run P w = .ok (.value v) w' ∧ R v w') (hgd : Region.wanted o (yielded ops a.tmps) = true)
    (k : ∀ v w', R v w' → wpList P ops Q rest (a.put o.dst v) w') : wpList P ops Q (o :: rest) a w :=
  let ⟨v, w', h1, h2⟩ := h; wpl_value hgd h1 (k v w' h2)
theorem wpl_same {ops : Array Oper} {rest : List Oper} {a : Act} {Q : Exit → Act → World → Prop} {R : Value → Prop} (h : ∃ v, (execOp a.eval o).run P w = .ok (.value v) w ∧ R v) (hgd : Region.wanted o (yielded ops a.tmps) = true)
    (k : ∀ v, R v → wpList P ops Q rest (a.put o.dst v) w) : wpList P ops Q (o :: rest) a w :=
  let ⟨v, h1, h2⟩ := h; wpl_value hgd h1 (k v h2)
theorem wpl_known {ops : Array Oper} {rest : List Oper} {a : Act} {Q : Exit → Act → World → Prop} {v : Value} {R : World → Prop} (h : ∃ w', (execOp a.eval o).run P w = .ok (.value v) w' ∧ R w') (hgd : Region.wanted o (yielded ops a.tmps) = true)
    (k : ∀ w', R w' → wpList P ops Q rest (a.put o.dst v) w') : wpList P ops Q (o :: rest) a w :=
  let ⟨w', h1, h2⟩ := h; wpl_value hgd h1 (k w' h2)
theorem wpl_skips {ops : Array Oper} {rest : List Oper} {a : Act} {Q : Exit → Act → World → Prop} {R : World → Prop} (h : ∃ w', (execOp a.eval o).run P w = .ok .skip w' ∧ R w') (hgd : Region.wanted o (yielded ops a.tmps) = true)
    (k : ∀ w', R w' → wpList P ops Q rest (a.put o.dst undef) w') : wpList P ops Q (o :: rest) a w :=
  let ⟨w', h1, h2⟩ := h; wpl_skip hgd h1 (k w' h2)
end

/-! ### The laws in the walk's form: the places of the entries are numbers -/

theorem lt_of_get {α : Type} {xs : List α} {j : Nat} {u : α} (h : xs[j]? = some u) : j < xs.length := (List.getElem?_eq_some_iff.1 h).1

section
variable {P : Program} {w0 w : World} {l : List Ent} {ops : Array Oper} {rest : List Oper} {o : Oper} {a : Act} {Q : Exit → Act → World → Prop}
  {t e : TypeId} {agg : Bool} {z : List Value} {T : TypeId} {size bytes : Nat}

theorem ownShape {w : World} {base : Nat} {e : TypeId} {size : Nat} {v : Value} {n : Nat} {xs : List Value} (h : w.ownsRow base e size v n xs) : ∃ p c, v = .slice p n c := by
  rcases h.2 with ⟨rfl, rfl⟩ | ⟨g, cap, cur, rfl, _⟩
  · exact ⟨_, _, rfl⟩
  · exact ⟨_, _, rfl⟩

theorem lk_ld1 (H : SH w0 w l) (hgd : Region.wanted o (yielded ops a.tmps) = true) (x : Operand) (ho : o.op = .load t x) (T : Ty P t false z) {g off : Nat} (hx : a.eval x = .pointer (some ⟨g, off, none⟩)) (i : Nat) {cs : List Value} {e : TypeId}
    (hi : l[i]? = some (.box g cs e)) {u : Value} (hu : cs[off]? = some u) (h : wpList P ops Q rest (a.put o.dst u) w) : wpList P ops Q (o :: rest) a w :=
  wpl_value hgd (run_ld1 x ho hx (by rw [H.boxCell (List.mem_of_getElem? hi)]; exact hu)) h

theorem lk_ldA (H : SH w0 w l) (hgd : Region.wanted o (yielded ops a.tmps) = true) (x : Operand) (ho : o.op = .load t x) (T : Ty P t true z) {g off : Nat} (hx : a.eval x = .pointer (some ⟨g, off, none⟩)) (i : Nat) {cs : List Value} {e : TypeId}
    (hi : l[i]? = some (.box g cs e)) (us : List Value) (hus : (cs.drop off).take z.length = us) (hl : us.length = z.length) (h : wpList P ops Q rest (a.put o.dst (.agg us.toArray)) w) : wpList P ops Q (o :: rest) a w := by
  refine wpl_value hgd (run_ldA x ho hx (fun j u hu => ?_) hl) h
  subst hus
  refine H.boxCells (List.mem_of_getElem? hi) off j u ?_
  rw [List.getElem?_take] at hu
  split at hu
  · exact hu
  · cases hu

/-- A variable that is loaded whole. -/
theorem lk_ldW (H : SH w0 w l) (hgd : Region.wanted o (yielded ops a.tmps) = true) (x : Operand) (ho : o.op = .load t x) (T : Ty P t true z) {g : Nat} (hx : a.eval x = .pointer (some ⟨g, 0, none⟩)) (i : Nat) {cs : List Value} {e : TypeId}
    (hi : l[i]? = some (.box g cs e)) (hl : cs.length = z.length) (h : wpList P ops Q rest (a.put o.dst (.agg cs.toArray)) w) : wpList P ops Q (o :: rest) a w :=
  lk_ldA H hgd x ho T hx i hi cs (by simp [← hl]) hl h

theorem lk_st1 (H : SH w0 w l) (hgd : Region.wanted o (yielded ops a.tmps) = true) (x y : Operand) (ho : o.op = .store t x y) (T : Ty P t false z) (hz : z.length = 1) {g off : Nat} (hx : a.eval x = .pointer (some ⟨g, off, none⟩)) (i : Nat) {cs : List Value} {e : TypeId}
    (hi : l[i]? = some (.box g cs e)) {v : Value} (hv : a.eval y = v) (h1 : v.oneCell' = true) (hlt : off < cs.length)
    (h : ∀ w', SH w0 w' (l.set i (.box g (cs.set off v) e)) → wpList P ops Q rest (a.put o.dst undef) w') : wpList P ops Q (o :: rest) a w := by
  have hvc : v.cells = [v].toArray := by cases v <;> first | rfl | simp [Value.oneCell'] at h1
  obtain ⟨w', hr, H'⟩ := run_stBox (ρ := a.eval) (P := P) (vs := [v]) H i hi x y ho hx (by rw [hv]; exact hvc) (by simp [hz]) (by simp; omega) (by simpa using h1)
  rw [put_one _ _ _ hlt] at H'
  exact wpl_skip hgd hr (h _ H')

theorem lk_stW (H : SH w0 w l) (hgd : Region.wanted o (yielded ops a.tmps) = true) (x y : Operand) (ho : o.op = .store t x y) (T : Ty P t agg z) {g : Nat} (hx : a.eval x = .pointer (some ⟨g, 0, none⟩)) (i : Nat) {cs : List Value} {e : TypeId}
    (hi : l[i]? = some (.box g cs e)) (vs : List Value) (hv : a.eval y = .agg vs.toArray) (hlz : vs.length = z.length) (hl : cs.length = vs.length) (h1 : ∀ u ∈ vs, u.oneCell' = true)
    (h : ∀ w', SH w0 w' (l.set i (.box g vs e)) → wpList P ops Q rest (a.put o.dst undef) w') : wpList P ops Q (o :: rest) a w := by
  obtain ⟨w', hr, H'⟩ := run_stBox (ρ := a.eval) (P := P) (vs := vs) H i hi x y ho hx (by rw [hv]; rfl) hlz (by omega) h1
  rw [put_whole _ _ hl] at H'
  exact wpl_skip hgd hr (h _ H')

theorem lk_stA (H : SH w0 w l) (hgd : Region.wanted o (yielded ops a.tmps) = true) (x y : Operand) (ho : o.op = .store t x y) (T : Ty P t true z) {g off : Nat} (hx : a.eval x = .pointer (some ⟨g, off, none⟩)) (i : Nat) {cs : List Value} {e : TypeId}
    (hi : l[i]? = some (.box g cs e)) (vs : List Value) (hv : a.eval y = .agg vs.toArray) (hlz : vs.length = z.length) (hl : off + vs.length ≤ cs.length) (h1 : ∀ u ∈ vs, u.oneCell' = true)
    (h : ∀ w', SH w0 w' (l.set i (.box g (put cs off vs) e)) → wpList P ops Q rest (a.put o.dst undef) w') : wpList P ops Q (o :: rest) a w := by
  obtain ⟨w', hr, H'⟩ := run_stBox (ρ := a.eval) (P := P) (vs := vs) H i hi x y ho hx (by rw [hv]; rfl) hlz hl h1
  exact wpl_skip hgd hr (h _ H')

/-! slices that can be read: from an entry -/

def Ent.slOf : Ent → Option (Value × Nat × Nat × List Value)
  | .row v _ sz n xs => some (v, sz, n, xs)
  | .sl v sz n xs => some (v, sz, n, xs)
  | .box _ _ _ => none

theorem SH.rd (H : SH w0 w l) (i : Nat) {v : Value} {sz n : Nat} {xs : List Value} (hi : (l[i]?).bind Ent.slOf = some (v, sz, n, xs)) : Sl w sz v n xs := by
  cases hx : l[i]? with
  | none => rw [hx] at hi; cases hi
  | some x =>
    rw [hx] at hi
    have := H.get hx
    cases x with
    | box g cs e => cases hi
    | row v' e' sz' n' xs' =>
      simp [Ent.slOf] at hi
      obtain ⟨rfl, rfl, rfl, rfl⟩ := hi
      exact Ent.ok_sl this
    | sl v' sz' n' xs' =>
      simp [Ent.slOf] at hi
      obtain ⟨rfl, rfl, rfl, rfl⟩ := hi
      exact this

theorem lk_len (H : SH w0 w l) (hgd : Region.wanted o (yielded ops a.tmps) = true) (x : Operand) (ho : o.op = .call { callee := .builtin .len, args := #[x], argTypes := #[T] }) (E : Elem P T e size bytes z) {v : Value} (hx : a.eval x = v) (i : Nat) {sz n : Nat} {xs : List Value}
    (hi : (l[i]?).bind Ent.slOf = some (v, sz, n, xs)) (h : wpList P ops Q rest (a.put o.dst (.int .i64 (n : Int))) w) : wpList P ops Q (o :: rest) a w :=
  wpl_value hgd (run_len E.und (H.rd i hi) x ho hx) h

theorem lk_ix (H : SH w0 w l) (hgd : Region.wanted o (yielded ops a.tmps) = true) (x y : Operand) (ho : o.op = .indexAddr T x y) (E : Elem P T e size bytes z) {v : Value} (hx : a.eval x = v) (i : Nat) {n : Nat} {xs : List Value}
    (hi : (l[i]?).bind Ent.slOf = some (v, size, n, xs)) {k : IntKind} {I : Int} (hy : a.eval y = .int k I) (j : Nat) (hI : I = (j : Int)) (hj : j < n) (h : wpList P ops Q rest (a.put o.dst (elemPtr v (j * size))) w) : wpList P ops Q (o :: rest) a w :=
  wpl_value hgd (run_ix (H.rd i hi) x y ho hx j hy hI hj) h

theorem lk_elf (H : SH w0 w l) (hgd : Region.wanted o (yielded ops a.tmps) = true) {S : TypeId} {f off : Nat} (x : Operand) (ho : o.op = .fieldAddr S x f) (F : Fld P S f off) {v : Value} {j : Nat} (hx : a.eval x = elemPtr v j) (i : Nat) {sz n : Nat} {xs : List Value}
    (hi : (l[i]?).bind Ent.slOf = some (v, sz, n, xs)) (hj : j < xs.length) (h : wpList P ops Q rest (a.put o.dst (elemPtr v (j + off))) w) : wpList P ops Q (o :: rest) a w :=
  wpl_value hgd (run_elf (H.rd i hi) x ho j hx hj) h

theorem lk_el1 (H : SH w0 w l) (hgd : Region.wanted o (yielded ops a.tmps) = true) (x : Operand) (ho : o.op = .load t x) (T : Ty P t false z) {v : Value} {j : Nat} (hx : a.eval x = elemPtr v j) (i : Nat) {sz n : Nat} {xs : List Value}
    (hi : (l[i]?).bind Ent.slOf = some (v, sz, n, xs)) {u : Value} (hu : xs[j]? = some u) (h : wpList P ops Q rest (a.put o.dst u) w) : wpList P ops Q (o :: rest) a w :=
  wpl_value hgd (run_el1 (H.rd i hi) x ho j hx hu) h

theorem lk_elA (H : SH w0 w l) (hgd : Region.wanted o (yielded ops a.tmps) = true) (x : Operand) (ho : o.op = .load t x) (T : Ty P t true z) {v : Value} {j : Nat} (hx : a.eval x = elemPtr v j) (i : Nat) {sz n : Nat} {xs : List Value}
    (hi : (l[i]?).bind Ent.slOf = some (v, sz, n, xs)) (us : List Value) (hus : (xs.drop j).take z.length = us) (hl : us.length = z.length) (hz : 0 < z.length) (h : wpList P ops Q rest (a.put o.dst (.agg us.toArray)) w) : wpList P ops Q (o :: rest) a w :=
  wpl_value hgd (run_elA (H.rd i hi) x ho j hx us hus hl hz) h

theorem lk_str1 (H : SH w0 w l) (hgd : Region.wanted o (yielded ops a.tmps) = true) (x y : Operand) (ho : o.op = .store t x y) (T : Ty P t false z) (hz : z.length = 1) {v : Value} {j : Nat} (hx : a.eval x = elemPtr v j) (i : Nat) {e : TypeId} {sz n : Nat} {xs : List Value}
    (hi : l[i]? = some (.row v e sz n xs)) {u : Value} (hv : a.eval y = u) (h1 : u.oneCell' = true) (hlt : j < xs.length)
    (h : ∀ w', SH w0 w' (l.set i (.row v e sz n (xs.set j u))) → wpList P ops Q rest (a.put o.dst undef) w') : wpList P ops Q (o :: rest) a w := by
  have hvc : u.cells = [u].toArray := by cases u <;> first | rfl | simp [Value.oneCell'] at h1
  obtain ⟨w', hr, H'⟩ := run_stRow (ρ := a.eval) (P := P) (vs := [u]) (by omega) H i hi x y ho j hx (by rw [hv]; exact hvc) (by simp [hz]) (by simp; omega) (by simpa using h1)
  rw [put_one _ _ _ hlt] at H'
  exact wpl_skip hgd hr (h _ H')

theorem lk_strA (H : SH w0 w l) (hgd : Region.wanted o (yielded ops a.tmps) = true) (x y : Operand) (ho : o.op = .store t x y) (T : Ty P t true z) (hz : 0 < z.length) {v : Value} {j : Nat} (hx : a.eval x = elemPtr v j) (i : Nat) {e : TypeId} {sz n : Nat} {xs : List Value}
    (hi : l[i]? = some (.row v e sz n xs)) (vs : List Value) (hv : a.eval y = .agg vs.toArray) (hlz : vs.length = z.length) (hlt : j + vs.length ≤ xs.length) (h1 : ∀ u ∈ vs, u.oneCell' = true)
    (h : ∀ w', SH w0 w' (l.set i (.row v e sz n (put xs j vs))) → wpList P ops Q rest (a.put o.dst undef) w') : wpList P ops Q (o :: rest) a w := by
  obtain ⟨w', hr, H'⟩ := run_stRow (ρ := a.eval) (P := P) (vs := vs) hz H i hi x y ho j hx (by rw [hv]; rfl) hlz hlt h1
  exact wpl_skip hgd hr (h _ H')

theorem lk_bs (H : SH w0 w l) (hgd : Region.wanted o (yielded ops a.tmps) = true) (len : Nat) (parts : Array (Nat × Operand)) (ho : o.op = .buildSlice T len parts) (E : Elem P T e size bytes z) (vs : List Value)
    (hp : parts.toList.map (fun p => (p.1, a.eval p.2)) = enumV 0 vs) (hlen : vs.length = len) (hsz : ∀ v ∈ vs, v.cells.size = size) (xs : List Value) (hxs : (vs.flatMap fun v => v.cells.toList) = xs) (h1 : ∀ u ∈ xs, u.oneCell' = true)
    (hb : len * size ≤ 100000) (h : ∀ p c w', SH w0 w' (.row (.slice p len c) e size len xs :: l) → wpList P ops Q rest (a.put o.dst (.slice p len c)) w') : wpList P ops Q (o :: rest) a w := by
  obtain ⟨v, w', hr, H', _, _, h2⟩ := run_bs (ρ := a.eval) (P := P) H len parts ho vs hp hlen hsz xs hxs h1 hb
  obtain ⟨p, c, rfl⟩ := ownShape (H'.get (i := 0) rfl).1
  exact wpl_value hgd hr (h p c w' H')

theorem lk_mk (H : SH w0 w l) (hgd : Region.wanted o (yielded ops a.tmps) = true) (x y : Operand) (ho : o.op = Op.makeSlice T x y) (E : Elem P T e size bytes z) {kl kc : IntKind} {N M : Int} (hl : a.eval x = .int kl N) (hc : a.eval y = .int kc M) (n : Nat) (hN : N = (n : Int)) (hM : M = (n : Int))
    (hb : n * bytes ≤ 140737488355328) (h : ∀ p c w', SH w0 w' (.row (.slice p n c) e size n (rep n z) :: l) → wpList P ops Q rest (a.put o.dst (.slice p n c)) w') : wpList P ops Q (o :: rest) a w := by
  obtain ⟨v, w', hr, H', h2, _, _⟩ := run_mk (ρ := a.eval) (P := P) H n x y ho hl hc hN hM hb
  obtain ⟨p, c, rfl⟩ := ownShape (H'.get (i := 0) rfl).1
  exact wpl_value hgd hr (h p c w' H')

theorem lk_ap (H : SH w0 w l) (hgd : Region.wanted o (yielded ops a.tmps) = true) (s x : Operand) (ho : o.op = .call { callee := .builtin .append, args := #[s, x], argTypes := #[T, T] }) (E : Elem P T e size bytes z) {v : Value} (hs : a.eval s = v) (i : Nat) {n : Nat} {xs : List Value}
    (hi : l[i]? = some (.row v e size n xs)) {vx : Value} (hx : a.eval x = vx) (j : Nat) {m : Nat} {news : List Value} (hj : (l[j]?).bind Ent.slOf = some (vx, size, m, news)) (hb : (n + m) * bytes ≤ 140737488355328)
    (h : ∀ p c w', SH w0 w' (l.set i (.row (.slice p (n + m) c) e size (n + m) (xs ++ news))) → wpList P ops Q rest (a.put o.dst (.slice p (n + m) c)) w') : wpList P ops Q (o :: rest) a w := by
  obtain ⟨v', w', hr, H', h2, _⟩ := run_ap (ρ := a.eval) (P := P) H i hi (H.rd j hj) s x ho hs hx hb
  have hrow := H'.get (i := i) (List.getElem?_set_self (lt_of_get hi))
  obtain ⟨p, c, rfl⟩ := ownShape hrow.1
  exact wpl_value hgd hr (h p c w' H')

theorem lk_ap0 (H : SH w0 w l) (hgd : Region.wanted o (yielded ops a.tmps) = true) (s x : Operand) (ho : o.op = .call { callee := .builtin .append, args := #[s, x], argTypes := #[T, T] }) (E : Elem P T e size bytes z) (hs : a.eval s = .slice none 0 0)
    {vx : Value} (hx : a.eval x = vx) (j : Nat) {m : Nat} {news : List Value} (hj : (l[j]?).bind Ent.slOf = some (vx, size, m, news)) (hb : m * bytes ≤ 140737488355328)
    (h : ∀ p c w', SH w0 w' (.row (.slice p m c) e size m news :: l) → wpList P ops Q rest (a.put o.dst (.slice p m c)) w') : wpList P ops Q (o :: rest) a w := by
  obtain ⟨v', w', hr, H', h2, _⟩ := run_ap0 (ρ := a.eval) (P := P) H (H.rd j hj) s x ho hs hx hb
  obtain ⟨p, c, rfl⟩ := ownShape (H'.get (i := 0) rfl).1
  exact wpl_value hgd hr (h p c w' H')

theorem lk_cp {sT : TypeId} (H : SH w0 w l) (hgd : Region.wanted o (yielded ops a.tmps) = true) (s x : Operand) (ho : o.op = .call { callee := .builtin .copy, args := #[s, x], argTypes := #[T, sT] }) (E : Elem P T e 1 bytes z) {v : Value} (hs : a.eval s = v) (i : Nat) {n : Nat} {xs : List Value}
    (hi : l[i]? = some (.row v e 1 n xs)) {vx : Value} (hx : a.eval x = vx) (j : Nat) {m : Nat} {news : List Value} (hj : (l[j]?).bind Ent.slOf = some (vx, 1, m, news))
    (h : ∀ w', SH w0 w' (l.set i (.row v e 1 n (news.take n ++ xs.drop m))) → wpList P ops Q rest (a.put o.dst (goInt ((min m n : Nat) : Int))) w') : wpList P ops Q (o :: rest) a w := by
  obtain ⟨w', hr, H'⟩ := run_cp (ρ := a.eval) (P := P) H i hi (H.rd j hj) s x ho hs hx
  exact wpl_value hgd hr (h w' H')

/-- v[lo:hi] of a slice that is only read. -/
theorem lk_slS (H : SH w0 w l) (hgd : Region.wanted o (yielded ops a.tmps) = true) (x : Operand) (lo hi : Option Operand) (ho : o.op = .slice T x lo hi none) (E : Elem P T e size bytes z) {v : Value} (hx : a.eval x = v) (i : Nat) {n : Nat} {xs : List Value}
    (hi' : l[i]? = some (.sl v size n xs)) (lv hv : Nat) (hl : (lo = none ∧ lv = 0) ∨ ∃ p k L, lo = some p ∧ a.eval p = .int k L ∧ L = (lv : Int)) (hh : (hi = none ∧ hv = n) ∨ ∃ p k L, hi = some p ∧ a.eval p = .int k L ∧ L = (hv : Int)) (h1 : lv ≤ hv) (h2 : hv ≤ n)
    (k : Nat) (hk : hv - lv = k) (h : ∀ p c, SH w0 w (.sl (.slice p k c) size k ((xs.drop (lv * size)).take (k * size)) :: l) → wpList P ops Q rest (a.put o.dst (.slice p k c)) w) : wpList P ops Q (o :: rest) a w := by
  obtain ⟨v', hr, hs, hb, h3⟩ := run_sl (ρ := a.eval) (P := P) (H.sl hi') x lo hi ho hx lv hv hl hh h1 h2
  subst hk
  obtain ⟨p, c, rfl, _⟩ := id hs
  refine wpl_value hgd hr (h p c (H.addSl hs ?_))
  by_cases h0 : xs = []
  · subst h0; exact .inl (by simp)
  · refine .inr fun y hy hyr hyb => ?_
    obtain ⟨k, hk, rfl⟩ := List.getElem_of_mem hy
    have hne : k ≠ i := by
      intro e
      subst e
      have : l[k]? = some l[k] := List.getElem?_eq_getElem hk
      rw [hi'] at this
      obtain this := Option.some.inj this
      exact hyr (by rw [← this]; trivial)
    have := H.apartAt (List.getElem?_eq_getElem hk) hi' hne
    rcases this with h | h | h
    · exact hyr h.1
    · rw [hyb, hb] at h
      have : (Ent.sl v size n xs).block = v.ownBlock := by simp [Ent.block, h0]
      obtain ⟨ao, c, rfl, a2, a3, a4, a5, a6, a7, a8⟩ := H.sl hi'
      cases ao with
      | none =>
        obtain ⟨rfl, _⟩ := a6 rfl
        simp at a4; exact h0 a4
      | some ad => simp [Value.ownBlock] at h
    · have : (Ent.sl v size n xs).block = v.ownBlock := by simp [Ent.block, h0]
      rw [this, hyb, hb] at h
      exact h rfl

/-- The slice's array lies in a block that was not there. -/
def Fr (w0 : World) (v : Value) : Prop := ∀ k, v.ownBlock = some k → w0.heap.size ≤ k

/-- v[lo:hi] of an owned row: from then on only the part is known, and only read. -/
theorem lk_slR (H : SH w0 w l) (hgd : Region.wanted o (yielded ops a.tmps) = true) (x : Operand) (lo hi : Option Operand) (ho : o.op = .slice T x lo hi none) (E : Elem P T e size bytes z) {v : Value} (hx : a.eval x = v) (i : Nat) {n : Nat} {xs : List Value}
    (hi' : l[i]? = some (.row v e size n xs)) (lv hv : Nat) (hl : (lo = none ∧ lv = 0) ∨ ∃ p k L, lo = some p ∧ a.eval p = .int k L ∧ L = (lv : Int)) (hh : (hi = none ∧ hv = n) ∨ ∃ p k L, hi = some p ∧ a.eval p = .int k L ∧ L = (hv : Int)) (h1 : lv ≤ hv) (h2 : hv ≤ n)
    (k : Nat) (hk : hv - lv = k) (h : ∀ p c, SH w0 w (.sl (.slice p k c) size k ((xs.drop (lv * size)).take (k * size)) :: l.set i (.sl v size n xs)) → Fr w0 (.slice p k c) → wpList P ops Q rest (a.put o.dst (.slice p k c)) w) : wpList P ops Q (o :: rest) a w := by
  obtain ⟨v', hr, hs, hb, h3⟩ := run_sl (ρ := a.eval) (P := P) (H.rowSl hi') x lo hi ho hx lv hv hl hh h1 h2
  subst hk
  obtain ⟨p, c, rfl, _⟩ := id hs
  have hrow := H.get hi'
  refine wpl_value hgd hr (h p c ((H.toSl hi').addSl hs ?_) fun k hk => ?_)
  · by_cases h0 : xs = []
    · subst h0; exact .inl (by simp)
    · refine .inr fun y hy hyr hyb => ?_
      obtain ⟨j, hj, rfl⟩ := List.getElem_of_mem hy
      rw [List.length_set] at hj
      rw [List.getElem_set] at hyr hyb
      split at hyr
      · exact hyr trivial
      · rename_i hne
        rw [if_neg hne] at hyb
        have := H.apartAt (List.getElem?_eq_getElem hj) hi' (Ne.symm hne)
        rcases this with h | h | h
        · exact hyr h.1
        · rw [hyb, hb] at h
          rcases hrow.1.2 with ⟨rfl, rfl⟩ | ⟨g, cap, cur, rfl, _⟩
          · have := hrow.1.1; simp at this; exact h0 this
          · simp [Value.ownBlock] at h
        · rw [hyb, hb] at h
          exact h rfl
  · rw [hb] at hk
    exact (hrow.1.lt k hk).1
end

theorem one_nil : ∀ u ∈ ([] : List Value), u.oneCell' = true := by simp
theorem one_cons {u : Value} {l : List Value} (h : u.oneCell' = true) (hl : ∀ x ∈ l, x.oneCell' = true) : ∀ x ∈ u :: l, x.oneCell' = true := by
  intro x hx
  rcases List.mem_cons.1 hx with rfl | hx
  · exact h
  · exact hl x hx
theorem cells_one {u : Value} (h : u.oneCell' = true) : u.cells = [u].toArray := by cases u <;> first | rfl | simp [Value.oneCell'] at h

section
variable {P : Program} {w : World} {ops : Array Oper} {rest : List Oper} {a : Act} {Q : Exit → Act → World → Prop}
/-- A guard: the operation that stands next writes slot d. -/
theorem at_slot (d : Nat) {op : Op} {ty : TypeId} {p : String} {af : Array Edge} {g : Option (Nat × Bool)} (h : wpList P ops Q (⟨some d, op, ty, p, af, g⟩ :: rest) a w) : wpList P ops Q (⟨some d, op, ty, p, af, g⟩ :: rest) a w := h
/-- A guard: the operation that stands next is a store of y at x. -/
theorem at_store (x y : Operand) {t ty : TypeId} {p : String} {af : Array Edge} {g : Option (Nat × Bool)} (h : wpList P ops Q (⟨none, .store t x y, ty, p, af, g⟩ :: rest) a w) : wpList P ops Q (⟨none, .store t x y, ty, p, af, g⟩ :: rest) a w := h
end
theorem at0 {α : Type} {x : α} {l : List α} : (x :: l)[0]? = some x := rfl

/-- The result lies in a variable that is known whole. -/
theorem ret_cell {P : Program} {w0 w : World} {l : List Ent} {fn : Func} {R : Ending → World → Prop} {a : Act} {t : Tmp} {ty : TypeId} {z : List Value} (hr : fn.results = #[.cell t ty]) (T : Ty P ty true z) (H : SH w0 w l) {g : Nat}
    (hx : a.tmps.getD t undef = .pointer (some ⟨g, 0, none⟩)) (i : Nat) {cs : List Value} {e : TypeId} (hi : l[i]? = some (.box g cs e)) (hl : cs.length = z.length) (hd : a.defers = []) (hR : R (.returned (.agg cs.toArray)) w) :
    bodyPost P fn R .ret a w := by
  have hc : CellsAt w ⟨g, 0, none⟩ cs := by simpa using H.boxCells (List.mem_of_getElem? hi) 0
  refine ⟨hd, _, ?_, hR⟩
  have hx' : a.tmps[t]?.getD undef = .pointer (some ⟨g, 0, none⟩) := by simpa using hx
  simp [results, hr, hx', asAddr, run_loadVarA hc hl]

theorem SH.tail {w0 w : World} {l : List Ent} {x : Ent} (h : SH w0 w (x :: l)) : SH w0 w l :=
  ⟨h.below, fun y hy => h.ok y (List.mem_cons_of_mem _ hy), (List.pairwise_cons.1 h.apart).2⟩

/-- Entries of new blocks alone. -/
def NewH (w w' : World) (l : List Ent) : Prop := SH w w' l ∧ ∀ x ∈ l, ∀ k, x.block = some k → w.heap.size ≤ k
theorem SH.callN {w0 w w' : World} {l l' : List Ent} (h : SH w0 w l) (h' : NewH w w' l') : SH w0 w' (l' ++ l) := h.call h'.1 h'.2
theorem NewH.below {w w' : World} {l : List Ent} (h : NewH w w' l) : Below w.heap.size w w' := h.1.below
theorem NewH.rows {w w' : World} {l : List Ent} (h : SH w w' l) (hr : ∀ x ∈ l, ¬ x.read) : NewH w w' l := ⟨h, fun x hx k hk => by
  rcases (Ent.lt (h.ok x hx) k hk).2 with h | h
  · exact absurd h (hr x hx)
  · exact h⟩
theorem NewH.row1 {w0 w' : World} {v : Value} {e : TypeId} {sz n : Nat} {xs : List Value} (h : SH w0 w' [.row v e sz n xs]) : NewH w0 w' [.row v e sz n xs] := .rows h (by simp [Ent.read])
theorem NewH.row2 {w0 w' : World} {v v' : Value} {e e' : TypeId} {sz sz' n n' : Nat} {xs xs' : List Value} (h : SH w0 w' [.row v e sz n xs, .row v' e' sz' n' xs']) : NewH w0 w' [.row v e sz n xs, .row v' e' sz' n' xs'] := .rows h (by simp [Ent.read])

theorem NewH.rowSl {w0 w' : World} {v v' : Value} {e : TypeId} {sz sz' n n' : Nat} {xs xs' : List Value} (h : SH w0 w' [.row v e sz n xs, .sl v' sz' n' xs']) (hf : Fr w0 v') : NewH w0 w' [.row v e sz n xs, .sl v' sz' n' xs'] := by
  refine ⟨h, fun x hx k hk => ?_⟩
  simp only [List.mem_cons, List.not_mem_nil, or_false] at hx
  rcases hx with rfl | rfl
  · rcases (Ent.lt (h.ok _ List.mem_cons_self) k hk).2 with h | h
    · exact h.elim
    · exact h
  · simp only [Ent.block] at hk
    split at hk
    · cases hk
    · exact hf k hk
/-- A new row, from then on only read. -/
theorem NewH.toSl {w w' : World} {l : List Ent} (h : NewH w w' l) {i : Nat} {v : Value} {e : TypeId} {sz n : Nat} {xs : List Value} (hi : l[i]? = some (.row v e sz n xs)) : NewH w w' (l.set i (.sl v sz n xs)) := by
  refine ⟨h.1.toSl hi, fun x hx k hk => ?_⟩
  obtain ⟨j, hj, rfl⟩ := List.getElem_of_mem hx
  rw [List.length_set] at hj
  rw [List.getElem_set] at hk
  split at hk
  · refine h.2 _ (List.mem_of_getElem? hi) k ?_
    simp only [Ent.block] at hk ⊢
    split at hk
    · cases hk
    · exact hk
  · exact h.2 _ (List.getElem_mem hj) k hk
theorem NewH.pick {w w' : World} {l : List Ent} (h : NewH w w' l) (is : List Nat) (l' : List Ent) (hl : is.map (l[·]?) = l'.map some) (hd : is.Nodup) : NewH w w' l' := by
  refine ⟨h.1.pick is l' hl hd, fun x hx => h.2 x ?_⟩
  obtain ⟨k, hk, rfl⟩ := List.getElem_of_mem hx
  have hlen : is.length = l'.length := by have := congrArg List.length hl; simpa using this
  have := congrArg (fun m => m[k]?) hl
  simp [List.getElem?_map, hk, show k < is.length by omega] at this
  exact List.mem_of_getElem? this

theorem ints_get (xs : List Int) (k : Nat) (h : k < xs.length) : (ints xs)[k]? = some (.int .i64 xs[k]) := by simp [ints, h]
theorem ints_set (xs : List Int) (k : Nat) (y : Int) : (ints xs).set k (.int .i64 y) = ints (xs.set k y) := by simp [ints, List.map_set]
theorem ints_append (xs ys : List Int) : ints xs ++ ints ys = ints (xs ++ ys) := by simp [ints]
theorem take_succ {α : Type} (xs : List α) (k : Nat) (h : k < xs.length) : xs.take (k + 1) = xs.take k ++ [xs[k]] := by
  rw [List.take_succ_eq_append_getElem h]

/-- The value of a struct's field. -/
class Fvl (P : Program) (S : TypeId) (f : Nat) (off : outParam Nat) (agg : outParam Bool) (sz : outParam Nat) : Prop where
  out : ∃ fs fd, P.underlying S = some (.struct fs) ∧ fs[f]? = some fd ∧ fd.offset = off ∧ (∀ w, (isAgg fd.type).run P w = .ok agg w) ∧ (P.info? fd.type).map (·.size) = some sz
theorem Fvl.of {P : Program} {S : TypeId} {f off sz : Nat} {agg : Bool} {z : List Value} {fs : Array Field} {fd : Field} (h1 : P.underlying S = some (.struct fs)) (h2 : fs[f]? = some fd) (h3 : fd.offset = off) (T : Ty P fd.type agg z) (hz : z.length = sz) : Fvl P S f off agg sz := by
  subst hz
  obtain ⟨i, zv, hi, _, hs, _⟩ := T.info
  exact ⟨fs, fd, h1, h2, h3, T.isagg, by rw [hi]; simp [hs]⟩

section
variable {P : Program} {w w0 : World} {l : List Ent} {ops : Array Oper} {rest : List Oper} {o : Oper} {a : Act} {Q : Exit → Act → World → Prop} {ρ : Operand → Value}
theorem run_fv1 {S : TypeId} {f off sz : Nat} [F : Fvl P S f off false sz] (x : Operand) (ho : o.op = .field S x f) {cs : Array Value} (hx : ρ x = .agg cs) {v : Value} (hv : cs[off]? = some v) :
    (execOp ρ o).run P w = .ok (.value v) w := by
  obtain ⟨fs, fd, h1, h2, rfl, h4, h5⟩ := F.out
  simp [execOp, ho, Instr.field, run_underlying h1, h2, hx, asAgg, part, h4, hv]
theorem run_fvA {S : TypeId} {f off sz : Nat} [F : Fvl P S f off true sz] (x : Operand) (ho : o.op = .field S x f) {cs : Array Value} (hx : ρ x = .agg cs) :
    (execOp ρ o).run P w = .ok (.value (.agg (cs.extract off (off + sz)))) w := by
  obtain ⟨fs, fd, h1, h2, rfl, h4, h5⟩ := F.out
  obtain ⟨i, hi, hs⟩ := Option.map_eq_some_iff.1 h5
  simp [execOp, ho, Instr.field, run_underlying h1, h2, hx, asAgg, part, h4, sizeOf, typeInfo, hi, hs]
theorem lk_fv1 (hgd : Region.wanted o (yielded ops a.tmps) = true) {S : TypeId} {f off sz : Nat} (x : Operand) (ho : o.op = .field S x f) (F : Fvl P S f off false sz) {cs : Array Value} (hx : a.eval x = .agg cs) {v : Value} (hv : cs[off]? = some v)
    (h : wpList P ops Q rest (a.put o.dst v) w) : wpList P ops Q (o :: rest) a w := wpl_value hgd (run_fv1 x ho hx hv) h
theorem lk_fvA (hgd : Region.wanted o (yielded ops a.tmps) = true) {S : TypeId} {f off sz : Nat} (x : Operand) (ho : o.op = .field S x f) (F : Fvl P S f off true sz) {cs : Array Value} (hx : a.eval x = .agg cs) (us : List Value) (hus : cs.extract off (off + sz) = us.toArray)
    (h : wpList P ops Q rest (a.put o.dst (.agg us.toArray)) w) : wpList P ops Q (o :: rest) a w := wpl_value hgd (run_fvA x ho hx) (by rw [hus]; exact h)
end

/-! ### What a region's operations leave, in new memory -/

theorem NewH.after {ws w w' : World} {l : List Ent} (hb : Below ws.heap.size ws w) (h : NewH w w' l) : NewH ws w' l := by
  refine ⟨⟨hb.trans (h.below.mono hb.size), fun x hx => ?_, h.1.apart⟩, fun x hx k hk => Nat.le_trans hb.size (h.2 x hx k hk)⟩
  have := h.1.ok x hx
  cases x with
  | box g cs e => exact ⟨Nat.le_trans hb.size this.1, this.2⟩
  | row v e sz n xs => exact ⟨own_mono this.1 hb.size, this.2⟩
  | sl v sz n xs => exact this
theorem NewH.grow {ws w w' : World} {l : List Ent} (h : NewH ws w l) (hb : Below w.heap.size w w') : NewH ws w' l := ⟨h.1.below_of hb, h.2⟩
theorem NewH.join {ws w : World} {l l' : List Ent} (h : NewH ws w l) (h' : NewH ws w l') (r : ∀ x ∈ l, x.read) (r' : ∀ x ∈ l', x.read) : NewH ws w (l ++ l') := by
  refine ⟨⟨h.below, ?_, List.pairwise_append.2 ⟨h.1.apart, h'.1.apart, fun x hx y hy => .inl ⟨r x hx, r' y hy⟩⟩⟩, ?_⟩
  · intro x hx
    rcases List.mem_append.1 hx with hx | hx
    · exact h.1.ok x hx
    · exact h'.1.ok x hx
  · intro x hx
    rcases List.mem_append.1 hx with hx | hx
    · exact h.2 x hx
    · exact h'.2 x hx

/-- A new slice that can be read. -/
def NewSl (ws : World) (sz n : Nat) (xs : List Value) : Fact := fun v w => ∃ p c, v = .slice p n c ∧ NewH ws w [.sl (.slice p n c) sz n xs]
theorem NewSl.stable (ws : World) (sz n : Nat) (xs : List Value) : (NewSl ws sz n xs).stable := fun _ _ _ hb ⟨p, c, h1, h2⟩ => ⟨p, c, h1, h2.grow hb⟩

section
variable {P : Program} {w w0 : World} {l : List Ent} {o : Oper} {ρ : Operand → Value} {T e : TypeId} {size bytes : Nat} {z : List Value}
theorem args1 {x : Operand} {v : Value} (h : ρ x = v) : #[x].map ρ = #[v] := by simp [h]
theorem args2 {x y : Operand} {v u : Value} (h : ρ x = v) (h' : ρ y = u) : #[x, y].map ρ = #[v, u] := by simp [h, h']
theorem args3 {x y x' : Operand} {v u v' : Value} (h : ρ x = v) (h' : ρ y = u) (h3 : ρ x' = v') : #[x, y, x'].map ρ = #[v, u, v'] := by simp [h, h', h3]
theorem args4 {x y x' y' : Operand} {v u v' u' : Value} (h : ρ x = v) (h' : ρ y = u) (h3 : ρ x' = v') (h4 : ρ y' = u') : #[x, y, x', y'].map ρ = #[v, u, v', u'] := by simp [h, h', h3, h4]

theorem yd_call {Post : Value → World → Prop} {f : FuncId} [C : Cbl P f] {xs : Array Operand} {ats : Array TypeId} (ho : o.op = .call { callee := .value (.func f), args := xs, argTypes := ats }) (hf : ρ (.func f) = .func (.func f) #[] #[])
    {args : Array Value} (ha : xs.map ρ = args) {R : Ending → World → Prop} (hc : Calls P f args w R) (h : ∀ e w', R e w' → ∃ v, e = .returned v ∧ Post v w') : Yields P o ρ w Post := by
  refine yields_call (run_call ho hf) ?_ h
  rw [ha]; exact hc

theorem yd_det {v : Value} (hrun : (execOp ρ o).run P w = .ok (.value v) w) : Yields P o ρ w (fun u w' => Below w.heap.size w w' ∧ Det v u w') := yields_value hrun ⟨Below.refl _ _, rfl⟩

/-- A literal slice, in a region. -/
theorem yd_bs {ws : World} {len : Nat} {xs : List Value} (hb : Below ws.heap.size ws w) (vs : List Value) (parts : Array (Nat × Operand)) (ho : o.op = .buildSlice T len parts) (E : Elem P T e size bytes z)
    (hp : parts.toList.map (fun p => (p.1, ρ p.2)) = enumV 0 vs) (hlen : vs.length = len) (hsz : ∀ v ∈ vs, v.cells.size = size) (hxs : (vs.flatMap fun v => v.cells.toList) = xs) (h1 : ∀ u ∈ xs, u.oneCell' = true)
    (hl : len * size ≤ 100000) : Yields P o ρ w (fun u w' => Below w.heap.size w w' ∧ NewSl ws size len xs u w') := by
  obtain ⟨v, w', hr, H', hbl, _, _⟩ := run_bs (P := P) (SH.start w) len parts ho vs hp hlen hsz xs hxs h1 hl
  obtain ⟨p, c, rfl⟩ := ownShape (H'.get (i := 0) rfl).1
  exact yields_value hr ⟨hbl, p, c, rfl, ((NewH.row1 H').toSl (i := 0) rfl).after hb⟩
end

theorem obl_of {P : Program} {ops : Array Oper} {fr : (Nat → Value) → Act} {fs : List Fact} {ws : World} {o : Oper} {f : Fact} (hg : o.guard = none)
    (h : ∀ (ω : Nat → Value) (w : World), Below ws.heap.size ws w → Deps fs ω w o.after.toList → Yields P o (fr ω).eval w (fun v w' => Below w.heap.size w w' ∧ f v w')) : Obl P ops fr fs ws o f := by
  intro ω w hb hd
  rw [if_pos (by simp [Region.wanted, hg])]
  exact h ω w hb hd
theorem obl_yes {P : Program} {ops : Array Oper} {fr : (Nat → Value) → Act} {fs : List Fact} {ws : World} {o : Oper} {f : Fact}
    (h : ∀ (ω : Nat → Value) (w : World), Below ws.heap.size ws w → Deps fs ω w o.after.toList → Region.wanted o (yielded ops (fr ω).tmps) = true ∧ Yields P o (fr ω).eval w (fun v w' => Below w.heap.size w w' ∧ f v w')) : Obl P ops fr fs ws o f := by
  intro ω w hb hd
  obtain ⟨h1, h2⟩ := h ω w hb hd
  rw [if_pos h1]; exact h2
theorem obl_no {P : Program} {ops : Array Oper} {fr : (Nat → Value) → Act} {fs : List Fact} {ws : World} {o : Oper} {f : Fact}
    (h : ∀ (ω : Nat → Value) (w : World), Below ws.heap.size ws w → Deps fs ω w o.after.toList → Region.wanted o (yielded ops (fr ω).tmps) = false ∧ f undef w) : Obl P ops fr fs ws o f := by
  intro ω w hb hd
  obtain ⟨h1, h2⟩ := h ω w hb hd
  rw [if_neg (by rw [h1]; exact Bool.false_ne_true)]; exact h2

theorem Deps.at {fs : List Fact} {ω : Nat → Value} {w : World} : ∀ {es : List Edge}, Deps fs ω w es → ∀ (i : Nat) {f : Fact}, (es.any fun e => e.on == i) = true → fs[i]? = some f → f (ω i) w
  | [], _, _, _, h, _ => by simp at h
  | e :: es, hd, i, f, h, hf => by
    by_cases he : e.on = i
    · have := hd.1
      rw [he, hf] at this
      exact this
    · have h' : (es.any fun e => e.on == i) = true := by simpa [he] using h
      exact Deps.at hd.2 i h' hf
theorem stab_nil : ∀ f ∈ ([] : List Fact), f.stable := by simp
theorem stab_cons {f : Fact} {l : List Fact} (h : f.stable) (hl : ∀ g ∈ l, g.stable) : ∀ g ∈ f :: l, g.stable := by
  intro g hg
  rcases List.mem_cons.1 hg with rfl | hg
  · exact h
  · exact hl g hg
theorem SH.inClass {w0 w w' : World} {l : List Ent} (h : SH w0 w l) (hb : Below w.drew.heap.size w.drew w') : SH w0 w' l := (h.below_of ((Below.refl _ _).drew)).below_of hb
theorem SH.drew {w0 w : World} {l : List Ent} (h : SH w0 w l) : SH w0 w.drew l := h.below_of ((Below.refl _ _).drew)

section
variable {P : Program} {w w0 : World} {l : List Ent} {o : Oper} {ρ : Operand → Value} {t e T : TypeId} {size bytes : Nat} {z : List Value}
theorem run_b1 (H : SH w0 w l) (x : Operand) (ho : o.op = .load t x) (T : Ty P t false z) {g off : Nat} (hx : ρ x = .pointer (some ⟨g, off, none⟩)) (i : Nat) {cs : List Value} {e : TypeId} (hi : l[i]? = some (.box g cs e)) {u : Value} (hu : cs[off]? = some u) :
    (execOp ρ o).run P w = .ok (.value u) w := run_ld1 x ho hx (by rw [H.boxCell (List.mem_of_getElem? hi)]; exact hu)
theorem run_bW (H : SH w0 w l) (x : Operand) (ho : o.op = .load t x) (T : Ty P t true z) {g : Nat} (hx : ρ x = .pointer (some ⟨g, 0, none⟩)) (i : Nat) {cs : List Value} {e : TypeId} (hi : l[i]? = some (.box g cs e)) (hl : cs.length = z.length) :
    (execOp ρ o).run P w = .ok (.value (.agg cs.toArray)) w := run_ldA x ho hx (by simpa using H.boxCells (List.mem_of_getElem? hi) 0) hl
theorem run_mv (x : Operand) (ho : o.op = .move x) {v : Value} (hx : ρ x = v) : (execOp ρ o).run P w = .ok (.value v) w := by simp [execOp, ho, hx]
end
theorem parts1 {ρ : Operand → Value} {x : Operand} {v : Value} (h : ρ x = v) : (#[(0, x)] : Array (Nat × Operand)).toList.map (fun p => (p.1, ρ p.2)) = enumV 0 [v] := by simp [enumV, h]
theorem parts2 {ρ : Operand → Value} {x y : Operand} {v u : Value} (h : ρ x = v) (h' : ρ y = u) : (#[(0, x), (1, y)] : Array (Nat × Operand)).toList.map (fun p => (p.1, ρ p.2)) = enumV 0 [v, u] := by simp [enumV, h, h']

section
variable {P : Program} {w w0 : World} {l : List Ent} {o : Oper} {ρ : Operand → Value} {t e T : TypeId} {size bytes : Nat} {z : List Value}
/-- In a region: the same value in whatever world. -/
abbrev YD (P : Program) (o : Oper) (ρ : Operand → Value) (w : World) (v : Value) : Prop := Yields P o ρ w (fun u w' => Below w.heap.size w w' ∧ Det v u w')
theorem yl_mv {v : Value} (x : Operand) (ho : o.op = .move x) (hx : ρ x = v) : YD P o ρ w v := yd_det (run_mv x ho hx)
theorem yl_fld {S : TypeId} {f off : Nat} {g off0 off' : Nat} (x : Operand) (ho : o.op = .fieldAddr S x f) (F : Fld P S f off) (hx : ρ x = .pointer (some ⟨g, off0, none⟩)) (he : off0 + off = off') : YD P o ρ w (.pointer (some ⟨g, off', none⟩)) := by
  subst he
  have h := run_fld (P := P) (w := w) x ho hx
  rw [Addr.add_lit] at h
  exact yd_det h
theorem yl_b1 {g off : Nat} {cs : List Value} {e : TypeId} {u : Value} (H : SH w0 w l) (x : Operand) (ho : o.op = .load t x) (T : Ty P t false z) (hx : ρ x = .pointer (some ⟨g, off, none⟩)) (i : Nat) (hi : l[i]? = some (.box g cs e)) (hu : cs[off]? = some u) : YD P o ρ w u :=
  yd_det (run_b1 H x ho T hx i hi hu)
theorem yl_bW {g : Nat} {cs : List Value} {e : TypeId} (H : SH w0 w l) (x : Operand) (ho : o.op = .load t x) (T : Ty P t true z) (hx : ρ x = .pointer (some ⟨g, 0, none⟩)) (i : Nat) (hi : l[i]? = some (.box g cs e)) (hl : cs.length = z.length) : YD P o ρ w (.agg cs.toArray) :=
  yd_det (run_bW H x ho T hx i hi hl)
theorem yl_ix {v : Value} {n : Nat} {xs : List Value} {k : IntKind} {I : Int} (j : Nat) (x y : Operand) (ho : o.op = .indexAddr T x y) (E : Elem P T e size bytes z) (hx : ρ x = v) (h : Sl w size v n xs) (hy : ρ y = .int k I) (hI : I = (j : Int)) (hj : j < n) : YD P o ρ w (elemPtr v (j * size)) :=
  yd_det (run_ix h x y ho hx j hy hI hj)
theorem yl_elf {S : TypeId} {f off : Nat} {v : Value} {j : Nat} {sz n : Nat} {xs : List Value} (x : Operand) (ho : o.op = .fieldAddr S x f) (F : Fld P S f off) (hx : ρ x = elemPtr v j) (h : Sl w sz v n xs) (hj : j < xs.length) : YD P o ρ w (elemPtr v (j + off)) :=
  yd_det (run_elf h x ho j hx hj)
theorem yl_el1 {v : Value} {j : Nat} {sz n : Nat} {xs : List Value} {u : Value} (x : Operand) (ho : o.op = .load t x) (T : Ty P t false z) (hx : ρ x = elemPtr v j) (h : Sl w sz v n xs) (hu : xs[j]? = some u) : YD P o ρ w u :=
  yd_det (run_el1 h x ho j hx hu)
theorem yl_elA {v : Value} {j : Nat} {sz n : Nat} {xs us : List Value} (x : Operand) (ho : o.op = .load t x) (T : Ty P t true z) (hx : ρ x = elemPtr v j) (h : Sl w sz v n xs) (hus : (xs.drop j).take z.length = us) (hl : us.length = z.length) (hz : 0 < z.length) :
    YD P o ρ w (.agg us.toArray) := yd_det (run_elA h x ho j hx us hus hl hz)
theorem yl_len {p : Option Addr} {n c : Nat} (x : Operand) (ho : o.op = .call { callee := .builtin .len, args := #[x], argTypes := #[T] }) (E : Elem P T e size bytes z) (hx : ρ x = .slice p n c) : YD P o ρ w (.int .i64 (n : Int)) := by
  refine yd_det ?_
  simp [execOp, ho, resolve, invoke, builtin, Builtin.len_, run_underlying E.und, hx, goInt]
theorem yl_fv1 {S : TypeId} {f off sz : Nat} {cs : Array Value} {v : Value} (x : Operand) (ho : o.op = .field S x f) (F : Fvl P S f off false sz) (hx : ρ x = .agg cs) (hv : cs[off]? = some v) : YD P o ρ w v := yd_det (run_fv1 x ho hx hv)
theorem yl_pick {b : Bool} {v : Value} (x y y' : Operand) (ho : o.op = .pick x y y') (hx : ρ x = .bool b) (hy : ρ (if b then y else y') = v) : YD P o ρ w v := by
  refine yd_det ?_
  cases b <;> simp [execOp, ho, hx, asBool] at hy ⊢ <;> exact hy
end

section
variable {P : Program} {w w0 : World} {l : List Ent} {o : Oper} {ρ : Operand → Value} {t t' : TypeId}
theorem yl_eql {a b : Int} {k : IntKind} {r : Bool} (x y : Operand) (ho : o.op = .binOp .eql t x y t') (hx : ρ x = .int k a) (hy : ρ y = .int k b) (hr : (a == b) = r) : YD P o ρ w (.bool r) := by
  subst hr; exact yd_det (by simp [execOp, ho, hx, hy, eqGuard, go_sem])
theorem yl_neq {a b : Int} {k : IntKind} {r : Bool} (x y : Operand) (ho : o.op = .binOp .neq t x y t') (hx : ρ x = .int k a) (hy : ρ y = .int k b) (hr : (a != b) = r) : YD P o ρ w (.bool r) := by
  subst hr; exact yd_det (by simp [execOp, ho, hx, hy, eqGuard, go_sem])
theorem yl_lss {a b : Int} {k : IntKind} {r : Bool} (x y : Operand) (ho : o.op = .binOp .lss t x y t') (hx : ρ x = .int k a) (hy : ρ y = .int k b) (hr : decide (a < b) = r) : YD P o ρ w (.bool r) := by
  subst hr; exact yd_det (by simp [execOp, ho, hx, hy, eqGuard, go_sem])
theorem yl_leq {a b : Int} {k : IntKind} {r : Bool} (x y : Operand) (ho : o.op = .binOp .leq t x y t') (hx : ρ x = .int k a) (hy : ρ y = .int k b) (hr : decide (a ≤ b) = r) : YD P o ρ w (.bool r) := by
  subst hr; exact yd_det (by simp [execOp, ho, hx, hy, eqGuard, go_sem])
theorem yl_gtr {a b : Int} {k : IntKind} {r : Bool} (x y : Operand) (ho : o.op = .binOp .gtr t x y t') (hx : ρ x = .int k a) (hy : ρ y = .int k b) (hr : decide (b < a) = r) : YD P o ρ w (.bool r) := by
  subst hr; exact yd_det (by simp [execOp, ho, hx, hy, eqGuard, go_sem])
theorem yl_geq {a b : Int} {k : IntKind} {r : Bool} (x y : Operand) (ho : o.op = .binOp .geq t x y t') (hx : ρ x = .int k a) (hy : ρ y = .int k b) (hr : decide (b ≤ a) = r) : YD P o ρ w (.bool r) := by
  subst hr; exact yd_det (by simp [execOp, ho, hx, hy, eqGuard, go_sem])
theorem yl_add {a b r : Int} {k : IntKind} (x y : Operand) (ho : o.op = .binOp .add t x y t') (hx : ρ x = .int k a) (hy : ρ y = .int k b) (hr : k.wrap (a + b) = r) : YD P o ρ w (.int k r) := by
  subst hr; exact yd_det (by simp [execOp, ho, hx, hy, eqGuard, go_sem])
theorem yl_sub {a b r : Int} {k : IntKind} (x y : Operand) (ho : o.op = .binOp .sub t x y t') (hx : ρ x = .int k a) (hy : ρ y = .int k b) (hr : k.wrap (a - b) = r) : YD P o ρ w (.int k r) := by
  subst hr; exact yd_det (by simp [execOp, ho, hx, hy, eqGuard, go_sem])
theorem yl_mul {a b r : Int} {k : IntKind} (x y : Operand) (ho : o.op = .binOp .mul t x y t') (hx : ρ x = .int k a) (hy : ρ y = .int k b) (hr : k.wrap (a * b) = r) : YD P o ρ w (.int k r) := by
  subst hr; exact yd_det (by simp [execOp, ho, hx, hy, eqGuard, go_sem])
theorem yl_rem {a b r : Int} {k : IntKind} (x y : Operand) (ho : o.op = .binOp .rem t x y t') (hx : ρ x = .int k a) (hy : ρ y = .int k b) (hb : b ≠ 0) (hr : a.tmod b = r) : YD P o ρ w (.int k r) := by
  subst hr; exact yd_det (by simp [execOp, ho, hx, hy, eqGuard, go_sem, hb])
theorem yl_not {a r : Bool} (x : Operand) (ho : o.op = .unOp .not t x) (hx : ρ x = .bool a) (hr : (!a) = r) : YD P o ρ w (.bool r) := by
  subst hr; exact yd_det (by simp [execOp, ho, hx, eqGuard, go_sem])

theorem obl_guard {ops : Array Oper} {fr : (Nat → Value) → Act} {fs : List Fact} {ws : World} {f : Fact} {j d : Nat} {want : Bool} (hg : o.guard = some (j, want)) (hj : (o.after.toList.any fun e => e.on == j) = true)
    (hf : fs[j]? = some (Det (.bool want))) (hd : (ops[j]?).bind (·.dst) = some d) (hfr : ∀ ω, (fr ω).tmps[d]? = some (ω j))
    (h : ∀ (ω : Nat → Value) (w : World), Below ws.heap.size ws w → Deps fs ω w o.after.toList → Yields P o (fr ω).eval w (fun v w' => Below w.heap.size w w' ∧ f v w')) : Obl P ops fr fs ws o f := by
  refine obl_yes fun ω w hb hdp => ⟨?_, h ω w hb hdp⟩
  have := hdp.at j hj hf
  have hω : ω j = .bool want := this
  simp [Region.wanted, hg, yielded, hd, hfr, hω]
theorem obl_skip {ops : Array Oper} {fr : (Nat → Value) → Act} {fs : List Fact} {ws : World} {j d : Nat} {want b : Bool} (hg : o.guard = some (j, want)) (hj : (o.after.toList.any fun e => e.on == j) = true)
    (hf : fs[j]? = some (Det (.bool b))) (hd : (ops[j]?).bind (·.dst) = some d) (hfr : ∀ ω, (fr ω).tmps[d]? = some (ω j)) (hne : b ≠ want) : Obl P ops fr fs ws o (Det undef) := by
  refine obl_no fun ω w hb hdp => ⟨?_, rfl⟩
  have := hdp.at j hj hf
  have hω : ω j = .bool b := this
  simp [Region.wanted, hg, yielded, hd, hfr, hω, hne]
end
theorem NewH.rowNil {w0 w' : World} {v v' : Value} {e : TypeId} {sz sz' n n' : Nat} {xs : List Value} (h : SH w0 w' [.row v e sz n xs, .sl v' sz' n' []]) : NewH w0 w' [.row v e sz n xs, .sl v' sz' n' []] := by
  refine ⟨h, fun x hx k hk => ?_⟩
  simp only [List.mem_cons, List.not_mem_nil, or_false] at hx
  rcases hx with rfl | rfl
  · rcases (Ent.lt (h.ok _ List.mem_cons_self) k hk).2 with h | h
    · exact h.elim
    · exact h
  · simp [Ent.block] at hk

theorem lk_call {P : Program} {w : World} {ops : Array Oper} {rest : List Oper} {o : Oper} {a : Act} {Q : Exit → Act → World → Prop} (hgd : Region.wanted o (yielded ops a.tmps) = true) {f : FuncId} {xs : Array Operand} {ats : Array TypeId}
    (ho : o.op = .call { callee := .value (.func f), args := xs, argTypes := ats }) (C : Cbl P f) {args : Array Value} {R : Ending → World → Prop} (hc : Calls P f args w R) (ha : xs.map a.eval = args)
    (h : ∀ e w', R e w' → ∃ v, e = .returned v ∧ wpList P ops Q rest (a.put o.dst v) w') : wpList P ops Q (o :: rest) a w := by
  subst ha
  refine BigFrame.wpList_want hgd fun K hK => ?_
  unfold Oper.wp
  rw [run_call (ρ := a.eval) ho rfl]
  exact hc.mono fun e w' hR => by
    obtain ⟨v, rfl, hw⟩ := h e w' hR
    exact hK _ _ hw
theorem args0 {ρ : Operand → Value} : (#[] : Array Operand).map ρ = #[] := by simp
theorem args5 {ρ : Operand → Value} {x y x' y' z : Operand} {v u v' u' t : Value} (h : ρ x = v) (h' : ρ y = u) (h3 : ρ x' = v') (h4 : ρ y' = u') (h5 : ρ z = t) : #[x, y, x', y', z].map ρ = #[v, u, v', u', t] := by simp [h, h', h3, h4, h5]
end Go.Proofs.Ytphlaojoehmhaaa
