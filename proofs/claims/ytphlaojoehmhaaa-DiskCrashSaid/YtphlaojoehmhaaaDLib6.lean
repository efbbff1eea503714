/- The machine's rules: code, what is forgotten, calls. No program text. -/
import Derived.Test.YtphlaojoehmhaaaDLib5
set_option linter.unusedSimpArgs false
set_option linter.unusedVariables false
namespace Go.Proofs.Ytphlaojoehmhaaa
open Go.RowKit

/-! ### What is forgotten, renamed, frozen -/

inductive Lv (ρ : Oid → Oid) (σ : St) (F : Oid → Bool) : AV → AV → Prop where
  | dead {a : AV} : Lv ρ σ F .dead a
  | v {x : Value} : Lv ρ σ F (.v x) (.v x)
  | sl {n : Nat} {xs : List PV} : Lv ρ σ F (.sl n xs) (.sl n xs)
  | fp {off : Nat} {xs : List PV} : Lv ρ σ F (.fp off xs) (.fp off xs)
  | nil : Lv ρ σ F (.sl 0 []) (.v (.slice none 0 0))
  | ref {id : Oid} {off n : Nat} : Lv ρ σ F (.ref id off n) (.ref (ρ id) off n)
  | ptr {id : Oid} {off : Nat} : Lv ρ σ F (.ptr id off) (.ptr (ρ id) off)
  | frz {id : Oid} {e : TypeId} {sz off n : Nat} {xs ys : List PV} (hid : σ.ob id = .obj (.row e sz xs)) (hF : F id = true) (hy : (xs.drop off).take (n * sz) = ys) (hl : off + n * sz ≤ xs.length) : Lv ρ σ F (.sl n ys) (.ref id off n)
  | frzP {id : Oid} {e : TypeId} {off : Nat} {xs : List AV} {ys : List PV} (hid : σ.ob id = .obj (.box e xs)) (hF : F id = true) (hy : downs xs = some ys) : Lv ρ σ F (.fp off ys) (.ptr id off)
  | agg {xs ys : List AV} (hl : xs.length = ys.length) (h : ∀ (j : Nat) (a b : AV), xs[j]? = some a → ys[j]? = some b → Lv ρ σ F a b) : Lv ρ σ F (.agg xs) (.agg ys)
  | fn {f : Fn} {xs ys us vs : List AV} (hl : xs.length = ys.length) (h : ∀ (j : Nat) (a b : AV), xs[j]? = some a → ys[j]? = some b → Lv ρ σ F a b)
      (hl' : us.length = vs.length) (h' : ∀ (j : Nat) (a b : AV), us[j]? = some a → vs[j]? = some b → Lv ρ σ F a b) : Lv ρ σ F (.fn f xs us) (.fn f ys vs)
  | ifc {t : TypeId} {a b : AV} (h : Lv ρ σ F a b) : Lv ρ σ F (.ifc t a) (.ifc t b)
  | z : Lv ρ σ F .z .z
  | z0 : Lv ρ σ F (.sl 0 []) .z
  | tup {xs ys : List AV} (hl : xs.length = ys.length) (h : ∀ (j : Nat) (a b : AV), xs[j]? = some a → ys[j]? = some b → Lv ρ σ F a b) : Lv ρ σ F (.tup xs) (.tup ys)

theorem lv_nil {ρ : Oid → Oid} {σ : St} {F : Oid → Bool} : ∀ (j : Nat) (a b : AV), ([] : List AV)[j]? = some a → ([] : List AV)[j]? = some b → Lv ρ σ F a b := by simp
theorem lv_cons {ρ : Oid → Oid} {σ : St} {F : Oid → Bool} {x y : AV} {xs ys : List AV} (h : Lv ρ σ F x y) (hs : ∀ (j : Nat) (a b : AV), xs[j]? = some a → ys[j]? = some b → Lv ρ σ F a b) :
    ∀ (j : Nat) (a b : AV), (x :: xs)[j]? = some a → (y :: ys)[j]? = some b → Lv ρ σ F a b := by
  intro j a b ha hb
  cases j with
  | zero => simp at ha hb; subst ha; subst hb; exact h
  | succ j => exact hs j a b (by simpa using ha) (by simpa using hb)

theorem Lv.rep {K : Ctx} {ι ι1 : Oid → Option Blk} {S S1 : Nat → Prop} {ρ : Oid → Oid} {σ : St} {F : Oid → Bool} {act : Act} {w : World} (R : RelI K ι S σ act w) {a b : AV} (h : Lv ρ σ F a b)
    (h1 : ∀ id B, ι1 id = some B → ι (ρ id) = some B) (hS : ∀ g, S g → S1 g) (hF : ∀ id B g, F id = true → ι id = some B → B.g = some g → S1 g) : ∀ {v : Value}, Rep ι S w b v → Rep ι1 S1 w a v := by
  induction h with
  | dead => intro v _; exact .dead
  | v => intro v hv; cases hv; exact .v
  | sl => intro v hv; cases hv with
    | sl h => exact .sl (h.next (fun _ _ => rfl) hS)
  | fp => intro v hv; cases hv with
    | fp h => exact .fp (h.next (fun _ _ => rfl) hS)
  | nil => intro v hv; cases hv; exact .sl (.sl0 (Nat.le_refl _) (by unfold maxLen; omega) fun _ => ⟨rfl, rfl⟩)
  | ref => intro v hv; cases hv with
    | ref h h' => exact .ref (fun B hB => h B (h1 _ B hB)) h'
  | ptr => intro v hv; cases hv with
    | ptr h h' => exact .ptr (fun B hB => h B (h1 _ B hB)) h'
  | frz hid hFi hy hl =>
    intro v hv
    rename_i id e sz off n xs ys
    obtain ⟨B, hB, hsz, hrow⟩ := R.ob id _ hid
    cases hv with
    | ref h _ =>
      obtain ⟨c, h3, h4, h5⟩ := h B hB
      subst hy
      cases hg : B.g with
      | none =>
        rw [hg] at h5
        obtain ⟨rfl, rfl, rfl⟩ := h5
        simp only [Nat.zero_mul, List.take_zero]
        exact .sl (.sl0 (Nat.le_refl _) h4 fun _ => ⟨rfl, rfl⟩)
      | some g =>
        rw [hg] at h5
        obtain ⟨o', rfl, h8, h9⟩ := h5
        rcases hrow with ⟨h6, _⟩ | ⟨g', cur, h10, h11, h12, h13, h14⟩
        · rw [hg] at h6; cases h6
        · rw [hg] at h10
          obtain rfl := Option.some.inj h10
          by_cases hz : n * sz = 0
          · rw [hz, List.take_zero]
            exact .sl (.sl0 h3 h4 fun hn => by cases hn)
          · have hn : 0 < n := by
              rcases Nat.eq_zero_or_pos n with h | h
              · simp [h] at hz
              · exact h
            obtain rfl := h8.resolve_right (by omega)
            refine .sl (.sl (fun j => cur.getD (o' + j) undef) h3 h4 (hF id B g hFi hB hg) (fun j p hp => ?_) fun j p hp => ?_)
            · rw [List.getElem?_take] at hp
              split at hp
              · rw [List.getElem?_drop] at hp
                obtain ⟨u, hu, _⟩ := h14 _ (List.getElem?_eq_some_iff.1 hp).1
                exact cell_in h11 (by simp [hu])
              · cases hp
            · rw [List.getElem?_take] at hp
              split at hp
              · rw [List.getElem?_drop] at hp
                obtain ⟨u, hu, hu1, hu2⟩ := h14 _ (List.getElem?_eq_some_iff.1 hp).1
                have := hu2 p hp
                simp only [Array.getD_eq_getD_getElem?, hu, Option.getD_some]
                exact this.next (fun _ _ => rfl) hS
              · cases hp
  | frzP hid hFi hy =>
    intro v hv
    rename_i id e off xs ys
    obtain ⟨B, g, hB, hg, htot, hrow⟩ := R.ob id _ hid
    cases hv with
    | ptr h _ =>
      obtain ⟨g', hg', rfl⟩ := h B hB
      rw [hg] at hg'
      obtain rfl := Option.some.inj hg'
      rcases hrow with ⟨h6, _⟩ | ⟨g', cur, h10, h11, h12, h13, h14⟩
      · rw [hg] at h6; cases h6
      · rw [hg] at h10
        obtain rfl := Option.some.inj h10
        obtain ⟨d1, d2⟩ := downs_get hy
        have := Rd.ptr (S := S1) (w := w) (off := off) (b := g) (o := 0) (xs := ys) (fun j => cur.getD j undef) (hF id B g hFi hB hg) (fun j p hp => ?_) (fun j p hp => ?_)
        · simp only [Nat.zero_add] at this; exact .fp this
        · obtain ⟨a, ha, _⟩ := d2 j p hp
          obtain ⟨u, hu, _⟩ := h14 j (List.getElem?_eq_some_iff.1 ha).1
          exact cell_in h11 (by simp [hu])
        · obtain ⟨a, ha, had⟩ := d2 j p hp
          obtain ⟨u, hu, hu1, hu2⟩ := h14 j (List.getElem?_eq_some_iff.1 ha).1
          simp only [Array.getD_eq_getD_getElem?, hu, Option.getD_some]
          exact ((hu2 a ha).down had hu1).next (fun _ _ => rfl) hS
  | agg hl h ih =>
    intro v hv
    cases hv with
    | agg a1 a2 a3 =>
      refine .agg (by omega) a2 fun j a ha => ?_
      have hj := (List.getElem?_eq_some_iff.1 ha).1
      exact ih j a _ ha (List.getElem?_eq_getElem (show j < _ by omega)) (a3 j _ (List.getElem?_eq_getElem (show j < _ by omega)))
  | fn hl h hl' h' ih ih' =>
    intro v hv
    cases hv with
    | fn a1 a2 a3 a4 =>
      refine .fn (by omega) (by omega) (fun j a ha => ?_) fun j a ha => ?_
      · have hj := (List.getElem?_eq_some_iff.1 ha).1
        exact ih j a _ ha (List.getElem?_eq_getElem (show j < _ by omega)) (a3 j _ (List.getElem?_eq_getElem (show j < _ by omega)))
      · have hj := (List.getElem?_eq_some_iff.1 ha).1
        exact ih' j a _ ha (List.getElem?_eq_getElem (show j < _ by omega)) (a4 j _ (List.getElem?_eq_getElem (show j < _ by omega)))
  | ifc h ih =>
    intro v hv
    cases hv with
    | ifc a1 => exact .ifc (ih a1)
  | z => intro v hv; cases hv; exact .z
  | z0 => intro v hv; cases hv; exact .sl (.sl0 (Nat.le_refl _) (by unfold maxLen; omega) fun _ => ⟨rfl, rfl⟩)
  | tup hl h ih =>
    intro v hv
    cases hv with
    | tup a1 a3 =>
      refine .tup (by omega) fun j a ha => ?_
      have hj := (List.getElem?_eq_some_iff.1 ha).1
      exact ih j a _ ha (List.getElem?_eq_getElem (show j < _ by omega)) (a3 j _ (List.getElem?_eq_getElem (show j < _ by omega)))

/-- An object's cells, forgotten in part. -/
inductive LvO (ρ : Oid → Oid) (σ : St) (F : Oid → Bool) : Cells → Cells → Prop where
  | row {e : TypeId} {sz : Nat} {xs ys zs : List PV} (h : ys = xs ++ zs) : LvO ρ σ F (.row e sz xs) (.row e sz ys)
  | box {e : TypeId} {xs ys : List AV} (hl : xs.length = ys.length) (h : ∀ (j : Nat) (a b : AV), xs[j]? = some a → ys[j]? = some b → Lv ρ σ F a b) : LvO ρ σ F (.box e xs) (.box e ys)

/-- σ1 says less than σ2. -/
def Le (σ1 σ2 : St) : Prop := ∀ K ι S a w, RelI K ι S σ2 a w → ∃ ι' S', RelI K ι' S' σ1 a w
theorem Le.refl (σ : St) : Le σ σ := fun _ ι S _ _ R => ⟨ι, S, R⟩
theorem Le.trans {a b c : St} (h : Le a b) (h' : Le b c) : Le a c := fun K ι S x w R => let ⟨ι', S', R'⟩ := h' K ι S x w R; h K ι' S' x w R'

theorem Le.of {σ1 σ2 : St} (ρ : Oid → Oid) (F : Oid → Bool) (hn : σ1.n = σ2.n) (hfr : ∀ t, t < σ1.n → Lv ρ σ2 F (σ1.fr t) (σ2.fr t))
    (hob : ∀ id o, σ1.ob id = .obj o → F (ρ id) = false ∧ ∃ o2, σ2.ob (ρ id) = .obj o2 ∧ LvO ρ σ2 F o o2) (hinj : ∀ id id' o o', σ1.ob id = .obj o → σ1.ob id' = .obj o' → ρ id = ρ id' → id = id')
    (hFi : ∀ id, F id = true → σ2.inc id = false) (hinc : ∀ id o, σ1.ob id = .obj o → σ1.inc id = false → σ2.inc (ρ id) = false)
    (hcl : ∀ t id, Has id (σ1.fr t) → σ1.ob id ≠ .free) (hclo : ∀ id' o id, σ1.ob id' = .obj o → o.Has id → σ1.ob id ≠ .free)
    (hpin : ∀ id h o, σ1.pin id = some h → σ1.ob id = .obj o → σ2.pin (ρ id) = some h) (hpf : ∀ id, σ1.ob id = .free → σ1.pin id = none) : Le σ1 σ2 := by
  intro K ι S a w R
  have key : ∀ id, σ1.ob id = .free ∨ σ1.ob id = .gone ∨ ∃ o, σ1.ob id = .obj o := fun id => by cases σ1.ob id <;> simp
  let ι1 : Oid → Option Blk := fun id => match σ1.ob id with | .obj _ => ι (ρ id) | _ => none
  have h1 : ∀ id o, σ1.ob id = .obj o → ι1 id = ι (ρ id) := fun id o h => by simp only [ι1, h]
  have h2 : ∀ id B, ι1 id = some B → (∃ o, σ1.ob id = .obj o) ∧ ι (ρ id) = some B := by
    intro id B hB
    cases h : σ1.ob id with
    | obj o => exact ⟨⟨o, rfl⟩, by rw [← h1 id o h]; exact hB⟩
    | free => simp only [ι1, h] at hB; cases hB
    | gone => simp only [ι1, h] at hB; cases hB
  let S1 : Nat → Prop := fun g => S g ∨ ∃ id B, F id = true ∧ ι id = some B ∧ B.g = some g
  have hS : ∀ g, S g → S1 g := fun _ h => .inl h
  have hF : ∀ id B g, F id = true → ι id = some B → B.g = some g → S1 g := fun id B g a b c => .inr ⟨id, B, a, b, c⟩
  have hblk : ∀ id B g, ι id = some B → B.g = some g → g < w.heap.size := by
    intro id B g hB hg
    obtain ⟨o, ho⟩ := R.dom id B hB
    have := R.ob id o ho
    cases o with
    | row e sz xs =>
      obtain ⟨B2, h3, _, h4⟩ := this
      rw [hB] at h3; obtain rfl := Option.some.inj h3
      rcases h4 with ⟨h5, _⟩ | ⟨g', cur, h5, h6, _⟩
      · rw [hg] at h5; cases h5
      · rw [hg] at h5; obtain rfl := Option.some.inj h5
        exact (Array.getElem?_eq_some_iff.1 h6).1
    | box e xs =>
      obtain ⟨B2, g2, h3, _, _, h4⟩ := this
      rw [hB] at h3; obtain rfl := Option.some.inj h3
      rcases h4 with ⟨h5, _⟩ | ⟨g', cur, h5, h6, _⟩
      · rw [hg] at h5; cases h5
      · rw [hg] at h5; obtain rfl := Option.some.inj h5
        exact (Array.getElem?_eq_some_iff.1 h6).1
  refine ⟨ι1, S1, R.keeps, fun g hg => ?_, fun g hg => ?_, by rw [hn]; exact R.nt, R.df, fun t ht => (hfr t ht).rep R (fun id B hB => (h2 id B hB).2) hS hF (R.fr t (by omega)), hcl, hclo, fun id o ho => ?_, fun id B hB => (h2 id B hB).1, fun id id' B B' g hB hB' hg hg' => ?_, fun id B g hB hg => ?_, fun id h o hp ho => ?_, hpf⟩
  · rcases hg with hg | ⟨id, B, a1, a2, a3⟩
    · exact R.S0 g hg
    · exact .inr ((R.sep id B g a2 a3).2.2 (hFi id a1))
  · rcases hg with hg | ⟨id, B, a1, a2, a3⟩
    · exact R.Slt g hg
    · exact hblk id B g a2 a3
  · obtain ⟨hF0, o2, ho2, hlv⟩ := hob id o ho
    have hO := R.ob (ρ id) o2 ho2
    cases hlv with
    | row h =>
      obtain ⟨B, b1, b2, b3⟩ := hO
      refine ⟨B, by rw [h1 id _ ho]; exact b1, b2, ?_⟩
      subst h
      rcases b3 with ⟨c1, c2, c3⟩ | ⟨g, cur, c1, c2, c3, c4, c5⟩
      · exact .inl ⟨c1, by simp at c2; simp [c2.1], c3⟩
      · refine .inr ⟨g, cur, c1, c2, c3, by simp at c4; omega, fun j hj => ?_⟩
        obtain ⟨u, d1, d2, d3⟩ := c5 j (by simp; omega)
        exact ⟨u, d1, d2, fun p hp => (d3 p (by rw [List.getElem?_append, if_pos hj]; exact hp)).next (fun _ _ => rfl) hS⟩
    | box hl h =>
      obtain ⟨B, g, b1, b2, b3, b4⟩ := hO
      refine ⟨B, g, by rw [h1 id _ ho]; exact b1, b2, by omega, ?_⟩
      rw [hl]
      rcases b4 with ⟨c1, _⟩ | ⟨g', cur, c1, c2, c3, c4, c5⟩
      · rw [b2] at c1; cases c1
      · refine .inr ⟨g', cur, c1, c2, c3, c4, fun j hj => ?_⟩
        obtain ⟨u, d1, d2, d3⟩ := c5 j hj
        refine ⟨u, d1, d2, fun p hp => ?_⟩
        exact (h j p _ hp (List.getElem?_eq_getElem hj)).rep R (fun id B hB => (h2 id B hB).2) hS hF (d3 _ (List.getElem?_eq_getElem hj))
  · obtain ⟨⟨o, ho⟩, hB⟩ := h2 id B hB
    obtain ⟨⟨o', ho'⟩, hB'⟩ := h2 id' B' hB'
    exact hinj id id' o o' ho ho' (R.inj _ _ B B' g hB hB' hg hg')
  · obtain ⟨⟨o, ho⟩, hB⟩ := h2 id B hB
    obtain ⟨s1, s2, s3⟩ := R.sep _ B g hB hg
    refine ⟨fun hs => ?_, s2, fun hi => s3 (hinc id o ho hi)⟩
    rcases hs with hs | ⟨id', B', a1, a2, a3⟩
    · exact s1 hs
    · have := R.inj _ _ B' B g a2 hB a3 hg
      rw [this, (hob id o ho).1] at a1
      cases a1
  · obtain ⟨_, o2, ho2, _⟩ := hob id o ho
    rw [h1 id o ho]
    exact R.pin _ h o2 (hpin id h o hp ho) ho2

/-! ### Code -/

def Qr (K : Ctx) (Q : Exit → St → Prop) : Exit → Act → World → Prop := fun e a w => ∃ σ, Rel K σ a w ∧ Q e σ
def D (P : Program) (c : Code) (Q : Exit → St → Prop) (σ : St) : Prop := ∀ K a w, Rel K σ a w → c.wp P (Qr K Q) a w
def DL (P : Program) (ops : Array Oper) (Q : Exit → St → Prop) (rest : List Oper) (σ : St) : Prop := ∀ K a w, Rel K σ a w → wpList P ops (Qr K Q) rest a w
def thenQ (K : St → Prop) (Q : Exit → St → Prop) : Exit → St → Prop
  | .normal, σ => K σ
  | e, σ => Q e σ
def blockQ (id : Nat) (Q : Exit → St → Prop) : Exit → St → Prop
  | .exit id', σ => if id' = id then Q .normal σ else Q (.exit id') σ
  | e, σ => Q e σ

section
variable {P : Program} {Q : Exit → St → Prop} {σ : St}

theorem D_le {c : Code} {σ' : St} (h : Le σ' σ) (hd : D P c Q σ') : D P c Q σ := fun K a w ⟨ι, S, R⟩ => hd K a w (h K ι S a w R)
theorem DL_le {ops : Array Oper} {rest : List Oper} {σ' : St} (h : Le σ' σ) (hd : DL P ops Q rest σ') : DL P ops Q rest σ := fun K a w ⟨ι, S, R⟩ => hd K a w (h K ι S a w R)
theorem D_mono {c : Code} {Q' : Exit → St → Prop} (h : D P c Q σ) (hq : ∀ e σ, Q e σ → Q' e σ) : D P c Q' σ := fun K a w R => wp_mono (h K a w R) fun e _ _ ⟨σ', R', q⟩ => ⟨σ', R', hq e σ' q⟩

theorem D_seq {x y : Code} (h : ∀ K : St → Prop, (∀ σ, D P y Q σ → K σ) → D P x (thenQ K Q) σ) : D P (.seq x y) Q σ := by
  intro K a w R
  refine wp_seq (wp_mono (h (fun σ => D P y Q σ) (fun _ h => h) K a w R) ?_)
  rintro e a' w' ⟨σ', R', q⟩
  cases e with
  | normal => exact q K a' w' R'
  | _ => exact ⟨σ', R', q⟩
theorem D_cond {c : Operand} {x y : Code} {t : Bool} (hc : σ.eval c = .v (.bool t)) (h : D P (if t then x else y) Q σ) : D P (.cond c x y) Q σ :=
  fun K a w R => let ⟨_, _, R'⟩ := R; wp_cond (Rep.evV R' hc) (h K a w R)
theorem D_condT {c : Operand} {x y : Code} (hc : σ.eval c = .v (.bool true)) (h : D P x Q σ) : D P (.cond c x y) Q σ := D_cond hc h
theorem D_condF {c : Operand} {x y : Code} (hc : σ.eval c = .v (.bool false)) (h : D P y Q σ) : D P (.cond c x y) Q σ := D_cond hc h
theorem D_skip (h : Q .normal σ) : D P .skip Q σ := fun _ _ _ R => wp_skip ⟨σ, R, h⟩
theorem D_label {l : Nat} (h : Q .normal σ) : D P (.label l) Q σ := fun _ _ _ R => wp_label ⟨σ, R, h⟩
theorem D_exit {id : Nat} (h : Q (.exit id) σ) : D P (.exit id) Q σ := fun _ _ _ R => wp_exit ⟨σ, R, h⟩
theorem D_ret (h : Q .ret σ) : D P .ret Q σ := fun _ _ _ R => wp_ret ⟨σ, R, h⟩
theorem D_block {id : Nat} {c : Code} (h : D P c (blockQ id Q) σ) : D P (.block id c) Q σ := by
  intro K a w R
  refine wp_block (wp_mono (h K a w R) ?_)
  rintro e a' w' ⟨σ', R', q⟩
  cases e with
  | exit id' =>
    simp only [blockQ] at q
    simp only [Exit.inBlock]
    split <;> rename_i hid
    · rw [if_pos hid] at q; exact ⟨σ', R', q⟩
    · rw [if_neg hid] at q; exact ⟨σ', R', q⟩
  | _ => exact ⟨σ', R', q⟩

/-- A loop: the states at its head are those of a family. -/
theorem D_loop {α : Type} {c : Code} (F : α → St) (μ : α → Nat) (x0 : α) (h0 : Le (F x0) σ) (round : ∀ x, D P c (thenQ (fun σ' => ∃ y, Le (F y) σ' ∧ μ y < μ x) Q) (F x)) : D P (.loop c) Q σ := by
  intro K a w ⟨ι, S, R⟩
  have R0 : Rel K (F x0) a w := h0 K ι S a w R
  intro b k cs
  have key : ∀ n x a w, μ x = n → Rel K (F x) a w →
      ∃ e a' w', Qr K Q e a' w' ∧ Arrives P (lone (b.at a (.code c :: .inLoop c :: k)) cs w) b k cs e a' w' := by
    intro n
    induction n using Nat.strongRecOn with
    | _ n ih =>
      intro x a w hn hI
      obtain ⟨e, a₁, w₁, ⟨σ', R', hq⟩, harr⟩ := round x K a w hI b (.inLoop c :: k) cs
      cases e with
      | normal =>
        obtain ⟨y, hle, hlt⟩ := hq
        obtain ⟨ι1, S1, R1⟩ := R'
        obtain ⟨e₂, a₂, w₂, hq₂, harr₂⟩ := ih (μ y) (hn ▸ hlt) y a₁ w₁ rfl (hle K ι1 S1 a₁ w₁ R1)
        exact ⟨e₂, a₂, w₂, hq₂, .of_steps (Steps.trans harr (.one step_inLoop)) harr₂⟩
      | exit id => exact ⟨_, a₁, w₁, ⟨σ', R', hq⟩, .pass (x := .inLoop c) rfl (fun _ _ => .inl (by simp)) harr⟩
      | goto l => exact ⟨_, a₁, w₁, ⟨σ', R', hq⟩, .pass (x := .inLoop c) rfl (fun _ _ => .inl (by simp)) harr⟩
      | ret => exact ⟨_, a₁, w₁, ⟨σ', R', hq⟩, .pass (x := .inLoop c) rfl (fun _ _ => .inl (by simp)) harr⟩
      | panic ch => exact ⟨_, a₁, w₁, ⟨σ', R', hq⟩, .pass (x := .inLoop c) rfl (fun _ _ => .inl (by simp)) harr⟩
      | outgrown => exact ⟨_, a₁, w₁, ⟨σ', R', hq⟩, .pass (x := .inLoop c) rfl (fun _ _ => .inl (by simp)) harr⟩
  obtain ⟨e, a', w', hq, harr⟩ := key _ x0 a w rfl R0
  exact ⟨e, a', w', hq, .of_steps (.one step_loop) harr⟩

/-! a region in its text's order -/
theorem D_region {id : Nat} {l : List Oper} (h : DL P l.toArray Q l σ) : D P (.region id l.toArray false) Q σ := fun K a w R => wp_region_lit (h K a w R)
theorem DL_nil {ops : Array Oper} (h : Q .normal σ) : DL P ops Q [] σ := fun _ _ _ R => wpList_nil ⟨σ, R, h⟩

variable {ops : Array Oper} {rest : List Oper} {o : Oper} {σ' : St}
theorem DL_step (hg : o.guard = none) (hs : Step P o σ σ') (h : DL P ops Q rest σ') : DL P ops Q (o :: rest) σ := by
  intro K a w ⟨ι, S, R⟩
  refine wpList_plain hg fun Kx hK => wp_of_yields (hs K ι S a w R) ?_
  rintro v w' ⟨ι', S', R'⟩
  exact hK _ _ (h K _ _ ⟨ι', S', R'⟩)

theorem yielded_of {K : Ctx} {ι : Oid → Option Blk} {S : Nat → Prop} {a : Act} {w : World} (R : RelI K ι S σ a w) {j d : Nat} {b : Bool} (hd : (ops[j]?).bind (·.dst) = some d) (hv : σ.eval (.tmp d) = .v (.bool b)) : yielded ops a.tmps j = some b := by
  have h1 := Rep.evV R hv
  simp only [Act.eval] at h1
  have : a.tmps[d]? = some (.bool b) := by
    by_cases h : d < a.tmps.size
    · simp [h] at h1 ⊢; exact h1
    · simp [h, undef] at h1
  simp [yielded, hd, this]
theorem yielded_not {K : Ctx} {ι : Oid → Option Blk} {S : Nat → Prop} {a : Act} {w : World} (R : RelI K ι S σ a w) {j d : Nat} {want : Bool} {y : Value} (hd : (ops[j]?).bind (·.dst) = some d) (hv : σ.eval (.tmp d) = .v y) (hy : y ≠ .bool want) : ¬ yielded ops a.tmps j = some want := by
  intro h
  have h1 := Rep.evV R hv
  simp only [Act.eval] at h1
  simp only [yielded, hd, Option.bind_some] at h
  cases ht : a.tmps[d]? with
  | none => rw [ht] at h; cases h
  | some u =>
    rw [ht] at h
    rw [Array.getD_eq_getD_getElem?, ht, Option.getD_some] at h1
    subst h1
    cases u <;> simp at h
    subst h
    exact hy rfl
theorem DL_not {j d : Nat} {want : Bool} {y : Value} (hg : o.guard = some (j, want)) (hd : (ops[j]?).bind (·.dst) = some d) (hv : σ.eval (.tmp d) = .v y) (hne : y ≠ .bool want) (h : DL P ops Q rest (σ.put o.dst (.v undef))) : DL P ops Q (o :: rest) σ := by
  intro K a w ⟨ι, S, R⟩
  exact wpList_skip (by simp [Region.wanted, hg, yielded_not R hd hv hne]) (h K _ _ ⟨ι, S, R.put o.dst .v fun i hi => by cases hi⟩)
theorem DL_yes {j d : Nat} {want : Bool} (hg : o.guard = some (j, want)) (hd : (ops[j]?).bind (·.dst) = some d) (hv : σ.eval (.tmp d) = .v (.bool want)) (hs : Step P o σ σ') (h : DL P ops Q rest σ') : DL P ops Q (o :: rest) σ := by
  intro K a w ⟨ι, S, R⟩
  refine BigFrame.wpList_want (by simp [Region.wanted, hg, yielded_of R hd hv]) fun Kx hK => wp_of_yields (hs K ι S a w R) ?_
  rintro v w' ⟨ι', S', R'⟩
  exact hK _ _ (h K _ _ ⟨ι', S', R'⟩)
theorem DL_no {j d : Nat} {want b : Bool} (hg : o.guard = some (j, want)) (hd : (ops[j]?).bind (·.dst) = some d) (hv : σ.eval (.tmp d) = .v (.bool b)) (hne : b ≠ want) (h : DL P ops Q rest (σ.put o.dst .dead)) : DL P ops Q (o :: rest) σ := by
  intro K a w ⟨ι, S, R⟩
  exact wpList_skip (by simp [Region.wanted, hg, yielded_of R hd hv, hne]) (h K _ _ ⟨ι, S, R.put o.dst (by exact .dead) fun i hi => by cases hi⟩)
end
end Go.Proofs.Ytphlaojoehmhaaa
