/- The machine's rule for a region that draws its order. No program text. -/
import Derived.Test.YtphlaojoehmhaaaDLib7
set_option linter.unusedSimpArgs false
set_option linter.unusedVariables false
namespace Go.Proofs.Ytphlaojoehmhaaa
open Go.RowKit

theorem St.eq {σ τ : St} (h1 : σ.n = τ.n) (h2 : ∀ t, σ.fr t = τ.fr t) (h3 : ∀ i, σ.ob i = τ.ob i) (h4 : σ.inc = τ.inc) (h5 : σ.pin = τ.pin) : σ = τ := by
  obtain ⟨n, fr, ob, inc, pin⟩ := σ
  obtain ⟨n', fr', ob', inc', pin'⟩ := τ
  obtain rfl : n = n' := h1
  obtain rfl : fr = fr' := funext h2
  obtain rfl : ob = ob' := funext h3
  obtain rfl : inc = inc' := h4
  obtain rfl : pin = pin' := h5
  rfl

/-- What an operation of the head leaves: its value, and a new object if it makes one. -/
abbrev Res := AV × Option (Oid × Cells)
def Res.app (r : Res) (d : Option Tmp) (σ : St) : St :=
  match r.2 with
  | none => σ.put d r.1
  | some (i, c) => (σ.setOb i (.obj c)).put d r.1

def stOf : List Oper → List Res → (Nat → Bool) → Nat → St → St
  | o :: ops, r :: rs, L, k, σ => stOf ops rs L (k + 1) (bif L k then r.app o.dst σ else σ)
  | _, _, _, _, σ => σ

theorem app_n (r : Res) (d : Option Tmp) (σ : St) : (r.app d σ).n = σ.n := by
  obtain ⟨a, _ | ⟨i, c⟩⟩ := r <;> cases d <;> rfl
theorem app_inc (r : Res) (d : Option Tmp) (σ : St) : (r.app d σ).inc = σ.inc := by
  obtain ⟨a, _ | ⟨i, c⟩⟩ := r <;> cases d <;> rfl
theorem app_pin (r : Res) (d : Option Tmp) (σ : St) : (r.app d σ).pin = σ.pin := by
  obtain ⟨a, _ | ⟨i, c⟩⟩ := r <;> cases d <;> rfl
theorem app_fr_ne (r : Res) (d : Option Tmp) (σ : St) {t : Nat} (h : d ≠ some t) : (r.app d σ).fr t = σ.fr t := by
  have key : ∀ σ : St, (σ.put d r.1).fr t = σ.fr t := fun σ => by
    cases d with
    | none => rfl
    | some d =>
      have : Nat.beq t d = false := by
        cases hb : Nat.beq t d with
        | false => rfl
        | true => exact absurd (by rw [Nat.eq_of_beq_eq_true hb]) h
      simp only [St.put, this, cond_false]
  unfold Res.app
  split
  · exact key σ
  · rw [key]; rfl
theorem app_fr_eq (r : Res) (σ : St) (t : Nat) : (r.app (some t) σ).fr t = r.1 := by
  have key : ∀ σ : St, (σ.put (some t) r.1).fr t = r.1 := fun σ => by simp [St.put]
  unfold Res.app
  split <;> exact key _
theorem app_ob_ne (r : Res) (d : Option Tmp) (σ : St) {i : Oid} (h : ∀ c, r.2 ≠ some (i, c)) : (r.app d σ).ob i = σ.ob i := by
  unfold Res.app
  split
  · rw [St.put_ob]
  · rename_i j c he
    rw [St.put_ob, St.setOb_ne _ _ fun e => h c (by rw [he, e])]
theorem app_ob_eq (r : Res) (d : Option Tmp) (σ : St) {i : Oid} {c : Cells} (h : r.2 = some (i, c)) : (r.app d σ).ob i = .obj c := by
  unfold Res.app
  rw [h]
  simp only
  rw [St.put_ob, St.setOb_same]

section
variable {L : Nat → Bool}
theorem stOf_n : ∀ (ops : List Oper) (rs : List Res) (k : Nat) (σ : St), (stOf ops rs L k σ).n = σ.n
  | [], _, _, _ => by simp [stOf]
  | _ :: _, [], _, _ => by simp [stOf]
  | o :: ops, r :: rs, k, σ => by
    simp only [stOf]
    rw [stOf_n ops rs]
    cases L k
    · rfl
    · simp only [cond_true]; exact app_n _ _ _
theorem stOf_inc : ∀ (ops : List Oper) (rs : List Res) (k : Nat) (σ : St), (stOf ops rs L k σ).inc = σ.inc
  | [], _, _, _ => by simp [stOf]
  | _ :: _, [], _, _ => by simp [stOf]
  | o :: ops, r :: rs, k, σ => by
    simp only [stOf]
    rw [stOf_inc ops rs]
    cases L k
    · rfl
    · simp only [cond_true]; exact app_inc _ _ _
theorem stOf_pin : ∀ (ops : List Oper) (rs : List Res) (k : Nat) (σ : St), (stOf ops rs L k σ).pin = σ.pin
  | [], _, _, _ => by simp [stOf]
  | _ :: _, [], _, _ => by simp [stOf]
  | o :: ops, r :: rs, k, σ => by
    simp only [stOf]
    rw [stOf_pin ops rs]
    cases L k
    · rfl
    · simp only [cond_true]; exact app_pin _ _ _
theorem stOf_frA {t : Nat} : ∀ (ops : List Oper) (rs : List Res) (k : Nat) (σ : St), (∀ (j : Nat) (o : Oper) (r : Res), ops[j]? = some o → rs[j]? = some r → L (k + j) = true → o.dst ≠ some t) → (stOf ops rs L k σ).fr t = σ.fr t
  | [], _, _, _, _ => by simp [stOf]
  | _ :: _, [], _, _, _ => by simp [stOf]
  | o :: ops, r :: rs, k, σ, h => by
    simp only [stOf]
    rw [stOf_frA ops rs (k + 1) _ fun j o' r' ho hr hl => h (j + 1) o' r' (by simpa using ho) (by simpa using hr) (by rw [← hl]; congr 1; omega)]
    cases hL : L k
    · rfl
    · simp only [cond_true]; exact app_fr_ne _ _ _ (h 0 o r rfl rfl (by simpa using hL))
theorem stOf_frB {t : Nat} : ∀ (ops : List Oper) (rs : List Res) (k : Nat) (σ : St) (j : Nat) (o : Oper) (r : Res), ops[j]? = some o → rs[j]? = some r → L (k + j) = true → o.dst = some t →
    (∀ (i : Nat) (o' : Oper), ops[i]? = some o' → i ≠ j → o'.dst ≠ some t) → (stOf ops rs L k σ).fr t = r.1
  | [], _, _, _, _, _, _, h, _, _, _, _ => by simp at h
  | _ :: _, [], _, _, _, _, _, _, h, _, _, _ => by simp at h
  | o :: ops, r :: rs, k, σ, 0, o1, r1, ho, hr, hl, hd, hne => by
    simp at ho hr
    subst ho; subst hr
    simp only [stOf]
    rw [stOf_frA ops rs (k + 1) _ fun j o' r' ho hr _ => hne (j + 1) o' (by simpa using ho) (by omega)]
    have : L k = true := by simpa using hl
    rw [this]
    simp only [cond_true]
    rw [hd]; exact app_fr_eq _ _ _
  | o :: ops, r :: rs, k, σ, j + 1, o1, r1, ho, hr, hl, hd, hne => by
    simp only [stOf]
    exact stOf_frB ops rs (k + 1) _ j o1 r1 (by simpa using ho) (by simpa using hr) (by rw [← hl]; congr 1; omega) hd fun i o' ho' hij => hne (i + 1) o' (by simpa using ho') (by omega)
theorem stOf_obA {i : Oid} : ∀ (ops : List Oper) (rs : List Res) (k : Nat) (σ : St), (∀ (j : Nat) (o : Oper) (r : Res), ops[j]? = some o → rs[j]? = some r → L (k + j) = true → ∀ c, r.2 ≠ some (i, c)) → (stOf ops rs L k σ).ob i = σ.ob i
  | [], _, _, _, _ => by simp [stOf]
  | _ :: _, [], _, _, _ => by simp [stOf]
  | o :: ops, r :: rs, k, σ, h => by
    simp only [stOf]
    rw [stOf_obA ops rs (k + 1) _ fun j o' r' ho hr hl => h (j + 1) o' r' (by simpa using ho) (by simpa using hr) (by rw [← hl]; congr 1; omega)]
    cases hL : L k
    · rfl
    · simp only [cond_true]; exact app_ob_ne _ _ _ (h 0 o r rfl rfl (by simpa using hL))
theorem stOf_obB {i : Oid} {c : Cells} : ∀ (ops : List Oper) (rs : List Res) (k : Nat) (σ : St) (j : Nat) (o : Oper) (r : Res), ops[j]? = some o → rs[j]? = some r → L (k + j) = true → r.2 = some (i, c) →
    (∀ (m : Nat) (r' : Res), rs[m]? = some r' → m ≠ j → ∀ c', r'.2 ≠ some (i, c')) → (stOf ops rs L k σ).ob i = .obj c
  | [], _, _, _, _, _, _, h, _, _, _, _ => by simp at h
  | _ :: _, [], _, _, _, _, _, _, h, _, _, _ => by simp at h
  | o :: ops, r :: rs, k, σ, 0, o1, r1, ho, hr, hl, hd, hne => by
    simp at ho hr
    subst ho; subst hr
    simp only [stOf]
    rw [stOf_obA ops rs (k + 1) _ fun j o' r' ho hr _ => hne (j + 1) r' (by simpa using hr) (by omega)]
    have : L k = true := by simpa using hl
    rw [this]
    simp only [cond_true]
    exact app_ob_eq _ _ _ hd
  | o :: ops, r :: rs, k, σ, j + 1, o1, r1, ho, hr, hl, hd, hne => by
    simp only [stOf]
    exact stOf_obB ops rs (k + 1) _ j o1 r1 (by simpa using ho) (by simpa using hr) (by rw [← hl]; congr 1; omega) hd fun i r' hr' hij => hne (i + 1) r' (by simpa using hr') (by omega)
end

/-- The state that an operation of the head may count on: what stood before, and what those have left that it waits for. -/
def inL (t : Nat) : List Nat → Bool
  | [] => false
  | x :: l => Nat.beq t x || inL t l
def inO (i : Oid) : List Oid → Bool
  | [] => false
  | x :: l => oeq i x || inO i l
theorem inL_iff {t : Nat} : ∀ {l : List Nat}, inL t l = true ↔ t ∈ l
  | [] => by simp [inL]
  | x :: l => by simp [inL, inL_iff]
theorem inO_iff {t : Oid} : ∀ {l : List Oid}, inO t l = true ↔ t ∈ l
  | [] => by simp [inO]
  | x :: l => by simp only [inO, Bool.or_eq_true, oeq_iff, inO_iff, List.mem_cons]

def depFr : List Oper → List Res → List Nat → Nat → Nat → Option AV
  | o :: ops, r :: rs, dp, k, t => bif inL k dp && (match o.dst with | some d => Nat.beq t d | none => false) then some r.1 else depFr ops rs dp (k + 1) t
  | _, _, _, _, _ => none
def depOb : List Res → List Nat → Nat → Oid → Option Cells
  | r :: rs, dp, k, i => match r.2 with
    | some (j, c) => bif inL k dp && oeq i j then some c else depOb rs dp (k + 1) i
    | none => depOb rs dp (k + 1) i
  | _, _, _, _ => none

theorem depFr_some : ∀ {ops : List Oper} {rs : List Res} {dp : List Nat} {k t : Nat} {a : AV}, depFr ops rs dp k t = some a → ∃ j o r, ops[j]? = some o ∧ rs[j]? = some r ∧ k + j ∈ dp ∧ o.dst = some t ∧ a = r.1
  | [], _, _, _, _, _, h => by simp [depFr] at h
  | _ :: _, [], _, _, _, _, h => by simp [depFr] at h
  | o :: ops, r :: rs, dp, k, t, a, h => by
    simp only [depFr] at h
    cases hc : (inL k dp && (match o.dst with | some d => Nat.beq t d | none => false)) with
    | true =>
      rw [hc] at h
      simp only [Bool.and_eq_true] at hc
      refine ⟨0, o, r, rfl, rfl, by simpa using inL_iff.1 hc.1, ?_, by simpa using h.symm⟩
      cases hd : o.dst with
      | none => rw [hd] at hc; simp at hc
      | some d =>
        rw [hd] at hc
        rw [Nat.eq_of_beq_eq_true hc.2]
    | false =>
      rw [hc] at h
      obtain ⟨j, o', r', h1, h2, h3, h4, h5⟩ := depFr_some (by simpa using h)
      exact ⟨j + 1, o', r', by simpa using h1, by simpa using h2, by rw [← Nat.add_assoc, Nat.add_right_comm]; exact h3, h4, h5⟩
theorem depOb_some : ∀ {rs : List Res} {dp : List Nat} {k : Nat} {i : Oid} {c : Cells}, depOb rs dp k i = some c → ∃ j r, rs[j]? = some r ∧ k + j ∈ dp ∧ r.2 = some (i, c)
  | [], _, _, _, _, h => by simp [depOb] at h
  | r :: rs, dp, k, i, c, h => by
    have rec_ : depOb rs dp (k + 1) i = some c → ∃ j r', (r :: rs)[j]? = some r' ∧ k + j ∈ dp ∧ r'.2 = some (i, c) := fun h => by
      obtain ⟨j, r', h1, h2, h3⟩ := depOb_some h
      exact ⟨j + 1, r', by simpa using h1, by rw [← Nat.add_assoc, Nat.add_right_comm]; exact h2, h3⟩
    simp only [depOb] at h
    split at h
    · rename_i j c' hr
      cases hc : (inL k dp && oeq i j) with
      | true =>
        rw [hc] at h
        simp only [Bool.and_eq_true] at hc
        refine ⟨0, r, rfl, by simpa using inL_iff.1 hc.1, ?_⟩
        rw [hr, oeq_iff.1 hc.2]
        simp at h; subst h; rfl
      | false => rw [hc] at h; exact rec_ (by simpa using h)
    · exact rec_ h

def ownB : Option Oid → Oid → Bool
  | some j, i => oeq i j
  | none, _ => false

/-- W: the slots that the head writes, I: the objects that it makes. own: the one that this operation makes. -/
def mixSt (σ : St) (W : List Nat) (I : List Oid) (own : Option Oid) (ops : List Oper) (rs : List Res) (dp : List Nat) (τ : St) : St where
  n := σ.n
  fr t := match depFr ops rs dp 0 t with
    | some a => a
    | none => bif inL t W then τ.fr t else σ.fr t
  ob i := match depOb rs dp 0 i with
    | some c => .obj c
    | none => bif inO i I && !(ownB own i) then τ.ob i else σ.ob i
  inc := σ.inc
  pin := σ.pin

def Edge.ons : List Edge → List Nat
  | [] => []
  | e :: l => bif Region.binds .any e then e.on :: Edge.ons l else Edge.ons l

/-- One operation of the head. -/
inductive AnyOp (P : Program) (all : List Oper) (W : List Nat) (I : List Oid) (σ : St) (rs : List Res) (o : Oper) : Res → Prop where
  | plain {r : Res} (hg : o.guard = none) (h : ∀ τ, Step P o (mixSt σ W I (r.2.map (·.1)) all rs (Edge.ons o.after.toList) τ) (r.app o.dst (mixSt σ W I (r.2.map (·.1)) all rs (Edge.ons o.after.toList) τ))) : AnyOp P all W I σ rs o r
  | yes {r : Res} {j d : Nat} {want : Bool} (hg : o.guard = some (j, want)) (hd : (all[j]?).bind (·.dst) = some d) (hv : ∀ τ, (mixSt σ W I (r.2.map (·.1)) all rs (Edge.ons o.after.toList) τ).eval (.tmp d) = .v (.bool want))
      (h : ∀ τ, Step P o (mixSt σ W I (r.2.map (·.1)) all rs (Edge.ons o.after.toList) τ) (r.app o.dst (mixSt σ W I (r.2.map (·.1)) all rs (Edge.ons o.after.toList) τ))) : AnyOp P all W I σ rs o r
  | no {j d : Nat} {want : Bool} {y : Value} (hg : o.guard = some (j, want)) (hd : (all[j]?).bind (·.dst) = some d) (hv : ∀ τ, (mixSt σ W I none all rs (Edge.ons o.after.toList) τ).eval (.tmp d) = .v y) (hb : y ≠ .bool want) : AnyOp P all W I σ rs o (.v undef, none)

def AnyOps (P : Program) (all : List Oper) (W : List Nat) (I : List Oid) (σ : St) (Kont : List Res → Prop) : List Oper → List Res → Prop
  | [], rs => Kont rs
  | o :: os, rs => ∃ r, AnyOp P all W I σ rs o r ∧ AnyOps P all W I σ Kont os (rs ++ [r])

theorem RelI.drew {K : Ctx} {ι : Oid → Option Blk} {S : Nat → Prop} {σ : St} {a : Act} {w : World} (R : RelI K ι S σ a w) : RelI K ι S σ a w.drew :=
  R.gen (ob' := σ.ob) (inc' := σ.inc) (fun _ => False) ⟨rfl, rfl, rfl, Nat.le_refl _, fun _ _ _ => rfl⟩ (fun _ _ => rfl) (fun _ _ => rfl) (fun _ _ => rfl) (fun _ h => h) (fun _ h => h) (fun _ h => .inl h) (fun g h => R.Slt g h)
    (fun _ _ h => h.elim) (fun _ _ h => h.elim) (fun _ _ h => h.elim) (fun _ _ _ _ _ h => h.elim) (fun _ _ _ h => h.elim) (fun _ _ _ h => h.elim)

/-- The objects that a list of results makes. -/
def made : List Res → List Oid
  | [] => []
  | (_, some (i, _)) :: l => i :: made l
  | (_, none) :: l => made l
end Go.Proofs.Ytphlaojoehmhaaa
