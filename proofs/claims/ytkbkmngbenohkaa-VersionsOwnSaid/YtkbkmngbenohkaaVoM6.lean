/- The machine's library, part 6. No program text. -/
import Derived.Test.YtkbkmngbenohkaaVoM5
import Derived.RangeFuncNested
set_option linter.unusedSimpArgs false
set_option linter.unusedVariables false
namespace Go.Proofs.Ytkbkmngbenohkaa
open Go.RowKit

/-- An object that lies in cells. -/
def Cells.flat : Cells → Bool
  | .row _ _ _ => true
  | .box _ _ => true
  | .rowA _ _ _ => true
  | _ => false

theorem RowOk.imp {w : World} {B : Blk} {e : TypeId} {n : Nat} {R R' : Nat → Value → Prop} (h : RowOk w B e n R) (hR : ∀ j u, R j u → R' j u) : RowOk w B e n R' := h.next (fun _ _ => rfl) hR
/-- Where a flat object lies there are cells. -/
theorem ObjOk.flat {ι : Oid → Option Blk} {S : Nat → Prop} {w : World} {id : Oid} {o : Cells} {B : Blk} {g : Nat} (h : ObjOk ι S w id o) (hf : o.flat = true) (h1 : ι id = some B) (h2 : B.g = some g) : ∃ c e f, w.heap[g]? = some (.cells c e f) := by
  have key : ∀ {e n} {R' : Nat → Value → Prop}, RowOk w B e n R' → ∃ c e f, w.heap[g]? = some (.cells c e f) := by
    intro e n R' hr
    rcases hr with ⟨h, _⟩ | ⟨g', cur, h, hh, _⟩
    · rw [h2] at h; cases h
    · rw [h2] at h
      obtain rfl := Option.some.inj h
      exact ⟨_, _, _, hh⟩
  cases o with
  | row e sz xs =>
    obtain ⟨B', h1', _, h3⟩ := h
    rw [h1] at h1'
    obtain rfl := Option.some.inj h1'
    exact key h3
  | box e xs =>
    obtain ⟨B', g', h1', _, _, h3⟩ := h
    rw [h1] at h1'
    obtain rfl := Option.some.inj h1'
    exact key h3
  | rowA e sz xs =>
    obtain ⟨B', h1', _, h3⟩ := h
    rw [h1] at h1'
    obtain rfl := Option.some.inj h1'
    exact key h3
  | mp es clock => cases hf
  | it m since seen stepped => cases hf
theorem inO_head {i : Oid} {l : List Oid} : inO i (i :: l) = true := inO_iff.2 List.mem_cons_self
/-- What an operation of a drawn head alone turns stands as it stood. -/
theorem mix_own {σ τ : St} {W : List Nat} {I own : List Oid} {ops : List Oper} {rs : List Res} {dp : List Nat} {i : Oid} {s : Slot} (hd : depOb rs dp 0 i = none) (ho : inO i own = true) (hs : σ.ob i = s) : (mixSt σ W I own ops rs dp τ).ob i = s := by
  simp only [mixSt, hd, ho, Bool.not_true, Bool.and_false, cond_false]
  exact hs
theorem rep_nil (n : Nat) : (rep n [Value.slice none 0 0]).map AV.v = List.replicate n (.v (.slice none 0 0)) := by
  induction n with
  | zero => rfl
  | succ n ih =>
    rw [List.replicate_succ, ← ih]
    simp [rep, List.replicate_succ]
end Go.Proofs.Ytkbkmngbenohkaa

namespace Go.Proofs.Ytkbkmngbenohkaa
open Go.RowKit

/-- A slot's pointer is only read from here on. -/
theorem Le.frzPt {σ : St} (t : Nat) {id : Oid} {off : Nat} {e : TypeId} {xs : List AV} {ys : List PV} (hr : σ.fr t = .ptr id off) (hid : σ.ob id = .obj (.box e xs)) (hi : σ.inc id = false) (hy : downs xs = some ys) :
    Le ((σ.setOb id .gone).put (some t) (.fp off ys)) σ := by
  intro K ι S a w R
  have hob : ∀ i o, ((σ.setOb id .gone).put (some t) (.fp off ys)).ob i = .obj o → oeq i id = false ∧ σ.ob i = .obj o := by
    intro i o h
    rw [St.put_ob] at h
    simp only [St.setOb] at h
    cases hb : oeq i id with
    | true => rw [hb] at h; cases h
    | false => rw [hb] at h; exact ⟨rfl, h⟩
  have hnf : ∀ i, σ.ob i ≠ .free → ((σ.setOb id .gone).put (some t) (.fp off ys)).ob i ≠ .free := by
    intro i h h'
    rw [St.put_ob] at h'
    simp only [St.setOb] at h'
    cases hb : oeq i id with
    | true => rw [hb] at h'; cases h'
    | false => rw [hb] at h'; exact h h'
  refine Le.of (fun i => i) (fun i => oeq i id) (by rw [St.put_n]; rfl) (fun u hu => ?_) (fun i o h => ?_) (fun _ _ _ _ _ _ h => h) (fun i h => ?_) (fun i o h h' => ?_) (fun u i h => ?_) (fun i o j h h' => ?_) (fun i h o hp ho => ?_) (fun i h => ?_) K ι S a w R
  · show Lv _ _ _ (bif Nat.beq u t then _ else σ.fr u) _
    cases hb : Nat.beq u t with
    | true => rw [Nat.eq_of_beq_eq_true hb, hr]; exact .frzP hid (oeq_self id) hy
    | false => exact Lv.same _
  · obtain ⟨h1, h2⟩ := hob i o h
    exact ⟨h1, o, h2, LvO.same o⟩
  · rw [oeq_iff.1 h]; exact hi
  · exact h'
  · replace h : Has i (bif Nat.beq u t then _ else σ.fr u) := h
    cases hb : Nat.beq u t with
    | true => rw [hb] at h; cases h
    | false => rw [hb] at h; exact hnf i (R.cl u i h)
  · exact hnf j (R.clo i o j (hob i o h).2 h')
  · exact hp
  · refine R.pf i ?_
    rw [St.put_ob] at h
    simp only [St.setOb] at h
    cases hb : oeq i id with
    | true => rw [hb] at h; cases h
    | false => rw [hb] at h; exact h

theorem Stp.le {P : Program} {d : Option Tmp} {op : Op} {ty : TypeId} {σ σ1 σ2 : St} (h : Stp P d op ty σ σ1) (hl : Le σ2 σ1) : Stp P d op ty σ σ2 := by
  intro o h1 h2 h3 K ι S a w R
  have h4 := h o h1 h2 h3 K ι S a w R
  unfold Yields at h4 ⊢
  generalize (execOp a.eval o).run P w = r at h4 ⊢
  match r, h4 with
  | .ok (.value v) w', ⟨ι', S', R'⟩ => exact hl K ι' S' _ _ R'
  | .ok .skip w', ⟨ι', S', R'⟩ => exact hl K ι' S' _ _ R'
  | .ok (.enter f args) w', h5 => exact h5.mono fun e w'' ⟨v, he, ι', S', R'⟩ => ⟨v, he, hl K ι' S' _ _ R'⟩
end Go.Proofs.Ytkbkmngbenohkaa

namespace Go.Proofs.Ytkbkmngbenohkaa
open Go.RowKit

section
variable {σ : St} {F : Oid → Bool} {b : AV}
theorem iV {x : Value} (h : b = .v x) : Lv (rnOf []) σ F (.v x) b := lv_idE h
theorem iS {n : Nat} {xs : List PV} (h : b = .sl n xs) : Lv (rnOf []) σ F (.sl n xs) b := lv_idE h
theorem iR {id : Oid} {off n : Nat} (h : b = .ref id off n) : Lv (rnOf []) σ F (.ref id off n) b := lv_idE h
theorem iP {id : Oid} {off : Nat} (h : b = .ptr id off) : Lv (rnOf []) σ F (.ptr id off) b := lv_idE h
theorem iF {off : Nat} {xs : List PV} (h : b = .fp off xs) : Lv (rnOf []) σ F (.fp off xs) b := lv_idE h
theorem iN {f : Fn} {xs ys : List AV} (h : b = .fn f xs ys) : Lv (rnOf []) σ F (.fn f xs ys) b := lv_idE h
theorem iI {t : TypeId} {x : AV} (h : b = .ifc t x) : Lv (rnOf []) σ F (.ifc t x) b := lv_idE h
theorem iZ (h : b = .z) : Lv (rnOf []) σ F .z b := lv_idE h
theorem iD (h : b = .dead) : Lv (rnOf []) σ F .dead b := lv_idE h
end

/-- What a condition says in plain words, where it holds and where it does not. -/
class BoolP (b : Bool) (p q : outParam Prop) : Prop where
  t : b = true → p
  f : b = false → q
instance (priority := 10) boolAny (b : Bool) : BoolP b (b = true) (b = false) := ⟨id, id⟩
instance (priority := 20) boolDec (p : Prop) [Decidable p] : BoolP (decide p) p (¬ p) := ⟨of_decide_eq_true, of_decide_eq_false⟩
instance boolLt (a b : Int) [Decidable (a < b)] : BoolP (decide (a < b)) (a < b) (b ≤ a) := ⟨of_decide_eq_true, fun h => Int.not_lt.1 (of_decide_eq_false h)⟩
instance boolLe (a b : Int) [Decidable (a ≤ b)] : BoolP (decide (a ≤ b)) (a ≤ b) (b < a) := ⟨of_decide_eq_true, fun h => Int.not_le.1 (of_decide_eq_false h)⟩
instance boolEq (a b : Int) : BoolP (a == b) (a = b) (¬ a = b) := ⟨beq_iff_eq.1, beq_eq_false_iff_ne.1⟩
instance boolNe (a b : Int) : BoolP (a != b) (¬ a = b) (a = b) := ⟨bne_iff_ne.1, bne_eq_false_iff_eq.1⟩
instance boolNot (b : Bool) (p q : Prop) [h : BoolP b p q] : BoolP (!b) q p := ⟨fun e => h.f (by simpa using e), fun e => h.t (by simpa using e)⟩
instance boolAnd (a b : Bool) (p q p' q' : Prop) [h : BoolP a p q] [h' : BoolP b p' q'] : BoolP (a && b) (p ∧ p') ((a && b) = false) := ⟨fun e => by rw [Bool.and_eq_true] at e; exact ⟨h.t e.1, h'.t e.2⟩, id⟩
instance boolOr (a b : Bool) (p q p' q' : Prop) [h : BoolP a p q] [h' : BoolP b p' q'] : BoolP (a || b) (p ∨ p') ((a || b) = false) := ⟨fun e => by rw [Bool.or_eq_true] at e; exact e.imp h.t h'.t, id⟩
theorem D_splitC {rb : Bool} {P : Program} {Q : Exit → St → Prop} {σ : St} {x : Operand} {t e : Code} {b : Bool} {p q : Prop} [h : BoolP b p q] (hx : σ.eval x = .v (.bool b)) (h1 : p → D rb P t Q σ) (h2 : q → D rb P e Q σ) : D rb P (.cond x t e) Q σ :=
  D_split hx (fun e => h1 (h.t e)) (fun e => h2 (h.f e))
theorem DL_caseC {rb : Bool} {P : Program} {Q : Exit → St → Prop} {σ : St} {ops : Array Oper} {rest : List Oper} {d : Nat} {b : Bool} {p q : Prop} [h : BoolP b p q] (h1 : p → DL rb P ops Q rest (σ.put (some d) (.v (.bool true)))) (h2 : q → DL rb P ops Q rest (σ.put (some d) (.v (.bool false)))) : DL rb P ops Q rest (σ.put (some d) (.v (.bool b))) :=
  DL_caseB (fun e => h1 (h.t e)) (fun e => h2 (h.f e))
theorem any_caseC {P : Program} {σ : St} {all : List Oper} {W : List Nat} {I : List Oid} {AA : List (List Oid)} {Kont : List Res → Prop} {os : List Oper} {rs : List Res} {b : Bool} {p q : Prop} [h : BoolP b p q] (h1 : p → AnyOps P all W I AA σ Kont os (rs ++ [(.v (.bool true), [])])) (h2 : q → AnyOps P all W I AA σ Kont os (rs ++ [(.v (.bool false), [])])) :
    AnyOps P all W I AA σ Kont os (rs ++ [(.v (.bool b), [])]) := any_caseB (fun e => h1 (h.t e)) (fun e => h2 (h.f e))
end Go.Proofs.Ytkbkmngbenohkaa
