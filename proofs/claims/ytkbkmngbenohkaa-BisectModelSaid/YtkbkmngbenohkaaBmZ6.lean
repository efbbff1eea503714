/- Part 6 of the texts that the walk leans on: the machine, the walks, the plain laws. -/
import Derived.RangeFuncNested
import Derived.Test.YtkbkmngbenohkaaBmZ5
set_option linter.unusedSimpArgs false
set_option linter.unusedVariables false
namespace Go.Proofs.Ytkbkmngbenohkaa
open Go.RowKit

theorem RowOk.imp {w : World} {B : Blk} {e : TypeId} {n : Nat} {R R' : Nat → Value → Prop} (h : RowOk w B e n R) (hR : ∀ j u, R j u → R' j u) : RowOk w B e n R' := h.next (fun _ _ => rfl) hR
theorem inO_head {i : Oid} {l : List Oid} : inO i (i :: l) = true := inO_iff.2 List.mem_cons_self
theorem mix_own {σ τ : St} {W : List Nat} {I own : List Oid} {ops : List Oper} {rs : List Res} {dp : List Nat} {i : Oid} {s : Slot} (hd : depOb rs dp 0 i = none) (ho : inO i own = true) (hs : σ.ob i = s) : (mixSt σ W I own ops rs dp τ).ob i = s := by
 simp only [mixSt, hd, ho, Bool.not_true, Bool.and_false, cond_false]
 exact hs
theorem rep_nil (n : Nat) : (rep n [Value.slice none 0 0]).map AV.v = List.replicate n (.v (.slice none 0 0)) := by
 induction n with
 | zero => rfl
 | succ n ih =>
  rw [List.replicate_succ, ← ih]
  simp [rep, List.replicate_succ]
end Go.Proofs.Ytkbkmngbenohkaa

namespace Go.Proofs.Ytkbkmngbenohkaa
open Go.RowKit

theorem Le.frzPt {σ : St} (t : Nat) {id : Oid} {off : Nat} {e : TypeId} {xs : List AV} {ys : List PV} (hr : σ.fr t = .ptr id off) (hid : σ.ob id = .obj (.box e xs)) (hi : σ.inc id = false) (hy : downs xs = some ys) :
  Le ((σ.setOb id .gone).put (some t) (.fp off ys)) σ := by
 intro K ι S a w R
 have hob : ∀ i o, ((σ.setOb id .gone).put (some t) (.fp off ys)).ob i = .obj o → oeq i id = false ∧ σ.ob i = .obj o := by
  intro i o h
  rw [St.put_ob] at h
  simp only [St.setOb] at h
  cases hb : oeq i id with
  | true => rw [hb] at h; cases h
  | false => rw [hb] at h; exact ⟨rfl, h⟩
 have hnf : ∀ i, σ.ob i ≠ .free → ((σ.setOb id .gone).put (some t) (.fp off ys)).ob i ≠ .free := by
  intro i h h'
  rw [St.put_ob] at h'
  simp only [St.setOb] at h'
  cases hb : oeq i id with
  | true => rw [hb] at h'; cases h'
  | false => rw [hb] at h'; exact h h'
 refine Le.of (fun i => i) (fun i => oeq i id) (by rw [St.put_n]; rfl) (fun u hu => ?_) (fun i o h => ?_) (fun _ _ _ _ _ _ h => h) (fun i h => ?_) (fun i o h h' => ?_) (fun u i h => ?_) (fun i o j h h' => ?_) (fun i h o hp ho => ?_) (fun i h => ?_) K ι S a w R
 ·show Lv _ _ _ (bif Nat.beq u t then _ else σ.fr u) _
  cases hb : Nat.beq u t with
  | true => rw [Nat.eq_of_beq_eq_true hb, hr]; exact .frzP hid (oeq_self id) hy
  | false => exact Lv.same _
 ·obtain ⟨h1, h2⟩ := hob i o h
  exact ⟨h1, o, h2, LvO.same o⟩
 ·rw [oeq_iff.1 h]; exact hi
 ·exact h'
 ·replace h : Has i (bif Nat.beq u t then _ else σ.fr u) := h
  cases hb : Nat.beq u t with
  | true => rw [hb] at h; cases h
  | false => rw [hb] at h; exact hnf i (R.cl u i h)
 ·exact hnf j (R.clo i o j (hob i o h).2 h')
 ·exact hp
 ·refine R.pf i ?_
  rw [St.put_ob] at h
  simp only [St.setOb] at h
  cases hb : oeq i id with
  | true => rw [hb] at h; cases h
  | false => rw [hb] at h; exact h

theorem Stp.le {P : Program} {d : Option Tmp} {op : Op} {ty : TypeId} {σ σ1 σ2 : St} (h : Stp P d op ty σ σ1) (hl : Le σ2 σ1) : Stp P d op ty σ σ2 := by
 intro o h1 h2 h3 K ι S a w R
 have h4 := h o h1 h2 h3 K ι S a w R
 unfold Yields at h4 ⊢
 generalize (execOp a.eval o).run P w = r at h4 ⊢
 match r, h4 with
 | .ok (.value v) w', ⟨ι', S', R'⟩ => exact hl K ι' S' _ _ R'
 | .ok .skip w', ⟨ι', S', R'⟩ => exact hl K ι' S' _ _ R'
 | .ok (.enter f args) w', h5 => exact h5.mono fun e w'' ⟨v, he, ι', S', R'⟩ => ⟨v, he, hl K ι' S' _ _ R'⟩
theorem op_apF {P : Program} {σ : St} {z : List Value} {T e : TypeId} {size bytes : Nat} {d : Tmp} {ty : TypeId} (id' : Oid) (s x : Operand) (E : Elem P T e size bytes z) {id : Oid} {n : Nat} {xs : List PV} (hs : σ.eval s = .ref id 0 n) (hid : σ.ob id = .obj (.row e size xs)) (hl : n * size = xs.length) {m : Nat} {news : List PV} (hx : SrcAV σ (σ.eval x) size m news) (hb : (n + m) * bytes ≤ 140737488355328) (hid' : σ.ob id' = .free)
  (hi : σ.inc id = false) (hi' : σ.inc id' = false) {ys : List PV} (hy : xs ++ news = ys) {k : Nat} (hk : n + m = k) : Stp P (some d) (.call { callee := .builtin .append, args := #[s, x], argTypes := #[T, T] }) ty σ (((σ.setOb id .gone).setOb id' .gone).put (some d) (.sl k ys)) := by
 have h := op_apN (P := P) (dd := some d) (ty := ty) id' s x E hs hid hl hx hb hid' hi hi' hy hk
 have hlen : k * size = ys.length := by
  have h1 : news.length = m * size := by
   generalize σ.eval x = u at hx
   cases hx with
   | sl h => exact h
   | nil => simp
   | ref hid hn hl => rw [← hn, List.length_take, List.length_drop]; omega
  rw [← hy, ← hk, List.length_append, ← hl, h1, Nat.add_mul]
 have h2 := Le.frzS (σ := (((σ.setOb id .gone).setOb id' (.obj (.row e size ys))).put (some d) (.ref id' 0 k))) d (id := id') (off := 0) (n := k) (e := e) (sz := size) (xs := ys) (ys := ys)
  (by simp [St.put]) (by rw [St.put_ob, St.setOb_same]) hi' (by rw [List.drop_zero]; exact List.take_of_length_le (by omega)) (by omega)
 refine (Stp.le h h2 : Stp P (some d) _ ty σ _) |> fun h => ?_
 have e1 : ((((σ.setOb id .gone).setOb id' (.obj (.row e size ys))).put (some d) (.ref id' 0 k)).setOb id' .gone).put (some d) (.sl k ys) = ((σ.setOb id .gone).setOb id' .gone).put (some d) (.sl k ys) := by
  refine St.eq rfl (fun t => ?_) (fun i => ?_) rfl rfl
  ·simp only [St.put, St.setOb]
   cases Nat.beq t d <;> rfl
  ·simp only [St.put, St.setOb]
   cases oeq i id' <;> rfl
 rwa [e1] at h
end Go.Proofs.Ytkbkmngbenohkaa

namespace Go.Proofs.Ytkbkmngbenohkaa
open Go.RowKit

section
variable {σ : St} {F : Oid → Bool} {b : AV}
theorem iV {x : Value} (h : b = .v x) : Lv (rnOf []) σ F (.v x) b := lv_idE h
theorem iS {n : Nat} {xs : List PV} (h : b = .sl n xs) : Lv (rnOf []) σ F (.sl n xs) b := lv_idE h
theorem iR {id : Oid} {off n : Nat} (h : b = .ref id off n) : Lv (rnOf []) σ F (.ref id off n) b := lv_idE h
theorem iP {id : Oid} {off : Nat} (h : b = .ptr id off) : Lv (rnOf []) σ F (.ptr id off) b := lv_idE h
theorem iF {off : Nat} {xs : List PV} (h : b = .fp off xs) : Lv (rnOf []) σ F (.fp off xs) b := lv_idE h
theorem iN {f : Fn} {xs ys : List AV} (h : b = .fn f xs ys) : Lv (rnOf []) σ F (.fn f xs ys) b := lv_idE h
theorem iI {t : TypeId} {x : AV} (h : b = .ifc t x) : Lv (rnOf []) σ F (.ifc t x) b := lv_idE h
end

class BoolP (b : Bool) (p q : outParam Prop) : Prop where
 t : b = true → p
 f : b = false → q
instance (priority := 10) boolAny (b : Bool) : BoolP b (b = true) (b = false) := ⟨id, id⟩
instance (priority := 20) boolDec (p : Prop) [Decidable p] : BoolP (decide p) p (¬ p) := ⟨of_decide_eq_true, of_decide_eq_false⟩
instance boolLt (a b : Int) [Decidable (a < b)] : BoolP (decide (a < b)) (a < b) (b ≤ a) := ⟨of_decide_eq_true, fun h => Int.not_lt.1 (of_decide_eq_false h)⟩
instance boolLe (a b : Int) [Decidable (a ≤ b)] : BoolP (decide (a ≤ b)) (a ≤ b) (b < a) := ⟨of_decide_eq_true, fun h => Int.not_le.1 (of_decide_eq_false h)⟩
instance boolEq (a b : Int) : BoolP (a == b) (a = b) (¬ a = b) := ⟨beq_iff_eq.1, beq_eq_false_iff_ne.1⟩
instance boolNe (a b : Int) : BoolP (a != b) (¬ a = b) (a = b) := ⟨bne_iff_ne.1, bne_eq_false_iff_eq.1⟩
instance boolNot (b : Bool) (p q : Prop) [h : BoolP b p q] : BoolP (!b) q p := ⟨fun e => h.f (by simpa using e), fun e => h.t (by simpa using e)⟩
instance boolAnd (a b : Bool) (p q p' q' : Prop) [h : BoolP a p q] [h' : BoolP b p' q'] : BoolP (a && b) (p ∧ p') ((a && b) = false) := ⟨fun e => by rw [Bool.and_eq_true] at e; exact ⟨h.t e.1, h'.t e.2⟩, id⟩
instance boolOr (a b : Bool) (p q p' q' : Prop) [h : BoolP a p q] [h' : BoolP b p' q'] : BoolP (a || b) (p ∨ p') ((a || b) = false) := ⟨fun e => by rw [Bool.or_eq_true] at e; exact e.imp h.t h'.t, id⟩
theorem D_splitC {rb : Bool} {P : Program} {Q : Exit → St → Prop} {σ : St} {x : Operand} {t e : Code} {b : Bool} {p q : Prop} [h : BoolP b p q] (hx : σ.eval x = .v (.bool b)) (h1 : p → D rb P t Q σ) (h2 : q → D rb P e Q σ) : D rb P (.cond x t e) Q σ :=
 D_split hx (fun e => h1 (h.t e)) (fun e => h2 (h.f e))
theorem DL_caseC {rb : Bool} {P : Program} {Q : Exit → St → Prop} {σ : St} {ops : Array Oper} {rest : List Oper} {d : Nat} {b : Bool} {p q : Prop} [h : BoolP b p q] (h1 : p → DL rb P ops Q rest (σ.put (some d) (.v (.bool true)))) (h2 : q → DL rb P ops Q rest (σ.put (some d) (.v (.bool false)))) : DL rb P ops Q rest (σ.put (some d) (.v (.bool b))) :=
 DL_caseB (fun e => h1 (h.t e)) (fun e => h2 (h.f e))
theorem any_caseC {P : Program} {σ : St} {all : List Oper} {W : List Nat} {I : List Oid} {AA : List (List Oid)} {Kont : List Res → Prop} {os : List Oper} {rs : List Res} {b : Bool} {p q : Prop} [h : BoolP b p q] (h1 : p → AnyOps P all W I AA σ Kont os (rs ++ [(.v (.bool true), [])])) (h2 : q → AnyOps P all W I AA σ Kont os (rs ++ [(.v (.bool false), [])])) :
  AnyOps P all W I AA σ Kont os (rs ++ [(.v (.bool b), [])]) := any_caseB (fun e => h1 (h.t e)) (fun e => h2 (h.f e))
end Go.Proofs.Ytkbkmngbenohkaa

namespace Go.Proofs.Ytkbkmngbenohkaa

instance ty1 : Ty Try.prog 1 false [.nilFunc] := Ty.of (bytes := 8) (.nilFunc) Try.underlying1 rfl (by kernel_rfl) rfl (by simp [Value.oneCell'])
instance ty2 : Ty Try.prog 2 false [.int .i64 0] := Ty.of (bytes := 8) (.int .i64 0) Try.underlying2 rfl (by kernel_rfl) rfl (by simp [Value.oneCell'])
instance ty3 : Ty Try.prog 3 false [.int .i64 0] := Ty.of (bytes := 8) (.int .i64 0) Try.underlying3 rfl (by kernel_rfl) rfl (by simp [Value.oneCell'])
instance ty4 : Ty Try.prog 4 false [.bool false] := Ty.of (bytes := 1) (.bool false) Try.underlying4 rfl (by kernel_rfl) rfl (by simp [Value.oneCell'])
instance ty5 : Ty Try.prog 5 false [.int .u8 0] := Ty.of (bytes := 1) (.int .u8 0) Try.underlying5 rfl (by kernel_rfl) rfl (by simp [Value.oneCell'])
instance ty9 : Ty Try.prog 9 false [.string ByteArray.empty] := Ty.of (bytes := 16) (.string ByteArray.empty) Try.underlying9 rfl (by kernel_rfl) rfl (by simp [Value.oneCell'])
instance ty12 : Ty Try.prog 12 false [.int .u64 0] := Ty.of (bytes := 8) (.int .u64 0) Try.underlying12 rfl (by kernel_rfl) rfl (by simp [Value.oneCell'])
instance ty20 : Ty Try.prog 20 false [.nilIface] := Ty.of (bytes := 16) (.nilIface) Try.underlying20 rfl (by kernel_rfl) rfl (by simp [Value.oneCell'])
instance ty22 : Ty Try.prog 22 false [.slice none 0 0] := Ty.of (bytes := 24) (.slice none 0 0) Try.underlying22 rfl (by kernel_rfl) rfl (by simp [Value.oneCell'])
instance ty23 : Ty Try.prog 23 false [.pointer none] := Ty.of (bytes := 8) (.pointer none) Try.underlying23 rfl (by kernel_rfl) rfl (by simp [Value.oneCell'])
instance ty24 : Ty Try.prog 24 false [.int .i64 0] := Ty.of (bytes := 8) (.int .i64 0) Try.underlying24 rfl (by kernel_rfl) rfl (by simp [Value.oneCell'])
instance ty29 : Ty Try.prog 29 false [.slice none 0 0] := Ty.of (bytes := 24) (.slice none 0 0) Try.underlying29 rfl (by kernel_rfl) rfl (by simp [Value.oneCell'])
instance ty31 : Ty Try.prog 31 false [.slice none 0 0] := Ty.of (bytes := 24) (.slice none 0 0) Try.underlying31 rfl (by kernel_rfl) rfl (by simp [Value.oneCell'])
instance ty32 : Ty Try.prog 32 true [.int .i64 0, .slice none 0 0] := Ty.of (bytes := 32) (.agg #[.int .i64 0, .slice none 0 0]) Try.underlying32 rfl (by kernel_rfl) rfl (by simp [Value.oneCell'])
instance ty38 : Ty Try.prog 38 true [.int .i64 0, .int .i64 0] := Ty.of (bytes := 16) (.agg #[.int .i64 0, .int .i64 0]) Try.underlying38 rfl (by kernel_rfl) rfl (by simp [Value.oneCell'])
instance ty55 : Ty Try.prog 55 false [.nilFunc] := Ty.of (bytes := 8) (.nilFunc) Try.underlying55 rfl (by kernel_rfl) rfl (by simp [Value.oneCell'])
instance ty60 : Ty Try.prog 60 false [.slice none 0 0] := Ty.of (bytes := 24) (.slice none 0 0) Try.underlying60 rfl (by kernel_rfl) rfl (by simp [Value.oneCell'])
instance ty62 : Ty Try.prog 62 false [.nilFunc] := Ty.of (bytes := 8) (.nilFunc) Try.underlying62 rfl (by kernel_rfl) rfl (by simp [Value.oneCell'])
instance ty68 : Ty Try.prog 68 false [.pointer none] := Ty.of (bytes := 8) (.pointer none) Try.underlying68 rfl (by kernel_rfl) rfl (by simp [Value.oneCell'])
instance ty71 : Ty Try.prog 71 false [.slice none 0 0] := Ty.of (bytes := 24) (.slice none 0 0) Try.underlying71 rfl (by kernel_rfl) rfl (by simp [Value.oneCell'])
instance ty75 : Ty Try.prog 75 true [.int .i64 0, .slice none 0 0] := Ty.of (bytes := 32) (.agg #[.int .i64 0, .slice none 0 0]) Try.underlying75 rfl (by kernel_rfl) rfl (by simp [Value.oneCell'])
instance ty76 : Ty Try.prog 76 false [.slice none 0 0] := Ty.of (bytes := 24) (.slice none 0 0) Try.underlying76 rfl (by kernel_rfl) rfl (by simp [Value.oneCell'])
instance ty77 : Ty Try.prog 77 true [.int .i64 0, .slice none 0 0] := Ty.of (bytes := 32) (.agg #[.int .i64 0, .slice none 0 0]) Try.underlying77 rfl (by kernel_rfl) rfl (by simp [Value.oneCell'])
instance ty91 : Ty Try.prog 91 false [.pointer none] := Ty.of (bytes := 8) (.pointer none) Try.underlying91 rfl (by kernel_rfl) rfl (by simp [Value.oneCell'])
instance ty93 : Ty Try.prog 93 true [.slice none 0 0, .slice none 0 0] := Ty.of (bytes := 48) (.agg #[.slice none 0 0, .slice none 0 0]) Try.underlying93 rfl (by kernel_rfl) rfl (by simp [Value.oneCell'])
instance ty100 : Ty Try.prog 100 false [.nilFunc] := Ty.of (bytes := 8) (.nilFunc) Try.underlying100 rfl (by kernel_rfl) rfl (by simp [Value.oneCell'])
instance ty102 : Ty Try.prog 102 false [.slice none 0 0] := Ty.of (bytes := 24) (.slice none 0 0) Try.underlying102 rfl (by kernel_rfl) rfl (by simp [Value.oneCell'])
instance ty104 : Ty Try.prog 104 true [.int .i64 0, .slice none 0 0] := Ty.of (bytes := 32) (.agg #[.int .i64 0, .slice none 0 0]) Try.underlying104 rfl (by kernel_rfl) rfl (by simp [Value.oneCell'])
instance ty109 : Ty Try.prog 109 false [.slice none 0 0] := Ty.of (bytes := 24) (.slice none 0 0) Try.underlying109 rfl (by kernel_rfl) rfl (by simp [Value.oneCell'])
instance ty110 : Ty Try.prog 110 false [.nilFunc] := Ty.of (bytes := 8) (.nilFunc) Try.underlying110 rfl (by kernel_rfl) rfl (by simp [Value.oneCell'])
instance ty116 : Ty Try.prog 116 false [.pointer none] := Ty.of (bytes := 8) (.pointer none) Try.underlying116 rfl (by kernel_rfl) rfl (by simp [Value.oneCell'])
instance ty117 : Ty Try.prog 117 false [.slice none 0 0] := Ty.of (bytes := 24) (.slice none 0 0) Try.underlying117 rfl (by kernel_rfl) rfl (by simp [Value.oneCell'])
instance ty121 : Ty Try.prog 121 false [.slice none 0 0] := Ty.of (bytes := 24) (.slice none 0 0) Try.underlying121 rfl (by kernel_rfl) rfl (by simp [Value.oneCell'])
instance ty123 : Ty Try.prog 123 true [.slice none 0 0, .slice none 0 0] := Ty.of (bytes := 48) (.agg #[.slice none 0 0, .slice none 0 0]) Try.underlying123 rfl (by kernel_rfl) rfl (by simp [Value.oneCell'])
instance ty124 : Ty Try.prog 124 false [.int .u64 0] := Ty.of (bytes := 8) (.int .u64 0) Try.underlying124 rfl (by kernel_rfl) rfl (by simp [Value.oneCell'])
instance ty125 : Ty Try.prog 125 false [.int .u64 0] := Ty.of (bytes := 8) (.int .u64 0) Try.underlying125 rfl (by kernel_rfl) rfl (by simp [Value.oneCell'])
instance ty133 : Ty Try.prog 133 false [.pointer none] := Ty.of (bytes := 8) (.pointer none) Try.underlying133 rfl (by kernel_rfl) rfl (by simp [Value.oneCell'])
instance ty134 : Ty Try.prog 134 false [.map none] := Ty.of (bytes := 8) (.map none) Try.underlying134 rfl (by kernel_rfl) rfl (by simp [Value.oneCell'])
instance ty136 : Ty Try.prog 136 true [.pointer none, .int .i64 0, .slice none 0 0, .nilFunc, .map none, .slice none 0 0] := Ty.of (bytes := 80) (.agg #[.pointer none, .int .i64 0, .slice none 0 0, .nilFunc, .map none, .slice none 0 0]) Try.underlying136 rfl (by kernel_rfl) rfl (by simp [Value.oneCell'])
instance ty140 : Ty Try.prog 140 true [.slice none 0 0, .int .i64 0, .slice none 0 0, .slice none 0 0] := Ty.of (bytes := 80) (.agg #[.slice none 0 0, .int .i64 0, .slice none 0 0, .slice none 0 0]) Try.underlying140 rfl (by kernel_rfl) rfl (by simp [Value.oneCell'])
instance ty150 : Ty Try.prog 150 false [.nilIface] := Ty.of (bytes := 16) (.nilIface) Try.underlying150 rfl (by kernel_rfl) rfl (by simp [Value.oneCell'])
instance ty158 : Ty Try.prog 158 false [.map none] := Ty.of (bytes := 8) (.map none) Try.underlying158 rfl (by kernel_rfl) rfl (by simp [Value.oneCell'])
instance ty163 : Ty Try.prog 163 false [.int .u64 0] := Ty.of (bytes := 8) (.int .u64 0) Try.underlying163 rfl (by kernel_rfl) rfl (by simp [Value.oneCell'])
instance ty165 : Ty Try.prog 165 false [.int .i64 0] := Ty.of (bytes := 8) (.int .i64 0) Try.underlying165 rfl (by kernel_rfl) rfl (by simp [Value.oneCell'])
instance ty172 : Ty Try.prog 172 false [.int .u32 0] := Ty.of (bytes := 4) (.int .u32 0) Try.underlying172 rfl (by kernel_rfl) rfl (by simp [Value.oneCell'])
instance el22 : Elem Try.prog 22 38 2 16 [.int .i64 0, .int .i64 0] := Elem.of (.agg #[.int .i64 0, .int .i64 0]) Try.underlying22 (by kernel_rfl) rfl rfl (by decide) (by decide) (by simp [Value.oneCell'])
instance el29 : Elem Try.prog 29 3 1 8 [.int .i64 0] := Elem.of (.int .i64 0) Try.underlying29 (by kernel_rfl) rfl rfl (by decide) (by decide) (by simp [Value.oneCell'])
instance el60 : Elem Try.prog 60 29 1 24 [.slice none 0 0] := Elem.of (.slice none 0 0) Try.underlying60 (by kernel_rfl) rfl rfl (by decide) (by decide) (by simp [Value.oneCell'])
instance el71 : Elem Try.prog 71 75 2 32 [.int .i64 0, .slice none 0 0] := Elem.of (.agg #[.int .i64 0, .slice none 0 0]) Try.underlying71 (by kernel_rfl) rfl rfl (by decide) (by decide) (by simp [Value.oneCell'])
instance el76 : Elem Try.prog 76 77 2 32 [.int .i64 0, .slice none 0 0] := Elem.of (.agg #[.int .i64 0, .slice none 0 0]) Try.underlying76 (by kernel_rfl) rfl rfl (by decide) (by decide) (by simp [Value.oneCell'])
instance el102 : Elem Try.prog 102 109 1 24 [.slice none 0 0] := Elem.of (.slice none 0 0) Try.underlying102 (by kernel_rfl) rfl rfl (by decide) (by decide) (by simp [Value.oneCell'])
instance el109 : Elem Try.prog 109 124 1 8 [.int .u64 0] := Elem.of (.int .u64 0) Try.underlying109 (by kernel_rfl) rfl rfl (by decide) (by decide) (by simp [Value.oneCell'])
instance el117 : Elem Try.prog 117 3 1 8 [.int .i64 0] := Elem.of (.int .i64 0) Try.underlying117 (by kernel_rfl) rfl rfl (by decide) (by decide) (by simp [Value.oneCell'])
instance el121 : Elem Try.prog 121 125 1 8 [.int .u64 0] := Elem.of (.int .u64 0) Try.underlying121 (by kernel_rfl) rfl rfl (by decide) (by decide) (by simp [Value.oneCell'])
instance fl32x0 : Fld Try.prog 32 0 0 := ⟨fun ad w => by kernel_rfl⟩
instance fv32x0 : Fvl Try.prog 32 0 0 false 1 := Fvl.of Try.underlying32 rfl rfl ty3 rfl
instance fl32x1 : Fld Try.prog 32 1 1 := ⟨fun ad w => by kernel_rfl⟩
instance fv32x1 : Fvl Try.prog 32 1 1 false 1 := Fvl.of Try.underlying32 rfl rfl ty31 rfl
instance fl75x0 : Fld Try.prog 75 0 0 := ⟨fun ad w => by kernel_rfl⟩
instance fv75x0 : Fvl Try.prog 75 0 0 false 1 := Fvl.of Try.underlying75 rfl rfl ty3 rfl
instance fl75x1 : Fld Try.prog 75 1 1 := ⟨fun ad w => by kernel_rfl⟩
instance fv75x1 : Fvl Try.prog 75 1 1 false 1 := Fvl.of Try.underlying75 rfl rfl ty29 rfl
instance fl77x0 : Fld Try.prog 77 0 0 := ⟨fun ad w => by kernel_rfl⟩
instance fv77x0 : Fvl Try.prog 77 0 0 false 1 := Fvl.of Try.underlying77 rfl rfl ty3 rfl
instance fl77x1 : Fld Try.prog 77 1 1 := ⟨fun ad w => by kernel_rfl⟩
instance fv77x1 : Fvl Try.prog 77 1 1 false 1 := Fvl.of Try.underlying77 rfl rfl ty29 rfl
instance fl93x0 : Fld Try.prog 93 0 0 := ⟨fun ad w => by kernel_rfl⟩
instance fv93x0 : Fvl Try.prog 93 0 0 false 1 := Fvl.of Try.underlying93 rfl rfl ty29 rfl
instance fl93x1 : Fld Try.prog 93 1 1 := ⟨fun ad w => by kernel_rfl⟩
instance fv93x1 : Fvl Try.prog 93 1 1 false 1 := Fvl.of Try.underlying93 rfl rfl ty29 rfl
instance fl104x0 : Fld Try.prog 104 0 0 := ⟨fun ad w => by kernel_rfl⟩
instance fv104x0 : Fvl Try.prog 104 0 0 false 1 := Fvl.of Try.underlying104 rfl rfl ty3 rfl
instance fl104x1 : Fld Try.prog 104 1 1 := ⟨fun ad w => by kernel_rfl⟩
instance fv104x1 : Fvl Try.prog 104 1 1 false 1 := Fvl.of Try.underlying104 rfl rfl ty102 rfl
instance fl123x0 : Fld Try.prog 123 0 0 := ⟨fun ad w => by kernel_rfl⟩
instance fv123x0 : Fvl Try.prog 123 0 0 false 1 := Fvl.of Try.underlying123 rfl rfl ty121 rfl
instance fl123x1 : Fld Try.prog 123 1 1 := ⟨fun ad w => by kernel_rfl⟩
instance fv123x1 : Fvl Try.prog 123 1 1 false 1 := Fvl.of Try.underlying123 rfl rfl ty121 rfl
instance fl136x0 : Fld Try.prog 136 0 0 := ⟨fun ad w => by kernel_rfl⟩
instance fv136x0 : Fvl Try.prog 136 0 0 false 1 := Fvl.of Try.underlying136 rfl rfl ty68 rfl
instance fl136x1 : Fld Try.prog 136 1 1 := ⟨fun ad w => by kernel_rfl⟩
instance fv136x1 : Fvl Try.prog 136 1 1 false 1 := Fvl.of Try.underlying136 rfl rfl ty3 rfl
instance fl136x2 : Fld Try.prog 136 2 2 := ⟨fun ad w => by kernel_rfl⟩
instance fv136x2 : Fvl Try.prog 136 2 2 false 1 := Fvl.of Try.underlying136 rfl rfl ty29 rfl
instance fl136x3 : Fld Try.prog 136 3 3 := ⟨fun ad w => by kernel_rfl⟩
instance fv136x3 : Fvl Try.prog 136 3 3 false 1 := Fvl.of Try.underlying136 rfl rfl ty62 rfl
instance fl136x4 : Fld Try.prog 136 4 4 := ⟨fun ad w => by kernel_rfl⟩
instance fv136x4 : Fvl Try.prog 136 4 4 false 1 := Fvl.of Try.underlying136 rfl rfl ty134 rfl
instance fl136x5 : Fld Try.prog 136 5 5 := ⟨fun ad w => by kernel_rfl⟩
instance fv136x5 : Fvl Try.prog 136 5 5 false 1 := Fvl.of Try.underlying136 rfl rfl ty29 rfl
instance fl140x0 : Fld Try.prog 140 0 0 := ⟨fun ad w => by kernel_rfl⟩
instance fv140x0 : Fvl Try.prog 140 0 0 false 1 := Fvl.of Try.underlying140 rfl rfl ty60 rfl
instance fl140x1 : Fld Try.prog 140 1 1 := ⟨fun ad w => by kernel_rfl⟩
instance fv140x1 : Fvl Try.prog 140 1 1 false 1 := Fvl.of Try.underlying140 rfl rfl ty3 rfl
instance fl140x2 : Fld Try.prog 140 2 2 := ⟨fun ad w => by kernel_rfl⟩
instance fv140x2 : Fvl Try.prog 140 2 2 false 1 := Fvl.of Try.underlying140 rfl rfl ty29 rfl
instance fl140x3 : Fld Try.prog 140 3 3 := ⟨fun ad w => by kernel_rfl⟩
instance fv140x3 : Fvl Try.prog 140 3 3 false 1 := Fvl.of Try.underlying140 rfl rfl ty29 rfl
instance cb21 : Cbl Try.prog 21 := ⟨fun args w => by kernel_rfl⟩
instance cb32 : Cbl Try.prog 32 := ⟨fun args w => by kernel_rfl⟩
instance cb33 : Cbl Try.prog 33 := ⟨fun args w => by kernel_rfl⟩
instance cb37 : Cbl Try.prog 37 := ⟨fun args w => by kernel_rfl⟩
instance cb38 : Cbl Try.prog 38 := ⟨fun args w => by kernel_rfl⟩
instance cb40 : Cbl Try.prog 40 := ⟨fun args w => by kernel_rfl⟩
instance cb42 : Cbl Try.prog 42 := ⟨fun args w => by kernel_rfl⟩
instance cb54 : Cbl Try.prog 54 := ⟨fun args w => by kernel_rfl⟩
instance cb56 : Cbl Try.prog 56 := ⟨fun args w => by kernel_rfl⟩
instance cb57 : Cbl Try.prog 57 := ⟨fun args w => by kernel_rfl⟩
instance cb58 : Cbl Try.prog 58 := ⟨fun args w => by kernel_rfl⟩
instance cb60 : Cbl Try.prog 60 := ⟨fun args w => by kernel_rfl⟩
instance cb64 : Cbl Try.prog 64 := ⟨fun args w => by kernel_rfl⟩
instance cb65 : Cbl Try.prog 65 := ⟨fun args w => by kernel_rfl⟩
instance cb66 : Cbl Try.prog 66 := ⟨fun args w => by kernel_rfl⟩
instance cb67 : Cbl Try.prog 67 := ⟨fun args w => by kernel_rfl⟩
instance cb72 : Cbl Try.prog 72 := ⟨fun args w => by kernel_rfl⟩
instance cb73 : Cbl Try.prog 73 := ⟨fun args w => by kernel_rfl⟩
instance cb74 : Cbl Try.prog 74 := ⟨fun args w => by kernel_rfl⟩
instance cb75 : Cbl Try.prog 75 := ⟨fun args w => by kernel_rfl⟩
instance cb76 : Cbl Try.prog 76 := ⟨fun args w => by kernel_rfl⟩
instance cb77 : Cbl Try.prog 77 := ⟨fun args w => by kernel_rfl⟩
instance cb83 : Cbl Try.prog 83 := ⟨fun args w => by kernel_rfl⟩
instance cb84 : Cbl Try.prog 84 := ⟨fun args w => by kernel_rfl⟩
instance cb85 : Cbl Try.prog 85 := ⟨fun args w => by kernel_rfl⟩
instance cb90 : Cbl Try.prog 90 := ⟨fun args w => by kernel_rfl⟩
instance cb91 : Cbl Try.prog 91 := ⟨fun args w => by kernel_rfl⟩
instance cb92 : Cbl Try.prog 92 := ⟨fun args w => by kernel_rfl⟩
instance cb93 : Cbl Try.prog 93 := ⟨fun args w => by kernel_rfl⟩
instance cb94 : Cbl Try.prog 94 := ⟨fun args w => by kernel_rfl⟩
instance cb96 : Cbl Try.prog 96 := ⟨fun args w => by kernel_rfl⟩
instance cb97 : Cbl Try.prog 97 := ⟨fun args w => by kernel_rfl⟩
instance cb98 : Cbl Try.prog 98 := ⟨fun args w => by kernel_rfl⟩
instance cb99 : Cbl Try.prog 99 := ⟨fun args w => by kernel_rfl⟩
instance cb102 : Cbl Try.prog 102 := ⟨fun args w => by kernel_rfl⟩
instance cb103 : Cbl Try.prog 103 := ⟨fun args w => by kernel_rfl⟩
instance cb104 : Cbl Try.prog 104 := ⟨fun args w => by kernel_rfl⟩
instance cb107 : Cbl Try.prog 107 := ⟨fun args w => by kernel_rfl⟩
instance cb108 : Cbl Try.prog 108 := ⟨fun args w => by kernel_rfl⟩
instance cb109 : Cbl Try.prog 109 := ⟨fun args w => by kernel_rfl⟩
instance cb110 : Cbl Try.prog 110 := ⟨fun args w => by kernel_rfl⟩
instance cb111 : Cbl Try.prog 111 := ⟨fun args w => by kernel_rfl⟩
instance cb112 : Cbl Try.prog 112 := ⟨fun args w => by kernel_rfl⟩
instance cb113 : Cbl Try.prog 113 := ⟨fun args w => by kernel_rfl⟩
instance cb114 : Cbl Try.prog 114 := ⟨fun args w => by kernel_rfl⟩
instance cb115 : Cbl Try.prog 115 := ⟨fun args w => by kernel_rfl⟩
instance cb116 : Cbl Try.prog 116 := ⟨fun args w => by kernel_rfl⟩
instance cb117 : Cbl Try.prog 117 := ⟨fun args w => by kernel_rfl⟩
instance cb118 : Cbl Try.prog 118 := ⟨fun args w => by kernel_rfl⟩
instance cb120 : Cbl Try.prog 120 := ⟨fun args w => by kernel_rfl⟩
instance cb121 : Cbl Try.prog 121 := ⟨fun args w => by kernel_rfl⟩
instance cb122 : Cbl Try.prog 122 := ⟨fun args w => by kernel_rfl⟩
instance cb123 : Cbl Try.prog 123 := ⟨fun args w => by kernel_rfl⟩
instance cb124 : Cbl Try.prog 124 := ⟨fun args w => by kernel_rfl⟩
instance cb125 : Cbl Try.prog 125 := ⟨fun args w => by kernel_rfl⟩
instance cb126 : Cbl Try.prog 126 := ⟨fun args w => by kernel_rfl⟩
instance cb127 : Cbl Try.prog 127 := ⟨fun args w => by kernel_rfl⟩
instance cb128 : Cbl Try.prog 128 := ⟨fun args w => by kernel_rfl⟩
instance cb129 : Cbl Try.prog 129 := ⟨fun args w => by kernel_rfl⟩
instance cb130 : Cbl Try.prog 130 := ⟨fun args w => by kernel_rfl⟩
instance cb131 : Cbl Try.prog 131 := ⟨fun args w => by kernel_rfl⟩
instance cb132 : Cbl Try.prog 132 := ⟨fun args w => by kernel_rfl⟩
instance cb133 : Cbl Try.prog 133 := ⟨fun args w => by kernel_rfl⟩
instance cb134 : Cbl Try.prog 134 := ⟨fun args w => by kernel_rfl⟩
instance cb135 : Cbl Try.prog 135 := ⟨fun args w => by kernel_rfl⟩
instance cb136 : Cbl Try.prog 136 := ⟨fun args w => by kernel_rfl⟩
instance cb137 : Cbl Try.prog 137 := ⟨fun args w => by kernel_rfl⟩
instance cb138 : Cbl Try.prog 138 := ⟨fun args w => by kernel_rfl⟩
instance cb139 : Cbl Try.prog 139 := ⟨fun args w => by kernel_rfl⟩
instance cb140 : Cbl Try.prog 140 := ⟨fun args w => by kernel_rfl⟩
instance cb141 : Cbl Try.prog 141 := ⟨fun args w => by kernel_rfl⟩
instance cb142 : Cbl Try.prog 142 := ⟨fun args w => by kernel_rfl⟩
instance cb143 : Cbl Try.prog 143 := ⟨fun args w => by kernel_rfl⟩
instance cb144 : Cbl Try.prog 144 := ⟨fun args w => by kernel_rfl⟩
instance cb145 : Cbl Try.prog 145 := ⟨fun args w => by kernel_rfl⟩
instance cb146 : Cbl Try.prog 146 := ⟨fun args w => by kernel_rfl⟩
instance cb147 : Cbl Try.prog 147 := ⟨fun args w => by kernel_rfl⟩
instance cb148 : Cbl Try.prog 148 := ⟨fun args w => by kernel_rfl⟩
instance cb149 : Cbl Try.prog 149 := ⟨fun args w => by kernel_rfl⟩
instance cb150 : Cbl Try.prog 150 := ⟨fun args w => by kernel_rfl⟩
instance cb151 : Cbl Try.prog 151 := ⟨fun args w => by kernel_rfl⟩
instance cb157 : Cbl Try.prog 157 := ⟨fun args w => by kernel_rfl⟩
instance cb176 : Cbl Try.prog 176 := ⟨fun args w => by kernel_rfl⟩
instance cb177 : Cbl Try.prog 177 := ⟨fun args w => by kernel_rfl⟩
instance cb178 : Cbl Try.prog 178 := ⟨fun args w => by kernel_rfl⟩
instance cb179 : Cbl Try.prog 179 := ⟨fun args w => by kernel_rfl⟩
end Go.Proofs.Ytkbkmngbenohkaa

namespace Go.Proofs.Ytkbkmngbenohkaa

instance bd32 : Bld Try.prog 32 [.int .i64 0, .slice none 0 0] (fun i => ([(0, 1), (1, 1)] : List (Nat × Nat))[i]?) := Bld.struct (bytes := 32) (.agg #[.int .i64 0, .slice none 0 0]) [(0, 1), (1, 1)] Try.underlying32 (by kernel_rfl) rfl (by simp [Value.oneCell']) (fun w => by kernel_rfl)
instance bd33 : Bld Try.prog 33 [.int .i64 0, .slice none 0 0] (fun i => ([(0, 1), (1, 1)] : List (Nat × Nat))[i]?) := Bld.struct (bytes := 32) (.agg #[.int .i64 0, .slice none 0 0]) [(0, 1), (1, 1)] Try.underlying33 (by kernel_rfl) rfl (by simp [Value.oneCell']) (fun w => by kernel_rfl)
instance bd38 : Bld Try.prog 38 [.int .i64 0, .int .i64 0] (fun i => some (i * 1, 1)) := Bld.array (bytes := 16) (.agg #[.int .i64 0, .int .i64 0]) Try.underlying38 (by kernel_rfl) rfl (by simp [Value.oneCell']) (by kernel_rfl)
instance bd74 : Bld Try.prog 74 [.int .i64 0, .slice none 0 0] (fun i => ([(0, 1), (1, 1)] : List (Nat × Nat))[i]?) := Bld.struct (bytes := 32) (.agg #[.int .i64 0, .slice none 0 0]) [(0, 1), (1, 1)] Try.underlying74 (by kernel_rfl) rfl (by simp [Value.oneCell']) (fun w => by kernel_rfl)
instance bd75 : Bld Try.prog 75 [.int .i64 0, .slice none 0 0] (fun i => ([(0, 1), (1, 1)] : List (Nat × Nat))[i]?) := Bld.struct (bytes := 32) (.agg #[.int .i64 0, .slice none 0 0]) [(0, 1), (1, 1)] Try.underlying75 (by kernel_rfl) rfl (by simp [Value.oneCell']) (fun w => by kernel_rfl)
instance bd77 : Bld Try.prog 77 [.int .i64 0, .slice none 0 0] (fun i => ([(0, 1), (1, 1)] : List (Nat × Nat))[i]?) := Bld.struct (bytes := 32) (.agg #[.int .i64 0, .slice none 0 0]) [(0, 1), (1, 1)] Try.underlying77 (by kernel_rfl) rfl (by simp [Value.oneCell']) (fun w => by kernel_rfl)
instance bd92 : Bld Try.prog 92 [.slice none 0 0, .slice none 0 0] (fun i => ([(0, 1), (1, 1)] : List (Nat × Nat))[i]?) := Bld.struct (bytes := 48) (.agg #[.slice none 0 0, .slice none 0 0]) [(0, 1), (1, 1)] Try.underlying92 (by kernel_rfl) rfl (by simp [Value.oneCell']) (fun w => by kernel_rfl)
instance bd93 : Bld Try.prog 93 [.slice none 0 0, .slice none 0 0] (fun i => ([(0, 1), (1, 1)] : List (Nat × Nat))[i]?) := Bld.struct (bytes := 48) (.agg #[.slice none 0 0, .slice none 0 0]) [(0, 1), (1, 1)] Try.underlying93 (by kernel_rfl) rfl (by simp [Value.oneCell']) (fun w => by kernel_rfl)
instance bd103 : Bld Try.prog 103 [.int .i64 0, .slice none 0 0] (fun i => ([(0, 1), (1, 1)] : List (Nat × Nat))[i]?) := Bld.struct (bytes := 32) (.agg #[.int .i64 0, .slice none 0 0]) [(0, 1), (1, 1)] Try.underlying103 (by kernel_rfl) rfl (by simp [Value.oneCell']) (fun w => by kernel_rfl)
instance bd104 : Bld Try.prog 104 [.int .i64 0, .slice none 0 0] (fun i => ([(0, 1), (1, 1)] : List (Nat × Nat))[i]?) := Bld.struct (bytes := 32) (.agg #[.int .i64 0, .slice none 0 0]) [(0, 1), (1, 1)] Try.underlying104 (by kernel_rfl) rfl (by simp [Value.oneCell']) (fun w => by kernel_rfl)
instance bd122 : Bld Try.prog 122 [.slice none 0 0, .slice none 0 0] (fun i => ([(0, 1), (1, 1)] : List (Nat × Nat))[i]?) := Bld.struct (bytes := 48) (.agg #[.slice none 0 0, .slice none 0 0]) [(0, 1), (1, 1)] Try.underlying122 (by kernel_rfl) rfl (by simp [Value.oneCell']) (fun w => by kernel_rfl)
instance bd123 : Bld Try.prog 123 [.slice none 0 0, .slice none 0 0] (fun i => ([(0, 1), (1, 1)] : List (Nat × Nat))[i]?) := Bld.struct (bytes := 48) (.agg #[.slice none 0 0, .slice none 0 0]) [(0, 1), (1, 1)] Try.underlying123 (by kernel_rfl) rfl (by simp [Value.oneCell']) (fun w => by kernel_rfl)
instance bd135 : Bld Try.prog 135 [.pointer none, .int .i64 0, .slice none 0 0, .nilFunc, .map none, .slice none 0 0] (fun i => ([(0, 1), (1, 1), (2, 1), (3, 1), (4, 1), (5, 1)] : List (Nat × Nat))[i]?) := Bld.struct (bytes := 80) (.agg #[.pointer none, .int .i64 0, .slice none 0 0, .nilFunc, .map none, .slice none 0 0]) [(0, 1), (1, 1), (2, 1), (3, 1), (4, 1), (5, 1)] Try.underlying135 (by kernel_rfl) rfl (by simp [Value.oneCell']) (fun w => by kernel_rfl)
instance bd136 : Bld Try.prog 136 [.pointer none, .int .i64 0, .slice none 0 0, .nilFunc, .map none, .slice none 0 0] (fun i => ([(0, 1), (1, 1), (2, 1), (3, 1), (4, 1), (5, 1)] : List (Nat × Nat))[i]?) := Bld.struct (bytes := 80) (.agg #[.pointer none, .int .i64 0, .slice none 0 0, .nilFunc, .map none, .slice none 0 0]) [(0, 1), (1, 1), (2, 1), (3, 1), (4, 1), (5, 1)] Try.underlying136 (by kernel_rfl) rfl (by simp [Value.oneCell']) (fun w => by kernel_rfl)
instance bd139 : Bld Try.prog 139 [.slice none 0 0, .int .i64 0, .slice none 0 0, .slice none 0 0] (fun i => ([(0, 1), (1, 1), (2, 1), (3, 1)] : List (Nat × Nat))[i]?) := Bld.struct (bytes := 80) (.agg #[.slice none 0 0, .int .i64 0, .slice none 0 0, .slice none 0 0]) [(0, 1), (1, 1), (2, 1), (3, 1)] Try.underlying139 (by kernel_rfl) rfl (by simp [Value.oneCell']) (fun w => by kernel_rfl)
instance bd140 : Bld Try.prog 140 [.slice none 0 0, .int .i64 0, .slice none 0 0, .slice none 0 0] (fun i => ([(0, 1), (1, 1), (2, 1), (3, 1)] : List (Nat × Nat))[i]?) := Bld.struct (bytes := 80) (.agg #[.slice none 0 0, .int .i64 0, .slice none 0 0, .slice none 0 0]) [(0, 1), (1, 1), (2, 1), (3, 1)] Try.underlying140 (by kernel_rfl) rfl (by simp [Value.oneCell']) (fun w => by kernel_rfl)
instance bd196 : Bld Try.prog 196 [.int .u64 0, .int .u64 0, .int .u32 0, .int .u8 0, .int .u8 0, .int .u8 0, .int .u8 0, .nilFunc, .pointer none, .int .i32 0, .int .i32 0] (fun i => ([(0, 1), (1, 1), (2, 1), (3, 1), (4, 1), (5, 1), (6, 1), (7, 1), (8, 1), (9, 1), (10, 1)] : List (Nat × Nat))[i]?) := Bld.struct (bytes := 48) (.agg #[.int .u64 0, .int .u64 0, .int .u32 0, .int .u8 0, .int .u8 0, .int .u8 0, .int .u8 0, .nilFunc, .pointer none, .int .i32 0, .int .i32 0]) [(0, 1), (1, 1), (2, 1), (3, 1), (4, 1), (5, 1), (6, 1), (7, 1), (8, 1), (9, 1), (10, 1)] Try.underlying196 (by kernel_rfl) rfl (by simp [Value.oneCell']) (fun w => by kernel_rfl)
end Go.Proofs.Ytkbkmngbenohkaa

namespace Go.Proofs.Ytkbkmngbenohkaa
open Go.RowKit
def around (n m : Int) : Int := (if n < 0 then -(n + 1) else n) % m
theorem around_lo (n m : Int) (h : 0 < m) : 0 ≤ around n m := Int.emod_nonneg _ (by omega)
theorem around_hi (n m : Int) (h : 0 < m) : around n m < m := Int.emod_lt_of_pos _ h
theorem around_spec (n m : Int) (hm : 1 ≤ m) (h1 : m ≤ 4611686018427387904) (h2 : -9223372036854775808 ≤ n) (h3 : n ≤ 9223372036854775807) :
  Spec Try.prog 37 (inSt [.v (.int .i64 n), .v (.int .i64 m)] []) (outSt (.v (.int .i64 (around n m))) []) := by
 refine Spec.ofN Try.func37 rfl Try.ntmps37 rfl ?_
 refine D_seq fun K1 hK1 => ?_
 refine D_region ?_
 refine DL_c (asI rfl) ?_
 refine DL_nil (hK1 _ ?_)
 clear hK1; try clear K1
 refine D_seq fun K2 hK2 => ?_
 refine D_seq fun K3 hK3 => ?_
 refine D_region ?_
 refine DL_c (mvI rfl) ?_
 refine DL_c (op_lss _ _ rfl rfl rfl) ?_
 refine DL_nil (hK3 _ ?_)
 clear hK3; try clear K3
 refine D_splitC rfl (fun hc6 => ?_) (fun hc6 => ?_)
 ·skip
  refine D_region ?_
  refine DL_c (mvI rfl) ?_
  refine DL_c (op_add _ _ rfl rfl (i64w (by omega))) ?_
  refine DL_c (op_neg _ rfl (i64w (by omega))) ?_
  refine DL_c (asI rfl) ?_
  refine DL_nil (hK2 _ ?_)
  clear hK2; try clear K2
  refine D_seq fun K4 hK4 => ?_
  refine D_region ?_
  refine DL_c (mvI rfl) ?_
  refine DL_c (mvI rfl) ?_
  refine DL_c (op_rem _ _ rfl rfl (by omega) (Int.tmod_eq_emod_of_nonneg (by omega))) ?_
  refine DL_c (asI rfl) ?_
  refine DL_nil (hK4 _ ?_)
  clear hK4; try clear K4
  refine D_ret ?_
  refine ret1 (.inr rfl) rfl (.tmp (rfl : _ = AV.v (.int _ _))) (Le.out [] [] (lvI ?_) rfl rfl rfl trivial trivial)
  unfold around
  rw [if_pos hc6]
 ·skip
  refine D_skip (hK2 _ ?_)
  clear hK2; try clear K2
  refine D_seq fun K5 hK5 => ?_
  refine D_region ?_
  refine DL_c (mvI rfl) ?_
  refine DL_c (mvI rfl) ?_
  refine DL_c (op_rem _ _ rfl rfl (by omega) (Int.tmod_eq_emod_of_nonneg (by omega))) ?_
  refine DL_c (asI rfl) ?_
  refine DL_nil (hK5 _ ?_)
  clear hK5; try clear K5
  refine D_ret ?_
  refine ret1 (.inr rfl) rfl (.tmp (rfl : _ = AV.v (.int _ _))) (Le.out [] [] (lvI ?_) rfl rfl rfl trivial trivial)
  unfold around
  rw [if_neg (by omega)]

theorem same_spec (n m : Nat) (xs ys : List Int) (hn : xs.length = n) (hm : ys.length = m) (h1 : n ≤ 4611686018427387904) (h2 : m ≤ 4611686018427387904) :
  Spec Try.prog 40 (inSt [.sl n (isl xs), .sl m (isl ys)] []) (outSt (.v (.bool (decide (xs = ys)))) []) := by
 subst hn; subst hm
 refine Spec.ofN Try.func40 rfl Try.ntmps40 rfl ?_
 refine D_seq fun K1 hK1 => ?_
 refine D_region ?_
 refine DL_c (asB rfl) ?_
 refine DL_nil (hK1 _ ?_)
 clear hK1; try clear K1
 refine D_seq fun K2 hK2 => ?_
 refine D_seq fun K3 hK3 => ?_
 refine D_region ?_
 refine DL_c (mvS rfl) ?_
 refine DL_c (op_lenS _ inferInstance rfl) ?_
 refine DL_c (mvS rfl) ?_
 refine DL_c (op_lenS _ inferInstance rfl) ?_
 refine DL_c (op_neq _ _ rfl rfl rfl) ?_
 refine DL_nil (hK3 _ ?_)
 clear hK3; try clear K3
 refine D_splitC rfl (fun hc10 => ?_) (fun hc10 => ?_)
 ·skip
  refine D_seq fun K4 hK4 => ?_
  refine D_region ?_
  refine DL_c (asB rfl) ?_
  refine DL_nil (hK4 _ ?_)
  clear hK4; try clear K4
  refine D_ret ?_
  refine ret1 (.inr rfl) rfl (.tmp (rfl : _ = AV.v (.bool _))) (Le.out [] [] (lvB ?_) rfl rfl rfl trivial trivial)
  exact decide_eq_false fun h => by subst h; omega
 ·skip
  refine D_skip (hK2 _ ?_)
  clear hK2; try clear K2
  refine D_seq fun K5 hK5 => ?_
  refine D_seq fun K6 hK6 => ?_
  refine D_region ?_
  refine DL_c (asI rfl) ?_
  refine DL_nil (hK6 _ ?_)
  clear hK6; try clear K6
  refine D_block ?_
  refine D_loopL (α := Nat) (fun k => k ≤ xs.length ∧ xs.length = ys.length ∧ xs.take k = ys.take k) 26 [(0, _), (1, _)] [] (fun k => [(5, .v (.int .i64 (k : Int)))]) (fun k => []) [] [] (fun k => xs.length - k) 0 ?_ (by
   refine Le.mkJ [] [] rfl ?_ ?_ trivial trivial ?_
   ·exact ⟨(by exact iS rfl), (by exact iS rfl), (lvI (by rfl)), trivial⟩
   ·exact trivial
   ·kernel_rfl) ?_
  ·exact ⟨by omega, by omega, rfl⟩
  intro k hk
  obtain ⟨hk, hl, ht⟩ := hk
  refine D_seq fun K7 hK7 => ?_
  refine D_seq fun K8 hK8 => ?_
  refine D_region ?_
  refine DL_c (mvI rfl) ?_
  refine DL_c (mvS rfl) ?_
  refine DL_c (op_lenS _ inferInstance rfl) ?_
  refine DL_c (op_lss _ _ rfl rfl rfl) ?_
  refine DL_nil (hK8 _ ?_)
  clear hK8; try clear K8
  refine D_splitC rfl (fun hc14 => ?_) (fun hc14 => ?_)
  ·skip
   have hkx : k < xs.length := by omega
   have hky : k < ys.length := by omega
   refine D_skip (hK7 _ ?_)
   clear hK7; try clear K7
   refine D_seq fun K9 hK9 => ?_
   refine D_block ?_
   refine D_seq fun K10 hK10 => ?_
   refine D_le (σ' := mkStI 26 [(0, _), (1, _), (5, _)] [] [] []) (by
    refine Le.mkJ [] [] rfl ?_ ?_ trivial trivial ?_
    ·exact ⟨(by exact iS rfl), (by exact iS rfl), (iV rfl), trivial⟩
    ·exact trivial
    ·kernel_rfl) ?_
   refine D_anyL 9 [17, 18, 19, 20, 21, 22, 23, 24, 25] [] (by kernel_rfl) (by kernel_rfl) rfl (nodupO_iff rfl) (rfl : _ = [_, _, _, _, _, _, _, _, _]) (rfl : _ = []) ?_
   refine any_c (_, []) (fun τ => op_mv _ (rfl : _ = AV.sl _ _)) ?_
   refine any_n (rfl : _ = [_]) ?_
   refine any_c (_, []) (fun τ => op_mv _ (rfl : _ = AV.v (.int _ _))) ?_
   refine any_n (rfl : _ = [_, _]) ?_
   refine any_c (_, []) (fun τ => op_ixS _ _ inferInstance rfl rfl _ rfl (by omega) (by (simp only [isl_len, bsl_len, psl_len]; omega)) (by exact Nat.mul_one _)) ?_
   refine any_n (rfl : _ = [_, _, _]) ?_
   refine any_c (_, []) (fun τ => op_ldF _ inferInstance rfl (by exact isl_get _ _ (by omega)) rfl) ?_
   refine any_n (rfl : _ = [_, _, _, _]) ?_
   refine any_c (_, []) (fun τ => op_mv _ (rfl : _ = AV.sl _ _)) ?_
   refine any_n (rfl : _ = [_, _, _, _, _]) ?_
   refine any_c (_, []) (fun τ => op_mv _ (rfl : _ = AV.v (.int _ _))) ?_
   refine any_n (rfl : _ = [_, _, _, _, _, _]) ?_
   refine any_c (_, []) (fun τ => op_ixS _ _ inferInstance rfl rfl _ rfl (by omega) (by (simp only [isl_len, bsl_len, psl_len]; omega)) (by exact Nat.mul_one _)) ?_
   refine any_n (rfl : _ = [_, _, _, _, _, _, _]) ?_
   refine any_c (_, []) (fun τ => op_ldF _ inferInstance rfl (by exact isl_get _ _ (by omega)) rfl) ?_
   refine any_n (rfl : _ = [_, _, _, _, _, _, _, _]) ?_
   refine any_c (_, []) (fun τ => op_neq _ _ rfl rfl rfl) ?_
   refine any_n (rfl : _ = [_, _, _, _, _, _, _, _, _]) ?_
   refine any_end ⟨rfl, ?_⟩
   refine DL_nil (hK10 _ ?_)
   clear hK10; try clear K10
   refine D_splitC rfl (fun hc25 => ?_) (fun hc25 => ?_)
   ·skip
    refine D_seq fun K11 hK11 => ?_
    refine D_region ?_
    refine DL_c (asB rfl) ?_
    refine DL_nil (hK11 _ ?_)
    clear hK11; try clear K11
    refine D_ret ?_
    refine ret1 (.inr rfl) rfl (.tmp (rfl : _ = AV.v (.bool _))) (Le.out [] [] (lvB ?_) rfl rfl rfl trivial trivial)
    exact decide_eq_false fun h => by subst h; exact hc25 rfl
   ·skip
    refine D_skip (hK9 _ ?_)
    clear hK9; try clear K9
    refine D_region ?_
    refine DL_c (mvI rfl) ?_
    refine DL_c (op_add _ _ rfl rfl (i64w (by omega))) ?_
    refine DL_c (asI rfl) ?_
    refine DL_nil ?_
    refine ⟨k + 1, ?_, ?_, ?_⟩
    ·refine ⟨by omega, hl, ?_⟩
     rw [getD_at _ _ _ hkx, getD_at _ _ _ hky] at hc25
     rw [List.take_succ_eq_append_getElem hkx, List.take_succ_eq_append_getElem hky, ht, hc25]
    ·skip
     refine Le.mkJ [] [] rfl ?_ ?_ trivial trivial ?_
     ·exact ⟨(by exact iS rfl), (by exact iS rfl), (lvI (by rfl)), trivial⟩
     ·exact trivial
     ·kernel_rfl
    ·omega
  ·skip
   refine D_exit ?_
   refine id (hK5 _ ?_)
   clear hK5; try clear K5
   refine D_seq fun K12 hK12 => ?_
   refine D_region ?_
   refine DL_c (asB rfl) ?_
   refine DL_nil (hK12 _ ?_)
   clear hK12; try clear K12
   refine D_ret ?_
   refine ret1 (.inr rfl) rfl (.tmp (rfl : _ = AV.v (.bool _))) (Le.out [] [] (lvB ?_) rfl rfl rfl trivial trivial)
   rw [List.take_of_length_le (by omega), List.take_of_length_le (by omega)] at ht
   exact decide_eq_true ht
end Go.Proofs.Ytkbkmngbenohkaa

namespace Go.Proofs.Ytkbkmngbenohkaa
open Go.RowKit

def sw (L : List Int) (i j : Nat) : List Int := (L.set i (L.getD j 0)).set j (L.getD i 0)
@[simp] theorem sw_len (L : List Int) (i j : Nat) : (sw L i j).length = L.length := by simp [sw]
theorem setD (l : List Int) (i j : Nat) (x : Int) : (l.set i x).getD j 0 = if j = i ∧ i < l.length then x else l.getD j 0 := by
 simp only [List.getD_eq_getElem?_getD, List.getElem?_set]
 by_cases h : i = j
 ·subst h
  by_cases h2 : i < l.length
  ·simp [h2]
  ·simp [h2]
 ·simp [h, Ne.symm h]
theorem sw_get {L : List Int} {i j : Nat} (hi : i < L.length) (hj : j < L.length) (k : Nat) : (sw L i j).getD k 0 = if k = j then L.getD i 0 else if k = i then L.getD j 0 else L.getD k 0 := by
 unfold sw
 rw [setD, setD, List.length_set]
 by_cases h1 : k = j
 ·rw [if_pos ⟨h1, hj⟩, if_pos h1]
 ·rw [if_neg (fun h => h1 h.1), if_neg h1]
  by_cases h2 : k = i
  ·rw [if_pos ⟨h2, hi⟩, if_pos h2]
  ·rw [if_neg (fun h => h2 h.1), if_neg h2]
theorem sw_perm {L : List Int} {i j : Nat} (hi : i < L.length) (hj : j < L.length) : (sw L i j).Perm L := by
 rw [List.perm_iff_count]
 intro a
 have e1 : L.getD i 0 = L[i] := by simp [List.getD_eq_getElem?_getD, hi]
 have e2 : L.getD j 0 = L[j] := by simp [List.getD_eq_getElem?_getD, hj]
 unfold sw
 rw [e1, e2, List.count_set (by simpa using hj), List.count_set hi, List.getElem_set]
 have h1 : (if (L[i] == a) = true then 1 else 0) ≤ List.count a L := by
  split
  ·rename_i h
   rw [← beq_iff_eq.1 h]; exact List.count_pos_iff.2 (List.getElem_mem hi)
  ·omega
 have h2 : (if (L[j] == a) = true then 1 else 0) ≤ List.count a L := by
  split
  ·rename_i h
   rw [← beq_iff_eq.1 h]; exact List.count_pos_iff.2 (List.getElem_mem hj)
  ·omega
 by_cases hij : i = j
 ·subst hij
  simp only [if_true]
  omega
 ·rw [if_neg hij]
  by_cases h3 : (L[i] == a) = true
  ·by_cases h4 : (L[j] == a) = true
   ·simp only [h3, h4, if_true] at *; omega
   ·simp only [h3, h4, if_true, Bool.false_eq_true, if_false] at *; omega
  ·by_cases h4 : (L[j] == a) = true
   ·simp only [h3, h4, if_true, Bool.false_eq_true, if_false] at *; omega
   ·simp only [h3, h4, Bool.false_eq_true, if_false] at *; omega

/-! sorted -/
def srt (L : List Int) : List Int := L.mergeSort fun a b => decide (a ≤ b)
theorem srt_perm (L : List Int) : (srt L).Perm L := List.mergeSort_perm _ _
theorem srt_sorted (L : List Int) : (srt L).Pairwise fun a b => a ≤ b := by
 have := List.pairwise_mergeSort (le := fun a b : Int => decide (a ≤ b)) (by intro a b c h1 h2; simp at *; omega) (by intro a b; simp; omega) L
 exact this.imp fun {a b} h => by simpa using h
@[simp] theorem srt_len (L : List Int) : (srt L).length = L.length := (srt_perm L).length_eq
theorem srt_of {L M : List Int} (hp : M.Perm L) (hs : M.Pairwise fun a b => a ≤ b) : M = srt L :=
 List.Perm.eq_of_pairwise (fun a b _ _ h1 h2 => by omega) hs (srt_sorted L) (hp.trans (srt_perm L).symm)
def Upto (M : List Int) (i : Nat) : Prop := ∀ p q, p < q → q < i → M.getD p 0 ≤ M.getD q 0
theorem upto_all {M : List Int} (h : Upto M M.length) : M.Pairwise fun a b => a ≤ b := by
 rw [List.pairwise_iff_getElem]
 intro i j hi hj hij
 have := h i j hij hj
 rwa [getD_at _ _ _ hi, getD_at _ _ _ hj] at this
structure Sink (M : List Int) (i j : Nat) : Prop where
 rest : ∀ p q, p < q → q ≤ i → p ≠ j → q ≠ j → M.getD p 0 ≤ M.getD q 0
 up : ∀ q, j < q → q ≤ i → M.getD j 0 ≤ M.getD q 0
theorem Sink.start {M : List Int} {i : Nat} (h : Upto M i) : Sink M i i := ⟨fun p q h1 h2 _ h4 => h p q h1 (by omega), fun q h1 h2 => by omega⟩
theorem Sink.stop {M : List Int} {i j : Nat} (h : Sink M i j) (hj : j ≤ i) (hs : j = 0 ∨ M.getD (j - 1) 0 ≤ M.getD j 0) : Upto M (i + 1) := by
 intro p q h1 h2
 by_cases hp : p = j
 ·subst hp; exact h.up q h1 (by omega)
 ·by_cases hq : q = j
  ·subst hq
   rcases hs with hs | hs
   ·omega
   ·by_cases hp1 : p = q - 1
    ·rw [hp1]; exact hs
    ·have := h.rest p (q - 1) (by omega) (by omega) hp (by omega)
     omega
  ·exact h.rest p q h1 (by omega) hp hq
theorem Sink.swap {M : List Int} {i j : Nat} (h : Sink M i j) (hj : 0 < j) (hji : j ≤ i) (hi : i < M.length) (hlt : M.getD j 0 < M.getD (j - 1) 0) : Sink (sw M j (j - 1)) i (j - 1) := by
 have g := sw_get (L := M) (i := j) (j := j - 1) (by omega) (by omega)
 refine ⟨fun p q h1 h2 h3 h4 => ?_, fun q h1 h2 => ?_⟩
 ·rw [g, g, if_neg h3, if_neg h4]
  by_cases hp : p = j
  ·rw [if_pos hp, if_neg (by omega)]
   exact h.rest (j - 1) q (by omega) h2 (by omega) (by omega)
  ·rw [if_neg hp]
   by_cases hq : q = j
   ·rw [if_pos hq]
    exact h.rest p (j - 1) (by omega) (by omega) hp (by omega)
   ·rw [if_neg hq]; exact h.rest p q h1 h2 hp hq
 ·rw [g, g, if_pos rfl, if_neg (by omega)]
  by_cases hq : q = j
  ·rw [if_pos hq]; omega
  ·rw [if_neg hq]; exact h.up q (by omega) h2

/-! heaps -/
def HP (m : Nat) (L : List Int) : Prop := ∀ k, 0 < k → k < m → L.getD ((k - 1) / 2) 0 ≤ L.getD k 0
theorem HP.min {m : Nat} {L : List Int} (h : HP m L) : ∀ k, k < m → L.getD 0 0 ≤ L.getD k 0 := by
 intro k
 induction k using Nat.strongRecOn with
 | _ k ih =>
  intro hk
  by_cases h0 : k = 0
  ·subst h0; omega
  ·have h1 := h k (by omega) hk
   have h2 := ih ((k - 1) / 2) (by omega) (by omega)
   omega
def upL (L : List Int) (j : Nat) : List Int :=
 if h : j = 0 then L else if L.getD j 0 < L.getD ((j - 1) / 2) 0 then upL (sw L ((j - 1) / 2) j) ((j - 1) / 2) else L
termination_by j
decreasing_by omega
theorem upL_zero (L : List Int) : upL L 0 = L := by rw [upL]; simp
theorem upL_yes {L : List Int} {j : Nat} (h : 0 < j) (hl : L.getD j 0 < L.getD ((j - 1) / 2) 0) : upL L j = upL (sw L ((j - 1) / 2) j) ((j - 1) / 2) := by
 rw [upL, dif_neg (by omega), if_pos hl]
theorem upL_no {L : List Int} {j : Nat} (hl : ¬ L.getD j 0 < L.getD ((j - 1) / 2) 0) : upL L j = L := by
 rw [upL]; split
 ·rfl
 ·rfl
structure Rise (m : Nat) (L : List Int) (j : Nat) : Prop where
 rest : ∀ k, 0 < k → k < m → k ≠ j → L.getD ((k - 1) / 2) 0 ≤ L.getD k 0
 kids : ∀ k, 0 < k → k < m → (k - 1) / 2 = j → 0 < j → L.getD ((j - 1) / 2) 0 ≤ L.getD k 0
theorem Rise.swap {m : Nat} {L : List Int} {j : Nat} (h : Rise m L j) (hj : 0 < j) (hjm : j < m) (hm : m ≤ L.length) (hl : L.getD j 0 < L.getD ((j - 1) / 2) 0) : Rise m (sw L ((j - 1) / 2) j) ((j - 1) / 2) := by
 have g := sw_get (L := L) (i := (j - 1) / 2) (j := j) (by omega) (by omega)
 refine ⟨fun k h1 h2 h3 => ?_, fun k h1 h2 h3 h4 => ?_⟩
 ·rw [g, g]
  by_cases hkj : k = j
  ·subst hkj
   rw [if_neg (by omega), if_pos rfl, if_pos rfl]; omega
  ·rw [if_neg hkj, if_neg h3]
   by_cases hp : (k - 1) / 2 = j
   ·rw [if_pos hp]
    exact h.kids k h1 h2 hp hj
   ·rw [if_neg hp]
    by_cases hp2 : (k - 1) / 2 = (j - 1) / 2
    ·rw [if_pos hp2]
     have := h.rest k h1 h2 hkj
     rw [hp2] at this; omega
    ·rw [if_neg hp2]; exact h.rest k h1 h2 hkj
 ·rw [g, g]
  have h5 := h.rest ((j - 1) / 2) h4 (by omega) (by omega)
  rw [if_neg (by omega), if_neg (by omega)]
  by_cases hkj : k = j
  ·rw [if_pos hkj]; exact h5
  ·rw [if_neg hkj, if_neg (by omega)]
   have := h.rest k h1 h2 hkj
   rw [h3] at this; omega
theorem Rise.done_ {m : Nat} {L : List Int} {j : Nat} (h : Rise m L j) (hs : j = 0 ∨ L.getD ((j - 1) / 2) 0 ≤ L.getD j 0) : HP m L := by
 intro k h1 h2
 by_cases hk : k = j
 ·subst hk
  rcases hs with hs | hs
  ·omega
  ·exact hs
 ·exact h.rest k h1 h2 hk
theorem upL_ok {m : Nat} : ∀ (j : Nat) {L : List Int}, Rise m L j → j < m → m ≤ L.length → HP m (upL L j) ∧ (upL L j).Perm L := by
 intro j
 induction j using Nat.strongRecOn with
 | _ j ih =>
  intro L h hj hm
  by_cases h0 : j = 0
  ·subst h0; rw [upL_zero]; exact ⟨h.done_ (.inl rfl), List.Perm.refl _⟩
  ·by_cases hl : L.getD j 0 < L.getD ((j - 1) / 2) 0
   ·rw [upL_yes (by omega) hl]
    have h1 := ih ((j - 1) / 2) (by omega) (h.swap (by omega) hj hm hl) (by omega) (by simpa using hm)
    exact ⟨h1.1, h1.2.trans (sw_perm (by omega) (by omega))⟩
   ·rw [upL_no hl]; exact ⟨h.done_ (.inr (by omega)), List.Perm.refl _⟩
def kid (L : List Int) (i m : Nat) : Nat := if 2 * i + 2 < m ∧ L.getD (2 * i + 2) 0 < L.getD (2 * i + 1) 0 then 2 * i + 2 else 2 * i + 1
theorem kid_or (L : List Int) (i m : Nat) : kid L i m = 2 * i + 1 ∨ (kid L i m = 2 * i + 2 ∧ 2 * i + 2 < m) := by
 unfold kid; split
 ·rename_i h; exact .inr ⟨rfl, h.1⟩
 ·exact .inl rfl
def downL (L : List Int) (i m : Nat) : List Int :=
 if h : m ≤ 2 * i + 1 then L else if L.getD (kid L i m) 0 < L.getD i 0 then downL (sw L i (kid L i m)) (kid L i m) m else L
termination_by m - i
decreasing_by have := kid_or L i m; omega
theorem downL_end {L : List Int} {i m : Nat} (h : m ≤ 2 * i + 1) : downL L i m = L := by rw [downL, dif_pos h]
theorem downL_yes {L : List Int} {i m : Nat} (h : 2 * i + 1 < m) (hl : L.getD (kid L i m) 0 < L.getD i 0) : downL L i m = downL (sw L i (kid L i m)) (kid L i m) m := by
 rw [downL, dif_neg (by omega), if_pos hl]
theorem downL_no {L : List Int} {i m : Nat} (hl : ¬ L.getD (kid L i m) 0 < L.getD i 0) : downL L i m = L := by
 rw [downL]; split
 ·rfl
 ·rfl
theorem kid_min {L : List Int} {i m k : Nat} (hk : 0 < k) (hm : k < m) (hp : (k - 1) / 2 = i) : L.getD (kid L i m) 0 ≤ L.getD k 0 := by
 unfold kid
 split
 ·rename_i h
  have : k = 2 * i + 1 ∨ k = 2 * i + 2 := by omega
  rcases this with rfl | rfl <;> omega
 ·rename_i h
  have : k = 2 * i + 1 ∨ k = 2 * i + 2 := by omega
  rcases this with rfl | rfl
  ·omega
  ·have : ¬ L.getD (2 * i + 2) 0 < L.getD (2 * i + 1) 0 := fun hh => h ⟨hm, hh⟩
   omega
structure Fall (m : Nat) (L : List Int) (i : Nat) : Prop where
 rest : ∀ k, 0 < k → k < m → (k - 1) / 2 ≠ i → L.getD ((k - 1) / 2) 0 ≤ L.getD k 0
 kids : ∀ k, 0 < k → k < m → (k - 1) / 2 = i → 0 < i → L.getD ((i - 1) / 2) 0 ≤ L.getD k 0
theorem Fall.swap {m : Nat} {L : List Int} {i : Nat} (h : Fall m L i) (hi : 2 * i + 1 < m) (hm : m ≤ L.length) (hl : L.getD (kid L i m) 0 < L.getD i 0) : Fall m (sw L i (kid L i m)) (kid L i m) := by
 have hk := kid_or L i m
 have g := sw_get (L := L) (i := i) (j := kid L i m) (by omega) (by omega)
 refine ⟨fun k h1 h2 h3 => ?_, fun k h1 h2 h3 h4 => ?_⟩
 ·rw [g, g, if_neg h3]
  by_cases hp : (k - 1) / 2 = i
  ·rw [if_pos hp]
   by_cases hkk : k = kid L i m
   ·rw [if_pos hkk]; omega
   ·rw [if_neg hkk, if_neg (by omega)]; exact kid_min h1 h2 hp
  ·rw [if_neg hp]
   by_cases hkk : k = kid L i m
   ·omega
   ·rw [if_neg hkk]
    by_cases hki : k = i
    ·subst hki
     rw [if_pos rfl]
     exact h.kids (kid L k m) (by omega) (by omega) (by omega) h1
    ·rw [if_neg hki]; exact h.rest k h1 h2 hp
 ·rw [g, g]
  have hpk : (kid L i m - 1) / 2 = i := by omega
  rw [hpk, if_neg (by omega), if_pos rfl, if_neg (by omega), if_neg (by omega)]
  have := h.rest k h1 h2 (by omega)
  rw [h3] at this; exact this
theorem Fall.done_ {m : Nat} {L : List Int} {i : Nat} (h : Fall m L i) (hs : m ≤ 2 * i + 1 ∨ L.getD i 0 ≤ L.getD (kid L i m) 0) : HP m L := by
 intro k h1 h2
 by_cases hp : (k - 1) / 2 = i
 ·rcases hs with hs | hs
  ·omega
  ·have := kid_min (L := L) h1 h2 hp
   rw [hp]; omega
 ·exact h.rest k h1 h2 hp
theorem downL_ok {m : Nat} : ∀ (d i : Nat) {L : List Int}, m - i = d → Fall m L i → m ≤ L.length → HP m (downL L i m) ∧ (downL L i m).Perm L ∧ ∀ k, m ≤ k → (downL L i m).getD k 0 = L.getD k 0 := by
 intro d
 induction d using Nat.strongRecOn with
 | _ d ih =>
  intro i L hd h hm
  by_cases h0 : m ≤ 2 * i + 1
  ·rw [downL_end h0]; exact ⟨h.done_ (.inl h0), List.Perm.refl _, fun _ _ => rfl⟩
  ·by_cases hl : L.getD (kid L i m) 0 < L.getD i 0
   ·rw [downL_yes (by omega) hl]
    have hk := kid_or L i m
    have h1 := ih (m - kid L i m) (by omega) (kid L i m) rfl (h.swap (by omega) hm hl) (by simpa using hm)
    refine ⟨h1.1, h1.2.1.trans (sw_perm (by omega) (by omega)), fun k hk2 => ?_⟩
    rw [h1.2.2 k hk2, sw_get (by omega) (by omega), if_neg (by omega), if_neg (by omega)]
   ·rw [downL_no hl]; exact ⟨h.done_ (.inr (by omega)), List.Perm.refl _, fun _ _ => rfl⟩
theorem downL_len {m : Nat} : ∀ (d i : Nat) {L : List Int}, m - i = d → (downL L i m).length = L.length := by
 intro d
 induction d using Nat.strongRecOn with
 | _ d ih =>
  intro i L hd
  by_cases h0 : m ≤ 2 * i + 1
  ·rw [downL_end h0]
  ·by_cases hl : L.getD (kid L i m) 0 < L.getD i 0
   ·rw [downL_yes (by omega) hl]
    have hk := kid_or L i m
    rw [ih (m - kid L i m) (by omega) (kid L i m) rfl, sw_len]
   ·rw [downL_no hl]
def hpush (L : List Int) (v : Int) : List Int := upL (L ++ [v]) L.length
def hpop (L : List Int) : List Int := (downL (sw L 0 (L.length - 1)) 0 (L.length - 1)).take (L.length - 1)
theorem hpush_ok {L : List Int} {v : Int} (h : HP L.length L) : HP (L.length + 1) (hpush L v) ∧ (hpush L v).Perm (L ++ [v]) := by
 refine upL_ok L.length ⟨fun k h1 h2 h3 => ?_, fun k h1 h2 h3 _ => by omega⟩ (by omega) (by simp)
 have e1 : (L ++ [v]).getD k 0 = L.getD k 0 := by simp [List.getD_eq_getElem?_getD, List.getElem?_append_left (show k < L.length by omega)]
 have e2 : (L ++ [v]).getD ((k - 1) / 2) 0 = L.getD ((k - 1) / 2) 0 := by simp [List.getD_eq_getElem?_getD, List.getElem?_append_left (show (k - 1) / 2 < L.length by omega)]
 rw [e1, e2]; exact h k h1 (by omega)
theorem hpush_len {L : List Int} {v : Int} (h : HP L.length L) : (hpush L v).length = L.length + 1 := by
 have := (hpush_ok (v := v) h).2.length_eq; simpa using this
theorem hpop_ok {L : List Int} (h : HP L.length L) (h0 : 0 < L.length) : HP (L.length - 1) (hpop L) ∧ (hpop L).length = L.length - 1 ∧ L.Perm (L.getD 0 0 :: hpop L) ∧ (downL (sw L 0 (L.length - 1)) 0 (L.length - 1)).getD (L.length - 1) 0 = L.getD 0 0 := by
 have g := sw_get (L := L) (i := 0) (j := L.length - 1) h0 (by omega)
 have hf : Fall (L.length - 1) (sw L 0 (L.length - 1)) 0 := by
  refine ⟨fun k h1 h2 h3 => ?_, fun k _ _ _ h4 => by omega⟩
  rw [g, g, if_neg (by omega), if_neg h3, if_neg (by omega), if_neg (by omega)]
  exact h k h1 (by omega)
 have hd := downL_ok (L.length - 1 - 0) 0 rfl hf (by simp)
 have hlast : (downL (sw L 0 (L.length - 1)) 0 (L.length - 1)).getD (L.length - 1) 0 = L.getD 0 0 := by
  rw [hd.2.2 _ (Nat.le_refl _), g, if_pos rfl]
 have hlen : (downL (sw L 0 (L.length - 1)) 0 (L.length - 1)).length = L.length := by rw [downL_len _ 0 rfl, sw_len]
 unfold hpop
 generalize downL (sw L 0 (L.length - 1)) 0 (L.length - 1) = D at hd hlast hlen
 refine ⟨fun k h1 h2 => ?_, by simp; omega, ?_, hlast⟩
 ·rw [getD_take _ _ _ _ h2, getD_take _ _ _ _ (by omega)]
  exact hd.1 k h1 h2
 ·have e : D = D.take (L.length - 1) ++ [L.getD 0 0] := by
   conv => lhs; rw [← List.take_append_drop (L.length - 1) D]
   congr 1
   rw [List.drop_eq_getElem_cons (by omega), List.drop_of_length_le (by omega), ← hlast, getD_at _ _ _ (by omega)]
  have h1 := hd.2.1.trans (sw_perm (L := L) (i := 0) (j := L.length - 1) h0 (by omega))
  rw [e] at h1
  exact h1.symm.trans (List.perm_append_singleton _ _)
end Go.Proofs.Ytkbkmngbenohkaa

namespace Go.Proofs.Ytkbkmngbenohkaa
open Go.RowKit

class MthP (P : Program) (t : TypeId) (name : String) (f : outParam FuncId) : Prop where
 out : ∀ (x : Value) (args : Array Value) (w : World), (callMethod (.iface t x) name args).run P w = .ok (.enter f (#[x] ++ args)) w
class MthV (P : Program) (t : TypeId) (name : String) (f e : outParam TypeId) : Prop where
 out : ∀ (ad : Addr) (w : World), (method (P.types.size + Made.depth) t (.pointer (some ad)) name).run P w = ((loadVar e ad).run P w).andThen fun v w' => .ok (f, v) w'
theorem run_wrapChk {P : Program} {t : TypeId} {ad : Addr} {nm : String} {w : World} : (Builtin.ssaWrapNilChk_ #[t] t #[.pointer (some ad), strVal "", strVal nm]).run P w = .ok (.pointer (some ad)) w := rfl
theorem method_V {P : Program} {n : Nat} {t e f : TypeId} {name : String} {i : TypeInfo} {m : Method} {ad : Addr} {w : World} (hi : P.info? t = some i) (hfind : i.methods.find? (·.name == name) = some m) (hpath : m.path = #[]) (hfunc : m.func = some (f, false))
  (hu : P.underlying t = some (.pointer e)) : (method (n + 1) t (.pointer (some ad)) name).run P w = ((loadVar e ad).run P w).andThen fun v w' => .ok (f, v) w' := by
 have h1 : (typeInfo t).run P w = .ok i w := by simp [typeInfo, Sem.run, hi]
 have h2 : (underlying t).run P w = .ok (.pointer e) w := by simp [underlying, Sem.run, hu]
 simp only [method, Sem.run_bind, h1, Result.andThen_ok, hfind, hpath, hfunc, follow, Sem.run_pure, receiverAt, h2, Place.get]
 simp only [Array.isEmpty_empty, if_true, Sem.run_bind, run_wrapChk, Result.andThen_ok, asAddr, Sem.run_pure]
def mthOf (P : Program) (t : TypeId) (name : String) : Option (TypeId × TypeId) :=
 match P.info? t with
 | some i => match i.methods.find? (·.name == name) with
  | some m => match m.path.isEmpty, m.func, P.underlying t with
   | true, some (f, false), some (.pointer e) => some (f, e)
   | _, _, _ => none
  | none => none
 | none => none
theorem MthV.of {P : Program} {t e f : TypeId} {name : String} (h : mthOf P t name = some (f, e)) : MthV P t name f e := by
 refine ⟨fun ad w => ?_⟩
 obtain ⟨n, hn⟩ : ∃ n, P.types.size + Made.depth = n + 1 := ⟨_, rfl⟩
 rw [hn]
 unfold mthOf at h
 split at h
 ·rename_i i hi
  split at h
  ·rename_i m hm
   split at h
   ·rename_i f' e' hp hf hu
    cases h
    exact method_V hi hm (by simpa using hp) hf hu
   ·cases h
  ·cases h
 ·cases h
theorem run_callMethod {P : Program} {t : TypeId} {x : Value} {name : String} {args : Array Value} {w : World} : (callMethod (.iface t x) name args).run P w = ((method (P.types.size + Made.depth) t x name).run P w).andThen fun p w' => (callFunc p.1 (#[p.2] ++ args)).run P w' := by
 simp only [callMethod, Sem.run_bind]
 show (Result.ok P w).andThen _ = _
 rw [Result.andThen_ok]
theorem run_inv {P : Program} {o : Oper} {ρ : Operand → Value} {x : Operand} {name : String} {xs : Array Operand} {ats : Array TypeId} (ho : o.op = .call { callee := .invoke x name, args := xs, argTypes := ats }) (w : World) :
  (execOp ρ o).run P w = (callMethod (ρ x) name (xs.map ρ)).run P w := by
 have e1 : (#[ρ x] ++ xs.map ρ)[0]? = some (ρ x) := by rw [Array.getElem?_append_left (by simp)]; rfl
 have e2 : (#[ρ x] ++ xs.map ρ).extract 1 (#[ρ x] ++ xs.map ρ).size = xs.map ρ := by
  apply Array.ext'
  simp
  exact List.take_of_length_le (by simp)
 simp only [execOp, ho, resolve, Sem.run_bind, Sem.run_pure, Result.andThen_ok, invoke, e1, e2]
section
variable {P : Program} {σ : St} {o : Oper} {t : TypeId} {name : String} {f : FuncId} {x : Operand} {xs : Array Operand} {ats : Array TypeId}
theorem avs_get {K : Ctx} {ι : Oid → Option Blk} {S : Nat → Prop} {a : Act} {w : World} (R : RelI K ι S σ a w) {v : AV} {u : Value} (hu : Rep ι S w v u) (xs : Array Operand) :
  (#[u] ++ xs.map a.eval).size = (v :: xs.toList.map σ.eval).length ∧ ∀ (j : Nat) (y : AV), (v :: xs.toList.map σ.eval)[j]? = some y → Rep ι S w y ((#[u] ++ xs.map a.eval).getD j undef) := by
 refine ⟨by simp; omega, fun j y hy => ?_⟩
 cases j with
 | zero =>
  simp at hy
  subst hy
  have : (#[u] ++ xs.map a.eval).getD 0 undef = u := by rw [Array.getD_eq_getD_getElem?, Array.getElem?_append_left (by simp)]; rfl
  rw [this]; exact hu
 | succ j =>
  rw [List.getElem?_cons_succ, List.getElem?_map] at hy
  obtain ⟨z, hz, rfl⟩ := Option.map_eq_some_iff.1 hy
  have hz' : xs[j]? = some z := by simpa using hz
  have : (#[u] ++ xs.map a.eval).getD (j + 1) undef = a.eval z := by
   rw [Array.getD_eq_getD_getElem?, Array.getElem?_append_right (by simp)]
   simp [hz']
  rw [this]; exact R.eval z
theorem EntersAt.invP (M : MthP P t name f) (ho : o.op = .call { callee := .invoke x name, args := xs, argTypes := ats }) {v : AV} (hx : σ.eval x = .ifc t v) : EntersAt P o σ f (v :: xs.toList.map σ.eval) := by
 intro K ι S a w R
 have h1 := R.eval x
 rw [hx] at h1
 generalize hy : a.eval x = y at h1
 cases h1 with
 | ifc hu =>
  rename_i u
  have h2 := avs_get R hu xs
  exact ⟨#[u] ++ xs.map a.eval, by rw [run_inv ho w, hy]; exact M.out u _ w, h2.1, h2.2⟩
theorem EntersAt.invV {e : TypeId} {z : List Value} (M : MthV P t name f e) (T : Ty P e false z) (C : Cbl P f) (ho : o.op = .call { callee := .invoke x name, args := xs, argTypes := ats }) {id : Oid} (hx : σ.eval x = .ifc t (.ptr id 0)) {E : TypeId} {v : AV} {vs : List AV}
  (hid : σ.ob id = .obj (.box E (v :: vs))) : EntersAt P o σ f (v :: xs.toList.map σ.eval) := by
 intro K ι S a w R
 have h1 := R.eval x
 rw [hx] at h1
 generalize hy : a.eval x = y at h1
 cases h1 with
 | ifc hu =>
  rename_i u
  obtain ⟨B, g, hB, hg, _, hrow⟩ := R.ob id _ hid
  have hp : u = .pointer (some ⟨g, 0, none⟩) := by
   cases hu with
   | ptr h _ =>
    obtain ⟨g', hg', rfl⟩ := h B hB
    rw [hg] at hg'
    obtain rfl := Option.some.inj hg'
    rfl
  subst hp
  rcases hrow with ⟨h0, _⟩ | ⟨g', cur, hg', hcur, _, _, hcells⟩
  ·rw [hg] at h0; cases h0
  ·rw [hg] at hg'
   obtain rfl := Option.some.inj hg'
   obtain ⟨c, hc1, hc2, hc3⟩ := hcells 0 (by simp)
   have hrep := hc3 v rfl
   have h2 := avs_get R hrep xs
   refine ⟨#[c] ++ xs.map a.eval, ?_, h2.1, h2.2⟩
   rw [run_inv ho w, hy, run_callMethod, M.out, run_loadVar1 (P := P) (t := e) (cell_in hcur hc1), Result.andThen_ok, Result.andThen_ok]
   exact C.out _ w
end
section
variable {P : Program} {σ : St} {dd : Option Tmp} {op : Op} {ty : TypeId} {f : FuncId} {avs : List AV}
theorem op_callBHE (hE : ∀ o : Oper, o.op = op → EntersAt P o σ f avs) {args : List AV} {x : Value} (ha : ArgsLv σ (fun _ => true) avs args) (sp : Spec P f (inSt args []) (outSt (.v x) []))
  (hp : AV.pures args = true) : Stp P dd op ty σ (σ.put dd (.v x)) := fun o hd ho ht => by subst hd; exact st_callB (hE o ho) sp ha hp
theorem op_callRE (hE : ∀ o : Oper, o.op = op → EntersAt P o σ f avs) (rn : List (Oid × Oid)) {args : List AV} {ins outs : List (Oid × Cells)} {r : AV} {I Pn : List Oid}
  (ha : ArgsR σ rn avs args) (sp : Spec P f (inStI args ins) (outStI r outs I Pn)) (hins : AllLvI (rnOf rn) σ (fun _ => false) (ins.map (·.1)) ins) (hfr : AllFree σ (rnOf rn) (ins.map (·.1)) outs)
  (hb : (AV.withins (ins.map (·.1)) args && obsWithin (ins.map (·.1)) ins && nodupO ((ins.map (·.1)).map (rnOf rn)) && nodupO (ins.map (·.1)) && nodupO ((outs.map (·.1)).map (rnOf rn)) && nodupO (outs.map (·.1)) && keptB (ins.map (·.1)) Pn outs && r.within (outs.map (·.1)) && obsWithin (outs.map (·.1)) outs) = true) :
  Stp P dd op ty σ ((σ.after (rnOf rn) outs (ins.map (·.1)) I).put dd (r.ren (rnOf rn))) := by
 intro o hd ho ht
 subst hd
 simp only [Bool.and_eq_true] at hb
 obtain ⟨⟨⟨⟨⟨⟨⟨⟨h1, h2⟩, h3⟩, h4⟩, h5⟩, h6⟩, h7⟩, h8⟩, h9⟩ := hb
 exact st_callR (hE o ho) rn ha h1 h2 hins h3 h4 h5 h6 hfr h7 h8 h9 sp
theorem op_mkI {t : TypeId} {d : TypeDesc} (x : Operand) (hu : P.underlying t = some d) (hd : (match d with | .interface _ => false | _ => true) = true) {v : AV} (hx : σ.eval x = v) : Stp P dd (.makeInterface t x) ty σ (σ.put dd (.ifc t v)) := by
 intro o h1 h2 h3
 subst h1; subst hx
 intro K ι S a w R
 have hr : (execOp a.eval o).run P w = .ok (.value (.iface t (a.eval x))) w := by
  simp only [execOp, h2, Instr.makeInterface, Sem.run_bind, Sem.run_pure]
  have hu' : (underlying t).run P w = .ok d w := by simp [underlying, Sem.run, hu]
  rw [hu']
  cases d <;> first | rfl | cases hd
 exact yields_value hr ⟨ι, S, R.put o.dst (.ifc (R.eval x)) fun i h => by cases h with | ifc h => exact R.evalHas x h⟩
theorem op_tA {t s : TypeId} {d : TypeDesc} (x : Operand) (hu : P.underlying t = some d) (hd : (match d with | .interface _ => false | _ => true) = true) {v : AV} (hx : σ.eval x = .ifc t v) : Stp P dd (.typeAssert x s t false) ty σ (σ.put dd v) := by
 intro o h1 h2 h3
 subst h1
 intro K ι S a w R
 have hv := R.eval x
 have hH : ∀ {i : Oid}, Has i v → σ.ob i ≠ .free := fun {i} h => R.evalHas x (by rw [hx]; exact .ifc h)
 rw [hx] at hv
 generalize hy : a.eval x = y at hv
 cases hv with
 | ifc hu' =>
  rename_i u
  have hr : (execOp a.eval o).run P w = .ok (.value u) w := by
   simp only [execOp, h2, hy, Instr.typeAssert, Sem.run_bind, Sem.run_pure]
   have hu2 : (underlying t).run P w = .ok d w := by simp [underlying, Sem.run, hu]
   rw [hu2]
   cases d <;> first | (simp [Sem.run_bind, Sem.run_pure]; done) | cases hd
  exact yields_value hr ⟨ι, S, R.put o.dst hu' fun i h => hH h⟩
theorem op_ixStr {t : TypeId} (x y : Operand) (hu : P.underlying t = some .string) {s : ByteArray} (hx : σ.eval x = .v (.string s)) {k : IntKind} {I : Int} (hy : σ.eval y = .v (.int k I)) (j : Nat) (hI : I = (j : Int)) {b : UInt8} (hb : s[j]? = some b) :
  Stp P dd (.index t x y) ty σ (σ.put dd (.v (.int .u8 (b.toNat : Int)))) := by
 intro o h1 h2 h3
 subst h1; subst hI
 intro K ι S a w R
 have e1 := Rep.evV R hx
 have e2 := Rep.evV R hy
 have hr : (execOp a.eval o).run P w = .ok (.value (.int .u8 (b.toNat : Int))) w := by
  have hu' : (underlying t).run P w = .ok .string w := by simp [underlying, Sem.run, hu]
  simp only [execOp, h2, e1, e2, Instr.index, asIntOf, Sem.run_bind, Sem.run_pure, Result.andThen_ok, hu', Int.toNat_natCast, hb]
  rw [if_pos (Int.natCast_nonneg j)]
  simp [hb]
 exact yields_value hr ⟨ι, S, R.put o.dst .v fun i h => by cases h⟩
theorem op_ixStrN {t : TypeId} (x y : Operand) (hu : P.underlying t = some .string) {s : ByteArray} (hx : σ.eval x = .v (.string s)) {k : IntKind} {I : Int} (hy : σ.eval y = .v (.int k I)) (j : Nat) (hI : I = (j : Int)) {N : Nat} (hs : Nat.ble N s.size = true) (hj : j < N) :
  Stp P dd (.index t x y) ty σ (σ.put dd (.v (.int .u8 ((s[j]?.getD 0).toNat : Int)))) := by
 have h1 : j < s.size := Nat.lt_of_lt_of_le hj (Nat.le_of_ble_eq_true hs)
 have h2 : s[j]? = some (s[j]?.getD 0) := by rw [getElem?_pos s j h1]; rfl
 exact op_ixStr x y hu hx hy j hI h2
end
theorem after_one {σ : St} {id : Oid} {e : TypeId} {sz : Nat} {ds : List PV} (hi : σ.inc id = false) (I : List Oid) : σ.after (rnOf [((0, 9), id)]) [((0, 9), .row e sz ds)] [(0, 9)] I = σ.setOb id (.obj (.row e sz ds)) := by
 refine St.eq rfl (fun _ => rfl) (fun c => ?_) (funext fun c => ?_) rfl
 ·show (bif oeq c id then Slot.obj (.row e sz ds) else (bif (oeq c id || false) then Slot.gone else σ.ob c)) = (bif oeq c id then Slot.obj (.row e sz ds) else σ.ob c)
  cases oeq c id <;> rfl
 ·show (bif oeq c id then (bif inO (0, 9) I then (σ.inc id || false) else false) else σ.inc c) = σ.inc c
  cases hc : oeq c id with
  | true =>
   rw [oeq_iff.1 hc, hi]
   cases inO (0, 9) I <;> rfl
  | false => rfl
theorem op_callF {P : Program} {σ : St} {dd : Option Tmp} {ty : TypeId} {f : FuncId} {xs : Array Operand} {ats : Array TypeId} (C : Cbl P f) {id : Oid} {e : TypeId} {sz : Nat} {cs ds : List PV} {args : List AV} {r : AV} {I : List Oid} (ha : ArgsR σ [((0, 9), id)] (xs.toList.map σ.eval) args)
  (sp : Spec P f (inStI args [((0, 9), .row e sz cs)]) (outStI r [((0, 9), .row e sz ds)] I [(0, 9)])) (hid : σ.ob id = .obj (.row e sz cs)) (hi : σ.inc id = false) (h1 : AV.withins [(0, 9)] args = true) (h2 : r.within [(0, 9)] = true) :
  Stp P dd (.call { callee := .value (.func f), args := xs, argTypes := ats }) ty σ ((σ.setOb id (.obj (.row e sz ds))).put dd (r.ren (rnOf [((0, 9), id)]))) := by
 rw [← after_one hi I]
 refine op_callR C [((0, 9), id)] ha sp ⟨⟨rfl, ⟨_, hid, .rowE rfl⟩, rfl⟩, trivial⟩ ⟨rfl, trivial⟩ ?_
 show (AV.withins [(0, 9)] args && true && true && true && true && true && true && r.within [(0, 9)] && true) = true
 rw [h1, h2]; rfl
theorem aft_other {j i : Nat} {f : Nat} {s x : Slot} (h : j ≠ i) : (bif inO (f, j) [(f, i)] then Slot.gone else (bif oeq (f, j) (f, i) then s else x)) = x := by
 have : oeq (f, j) (f, i) = false := oeq_ne fun e => h (Prod.mk.inj e).2
 simp only [inO, this, Bool.or_false, cond_false]
theorem Le.incT {σ : St} (id : Oid) (h : σ.ob id = .free) : Le (σ.setInc id true) σ := by
 intro K ι S a w R
 refine ⟨ι, S, R.keeps, R.S0, R.Slt, R.nt, R.df, R.fr, R.cl, R.clo, R.ob, R.dom, R.inj, fun i B g h1 h2 => ?_, R.pin, R.pf⟩
 obtain ⟨h3, h4, h5⟩ := R.sep i B g h1 h2
 refine ⟨h3, h4, fun h6 => h5 ?_⟩
 have h7 : (bif oeq i id then true else σ.inc i) = false := h6
 cases hb : oeq i id with
 | true => rw [hb] at h7; cases h7
 | false => rw [hb] at h7; exact h7
theorem op_apM {P : Program} {σ : St} {z : List Value} {T e : TypeId} {size bytes : Nat} {dd : Option Tmp} {ty : TypeId} (id' : Oid) (s x : Operand) (E : Elem P T e size bytes z) {id : Oid} {n : Nat} {xs : List PV} (hs : σ.eval s = .ref id 0 n) (hid : σ.ob id = .obj (.row e size xs)) (hl : n * size = xs.length) {m : Nat} {news : List PV} (hx : SrcAV σ (σ.eval x) size m news) (hb : (n + m) * bytes ≤ 140737488355328) (hid' : σ.ob id' = .free)
  {b : Bool} (hi : σ.inc id = b) (hi' : σ.inc id' = b) {ys : List PV} (hy : xs ++ news = ys) {k : Nat} (hk : n + m = k) : Stp P dd (.call { callee := .builtin .append, args := #[s, x], argTypes := #[T, T] }) ty σ (((σ.setOb id .gone).setOb id' (.obj (.row e size ys))).put dd (.ref id' 0 k)) := by
 have h := op_ap (P := P) (dd := dd) (ty := ty) id' s x E hs hid hl hx hb hid' hy hk
 rwa [hi, St.setInc_same (by exact hi')] at h
end Go.Proofs.Ytkbkmngbenohkaa

namespace Go.Proofs.Ytkbkmngbenohkaa
open Go.RowKit

theorem isnan_spec (x : Int) : Spec Try.prog 157 (inSt [.v (.int .i64 x)] []) (outSt (.v (.bool false)) []) := by
 refine Spec.ofN Try.func157 rfl Try.ntmps157 rfl ?_
 refine D_seq fun K1 hK1 => ?_
 refine D_region ?_
 refine DL_c (asB rfl) ?_
 refine DL_nil (hK1 _ ?_)
 clear hK1; try clear K1
 refine D_seq fun K2 hK2 => ?_
 refine D_region ?_
 refine DL_c (mvI rfl) ?_
 refine DL_c (mvI rfl) ?_
 refine DL_c (op_neq (r := false) _ _ rfl rfl (by simp)) ?_
 refine DL_c (asB rfl) ?_
 refine DL_nil (hK2 _ ?_)
 clear hK2; try clear K2
 refine D_ret ?_
 refine ret1 (.inr rfl) rfl (.tmp (rfl : _ = AV.v (.bool _))) (Le.out [] [] (lvB ?_) rfl rfl rfl trivial trivial)
 rfl
theorem cmpless_spec (x y : Int) : Spec Try.prog 146 (inSt [.v (.int .i64 x), .v (.int .i64 y)] []) (outSt (.v (.bool (decide (x < y)))) []) := by
 refine Spec.ofN Try.func146 rfl Try.ntmps146 rfl ?_
 refine D_seq fun K1 hK1 => ?_
 refine D_region ?_
 refine DL_c (asB rfl) ?_
 refine DL_nil (hK1 _ ?_)
 clear hK1; try clear K1
 refine D_seq fun K2 hK2 => ?_
 refine D_region ?_
 refine DL_c (mvI rfl) ?_
 refine DL_c (op_callH inferInstance (by repeat' (first | exact argsLv_nil | refine argsLv_cons ?_ ?_ | exact Lv.v)) (isnan_spec x) rfl rfl) ?_
 refine DL_c (mvB rfl) ?_
 refine DL_cn rfl rfl (by decide) ?_
 refine DL_cn rfl rfl (by decide) ?_
 refine DL_cn rfl rfl (by decide) ?_
 refine DL_c (op_pick _ _ _ rfl (rfl : _ = AV.v (.bool _))) ?_
 refine DL_c (mvB rfl) ?_
 refine DL_cy rfl rfl (mvI rfl) ?_
 refine DL_cy rfl rfl (mvI rfl) ?_
 refine DL_cy rfl rfl (op_lss _ _ rfl rfl rfl) ?_
 refine DL_c (op_pick _ _ _ rfl (rfl : _ = AV.v (.bool _))) ?_
 refine DL_c (asB rfl) ?_
 refine DL_nil (hK2 _ ?_)
 clear hK2; try clear K2
 refine D_ret ?_
 refine ret1 (.inr rfl) rfl (.tmp (rfl : _ = AV.v (.bool _))) (Le.out [] [] (lvB ?_) rfl rfl rfl trivial trivial)
 rfl
theorem insort_spec (n : Nat) (L : List Int) (hL : L.length = n) (h1 : n ≤ 4611686018427387904) :
  Spec Try.prog 140 (inStI [.ref (0, 9) 0 n, .v (.int .i64 0), .v (.int .i64 (n : Int))] [((0, 9), .row 3 1 (isl L))]) (outStI (.tup []) [((0, 9), .row 3 1 (isl (srt L)))] [(0, 9)] [(0, 9)]) := by
 refine Spec.ofNI Try.func140 rfl Try.ntmps140 rfl ?_
 refine D_seq fun K1 hK1 => ?_
 refine D_region ?_
 refine DL_c (mvI rfl) ?_
 refine DL_c (op_add _ _ rfl rfl (i64w (by omega))) ?_
 refine DL_c (asI rfl) ?_
 refine DL_nil (hK1 _ ?_)
 clear hK1; try clear K1
 refine D_block ?_
 refine D_loopL (α := Nat × List Int) (fun z => 1 ≤ z.1 ∧ z.2.Perm L ∧ Upto z.2 z.1) 49 [(0, _), (1, _), (2, _)] [] (fun z => [(6, .v (.int .i64 (z.1 : Int)))]) (fun z => [((0, 9), .row 3 1 (isl z.2))]) [(0, 9)] [(0, 9)] (fun z => n - z.1) (1, L) ?_ (by
  refine Le.mkJ [] [] rfl ?_ ?_ trivial ⟨rfl, trivial⟩ ?_
  ·exact ⟨(iR rfl), (iV rfl), (iV rfl), (lvI (by rfl)), trivial⟩
  ·exact ⟨(obR rfl rfl rfl (by rfl)), trivial⟩
  ·kernel_rfl) ?_
 ·exact ⟨Nat.le_refl _, List.Perm.refl _, fun p q h1 h2 => by omega⟩
 intro z hz
 obtain ⟨hz1, hzp, hzu⟩ := hz
 have hzl := hzp.length_eq
 refine D_seq fun K2 hK2 => ?_
 refine D_seq fun K3 hK3 => ?_
 refine D_region ?_
 refine DL_c (mvI rfl) ?_
 refine DL_c (mvI rfl) ?_
 refine DL_c (op_lss _ _ rfl rfl rfl) ?_
 refine DL_nil (hK3 _ ?_)
 clear hK3; try clear K3
 refine D_splitC rfl (fun hc12 => ?_) (fun hc12 => ?_)
 ·skip
  refine D_skip (hK2 _ ?_)
  clear hK2; try clear K2
  refine D_seq fun K4 hK4 => ?_
  refine D_block ?_
  refine D_seq fun K5 hK5 => ?_
  refine D_region ?_
  refine DL_c (mvI rfl) ?_
  refine DL_c (asI rfl) ?_
  refine DL_nil (hK5 _ ?_)
  clear hK5; try clear K5
  refine D_block ?_
  refine D_loopL (α := Nat × List Int) (fun y => y.1 ≤ z.1 ∧ y.2.Perm L ∧ Sink y.2 z.1 y.1) 49 [(0, _), (1, _), (2, _), (6, _)] [] (fun y => [(7, .v (.int .i64 (y.1 : Int)))]) (fun y => [((0, 9), .row 3 1 (isl y.2))]) [(0, 9)] [(0, 9)] (fun y => y.1) (z.1, z.2) ?_ (by
   refine Le.mkJ [] [] rfl ?_ ?_ trivial ⟨rfl, trivial⟩ ?_
   ·exact ⟨(iR rfl), (iV rfl), (iV rfl), (iV rfl), (lvI (by rfl)), trivial⟩
   ·exact ⟨(obR rfl rfl rfl (by rfl)), trivial⟩
   ·kernel_rfl) ?_
  ·exact ⟨Nat.le_refl _, hzp, .start hzu⟩
  intro y hy
  obtain ⟨hy1, hyp, hys⟩ := hy
  have hyl := hyp.length_eq
  refine D_seq fun K6 hK6 => ?_
  refine D_seq fun K7 hK7 => ?_
  refine D_anyL 15 [16, 17, 18, 19, 20, 21, 22, 23, 24, 25, 26, 27, 28, 29, 30] [] (by kernel_rfl) (by kernel_rfl) rfl (nodupO_iff rfl) (rfl : _ = [_, _, _, _, _, _, _, _, _, _, _, _, _, _, _]) (rfl : _ = []) ?_
  refine any_c (_, []) (fun τ => op_mv _ (rfl : _ = AV.v (.int _ _))) ?_
  refine any_n (rfl : _ = [_]) ?_
  refine any_c (_, []) (fun τ => op_mv _ (rfl : _ = AV.v (.int _ _))) ?_
  refine any_n (rfl : _ = [_, _]) ?_
  refine any_c (_, []) (fun τ => op_gtr _ _ rfl rfl rfl) ?_
  refine any_n (rfl : _ = [_, _, _]) ?_
  refine any_c (_, []) (fun τ => op_mv _ (rfl : _ = AV.v (.bool _))) ?_
  refine any_caseC (fun hg19 => ?_) (fun hg19 => ?_)
  ·skip
   refine any_n (rfl : _ = [_, _, _, _]) ?_
   refine any_cy (_, []) rfl (fun τ => rfl) (fun τ => op_mv _ (rfl : _ = AV.ref _ _ _)) ?_
   refine any_n (rfl : _ = [_, _, _, _, _]) ?_
   refine any_cy (_, []) rfl (fun τ => rfl) (fun τ => op_mv _ (rfl : _ = AV.v (.int _ _))) ?_
   refine any_n (rfl : _ = [_, _, _, _, _, _]) ?_
   refine any_cy (_, []) rfl (fun τ => rfl) (fun τ => op_ixR _ _ inferInstance rfl rfl rfl y.1 rfl (by omega) (by exact (Nat.zero_add _).trans (Nat.mul_one _))) ?_
   refine any_n (rfl : _ = [_, _, _, _, _, _, _]) ?_
   refine any_cy (_, []) rfl (fun τ => rfl) (fun τ => op_ldR _ inferInstance rfl rfl (by exact isl_get _ _ (by omega)) rfl) ?_
   refine any_n (rfl : _ = [_, _, _, _, _, _, _, _]) ?_
   refine any_cy (_, []) rfl (fun τ => rfl) (fun τ => op_mv _ (rfl : _ = AV.ref _ _ _)) ?_
   refine any_n (rfl : _ = [_, _, _, _, _, _, _, _, _]) ?_
   refine any_cy (_, []) rfl (fun τ => rfl) (fun τ => op_mv _ (rfl : _ = AV.v (.int _ _))) ?_
   refine any_n (rfl : _ = [_, _, _, _, _, _, _, _, _, _]) ?_
   refine any_cy (_, []) rfl (fun τ => rfl) (fun τ => op_sub _ _ rfl rfl (i64w (by omega))) ?_
   refine any_n (rfl : _ = [_, _, _, _, _, _, _, _, _, _, _]) ?_
   refine any_cy (_, []) rfl (fun τ => rfl) (fun τ => op_ixR _ _ inferInstance rfl rfl rfl (y.1 - 1) (by omega) (by omega) (by exact (Nat.zero_add _).trans (Nat.mul_one _))) ?_
   refine any_n (rfl : _ = [_, _, _, _, _, _, _, _, _, _, _, _]) ?_
   refine any_cy (_, []) rfl (fun τ => rfl) (fun τ => op_ldR _ inferInstance rfl rfl (by exact isl_get _ _ (by omega)) rfl) ?_
   refine any_n (rfl : _ = [_, _, _, _, _, _, _, _, _, _, _, _, _]) ?_
   refine any_cy (_, []) rfl (fun τ => rfl) (fun τ => (op_callH inferInstance (by repeat' (first | exact argsLv_nil | refine argsLv_cons ?_ ?_ | exact Lv.v)) (cmpless_spec (y.2.getD y.1 0) (y.2.getD (y.1 - 1) 0)) rfl rfl)) ?_
   refine any_n (rfl : _ = [_, _, _, _, _, _, _, _, _, _, _, _, _, _]) ?_
   refine any_c (_, []) (fun τ => op_pick _ _ _ rfl (rfl : _ = AV.v (.bool _))) ?_
   refine any_n (rfl : _ = [_, _, _, _, _, _, _, _, _, _, _, _, _, _, _]) ?_
   refine any_end ⟨rfl, ?_⟩
   refine DL_nil (hK7 _ ?_)
   clear hK7; try clear K7
   refine D_splitC rfl (fun hc30 => ?_) (fun hc30 => ?_)
   ·skip
    have hsk := hys.swap (by omega) hy1 (by omega) hc30
    have hsp := (sw_perm (L := y.2) (i := y.1) (j := y.1 - 1) (by omega) (by omega)).trans hyp
    refine D_skip (hK6 _ ?_)
    clear hK6; try clear K6
    refine D_seq fun K8 hK8 => ?_
    refine D_block ?_
    refine D_le (σ' := mkStI 49 [(0, _), (1, _), (2, _), (6, _), (7, _)] [((0, 9), _)] [(0, 9)] [(0, 9)]) (by
     refine Le.mkJ [] [] rfl ?_ ?_ trivial ⟨rfl, trivial⟩ ?_
     ·exact ⟨(iR rfl), (iV rfl), (iV rfl), (iV rfl), (iV rfl), trivial⟩
     ·exact ⟨(obE rfl rfl rfl), trivial⟩
     ·kernel_rfl) ?_
    refine D_anyA 17 [33, 34, 35, 36, 37, 38, 39, 40, 41, 42, 43, 44, 45, 46, 47, 48] [(0, 9)] [[(0, 9)], [(0, 9)], [], [], [], [(0, 9)], [(0, 9)], [(0, 9)], [(0, 9)], [(0, 9)], [], [], [(0, 9)], [(0, 9)], [(0, 9)], [], []] (by kernel_rfl) (by kernel_rfl) rfl (nodupO_iff rfl) (rfl : _ = [_, _, _, _, _, _, _, _, _, _, _, _, _, _, _, _, _]) (rfl : _ = [_]) ?_
    refine any_c (_, []) (fun τ => op_mv _ (rfl : _ = AV.ref _ _ _)) ?_
    refine any_n (rfl : _ = [_]) ?_
    refine any_c (_, []) (fun τ => op_mv _ (rfl : _ = AV.v (.int _ _))) ?_
    refine any_n (rfl : _ = [_, _]) ?_
    refine any_c (_, []) (fun τ => op_mv _ (rfl : _ = AV.ref _ _ _)) ?_
    refine any_n (rfl : _ = [_, _, _]) ?_
    refine any_c (_, []) (fun τ => op_mv _ (rfl : _ = AV.v (.int _ _))) ?_
    refine any_n (rfl : _ = [_, _, _, _]) ?_
    refine any_c (_, []) (fun τ => op_sub _ _ rfl rfl (i64w (by omega))) ?_
    refine any_n (rfl : _ = [_, _, _, _, _]) ?_
    refine any_c (_, []) (fun τ => op_mv _ (rfl : _ = AV.ref _ _ _)) ?_
    refine any_n (rfl : _ = [_, _, _, _, _, _]) ?_
    refine any_c (_, []) (fun τ => op_mv _ (rfl : _ = AV.v (.int _ _))) ?_
    refine any_n (rfl : _ = [_, _, _, _, _, _, _]) ?_
    refine any_c (_, []) (fun τ => op_sub _ _ rfl rfl (i64w (by omega))) ?_
    refine any_n (rfl : _ = [_, _, _, _, _, _, _, _]) ?_
    refine any_c (_, []) (fun τ => op_ixR _ _ inferInstance rfl rfl rfl (y.1 - 1) (by omega) (by omega) (by exact (Nat.zero_add _).trans (Nat.mul_one _))) ?_
    refine any_n (rfl : _ = [_, _, _, _, _, _, _, _, _]) ?_
    refine any_c (_, []) (fun τ => op_ldR _ inferInstance rfl rfl (by exact isl_get _ _ (by omega)) rfl) ?_
    refine any_n (rfl : _ = [_, _, _, _, _, _, _, _, _, _]) ?_
    refine any_c (_, []) (fun τ => op_mv _ (rfl : _ = AV.ref _ _ _)) ?_
    refine any_n (rfl : _ = [_, _, _, _, _, _, _, _, _, _, _]) ?_
    refine any_c (_, []) (fun τ => op_mv _ (rfl : _ = AV.v (.int _ _))) ?_
    refine any_n (rfl : _ = [_, _, _, _, _, _, _, _, _, _, _, _]) ?_
    refine any_c (_, []) (fun τ => op_ixR _ _ inferInstance rfl rfl rfl y.1 rfl (by omega) (by exact (Nat.zero_add _).trans (Nat.mul_one _))) ?_
    refine any_n (rfl : _ = [_, _, _, _, _, _, _, _, _, _, _, _, _]) ?_
    refine any_c (_, []) (fun τ => op_ldR _ inferInstance rfl rfl (by exact isl_get _ _ (by omega)) rfl) ?_
    refine any_n (rfl : _ = [_, _, _, _, _, _, _, _, _, _, _, _, _, _]) ?_
    refine any_c (_, []) (fun τ => op_ixR _ _ inferInstance rfl rfl rfl y.1 rfl (by omega) (by exact (Nat.zero_add _).trans (Nat.mul_one _))) ?_
    refine any_n (rfl : _ = [_, _, _, _, _, _, _, _, _, _, _, _, _, _, _]) ?_
    refine any_c (_, [((0, 9), _)]) (fun τ => op_stR _ _ inferInstance rfl (mix_own rfl (by exact inO_head) rfl) rfl rfl rfl (by simp; omega) (isl_put _ _ _ (by omega))) ?_
    refine any_n (rfl : _ = [_, _, _, _, _, _, _, _, _, _, _, _, _, _, _, _]) ?_
    refine any_c (_, []) (fun τ => op_ixR _ _ inferInstance rfl rfl rfl (y.1 - 1) (by omega) (by omega) (by exact (Nat.zero_add _).trans (Nat.mul_one _))) ?_
    refine any_n (rfl : _ = [_, _, _, _, _, _, _, _, _, _, _, _, _, _, _, _, _]) ?_
    refine any_end ⟨⟨rfl, by kernel_rfl⟩, ?_⟩
    refine DL_c (op_stR _ _ inferInstance rfl rfl rfl rfl rfl (by simp; omega) (isl_put _ _ _ (by simp; omega))) ?_
    refine DL_nil (hK8 _ ?_)
    clear hK8; try clear K8
    refine D_le (σ' := mkStI 49 [(0, _), (1, _), (2, _), (6, _), (7, _)] [((0, 9), _)] [(0, 9)] [(0, 9)]) (by
     refine Le.mkJ [] [] rfl ?_ ?_ trivial ⟨rfl, trivial⟩ ?_
     ·exact ⟨(iR rfl), (iV rfl), (iV rfl), (iV rfl), (iV rfl), trivial⟩
     ·exact ⟨(obE rfl rfl rfl), trivial⟩
     ·kernel_rfl) ?_
    refine D_region ?_
    refine DL_c (mvI rfl) ?_
    refine DL_c (op_sub _ _ rfl rfl (i64w (by omega))) ?_
    refine DL_c (asI rfl) ?_
    refine DL_nil ?_
    refine ⟨(y.1 - 1, sw y.2 y.1 (y.1 - 1)), ?_, ?_, ?_⟩
    ·exact ⟨by simp only; omega, hsp, hsk⟩
    ·skip
     refine Le.mkJ [] [] rfl ?_ ?_ trivial ⟨rfl, trivial⟩ ?_
     ·exact ⟨(iR rfl), (iV rfl), (iV rfl), (iV rfl), (lvI (by omega)), trivial⟩
     ·exact ⟨(obR rfl rfl rfl (by rfl)), trivial⟩
     ·kernel_rfl
    ·simp only; omega
   ·skip
    have hup : Upto y.2 (z.1 + 1) := hys.stop hy1 (.inr (by omega))
    refine D_exit ?_
    refine id (hK4 _ ?_)
    clear hK4; try clear K4
    refine D_le (σ' := mkStI 49 [(0, _), (1, _), (2, _), (6, _)] [((0, 9), _)] [(0, 9)] [(0, 9)]) (by
     refine Le.mkJ [] [] rfl ?_ ?_ trivial ⟨rfl, trivial⟩ ?_
     ·exact ⟨(iR rfl), (iV rfl), (iV rfl), (iV rfl), trivial⟩
     ·exact ⟨(obE rfl rfl rfl), trivial⟩
     ·kernel_rfl) ?_
    refine D_region ?_
    refine DL_c (mvI rfl) ?_
    refine DL_c (op_add _ _ rfl rfl (i64w (by omega))) ?_
    refine DL_c (asI rfl) ?_
    refine DL_nil ?_
    refine ⟨(z.1 + 1, y.2), ?_, ?_, ?_⟩
    ·exact ⟨by simp only; omega, hyp, hup⟩
    ·skip
     refine Le.mkJ [] [] rfl ?_ ?_ trivial ⟨rfl, trivial⟩ ?_
     ·exact ⟨(iR rfl), (iV rfl), (iV rfl), (lvI (by rfl)), trivial⟩
     ·exact ⟨(obR rfl rfl rfl (by rfl)), trivial⟩
     ·kernel_rfl
    ·simp only; omega
  ·skip
   have hup : Upto y.2 (z.1 + 1) := hys.stop hy1 (.inl (by omega))
   refine any_n (rfl : _ = [_, _, _, _]) ?_
   refine any_cn rfl (fun τ => rfl) (by decide) ?_
   refine any_n (rfl : _ = [_, _, _, _, _]) ?_
   refine any_cn rfl (fun τ => rfl) (by decide) ?_
   refine any_n (rfl : _ = [_, _, _, _, _, _]) ?_
   refine any_cn rfl (fun τ => rfl) (by decide) ?_
   refine any_n (rfl : _ = [_, _, _, _, _, _, _]) ?_
   refine any_cn rfl (fun τ => rfl) (by decide) ?_
   refine any_n (rfl : _ = [_, _, _, _, _, _, _, _]) ?_
   refine any_cn rfl (fun τ => rfl) (by decide) ?_
   refine any_n (rfl : _ = [_, _, _, _, _, _, _, _, _]) ?_
   refine any_cn rfl (fun τ => rfl) (by decide) ?_
   refine any_n (rfl : _ = [_, _, _, _, _, _, _, _, _, _]) ?_
   refine any_cn rfl (fun τ => rfl) (by decide) ?_
   refine any_n (rfl : _ = [_, _, _, _, _, _, _, _, _, _, _]) ?_
   refine any_cn rfl (fun τ => rfl) (by decide) ?_
   refine any_n (rfl : _ = [_, _, _, _, _, _, _, _, _, _, _, _]) ?_
   refine any_cn rfl (fun τ => rfl) (by decide) ?_
   refine any_n (rfl : _ = [_, _, _, _, _, _, _, _, _, _, _, _, _]) ?_
   refine any_cn rfl (fun τ => rfl) (by decide) ?_
   refine any_n (rfl : _ = [_, _, _, _, _, _, _, _, _, _, _, _, _, _]) ?_
   refine any_c (_, []) (fun τ => op_pick _ _ _ rfl (rfl : _ = AV.v (.bool _))) ?_
   refine any_n (rfl : _ = [_, _, _, _, _, _, _, _, _, _, _, _, _, _, _]) ?_
   refine any_end ⟨rfl, ?_⟩
   refine DL_nil (hK7 _ ?_)
   clear hK7; try clear K7
   refine D_cF rfl rfl ?_
   refine D_exit ?_
   refine id (hK4 _ ?_)
   clear hK4; try clear K4
   refine D_le (σ' := mkStI 49 [(0, _), (1, _), (2, _), (6, _)] [((0, 9), _)] [(0, 9)] [(0, 9)]) (by
    refine Le.mkJ [] [] rfl ?_ ?_ trivial ⟨rfl, trivial⟩ ?_
    ·exact ⟨(iR rfl), (iV rfl), (iV rfl), (iV rfl), trivial⟩
    ·exact ⟨(obE rfl rfl rfl), trivial⟩
    ·kernel_rfl) ?_
   refine D_region ?_
   refine DL_c (mvI rfl) ?_
   refine DL_c (op_add _ _ rfl rfl (i64w (by omega))) ?_
   refine DL_c (asI rfl) ?_
   refine DL_nil ?_
   refine ⟨(z.1 + 1, y.2), ?_, ?_, ?_⟩
   ·exact ⟨by simp only; omega, hyp, hup⟩
   ·skip
    refine Le.mkJ [] [] rfl ?_ ?_ trivial ⟨rfl, trivial⟩ ?_
    ·exact ⟨(iR rfl), (iV rfl), (iV rfl), (lvI (by rfl)), trivial⟩
    ·exact ⟨(obR rfl rfl rfl (by rfl)), trivial⟩
    ·kernel_rfl
   ·simp only; omega
 ·skip
  have hfin : z.2 = srt L := srt_of hzp (upto_all (by intro p q h1 h2; exact hzu p q h1 (by omega)))
  refine D_exit ?_
  refine id ?_
  exact ret0 (.inl rfl) rfl (Le.outI [] [] (.tup rfl lv_nil) rfl rfl rfl trivial ⟨⟨rfl, ⟨_, rfl, .rowE (by rw [hfin])⟩, rfl⟩, trivial⟩ ⟨rfl, trivial⟩ rfl)
theorem pdq_spec (n : Nat) (hn : n ≤ 12) (L : List Int) (hL : L.length = n) (r : Int) :
  Spec Try.prog 137 (inStI [.ref (0, 9) 0 n, .v (.int .i64 0), .v (.int .i64 (n : Int)), .v (.int .i64 r)] [((0, 9), .row 3 1 (isl L))]) (outStI (.tup []) [((0, 9), .row 3 1 (isl (srt L)))] [(0, 9)] [(0, 9)]) := by
 refine Spec.ofNI Try.func137 rfl Try.ntmps137 rfl ?_
 refine D_seq fun K1 hK1 => ?_
 refine D_region ?_
 refine DL_c (asB rfl) ?_
 refine DL_nil (hK1 _ ?_)
 clear hK1; try clear K1
 refine D_seq fun K2 hK2 => ?_
 refine D_region ?_
 refine DL_c (asB rfl) ?_
 refine DL_nil (hK2 _ ?_)
 clear hK2; try clear K2
 refine D_block ?_
 refine D_loopL (α := Nat) (fun k => k = 0) 134 [(0, _), (1, _), (2, _), (3, _), (8, _), (9, _)] [((0, 9), _)] (fun k => []) (fun k => []) [(0, 9)] [(0, 9)] (fun k => k) 0 ?_ (by
  refine Le.mkJ [] [] rfl ?_ ?_ trivial ⟨rfl, trivial⟩ ?_
  ·exact ⟨(iR rfl), (iV rfl), (iV rfl), (iV rfl), (iV rfl), (iV rfl), trivial⟩
  ·exact ⟨(obE rfl rfl rfl), trivial⟩
  ·kernel_rfl) ?_
 ·rfl
 intro k hk
 refine D_block ?_
 refine D_seq fun K3 hK3 => ?_
 refine D_region ?_
 refine DL_c (mvI rfl) ?_
 refine DL_c (mvI rfl) ?_
 refine DL_c (op_sub _ _ rfl rfl (i64w (by omega))) ?_
 refine DL_c (asI rfl) ?_
 refine DL_nil (hK3 _ ?_)
 clear hK3; try clear K3
 refine D_seq fun K4 hK4 => ?_
 refine D_seq fun K5 hK5 => ?_
 refine D_region ?_
 refine DL_c (mvI rfl) ?_
 refine DL_c (op_leq _ _ rfl rfl rfl) ?_
 refine DL_nil (hK5 _ ?_)
 clear hK5; try clear K5
 refine D_cT rfl (decide_eq_true (by omega)) ?_
 refine D_seq fun K6 hK6 => ?_
 refine D_region ?_
 refine DL_c (mvR rfl) ?_
 refine DL_c (mvI rfl) ?_
 refine DL_c (mvI rfl) ?_
 refine DL_c (op_callR inferInstance [] ?_ (insort_spec n L hL (by omega)) ⟨⟨rfl, ⟨_, rfl, .rowE rfl⟩, rfl⟩, trivial⟩ ⟨rfl, trivial⟩ (by kernel_rfl)) ?_
 ·repeat' (first | exact argsR_nil | refine argsR_cons ?_ ?_ | exact Lv.v | exact lvRr rfl rfl)
 refine DL_nil (hK6 _ ?_)
 clear hK6; try clear K6
 refine D_ret ?_
 exact ret0 (.inr rfl) rfl (Le.outI [] [] (.tup rfl lv_nil) rfl rfl rfl trivial ⟨⟨rfl, ⟨_, rfl, .rowE rfl⟩, rfl⟩, trivial⟩ ⟨rfl, trivial⟩ rfl)
theorem u8w {n : Int} (h : 0 ≤ n ∧ n < 256) : IntKind.u8.wrap n = n := by simp [IntKind.wrap, IntKind.bits, IntKind.signed]; omega
theorem len64_spec (x : Nat) (hx : x < 256) : ∃ r : Int, Spec Try.prog 150 (inSt [.v (.int .u64 (x : Int))] []) (outSt (.v (.int .i64 r)) []) := by
 apply Exists.intro
 refine Spec.ofN Try.func150 rfl Try.ntmps150 rfl ?_
 refine D_seq fun K1 hK1 => ?_
 refine D_region ?_
 refine DL_c (asI rfl) ?_
 refine DL_nil (hK1 _ ?_)
 clear hK1; try clear K1
 refine D_seq fun K2 hK2 => ?_
 refine D_seq fun K3 hK3 => ?_
 refine D_region ?_
 refine DL_c (mvI rfl) ?_
 refine DL_c (op_geq _ _ rfl rfl rfl) ?_
 refine DL_nil (hK3 _ ?_)
 clear hK3; try clear K3
 refine D_cF rfl (decide_eq_false (by omega)) ?_
 refine D_skip (hK2 _ ?_)
 clear hK2; try clear K2
 refine D_seq fun K4 hK4 => ?_
 refine D_seq fun K5 hK5 => ?_
 refine D_region ?_
 refine DL_c (mvI rfl) ?_
 refine DL_c (op_geq _ _ rfl rfl rfl) ?_
 refine DL_nil (hK5 _ ?_)
 clear hK5; try clear K5
 refine D_cF rfl (decide_eq_false (by omega)) ?_
 refine D_skip (hK4 _ ?_)
 clear hK4; try clear K4
 refine D_seq fun K6 hK6 => ?_
 refine D_seq fun K7 hK7 => ?_
 refine D_region ?_
 refine DL_c (mvI rfl) ?_
 refine DL_c (op_geq _ _ rfl rfl rfl) ?_
 refine DL_nil (hK7 _ ?_)
 clear hK7; try clear K7
 refine D_cF rfl (decide_eq_false (by omega)) ?_
 refine D_skip (hK6 _ ?_)
 clear hK6; try clear K6
 refine D_seq fun K8 hK8 => ?_
 refine D_region ?_
 refine DL_c (mvI rfl) ?_
 refine DL_c (mvI rfl) ?_
 refine DL_c (op_conv _ Try.underlying124 Try.underlying5 rfl (u8w (by omega))) ?_
 refine DL_c (op_ixStrN _ _ Try.underlying9 rfl rfl x rfl (N := 256) (by kernel_rfl) hx) ?_
 refine DL_c (op_conv _ Try.underlying5 Try.underlying3 rfl rfl) ?_
 refine DL_c (op_add _ _ rfl rfl rfl) ?_
 refine DL_c (asI rfl) ?_
 refine DL_nil (hK8 _ ?_)
 clear hK8; try clear K8
 refine D_ret ?_
 exact ret1 (.inr rfl) rfl (.tmp (rfl : _ = AV.v (.int _ _))) (Le.out [] [] (lvI rfl) rfl rfl rfl trivial trivial)
theorem len_spec (x : Nat) (hx : x < 256) : ∃ r : Int, Spec Try.prog 138 (inSt [.v (.int .u64 (x : Int))] []) (outSt (.v (.int .i64 r)) []) := by
 obtain ⟨r, hr⟩ := len64_spec x hx
 refine ⟨r, ?_⟩
 refine Spec.ofN Try.func138 rfl Try.ntmps138 rfl ?_
 refine D_seq fun K1 hK1 => ?_
 refine D_region ?_
 refine DL_c (asI rfl) ?_
 refine DL_nil (hK1 _ ?_)
 clear hK1; try clear K1
 refine D_seq fun K2 hK2 => ?_
 refine D_cF rfl rfl ?_
 refine D_skip (hK2 _ ?_)
 clear hK2; try clear K2
 refine D_seq fun K3 hK3 => ?_
 refine D_region ?_
 refine DL_c (mvI rfl) ?_
 refine DL_c (op_callH inferInstance (by repeat' (first | exact argsLv_nil | refine argsLv_cons ?_ ?_ | exact Lv.v)) (hr) rfl rfl) ?_
 refine DL_c (asI rfl) ?_
 refine DL_nil (hK3 _ ?_)
 clear hK3; try clear K3
 refine D_ret ?_
 refine ret1 (.inr rfl) rfl (.tmp (rfl : _ = AV.v (.int _ _))) (Le.out [] [] (lvI ?_) rfl rfl rfl trivial trivial)
 rfl
theorem sort_spec (n : Nat) (hn : n ≤ 12) (L : List Int) (hL : L.length = n) :
  Spec Try.prog 121 (inStI [.ref (0, 9) 0 n] [((0, 9), .row 3 1 (isl L))]) (outStI (.tup []) [((0, 9), .row 3 1 (isl (srt L)))] [(0, 9)] [(0, 9)]) := by
 obtain ⟨r, hr⟩ := len_spec n (by omega)
 refine Spec.ofNI Try.func121 rfl Try.ntmps121 rfl ?_
 refine D_seq fun K1 hK1 => ?_
 refine D_region ?_
 refine DL_c (mvR rfl) ?_
 refine DL_c (op_lenR _ inferInstance rfl rfl) ?_
 refine DL_c (asI rfl) ?_
 refine DL_nil (hK1 _ ?_)
 clear hK1; try clear K1
 refine D_region ?_
 refine DL_c (mvR rfl) ?_
 refine DL_c (mvI rfl) ?_
 refine DL_c (mvI rfl) ?_
 refine DL_c (op_conv _ Try.underlying3 Try.underlying163 rfl (u64w (by omega))) ?_
 refine DL_c (op_callH inferInstance (by repeat' (first | exact argsLv_nil | refine argsLv_cons ?_ ?_ | exact Lv.v)) (hr) rfl rfl) ?_
 refine DL_c (op_callR inferInstance [] ?_ (pdq_spec n hn L hL r) ⟨⟨rfl, ⟨_, rfl, .rowE rfl⟩, rfl⟩, trivial⟩ ⟨rfl, trivial⟩ (by kernel_rfl)) ?_
 ·repeat' (first | exact argsR_nil | refine argsR_cons ?_ ?_ | exact Lv.v | exact lvRr rfl rfl)
 refine DL_nil ?_
 exact ret0 (.inl rfl) rfl (Le.outI [] [] (.tup rfl lv_nil) rfl rfl rfl trivial ⟨⟨rfl, ⟨_, rfl, .rowE rfl⟩, rfl⟩, trivial⟩ ⟨rfl, trivial⟩ rfl)
end Go.Proofs.Ytkbkmngbenohkaa

namespace Go.Proofs.Ytkbkmngbenohkaa
open Go.RowKit

instance mQPush : MthP Try.prog 116 "Push" 178 := ⟨fun _ _ _ => by kernel_rfl⟩
instance mQPop : MthP Try.prog 116 "Pop" 177 := ⟨fun _ _ _ => by kernel_rfl⟩
instance mQLen : MthP Try.prog 116 "Len" 93 := ⟨fun _ _ _ => by kernel_rfl⟩
instance mQLess : MthV Try.prog 116 "Less" 176 117 := .of (by kernel_rfl)
instance mQSwap : MthV Try.prog 116 "Swap" 179 117 := .of (by kernel_rfl)
instance cQPush : Cbl Try.prog 178 := ⟨fun _ _ => by kernel_rfl⟩
instance cQPop : Cbl Try.prog 177 := ⟨fun _ _ => by kernel_rfl⟩
instance cQLess : Cbl Try.prog 176 := ⟨fun _ _ => by kernel_rfl⟩
instance cQSwap : Cbl Try.prog 179 := ⟨fun _ _ => by kernel_rfl⟩
abbrev qO (n : Nat) (L : List Int) : List (Oid × Cells) := [((0, 9), .box 117 [.ref (1, 9) 0 n]), ((1, 9), .row 3 1 (isl L))]
theorem qlen_spec (n : Nat) (L : List Int) : Spec Try.prog 93 (inStI [.ptr (0, 9) 0] (qO n L)) (outStI (.v (.int .i64 (n : Int))) (qO n L) [(0, 9), (1, 9)] [(0, 9), (1, 9)]) := by
 refine Spec.ofNI Try.func93 rfl Try.ntmps93 rfl ?_
 refine D_seq fun K1 hK1 => ?_
 refine D_region ?_
 refine DL_c (asI rfl) ?_
 refine DL_nil (hK1 _ ?_)
 clear hK1; try clear K1
 refine D_seq fun K2 hK2 => ?_
 refine D_region ?_
 refine DL_c (op_mv _ (rfl : _ = AV.ptr _ _)) ?_
 refine DL_c (op_nilp _ rfl rfl) ?_
 refine DL_c (op_ldB _ inferInstance rfl rfl (rfl : _ = some (AV.ref _ _ _))) ?_
 refine DL_c (op_lenR _ inferInstance rfl rfl) ?_
 refine DL_c (asI rfl) ?_
 refine DL_nil (hK2 _ ?_)
 clear hK2; try clear K2
 refine D_ret ?_
 exact ret1 (.inr rfl) rfl (.tmp (rfl : _ = AV.v (.int _ _))) (Le.outI [] [] (lvI rfl) rfl rfl rfl trivial ⟨⟨rfl, ⟨_, rfl, lvO_id _⟩, rfl⟩, ⟨rfl, ⟨_, rfl, lvO_id _⟩, rfl⟩, trivial⟩ ⟨rfl, rfl, trivial⟩ rfl)
theorem qless_spec (n : Nat) (L : List Int) (hL : L.length = n) (h1 : n ≤ 4611686018427387904) (i j : Nat) (hi : i < n) (hj : j < n) :
  Spec Try.prog 176 (inSt [.sl n (isl L), .v (.int .i64 (i : Int)), .v (.int .i64 (j : Int))] []) (outSt (.v (.bool (decide (L.getD i 0 < L.getD j 0)))) []) := by
 refine Spec.ofN Try.func176 rfl Try.ntmps176 rfl ?_
 refine D_seq fun K1 hK1 => ?_
 refine D_region ?_
 refine DL_c (asB rfl) ?_
 refine DL_nil (hK1 _ ?_)
 clear hK1; try clear K1
 refine D_seq fun K2 hK2 => ?_
 refine D_anyL 10 [7, 8, 9, 10, 11, 12, 13, 14, 15, 6] [] (by kernel_rfl) (by kernel_rfl) rfl (nodupO_iff rfl) (rfl : _ = [_, _, _, _, _, _, _, _, _, _]) (rfl : _ = []) ?_
 refine any_c (_, []) (fun τ => op_mv _ (rfl : _ = AV.sl _ _)) ?_
 refine any_n (rfl : _ = [_]) ?_
 refine any_c (_, []) (fun τ => op_mv _ (rfl : _ = AV.v (.int _ _))) ?_
 refine any_n (rfl : _ = [_, _]) ?_
 refine any_c (_, []) (fun τ => op_ixS _ _ inferInstance rfl rfl _ rfl (by omega) (by (simp only [isl_len, bsl_len, psl_len, List.length_map]; omega)) (by exact Nat.mul_one _)) ?_
 refine any_n (rfl : _ = [_, _, _]) ?_
 refine any_c (_, []) (fun τ => op_ldF _ inferInstance rfl (by exact isl_get _ _ (by omega)) rfl) ?_
 refine any_n (rfl : _ = [_, _, _, _]) ?_
 refine any_c (_, []) (fun τ => op_mv _ (rfl : _ = AV.sl _ _)) ?_
 refine any_n (rfl : _ = [_, _, _, _, _]) ?_
 refine any_c (_, []) (fun τ => op_mv _ (rfl : _ = AV.v (.int _ _))) ?_
 refine any_n (rfl : _ = [_, _, _, _, _, _]) ?_
 refine any_c (_, []) (fun τ => op_ixS _ _ inferInstance rfl rfl _ rfl (by omega) (by (simp only [isl_len, bsl_len, psl_len, List.length_map]; omega)) (by exact Nat.mul_one _)) ?_
 refine any_n (rfl : _ = [_, _, _, _, _, _, _]) ?_
 refine any_c (_, []) (fun τ => op_ldF _ inferInstance rfl (by exact isl_get _ _ (by omega)) rfl) ?_
 refine any_n (rfl : _ = [_, _, _, _, _, _, _, _]) ?_
 refine any_c (_, []) (fun τ => op_lss _ _ rfl rfl rfl) ?_
 refine any_n (rfl : _ = [_, _, _, _, _, _, _, _, _]) ?_
 refine any_c (_, []) (fun τ => op_as _ (rfl : _ = AV.v (.bool _))) ?_
 refine any_n (rfl : _ = [_, _, _, _, _, _, _, _, _, _]) ?_
 refine any_end ⟨rfl, ?_⟩
 refine DL_nil (hK2 _ ?_)
 clear hK2; try clear K2
 refine D_ret ?_
 refine ret1 (.inr rfl) rfl (.tmp (rfl : _ = AV.v (.bool _))) (Le.out [] [] (lvB ?_) rfl rfl rfl trivial trivial)
 rfl
theorem qswap_spec (n : Nat) (L : List Int) (hL : L.length = n) (h1 : n ≤ 4611686018427387904) (i j : Nat) (hi : i < n) (hj : j < n) :
  Spec Try.prog 179 (inStI [.ref (0, 9) 0 n, .v (.int .i64 (i : Int)), .v (.int .i64 (j : Int))] [((0, 9), .row 3 1 (isl L))]) (outStI (.tup []) [((0, 9), .row 3 1 (isl (sw L i j)))] [(0, 9)] [(0, 9)]) := by
 refine Spec.ofNI Try.func179 rfl Try.ntmps179 rfl ?_
 refine D_anyA 15 [6, 7, 8, 9, 10, 11, 12, 13, 14, 15, 16, 17, 18, 19] [(0, 9)] [[(0, 9)], [(0, 9)], [], [], [(0, 9)], [(0, 9)], [(0, 9)], [(0, 9)], [], [], [(0, 9)], [(0, 9)], [(0, 9)], [], []] (by kernel_rfl) (by kernel_rfl) rfl (nodupO_iff rfl) (rfl : _ = [_, _, _, _, _, _, _, _, _, _, _, _, _, _, _]) (rfl : _ = [_]) ?_
 refine any_c (_, []) (fun τ => op_mv _ (rfl : _ = AV.ref _ _ _)) ?_
 refine any_n (rfl : _ = [_]) ?_
 refine any_c (_, []) (fun τ => op_mv _ (rfl : _ = AV.v (.int _ _))) ?_
 refine any_n (rfl : _ = [_, _]) ?_
 refine any_c (_, []) (fun τ => op_mv _ (rfl : _ = AV.ref _ _ _)) ?_
 refine any_n (rfl : _ = [_, _, _]) ?_
 refine any_c (_, []) (fun τ => op_mv _ (rfl : _ = AV.v (.int _ _))) ?_
 refine any_n (rfl : _ = [_, _, _, _]) ?_
 refine any_c (_, []) (fun τ => op_mv _ (rfl : _ = AV.ref _ _ _)) ?_
 refine any_n (rfl : _ = [_, _, _, _, _]) ?_
 refine any_c (_, []) (fun τ => op_mv _ (rfl : _ = AV.v (.int _ _))) ?_
 refine any_n (rfl : _ = [_, _, _, _, _, _]) ?_
 refine any_c (_, []) (fun τ => op_ixR _ _ inferInstance rfl rfl rfl _ rfl (by omega) (by exact (Nat.zero_add _).trans (Nat.mul_one _))) ?_
 refine any_n (rfl : _ = [_, _, _, _, _, _, _]) ?_
 refine any_c (_, []) (fun τ => op_ldR _ inferInstance rfl rfl (by exact isl_get _ _ (by omega)) rfl) ?_
 refine any_n (rfl : _ = [_, _, _, _, _, _, _, _]) ?_
 refine any_c (_, []) (fun τ => op_mv _ (rfl : _ = AV.ref _ _ _)) ?_
 refine any_n (rfl : _ = [_, _, _, _, _, _, _, _, _]) ?_
 refine any_c (_, []) (fun τ => op_mv _ (rfl : _ = AV.v (.int _ _))) ?_
 refine any_n (rfl : _ = [_, _, _, _, _, _, _, _, _, _]) ?_
 refine any_c (_, []) (fun τ => op_ixR _ _ inferInstance rfl rfl rfl _ rfl (by omega) (by exact (Nat.zero_add _).trans (Nat.mul_one _))) ?_
 refine any_n (rfl : _ = [_, _, _, _, _, _, _, _, _, _, _]) ?_
 refine any_c (_, []) (fun τ => op_ldR _ inferInstance rfl rfl (by exact isl_get _ _ (by omega)) rfl) ?_
 refine any_n (rfl : _ = [_, _, _, _, _, _, _, _, _, _, _, _]) ?_
 refine any_c (_, []) (fun τ => op_ixR _ _ inferInstance rfl rfl rfl _ rfl (by omega) (by exact (Nat.zero_add _).trans (Nat.mul_one _))) ?_
 refine any_n (rfl : _ = [_, _, _, _, _, _, _, _, _, _, _, _, _]) ?_
 refine any_c (_, [((0, 9), _)]) (fun τ => op_stR _ _ inferInstance rfl (mix_own rfl (by exact inO_head) rfl) rfl rfl rfl (by simp; omega) (isl_put _ _ _ (by omega))) ?_
 refine any_n (rfl : _ = [_, _, _, _, _, _, _, _, _, _, _, _, _, _]) ?_
 refine any_c (_, []) (fun τ => op_ixR _ _ inferInstance rfl rfl rfl _ rfl (by omega) (by exact (Nat.zero_add _).trans (Nat.mul_one _))) ?_
 refine any_n (rfl : _ = [_, _, _, _, _, _, _, _, _, _, _, _, _, _, _]) ?_
 refine any_end ⟨⟨rfl, by kernel_rfl⟩, ?_⟩
 refine DL_c (op_stR _ _ inferInstance rfl rfl rfl rfl rfl (by simp; omega) (isl_put _ _ _ (by simp; omega))) ?_
 refine DL_nil ?_
 exact ret0 (.inl rfl) rfl (Le.outI [] [] (.tup rfl lv_nil) rfl rfl rfl trivial ⟨⟨rfl, ⟨_, rfl, .rowE rfl⟩, rfl⟩, trivial⟩ ⟨rfl, trivial⟩ rfl)
theorem qpush_spec (n : Nat) (L : List Int) (hL : L.length = n) (h1 : n ≤ 1000000) (x : Int) :
  Spec Try.prog 178 (inStI [.ptr (0, 9) 0, .ifc 3 (.v (.int .i64 x))] (qO n L)) (outStI (.tup []) [((0, 9), .box 117 [.ref (1, 8) 0 (n + 1)]), ((1, 8), .row 3 1 (isl (L ++ [x])))] [(0, 9), (1, 8)] [(0, 9)]) := by
 refine Spec.ofNI Try.func178 rfl Try.ntmps178 rfl ?_
 refine D_le (Le.incT (11, 0) rfl) ?_
 refine D_anyL 9 [4, 5, 6, 7, 8, 9, 10, 11, 12] [(1, 9), (11, 0)] (by kernel_rfl) (by kernel_rfl) rfl (nodupO_iff rfl) (rfl : _ = [_, _, _, _, _, _, _, _, _]) (rfl : _ = [_]) ?_
 refine any_c (_, []) (fun τ => op_mv _ (rfl : _ = AV.ptr _ _)) ?_
 refine any_n (rfl : _ = [_]) ?_
 refine any_c (_, []) (fun τ => op_mv _ (rfl : _ = AV.ptr _ _)) ?_
 refine any_n (rfl : _ = [_, _]) ?_
 refine any_c (_, []) (fun τ => op_nilp _ rfl rfl) ?_
 refine any_n (rfl : _ = [_, _, _]) ?_
 refine any_c (_, []) (fun τ => op_ldB _ inferInstance rfl rfl (rfl : _ = some (AV.ref _ _ _))) ?_
 refine any_n (rfl : _ = [_, _, _, _]) ?_
 refine any_c (_, []) (fun τ => op_mv _ (rfl : _ = AV.ifc _ _)) ?_
 refine any_n (rfl : _ = [_, _, _, _, _]) ?_
 refine any_c (_, []) (fun τ => op_tA _ Try.underlying3 rfl (rfl : _ = AV.ifc _ (AV.v _))) ?_
 refine any_n (rfl : _ = [_, _, _, _, _, _]) ?_
 refine any_c (_, []) (fun τ => op_bsF _ _ inferInstance rfl (by rfl) (by simp <;> rfl) (by decide) rfl) ?_
 refine any_n (rfl : _ = [_, _, _, _, _, _, _]) ?_
 refine any_c (_, [((1, 9), .gone), ((11, 0), _)]) (fun τ => op_apM (id := (1, 9)) (b := true) (11, 0) _ _ inferInstance rfl (mix_own rfl (by exact inO_head) rfl) (by simp; omega) (.sl rfl) (by omega) rfl rfl rfl (isl_append L [x]) rfl) ?_
 refine any_n (rfl : _ = [_, _, _, _, _, _, _, _]) ?_
 refine any_c (_, []) (fun τ => op_nilp _ rfl rfl) ?_
 refine any_n (rfl : _ = [_, _, _, _, _, _, _, _, _]) ?_
 refine any_end ⟨rfl, ?_⟩
 refine DL_c (op_stB _ _ inferInstance rfl rfl rfl rfl (Nat.le_of_ble_eq_true rfl) rfl) ?_
 refine DL_nil ?_
 exact ret0 (.inl rfl) rfl (Le.outI [((1, 8), (11, 0))] [] (.tup rfl lv_nil) rfl rfl rfl trivial ⟨⟨rfl, ⟨_, rfl, .box rfl (lv_cons (lvRr rfl rfl) lv_nil)⟩, rfl⟩, ⟨rfl, ⟨_, rfl, .rowE rfl⟩, rfl⟩, trivial⟩ ⟨rfl, trivial⟩ rfl)
theorem qpop_spec (n : Nat) (L : List Int) (hL : L.length = n) (h0 : 0 < n) (h1 : n ≤ 1000000) :
  Spec Try.prog 177 (inStI [.ptr (0, 9) 0] (qO n L)) (outStI (.ifc 3 (.v (.int .i64 (L.getD (n - 1) 0)))) (qO (n - 1) (L.take (n - 1))) [(0, 9), (1, 9)] [(0, 9), (1, 9)]) := by
 refine Spec.ofNI Try.func177 rfl Try.ntmps177 rfl ?_
 refine D_seq fun K1 hK1 => ?_
 refine D_region ?_
 refine DL_c (op_as _ (rfl : _ = AV.v _)) ?_
 refine DL_nil (hK1 _ ?_)
 clear hK1; try clear K1
 refine D_seq fun K2 hK2 => ?_
 refine D_anyL 11 [4, 5, 6, 7, 8, 9, 10, 11, 12, 13, 3] [] (by kernel_rfl) (by kernel_rfl) rfl (nodupO_iff rfl) (rfl : _ = [_, _, _, _, _, _, _, _, _, _, _]) (rfl : _ = []) ?_
 refine any_c (_, []) (fun τ => op_mv _ (rfl : _ = AV.ptr _ _)) ?_
 refine any_n (rfl : _ = [_]) ?_
 refine any_c (_, []) (fun τ => op_nilp _ rfl rfl) ?_
 refine any_n (rfl : _ = [_, _]) ?_
 refine any_c (_, []) (fun τ => op_ldB _ inferInstance rfl rfl (rfl : _ = some (AV.ref _ _ _))) ?_
 refine any_n (rfl : _ = [_, _, _]) ?_
 refine any_c (_, []) (fun τ => op_mv _ (rfl : _ = AV.ptr _ _)) ?_
 refine any_n (rfl : _ = [_, _, _, _]) ?_
 refine any_c (_, []) (fun τ => op_nilp _ rfl rfl) ?_
 refine any_n (rfl : _ = [_, _, _, _, _]) ?_
 refine any_c (_, []) (fun τ => op_ldB _ inferInstance rfl rfl (rfl : _ = some (AV.ref _ _ _))) ?_
 refine any_n (rfl : _ = [_, _, _, _, _, _]) ?_
 refine any_c (_, []) (fun τ => op_lenR _ inferInstance rfl rfl) ?_
 refine any_n (rfl : _ = [_, _, _, _, _, _, _]) ?_
 refine any_c (_, []) (fun τ => op_sub _ _ rfl rfl (i64w (by omega))) ?_
 refine any_n (rfl : _ = [_, _, _, _, _, _, _, _]) ?_
 refine any_c (_, []) (fun τ => op_ixR _ _ inferInstance rfl rfl rfl (n - 1) (by omega) (by omega) (by exact (Nat.zero_add _).trans (Nat.mul_one _))) ?_
 refine any_n (rfl : _ = [_, _, _, _, _, _, _, _, _]) ?_
 refine any_c (_, []) (fun τ => op_ldR _ inferInstance rfl rfl (by exact isl_get _ _ (by omega)) rfl) ?_
 refine any_n (rfl : _ = [_, _, _, _, _, _, _, _, _, _]) ?_
 refine any_c (_, []) (fun τ => op_as _ (rfl : _ = AV.v (.int _ _))) ?_
 refine any_n (rfl : _ = [_, _, _, _, _, _, _, _, _, _, _]) ?_
 refine any_end ⟨rfl, ?_⟩
 refine DL_nil (hK2 _ ?_)
 clear hK2; try clear K2
 refine D_seq fun K3 hK3 => ?_
 refine D_le (σ' := mkStI 27 [(0, _), (3, _)] [((0, 9), _), ((1, 9), _)] [(0, 9), (1, 9)] [(0, 9), (1, 9)]) (by
  refine Le.mkJ [] [] rfl ?_ ?_ trivial ⟨rfl, rfl, trivial⟩ ?_
  ·exact ⟨(iP rfl), (iV rfl), trivial⟩
  ·exact ⟨(obE rfl rfl rfl), (obE rfl rfl rfl), trivial⟩
  ·kernel_rfl) ?_
 refine D_anyL 11 [14, 15, 16, 17, 18, 19, 20, 21, 22, 23, 24] [] (by kernel_rfl) (by kernel_rfl) rfl (nodupO_iff rfl) (rfl : _ = [_, _, _, _, _, _, _, _, _, _, _]) (rfl : _ = [_]) ?_
 refine any_c (_, []) (fun τ => op_mv _ (rfl : _ = AV.ptr _ _)) ?_
 refine any_n (rfl : _ = [_]) ?_
 refine any_c (_, []) (fun τ => op_mv _ (rfl : _ = AV.ptr _ _)) ?_
 refine any_n (rfl : _ = [_, _]) ?_
 refine any_c (_, []) (fun τ => op_nilp _ rfl rfl) ?_
 refine any_n (rfl : _ = [_, _, _]) ?_
 refine any_c (_, []) (fun τ => op_ldB _ inferInstance rfl rfl (rfl : _ = some (AV.ref _ _ _))) ?_
 refine any_n (rfl : _ = [_, _, _, _]) ?_
 refine any_c (_, []) (fun τ => op_mv _ (rfl : _ = AV.ptr _ _)) ?_
 refine any_n (rfl : _ = [_, _, _, _, _]) ?_
 refine any_c (_, []) (fun τ => op_nilp _ rfl rfl) ?_
 refine any_n (rfl : _ = [_, _, _, _, _, _]) ?_
 refine any_c (_, []) (fun τ => op_ldB _ inferInstance rfl rfl (rfl : _ = some (AV.ref _ _ _))) ?_
 refine any_n (rfl : _ = [_, _, _, _, _, _, _]) ?_
 refine any_c (_, []) (fun τ => op_lenR _ inferInstance rfl rfl) ?_
 refine any_n (rfl : _ = [_, _, _, _, _, _, _, _]) ?_
 refine any_c (_, []) (fun τ => op_sub _ _ rfl rfl (i64w (by omega))) ?_
 refine any_n (rfl : _ = [_, _, _, _, _, _, _, _, _]) ?_
 refine any_c (_, []) (fun τ => op_slR _ _ _ inferInstance rfl rfl 0 (n - 1) .dflt (.lit rfl (by omega)) (by omega) (by omega) rfl (Nat.sub_zero _)) ?_
 refine any_n (rfl : _ = [_, _, _, _, _, _, _, _, _, _]) ?_
 refine any_c (_, []) (fun τ => op_nilp _ rfl rfl) ?_
 refine any_n (rfl : _ = [_, _, _, _, _, _, _, _, _, _, _]) ?_
 refine any_end ⟨rfl, ?_⟩
 refine DL_c (op_stB _ _ inferInstance rfl rfl rfl rfl (Nat.le_of_ble_eq_true rfl) rfl) ?_
 refine DL_nil (hK3 _ ?_)
 clear hK3; try clear K3
 refine D_seq fun K4 hK4 => ?_
 refine D_region ?_
 refine DL_c (mvI rfl) ?_
 refine DL_c (op_mkI _ Try.underlying3 rfl (rfl : _ = AV.v (.int _ _))) ?_
 refine DL_c (op_as _ (rfl : _ = AV.ifc _ _)) ?_
 refine DL_nil (hK4 _ ?_)
 clear hK4; try clear K4
 refine D_ret ?_
 exact ret1 (.inr rfl) rfl (.tmp (rfl : _ = AV.ifc _ _)) (Le.outI [] [] (.ifc .v) rfl rfl rfl trivial ⟨⟨rfl, ⟨_, rfl, .box rfl (lv_cons (lvRr rfl rfl) lv_nil)⟩, rfl⟩, ⟨rfl, ⟨_, rfl, .row (zs := isl (L.drop (n - 1))) (by rw [isl_append, List.take_append_drop])⟩, rfl⟩, trivial⟩ ⟨rfl, rfl, trivial⟩ rfl)
end Go.Proofs.Ytkbkmngbenohkaa
