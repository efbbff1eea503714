/- The machine's library, part 5. No program text. -/
import Derived.Test.YtkbkmngbenohkaaVoM4
import Derived.ChangeKeysEq
set_option linter.unusedSimpArgs false
set_option linter.unusedVariables false
namespace Go.Proofs.Ytkbkmngbenohkaa
open Go.RowKit

theorem rnOf_nil : rnOf [] = fun i => i := by funext i; rfl
theorem lv_id {σ : St} {F : Oid → Bool} (a : AV) : Lv (rnOf []) σ F a a := by rw [rnOf_nil]; exact Lv.same a
theorem lv_idE {σ : St} {F : Oid → Bool} {a b : AV} (h : b = a) : Lv (rnOf []) σ F a b := by subst h; exact lv_id _
theorem lvO_id {σ : St} {F : Oid → Bool} (o : Cells) : LvO (rnOf []) σ F o o := by rw [rnOf_nil]; exact LvO.same o
theorem lvRr {ρ : Oid → Oid} {σ : St} {F : Oid → Bool} {id id' : Oid} {off n m : Nat} (hi : ρ id = id') (h : n = m) : Lv ρ σ F (.ref id off n) (.ref id' off m) := by subst hi; subst h; exact .ref
theorem lvPr {ρ : Oid → Oid} {σ : St} {F : Oid → Bool} {id id' : Oid} {off : Nat} (hi : ρ id = id') : Lv ρ σ F (.ptr id off) (.ptr id' off) := by subst hi; exact .ptr
/-- What stands at i of a list of objects, as an object of a state that says more. -/
theorem obR {ρ : Oid → Oid} {Fz : List Oid} {σ : St} {I : List Oid} {i : Oid} {e : TypeId} {sz : Nat} {xs ys : List PV} (hF : inO (ρ i) Fz = false) (h : σ.ob (ρ i) = .obj (.row e sz ys)) (hinc : (bif inO i I then false else σ.inc (ρ i)) = false) (hx : xs = ys) :
    inO (ρ i) Fz = false ∧ (∃ o2, σ.ob (ρ i) = .obj o2 ∧ LvO (ρ) σ (fun i => inO i Fz) (.row e sz xs) o2) ∧ (bif inO i I then false else σ.inc (ρ i)) = false := ⟨hF, ⟨_, h, .rowE hx.symm⟩, hinc⟩
theorem obB {ρ : Oid → Oid} {Fz : List Oid} {σ : St} {I : List Oid} {i : Oid} {e : TypeId} {xs ys : List AV} (hF : inO (ρ i) Fz = false) (h : σ.ob (ρ i) = .obj (.box e ys)) (hinc : (bif inO i I then false else σ.inc (ρ i)) = false) (hl : xs.length = ys.length)
    (hx : ∀ (j : Nat) (a b : AV), xs[j]? = some a → ys[j]? = some b → Lv (ρ) σ (fun i => inO i Fz) a b) :
    inO (ρ i) Fz = false ∧ (∃ o2, σ.ob (ρ i) = .obj o2 ∧ LvO (ρ) σ (fun i => inO i Fz) (.box e xs) o2) ∧ (bif inO i I then false else σ.inc (ρ i)) = false := ⟨hF, ⟨_, h, .box hl hx⟩, hinc⟩
theorem obE {Fz : List Oid} {σ : St} {I : List Oid} {i : Oid} {o : Cells} (hF : inO (rnOf [] i) Fz = false) (h : σ.ob (rnOf [] i) = .obj o) (hinc : (bif inO i I then false else σ.inc (rnOf [] i)) = false) :
    inO (rnOf [] i) Fz = false ∧ (∃ o2, σ.ob (rnOf [] i) = .obj o2 ∧ LvO (rnOf []) σ (fun i => inO i Fz) o o2) ∧ (bif inO i I then false else σ.inc (rnOf [] i)) = false := ⟨hF, ⟨_, h, lvO_id o⟩, hinc⟩
theorem Spec.toI {P : Program} {f : FuncId} {args : List AV} {r : AV} {outs : List (Oid × Cells)} (h : Spec P f (inSt args []) (outSt r outs)) : Spec P f (inStI args []) (outStI r outs [] []) := h
theorem Le.mkJ {σ : St} {n : Nat} {slots : List (Nat × AV)} {obs : List (Oid × Cells)} {I Pn : List Oid} (rn : List (Oid × Oid)) (Fz : List Oid) (hn : σ.n = n) (hs : AllLv (rnOf rn) σ (fun i => inO i Fz) slots) (ho : AllLvI (rnOf rn) σ (fun i => inO i Fz) I obs) (hi : AllInc σ Fz) (hp : AllPin (rnOf rn) σ Pn)
    (hb : (slotsWithin (obs.map (·.1)) slots && obsWithin (obs.map (·.1)) obs && nodupO ((obs.map (·.1)).map (rnOf rn)) && subO Pn (obs.map (·.1))) = true) : Le (mkStI n slots obs I Pn) σ := by
  simp only [Bool.and_eq_true] at hb
  exact Le.mkI rn Fz hn hs hb.1.1.1 hb.1.1.2 hb.1.2 hi ho hp hb.2
section
variable {rb : Bool} {P : Program} {Q : Exit → St → Prop} {σ : St}
theorem D_loopL {c : Code} {α : Type} (J : α → Prop) (n : Nat) (sl : List (Nat × AV)) (os : List (Oid × Cells)) (sv : α → List (Nat × AV)) (ov : α → List (Oid × Cells)) (I Pn : List Oid) (μ : α → Nat) (x0 : α) (hJ : J x0) (h0 : Le (mkStI n (sl ++ sv x0) (os ++ ov x0) I Pn) σ)
    (round : ∀ x, J x → D rb P c (thenQ (fun σ' => ∃ y, J y ∧ Le (mkStI n (sl ++ sv y) (os ++ ov y) I Pn) σ' ∧ μ y < μ x) Q) (mkStI n (sl ++ sv x) (os ++ ov x) I Pn)) : D rb P (.loop c) Q σ :=
  D_loopP J (fun x => mkStI n (sl ++ sv x) (os ++ ov x) I Pn) μ x0 hJ h0 round
theorem DL_caseB {ops : Array Oper} {rest : List Oper} {d : Nat} {b : Bool} (h1 : b = true → DL rb P ops Q rest (σ.put (some d) (.v (.bool true)))) (h2 : b = false → DL rb P ops Q rest (σ.put (some d) (.v (.bool false)))) : DL rb P ops Q rest (σ.put (some d) (.v (.bool b))) := by
  cases b
  · exact h2 rfl
  · exact h1 rfl
theorem any_caseB {all : List Oper} {W : List Nat} {I : List Oid} {AA : List (List Oid)} {Kont : List Res → Prop} {os : List Oper} {rs : List Res} {b : Bool} (h1 : b = true → AnyOps P all W I AA σ Kont os (rs ++ [(.v (.bool true), [])])) (h2 : b = false → AnyOps P all W I AA σ Kont os (rs ++ [(.v (.bool false), [])])) :
    AnyOps P all W I AA σ Kont os (rs ++ [(.v (.bool b), [])]) := by
  cases b
  · exact h2 rfl
  · exact h1 rfl
end
end Go.Proofs.Ytkbkmngbenohkaa

namespace Go.Proofs.Ytkbkmngbenohkaa
open Go.RowKit

class Arr (P : Program) (T : TypeId) (n : outParam Nat) (size : outParam Nat) : Prop where
  out : ∃ e i, P.underlying T = some (.array n e) ∧ P.info? e = some i ∧ i.size = size
theorem Arr.of {P : Program} {T e : TypeId} {n size : Nat} (h1 : P.underlying T = some (.array n e)) (h2 : (P.info? e).map (fun i => i.size) = some size) : Arr P T n size := by
  obtain ⟨i, hi, h⟩ := Option.map_eq_some_iff.1 h2
  exact ⟨e, i, h1, hi, h⟩

section
variable {P : Program} {σ : St} {dd : Option Tmp} {ty T : TypeId} {n size : Nat}
theorem op_ixA (x y : Operand) (E : Arr P T n size) {id : Oid} {of0 : Nat} {oc : Cells} (hx : σ.eval x = .ptr id of0) (hid : σ.ob id = .obj oc)
    {k : IntKind} {I : Int} (hy : σ.eval y = .v (.int k I)) (j : Nat) (hI : I = (j : Int)) (hj : j < n) {off : Nat} (he : of0 + j * size = off) : Stp P dd (.indexAddr T x y) ty σ (σ.put dd (.ptr id off)) := by
  intro o hd ho ht
  subst hd; subst he; subst hI
  obtain ⟨e, inf, hu, hinf, hs⟩ := E.out
  refine step_val fun _ ι S a w R => ?_
  have hi := (hy ▸ R.eval y : Rep ι S w (.v (.int k (j : Int))) (a.eval y)).toV
  obtain ⟨B, g, h1, h2, h3⟩ := R.ptrB hid hx
  refine ⟨.pointer (some ⟨g, of0 + j * size, none⟩), ?_, .ptr (fun B' hB' => ?_) rfl, fun i h => R.evalHas x (by rw [hx]; cases h; exact .ptr)⟩
  · simp [execOp, ho, Instr.indexAt, h3, hi, asIntOf, run_underlying hu, sizeOf, typeInfo, hinf, hs, hj, Addr.add_lit, Instr.sureAddr]
  · rw [h1] at hB'
    obtain rfl := Option.some.inj hB'
    exact ⟨g, h2, rfl⟩
theorem repL {K : Ctx} {ι : Oid → Option Blk} {S : Nat → Prop} {a : Act} {w : World} (R : RelI K ι S σ a w) (xs : Array Operand) {avs : List AV} (h : xs.toList.map σ.eval = avs) :
    (xs.map a.eval).size = avs.length ∧ (∀ (j : Nat) (p : AV), avs[j]? = some p → Rep ι S w p ((xs.map a.eval).getD j undef)) ∧ ∀ av ∈ avs, ∀ id, Has id av → σ.ob id ≠ .free := by
  subst h
  refine ⟨by simp, fun j p hp => ?_, fun av hav id hi => ?_⟩
  · rw [List.getElem?_map] at hp
    obtain ⟨y, hy, rfl⟩ := Option.map_eq_some_iff.1 hp
    have hy' : xs[j]? = some y := by simpa using hy
    have hj := (Array.getElem?_eq_some_iff.1 hy').1
    have : (xs.map a.eval).getD j undef = a.eval y := by
      have h2 := (Array.getElem?_eq_some_iff.1 hy').2
      simp [hj, h2]
    rw [this]; exact R.eval y
  · obtain ⟨y, _, rfl⟩ := List.mem_map.1 hav
    exact R.evalHas y hi
/-- A function's value is made: what it is bound to, what it captures. -/
theorem op_mf {fn : Fn} (first caps : Array Operand) {fs cs : List AV} (hf : first.toList.map σ.eval = fs) (hc : caps.toList.map σ.eval = cs) : Stp P dd (.makeFunc fn first caps) ty σ (σ.put dd (.fn fn fs cs)) := by
  intro o hd ho ht
  subst hd
  refine step_val fun _ ι S a w R => ?_
  obtain ⟨f1, f2, f3⟩ := repL R first hf
  obtain ⟨c1, c2, c3⟩ := repL R caps hc
  refine ⟨.func fn (first.map a.eval) (caps.map a.eval), by simp [execOp, ho, Instr.makeFunc], .fn f1 c1 f2 c2, fun id h => ?_⟩
  cases h with
  | fn1 hm h => exact f3 _ hm id h
  | fn2 hm h => exact c3 _ hm id h

/-! pointers and nil -/
theorem ptr_some {K : Ctx} {ι : Oid → Option Blk} {S : Nat → Prop} {a : Act} {w : World} (R : RelI K ι S σ a w) (x : Operand) (h : (∃ id off oc, σ.eval x = .ptr id off ∧ σ.ob id = .obj oc) ∨ ∃ off xs, σ.eval x = .fp off xs) : ∃ p, a.eval x = .pointer (some p) := by
  rcases h with ⟨id, off, oc, h1, h2⟩ | ⟨off, xs, h1⟩
  · obtain ⟨B, g, _, _, h3⟩ := R.ptrB h2 h1
    exact ⟨_, h3⟩
  · have hp := R.eval x
    rw [h1] at hp
    cases hp with
    | fp h =>
      generalize a.eval x = v at h
      cases h
      exact ⟨_, rfl⟩
theorem op_eqN {t t' : TypeId} (x y : Operand) (h : P.underlying t = some (.pointer (P.pointee t))) (hx : (∃ id off oc, σ.eval x = .ptr id off ∧ σ.ob id = .obj oc) ∨ ∃ off xs, σ.eval x = .fp off xs) (hy : σ.eval y = .v (.pointer none)) : Stp P dd (.binOp .eql t x y t') ty σ (σ.put dd (.v (.bool false))) := by
  intro o hd ho ht
  subst hd
  refine step_val fun _ ι S a w R => ⟨_, ?_, .v, fun _ => noHasV⟩
  obtain ⟨p, hp⟩ := ptr_some R x hx
  have h2 := Rep.evV R hy
  have hq := run_eql_pointer_nil w t (some p) h
  clear h hx hy
  generalize a.eval = ρ at hp h2
  simp [execOp, ho, hp, h2, eqGuard, hq]
/-! arrays of two numbers -/
end
end Go.Proofs.Ytkbkmngbenohkaa

namespace Go.Proofs.Ytkbkmngbenohkaa
open Go.RowKit
def psl (l : List (Int × Int)) : List PV := l.flatMap fun p => [.v (.int .i64 p.1), .v (.int .i64 p.2)]
theorem psl_cons (p : Int × Int) (l : List (Int × Int)) : psl (p :: l) = [.v (.int .i64 p.1), .v (.int .i64 p.2)] ++ psl l := rfl
@[simp] theorem psl_len : ∀ (l : List (Int × Int)), (psl l).length = 2 * l.length
  | [] => rfl
  | p :: l => by rw [psl_cons, List.length_append, psl_len l]; simp; omega
theorem psl_append (a b : List (Int × Int)) : psl a ++ psl b = psl (a ++ b) := by simp [psl]
theorem psl_drop : ∀ (l : List (Int × Int)) (k : Nat), (psl l).drop (2 * k) = psl (l.drop k)
  | _, 0 => rfl
  | [], k + 1 => by simp [psl]
  | p :: l, k + 1 => by
    rw [psl_cons, show 2 * (k + 1) = 2 * k + 2 by omega, ← List.drop_drop]
    have : List.drop (2 * k) ([PV.v (.int .i64 p.1), .v (.int .i64 p.2)] ++ psl l) = List.drop (2 * k) (psl (p :: l)) := rfl
    rw [List.drop_drop, Nat.add_comm, ← List.drop_drop]
    show List.drop (2 * k) (psl l) = _
    rw [psl_drop l k]; rfl
theorem psl_at (l : List (Int × Int)) (k : Nat) (h : k < l.length) : ((psl l).drop (k * 2)).take 2 = [.v (.int .i64 (l.getD k (0, 0)).1), .v (.int .i64 (l.getD k (0, 0)).2)] := by
  rw [Nat.mul_comm, psl_drop, List.drop_eq_getElem_cons h, getD_at _ _ _ h]
  rfl
theorem psl_geta (l : List (Int × Int)) (k : Nat) (h : k < l.length) : PV.ups (((psl l).drop (k * 2)).take 2) = [.v (.int .i64 (l.getD k (0, 0)).1), .v (.int .i64 (l.getD k (0, 0)).2)] := by
  rw [psl_at l k h]; rfl
/-! parts of slices -/
/-- A result that the call owns, as data. -/
theorem Spec.frz {P : Program} {f : FuncId} {σ : St} {e : TypeId} {sz n : Nat} {xs : List PV} (h : Spec P f σ (outSt (.ref (0, 8) 0 n) [((0, 8), .row e sz xs)])) (hl : n * sz = xs.length) : Spec P f σ (outSt (.sl n xs) []) :=
  h.mono (Le.outO (I := []) (Pn := []) [] [(0, 8)] (frz0 rfl rfl hl rfl) rfl rfl rfl ⟨rfl, trivial⟩ trivial)
theorem getD_take {α : Type} (a : List α) (i k : Nat) (d : α) (h : i < k) : (a.take k).getD i d = a.getD i d := by simp [List.getElem?_take, h]
end Go.Proofs.Ytkbkmngbenohkaa

namespace Go.Proofs.Ytkbkmngbenohkaa
open Go.RowKit

section
variable {P : Program} {σ : St} {z : List Value} {T e : TypeId} {size bytes : Nat}
theorem St.setInc_same {σ : St} {id : Oid} {b : Bool} (h : σ.inc id = b) : σ.setInc id b = σ := by
  refine St.eq rfl (fun _ => rfl) (fun _ => rfl) (funext fun i => ?_) rfl
  show (bif oeq i id then b else σ.inc i) = σ.inc i
  cases hb : oeq i id with
  | true => rw [oeq_iff.1 hb, h]; rfl
  | false => rfl
/-- append to a row of a call's own: what came in stays what came in. -/
theorem op_apN {dd : Option Tmp} {ty : TypeId} (id' : Oid) (s x : Operand) (E : Elem P T e size bytes z) {id : Oid} {n : Nat} {xs : List PV} (hs : σ.eval s = .ref id 0 n) (hid : σ.ob id = .obj (.row e size xs)) (hl : n * size = xs.length) {m : Nat} {news : List PV} (hx : SrcAV σ (σ.eval x) size m news) (hb : (n + m) * bytes ≤ 140737488355328) (hid' : σ.ob id' = .free)
    (hi : σ.inc id = false) (hi' : σ.inc id' = false) {ys : List PV} (hy : xs ++ news = ys) {k : Nat} (hk : n + m = k) : Stp P dd (.call { callee := .builtin .append, args := #[s, x], argTypes := #[T, T] }) ty σ (((σ.setOb id .gone).setOb id' (.obj (.row e size ys))).put dd (.ref id' 0 k)) := by
  have h := op_ap (P := P) (dd := dd) (ty := ty) id' s x E hs hid hl hx hb hid' hy hk
  rwa [hi, St.setInc_same (by exact hi')] at h

/-- The cells of such a row from its start, as the model's law on append takes them. -/
theorem RelI.ownsA {K : Ctx} {ι : Oid → Option Blk} {S : Nat → Prop} {a : Act} {w : World} (R : RelI K ι S σ a w) {id : Oid} {e : TypeId} {sz n : Nat} {xs : List AV} (hid : σ.ob id = .obj (.rowA e sz xs)) {x : Operand} (hx : σ.eval x = .ref id 0 n) (hl : n * sz = xs.length) :
    ∃ B us, ι id = some B ∧ w.ownsRow 0 e sz (a.eval x) n us ∧ us.length = xs.length ∧ (∀ (j : Nat) (p : AV), xs[j]? = some p → ∃ u, us[j]? = some u ∧ u.oneCell' = true ∧ Rep ι S w p u) ∧ ∀ g, (a.eval x).ownBlock = some g ↔ B.g = some g := by
  obtain ⟨B, h1, h2, h6⟩ := R.ob id _ hid
  have hr := R.eval x
  rw [hx] at hr
  generalize hu : a.eval x = v at hr
  cases hr with
  | ref h _ =>
    obtain ⟨c, h3, h4, h5⟩ := h B h1
    cases hg : B.g with
    | none =>
      rw [hg] at h5
      obtain ⟨h7, rfl, _⟩ := h5
      have : xs = [] := List.eq_nil_of_length_eq_zero (by omega)
      subst this
      exact ⟨B, [], h1, by rw [h7]; exact World.ownsRow_nil _ _ _ _, rfl, by simp, fun g => by simp [h7, Value.ownBlock, hg]⟩
    | some g =>
      rw [hg] at h5
      obtain ⟨o', h7, h8, h9⟩ := h5
      obtain rfl := h8.resolve_right (by omega)
      rcases h6 with ⟨h6, _⟩ | ⟨g', cur, h10, h11, h12, h13, h14⟩
      · rw [hg] at h6; cases h6
      · rw [hg] at h10
        obtain rfl := Option.some.inj h10
        subst h2
        refine ⟨B, cur.toList.take (n * B.sz), h1, ⟨by simp; omega, .inr ⟨g, c, cur, h7, Nat.zero_le _, h11, h3, h4, by omega, rfl⟩⟩, by simp; omega, fun j p hp => ?_, fun k => by simp [h7, Value.ownBlock, hg]⟩
        have hj : j < xs.length := (List.getElem?_eq_some_iff.1 hp).1
        obtain ⟨u, hu, hu1, hu2⟩ := h14 j hj
        exact ⟨u, by rw [List.getElem?_take, if_pos (by omega)]; simpa using hu, hu1, hu2 p hp⟩
/-- The cells of a block that a slice leads to, as what is appended. -/
theorem RelI.srcB {K : Ctx} {ι : Oid → Option Blk} {S : Nat → Prop} {a : Act} {w : World} (R : RelI K ι S σ a w) {id : Oid} {e : TypeId} {sz m : Nat} {news : List AV} (hid : σ.ob id = .obj (.box e news)) {x : Operand} (hx : σ.eval x = .ref id 0 m) (hl : m * sz = news.length) :
    ∃ us, Sl w sz (a.eval x) m us ∧ us.length = news.length ∧ ∀ (j : Nat) (p : AV), news[j]? = some p → ∃ u, us[j]? = some u ∧ u.oneCell' = true ∧ Rep ι S w p u := by
  obtain ⟨B, g, h1, hg, htot, h6⟩ := R.ob id _ hid
  have hr := R.eval x
  rw [hx] at hr
  generalize hu : a.eval x = v at hr
  cases hr with
  | ref h _ =>
    obtain ⟨c, h3, h4, h5⟩ := h B h1
    rw [hg] at h5
    obtain ⟨o', h7, h8, h9⟩ := h5
    obtain rfl := h8.resolve_right (by omega)
    rcases h6 with ⟨h6, _⟩ | ⟨g', cur, h10, h11, h12, h13, h14⟩
    · rw [hg] at h6; cases h6
    · rw [hg] at h10
      obtain rfl := Option.some.inj h10
      have hget : ∀ (j : Nat) (u : Value), (cur.toList.take news.length)[j]? = some u → j < news.length ∧ cur[j]? = some u := by
        intro j u h
        rw [List.getElem?_take] at h
        split at h
        · rename_i hj; exact ⟨hj, by simpa using h⟩
        · cases h
      refine ⟨cur.toList.take news.length, ⟨some ⟨g, 0, none⟩, c, h7, h3, h4, by simp; omega, fun u hu => ?_, fun h => by (cases h), fun _ => ⟨g, 0, rfl⟩, fun ad had j u hj => ?_⟩, by simp; omega, fun j p hp => ?_⟩
      · obtain ⟨j, hj, rfl⟩ := List.getElem_of_mem hu
        obtain ⟨hj1, hj2⟩ := hget j _ (List.getElem?_eq_getElem hj)
        obtain ⟨u, b1, b2, _⟩ := h14 j hj1
        rw [hj2] at b1
        obtain rfl := Option.some.inj b1
        exact b2
      · obtain rfl := Option.some.inj had
        rw [Addr.add_lit, Nat.zero_add]
        exact cell_in h11 (hget j u hj).2
      · have hj : j < news.length := (List.getElem?_eq_some_iff.1 hp).1
        obtain ⟨u, hu, hu1, hu2⟩ := h14 j hj
        exact ⟨u, by rw [List.getElem?_take, if_pos hj]; simpa using hu, hu1, hu2 p hp⟩
/-- append of elements that hold objects. -/
theorem op_apA {dd : Option Tmp} {ty : TypeId} (id' : Oid) (s x : Operand) (E : Elem P T e size bytes z) {id ib : Oid} {n : Nat} {xs : List AV} (hs : σ.eval s = .ref id 0 n) (hid : σ.ob id = .obj (.rowA e size xs)) (hl : n * size = xs.length) {m : Nat} {news : List AV} {e2 : TypeId} (hx : σ.eval x = .ref ib 0 m) (hib : σ.ob ib = .obj (.box e2 news)) (hm : m * size = news.length) (hb : (n + m) * bytes ≤ 140737488355328) (hid' : σ.ob id' = .free)
    (hi : σ.inc id = false) (hi' : σ.inc id' = false) {ys : List AV} (hy : xs ++ news = ys) {k : Nat} (hk : n + m = k) : Stp P dd (.call { callee := .builtin .append, args := #[s, x], argTypes := #[T, T] }) ty σ (((σ.setOb id .gone).setOb id' (.obj (.rowA e size ys))).put dd (.ref id' 0 k)) := by
  intro o hd ho ht
  subst hd; subst hy; subst hk
  have key : Step P o σ ((((σ.setOb id .gone).setOb id' (.obj (.rowA e size (xs ++ news)))).setInc id' (σ.inc id)).put o.dst (.ref id' 0 (n + m))) := by
    intro K ι S a w R
    obtain ⟨B, us, h1, hown, hul, hur, hblk⟩ := R.ownsA hid hs hl
    obtain ⟨vs, hsl, hvl, hvr⟩ := R.srcB hib hx hm
    obtain ⟨v', w', hr, h4, h5, _, h7⟩ := run_app (P := P) (T := T) o.type 0 (a.eval s) n us hown (a.eval x) m vs hsl hb (Nat.zero_le _)
    have hrun : (execOp a.eval o).run P w = .ok (.value v') w' := by
      unfold execOp
      simp only [ho, resolve, invoke, builtin, Sem.run_bind, Sem.run_pure, Result.andThen_ok, List.map_toArray, List.map_cons, List.map_nil, hr]
    have hkeep : Keeps (fun g => B.g = some g) w w' := (Keeps.grown h5).mono fun g hg => (hblk g).1 hg
    have hwS : ∀ k, S k → w'.heap[k]? = w.heap[k]? := fun k hk' => hkeep.block k (R.Slt k hk') fun hg => (R.sep id B k h1 hg).1 hk'
    have hhas : ∀ (i : Oid) (p : AV), p ∈ xs ++ news → Has i p → σ.ob i ≠ .free := by
      intro i p hp hi
      rcases List.mem_append.1 hp with hp | hp
      · exact R.clo id _ i hid ⟨p, hp, hi⟩
      · exact R.clo ib _ i hib ⟨p, hp, hi⟩
    have hι : ∀ (p : AV), p ∈ xs ++ news → ∀ i B', Has i p → ∀ B2, setI (setI ι id none) id' B2 i = some B' → ι i = some B' := by
      intro p hp i B' hi B2 hB
      have h1 : i ≠ id' := fun e => hhas i p hp hi (e ▸ hid')
      rw [setI_ne _ _ h1] at hB
      by_cases h2 : i = id
      · subst h2; rw [setI_same] at hB; cases hB
      · rwa [setI_ne _ _ h2] at hB
    have hcells : ∀ (j : Nat) (p : AV), (xs ++ news)[j]? = some p → ∃ u, (us ++ vs)[j]? = some u ∧ u.oneCell' = true ∧ ∀ B2, Rep (setI (setI ι id none) id' B2) S w' p u := by
      intro j p hp
      have hm := List.mem_of_getElem? hp
      rw [List.getElem?_append] at hp ⊢
      rw [hul]
      split at hp
      · rename_i hj
        rw [if_pos hj]
        obtain ⟨u, a1, a2, a3⟩ := hur j p hp
        exact ⟨u, a1, a2, fun B2 => a3.next hwS (fun _ h => h) fun i B' hi hB => hι p hm i B' hi B2 hB⟩
      · rename_i hj
        rw [if_neg hj]
        obtain ⟨u, a1, a2, a3⟩ := hvr _ p hp
        exact ⟨u, a1, a2, fun B2 => a3.next hwS (fun _ h => h) fun i B' hi hB => hι p hm i B' hi B2 hB⟩
    have hlen : (us ++ vs).length = (xs ++ news).length := by simp [hul, hvl]
    rcases own_split h4 with ⟨hv, hn0, hu0⟩ | ⟨g, c, cur, hv, hg, hnc, hcm, hcs, hcu⟩
    · subst hv
      have hxn : xs ++ news = [] := List.eq_nil_of_length_eq_zero (by rw [← hlen, hu0]; rfl)
      have R1 := R.moved (id' := id') (o' := .rowA e size (xs ++ news)) (B' := ⟨none, 0, size⟩) hid hid' h1 hkeep (fun g hg => by cases hg)
        ⟨_, setI_same _ _ _, rfl, .inl ⟨rfl, by rw [hxn]; rfl, rfl⟩⟩ (fun i hi => by rw [hxn] at hi; obtain ⟨_, h, _⟩ := hi; cases h)
      refine yields_value hrun ⟨_, S, R1.put o.dst (.ref (fun B2 hB2 => ?_) rfl) fun i hi => ?_⟩
      · rw [setI_same] at hB2
        obtain rfl := Option.some.inj hB2
        exact ⟨0, by omega, by unfold maxLen; omega, rfl, hn0, rfl⟩
      · cases hi; show ((σ.setOb id .gone).setOb id' _).ob id' ≠ _; rw [St.setOb_same]; intro h; cases h
    · subst hv
      have hle : (xs ++ news).length ≤ cur.size := by
        rw [← hlen]
        have := h4.1
        rw [this, hcs]
        exact Nat.mul_le_mul_right _ hnc
      have R1 := R.moved (id' := id') (o' := .rowA e size (xs ++ news)) (B' := ⟨some g, cur.size, size⟩) hid hid' h1 hkeep (fun g' hg' => by
          obtain rfl := Option.some.inj hg'
          rcases h7 with h | ⟨k, hk, hle⟩
          · exact .inl ((hblk g).1 (by rw [← h]; rfl))
          · right
            simp [Value.ownBlock] at hk
            omega)
        ⟨_, setI_same _ _ _, rfl, .inr ⟨g, cur, rfl, hg, rfl, hle, fun j hj => by
          obtain ⟨u, a1, a2, a3⟩ := hcells j _ (List.getElem?_eq_getElem hj)
          refine ⟨u, hcu j u a1, a2, fun p hp => ?_⟩
          rw [List.getElem?_eq_getElem hj] at hp
          obtain rfl := Option.some.inj hp
          exact a3 _⟩⟩ (fun i hi => by obtain ⟨p, hp, hi⟩ := hi; exact .inr (hhas i p hp hi))
      refine yields_value hrun ⟨_, S, R1.put o.dst (.ref (fun B2 hB2 => ?_) rfl) fun i hi => ?_⟩
      · rw [setI_same] at hB2
        obtain rfl := Option.some.inj hB2
        exact ⟨c, hnc, hcm, 0, rfl, .inl rfl, by simp [hcs]⟩
      · cases hi; show ((σ.setOb id .gone).setOb id' _).ob id' ≠ _; rw [St.setOb_same]; intro h; cases h
  rwa [hi, St.setInc_same (by exact hi')] at key
/-- The address of an element of such a row. -/
theorem op_ixA' {dd : Option Tmp} {ty : TypeId} {T e e' : TypeId} {size bytes : Nat} {z : List Value} (x y : Operand) (E : Elem P T e size bytes z) {id : Oid} {of0 n sz : Nat} {xs : List AV} (hx : σ.eval x = .ref id of0 n) (hid : σ.ob id = .obj (.rowA e' sz xs))
    {k : IntKind} {I : Int} (hy : σ.eval y = .v (.int k I)) (j : Nat) (hI : I = (j : Int)) (hj : j < n) {off : Nat} (he : of0 + j * size = off) : Stp P dd (.indexAddr T x y) ty σ (σ.put dd (.ptr id off)) := by
  intro o hd ho ht
  subst hd; subst he; subst hI
  refine step_val fun _ ι S a w R => ?_
  have hi := R.eval y
  rw [hy] at hi
  have hi := hi.toV
  obtain ⟨inf, zv, hinf, _, hs, _⟩ := E.info
  obtain ⟨B, h1, h2, _⟩ := R.ob id _ hid
  have hr := R.eval x
  rw [hx] at hr
  generalize hu : a.eval x = u at hr
  cases hr with
  | ref h _ =>
    obtain ⟨c, h3, h4, h5⟩ := h B h1
    cases hg : B.g with
    | none =>
      rw [hg] at h5
      obtain ⟨_, rfl, _⟩ := h5
      exact absurd hj (Nat.not_lt_zero _)
    | some g =>
      rw [hg] at h5
      obtain ⟨o', h6, h7, _⟩ := h5
      obtain rfl := h7.resolve_right (by omega)
      subst h6
      refine ⟨.pointer (some ⟨g, o' + j * size, none⟩), ?_, .ptr (fun B' hB' => ?_) rfl, fun i h => R.evalHas x (by rw [hx]; cases h; exact .ref)⟩
      · simp [execOp, ho, Instr.indexAt, hu, hi, asIntOf, run_underlying E.und, sizeOf, typeInfo, hinf, hs, hj, Addr.add_lit]
      · rw [h1] at hB'
        obtain rfl := Option.some.inj hB'
        exact ⟨g, hg, rfl⟩
theorem op_ldA' {dd : Option Tmp} {ty t : TypeId} {z : List Value} {av : AV} (x : Operand) (T : Ty P t false z) {id : Oid} {off : Nat} (hx : σ.eval x = .ptr id off) {e : TypeId} {sz : Nat} {xs : List AV} (hid : σ.ob id = .obj (.rowA e sz xs)) (hv : xs[off]? = some av) : Stp P dd (.load t x) ty σ (σ.put dd av) := by
  intro o hd ho ht
  subst hd
  refine step_val fun _ ι S a w R => ?_
  obtain ⟨B, g, h1, h2, h3⟩ := R.ptrB hid hx
  obtain ⟨B', h4, h5, h7⟩ := R.ob id _ hid
  rw [h1] at h4
  obtain rfl := Option.some.inj h4
  rcases h7 with ⟨h8, _⟩ | ⟨g2, cur, h8, h9, h10, h11, h12⟩
  · rw [h2] at h8; cases h8
  · rw [h2] at h8
    obtain rfl := Option.some.inj h8
    obtain ⟨u, hu, hu1, hu2⟩ := h12 off (List.getElem?_eq_some_iff.1 hv).1
    exact ⟨u, run_ld1 x ho h3 (cell_in h9 hu), hu2 _ hv, fun i h => R.clo id _ i hid ⟨av, List.mem_of_getElem? hv, h⟩⟩
theorem op_lenB {dd : Option Tmp} {ty : TypeId} {T e e' : TypeId} {size bytes : Nat} {z : List Value} (x : Operand) (E : Elem P T e size bytes z) {id : Oid} {off n : Nat} {xs : List AV} (hx : σ.eval x = .ref id off n) (hid : σ.ob id = .obj (.box e' xs)) : Stp P dd (.call { callee := .builtin .len, args := #[x], argTypes := #[T] }) ty σ (σ.put dd (.v (.int .i64 (n : Int)))) := by
  intro o hd ho ht
  subst hd
  refine step_val fun _ ι S a w R => ?_
  obtain ⟨B, g, h1, hg, _, _⟩ := R.ob id _ hid
  have hr := R.eval x
  rw [hx] at hr
  generalize hu : a.eval x = u at hr
  cases hr with
  | ref h _ =>
    obtain ⟨c, _, _, h5⟩ := h B h1
    rw [hg] at h5
    obtain ⟨o', rfl, _⟩ := h5
    exact ⟨_, by simp [execOp, ho, resolve, invoke, builtin, Builtin.len_, run_underlying E.und, hu, goInt], .v, fun _ => noHasV⟩
end

/-! ### Bundles -/

/-- A slice of slices: each row an object of its own, under the name (fam, its place). gr: the outer slice has room to grow. -/
structure Bun where
  box : Oid
  gr : Bool
  E : TypeId
  e : TypeId
  fam : Nat
  rows : List (List PV)

def Bun.cell (b : Bun) (j : Nat) : AV := .ref (b.fam, j) 0 (b.rows.getD j []).length
def Bun.cells (b : Bun) : List AV := (List.range b.rows.length).map b.cell
def Bun.outer (b : Bun) (cs : List AV) : Cells := bif b.gr then .rowA b.E 1 cs else .box b.E cs
def Bun.ob (b : Bun) (id : Oid) : Slot :=
  bif oeq id b.box then .obj (b.outer b.cells) else bif Nat.beq id.1 b.fam && Nat.blt id.2 b.rows.length then .obj (.row b.e 1 (b.rows.getD id.2 [])) else .free
def orFree : Slot → Slot → Slot
  | .free, s => s
  | s, _ => s
def mkStB (n : Nat) (l : List (Nat × AV)) (obs : List (Oid × Cells)) (b : Bun) (I Pn : List Oid) : St := ⟨n, frOf l, fun id => orFree (obOf obs id) (b.ob id), fun i => inO i I, pinOf Pn⟩

theorem Bun.cells_len (b : Bun) : b.cells.length = b.rows.length := by simp [Bun.cells]
theorem Bun.cells_get (b : Bun) {j : Nat} (hj : j < b.rows.length) : b.cells[j]? = some (b.cell j) := by simp [Bun.cells, hj]
/-- What the outer slice holds at j. -/
theorem bun_cell {b : Bun} {cs : List AV} {j n : Nat} {f : Nat} (hc : cs = b.cells) (hj : j < b.rows.length) (hn : (b.rows.getD j []).length = n) (hf : b.fam = f) : cs[j]? = some (.ref (f, j) 0 n) := by
  subst hc; subst hn; subst hf
  exact b.cells_get hj
theorem blt_iff {a b : Nat} : Nat.blt a b = true ↔ a < b := by
  simp only [Nat.blt, Nat.ble_eq]; omega
theorem Bun.ob_mem {b : Bun} (hb : b.box.1 ≠ b.fam) {j : Nat} (hj : j < b.rows.length) : b.ob (b.fam, j) = .obj (.row b.e 1 (b.rows.getD j [])) := by
  have h1 : oeq (b.fam, j) b.box = false := oeq_ne fun e => hb (by rw [← e])
  have h2 : Nat.blt j b.rows.length = true := blt_iff.2 hj
  simp [Bun.ob, h1, h2]
/-- The row at j. -/
theorem bun_row {b : Bun} {s : Slot} {e : TypeId} {j : Nat} {xs : List PV} (hs : s = b.ob (b.fam, j)) (hb : Nat.beq b.box.1 b.fam = false) (he : b.e = e) (hj : j < b.rows.length) (hx : b.rows.getD j [] = xs) : s = .obj (.row e 1 xs) := by
  subst hs; subst he; subst hx
  exact Bun.ob_mem (fun h => by rw [h] at hb; simp at hb) hj
theorem bun_other {j i : Nat} {f : Nat} {s x : Slot} (h : j ≠ i) : (bif oeq (f, j) (f, i) then s else x) = x := by
  rw [oeq_ne fun e => h (Prod.mk.inj e).2]; rfl
theorem bun_self {i : Nat} {f : Nat} {s x : Slot} : (bif oeq (f, i) (f, i) then s else x) = s := by rw [oeq_self]; rfl

def famFree (f : Nat) : List Oid → Bool
  | [] => true
  | i :: l => !(Nat.beq i.1 f) && famFree f l
theorem famFree_mem {f : Nat} {i : Oid} : ∀ {l : List Oid}, famFree f l = true → i ∈ l → i.1 ≠ f
  | [], _, h => by simp at h
  | x :: l, hl, hm => by
    simp only [famFree, Bool.and_eq_true, Bool.not_eq_true'] at hl
    rcases List.mem_cons.1 hm with h | hm
    · subst h
      intro e
      rw [e] at hl
      simp at hl
    · exact famFree_mem hl.2 hm
/-- The row i comes from T. -/
def rnB (f i : Nat) (T : Oid) (rn : List (Oid × Oid)) : Oid → Oid := fun id => bif oeq id (f, i) then T else rnOf rn id
theorem rnOf_fam {f : Nat} {j : Nat} : ∀ {rn : List (Oid × Oid)}, famFree f (rn.map (·.1)) = true → rnOf rn (f, j) = (f, j)
  | [], _ => rfl
  | (k, x) :: l, h => by
    simp only [List.map_cons, famFree, Bool.and_eq_true, Bool.not_eq_true'] at h
    have : oeq (f, j) k = false := oeq_ne fun e => by
      have h1 := h.1
      rw [← e] at h1
      simp at h1
    simp only [rnOf, this, cond_false]
    exact rnOf_fam h.2

theorem Le.genB {σ : St} {n : Nat} {slots : List (Nat × AV)} {obs : List (Oid × Cells)} {b : Bun} {I Pn : List Oid} (i : Nat) (T : Oid) (rn : List (Oid × Oid)) (Fz : List Oid) (hn : σ.n = n)
    (hs : AllLv (rnB b.fam i T rn) σ (fun i => inO i Fz) slots) (ho : AllLvI (rnB b.fam i T rn) σ (fun i => inO i Fz) I obs) (hi : AllInc σ Fz) (hp : AllPin (rnB b.fam i T rn) σ Pn)
    (hT : T = (b.fam, i) ∨ Nat.beq T.1 b.fam = false)
    (hb : (slotsWithin (b.box :: obs.map (·.1)) slots && obsWithin (b.box :: obs.map (·.1)) obs && nodupO (T :: (b.box :: obs.map (·.1)).map (rnOf rn)) && nodupO (b.box :: obs.map (·.1)) && subO Pn (obs.map (·.1)) && famFree b.fam (b.box :: obs.map (·.1)) && famFree b.fam ((b.box :: obs.map (·.1)).map (rnOf rn)) && famFree b.fam (rn.map (·.1)) && famFree b.fam I && famFree b.fam Fz && !(inO T Fz) && !(inO (rnOf rn b.box) Fz) && !(inO b.box I)) = true)
    (hbx : ∃ cs, σ.ob (rnOf rn b.box) = .obj (b.outer cs) ∧ cs.length = b.rows.length ∧ ∀ j a, cs[j]? = some a → Lv (rnB b.fam i T rn) σ (fun i => inO i Fz) (b.cell j) a) (hbi : σ.inc (rnOf rn b.box) = false)
    (hm : ∀ j, j < b.rows.length → j ≠ i → (∃ ys, σ.ob (b.fam, j) = .obj (.row b.e 1 (b.rows.getD j [] ++ ys))) ∧ σ.inc (b.fam, j) = false)
    (hmi : i < b.rows.length → (∃ ys, σ.ob T = .obj (.row b.e 1 (b.rows.getD i [] ++ ys))) ∧ σ.inc T = false) : Le (mkStB n slots obs b I Pn) σ := by
  simp only [Bool.and_eq_true, Bool.not_eq_true'] at hb
  obtain ⟨⟨⟨⟨⟨⟨⟨⟨⟨⟨⟨⟨b1, b2⟩, b3⟩, b3'⟩, b4⟩, b5⟩, b6⟩, b7⟩, b8⟩, b9⟩, b10⟩, b11⟩, b12⟩ := hb
  have hbf : b.box.1 ≠ b.fam := famFree_mem b5 List.mem_cons_self
  have hc0 : ∀ c : Oid, c.1 ≠ b.fam → rnB b.fam i T rn c = rnOf rn c := fun c hc => by
    simp only [rnB, oeq_ne (fun e => hc (by rw [e]) : c ≠ (b.fam, i)), cond_false]
  have hmi' : rnB b.fam i T rn (b.fam, i) = T := by simp only [rnB, oeq_self, cond_true]
  have hmj : ∀ j, j ≠ i → rnB b.fam i T rn (b.fam, j) = (b.fam, j) := fun j hj => by
    simp only [rnB, oeq_ne (fun e => hj (Prod.mk.inj e).2 : (b.fam, j) ≠ (b.fam, i)), cond_false]
    exact rnOf_fam b7
  -- what stands at a name
  have hob : ∀ id o, (mkStB n slots obs b I Pn).ob id = .obj o → (obOf obs id = .obj o ∧ id ∈ obs.map (·.1)) ∨ (id = b.box ∧ o = b.outer b.cells) ∨ ∃ j, id = (b.fam, j) ∧ j < b.rows.length ∧ o = .row b.e 1 (b.rows.getD j []) := by
    intro id o h
    simp only [mkStB] at h
    cases hx : obOf obs id with
    | obj o' => rw [hx] at h; exact .inl ⟨h, List.mem_map_of_mem (f := (·.1)) (obOf_mem hx)⟩
    | gone => rw [hx] at h; cases h
    | free =>
      rw [hx] at h
      replace h : b.ob id = .obj o := h
      simp only [Bun.ob] at h
      cases hq : oeq id b.box with
      | true => rw [hq] at h; exact .inr (.inl ⟨oeq_iff.1 hq, (Slot.obj.inj h).symm⟩)
      | false =>
        rw [hq] at h
        cases hr : (Nat.beq id.1 b.fam && Nat.blt id.2 b.rows.length) with
        | false => rw [hr] at h; cases h
        | true =>
          rw [hr] at h
          simp only [Bool.and_eq_true] at hr
          exact .inr (.inr ⟨id.2, by rw [← Nat.eq_of_beq_eq_true hr.1], blt_iff.1 hr.2, (Slot.obj.inj h).symm⟩)
  have hne : ∀ id, id ∈ b.box :: obs.map (·.1) → (mkStB n slots obs b I Pn).ob id ≠ .free := by
    intro id h
    simp only [mkStB]
    rcases List.mem_cons.1 h with h | h
    · subst h
      cases hx : obOf obs b.box with
      | obj o' => intro h; cases h
      | gone => intro h; cases h
      | free =>
        show b.ob b.box ≠ .free
        simp [Bun.ob, oeq_self]
    · have := obOf_ne h
      cases hx : obOf obs id with
      | obj o' => intro h; cases h
      | gone => intro h; cases h
      | free => exact absurd hx this
  have hnf : ∀ j, j < b.rows.length → (mkStB n slots obs b I Pn).ob (b.fam, j) ≠ .free := by
    intro j hj
    simp only [mkStB]
    cases hx : obOf obs (b.fam, j) with
    | obj o' => intro h; cases h
    | gone => intro h; cases h
    | free => show b.ob (b.fam, j) ≠ .free; rw [Bun.ob_mem hbf hj]; intro h; cases h
  have hcon : ∀ id, id ∈ obs.map (·.1) → id.1 ≠ b.fam := fun id h => famFree_mem b5 (List.mem_cons_of_mem _ h)
  have hFm : ∀ j, inO (b.fam, j) Fz = false := fun j => by
    cases h : inO (b.fam, j) Fz with
    | false => rfl
    | true => exact absurd rfl (famFree_mem b9 (inO_iff.1 h))
  have hIm : ∀ j, inO (b.fam, j) I = false := fun j => by
    cases h : inO (b.fam, j) I with
    | false => rfl
    | true => exact absurd rfl (famFree_mem b8 (inO_iff.1 h))
  have hnd := nodupO_iff b3
  rw [List.nodup_cons] at hnd
  have hTn : ∀ c, c ∈ b.box :: obs.map (·.1) → rnOf rn c ≠ T := fun c hc e => hnd.1 (e ▸ List.mem_map_of_mem hc)
  have hcf : ∀ c, c ∈ b.box :: obs.map (·.1) → (rnOf rn c).1 ≠ b.fam := fun c hc => famFree_mem b6 (List.mem_map_of_mem hc)
  have himg : ∀ id o, (mkStB n slots obs b I Pn).ob id = .obj o → (id ∈ b.box :: obs.map (·.1) ∧ rnB b.fam i T rn id = rnOf rn id) ∨ (id = (b.fam, i) ∧ rnB b.fam i T rn id = T) ∨ ∃ j, j ≠ i ∧ id = (b.fam, j) ∧ rnB b.fam i T rn id = (b.fam, j) := by
    intro id o h
    rcases hob id o h with ⟨_, h⟩ | ⟨h, _⟩ | ⟨j, h, hj, _⟩
    · exact .inl ⟨List.mem_cons_of_mem _ h, hc0 _ (hcon _ h)⟩
    · subst h; exact .inl ⟨List.mem_cons_self, hc0 _ hbf⟩
    · subst h
      by_cases hji : j = i
      · subst hji; exact .inr (.inl ⟨rfl, hmi'⟩)
      · exact .inr (.inr ⟨j, hji, rfl, hmj j hji⟩)
  have hTj : ∀ j, j ≠ i → T ≠ (b.fam, j) := by
    intro j hj e
    rcases hT with h | h
    · rw [h] at e; exact hj (Prod.mk.inj e).2.symm
    · rw [e] at h; simp at h
  refine Le.of (rnB b.fam i T rn) (fun i => inO i Fz) hn.symm (fun t _ => frOf_lv hs t) (fun id o h => ?_) (fun id id' o o' h h' he => ?_) (fun id h => ?_) (fun id o h hf => ?_) (fun t id h => hne id (slots_has b1 h)) (fun id' o id h hh => ?_) (fun id h o hpn _ => ?_) (fun id hf => ?_)
  · rcases hob id o h with ⟨h, _⟩ | ⟨h, h'⟩ | ⟨j, h, hj, h'⟩
    · exact ⟨(allLvI_mem ho (obOf_mem h)).1, (allLvI_mem ho (obOf_mem h)).2.1⟩
    · subst h; subst h'
      rw [hc0 _ hbf]
      obtain ⟨cs, c1, c2, c3⟩ := hbx
      refine ⟨b11, _, c1, ?_⟩
      have key : ∀ (j : Nat) (a d : AV), b.cells[j]? = some a → cs[j]? = some d → Lv (rnB b.fam i T rn) σ (fun i => inO i Fz) a d := by
        intro j a d ha hd
        have hj : j < b.rows.length := by rw [← b.cells_len]; exact (List.getElem?_eq_some_iff.1 ha).1
        rw [b.cells_get hj] at ha
        obtain rfl := Option.some.inj ha
        exact c3 j d hd
      unfold Bun.outer
      cases b.gr
      · exact .box (by rw [b.cells_len, c2]) key
      · exact .rowA (by rw [b.cells_len, c2]) key
    · subst h; subst h'
      by_cases hji : j = i
      · subst hji
        rw [hmi']
        obtain ⟨⟨ys, h1⟩, _⟩ := hmi hj
        exact ⟨b10, _, h1, .row rfl⟩
      · rw [hmj j hji]
        obtain ⟨⟨ys, h1⟩, _⟩ := hm j hj hji
        exact ⟨hFm j, _, h1, .row rfl⟩
  · have hcc := nodupO_iff b3'
    rcases himg id o h with ⟨m1, m2⟩ | ⟨m1, m2⟩ | ⟨j, m0, m1, m2⟩ <;> rcases himg id' o' h' with ⟨n1, n2⟩ | ⟨n1, n2⟩ | ⟨j', n0, n1, n2⟩ <;> rw [m2, n2] at he
    · exact inj_of_nodup (rnOf rn) hnd.2 m1 n1 he
    · exact absurd he (hTn id m1)
    · exact absurd (by rw [he]) (hcf id m1)
    · exact absurd he.symm (hTn id' n1)
    · rw [m1, n1]
    · exact absurd he (hTj j' n0)
    · exact absurd (by rw [← he]) (hcf id' n1)
    · exact absurd he.symm (hTj j m0)
    · rw [m1, n1, he]
  · exact allInc_mem hi (inO_iff.1 h)
  · rcases hob id o h with ⟨h, _⟩ | ⟨h, _⟩ | ⟨j, h, hj, _⟩
    · have := (allLvI_mem ho (obOf_mem h)).2.2
      simp only [mkStB] at hf
      rw [hf] at this
      exact this
    · subst h; rw [hc0 _ hbf]; exact hbi
    · subst h
      by_cases hji : j = i
      · subst hji; rw [hmi']; exact (hmi hj).2
      · rw [hmj j hji]; exact (hm j hj hji).2
  · rcases hob id' o h with ⟨h, _⟩ | ⟨_, h'⟩ | ⟨j, _, hj, h'⟩
    · exact hne id (obs_has b2 (obOf_mem h) hh)
    · subst h'
      have : ∃ a ∈ b.cells, Has id a := by
        unfold Bun.outer at hh
        cases hg : b.gr <;> rw [hg] at hh <;> exact hh
      obtain ⟨a, ha, hi2⟩ := this
      simp only [Bun.cells, List.mem_map, List.mem_range] at ha
      obtain ⟨j, hj, rfl⟩ := ha
      cases hi2
      exact hnf j hj
    · subst h'; exact hh.elim
  · simp only [mkStB, pinOf] at hpn
    cases hb : inO id Pn with
    | true => rw [hb] at hpn; obtain rfl := Option.some.inj hpn; exact allPin_mem hp (inO_iff.1 hb)
    | false => rw [hb] at hpn; cases hpn
  · simp only [mkStB, pinOf]
    cases hb : inO id Pn with
    | true =>
      exact absurd hf (hne id (List.mem_cons_of_mem _ (subO_mem b4 (inO_iff.1 hb))))
    | false => rfl
end Go.Proofs.Ytkbkmngbenohkaa

namespace Go.Proofs.Ytkbkmngbenohkaa
open Go.RowKit

def okB (slots : List (Nat × AV)) (obs : List (Oid × Cells)) (box : Oid) (fam : Nat) (T : Oid) (rn : List (Oid × Oid)) (Fz I Pn : List Oid) : Bool :=
  (slotsWithin (box :: obs.map (·.1)) slots && obsWithin (box :: obs.map (·.1)) obs && nodupO (T :: (box :: obs.map (·.1)).map (rnOf rn)) && nodupO (box :: obs.map (·.1)) && subO Pn (obs.map (·.1)) && famFree fam (box :: obs.map (·.1)) && famFree fam ((box :: obs.map (·.1)).map (rnOf rn)) && famFree fam (rn.map (·.1)) && famFree fam I && famFree fam Fz && !(inO T Fz) && !(inO (rnOf rn box) Fz) && !(inO box I))

theorem getD_set_eq {α : Type} {l : List α} {i : Nat} {x d : α} (h : i < l.length) : (l.set i x).getD i d = x := by simp [List.getD_eq_getElem?_getD, h]
theorem getD_set_ne' {α : Type} {l : List α} {i j : Nat} {x d : α} (h : j ≠ i) : (l.set i x).getD j d = l.getD j d := by
  simp [List.getD_eq_getElem?_getD, List.getElem?_set_ne (Ne.symm h)]
theorem getD_push_eq {α : Type} {l : List α} {x d : α} : (l ++ [x]).getD l.length d = x := by simp [List.getD_eq_getElem?_getD]
theorem getD_push_ne {α : Type} {l : List α} {j : Nat} {x d : α} (h : j < l.length) : (l ++ [x]).getD j d = l.getD j d := by
  simp [List.getD_eq_getElem?_getD, List.getElem?_append, h]

section
variable {σ : St} {n : Nat} {slots : List (Nat × AV)} {obs : List (Oid × Cells)} {I Pn : List Oid} {bx bx0 : Oid} {gr : Bool} {E e : TypeId} {fam : Nat} {rows : List (List PV)}

theorem rnB_fam {i j : Nat} {T : Oid} {rn : List (Oid × Oid)} (h : famFree fam (rn.map (·.1)) = true) (hj : j ≠ i) : rnB fam i T rn (fam, j) = (fam, j) := by
  simp only [rnB, oeq_ne (fun e => hj (Prod.mk.inj e).2 : (fam, j) ≠ (fam, i)), cond_false]
  exact rnOf_fam h
theorem rnB_self {i : Nat} {T : Oid} {rn : List (Oid × Oid)} : rnB fam i T rn (fam, i) = T := by simp only [rnB, oeq_self, cond_true]

theorem okB_rn {T : Oid} {rn : List (Oid × Oid)} {Fz : List Oid} (h : okB slots obs bx fam T rn Fz I Pn = true) : famFree fam (rn.map (·.1)) = true := by
  simp only [okB, Bool.and_eq_true] at h
  exact h.1.1.1.1.1.2
/-- A bundle stays as it is. -/
theorem Le.keepB {rows' : List (List PV)} (rn : List (Oid × Oid)) (Fz : List Oid) (hn : σ.n = n)
    (hs : AllLv (rnB fam 0 (fam, 0) rn) σ (fun i => inO i Fz) slots) (ho : AllLvI (rnB fam 0 (fam, 0) rn) σ (fun i => inO i Fz) I obs) (hi : AllInc σ Fz) (hp : AllPin (rnB fam 0 (fam, 0) rn) σ Pn)
    (hb : okB slots obs bx fam (fam, 0) rn Fz I Pn = true)
    (hr : rows' = rows)
    (hbx : σ.ob (rnOf rn bx) = .obj ((⟨bx0, gr, E, e, fam, rows⟩ : Bun).outer (⟨bx0, gr, E, e, fam, rows⟩ : Bun).cells)) (hbi : σ.inc (rnOf rn bx) = false)
    (hfam : ∀ j, σ.ob (fam, j) = (⟨bx0, gr, E, e, fam, rows⟩ : Bun).ob (fam, j)) (h0 : Nat.beq bx0.1 fam = false) (hinc : ∀ j, σ.inc (fam, j) = false) : Le (mkStB n slots obs ⟨bx, gr, E, e, fam, rows'⟩ I Pn) σ := by
  subst hr
  have h0' : bx0.1 ≠ fam := fun h => by rw [h] at h0; simp at h0
  have hall : ∀ j, rnB fam 0 (fam, 0) rn (fam, j) = (fam, j) := fun j => by
    by_cases h : j = 0
    · subst h; exact rnB_self
    · exact rnB_fam (okB_rn hb) h
  have hm : ∀ j, j < rows'.length → (∃ ys, σ.ob (fam, j) = .obj (.row e 1 (rows'.getD j [] ++ ys))) ∧ σ.inc (fam, j) = false := fun j hj =>
    ⟨⟨[], by rw [hfam j, List.append_nil]; exact Bun.ob_mem (b := ⟨bx0, gr, E, e, fam, rows'⟩) h0' hj⟩, hinc j⟩
  refine Le.genB 0 (fam, 0) rn Fz hn hs ho hi hp (.inl rfl) hb ⟨_, hbx, Bun.cells_len _, fun j a ha => ?_⟩ hbi (fun j hj _ => hm j hj) fun h => hm 0 h
  have hj : j < rows'.length := by
    have := (List.getElem?_eq_some_iff.1 ha).1
    rwa [Bun.cells_len] at this
  rw [Bun.cells_get _ hj] at ha
  obtain rfl := Option.some.inj ha
  exact lvRr (hall j) rfl
/-- A row is another object now. -/
theorem Le.setB {r : List PV} {rows' : List (List PV)} {m : Nat} (i : Nat) (T : Oid) (rn : List (Oid × Oid)) (Fz : List Oid) (hn : σ.n = n)
    (hs : AllLv (rnB fam i T rn) σ (fun i => inO i Fz) slots) (ho : AllLvI (rnB fam i T rn) σ (fun i => inO i Fz) I obs) (hi : AllInc σ Fz) (hp : AllPin (rnB fam i T rn) σ Pn)
    (hT : Nat.beq T.1 fam = false) (hb : okB slots obs bx fam T rn Fz I Pn = true)
    (hr : rows' = rows.set i r) (hm : r.length = m)
    (hbx : σ.ob (rnOf rn bx) = .obj ((⟨bx0, gr, E, e, fam, rows⟩ : Bun).outer ((⟨bx0, gr, E, e, fam, rows⟩ : Bun).cells.set i (.ref T 0 m)))) (hbi : σ.inc (rnOf rn bx) = false)
    (hob : σ.ob T = .obj (.row e 1 r)) (hti : σ.inc T = false)
    (hfam : ∀ j, j ≠ i → σ.ob (fam, j) = (⟨bx0, gr, E, e, fam, rows⟩ : Bun).ob (fam, j)) (h0 : Nat.beq bx0.1 fam = false) (hinc : ∀ j, σ.inc (fam, j) = false) : Le (mkStB n slots obs ⟨bx, gr, E, e, fam, rows'⟩ I Pn) σ := by
  subst hr; subst hm
  have h0' : bx0.1 ≠ fam := fun h => by rw [h] at h0; simp at h0
  refine Le.genB i T rn Fz hn hs ho hi hp (.inr hT) hb ⟨_, hbx, by rw [List.length_set, Bun.cells_len]; simp, fun j a ha => ?_⟩ hbi (fun j hj hji => ⟨⟨[], ?_⟩, hinc j⟩) fun h => ⟨⟨[], ?_⟩, hti⟩
  · have hj : j < rows.length := by
      have := (List.getElem?_eq_some_iff.1 ha).1
      rwa [List.length_set, Bun.cells_len] at this
    by_cases hji : j = i
    · subst hji
      rw [List.getElem?_set_self (by rw [Bun.cells_len]; exact hj)] at ha
      obtain rfl := Option.some.inj ha
      exact lvRr rnB_self (by show ((rows.set j r).getD j []).length = _; rw [getD_set_eq hj])
    · rw [List.getElem?_set_ne (Ne.symm hji), Bun.cells_get _ hj] at ha
      obtain rfl := Option.some.inj ha
      exact lvRr (rnB_fam (okB_rn hb) hji) (by show ((rows.set i r).getD j []).length = _; rw [getD_set_ne' hji])
  · simp only [List.length_set] at hj
    rw [hfam j hji, List.append_nil]
    show _ = Slot.obj (.row e 1 ((rows.set i r).getD j []))
    rw [getD_set_ne' hji]
    exact Bun.ob_mem (b := ⟨bx0, gr, E, e, fam, rows⟩) h0' hj
  · simp only [List.length_set] at h
    show σ.ob T = Slot.obj (.row e 1 ((rows.set i r).getD i [] ++ []))
    rw [getD_set_eq h, List.append_nil]
    exact hob
/-- A row is added. -/
theorem Le.pushB {r : List PV} {rows' : List (List PV)} {m k : Nat} (T : Oid) (rn : List (Oid × Oid)) (Fz : List Oid) (hk : rows.length = k) (hn : σ.n = n)
    (hs : AllLv (rnB fam k T rn) σ (fun i => inO i Fz) slots) (ho : AllLvI (rnB fam k T rn) σ (fun i => inO i Fz) I obs) (hi : AllInc σ Fz) (hp : AllPin (rnB fam k T rn) σ Pn)
    (hT : Nat.beq T.1 fam = false) (hb : okB slots obs bx fam T rn Fz I Pn = true)
    (hr : rows' = rows ++ [r]) (hm : r.length = m)
    (hbx : σ.ob (rnOf rn bx) = .obj ((⟨bx0, gr, E, e, fam, rows⟩ : Bun).outer ((⟨bx0, gr, E, e, fam, rows⟩ : Bun).cells ++ [.ref T 0 m]))) (hbi : σ.inc (rnOf rn bx) = false)
    (hob : σ.ob T = .obj (.row e 1 r)) (hti : σ.inc T = false)
    (hfam : ∀ j, σ.ob (fam, j) = (⟨bx0, gr, E, e, fam, rows⟩ : Bun).ob (fam, j)) (h0 : Nat.beq bx0.1 fam = false) (hinc : ∀ j, σ.inc (fam, j) = false) : Le (mkStB n slots obs ⟨bx, gr, E, e, fam, rows'⟩ I Pn) σ := by
  subst hr; subst hm; subst hk
  have h0' : bx0.1 ≠ fam := fun h => by rw [h] at h0; simp at h0
  refine Le.genB rows.length T rn Fz hn hs ho hi hp (.inr hT) hb ⟨_, hbx, by rw [List.length_append, Bun.cells_len]; simp, fun j a ha => ?_⟩ hbi (fun j hj hji => ⟨⟨[], ?_⟩, hinc j⟩) fun h => ⟨⟨[], ?_⟩, hti⟩
  · rw [List.getElem?_append, Bun.cells_len] at ha
    split at ha
    · rename_i hj
      rw [Bun.cells_get _ hj] at ha
      obtain rfl := Option.some.inj ha
      replace hj : j < rows.length := hj
      exact lvRr (rnB_fam (okB_rn hb) (by omega)) (by show ((rows ++ [r]).getD j []).length = _; rw [getD_push_ne hj])
    · rename_i hj
      replace hj : ¬ j < rows.length := hj
      cases hx : j - rows.length with
      | zero =>
        rw [show j - (Bun.rows ⟨bx0, gr, E, e, fam, rows⟩).length = 0 from hx] at ha
        obtain rfl := Option.some.inj ha
        obtain rfl : j = rows.length := by omega
        exact lvRr rnB_self (by show ((rows ++ [r]).getD rows.length []).length = _; rw [getD_push_eq])
      | succ q => rw [show j - (Bun.rows ⟨bx0, gr, E, e, fam, rows⟩).length = q + 1 from hx] at ha; simp at ha
  · simp only [List.length_append, List.length_cons, List.length_nil] at hj
    rw [hfam j, List.append_nil]
    show _ = Slot.obj (.row e 1 ((rows ++ [r]).getD j []))
    rw [getD_push_ne (by omega)]
    exact Bun.ob_mem (b := ⟨bx0, gr, E, e, fam, rows⟩) h0' (show j < rows.length by omega)
  · show σ.ob T = Slot.obj (.row e 1 ((rows ++ [r]).getD rows.length [] ++ []))
    rw [getD_push_eq, List.append_nil]
    exact hob
/-- A row is written. -/
theorem Le.putB {r : List PV} {rows' : List (List PV)} (i : Nat) (rn : List (Oid × Oid)) (Fz : List Oid) (hn : σ.n = n)
    (hs : AllLv (rnB fam i (fam, i) rn) σ (fun i => inO i Fz) slots) (ho : AllLvI (rnB fam i (fam, i) rn) σ (fun i => inO i Fz) I obs) (hi : AllInc σ Fz) (hp : AllPin (rnB fam i (fam, i) rn) σ Pn)
    (hb : okB slots obs bx fam (fam, i) rn Fz I Pn = true)
    (hr : rows' = rows.set i r) (hm : r.length = (rows.getD i []).length)
    (hbx : σ.ob (rnOf rn bx) = .obj ((⟨bx0, gr, E, e, fam, rows⟩ : Bun).outer (⟨bx0, gr, E, e, fam, rows⟩ : Bun).cells)) (hbi : σ.inc (rnOf rn bx) = false)
    (hob : σ.ob (fam, i) = .obj (.row e 1 r))
    (hfam : ∀ j, j ≠ i → σ.ob (fam, j) = (⟨bx0, gr, E, e, fam, rows⟩ : Bun).ob (fam, j)) (h0 : Nat.beq bx0.1 fam = false) (hinc : ∀ j, σ.inc (fam, j) = false) : Le (mkStB n slots obs ⟨bx, gr, E, e, fam, rows'⟩ I Pn) σ := by
  subst hr
  have h0' : bx0.1 ≠ fam := fun h => by rw [h] at h0; simp at h0
  have hall : ∀ j, rnB fam i (fam, i) rn (fam, j) = (fam, j) := fun j => by
    by_cases h : j = i
    · subst h; exact rnB_self
    · exact rnB_fam (okB_rn hb) h
  refine Le.genB i (fam, i) rn Fz hn hs ho hi hp (.inl rfl) hb ⟨_, hbx, by rw [Bun.cells_len]; simp, fun j a ha => ?_⟩ hbi (fun j hj hji => ⟨⟨[], ?_⟩, hinc j⟩) fun h => ⟨⟨[], ?_⟩, hinc i⟩
  · have hj : j < rows.length := by
      have := (List.getElem?_eq_some_iff.1 ha).1
      rwa [Bun.cells_len] at this
    rw [Bun.cells_get _ hj] at ha
    obtain rfl := Option.some.inj ha
    refine lvRr (hall j) ?_
    show ((rows.set i r).getD j []).length = (rows.getD j []).length
    by_cases hji : j = i
    · subst hji; rw [getD_set_eq hj, hm]
    · rw [getD_set_ne' hji]
  · simp only [List.length_set] at hj
    rw [hfam j hji, List.append_nil]
    show _ = Slot.obj (.row e 1 ((rows.set i r).getD j []))
    rw [getD_set_ne' hji]
    exact Bun.ob_mem (b := ⟨bx0, gr, E, e, fam, rows⟩) h0' hj
  · simp only [List.length_set] at h
    show σ.ob (fam, i) = Slot.obj (.row e 1 ((rows.set i r).getD i [] ++ []))
    rw [getD_set_eq h, List.append_nil]
    exact hob

/-! new bundles, and ones that are only read from here on -/
def famOb (f : Nat) (e : TypeId) (k : Nat) (bx : Oid) (o : Slot) (ob : Oid → Slot) : Oid → Slot := fun id =>
  bif oeq id bx then o else bif Nat.beq id.1 f && Nat.blt id.2 k then .obj (.row e 1 []) else ob id
/-- The nil elements of a new slice are rows of their own. -/
theorem Le.newB0 (f : Nat) (e : TypeId) {ib : Oid} {E : TypeId} {k : Nat} (hib : σ.ob ib = .obj (.box E (List.replicate k (.v (.slice none 0 0))))) (hbf : Nat.beq ib.1 f = false) (hfr : ∀ j, σ.ob (f, j) = .free) (hinc : ∀ j, σ.inc (f, j) = false) :
    Le { σ with ob := famOb f e k ib (.obj (.box E ((List.range k).map fun j => .ref (f, j) 0 0))) σ.ob } σ := by
  intro K ι S a w R
  have hne : ib.1 ≠ f := fun h => by rw [h] at hbf; simp at hbf
  let mem : Oid → Prop := fun id => id.1 = f ∧ id.2 < k
  have hmem : ∀ id, (Nat.beq id.1 f && Nat.blt id.2 k) = true ↔ mem id := fun id => by
    rw [Bool.and_eq_true, blt_iff]
    exact ⟨fun h => ⟨Nat.eq_of_beq_eq_true h.1, h.2⟩, fun h => ⟨by rw [h.1]; exact Nat.beq_refl f, h.2⟩⟩
  have hmfree : ∀ id, mem id → σ.ob id = .free := fun id h => by
    have := hfr id.2
    rwa [show (f, id.2) = id from by rw [← h.1]] at this
  have hmb : ∀ id, mem id → id ≠ ib := fun id h e => hne (by rw [← e]; exact h.1)
  let ι' : Oid → Option Blk := fun id => bif Nat.beq id.1 f && Nat.blt id.2 k then some ⟨none, 0, 1⟩ else ι id
  have hι1 : ∀ id, mem id → ι' id = some ⟨none, 0, 1⟩ := fun id h => by simp only [ι', (hmem id).2 h, cond_true]
  have hι2 : ∀ id, ¬ mem id → ι' id = ι id := fun id h => by
    cases hb : (Nat.beq id.1 f && Nat.blt id.2 k) with
    | true => exact absurd ((hmem id).1 hb) h
    | false => simp only [ι', hb, cond_false]
  have hob1 : famOb f e k ib (.obj (.box E ((List.range k).map fun j => .ref (f, j) 0 0))) σ.ob ib = .obj (.box E ((List.range k).map fun j => .ref (f, j) 0 0)) := by simp only [famOb, oeq_self, cond_true]
  have hob2 : ∀ id, mem id → famOb f e k ib (.obj (.box E ((List.range k).map fun j => .ref (f, j) 0 0))) σ.ob id = .obj (.row e 1 []) := fun id h => by
    simp only [famOb, oeq_ne (hmb id h), cond_false, (hmem id).2 h, cond_true]
  have hob3 : ∀ id, id ≠ ib → ¬ mem id → famOb f e k ib (.obj (.box E ((List.range k).map fun j => .ref (f, j) 0 0))) σ.ob id = σ.ob id := fun id h h' => by
    cases hb : (Nat.beq id.1 f && Nat.blt id.2 k) with
    | true => exact absurd ((hmem id).1 hb) h'
    | false => simp only [famOb, oeq_ne h, cond_false, hb]
  obtain ⟨B, g, h1, h2, h3, h4⟩ := R.ob ib _ hib
  have hbm : ¬ mem ib := fun h => hmb ib h rfl
  refine ⟨ι', S, R.gen (ob' := famOb f e k ib (.obj (.box E ((List.range k).map fun j => .ref (f, j) 0 0))) σ.ob) (inc' := σ.inc) (fun id => id = ib ∨ mem id) ((Keeps.refl (fun _ => False) w).mono fun g h => h.elim) (fun id h => hι2 id fun h' => h (.inr h')) (fun id h => hob3 id (fun h' => h (.inl h')) fun h' => h (.inr h')) (fun _ _ => rfl)
    (fun id h => ?_) (fun _ h => h) (fun _ h => .inl h) R.Slt (fun id B' hM hB => ?_) (fun id o hM ho => ?_) (fun id B' hM hB => ?_) (fun id id' B1 B2 g hM hB1 hB2 hg1 hg2 => ?_) (fun id B' g hM hB hg => ?_) (fun id h o hM hp ho => ?_)⟩
  · by_cases h5 : id = ib
    · subst h5; rw [hob1] at h; cases h
    · by_cases h6 : mem id
      · rw [hob2 id h6] at h; cases h
      · rwa [hob3 id h5 h6] at h
  · rcases hM with h | h
    · subst h; rw [hι2 _ hbm] at hB; exact .inl hB
    · exact .inr (hmfree id h)
  · rcases hM with h | h
    · subst h
      rw [hob1] at ho
      obtain rfl := Slot.obj.inj ho
      refine ⟨⟨B, g, by rw [hι2 _ hbm]; exact h1, h2, by simpa using h3, ?_⟩, fun id' hi => ?_⟩
      · simp only [List.length_map, List.length_range]
        simp only [List.length_replicate] at h4
        refine h4.next (fun _ _ => rfl) fun j u hu b hb => ?_
        rw [List.getElem?_map] at hb
        obtain ⟨q, hq, rfl⟩ := Option.map_eq_some_iff.1 hb
        have hj : j < k := by have := (List.getElem?_eq_some_iff.1 hq).1; simpa using this
        rw [List.getElem?_range hj] at hq
        obtain rfl := Option.some.inj hq
        have := (hu (.v (.slice none 0 0)) (by simp [hj])).toV
        subst this
        refine .ref (fun B' hB => ?_) rfl
        rw [hι1 (f, j) ⟨rfl, hj⟩] at hB
        obtain rfl := Option.some.inj hB
        exact ⟨0, Nat.le_refl _, by unfold maxLen; omega, rfl, rfl, rfl⟩
      · obtain ⟨b, hb, hi⟩ := hi
        simp only [List.mem_map, List.mem_range] at hb
        obtain ⟨j, hj, rfl⟩ := hb
        cases hi
        rw [hob2 (f, j) ⟨rfl, hj⟩]; intro h; cases h
    · rw [hob2 id h] at ho
      obtain rfl := Slot.obj.inj ho
      exact ⟨⟨_, hι1 id h, rfl, .inl ⟨rfl, rfl, rfl⟩⟩, fun id' hi => hi.elim⟩
  · rcases hM with h | h
    · subst h; exact ⟨_, hob1⟩
    · exact ⟨_, hob2 id h⟩
  · rcases hM with h | h
    · subst h
      rw [hι2 _ hbm] at hB1
      by_cases h6 : mem id'
      · rw [hι1 id' h6] at hB2; obtain rfl := Option.some.inj hB2; cases hg2
      · rw [hι2 id' h6] at hB2; exact R.inj _ _ _ _ _ hB1 hB2 hg1 hg2
    · rw [hι1 id h] at hB1; obtain rfl := Option.some.inj hB1; cases hg1
  · rcases hM with h | h
    · subst h; rw [hι2 _ hbm] at hB; exact R.sep _ _ _ hB hg
    · rw [hι1 id h] at hB; obtain rfl := Option.some.inj hB; cases hg
  · rcases hM with h5 | h5
    · subst h5; exact ⟨hι2 _ hbm, _, hib⟩
    · rw [R.pf id (hmfree id h5)] at hp; cases hp
theorem newB_cells {k : Nat} {f : Nat} {bx : Oid} {gr : Bool} {E e : TypeId} : ((List.range k).map fun j => AV.ref (f, j) 0 0) = (⟨bx, gr, E, e, f, List.replicate k []⟩ : Bun).cells := by
  unfold Bun.cells Bun.cell
  simp only [List.length_replicate]
  apply List.map_congr_left
  intro j hj
  rw [List.getD_eq_getElem?_getD, List.getElem?_replicate]
  split <;> rfl
theorem Le.newB {rows' : List (List PV)} (f : Nat) (e : TypeId) {ib : Oid} {E : TypeId} {k : Nat} (hib : σ.ob ib = .obj (.box E (List.replicate k (.v (.slice none 0 0))))) (hbf : Nat.beq ib.1 f = false) (hfr : ∀ j, σ.ob (f, j) = .free) (hinc : ∀ j, σ.inc (f, j) = false) (hbi : σ.inc ib = false) (rn : List (Oid × Oid)) (hn : σ.n = n)
    (hs : AllLv (rnB f 0 (f, 0) rn) { σ with ob := famOb f e k ib (.obj (.box E ((List.range k).map fun j => .ref (f, j) 0 0))) σ.ob } (fun i => inO i []) slots) (ho : AllLvI (rnB f 0 (f, 0) rn) { σ with ob := famOb f e k ib (.obj (.box E ((List.range k).map fun j => .ref (f, j) 0 0))) σ.ob } (fun i => inO i []) I obs) (hp : AllPin (rnB f 0 (f, 0) rn) σ Pn)
    (hb : okB slots obs bx f (f, 0) rn [] I Pn = true) (hbx : rnOf rn bx = ib) (hr : rows' = List.replicate k []) : Le (mkStB n slots obs ⟨bx, false, E, e, f, rows'⟩ I Pn) σ := by
  subst hbx; subst hr
  have hp' : ∀ l, AllPin (rnB f 0 (f, 0) rn) σ l → AllPin (rnB f 0 (f, 0) rn) { σ with ob := famOb f e k (rnOf rn bx) (.obj (.box E ((List.range k).map fun j => .ref (f, j) 0 0))) σ.ob } l := by
    intro l
    induction l with
    | nil => intro h; exact h
    | cons x l ih => intro h; exact ⟨h.1, ih h.2⟩
  refine Le.trans (Le.keepB (σ := { σ with ob := famOb f e k (rnOf rn bx) (.obj (.box E ((List.range k).map fun j => .ref (f, j) 0 0))) σ.ob }) (bx0 := rnOf rn bx) rn [] hn hs ho trivial (hp' Pn hp) hb rfl ?_ hbi (fun j => ?_) hbf hinc) (Le.newB0 f e hib hbf hfr hinc)
  · show famOb f e k (rnOf rn bx) _ σ.ob (rnOf rn bx) = _
    simp only [famOb, oeq_self, cond_true]
    rw [newB_cells (bx := rnOf rn bx) (gr := false) (E := E) (e := e)]
    rfl
  · show famOb f e k (rnOf rn bx) _ σ.ob (f, j) = _
    have h1 : oeq (f, j) (rnOf rn bx) = false := oeq_ne fun e => by rw [← e] at hbf; simp at hbf
    simp only [famOb, h1, cond_false, Bun.ob, List.length_replicate, hfr]
    congr 1
    rw [List.getD_eq_getElem?_getD, List.getElem?_replicate]
    split <;> rfl
def rowsSl (rows : List (List PV)) : List AV := rows.map fun r => .sl r.length r
theorem withins_rowsSl (ids : List Oid) : ∀ rows : List (List PV), AV.withins ids (rowsSl rows) = true
  | [] => rfl
  | r :: l => by
    have := withins_rowsSl ids l
    simp only [rowsSl] at this
    simp only [rowsSl, List.map_cons, AV.withins, AV.within, this, Bool.and_self]
theorem obsWithin_app {ids : List Oid} {i : Oid} {o : Cells} : ∀ {l : List (Oid × Cells)}, obsWithin ids l = true → o.within ids = true → obsWithin ids (l ++ [(i, o)]) = true
  | [], _, h => by simp [obsWithin, h]
  | (k, c) :: l, hl, h => by
    simp only [obsWithin, Bool.and_eq_true] at hl
    simp only [List.cons_append, obsWithin, hl.1, obsWithin_app hl.2 h, Bool.and_self]
/-- The rows of a bundle are only read from here on. -/
theorem Le.frzFam (fam : Nat) {obs0 : List (Oid × Cells)} {bx : Oid} (hn : σ.n = n) (hs : AllLv (rnOf []) σ (fun i => Nat.beq i.1 fam) slots) (ho : AllLvI (rnOf []) σ (fun i => Nat.beq i.1 fam) I (obs0 ++ [(bx, (⟨bx0, gr, E, e, fam, rows⟩ : Bun).outer (rowsSl rows))])) (hinc : ∀ j, σ.inc (fam, j) = false) (hp : AllPin (rnOf []) σ Pn)
    (hb : (slotsWithin (obs0.map (·.1) ++ [bx]) slots && obsWithin (obs0.map (·.1) ++ [bx]) obs0 && subO Pn (obs0.map (·.1) ++ [bx])) = true) : Le (mkStI n slots (obs0 ++ [(bx, (⟨bx0, gr, E, e, fam, rows⟩ : Bun).outer (rowsSl rows))]) I Pn) σ := by
  simp only [Bool.and_eq_true] at hb
  obtain ⟨obs, hobs⟩ : ∃ obs, obs = obs0 ++ [(bx, (⟨bx0, gr, E, e, fam, rows⟩ : Bun).outer (rowsSl rows))] := ⟨_, rfl⟩
  have hids : obs.map (·.1) = obs0.map (·.1) ++ [bx] := by rw [hobs]; simp
  have how : obsWithin (obs.map (·.1)) obs = true := by
    rw [hids, hobs]
    refine obsWithin_app hb.1.2 ?_
    unfold Bun.outer
    cases gr
    · exact withins_rowsSl _ _
    · exact withins_rowsSl _ _
  rw [← hids] at hb
  rw [← hobs] at ho ⊢
  replace hb : (slotsWithin (obs.map (·.1)) slots = true ∧ obsWithin (obs.map (·.1)) obs = true) ∧ subO Pn (obs.map (·.1)) = true := ⟨⟨hb.1.1, how⟩, hb.2⟩
  rw [rnOf_nil] at *
  refine Le.of (fun i => i) (fun i => Nat.beq i.1 fam) hn.symm (fun t _ => frOf_lv hs t) (fun id o h => ?_) (fun id id' o o' h h' he => he) (fun id h => ?_) (fun id o h hf => ?_) (fun t id h => obOf_ne (slots_has hb.1.1 h)) (fun id' o id h hh => obOf_ne (obs_has hb.1.2 (obOf_mem h) hh)) (fun id h o hpn _ => ?_) (fun id hf => ?_)
  · exact ⟨(allLvI_mem ho (obOf_mem h)).1, (allLvI_mem ho (obOf_mem h)).2.1⟩
  · have := hinc id.2
    rwa [show (fam, id.2) = id from by rw [← Nat.eq_of_beq_eq_true h]] at this
  · have := (allLvI_mem ho (obOf_mem h)).2.2
    simp only [mkStI] at hf
    rw [hf] at this
    exact this
  · simp only [mkStI, pinOf] at hpn
    cases hb : inO id Pn with
    | true => rw [hb] at hpn; obtain rfl := Option.some.inj hpn; exact allPin_mem hp (inO_iff.1 hb)
    | false => rw [hb] at hpn; cases hpn
  · simp only [mkStI, pinOf]
    cases hq : inO id Pn with
    | true => exact absurd hf (obOf_ne (subO_mem hb.2 (inO_iff.1 hq)))
    | false => rfl
theorem frzOuter {i : Oid} (hF : Nat.beq (rnOf [] i).1 fam = false) (hbx : σ.ob (rnOf [] i) = .obj ((⟨bx0, gr, E, e, fam, rows⟩ : Bun).outer (⟨bx0, gr, E, e, fam, rows⟩ : Bun).cells)) (hfam : ∀ j, σ.ob (fam, j) = (⟨bx0, gr, E, e, fam, rows⟩ : Bun).ob (fam, j)) (h0 : Nat.beq bx0.1 fam = false)
    (hinc : (bif inO i I then false else σ.inc (rnOf [] i)) = false) {o : Cells} (ho : o = (⟨bx0, gr, E, e, fam, rows⟩ : Bun).outer (rowsSl rows)) :
    Nat.beq (rnOf [] i).1 fam = false ∧ (∃ o2, σ.ob (rnOf [] i) = .obj o2 ∧ LvO (rnOf []) σ (fun i => Nat.beq i.1 fam) o o2) ∧ (bif inO i I then false else σ.inc (rnOf [] i)) = false := by
  subst ho
  have h0' : bx0.1 ≠ fam := fun h => by rw [h] at h0; simp at h0
  have key : ∀ (j : Nat) (a d : AV), (rowsSl rows)[j]? = some a → (⟨bx0, gr, E, e, fam, rows⟩ : Bun).cells[j]? = some d → Lv (rnOf []) σ (fun i => Nat.beq i.1 fam) a d := by
    intro j a d ha hd
    have hj : j < rows.length := by
      have := (List.getElem?_eq_some_iff.1 hd).1
      rwa [Bun.cells_len] at this
    rw [Bun.cells_get _ hj] at hd
    obtain rfl := Option.some.inj hd
    simp only [rowsSl, List.getElem?_map] at ha
    rw [List.getElem?_eq_getElem hj] at ha
    obtain rfl := Option.some.inj ha
    have hr : rows.getD j [] = rows[j] := by simp [List.getD_eq_getElem?_getD, hj]
    have hob : σ.ob (fam, j) = .obj (.row e 1 (rows.getD j [])) := by rw [hfam j]; exact Bun.ob_mem (b := ⟨bx0, gr, E, e, fam, rows⟩) h0' hj
    have := Lv.frz (ρ := rnOf []) (F := fun i => Nat.beq i.1 fam) (off := 0) (n := (rows.getD j []).length) hob (Nat.beq_refl fam) (ys := rows.getD j []) (by simp) (by omega)
    show Lv _ _ _ (.sl rows[j].length rows[j]) (.ref (fam, j) 0 (rows.getD j []).length)
    rw [← hr]
    exact this
  refine ⟨hF, ⟨_, hbx, ?_⟩, hinc⟩
  unfold Bun.outer
  cases gr
  · exact .box (by rw [Bun.cells_len]; simp [rowsSl]) key
  · exact .rowA (by rw [Bun.cells_len]; simp [rowsSl]) key
theorem downs_rowsSl : ∀ (rows : List (List PV)), downs (rowsSl rows) = some (rows.map fun r => PV.sl r.length r)
  | [] => rfl
  | r :: l => by
    have := downs_rowsSl l
    simp only [rowsSl] at this
    simp only [rowsSl, List.map_cons, downs, this, AV.down]
theorem D_loopLB {rb : Bool} {P : Program} {Q : Exit → St → Prop} {c : Code} {α : Type} (J : α → Prop) (n : Nat) (sl : List (Nat × AV)) (os : List (Oid × Cells)) (sv : α → List (Nat × AV)) (ov : α → List (Oid × Cells)) (bv : α → Bun) (I Pn : List Oid) (μ : α → Nat) (x0 : α) (hJ : J x0) (h0 : Le (mkStB n (sl ++ sv x0) (os ++ ov x0) (bv x0) I Pn) σ)
    (round : ∀ x, J x → D rb P c (thenQ (fun σ' => ∃ y, J y ∧ Le (mkStB n (sl ++ sv y) (os ++ ov y) (bv y) I Pn) σ' ∧ μ y < μ x) Q) (mkStB n (sl ++ sv x) (os ++ ov x) (bv x) I Pn)) : D rb P (.loop c) Q σ :=
  D_loopP J (fun x => mkStB n (sl ++ sv x) (os ++ ov x) (bv x) I Pn) μ x0 hJ h0 round
end
end Go.Proofs.Ytkbkmngbenohkaa
