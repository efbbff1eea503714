/- The machine's rules: conversions of integers, bits, shifts, min. No program text. -/
import Derived.Test.YtphlaojoehmhaaaDLib16
set_option linter.unusedSimpArgs false
set_option linter.unusedVariables false
namespace Go.Proofs.Ytphlaojoehmhaaa
open Go.RowKit
section
variable {P : Program} {σ : St} {dd : Option Tmp} {ty : TypeId} {t t' : TypeId} {k k' : IntKind} {a b : Int}

theorem stp_bin {op : BinOp} {x y : Operand} {u v : Value} (hx : σ.eval x = .v u) (hy : σ.eval y = .v v) {r : Value} (h : ∀ (o : Oper) (ρ : Operand → Value) w, o.op = .binOp op t x y t' → ρ x = u → ρ y = v → (execOp ρ o).run P w = .ok (.value r) w) : Stp P dd (.binOp op t x y t') ty σ (σ.put dd (.v r)) := by
  intro o hd ho ht
  subst hd
  exact st_bool ho hx hy fun ρ w h1 h2 => h o ρ w ho h1 h2
theorem stp_un {op : Op} {x : Operand} {u : Value} (hx : σ.eval x = .v u) {r : Value} (h : ∀ (o : Oper) (ρ : Operand → Value) w, o.op = op → ρ x = u → (execOp ρ o).run P w = .ok (.value r) w) : Stp P dd op ty σ (σ.put dd (.v r)) := by
  intro o hd ho ht
  subst hd
  exact step_val fun _ _ _ a w R => ⟨r, h o a.eval w ho (Rep.evV R hx), .v, fun _ => noHasV⟩

theorem op_conv (x : Operand) (hs : P.underlying t = some (.int k)) (ht : P.underlying t' = some (.int k')) (hx : σ.eval x = .v (.int k a)) {r : Int} (hr : k'.wrap a = r) : Stp P dd (.convert t t' x) ty σ (σ.put dd (.v (.int k' r))) :=
  stp_un hx fun o ρ w ho hx => by subst hr; simp [execOp, ho, hx, go_sem, hs, ht, run_underlying hs, run_underlying ht]
theorem op_shr (x y : Operand) (hx : σ.eval x = .v (.int k a)) (hy : σ.eval y = .v (.int k' b)) (hb : 0 ≤ b) {r : Int} (hr : a.fdiv (2 ^ min b.toNat k.bits) = r) : Stp P dd (.binOp .shr t x y t') ty σ (σ.put dd (.v (.int k r))) :=
  stp_bin hx hy fun o ρ w ho hx hy => by subst hr; simp [execOp, ho, hx, hy, eqGuard, go_sem, Op.shift, Int.not_lt.2 hb]
theorem op_shl (x y : Operand) (hx : σ.eval x = .v (.int k a)) (hy : σ.eval y = .v (.int k' b)) (hb : 0 ≤ b) {r : Int} (hr : k.wrap (a * 2 ^ min b.toNat k.bits) = r) : Stp P dd (.binOp .shl t x y t') ty σ (σ.put dd (.v (.int k r))) :=
  stp_bin hx hy fun o ρ w ho hx hy => by subst hr; simp [execOp, ho, hx, hy, eqGuard, go_sem, Op.shift, Int.not_lt.2 hb]
theorem op_and (x y : Operand) (hx : σ.eval x = .v (.int k a)) (hy : σ.eval y = .v (.int k b)) {r : Int} (hr : k.wrap (BitVec.ofInt k.bits a &&& BitVec.ofInt k.bits b).toNat = r) : Stp P dd (.binOp .and t x y t') ty σ (σ.put dd (.v (.int k r))) :=
  stp_bin hx hy fun o ρ w ho hx hy => by subst hr; simp [execOp, ho, hx, hy, eqGuard, go_sem, Op.intBits]
theorem op_or (x y : Operand) (hx : σ.eval x = .v (.int k a)) (hy : σ.eval y = .v (.int k b)) {r : Int} (hr : k.wrap (BitVec.ofInt k.bits a ||| BitVec.ofInt k.bits b).toNat = r) : Stp P dd (.binOp .or t x y t') ty σ (σ.put dd (.v (.int k r))) :=
  stp_bin hx hy fun o ρ w ho hx hy => by subst hr; simp [execOp, ho, hx, hy, eqGuard, go_sem, Op.intBits]
theorem op_xor (x y : Operand) (hx : σ.eval x = .v (.int k a)) (hy : σ.eval y = .v (.int k b)) {r : Int} (hr : k.wrap (BitVec.ofInt k.bits a ^^^ BitVec.ofInt k.bits b).toNat = r) : Stp P dd (.binOp .xor t x y t') ty σ (σ.put dd (.v (.int k r))) :=
  stp_bin hx hy fun o ρ w ho hx hy => by subst hr; simp [execOp, ho, hx, hy, eqGuard, go_sem, Op.intBits]
theorem op_anN (x y : Operand) (hx : σ.eval x = .v (.int k a)) (hy : σ.eval y = .v (.int k b)) {r : Int} (hr : k.wrap (BitVec.ofInt k.bits a &&& ~~~ BitVec.ofInt k.bits b).toNat = r) : Stp P dd (.binOp .andNot t x y t') ty σ (σ.put dd (.v (.int k r))) :=
  stp_bin hx hy fun o ρ w ho hx hy => by subst hr; simp [execOp, ho, hx, hy, eqGuard, go_sem, Op.intBits]
theorem op_eqB {p q : Bool} (x y : Operand) (hx : σ.eval x = .v (.bool p)) (hy : σ.eval y = .v (.bool q)) (ht : P.underlying t = some .bool) {r : Bool} (hr : (p == q) = r) : Stp P dd (.binOp .eql t x y t') ty σ (σ.put dd (.v (.bool r))) :=
  stp_bin hx hy fun o ρ w ho hx hy => by subst hr; simp [execOp, ho, hx, hy, eqGuard, go_sem, run_equal_bool, ht]
theorem op_neB {p q : Bool} (x y : Operand) (hx : σ.eval x = .v (.bool p)) (hy : σ.eval y = .v (.bool q)) (ht : P.underlying t = some .bool) {r : Bool} (hr : (p != q) = r) : Stp P dd (.binOp .neq t x y t') ty σ (σ.put dd (.v (.bool r))) :=
  stp_bin hx hy fun o ρ w ho hx hy => by subst hr; simp [execOp, ho, hx, hy, eqGuard, go_sem, run_equal_bool, ht]; cases p <;> cases q <;> rfl
theorem op_min (x y : Operand) (hx : σ.eval x = .v (.int .i64 a)) (hy : σ.eval y = .v (.int .i64 b)) {r : Int} (hr : min a b = r) : Stp P dd (.call { callee := .builtin .min, args := #[x, y], argTypes := #[t, t'] }) ty σ (σ.put dd (.v (.int .i64 r))) := by
  intro o hd ho ht
  subst hd
  refine step_val fun _ _ _ A w R => ⟨_, ?_, .v, fun _ => noHasV⟩
  have h1 := Rep.evV R hx
  have h2 := Rep.evV R hy
  generalize A.eval = ρ at h1 h2
  subst hr
  have hm : min a b = if b < a then b else a := by omega
  simp [execOp, ho, resolve, invoke, builtin, h1, h2, go_sem, Builtin.min_, Builtin.min2, hm]
theorem u64w {n : Int} (h : 0 ≤ n ∧ n < 18446744073709551616) : IntKind.u64.wrap n = n := by
  show IntKind.wrap .u64 n = n
  simp only [IntKind.wrap, IntKind.bits, IntKind.signed, Bool.false_and, Bool.false_eq_true, if_false]
  omega
end
end Go.Proofs.Ytphlaojoehmhaaa
