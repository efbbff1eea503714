/- part 7 -/
import Derived.Test.YtmjnackchaahbaaGreatNvZ6
set_option linter.unusedSimpArgs false
set_option linter.unusedVariables false
namespace Go.Proofs.YtmjnackchaahbaaGreat
open Go.RowKit

structure nT (n:Nat) (A:Prop):Prop where
  f:A
structure QP (B:Prop):Prop where
  f:B
theorem TW {A:Prop} (a:QP A):nT 0 A:=⟨a.f⟩
theorem qn {n:Nat} {A C:Prop} (h:C→A) (k:nT n C):nT (n+1) A:=⟨h k.f⟩
theorem lr {α:Type} {l m:List α} (h:l=m:=by first | exact (rfl:_=[]) | exact (rfl:_=[_]) | exact (rfl:_=[_,_]) | exact (rfl:_=[_,_,_]) | exact (rfl:_=[_,_,_,_]) | exact (rfl:_=[_,_,_,_,_]) | exact (rfl:_=[_,_,_,_,_,_]) | exact (rfl:_=[_,_,_,_,_,_,_]) | exact (rfl:_=[_,_,_,_,_,_,_,_]) | exact (rfl:_=[_,_,_,_,_,_,_,_,_]) | exact (rfl:_=[_,_,_,_,_,_,_,_,_,_]) | exact (rfl:_=[_,_,_,_,_,_,_,_,_,_,_]) | exact (rfl:_=[_,_,_,_,_,_,_,_,_,_,_,_]) | exact (rfl:_=[_,_,_,_,_,_,_,_,_,_,_,_,_]) | exact (rfl:_=[_,_,_,_,_,_,_,_,_,_,_,_,_,_]) | exact (rfl:_=[_,_,_,_,_,_,_,_,_,_,_,_,_,_,_]) | exact (rfl:_=[_,_,_,_,_,_,_,_,_,_,_,_,_,_,_,_]) | exact (rfl:_=[_,_,_,_,_,_,_,_,_,_,_,_,_,_,_,_,_]) | exact (rfl:_=[_,_,_,_,_,_,_,_,_,_,_,_,_,_,_,_,_,_]) | exact (rfl:_=[_,_,_,_,_,_,_,_,_,_,_,_,_,_,_,_,_,_,_]) | exact (rfl:_=[_,_,_,_,_,_,_,_,_,_,_,_,_,_,_,_,_,_,_,_]) | exact (rfl:_=[_,_,_,_,_,_,_,_,_,_,_,_,_,_,_,_,_,_,_,_,_]) | exact (rfl:_=[_,_,_,_,_,_,_,_,_,_,_,_,_,_,_,_,_,_,_,_,_,_]) | exact (rfl:_=[_,_,_,_,_,_,_,_,_,_,_,_,_,_,_,_,_,_,_,_,_,_,_]) | exact (rfl:_=[_,_,_,_,_,_,_,_,_,_,_,_,_,_,_,_,_,_,_,_,_,_,_,_]) | exact (rfl:_=[_,_,_,_,_,_,_,_,_,_,_,_,_,_,_,_,_,_,_,_,_,_,_,_,_]) | exact (rfl:_=[_,_,_,_,_,_,_,_,_,_,_,_,_,_,_,_,_,_,_,_,_,_,_,_,_,_]) | exact (rfl:_=[_,_,_,_,_,_,_,_,_,_,_,_,_,_,_,_,_,_,_,_,_,_,_,_,_,_,_]) | exact (rfl:_=[_,_,_,_,_,_,_,_,_,_,_,_,_,_,_,_,_,_,_,_,_,_,_,_,_,_,_,_]) | exact (rfl:_=[_,_,_,_,_,_,_,_,_,_,_,_,_,_,_,_,_,_,_,_,_,_,_,_,_,_,_,_,_]) | exact (rfl:_=[_,_,_,_,_,_,_,_,_,_,_,_,_,_,_,_,_,_,_,_,_,_,_,_,_,_,_,_,_,_]) | exact (rfl:_=[_,_,_,_,_,_,_,_,_,_,_,_,_,_,_,_,_,_,_,_,_,_,_,_,_,_,_,_,_,_,_,_,_,_,_,_,_,_,_,_,_,_,_]) | exact (rfl:_=[_,_,_,_,_,_,_,_,_,_,_,_,_,_,_,_,_,_,_,_,_,_,_,_,_,_,_,_,_,_,_,_,_,_,_,_,_,_,_,_,_,_,_,_,_,_,_,_,_,_,_,_]) | exact (rfl:_=[_,_,_,_,_,_,_,_,_,_,_,_,_,_,_,_,_,_,_,_,_,_,_,_,_,_,_,_,_,_,_,_,_,_,_,_,_,_,_,_,_,_,_,_,_,_,_,_,_,_,_,_,_,_,_,_,_,_,_,_,_,_,_,_,_,_,_])):l=m:=h
theorem Uo {α:Type} {l m:Option (List α)} (h:l=m:=by first | exact (rfl:_=some []) | exact (rfl:_=some [_]) | exact (rfl:_=some [_,_]) | exact (rfl:_=some [_,_,_]) | exact (rfl:_=some [_,_,_,_]) | exact (rfl:_=some [_,_,_,_,_]) | exact (rfl:_=some [_,_,_,_,_,_]) | exact (rfl:_=some [_,_,_,_,_,_,_]) | exact (rfl:_=some [_,_,_,_,_,_,_,_]) | exact (rfl:_=some [_,_,_,_,_,_,_,_,_]) | exact (rfl:_=some [_,_,_,_,_,_,_,_,_,_]) | exact (rfl:_=some [_,_,_,_,_,_,_,_,_,_,_]) | exact (rfl:_=some [_,_,_,_,_,_,_,_,_,_,_,_]) | exact (rfl:_=some [_,_,_,_,_,_,_,_,_,_,_,_,_]) | exact (rfl:_=some [_,_,_,_,_,_,_,_,_,_,_,_,_,_]) | exact (rfl:_=some [_,_,_,_,_,_,_,_,_,_,_,_,_,_,_]) | exact (rfl:_=some [_,_,_,_,_,_,_,_,_,_,_,_,_,_,_,_]) | exact (rfl:_=some [_,_,_,_,_,_,_,_,_,_,_,_,_,_,_,_,_]) | exact (rfl:_=some [_,_,_,_,_,_,_,_,_,_,_,_,_,_,_,_,_,_]) | exact (rfl:_=some [_,_,_,_,_,_,_,_,_,_,_,_,_,_,_,_,_,_,_]) | exact (rfl:_=some [_,_,_,_,_,_,_,_,_,_,_,_,_,_,_,_,_,_,_,_]) | exact (rfl:_=some [_,_,_,_,_,_,_,_,_,_,_,_,_,_,_,_,_,_,_,_,_]) | exact (rfl:_=some [_,_,_,_,_,_,_,_,_,_,_,_,_,_,_,_,_,_,_,_,_,_]) | exact (rfl:_=some [_,_,_,_,_,_,_,_,_,_,_,_,_,_,_,_,_,_,_,_,_,_,_]) | exact (rfl:_=some [_,_,_,_,_,_,_,_,_,_,_,_,_,_,_,_,_,_,_,_,_,_,_,_]) | exact (rfl:_=some [_,_,_,_,_,_,_,_,_,_,_,_,_,_,_,_,_,_,_,_,_,_,_,_,_]) | exact (rfl:_=some [_,_,_,_,_,_,_,_,_,_,_,_,_,_,_,_,_,_,_,_,_,_,_,_,_,_]) | exact (rfl:_=some [_,_,_,_,_,_,_,_,_,_,_,_,_,_,_,_,_,_,_,_,_,_,_,_,_,_,_]) | exact (rfl:_=some [_,_,_,_,_,_,_,_,_,_,_,_,_,_,_,_,_,_,_,_,_,_,_,_,_,_,_,_]) | exact (rfl:_=some [_,_,_,_,_,_,_,_,_,_,_,_,_,_,_,_,_,_,_,_,_,_,_,_,_,_,_,_,_]) | exact (rfl:_=some [_,_,_,_,_,_,_,_,_,_,_,_,_,_,_,_,_,_,_,_,_,_,_,_,_,_,_,_,_,_]) | exact (rfl:_=some [_,_,_,_,_,_,_,_,_,_,_,_,_,_,_,_,_,_,_,_,_,_,_,_,_,_,_,_,_,_,_,_,_,_,_,_,_,_,_,_,_,_,_]) | exact (rfl:_=some [_,_,_,_,_,_,_,_,_,_,_,_,_,_,_,_,_,_,_,_,_,_,_,_,_,_,_,_,_,_,_,_,_,_,_,_,_,_,_,_,_,_,_,_,_,_,_,_,_,_,_,_]) | exact (rfl:_=some [_,_,_,_,_,_,_,_,_,_,_,_,_,_,_,_,_,_,_,_,_,_,_,_,_,_,_,_,_,_,_,_,_,_,_,_,_,_,_,_,_,_,_,_,_,_,_,_,_,_,_,_,_,_,_,_,_,_,_,_,_,_,_,_,_,_,_])):l=m:=h
section
variable {P:Program} {d:Option Tmp} {ty:TypeId} {σ σ':St}
theorem MN {x:Operand} (h:Stp P d (.move x) ty σ σ'):Stp P d (.move x) ty σ σ':=h
theorem MZ {x:Operand} (h:Stp P d (.assign x) ty σ σ'):Stp P d (.assign x) ty σ σ':=h
theorem Nl {T:TypeId} {x:Operand} {f:Nat} (h:Stp P d (.fieldAddr T x f) ty σ σ'):Stp P d (.fieldAddr T x f) ty σ σ':=h
theorem Np {t:TypeId} {x:Operand} (h:Stp P d (.load t x) ty σ σ'):Stp P d (.load t x) ty σ σ':=h
theorem Og {t:TypeId} {x y:Operand} (h:Stp P d (.store t x y) ty σ σ'):Stp P d (.store t x y) ty σ σ':=h
theorem NQ {c x y:Operand} (h:Stp P d (.pick c x y) ty σ σ'):Stp P d (.pick c x y) ty σ σ':=h
theorem Nx {x:Operand} (h:Stp P d (.nilCheck x) ty σ σ'):Stp P d (.nilCheck x) ty σ σ':=h
theorem MM {b:BinOp} {t t':TypeId} {x y:Operand} (h:Stp P d (.binOp b t x y t') ty σ σ'):Stp P d (.binOp b t x y t') ty σ σ':=h
theorem NL {b:UnOp} {t:TypeId} {x:Operand} (h:Stp P d (.unOp b t x) ty σ σ'):Stp P d (.unOp b t x) ty σ σ':=h
theorem MG {t:TypeId} {ps:Array (Nat×Operand)} (h:Stp P d (.build t ps) ty σ σ'):Stp P d (.build t ps) ty σ σ':=h
theorem Mg {T:TypeId} {x:Operand} {f:Nat} (h:Stp P d (.field T x f) ty σ σ'):Stp P d (.field T x f) ty σ σ':=h
theorem ME {x:Operand} {k:Nat} (h:Stp P d (.extract x k) ty σ σ'):Stp P d (.extract x k) ty σ σ':=h
theorem ND {c:_} (h:Stp P d (.call c) ty σ σ'):Stp P d (.call c) ty σ σ':=h
theorem NK {e:TypeId} {x:Operand} (h:Stp P d (.box e x) ty σ σ'):Stp P d (.box e x) ty σ σ':=h
theorem MR {e:TypeId} (h:Stp P d (.alloc e) ty σ σ'):Stp P d (.alloc e) ty σ σ':=h
theorem Mw {t:TypeId} {k:Nat} {ps:Array (Nat×Operand)} (h:Stp P d (.buildSlice t k ps) ty σ σ'):Stp P d (.buildSlice t k ps) ty σ σ':=h
theorem NX {t:Tmp} {e:TypeId} (x:Operand) (hid:σ.ob (t,0)= .free) {xs:List AV} (hx:(σ.eval x).cells=some xs):Stp P (some t) (.box e x) ty σ ((σ.setOb (t,0) (.obj (.box e xs))).put (some t) (.ptr (t,0) 0)):=dX (t,0) x hid hx
theorem Mq {t:Tmp} {e:TypeId} {g:Bool} {z:List Value} (T:Ty P e g z) (hid:σ.ob (t,0)= .free) {xs:List AV} (hx:z.map AV.v=xs):Stp P (some t) (.alloc e) ty σ ((σ.setOb (t,0) (.obj (.box e xs))).put (some t) (.ptr (t,0) 0)):=eB (t,0) T hid hx
theorem LM {op:Op} [Ty P ty false [.int .i64 0]] (h:Stp P d op ty σ σ'):Stp P d op ty σ σ':=h
theorem Ua {t:TypeId} {x:Operand} [Ty P t false [.int .i64 0]] (h:Stp P d (.load t x) ty σ σ'):Stp P d (.load t x) ty σ σ':=h
theorem Oh {op:Op} [Ty P ty false [.bool false]] (h:Stp P d op ty σ σ'):Stp P d op ty σ σ':=h
theorem Uj {t:TypeId} {x:Operand} [Ty P t false [.bool false]] (h:Stp P d (.load t x) ty σ σ'):Stp P d (.load t x) ty σ σ':=h
theorem NM {op:Op} [Ty P ty false [.slice none 0 0]] (h:Stp P d op ty σ σ'):Stp P d op ty σ σ':=h
theorem Ry {t:TypeId} {x:Operand} [Ty P t false [.slice none 0 0]] (h:Stp P d (.load t x) ty σ σ'):Stp P d (.load t x) ty σ σ':=h
theorem Ny {op:Op} [Ty P ty false [.string ByteArray.empty]] (h:Stp P d op ty σ σ'):Stp P d op ty σ σ':=h
theorem RO {t:TypeId} {x:Operand} [Ty P t false [.string ByteArray.empty]] (h:Stp P d (.load t x) ty σ σ'):Stp P d (.load t x) ty σ σ':=h
theorem Nh {op:Op} [Ty P ty false [.pointer none]] (h:Stp P d op ty σ σ'):Stp P d op ty σ σ':=h
theorem Sj {t:TypeId} {x:Operand} [Ty P t false [.pointer none]] (h:Stp P d (.load t x) ty σ σ'):Stp P d (.load t x) ty σ σ':=h
theorem MH {op:Op} {z:List Value} [Ty P ty true z] (h:Stp P d op ty σ σ'):Stp P d op ty σ σ':=h
theorem TL {t:TypeId} {x:Operand} {z:List Value} [Ty P t true z] (h:Stp P d (.load t x) ty σ σ'):Stp P d (.load t x) ty σ σ':=h
end
theorem Lb {P:Program} {d:Option Tmp} {op:Op} {ty:TypeId} {σ σ':St} (h:Stp P d op ty σ σ':=by
  first
  | (apply MN;first | (apply LM;first | exact bZ _ ry) | (apply Oh;first | exact bZ _ vV) | (apply NM;first | exact bZ _ zq | exact bZ _ mP | exact bZ _ ea | exact bZ _ kM | exact bZ _ (rfl:_=AV.z)) | (apply Ny;first | exact bZ _ Jn) | (apply Nh;first | exact bZ _ uM | exact bZ _ (rfl:_=AV.fp _ _) | exact bZ _ kM) | (apply MH;first | exact bZ _ (rfl:_=AV.agg _)) | (first | exact bZ _ ry | exact bZ _ uM | exact bZ _ vV | exact bZ _ zq | exact bZ _ mP | exact bZ _ Jn | exact bZ _ (rfl:_=AV.agg _) | exact bZ _ (rfl:_=AV.fp _ _) | exact bZ _ IQ | exact bZ _ (rfl:_=AV.tup _) | exact bZ _ (rfl:_=AV.ifc _ _) | exact bZ _ (rfl:_=AV.mp _) | exact bZ _ (rfl:_=AV.z) | exact bZ _ kM))
  | (apply Nl;first | exact dT _ aa rfl rfl rfl | exact eJ _ aa rfl rfl)
  | (apply Np;first | (apply Ua;first | exact bK _ aa rfl rfl Kf) | (apply Uj;first | exact bK _ aa rfl rfl (rfl:_=some (AV.v (.bool _)))) | (apply Ry;first | exact bK _ aa rfl rfl xm | exact bK _ aa rfl rfl Ax | exact bK _ aa rfl rfl (rfl:_=some (AV.v (.slice _ _ _))) | exact bK _ aa rfl rfl (rfl:_=some (AV.v _)) | exact bK _ aa rfl rfl (rfl:_=some (AV.z))) | (apply RO;first | exact bK _ aa rfl rfl (rfl:_=some (AV.v (.string _)))) | (apply Sj;first | exact bK _ aa rfl rfl zG | exact bK _ aa rfl rfl (rfl:_=some (AV.fp _ _)) | exact bK _ aa rfl rfl (rfl:_=some (AV.v _))) | (apply TL;exact gd _ aa rfl rfl rfl rfl) | (first | exact bK _ aa rfl rfl Kf | exact bK _ aa rfl rfl zG | exact bK _ aa rfl rfl (rfl:_=some (AV.v (.bool _))) | exact bK _ aa rfl rfl xm | exact bK _ aa rfl rfl Ax | exact bK _ aa rfl rfl (rfl:_=some (AV.v (.string _))) | exact bK _ aa rfl rfl xa | exact bK _ aa rfl rfl (rfl:_=some (AV.fp _ _)) | exact bK _ aa rfl rfl (rfl:_=some (AV.fn _ _ _)) | exact bK _ aa rfl rfl (rfl:_=some (AV.tup _)) | exact bK _ aa rfl rfl (rfl:_=some (AV.ifc _ _)) | exact bK _ aa rfl rfl (rfl:_=some (AV.mp _)) | exact bK _ aa rfl rfl (rfl:_=some (AV.z)) | exact bK _ aa rfl rfl (rfl:_=some (AV.v _))))
  | (apply MZ;first | (apply LM;first | exact aX _ ry) | (apply Oh;first | exact aX _ vV) | (apply NM;first | exact aX _ zq | exact aX _ mP | exact aX _ ea | exact aX _ kM | exact aX _ (rfl:_=AV.z)) | (apply Ny;first | exact aX _ Jn) | (apply Nh;first | exact aX _ uM | exact aX _ (rfl:_=AV.fp _ _) | exact aX _ kM) | (apply MH;first | exact aX _ (rfl:_=AV.agg _)) | (first | exact aX _ ry | exact aX _ uM | exact aX _ vV | exact aX _ zq | exact aX _ mP | exact aX _ Jn | exact aX _ (rfl:_=AV.agg _) | exact aX _ (rfl:_=AV.fp _ _) | exact aX _ IQ | exact aX _ (rfl:_=AV.tup _) | exact aX _ (rfl:_=AV.ifc _ _) | exact aX _ (rfl:_=AV.mp _) | exact aX _ (rfl:_=AV.z) | exact aX _ kM))
  | (apply Og;exact dE _ _ aa rfl rfl rfl rfl (Nat.le_of_ble_eq_true rfl) rfl)
  | (apply NK;exact NX _ rfl rfl)
  | (apply MR;exact Mq aa rfl rfl)
  | (apply NQ;first | (apply LM;first | exact cE _ _ _ rfl ry) | (apply Oh;first | exact cE _ _ _ rfl vV) | (apply NM;first | exact cE _ _ _ rfl zq | exact cE _ _ _ rfl mP | exact cE _ _ _ rfl ea | exact cE _ _ _ rfl kM | exact cE _ _ _ rfl (rfl:_=AV.z)) | (apply Ny;first | exact cE _ _ _ rfl Jn) | (apply Nh;first | exact cE _ _ _ rfl uM | exact cE _ _ _ rfl (rfl:_=AV.fp _ _) | exact cE _ _ _ rfl kM) | (apply MH;first | exact cE _ _ _ rfl (rfl:_=AV.agg _)) | (first | exact cE _ _ _ rfl ry | exact cE _ _ _ rfl uM | exact cE _ _ _ rfl vV | exact cE _ _ _ rfl zq | exact cE _ _ _ rfl mP | exact cE _ _ _ rfl Jn | exact cE _ _ _ rfl (rfl:_=AV.agg _) | exact cE _ _ _ rfl (rfl:_=AV.fp _ _) | exact cE _ _ _ rfl IQ | exact cE _ _ _ rfl (rfl:_=AV.tup _) | exact cE _ _ _ rfl (rfl:_=AV.ifc _ _) | exact cE _ _ _ rfl (rfl:_=AV.mp _) | exact cE _ _ _ rfl (rfl:_=AV.z) | exact cE _ _ _ rfl kM))
  | (apply Nx;first | exact nK _ rfl rfl | exact FC _ rfl)
  | (apply MM;first | exact cW (r:=false) _ _ Tryz.underlying9 rfl rfl rfl | exact cW (r:=true) _ _ Tryz.underlying9 rfl rfl rfl | exact bb (r:=false) _ _ rfl rfl rfl | exact bb (r:=true) _ _ rfl rfl rfl | exact cV (r:=false) _ _ rfl rfl rfl | exact cV (r:=true) _ _ rfl rfl rfl | exact cT _ _ rfl rfl rfl | exact Cg _ _ rfl rfl rfl | exact qj _ _ rfl rfl rfl | exact eg _ _ rfl rfl rfl | exact eI _ _ rfl rfl (bQ ab) | exact bp _ _ rfl rfl (bQ ab))
  | (apply NL;first | exact fI (r:=false) _ rfl rfl | exact fI (r:=true) _ rfl rfl | exact fI _ rfl rfl)
  | (apply MG;exact gl _ aa rfl Uo)
  | (apply Mg;first | exact fZ _ aa rfl Kf | exact fZ _ aa rfl zG | exact fZ _ aa rfl (rfl:_=some (AV.v (.bool _))) | exact fZ _ aa rfl xm | exact fZ _ aa rfl Ax | exact fZ _ aa rfl (rfl:_=some (AV.v (.string _))) | exact fZ _ aa rfl xa | exact fZ _ aa rfl (rfl:_=some (AV.fp _ _)) | exact fZ _ aa rfl (rfl:_=some (AV.fn _ _ _)) | exact fZ _ aa rfl (rfl:_=some (AV.tup _)) | exact fZ _ aa rfl (rfl:_=some (AV.ifc _ _)) | exact fZ _ aa rfl (rfl:_=some (AV.mp _)) | exact fZ _ aa rfl (rfl:_=some (AV.z)) | exact fZ _ aa rfl (rfl:_=some (AV.v _)) | exact HF _ aa rfl rfl rfl)
  | (apply ME;first | exact eA _ rfl Kf | exact eA _ rfl zG | exact eA _ rfl (rfl:_=some (AV.v (.bool _))) | exact eA _ rfl xm | exact eA _ rfl Ax | exact eA _ rfl (rfl:_=some (AV.v (.string _))) | exact eA _ rfl xa | exact eA _ rfl (rfl:_=some (AV.fp _ _)) | exact eA _ rfl (rfl:_=some (AV.fn _ _ _)) | exact eA _ rfl (rfl:_=some (AV.tup _)) | exact eA _ rfl (rfl:_=some (AV.ifc _ _)) | exact eA _ rfl (rfl:_=some (AV.mp _)) | exact eA _ rfl (rfl:_=some (AV.z)) | exact eA _ rfl (rfl:_=some (AV.v _)))
  | (apply ND;first | exact Fd _ aa rfl | exact yp _ aa rfl rfl | exact Fm _ Tryz.underlying9 rfl | exact Gs _ aa rfl rfl | exact op_lenZ _ aa rfl | exact EZ _ aa rfl)
  | (apply Mw;exact gK _ _ aa rfl ag (by (simp <;> rfl)) ah rfl)):Stp P d op ty σ σ':=h
section
variable {rb:Bool} {P:Program} {Q:Exit→St→Prop} {σ:St} {ops:Array Oper} {rest:List Oper} {d:Option Tmp} {ty:TypeId} {p:String}
theorem Sh {all:List Oper} {W:List Nat} {I:List az} {AA:List (List az)} {Kont:List Res→Prop} {os:List Oper} {r:Res} {rs rs':List Res} (h:rs++[r]=rs') (hh:AnyOps P all W I AA σ Kont os rs'):AnyOps P all W I AA σ Kont os (rs++[r]):=h ▸ hh
end
section
variable {n:Nat} {rb:Bool} {P:Program} {Q:Exit→St→Prop} {σ:St} {ops:Array Oper} {rest:List Oper} {d:Option Tmp} {ty:TypeId} {p:String} {all:List Oper} {W:List Nat} {I:List az} {AA:List (List az)} {Kont:List Res→Prop} {os:List Oper} {rs:List Res} {op:Op}
theorem Uc {x y:Code} (h:nT n (D rb P (.seq x y) Q σ)):nT n (D rb P (.seq x y) Q σ):=h
theorem RC {id:Nat} {l:Array Oper} (h:nT n (D rb P (.region id l false) Q σ)):nT n (D rb P (.region id l false) Q σ):=h
theorem Ro {c:Operand} {x y:Code} (h:nT n (D rb P (.cond c x y) Q σ)):nT n (D rb P (.cond c x y) Q σ):=h
theorem RF (h:nT n (D rb P .skip Q σ)):nT n (D rb P .skip Q σ):=h
theorem Tt {i:Nat} {x:Code} (h:nT n (D rb P (.block i x) Q σ)):nT n (D rb P (.block i x) Q σ):=h
theorem Sr (h:nT n (DL rb P ops Q [] σ)):nT n (DL rb P ops Q [] σ):=h
theorem RI {af:Array Edge} (h:nT n (DL rb P ops Q (⟨d,op,ty,p,af,none⟩::rest) σ)):nT n (DL rb P ops Q (⟨d,op,ty,p,af,none⟩::rest) σ):=h
theorem RV {af:Array Edge} {g:Nat×Bool} (h:nT n (DL rb P ops Q (⟨d,op,ty,p,af,some g⟩::rest) σ)):nT n (DL rb P ops Q (⟨d,op,ty,p,af,some g⟩::rest) σ):=h
theorem TU {r:Res} (h:nT n (AnyOps P all W I AA σ Kont os (rs++[r]))):nT n (AnyOps P all W I AA σ Kont os (rs++[r])):=h
theorem SR (h:nT n (AnyOps P all W I AA σ Kont [] rs)):nT n (AnyOps P all W I AA σ Kont [] rs):=h
theorem RM {af:Array Edge} (h:nT n (AnyOps P all W I AA σ Kont (⟨d,op,ty,p,af,none⟩::os) rs)):nT n (AnyOps P all W I AA σ Kont (⟨d,op,ty,p,af,none⟩::os) rs):=h
theorem SU {af:Array Edge} {g:Nat×Bool} (h:nT n (AnyOps P all W I AA σ Kont (⟨d,op,ty,p,af,some g⟩::os) rs)):nT n (AnyOps P all W I AA σ Kont (⟨d,op,ty,p,af,some g⟩::os) rs):=h
end
theorem go (n:Nat) {A B:Prop} (b:B) (k:QP B→nT n A:=by
  intro b
  repeat (first
    | exact TW b
    | (apply RI;first | refine qn (aj Lb) ?_)
    | (apply Uc;first | refine qn (aG) ?_ | refine qn (aE) ?_)
    | (apply Sr;first | refine qn (am) ?_ | refine qn (Ef) ?_ | refine qn (KI) ?_)
    | (apply TU;first | refine qn (Sh lr) ?_)
    | (apply RM;first | refine qn (aC (_,[]) (fun τ=> Lb)) ?_)
    | (apply Ro;first | refine qn (cP rfl rfl) ?_ | refine qn (fX rfl rfl) ?_)
    | (apply RC;first | refine qn (aD) ?_)
    | (apply RF;first | refine qn (cO) ?_ | refine qn (kH) ?_ | refine qn (JU) ?_)
    | (apply RV;first | refine qn (KC rfl rfl ah) ?_ | refine qn (Kk rfl rfl) ?_ | refine qn (aZ rfl rfl Lb) ?_)
    | (apply SU;first | refine qn (IC rfl (fun τ=> rfl) ah) ?_ | refine qn (Jk rfl (fun τ=> rfl)) ?_ | refine qn (ew (_,[]) rfl (fun τ=> rfl) (fun τ=> Lb)) ?_)
    | (apply SR;first | refine qn (fun h=> ci ⟨rfl,h⟩) ?_ | refine qn (fun h=> ci ⟨⟨rfl,by kernel_rfl⟩,h⟩) ?_)
    | (apply Tt;first | refine qn (aH) ?_))):A:=(k ⟨b⟩).f
theorem dA {rb:Bool} {P:Program} {Q:Exit→St→Prop} {σ:St} {id:Nat} {l hd tl:List Oper} (n:Nat) {W:List Nat} (I:List az) (h:AnyOps P hd W I [] σ (fun rs=> gh rs=I∧DL rb P l.toArray Q tl (dh hd rs (fun _=> true) 0 σ)) hd []) (hm:P.follows .mixedOrders=true:=by kernel_rfl) (hB:kG l.toArray n=true:=by kernel_rfl) (hW:(l.take n).filterMap (·.dst)=W:=by exact lr) (hI:bh I=true:=by rfl) (e1:l.take n=hd:=by exact lr) (e2:l.drop n=tl:=by exact lr):D rb P (.region id l.toArray true) Q σ:=HS n W I hm hB hW (bj hI) e1 e2 h
structure AC (cs:List Nat) (p:Prop):Prop where
  f:p
section
variable {cs:List Nat} {p q:Prop}
theorem RP:AC [] True:=⟨trivial⟩
theorem TJ (h:p) (k:AC cs q):AC (0::cs) (p∧q):=⟨h,k.f⟩
theorem Tw (h:p) (k:AC cs q):AC (1::cs) (p∧q):=⟨h,k.f⟩
theorem RJ (h:p) (k:AC cs q):AC (2::cs) (p∧q):=⟨h,k.f⟩
end
def QM (cs:List Nat) (rn:List (az×az)) (Fz:List az) (a b:St):Prop:=Le a b
theorem Mr {σ:St} {n:Nat} {slots:List (Nat×AV)} {obs:List (az×Cells)} {I Pn:List az} {cs:List Nat} {rn:List (az×az)} {Fz:List az} (hn:σ.n=n) (hs:qC (aU rn) σ (fun i=> cr i Fz) slots) (ho:AC cs (dK (aU rn) σ (fun i=> cr i Fz) I obs)) (hi:fK σ Fz) (hp:kF (aU rn) σ Pn) (hb:(fe (obs.map (·.1)) slots && be (obs.map (·.1)) obs && bh ((obs.map (·.1)).map (aU rn)) && rl Pn (obs.map (·.1)))=true):QM cs rn Fz (an n slots obs I Pn) σ:=Le.mkJ rn Fz hn hs ho.f hi hp hb
theorem kj (cs:List Nat) (rn:List (az×az)) (Fz:List az) {σ σ':St} (h:QM cs rn Fz σ' σ:=by
  refine Mr rfl ?_ ?_ ?_ ?_ ?_
  · repeat' (first | exact trivial | exact iV rfl | exact iP rfl | exact iS rfl | exact iR rfl | exact aN ag | exact jC ag | exact cL ag ag | exact ca rfl ag | exact iF rfl | exact iA rfl | exact iN rfl | exact iT rfl | exact iM rfl | exact iZ rfl | exact iD rfl | exact iI rfl | refine ⟨?_,?_⟩)
  · repeat (first | exact RP | (apply TJ; · exact bN rfl rfl rfl) | (apply Tw; · exact cI rfl rfl rfl rfl lz) | (apply RJ; · exact cD rfl rfl rfl ag))
  · repeat' (first | exact trivial | refine ⟨rfl,?_⟩)
  · repeat' (first | exact trivial | refine ⟨rfl,?_⟩)
  kernel_rfl):Le σ' σ:=h
def xc (rn:List (az×az)) (P:Program) (fn:Func) (σ':St) (e:Exit) (σ:St):Prop:=kO P fn σ' e σ
section
variable {rn:List (az×az)} {P:Program} {fn:Func} {e:Exit} {σ:St} {x:ResultVar} {r r':AV} {obs:List (az×Cells)} {I Pn:List az}
theorem ST (he:e= .normal∨e= .ret) (hr:fn.results= #[x]) (h1:ResV P σ x r) (hl:Lv (aU rn) (eK r σ) (fun i=> cr i []) r' r) (hw1:r'.within (obs.map (·.1))=true) (hw2:be (obs.map (·.1)) obs=true) (hd:bh ((obs.map (·.1)).map (aU rn))=true) (ho:dK (aU rn) (eK r σ) (fun i=> cr i []) I obs) (hp:kF (aU rn) (eK r σ) Pn) (hsb:rl Pn (obs.map (·.1))=true):xc rn P fn (aO r' obs I Pn) e σ:=cq he hr h1 (Le.outI rn [] hl hw1 hw2 hd trivial ho hp hsb)
theorem Qe (he:e= .normal∨e= .ret) (hr:fn.results= #[x]) (h1:ResV P σ x r) (hl:Lv (aU rn) (eK r σ) (fun i=> cr i []) r' r) (hw1:r'.within (obs.map (·.1))=true) (hw2:be (obs.map (·.1)) obs=true) (hd:bh ((obs.map (·.1)).map (aU rn))=true) (ho:mv (aU rn) (eK r σ) (fun i=> cr i []) obs):xc rn P fn (aA r' obs) e σ:=cq he hr h1 (Le.out rn [] hl hw1 hw2 hd trivial ho)
theorem SG (he:e= .normal∨e= .ret) (hr:fn.results= #[]) (hl:Lv (aU rn) (eK (.tup []) σ) (fun i=> cr i []) r' (.tup [])) (hw1:r'.within (obs.map (·.1))=true) (hw2:be (obs.map (·.1)) obs=true) (hd:bh ((obs.map (·.1)).map (aU rn))=true) (ho:dK (aU rn) (eK (.tup []) σ) (fun i=> cr i []) I obs) (hp:kF (aU rn) (eK (.tup []) σ) Pn) (hsb:rl Pn (obs.map (·.1))=true):xc rn P fn (aO r' obs I Pn) e σ:=wj he hr (Le.outI rn [] hl hw1 hw2 hd trivial ho hp hsb)
end
theorem jr (rn:List (az×az)) {P:Program} {fn:Func} {σ':St} {e:Exit} {σ:St} (h:xc rn P fn σ' e σ:=by exact ST (.inr rfl) rfl (.cellA aa rfl rfl rfl) (.agg rfl lz) rfl rfl rfl ob tr rfl):kO P fn σ' e σ:=h
theorem uo (rn:List (az×az)) {P:Program} {fn:Func} {σ':St} {e:Exit} {σ:St} (h:xc rn P fn σ' e σ:=by exact Qe (.inr rfl) rfl (.cellA aa rfl rfl rfl) (.agg rfl lz) rfl rfl rfl ob):kO P fn σ' e σ:=h
theorem lQ (rn:List (az×az)) {P:Program} {fn:Func} {σ':St} {e:Exit} {σ:St} (h:xc rn P fn σ' e σ:=by exact Qe (.inr rfl) rfl (.tmp mP) (ca rfl rfl) rfl rfl rfl ob):kO P fn σ' e σ:=h
theorem mR (rn:List (az×az)) {P:Program} {fn:Func} {σ':St} {e:Exit} {σ:St} (h:xc rn P fn σ' e σ:=by exact SG (.inl rfl) rfl (.tup rfl aK) rfl rfl rfl ob tr rfl):kO P fn σ' e σ:=h
end Go.Proofs.YtmjnackchaahbaaGreat

set_option maxHeartbeats 2000000
namespace Go.Proofs.YtmjnackchaahbaaGreat

inductive Opc where
 | push | var | setVar | name | draw | add | sub | mul | div | neg | lt | le | eq | not | jump | unl | send | timer | cancel | sync | reply | fail | stop
 deriving DecidableEq
def Opc.num:Opc→Nat
 | .push=> 1 | .var=> 2 | .setVar=> 3 | .name=> 4 | .draw=> 5 | .add=> 6 | .sub=> 7 | .mul=> 8 | .div=> 9 | .neg=> 10 | .lt=> 11 | .le=> 12 | .eq=> 13 | .not=> 14
 | .jump=> 15 | .unl=> 16 | .send=> 17 | .timer=> 18 | .cancel=> 19 | .sync=> 20 | .reply=> 21 | .fail=> 22 | .stop=> 23
def Opc.pops:Opc→Nat
 | .push=> 0 | .var=> 0 | .setVar=> 1 | .name=> 0 | .draw=> 1 | .add=> 2 | .sub=> 2 | .mul=> 2 | .div=> 2 | .neg=> 1 | .lt=> 2 | .le=> 2 | .eq=> 2 | .not=> 1
 | .jump=> 0 | .unl=> 1 | .send=> 3 | .timer=> 0 | .cancel=> 0 | .sync=> 0 | .reply=> 2 | .fail=> 1 | .stop=> 0
def Opc.puts:Opc→Nat
 | .push=> 1 | .var=> 1 | .setVar=> 0 | .name=> 1 | .draw=> 1 | .add=> 1 | .sub=> 1 | .mul=> 1 | .div=> 1 | .neg=> 1 | .lt=> 1 | .le=> 1 | .eq=> 1 | .not=> 1
 | .jump=> 0 | .unl=> 0 | .send=> 0 | .timer=> 0 | .cancel=> 0 | .sync=> 0 | .reply=> 0 | .fail=> 0 | .stop=> 0
structure et where
 op:Opc
 n:Int:=0
inductive Bo where
 | add | sub | mul | div | lt | le | eq | gt | ge | ne
 deriving DecidableEq
def Bo.text:Bo→String
 | .add=> "+" | .sub=> "-" | .mul=> "*" | .div=> "/" | .lt=> "<" | .le=> "<=" | .eq=> "==" | .gt=> ">" | .ge=> ">=" | .ne=> "!="
def Bo.code:Bo→List et
 | .add=> [{ op:= .add }] | .sub=> [{ op:= .sub }] | .mul=> [{ op:= .mul }] | .div=> [{ op:= .div }] | .lt=> [{ op:= .lt }] | .le=> [{ op:= .le }] | .eq=> [{ op:= .eq }]
 | .gt=> [{ op:= .le },{ op:= .not }] | .ge=> [{ op:= .lt },{ op:= .not }] | .ne=> [{ op:= .eq },{ op:= .not }]
inductive Ex where
 | int (n:Int) | bool (b:Bool) | var (i:Nat) | name (k:Nat) | draw (e:Ex) | neg (e:Ex) | not (e:Ex) | bin (o:Bo) (a b:Ex) | and (a b:Ex) | or (a b:Ex)
mutual
inductive Sm where
 | assign (i:Nat) (e:Ex) | send (to:Ex) (k:Nat) (a b:Ex) | timer (k:Nat) | cancel (k:Nat) | sync | stop | reply (a b:Ex) | fail (e:Ex) | loop (c:Ex) (b:Bk) | ite (c:Ex) (a b:Bk)
inductive Bk where
 | nil | cons (s:Sm) (b:Bk)
end

def bi:Ex→Nat→List et
 | .int n,_=> [{ op:= .push,n:=n }]
 | .bool b,_=> [{ op:= .push,n:=if b then 1 else 0 }]
 | .var i,_=> [{ op:= .var,n:=i }]
 | .name k,_=> [{ op:= .name,n:=k }]
 | .draw e,at_=> bi e at_++[{ op:= .draw }]
 | .neg e,at_=> bi e at_++[{ op:= .neg }]
 | .not e,at_=> bi e at_++[{ op:= .not }]
 | .bin o a b,at_=> bi a at_++bi b (at_+(bi a at_).length)++o.code
 | .and a b,at_=>
  let c:=bi a at_
  let x:=bi b (at_+c.length+1)
  let f:=at_+c.length+1+x.length+1
  c++[{ op:= .unl,n:=(f:Nat) }]++x++[{ op:= .jump,n:=((f+1:Nat):Int) }]++[{ op:= .push,n:=0 }]
 | .or a b,at_=>
  let c:=bi a at_
  let f:=at_+c.length+1+1+1
  let x:=bi b f
  c++[{ op:= .unl,n:=(f:Nat) }]++[{ op:= .push,n:=1 }]++[{ op:= .jump,n:=((f+x.length:Nat):Int) }]++x
mutual
def cR:Sm→Nat→List et
 | .assign i e,at_=> bi e at_++[{ op:= .setVar,n:=i }]
 | .send t k a b,at_=>
  let c:=bi t at_
  let d:=bi a (at_+c.length)
  c++d++bi b (at_+(c.length+d.length))++[{ op:= .send,n:=k }]
 | .timer k,_=> [{ op:= .timer,n:=k }]
 | .cancel k,_=> [{ op:= .cancel,n:=k }]
 | .sync,_=> [{ op:= .sync }]
 | .stop,_=> [{ op:= .stop }]
 | .reply a b,at_=> bi a at_++bi b (at_+(bi a at_).length)++[{ op:= .reply }]
 | .fail e,at_=> bi e at_++[{ op:= .fail }]
 | .loop c b,at_=>
  let x:=bi c at_
  let y:=dv b (at_+x.length+1)
  x++[{ op:= .unl,n:=((at_+x.length+y.length+2:Nat):Int) }]++y++[{ op:= .jump,n:=(at_:Nat) }]
 | .ite c a b,at_=>
  let x:=bi c at_
  let y:=dv a (at_+x.length+1)
  let f:=at_+x.length+1+y.length+1
  let z:=dv b f
  x++[{ op:= .unl,n:=(f:Nat) }]++y++[{ op:= .jump,n:=((f+z.length:Nat):Int) }]++z
def dv:Bk→Nat→List et
 | .nil,_=> []
 | .cons s b,at_=> cR s at_++dv b (at_+(cR s at_).length)
end

def dx (i:Nat) (x:et):List Nat:=match x.op with
 | .stop=> []
 | .jump=> [x.n.toNat]
 | .unl=> [i+1,x.n.toNat]
 | _=> [i+1]
def cK (nv:Nat) (x:et):Prop:=match x.op with
 | .push=> -2147483647≤x.n∧x.n≤2147483647
 | .var=> 0≤x.n∧x.n < nv
 | .setVar=> 0≤x.n∧x.n < nv
 | .name=> 0≤x.n∧x.n < 9
 | .send=> 0≤x.n∧x.n < 30
 | .timer=> 0≤x.n∧x.n < 8
 | .cancel=> 0≤x.n∧x.n < 8
 | _=> 0≤x.n
def Good (D:Nat→Nat) (nv lo hi at_:Nat) (c:List et):Prop:= ∀ k x,c[k]? =some x→cK nv x∧x.op.pops≤D (at_+k)∧ ∀ j∈dx (at_+k) x,lo≤j∧j≤hi∧D j=D (at_+k) - x.op.pops+x.op.puts
theorem Good.app {D:Nat→Nat} {nv lo hi a p:Nat} {c c':List et} (h:Good D nv lo hi a c) (h':Good D nv lo hi p c') (hp:p=a+c.length):Good D nv lo hi a (c++c'):=by
 subst hp
 intro k x hx
 by_cases hk:k < c.length
 ·rw [List.getElem?_append_left hk] at hx
  exact h k x hx
 rw [List.getElem?_append_right ab] at hx
 have:=h' _ x hx
 rwa [show a+c.length+(k - c.length)=a+k by omega] at this
theorem Good.one {D:Nat→Nat} {nv lo hi a:Nat} {x:et} (h1:cK nv x) (h2:x.op.pops≤D a) (h3: ∀ j∈dx a x,lo≤j∧j≤hi∧D j=D a - x.op.pops+x.op.puts):Good D nv lo hi a [x]:=by
 intro k y hy
 cases k with
 | zero=> simp at hy;subst hy;exact ⟨h1,h2,h3⟩
 | succ k=> simp at hy
theorem Good.nil {D:Nat→Nat} {nv lo hi a:Nat}:Good D nv lo hi a []:=fun k x hx=> by simp at hx
theorem Good.mono {D:Nat→Nat} {nv lo hi lo' hi' a:Nat} {c:List et} (h:Good D nv lo hi a c) (h1:lo'≤lo) (h2:hi≤hi'):Good D nv lo' hi' a c:=fun k x hx=> by
 obtain ⟨a1,a2,a3⟩:=h k x hx
 exact ⟨a1,a2,fun j hj=> by obtain ⟨b1,b2,b3⟩:=a3 j hj;exact ⟨by omega,by omega,b3⟩⟩
def Fit (D:Nat→Nat) (a:Nat) (ds:List Nat):Prop:= ∀ k d,ds[k]? =some d→D (a+k)=d
theorem Fit.left {D:Nat→Nat} {a:Nat} {l m:List Nat} (h:Fit D a (l++m)):Fit D a l:=fun k d hd=> h k d (by
 rw [List.getElem?_append_left (List.getElem?_eq_some_iff.1 hd).1];exact hd)
theorem Fit.right {D:Nat→Nat} {a:Nat} {l m:List Nat} (h:Fit D a (l++m)):Fit D (a+l.length) m:=fun k d hd=> by
 have:=h (l.length+k) d (by rw [List.getElem?_append_right ab,Nat.add_sub_cancel_left];exact hd)
 rwa [← Nat.add_assoc] at this
theorem Fit.hd {D:Nat→Nat} {a d:Nat} {l:List Nat} (h:Fit D a (d::l)):D a=d:=h 0 d rfl
def dg:Ex→Nat→List Nat
 | .int _,d=> [d] | .bool _,d=> [d] | .var _,d=> [d] | .name _,d=> [d]
 | .draw e,d=> dg e d++[d+1] | .neg e,d=> dg e d++[d+1] | .not e,d=> dg e d++[d+1]
 | .bin o a b,d=> dg a d++dg b (d+1)++(match o with | .gt=> [d+2,d+1] | .ge=> [d+2,d+1] | .ne=> [d+2,d+1] | _=> [d+2])
 | .and a b,d=> dg a d++[d+1]++dg b d++[d+1]++[d]
 | .or a b,d=> dg a d++[d+1]++[d]++[d+1]++dg b d
mutual
def dU:Sm→List Nat
 | .assign _ e=> dg e 0++[1]
 | .send t _ a b=> dg t 0++dg a 1++dg b 2++[3]
 | .timer _=> [0] | .cancel _=> [0] | .sync=> [0] | .stop=> [0]
 | .reply a b=> dg a 0++dg b 1++[2]
 | .fail e=> dg e 0++[1]
 | .loop c b=> dg c 0++[1]++mb b++[0]
 | .ite c a b=> dg c 0++[1]++mb a++[0]++mb b
def mb:Bk→List Nat
 | .nil=> []
 | .cons s b=> dU s++mb b
end
theorem bz: ∀ (e:Ex) (d a:Nat),(dg e d).length=(bi e a).length
 | .int _,_,_=> rfl | .bool _,_,_=> rfl | .var _,_,_=> rfl | .name _,_,_=> rfl
 | .draw e,d,a=> by simp [dg,bi,bz e d a]
 | .neg e,d,a=> by simp [dg,bi,bz e d a]
 | .not e,d,a=> by simp [dg,bi,bz e d a]
 | .bin o x y,d,a=> by cases o <;> simp [dg,bi,Bo.code,bz x d a,bz y (d+1) (a+(bi x a).length)]
 | .and x y,d,a=> by simp [dg,bi,bz x d a,bz y d (a+(bi x a).length+1)]
 | .or x y,d,a=> by simp [dg,bi,bz x d a,bz y d (a+(bi x a).length+1+1+1)]
mutual
theorem vt: ∀ (s:Sm) (a:Nat),(dU s).length=(cR s a).length
 | .assign i e,a=> by simp [dU,cR,bz e 0 a]
 | .send t k x y,a=> by simp [dU,cR,bz t 0 a,bz x 1 (a+(bi t a).length),bz y 2 (a+((bi t a).length+(bi x (a+(bi t a).length)).length))]
 | .timer _,_=> by simp [dU,cR] | .cancel _,_=> by simp [dU,cR] | .sync,_=> by simp [dU,cR] | .stop,_=> by simp [dU,cR]
 | .reply x y,a=> by simp [dU,cR,bz x 0 a,bz y 1 (a+(bi x a).length)]
 | .fail e,a=> by simp [dU,cR,bz e 0 a]
 | .loop c b,a=> by simp [dU,cR,bz c 0 a,gi b (a+(bi c a).length+1)]
 | .ite c x y,a=> by simp [dU,cR,bz c 0 a,gi x (a+(bi c a).length+1),gi y (a+(bi c a).length+1+(dv x (a+(bi c a).length+1)).length+1)]
theorem gi: ∀ (b:Bk) (a:Nat),(mb b).length=(dv b a).length
 | .nil,_=> by simp [mb,dv]
 | .cons s b,a=> by simp [mb,dv,vt s a,gi b (a+(cR s a).length)]
end
theorem succs_jump {i j f:Nat}:j∈dx i { op:= .jump,n:=(f:Int) }↔j=f:=by simp [dx]
theorem succs_unless {i j f:Nat}:j∈dx i { op:= .unl,n:=(f:Int) }↔j=i+1∨j=f:=by simp [dx]
theorem eu: ∀ (e:Ex) (d:Nat),∃ l,dg e d=d::l
 | .int _,_=> ⟨_,rfl⟩ | .bool _,_=> ⟨_,rfl⟩ | .var _,_=> ⟨_,rfl⟩ | .name _,_=> ⟨_,rfl⟩
 | .draw e,d=> by obtain ⟨l,h⟩:=eu e d;exact ⟨l++[d+1],by simp [dg,h]⟩
 | .neg e,d=> by obtain ⟨l,h⟩:=eu e d;exact ⟨l++[d+1],by simp [dg,h]⟩
 | .not e,d=> by obtain ⟨l,h⟩:=eu e d;exact ⟨l++[d+1],by simp [dg,h]⟩
 | .bin o x y,d=> by obtain ⟨l,h⟩:=eu x d;cases o <;> exact ⟨_,by simp only [dg,h,List.cons_append];rfl⟩
 | .and x y,d=> by obtain ⟨l,h⟩:=eu x d;exact ⟨_,by rw [dg,h];rfl⟩
 | .or x y,d=> by obtain ⟨l,h⟩:=eu x d;exact ⟨_,by rw [dg,h];rfl⟩
theorem Fit.e {D:Nat→Nat} {a d:Nat} {e:Ex} (h:Fit D a (dg e d)):D a=d:=by
 obtain ⟨l,hl⟩:=eu e d
 rw [hl] at h
 exact h.hd
def gJ (nv:Nat):Ex→Prop
 | .int n=> -2147483647≤n∧n≤2147483647
 | .bool _=> True
 | .var i=> i < nv
 | .name k=> k < 9
 | .draw e=> gJ nv e | .neg e=> gJ nv e | .not e=> gJ nv e
 | .bin _ a b=> gJ nv a∧gJ nv b
 | .and a b=> gJ nv a∧gJ nv b
 | .or a b=> gJ nv a∧gJ nv b
mutual
def fW (nv:Nat):Sm→Prop
 | .assign i e=> i < nv∧gJ nv e
 | .send t k a b=> k < 30∧gJ nv t∧gJ nv a∧gJ nv b
 | .timer k=> k < 8 | .cancel k=> k < 8 | .sync=> True | .stop=> True
 | .reply a b=> gJ nv a∧gJ nv b
 | .fail e=> gJ nv e
 | .loop c b=> gJ nv c∧kN nv b
 | .ite c a b=> gJ nv c∧kN nv a∧kN nv b
def kN (nv:Nat):Bk→Prop
 | .nil=> True
 | .cons s b=> fW nv s∧kN nv b
end
theorem gv (D:Nat→Nat) (nv:Nat): ∀ (e:Ex) (d a lo hi:Nat),gJ nv e→Fit D a (dg e d)→D (a+(bi e a).length)=d+1→lo≤a→a+(bi e a).length≤hi→Good D nv lo hi a (bi e a)
 | .int n,d,a,lo,hi,ho,hf,hx,hl,hh=> by
  simp only [bi,List.length_cons,List.length_nil] at*
  have:=hf.e
  exact .one ho (Nat.zero_le _) fun j hj=> by simp [dx] at hj;subst hj;exact ⟨by omega,by omega,by rw [hx,this];rfl⟩
 | .bool b,d,a,lo,hi,ho,hf,hx,hl,hh=> by
  simp only [bi,List.length_cons,List.length_nil] at*
  have:=hf.e
  exact .one (by cases b <;> simp [cK]) (Nat.zero_le _) fun j hj=> by simp [dx] at hj;subst hj;exact ⟨by omega,by omega,by rw [hx,this];rfl⟩
 | .var i,d,a,lo,hi,ho,hf,hx,hl,hh=> by
  simp only [bi,List.length_cons,List.length_nil] at*
  have:=hf.e
  exact .one (by simp only [gJ] at ho;simp only [cK];omega) (Nat.zero_le _) fun j hj=> by simp [dx] at hj;subst hj;exact ⟨by omega,by omega,by rw [hx,this];rfl⟩
 | .name k,d,a,lo,hi,ho,hf,hx,hl,hh=> by
  simp only [bi,List.length_cons,List.length_nil] at*
  have:=hf.e
  exact .one (by simp only [gJ] at ho;simp only [cK];omega) (Nat.zero_le _) fun j hj=> by simp [dx] at hj;subst hj;exact ⟨by omega,by omega,by rw [hx,this];rfl⟩
 | .draw e,d,a,lo,hi,ho,hf,hx,hl,hh=> by
  simp only [bi,dg,List.length_append,List.length_cons,List.length_nil] at*
  have h1:=hf.right.hd
  rw [bz e d a] at h1
  refine (gv D nv e d a lo hi ho hf.left h1 hl ab).app (.one (by simp [cK]) (by rw [h1];exact Nat.le_add_left _ _) fun j hj=> ?_) rfl
  simp [dx] at hj;subst hj
  exact ⟨by omega,by omega,by rw [Nat.add_assoc,hx,h1];rfl⟩
 | .neg e,d,a,lo,hi,ho,hf,hx,hl,hh=> by
  simp only [bi,dg,List.length_append,List.length_cons,List.length_nil] at*
  have h1:=hf.right.hd
  rw [bz e d a] at h1
  refine (gv D nv e d a lo hi ho hf.left h1 hl ab).app (.one (by simp [cK]) (by rw [h1];exact Nat.le_add_left _ _) fun j hj=> ?_) rfl
  simp [dx] at hj;subst hj
  exact ⟨by omega,by omega,by rw [Nat.add_assoc,hx,h1];rfl⟩
 | .not e,d,a,lo,hi,ho,hf,hx,hl,hh=> by
  simp only [bi,dg,List.length_append,List.length_cons,List.length_nil] at*
  have h1:=hf.right.hd
  rw [bz e d a] at h1
  refine (gv D nv e d a lo hi ho hf.left h1 hl ab).app (.one (by simp [cK]) (by rw [h1];exact Nat.le_add_left _ _) fun j hj=> ?_) rfl
  simp [dx] at hj;subst hj
  exact ⟨by omega,by omega,by rw [Nat.add_assoc,hx,h1];rfl⟩
 | .bin o x y,d,a,lo,hi,ho,hf,hx,hl,hh=> by
  simp only [bi,dg,List.length_append] at*
  have hf1:=hf.left.left
  have hf2:=hf.left.right
  have hf3:=hf.right
  rw [bz x d a] at hf2
  rw [List.length_append,bz x d a,bz y (d+1) (a+(bi x a).length)] at hf3
  have e2:=hf2.e
  have hy:D (a+(bi x a).length+(bi y (a+(bi x a).length)).length)=d+2:=by
   rw [Nat.add_assoc]
   cases o <;> exact hf3.hd
  refine ((gv D nv x d a lo hi ho.1 hf1 e2 hl ab).app (gv D nv y (d+1) _ lo hi ho.2 hf2 hy ab ab) rfl).app (p:=a+(bi x a).length+(bi y (a+(bi x a).length)).length) ?_ (by rw [List.length_append];omega)
  have hx':D (a+(bi x a).length+(bi y (a+(bi x a).length)).length+o.code.length)=d+1:=by rw [← hx];congr 1;omega
  have hh':a+(bi x a).length+(bi y (a+(bi x a).length)).length+o.code.length≤hi:=by omega
  have hl':lo≤a+(bi x a).length+(bi y (a+(bi x a).length)).length:=by omega
  rw [← Nat.add_assoc] at hf3
  clear hf hf1 hf2 e2 hx hh hl
  generalize a+(bi x a).length+(bi y (a+(bi x a).length)).length=p at hf3 hy hx' hh' hl'
  have one: ∀ (q:Nat) (op:Opc),lo≤q→q+1≤hi→cK nv { op:=op }→(∀ i,dx i { op:=op }=[i+1])→op.pops≤D q→D (q+1)=D q - op.pops+op.puts→Good D nv lo hi q [{ op:=op }]:=fun q op q1 q2 q3 q4 q5 q6=>
   .one q3 q5 fun j hj=> by rw [q4] at hj;simp at hj;subst hj;exact ⟨by omega,q2,q6⟩
  have two: ∀ (op:Opc),cK nv { op:=op }→(∀ i,dx i { op:=op }=[i+1])→op.pops=2→op.puts=1→D (p+2)=d+1→D (p+1)=d+1→p+2≤hi→Good D nv lo hi p [{ op:=op },{ op:= .not }]:=fun op q1 q2 q3 q4 q5 q6 q7=>
   (one p op hl' ab q1 q2 (by rw [hy,q3];omega) (by rw [q6,hy,q3,q4];omega)).app (one (p+1) .not ab q7 (by simp [cK]) (fun _=> rfl) (by rw [q6];exact Nat.le_add_left _ _) (by rw [q5,q6];rfl)) rfl
  cases o
  case gt=> exact two .le (by simp [cK]) (fun _=> rfl) rfl rfl hx' (hf3 1 _ rfl) hh'
  case ge=> exact two .lt (by simp [cK]) (fun _=> rfl) rfl rfl hx' (hf3 1 _ rfl) hh'
  case ne=> exact two .eq (by simp [cK]) (fun _=> rfl) rfl rfl hx' (hf3 1 _ rfl) hh'
  all_goals exact one p _ hl' hh' (by simp [cK]) (fun _=> rfl) (by rw [hy];exact Nat.le_add_left _ _) (by rw [show D (p+1)=d+1 from hx',hy];rfl)
 | .and x y,d,a,lo,hi,ho,hf,hx,hl,hh=> by
  simp only [bi,dg,List.length_append,List.length_cons,List.length_nil] at*
  have f1:=hf.left.left.left.left
  have f2:=hf.left.left.left.right
  have f3:=hf.left.left.right
  have f4:=hf.left.right
  have f5:=hf.right
  simp only [List.length_append,List.length_cons,List.length_nil,bz x d a,bz y d (a+(bi x a).length+1)] at f2 f3 f4 f5
  have e2:=f2.hd;have e4:=f4.hd;have e5:=f5.hd
  generalize hc:bi x a=c at*
  rw [show a+(c.length+(0+1))=a+c.length+1 by omega] at f3
  have e3:=f3.e
  generalize hz:bi y (a+c.length+1)=z at*
  have g1:=gv D nv x d a lo hi ho.1 f1 (by rw [hc];exact e2) hl (by rw [hc];omega)
  have g3:=gv D nv y d (a+c.length+1) lo hi ho.2 f3 (by rw [hz,← e4];congr 1;omega) ab (by rw [hz];omega)
  rw [hc] at g1
  rw [hz] at g3
  refine (((g1.app (.one (by simp [cK];omega) (by rw [e2];exact Nat.le_add_left _ _) fun j hj=> ?_) rfl).app g3 (by simp;omega)).app (p:=a+c.length+1+z.length) (.one (by simp [cK];omega) (Nat.zero_le _) fun j hj=> ?_) (by simp;omega)).app (p:=a+c.length+1+z.length+1) (.one (by simp [cK]) (Nat.zero_le _) fun j hj=> ?_) (by simp;omega)
  ·rcases succs_unless.1 hj with rfl | rfl
   ·exact ⟨by omega,by omega,by rw [e3,e2];rfl⟩
   exact ⟨by omega,by omega,by rw [show a+c.length+1+z.length+1=a+(c.length+(0+1)+z.length+(0+1)) by omega,e5,e2];rfl⟩
  ·obtain rfl:=succs_jump.1 hj
   exact ⟨by omega,by omega,by rw [show a+c.length+1+z.length+1+1=a+(c.length+(0+1)+z.length+(0+1)+(0+1)) by omega,hx,show a+c.length+1+z.length=a+(c.length+(0+1)+z.length) by omega,e4];rfl⟩
  simp [dx] at hj;subst hj
  exact ⟨by omega,by omega,by rw [show a+c.length+1+z.length+1+1=a+(c.length+(0+1)+z.length+(0+1)+(0+1)) by omega,hx,show a+c.length+1+z.length+1=a+(c.length+(0+1)+z.length+(0+1)) by omega,e5];rfl⟩
 | .or x y,d,a,lo,hi,ho,hf,hx,hl,hh=> by
  simp only [bi,dg,List.length_append,List.length_cons,List.length_nil] at*
  have f1:=hf.left.left.left.left
  have f2:=hf.left.left.left.right
  have f3:=hf.left.left.right
  have f4:=hf.left.right
  have f5:=hf.right
  simp only [List.length_append,List.length_cons,List.length_nil,bz x d a] at f2 f3 f4 f5
  have e2:=f2.hd;have e3:=f3.hd;have e4:=f4.hd
  generalize hc:bi x a=c at*
  rw [show a+(c.length+(0+1)+(0+1)+(0+1))=a+c.length+1+1+1 by omega] at f5
  have e5:=f5.e
  generalize hz:bi y (a+c.length+1+1+1)=z at*
  have g1:=gv D nv x d a lo hi ho.1 f1 (by rw [hc];exact e2) hl (by rw [hc];omega)
  have g5:=gv D nv y d (a+c.length+1+1+1) lo hi ho.2 f5 (by rw [hz,← hx];congr 1;omega) ab (by rw [hz];omega)
  rw [hc] at g1
  rw [hz] at g5
  refine (((g1.app (.one (by simp [cK];omega) (by rw [e2];exact Nat.le_add_left _ _) fun j hj=> ?_) rfl).app (p:=a+c.length+1) (.one (by simp [cK]) (Nat.zero_le _) fun j hj=> ?_) (by simp;omega)).app (p:=a+c.length+1+1) (.one (by simp [cK];omega) (Nat.zero_le _) fun j hj=> ?_) (by simp;omega)).app g5 (by simp;omega)
  ·rcases succs_unless.1 hj with rfl | rfl
   ·exact ⟨by omega,by omega,by rw [show a+c.length+1=a+(c.length+(0+1)) by omega,e3,e2];rfl⟩
   exact ⟨by omega,by omega,by rw [e5,e2];rfl⟩
  ·simp [dx] at hj;subst hj
   exact ⟨by omega,by omega,by rw [show a+c.length+1+1=a+(c.length+(0+1)+(0+1)) by omega,e4,show a+c.length+1=a+(c.length+(0+1)) by omega,e3];rfl⟩
  obtain rfl:=succs_jump.1 hj
  exact ⟨by omega,by omega,by rw [show a+c.length+1+1+1+z.length=a+(c.length+(0+1)+(0+1)+(0+1)+z.length) by omega,hx,show a+c.length+1+1=a+(c.length+(0+1)+(0+1)) by omega,e4];rfl⟩
theorem Fy: ∀ (s:Sm),∃ l,dU s=0::l
 | .assign _ e=> by obtain ⟨l,h⟩:=eu e 0;exact ⟨_,by simp only [dU,h,List.cons_append];rfl⟩
 | .send t _ a b=> by obtain ⟨l,h⟩:=eu t 0;exact ⟨_,by simp only [dU,h,List.cons_append];rfl⟩
 | .timer _=> ⟨_,by simp only [dU];rfl⟩ | .cancel _=> ⟨_,by simp only [dU];rfl⟩ | .sync=> ⟨_,by simp only [dU];rfl⟩ | .stop=> ⟨_,by simp only [dU];rfl⟩
 | .reply a b=> by obtain ⟨l,h⟩:=eu a 0;exact ⟨_,by simp only [dU,h,List.cons_append];rfl⟩
 | .fail e=> by obtain ⟨l,h⟩:=eu e 0;exact ⟨_,by simp only [dU,h,List.cons_append];rfl⟩
 | .loop c b=> by obtain ⟨l,h⟩:=eu c 0;exact ⟨_,by simp only [dU,h,List.cons_append];rfl⟩
 | .ite c a b=> by obtain ⟨l,h⟩:=eu c 0;exact ⟨_,by simp only [dU,h,List.cons_append];rfl⟩
theorem Fit.s {D:Nat→Nat} {a:Nat} {s:Sm} (h:Fit D a (dU s)):D a=0:=by
 obtain ⟨l,hl⟩:=Fy s
 rw [hl] at h
 exact h.hd
theorem Fit.b {D:Nat→Nat} {a:Nat} {b:Bk} (h:Fit D a (mb b)) (hx:D (a+(dv b a).length)=0):D a=0:=by
 cases b with
 | nil=> simpa [dv] using hx
 | cons s b=> simp only [mb] at h;exact h.left.s
theorem ku {D:Nat→Nat} {nv lo hi a:Nat} {op:Opc} {n:Int} (hs: ∀ i,dx i { op:=op,n:=n }=[i+1]) (ho:cK nv { op:=op,n:=n }) (h1:op.pops≤D a) (h2:D (a+1)=D a - op.pops+op.puts) (hl:lo≤a) (hh:a+1≤hi):Good D nv lo hi a [{ op:=op,n:=n }]:=
 .one ho h1 fun j hj=> by rw [hs] at hj;simp at hj;subst hj;exact ⟨by omega,hh,h2⟩
mutual
theorem Kv (D:Nat→Nat) (nv:Nat): ∀ (s:Sm) (a lo hi:Nat),fW nv s→Fit D a (dU s)→D (a+(cR s a).length)=0→lo≤a→a+(cR s a).length≤hi→Good D nv lo hi a (cR s a)
 | .assign i e,a,lo,hi,ho,hf,hx,hl,hh=> by
  simp only [cR,dU,fW,List.length_append,List.length_cons,List.length_nil] at*
  have h1:=hf.right.hd
  rw [bz e 0 a] at h1
  exact (gv D nv e 0 a lo hi ho.2 hf.left h1 hl ab).app (ku (fun _=> rfl) (by simp only [cK];omega) (by rw [h1];exact Nat.le_refl _) (by rw [Nat.add_assoc,hx,h1];rfl) ab ab) rfl
 | .send t k x y,a,lo,hi,ho,hf,hx,hl,hh=> by
  simp only [cR,dU,fW,List.length_append,List.length_cons,List.length_nil] at*
  have f1:=hf.left.left.left
  have f2:=hf.left.left.right
  have f3:=hf.left.right
  have f4:=hf.right
  simp only [List.length_append,bz t 0 a,bz x 1 (a+(bi t a).length),bz y 2 (a+((bi t a).length+(bi x (a+(bi t a).length)).length))] at f2 f3 f4
  have e2:=f2.e;have e3:=f3.e;have e4:=f4.hd
  have g1:=gv D nv t 0 a lo hi ho.2.1 f1 e2 hl ab
  have g2:=gv D nv x 1 _ lo hi ho.2.2.1 f2 (by rw [Nat.add_assoc];exact e3) ab ab
  have g3:=gv D nv y 2 _ lo hi ho.2.2.2 f3 (by rw [Nat.add_assoc];exact e4) ab ab
  exact ((g1.app g2 rfl).app g3 (by rw [List.length_append])).app (ku (fun _=> rfl) (by simp only [cK];omega) (by rw [e4];exact Nat.le_refl _) (by rw [Nat.add_assoc,hx,e4];rfl) ab ab) (by simp only [List.length_append])
 | .timer k,a,lo,hi,ho,hf,hx,hl,hh=> by
  simp only [cR,dU,fW,List.length_cons,List.length_nil] at*
  have:=hf.hd
  exact ku (fun _=> rfl) (by simp only [cK];omega) (Nat.zero_le _) (by rw [show a+1=a+(0+1) from rfl,hx,this];rfl) hl hh
 | .cancel k,a,lo,hi,ho,hf,hx,hl,hh=> by
  simp only [cR,dU,fW,List.length_cons,List.length_nil] at*
  have:=hf.hd
  exact ku (fun _=> rfl) (by simp only [cK];omega) (Nat.zero_le _) (by rw [show a+1=a+(0+1) from rfl,hx,this];rfl) hl hh
 | .sync,a,lo,hi,ho,hf,hx,hl,hh=> by
  simp only [cR,dU,fW,List.length_cons,List.length_nil] at*
  have:=hf.hd
  exact ku (fun _=> rfl) (by simp [cK]) (Nat.zero_le _) (by rw [show a+1=a+(0+1) from rfl,hx,this];rfl) hl hh
 | .stop,a,lo,hi,ho,hf,hx,hl,hh=> by
  simp only [cR]
  exact .one (by simp [cK]) (Nat.zero_le _) fun j hj=> by simp [dx] at hj
 | .reply x y,a,lo,hi,ho,hf,hx,hl,hh=> by
  simp only [cR,dU,fW,List.length_append,List.length_cons,List.length_nil] at*
  have f1:=hf.left.left
  have f2:=hf.left.right
  have f3:=hf.right
  simp only [List.length_append,bz x 0 a,bz y 1 (a+(bi x a).length)] at f2 f3
  have e2:=f2.e;have e3:=f3.hd
  have g1:=gv D nv x 0 a lo hi ho.1 f1 e2 hl ab
  have g2:=gv D nv y 1 _ lo hi ho.2 f2 (by rw [Nat.add_assoc];exact e3) ab ab
  exact (g1.app g2 rfl).app (ku (fun _=> rfl) (by simp [cK]) (by rw [e3];exact Nat.le_refl _) (by rw [Nat.add_assoc,hx,e3];rfl) ab ab) (by simp only [List.length_append])
 | .fail e,a,lo,hi,ho,hf,hx,hl,hh=> by
  simp only [cR,dU,fW,List.length_append,List.length_cons,List.length_nil] at*
  have h1:=hf.right.hd
  rw [bz e 0 a] at h1
  exact (gv D nv e 0 a lo hi ho hf.left h1 hl ab).app (ku (fun _=> rfl) (by simp [cK]) (by rw [h1];exact Nat.le_refl _) (by rw [Nat.add_assoc,hx,h1];rfl) ab ab) rfl
 | .loop c b,a,lo,hi,ho,hf,hx,hl,hh=> by
  simp only [cR,dU,fW,List.length_append,List.length_cons,List.length_nil] at*
  have f1:=hf.left.left.left
  have f2:=hf.left.left.right
  have f3:=hf.left.right
  have f4:=hf.right
  have e1:=f1.e
  simp only [List.length_append,List.length_cons,List.length_nil,bz c 0 a,gi b (a+(bi c a).length+1)] at f2 f3 f4
  have e2:=f2.hd;have e4:=f4.hd
  generalize hc:bi c a=x at*
  rw [show a+(x.length+(0+1))=a+x.length+1 by omega] at f3
  have e3:=f3.b (by rw [← e4];congr 1;omega)
  have g1:=gv D nv c 0 a lo hi ho.1 f1 (by rw [hc];exact e2) hl (by rw [hc];omega)
  have g3:=uE D nv b (a+x.length+1) lo hi ho.2 f3 (by rw [← e4];congr 1;omega) ab ab
  generalize hz:dv b (a+x.length+1)=z at*
  rw [hc] at g1
  refine ((g1.app (.one (by simp [cK];omega) (by rw [e2];exact Nat.le_refl _) fun j hj=> ?_) rfl).app g3 (by simp;omega)).app (p:=a+x.length+1+z.length) (.one (by simp [cK]) (Nat.zero_le _) fun j hj=> ?_) (by simp;omega)
  ·rcases succs_unless.1 hj with rfl | rfl
   ·exact ⟨by omega,by omega,by rw [e3,e2];rfl⟩
   exact ⟨by omega,by omega,by rw [show a+x.length+z.length+2=a+(x.length+(0+1)+z.length+(0+1)) by omega,hx,e2];rfl⟩
  obtain rfl:=succs_jump.1 hj
  exact ⟨by omega,by omega,by rw [e1,show j+x.length+1+z.length=j+(x.length+(0+1)+z.length) by omega,e4];rfl⟩
 | .ite c u v,a,lo,hi,ho,hf,hx,hl,hh=> by
  simp only [cR,dU,fW,List.length_append,List.length_cons,List.length_nil] at*
  have f1:=hf.left.left.left.left
  have f2:=hf.left.left.left.right
  have f3:=hf.left.left.right
  have f4:=hf.left.right
  have f5:=hf.right
  simp only [List.length_append,List.length_cons,List.length_nil,bz c 0 a,gi u (a+(bi c a).length+1)] at f2 f3 f4 f5
  have e2:=f2.hd;have e4:=f4.hd
  generalize hc:bi c a=x at*
  rw [show a+(x.length+(0+1))=a+x.length+1 by omega] at f3
  have e3:=f3.b (by rw [← e4];congr 1;omega)
  have g1:=gv D nv c 0 a lo hi ho.1 f1 (by rw [hc];exact e2) hl (by rw [hc];omega)
  have g3:=uE D nv u (a+x.length+1) lo hi ho.2.1 f3 (by rw [← e4];congr 1;omega) ab ab
  generalize hz:dv u (a+x.length+1)=z at*
  rw [show a+(x.length+(0+1)+z.length+(0+1))=a+x.length+1+z.length+1 by omega] at f5
  have e5:=f5.b (by rw [← hx];congr 1;omega)
  have g5:=uE D nv v (a+x.length+1+z.length+1) lo hi ho.2.2 f5 (by rw [← hx];congr 1;omega) ab ab
  generalize hy:dv v (a+x.length+1+z.length+1)=y at*
  rw [hc] at g1
  refine (((g1.app (.one (by simp [cK];omega) (by rw [e2];exact Nat.le_refl _) fun j hj=> ?_) rfl).app g3 (by simp;omega)).app (p:=a+x.length+1+z.length) (.one (by simp [cK];omega) (Nat.zero_le _) fun j hj=> ?_) (by simp;omega)).app g5 (by simp;omega)
  ·rcases succs_unless.1 hj with rfl | rfl
   ·exact ⟨by omega,by omega,by rw [e3,e2];rfl⟩
   exact ⟨by omega,by omega,by rw [e5,e2];rfl⟩
  obtain rfl:=succs_jump.1 hj
  exact ⟨by omega,by omega,by rw [show a+x.length+1+z.length+1+y.length=a+(x.length+(0+1)+z.length+(0+1)+y.length) by omega,hx,show a+x.length+1+z.length=a+(x.length+(0+1)+z.length) by omega,e4];rfl⟩
theorem uE (D:Nat→Nat) (nv:Nat): ∀ (b:Bk) (a lo hi:Nat),kN nv b→Fit D a (mb b)→D (a+(dv b a).length)=0→lo≤a→a+(dv b a).length≤hi→Good D nv lo hi a (dv b a)
 | .nil,a,lo,hi,ho,hf,hx,hl,hh=> by simp only [dv];exact .nil
 | .cons s b,a,lo,hi,ho,hf,hx,hl,hh=> by
  simp only [dv,mb,kN,List.length_append] at*
  have f1:=hf.left
  have f2:=hf.right
  rw [vt s a] at f2
  have e2:=f2.b (by rw [Nat.add_assoc];exact hx)
  exact (Kv D nv s a lo hi ho.1 f1 e2 hl ab).app (uE D nv b _ lo hi ho.2 f2 (by rw [Nat.add_assoc];exact hx) ab ab) rfl
end
end Go.Proofs.YtmjnackchaahbaaGreat

set_option maxHeartbeats 2000000
namespace Go.Proofs.YtmjnackchaahbaaGreat

def bE:List (Nat×Bk)→Nat→List et
 | [],_=> []
 | (_,b)::l,a=> dv b a++[{ op:= .stop }]++bE l (a+(dv b a).length+1)
def mc:List (Nat×Bk)→List Nat
 | []=> []
 | (_,b)::l=> mb b++[0]++mc l
def jL:List (Nat×Bk)→Nat→List (Nat×Nat)
 | [],_=> []
 | (h,b)::l,a=> (h,a)::jL l (a+(dv b a).length+1)
theorem pS: ∀ (l:List (Nat×Bk)) (a:Nat),(mc l).length=(bE l a).length
 | [],_=> rfl
 | (h,b)::l,a=> by simp [mc,bE,gi b a,pS l (a+(dv b a).length+1)]
theorem CC (D:Nat→Nat) (nv:Nat): ∀ (l:List (Nat×Bk)) (a lo hi:Nat),(∀ p∈l,kN nv p.2)→Fit D a (mc l)→lo≤a→a+(bE l a).length≤hi+1→Good D nv lo hi a (bE l a)
 | [],a,lo,hi,ho,hf,hl,hh=> .nil
 | (h,b)::l,a,lo,hi,ho,hf,hl,hh=> by
  simp only [bE,mc,List.length_append,List.length_cons,List.length_nil] at*
  have f1:=hf.left.left
  have f2:=hf.left.right
  have f3:=hf.right
  simp only [List.length_append,List.length_cons,List.length_nil,gi b a] at f2 f3
  have e2:=f2.hd
  refine ((uE D nv b a lo hi (ho (h,b) (by simp)) f1 e2 hl ab).app (.one (by simp [cK]) (Nat.zero_le _) fun j hj=> by simp [dx] at hj) rfl).app (CC D nv l _ lo hi (fun p hp=> ho p (by simp [hp])) (by rw [show a+(dv b a).length+1=a+((dv b a).length+(0+1)) by omega];exact f3) ab ab) (by simp;omega)
theorem yn {D:Nat→Nat}: ∀ {l:List (Nat×Bk)} {a:Nat},Fit D a (mc l)→ ∀ {h e:Nat},(h,e)∈jL l a→a≤e∧e < a+(bE l a).length∧D e=0
 | [],_,_,_,_,hm=> by simp [jL] at hm
 | (k,b)::l,a,hf,h,e,hm=> by
  simp only [bE,mc,jL,List.length_append,List.length_cons,List.length_nil] at*
  have f1:=hf.left.left
  have f2:=hf.left.right
  have f3:=hf.right
  simp only [List.length_append,List.length_cons,List.length_nil,gi b a] at f2 f3
  rcases List.mem_cons.1 hm with hm | hm
  ·obtain ⟨rfl,rfl⟩:=Prod.mk.inj hm
   exact ⟨Nat.le_refl _,by omega,f1.b f2.hd⟩
  obtain ⟨h1,h2,h3⟩:=yn (l:=l) (a:=a+(dv b a).length+1) (by rw [show a+(dv b a).length+1=a+((dv b a).length+(0+1)) by omega];exact f3) hm
  exact ⟨by omega,by omega,h3⟩

def kR (n:Int):Int:=max (-2147483647) (min n 2147483647)
def Rg (v:Int):Prop:= -2147483647≤v∧v≤2147483647
theorem oo (n:Int):Rg (kR n):=by unfold Rg kR;omega
theorem tM {n:Int} (h:Rg n):kR n=n:=by unfold Rg at h;unfold kR;omega
structure Ac where
 k:Int
 a:Int:=0
 b:Int:=0
 c:Int:=0
 d:Int:=0
 deriving DecidableEq
structure Cx where
 code:List et
 dur:Nat
 names:List Int
 ans:List Int
structure Ms where
 vars:List Int
 acts:List Ac:=[]
 steps:Nat:=0
 stack:List Int:=[]
 pc:Nat
 asked:List Int:=[]
 fin:Bool:=false
 cov:List Nat:=[]
def Ms.top (s:Ms) (k:Nat):Int:=s.stack.getD (s.stack.length - 1 - k) 0
def Ms.pop (s:Ms) (k:Nat):List Int:=s.stack.take (s.stack.length - k)
def el (l:List Int) (i:Nat) (k:Int):Int:=l.getD i 0 % k
def bL (l:List Ac):Nat:=l.countP fun a=> decide (a.k=3)
def flag (b:Bool):Int:=if b then 1 else 0
def eE:Opc→Int→Int→Int
 | .add,y,x=> kR (y+x)
 | .sub,y,x=> kR (y - x)
 | .mul,y,x=> kR (y*x)
 | .div,y,x=> if x=0 then 0 else kR (y.tdiv x)
 | .lt,y,x=> flag (decide (y < x))
 | .le,y,x=> flag (decide (y≤x))
 | _,y,x=> flag (decide (y=x))
def bS (K:Cx) (x:et) (s:Ms):Ms:=match x.op with
 | .push=> { s with stack:=s.stack++[kR x.n] }
 | .var=> { s with stack:=s.stack++[kR (s.vars.getD x.n.toNat 0)] }
 | .setVar=> { s with vars:=s.vars.set x.n.toNat (s.top 0),stack:=s.pop 1,acts:=if x.n < K.dur then s.acts++[{ k:=1,a:=x.n,b:=s.top 0 }] else s.acts }
 | .name=> { s with stack:=s.stack++[kR (K.names.getD x.n.toNat 0)] }
 | .draw=>
  if max 1 (min (s.top 0) 4)=1 then { s with stack:=s.pop 1++[0] }
  else { s with stack:=s.pop 1++[el K.ans s.asked.length (max 1 (min (s.top 0) 4))],asked:=s.asked++[max 1 (min (s.top 0) 4)] }
 | .neg=> { s with stack:=s.pop 1++[kR (-(s.top 0))] }
 | .not=> { s with stack:=s.pop 1++[flag (decide (s.top 0=0))] }
 | .jump=> { s with pc:=x.n.toNat }
 | .unl=> { s with stack:=s.pop 1,pc:=if s.top 0=0 then x.n.toNat else s.pc }
 | .send=> { s with stack:=s.pop 3,acts:=if 0≤s.top 2∧s.top 2 < K.names.getD 1 0∧bL s.acts < 20 then s.acts++[{ k:=3,a:=s.top 2,b:=x.n,c:=s.top 1,d:=s.top 0 }] else s.acts }
 | .timer=> { s with acts:=s.acts++[{ k:=4,a:=x.n }] }
 | .cancel=> { s with acts:=s.acts++[{ k:=5,a:=x.n }] }
 | .sync=> { s with acts:=s.acts++[{ k:=2 }] }
 | .reply=> { s with stack:=s.pop 2,acts:=s.acts++[{ k:=6,a:=s.top 1,b:=s.top 0 }] }
 | .fail=> { s with stack:=s.pop 1,acts:=s.acts++[{ k:=7,a:=s.top 0 }] }
 | .stop=> { s with fin:=true }
 | o=> { s with stack:=s.pop 2++[eE o (s.top 1) (s.top 0)] }
def gu (K:Cx) (s:Ms):Ms:=bS K (K.code.getD s.pc { op:= .stop }) { s with pc:=s.pc+1,steps:=s.steps+1,cov:=s.cov++[s.pc] }
def jf (K:Cx):Nat→Ms→Ms
 | 0,s=> s
 | k+1,s=> if s.fin=true then s else jf K k (gu K s)
theorem jb {K:Cx} {I:Ms→Prop} (h: ∀ s,I s→s.fin=false→I (gu K s)): ∀ k s,I s→I (jf K k s)
 | 0,_,hs=> hs
 | k+1,s,hs=> by
  unfold jf
  split
  ·exact hs
  rename_i hf;exact jb h k _ (h s hs (by simpa using hf))
theorem xi {K:Cx} {x:et} {s:Ms}:(bS K x s).steps=s.steps∧(bS K x s).cov=s.cov:=by
 unfold bS
 cases x.op <;> first | exact ⟨rfl,rfl⟩ | (simp only;split <;> exact ⟨rfl,rfl⟩)
theorem stepM_steps {K:Cx} {s:Ms}:(gu K s).steps=s.steps+1∧(gu K s).cov=s.cov++[s.pc]:=by
 unfold gu
 obtain ⟨h1,h2⟩:=xi (K:=K) (x:=K.code.getD s.pc { op:= .stop }) (s:={ s with pc:=s.pc+1,steps:=s.steps+1,cov:=s.cov++[s.pc] })
 exact ⟨h1,h2⟩
theorem bD (s:Ms) (k:Nat):(s.pop k).length=s.stack.length - k:=by simp [Ms.pop]
theorem Br {K:Cx} {x:et} {s:Ms} (h:x.op.pops≤s.stack.length):(bS K x s).stack.length=s.stack.length - x.op.pops+x.op.puts:=by
 unfold bS
 generalize x.op=o at h ⊢
 cases o <;> simp only [Opc.pops,Opc.puts] at h ⊢ <;> (try split) <;> first | rfl | (simp only [List.length_append,bD,List.length_cons,List.length_nil];done) | (simp only [List.length_append,bD,List.length_cons,List.length_nil];omega)
theorem Fc {K:Cx} {x:et} {s:Ms} {i:Nat} (hp:s.pc=i+1) (hf:(bS K x s).fin=false):(bS K x s).pc∈dx i x:=by
 unfold bS at hf ⊢
 unfold dx
 cases ho:x.op <;> simp only [ho] at hf ⊢ <;> first | (simp at hf;done) | (rw [hp];exact List.mem_cons_self) | exact List.mem_cons_self | (split <;> simp [hp])
end Go.Proofs.YtmjnackchaahbaaGreat

set_option maxHeartbeats 2000000
namespace Go.Proofs.YtmjnackchaahbaaGreat

structure PG (K:Cx) (D:Nat→Nat) (nv:Nat):Prop where
 good:Good D nv 0 (K.code.length - 1) 0 K.code
 nv:nv≤16
 nm: ∀ i,Rg (K.names.getD i 0)
theorem oB:Rg 0:=by unfold Rg;omega
theorem sQ {n:Int} (h:0≤n∧n < 1000):Rg n:=by unfold Rg;omega
def Fo (K:Cx) (nv:Nat) (a:Ac):Prop:=(Rg a.a∧Rg a.b∧Rg a.c∧Rg a.d)∧(a.k=3→0≤a.a∧a.a < K.names.getD 1 0)∧(a.k=1→0≤a.a∧a.a < K.dur∧a.a < nv)
structure IV (K:Cx) (nv:Nat) (s:Ms):Prop where
 vl:s.vars.length=nv
 rv: ∀ v∈s.vars,Rg v
 rs: ∀ v∈s.stack,Rg v
 ac: ∀ a∈s.acts,Fo K nv a
 sn:bL s.acts≤20
 ar: ∀ k∈s.asked,2≤k∧k≤4
theorem nj {l:List Int} (h: ∀ v∈l,Rg v) (i:Nat):Rg (l.getD i 0):=by
 by_cases hi:i < l.length
 ·rw [List.getD_eq_getElem?_getD,List.getElem?_eq_getElem hi];exact h _ (List.getElem_mem hi)
 rw [List.getD_eq_getElem?_getD,List.getElem?_eq_none ab];exact oB
theorem sY {s:Ms} (h: ∀ v∈s.stack,Rg v) (k:Nat):Rg (s.top k):=nj h _
theorem Ji {s:Ms} (h: ∀ v∈s.stack,Rg v) (k:Nat): ∀ v∈s.pop k,Rg v:=fun v hv=> h v (List.mem_of_mem_take hv)
theorem lm {l:List Int} {n:Int} (h: ∀ v∈l,Rg v) (hn:Rg n): ∀ v∈l++[n],Rg v:=fun v hv=> by
 rcases List.mem_append.1 hv with hv | hv
 ·exact h v hv
 simp at hv;subst hv;exact hn
theorem xO (b:Bool):Rg (flag b):=by unfold flag Rg;split <;> omega
theorem Fl (o:Opc) (y x:Int):Rg (eE o y x):=by
 unfold eE
 split <;> first | exact oo _ | exact xO _ | (split <;> first | exact oB | exact oo _)
theorem EB {l:List Int} {i:Nat} {k:Int} (h:2≤k∧k≤4):Rg (el l i k)∧0≤el l i k∧el l i k < k:=by
 unfold el
 have h1:=Int.emod_nonneg (l.getD i 0) (show k≠0 by omega)
 have h2:=Int.emod_lt_of_pos (l.getD i 0) (show 0 < k by omega)
 exact ⟨by unfold Rg;omega,h1,h2⟩
theorem jg {K:Cx} {nv:Nat} {l:List Ac} {a:Ac} (h: ∀ a∈l,Fo K nv a) (ha:Fo K nv a): ∀ b∈l++[a],Fo K nv b:=fun b hb=> by
 rcases List.mem_append.1 hb with hb | hb
 ·exact h b hb
 simp at hb;subst hb;exact ha
theorem jY {l:List Ac} {a:Ac} (h:a.k≠3):bL (l++[a])=bL l:=by
 unfold bL
 rw [List.countP_append]
 simp [h]
theorem Al {l:List Ac} {a:Ac} (h:a.k=3):bL (l++[a])=bL l+1:=by
 unfold bL
 rw [List.countP_append]
 simp [h]
theorem pH {l:List Int} {i:Nat} {n:Int} (h: ∀ v∈l,Rg v) (hn:Rg n): ∀ v∈l.set i n,Rg v:=fun v hv=> by
 rcases List.mem_or_eq_of_mem_set hv with hv | rfl
 ·exact h v hv
 exact hn
theorem Fg {K:Cx} {D:Nat→Nat} {nv:Nat} (hK:PG K D nv) {x:et} (hx:cK nv x) {s:Ms} (h:IV K nv s):IV K nv (bS K x s):=by
 have hnv:=hK.nv
 have ht:=sY h.rs
 have hp:=Ji h.rs
 unfold bS
 unfold cK at hx
 cases ho:x.op <;> simp only [ho] at hx ⊢
 case push=> exact ⟨h.vl,h.rv,lm h.rs (oo _),h.ac,h.sn,h.ar⟩
 case var=> exact ⟨h.vl,h.rv,lm h.rs (oo _),h.ac,h.sn,h.ar⟩
 case name=> exact ⟨h.vl,h.rv,lm h.rs (oo _),h.ac,h.sn,h.ar⟩
 case setVar=>
  refine ⟨by rw [List.length_set];exact h.vl,pH h.rv (ht 0),hp 1,?_,?_,h.ar⟩
  ·split
   ·rename_i hd
    exact jg h.ac ⟨⟨sQ (n:=x.n) ⟨hx.1,by omega⟩,ht 0,oB,oB⟩,fun e=> by simp at e,fun _=> ⟨hx.1,hd,hx.2⟩⟩
   exact h.ac
  split
  ·rw [jY (by simp)];exact h.sn
  exact h.sn
 case draw=>
  split
  ·exact ⟨h.vl,h.rv,lm (hp 1) oB,h.ac,h.sn,h.ar⟩
  rename_i hk
  have hk2:2≤max 1 (min (s.top 0) 4)∧max 1 (min (s.top 0) 4)≤4:=by omega
  refine ⟨h.vl,h.rv,lm (hp 1) (EB hk2).1,h.ac,h.sn,fun k hk=> ?_⟩
  rcases List.mem_append.1 hk with hk | hk
  ·exact h.ar k hk
  simp only [List.mem_singleton] at hk;subst hk;exact hk2
 case neg=> exact ⟨h.vl,h.rv,lm (hp 1) (oo _),h.ac,h.sn,h.ar⟩
 case not=> exact ⟨h.vl,h.rv,lm (hp 1) (xO _),h.ac,h.sn,h.ar⟩
 case jump=> exact ⟨h.vl,h.rv,h.rs,h.ac,h.sn,h.ar⟩
 case unl=> exact ⟨h.vl,h.rv,hp 1,h.ac,h.sn,h.ar⟩
 case send=>
  refine ⟨h.vl,h.rv,hp 3,?_,?_,h.ar⟩
  ·split
   ·rename_i hc
    exact jg h.ac ⟨⟨ht 2,sQ (n:=x.n) ⟨hx.1,by omega⟩,ht 1,ht 0⟩,fun _=> ⟨hc.1,hc.2.1⟩,fun e=> by simp at e⟩
   exact h.ac
  split
  ·rename_i hc
   rw [Al rfl];omega
  exact h.sn
 case timer=> exact ⟨h.vl,h.rv,h.rs,jg h.ac ⟨⟨sQ (n:=x.n) ⟨hx.1,by omega⟩,oB,oB,oB⟩,fun e=> by simp at e,fun e=> by simp at e⟩,by rw [jY (by simp)];exact h.sn,h.ar⟩
 case cancel=> exact ⟨h.vl,h.rv,h.rs,jg h.ac ⟨⟨sQ (n:=x.n) ⟨hx.1,by omega⟩,oB,oB,oB⟩,fun e=> by simp at e,fun e=> by simp at e⟩,by rw [jY (by simp)];exact h.sn,h.ar⟩
 case sync=> exact ⟨h.vl,h.rv,h.rs,jg h.ac ⟨⟨oB,oB,oB,oB⟩,fun e=> by simp at e,fun e=> by simp at e⟩,by rw [jY (by simp)];exact h.sn,h.ar⟩
 case reply=> exact ⟨h.vl,h.rv,hp 2,jg h.ac ⟨⟨ht 1,ht 0,oB,oB⟩,fun e=> by simp at e,fun e=> by simp at e⟩,by rw [jY (by simp)];exact h.sn,h.ar⟩
 case fail=> exact ⟨h.vl,h.rv,hp 1,jg h.ac ⟨⟨ht 0,oB,oB,oB⟩,fun e=> by simp at e,fun e=> by simp at e⟩,by rw [jY (by simp)];exact h.sn,h.ar⟩
 case stop=> exact ⟨h.vl,h.rv,h.rs,h.ac,h.sn,h.ar⟩
 all_goals exact ⟨h.vl,h.rv,lm (hp 2) (Fl _ _ _),h.ac,h.sn,h.ar⟩
structure At (K:Cx) (D:Nat→Nat) (nv:Nat) (s:Ms):Prop where
 iv:IV K nv s
 go:s.fin=false→s.pc < K.code.length∧s.stack.length=D s.pc
 cl: ∀ i∈s.cov,i < K.code.length
 cn:s.cov.length=s.steps
 fn:s.fin=true→ ∃ i∈s.cov,∃ x,K.code[i]? =some x∧x.op= .stop
theorem El {K:Cx} {x:et} {s:Ms} (hs:s.fin=false) (h:(bS K x s).fin=true):x.op= .stop:=by
 unfold bS at h
 cases ho:x.op <;> simp only [ho] at h <;> first | rfl | (rw [hs] at h;cases h) | (split at h <;> (rw [hs] at h;cases h))
theorem pA {K:Cx} {D:Nat→Nat} {nv:Nat} (hK:PG K D nv) {s:Ms} (h:At K D nv s) (hf:s.fin=false):At K D nv (gu K s):=by
 obtain ⟨hp,hd⟩:=h.go hf
 obtain ⟨x,hx⟩: ∃ x,K.code[s.pc]? =some x:=⟨_,List.getElem?_eq_getElem hp⟩
 have hg:K.code.getD s.pc { op:= .stop }=x:=by rw [List.getD_eq_getElem?_getD,hx];rfl
 obtain ⟨g1,g2,g3⟩:=hK.good s.pc x hx
 rw [Nat.zero_add] at g2 g3
 obtain ⟨e1,e2⟩:=stepM_steps (K:=K) (s:=s)
 have hdef:gu K s=bS K x { s with pc:=s.pc+1,steps:=s.steps+1,cov:=s.cov++[s.pc] }:=by unfold gu;rw [hg]
 refine ⟨?_,fun hn=> ?_,?_,?_,fun hn=> ?_⟩
 ·rw [hdef]
  exact Fg hK g1 ⟨h.iv.vl,h.iv.rv,h.iv.rs,h.iv.ac,h.iv.sn,h.iv.ar⟩
 ·rw [hdef] at hn ⊢
  have hpc:=Fc (K:=K) (x:=x) (s:={ s with pc:=s.pc+1,steps:=s.steps+1,cov:=s.cov++[s.pc] }) (i:=s.pc) rfl hn
  obtain ⟨_,j2,j3⟩:=g3 _ hpc
  refine ⟨by omega,?_⟩
  rw [Br (by simp only;rw [hd];exact g2),j3]
  simp only
  rw [hd]
 ·rw [e2]
  intro i hi
  rcases List.mem_append.1 hi with hi | hi
  ·exact h.cl i hi
  simp at hi;subst hi;exact hp
 ·rw [e2,e1,List.length_append,h.cn];rfl
 rw [hdef] at hn
 have hs:=El (s:={ s with pc:=s.pc+1,steps:=s.steps+1,cov:=s.cov++[s.pc] }) hf hn
 rw [e2]
 exact ⟨s.pc,by simp,x,hx,hs⟩
theorem IR {K:Cx} {D:Nat→Nat} {nv:Nat} (hK:PG K D nv) {s:Ms} (h:At K D nv s) (k:Nat):At K D nv (jf K k s):=jb (fun s hs hf=> pA hK hs hf) k s h
theorem lR {K:Cx}: ∀ (k:Nat) (s:Ms),(jf K k s).steps≤s.steps+k∧((jf K k s).fin=false→(jf K k s).steps=s.steps+k)
 | 0,s=> ⟨Nat.le_refl _,fun _=> rfl⟩
 | k+1,s=> by
  unfold jf
  split
  ·rename_i hf;exact ⟨by omega,fun h=> by rw [hf] at h;cases h⟩
  obtain ⟨h1,h2⟩:=lR (K:=K) k (gu K s)
  rw [stepM_steps.1] at h1 h2
  exact ⟨by omega,fun h=> by have:=h2 h;omega⟩
def cQ (vars:List Int) (e:Nat):Ms:={ vars:=vars,pc:=e }
theorem qa {K:Cx} {D:Nat→Nat} {nv:Nat} {vars:List Int} {e:Nat} (hl:vars.length=nv) (hr: ∀ v∈vars,Rg v) (he:e < K.code.length) (hd:D e=0):At K D nv (cQ vars e):=
 ⟨⟨hl,hr,fun v hv=> by simp [cQ] at hv,fun a ha=> by simp [cQ] at ha,by simp [cQ,bL],fun k hk=> by simp [cQ] at hk⟩,fun _=> ⟨he,hd.symm⟩,fun i hi=> by simp [cQ] at hi,rfl,fun h=> by simp [cQ] at h⟩
def vU (l:List Int) (al:List Ac):List Int:=al.foldl (fun m a=> if a.k=1 then m.set a.a.toNat a.b else m) l
theorem xN (l:List Int) (al:List Ac) (a:Ac):vU l (al++[a])=if a.k=1 then (vU l al).set a.a.toNat a.b else vU l al:=by simp [vU,List.foldl_append]
theorem xA {l:List Int} {al:List Ac} {a:Ac} (h:a.k≠1):vU l (al++[a])=vU l al:=by rw [xN,if_neg h]
theorem Dg {K:Cx} {nv:Nat} {x:et} (hx:cK nv x) {v0:List Int} {s:Ms} (h:s.vars.take K.dur=vU v0 s.acts):(bS K x s).vars.take K.dur=vU v0 (bS K x s).acts:=by
 unfold bS
 unfold cK at hx
 cases ho:x.op <;> simp only [ho] at hx ⊢ <;> try first | exact h | (rw [xA (by simp)];exact h)
 ·split
  ·rename_i hd
   rw [xN,if_pos rfl,← h,List.take_set]
  rename_i hd
  rw [← h,List.take_set_of_le ab]
 ·split <;> exact h
 split
 ·rw [xA (by simp)];exact h
 exact h
theorem Gt {K:Cx} {D:Nat→Nat} {nv:Nat} (hK:PG K D nv) {vars:List Int} {e:Nat} (hs:At K D nv (cQ vars e)) (k:Nat):(jf K k (cQ vars e)).vars.take K.dur=vU (vars.take K.dur) (jf K k (cQ vars e)).acts:=by
 have:=jb (K:=K) (I:=fun s=> At K D nv s∧s.vars.take K.dur=vU (vars.take K.dur) s.acts) (fun s hI hf=> ?_) k (cQ vars e) ⟨hs,rfl⟩
 ·exact this.2
 refine ⟨pA hK hI.1 hf,?_⟩
 obtain ⟨hp,_⟩:=hI.1.go hf
 have hx:K.code[s.pc]? =some K.code[s.pc]:=List.getElem?_eq_getElem hp
 have hg:K.code.getD s.pc { op:= .stop }=K.code[s.pc]:=by rw [List.getD_eq_getElem?_getD,hx];rfl
 obtain ⟨g1,_,_⟩:=hK.good s.pc _ hx
 unfold gu
 rw [hg]
 exact Dg g1 hI.2
end Go.Proofs.YtmjnackchaahbaaGreat

set_option maxHeartbeats 2000000
namespace Go.Proofs.YtmjnackchaahbaaGreat

def shift (d:Nat) (x:et):et:=match x.op with
 | .jump=> { x with n:=x.n+d }
 | .unl=> { x with n:=x.n+d }
 | _=> x
end Go.Proofs.YtmjnackchaahbaaGreat

set_option maxHeartbeats 2000000
namespace Go.Proofs.YtmjnackchaahbaaGreat
open Go.RowKit

abbrev Tx:=List UInt8
structure Tk where
 k:Nat
 a:Nat
 t:Tx
 n:Nat:=0
def nb (c:UInt8):Bool:=Nat.ble 97 c.toNat && Nat.ble c.toNat 122
def fU (c:UInt8):Bool:=Nat.ble 48 c.toNat && Nat.ble c.toNat 57
def tU:Tx→Bool→Nat
 | [],_=> 0
 | x::l,true=> if x.toNat=10 then 1+tU l false else 1+tU l true
 | x::l,false=> if x.toNat=35 then 1+tU l true else if x.toNat=32∨x.toNat=9∨x.toNat=10 then 1+tU l false else 0
def kL (l:Tx):Nat:=l.foldl (fun n c=> 10*n+(c.toNat - 48)) 0
def EY:List Tx:=[[124,124],[38,38],[60,61],[62,61],[61,61],[33,61]]
def IF:List Tx:=[[123],[125],[91],[93],[40],[41],[61],[59],[44],[60],[62],[43],[45],[42],[47],[33]]
def rh (s:Tx) (a:Nat):Option Tk:=match s with
 | []=> none
 | c::l=>
  if nb c then (if 10 < (c::l.takeWhile fun x=> nb x || fU x).length then none else some ⟨1,a,c::l.takeWhile fun x=> nb x || fU x,0⟩)
  else if fU c then (if 2147483647 < kL (c::l.takeWhile fU) then none else some ⟨2,a,c::l.takeWhile fU,kL (c::l.takeWhile fU)⟩)
  else if s.take 2∈EY then some ⟨3,a,s.take 2,0⟩
  else if [c]∈IF then some ⟨3,a,[c],0⟩
  else none
def nx:Nat→Tx→Nat→Option (List Tk)
 | 0,_,_=> none
 | f+1,s,a=>
  if s.length≤a then some [⟨0,s.length,[],0⟩]
  else match rh (s.drop a) a with
   | none=> none
   | some t=> match nx f s (a+t.t.length+tU (s.drop (a+t.t.length)) false) with
    | none=> none
    | some l=> some (t::l)
def GC (s:Tx):Option (List Tk):=nx (s.length+1) s (tU s false)
structure Nd where
 k:Nat
 n:Nat:=0
 s:Tx:=[]
 kn:Nat:=0
 kids:List PV:=[]
def Nd.row (d:Nd):List PV:=[.v (.int .i64 (d.k:Int)), .v (.int .i64 (d.n:Int)), .v (bt d.s), .sl d.kn d.kids]
def nd (k n:Nat) (s:Tx) (l:List Nd):Nd:=⟨k,n,s,l.length,l.flatMap Nd.row⟩
def bltT:List Tx:=[[115,101,108,102],[110,111,100,101,115],[110,111,119],[102,114,111,109],[97],[98],[105,100],[111,112],[107,101,121]]
def Ou:List Tx:=[[100,117,114,97,98,108,101],[118,111,108,97,116,105,108,101],[111,110],[115,116,97,114,116],[114,101,113,117,101,115,116],[116,105,109,101,114],[109,101,115,115,97,103,101],[105,102],[101,108,115,101],[119,104,105,108,101],[115,101,110,100],[99,97,110,99,101,108],[115,121,110,99],[114,101,112,108,121],[102,97,105,108],[115,116,111,112],[116,114,117,101],[102,97,108,115,101],[100,114,97,119]]
def lW:Tx:=[100,117,114,97,98,108,101]
def mF:Tx:=[118,111,108,97,116,105,108,101]
def IH:Tx:=[111,110]
def nM:Tx:=[115,116,97,114,116]
def jH:Tx:=[114,101,113,117,101,115,116]
def gU:Tx:=[116,105,109,101,114]
def jV:Tx:=[109,101,115,115,97,103,101]
def wP:Tx:=[105,102]
def sD:Tx:=[101,108,115,101]
def ka:Tx:=[119,104,105,108,101]
def pM:Tx:=[115,101,110,100]
def lG:Tx:=[99,97,110,99,101,108]
def qS:Tx:=[115,121,110,99]
def nN:Tx:=[114,101,112,108,121]
def qd:Tx:=[102,97,105,108]
def qA:Tx:=[115,116,111,112]
def xg:Tx:=[116,114,117,101]
def tz:Tx:=[102,97,108,115,101]
def AF:Tx:=[100,114,97,119]
def wo (s:Tx):Bool:=decide (s∈bltT) || decide (s∈Ou)
def opsP:List (List Tx):=[[],[[124,124]],[[38,38]],[],[[60],[60,61],[62],[62,61],[61,61],[33,61]],[[43],[45]],[[42],[47]]]
section
variable (T:List Tk)
def cN (i:Nat):Tk:=T.getD i ⟨0,0,[],0⟩
def br (i:Nat):Nat:=if i+1 < T.length then i+1 else i
def ee (i:Nat):Bool:=decide ((cN T i).k=1) && !wo (cN T i).t
def gm (s:Tx) (i:Nat):Option Nat:=if (cN T i).t=s then some (br T i) else none
def sc (s:Tx) (lv i:Nat):Option Nat:=if (cN T i).t=s∧20 < lv then none else gm T s i
def pq (most i:Nat):Option (Nat×Nat):=if (cN T i).k=2∧(cN T i).n≤most then some ((cN T i).n,br T i) else none
mutual
def gj:Nat→Nat→Nat→Nat→Option (Nd×Nat)
 | 0,_,_,_=> none
 | f+1,lv,pr,i=>
  if pr=3∧(cN T i).t=[33] then Jq f (cN T i).t lv 3 i
  else if pr=3 then za f lv 4 i
  else if pr=7∧(cN T i).t=[45] then Jq f (cN T i).t lv 7 i
  else if pr=7 then tV f lv i
  else za f lv pr i
def Jq:Nat→Tx→Nat→Nat→Nat→Option (Nd×Nat)
 | 0,_,_,_,_=> none
 | f+1,s,lv,pr,i=> do
  let j ← sc T s (lv+1) i
  let (d,j) ← gj f (lv+1) pr j
  return (nd 17 0 s [d],j)
def za:Nat→Nat→Nat→Nat→Option (Nd×Nat)
 | 0,_,_,_=> none
 | f+1,lv,pr,i=> do
  let (d,j) ← gj f lv (pr+1) i
  nR f lv pr d j
def nR:Nat→Nat→Nat→Nd→Nat→Option (Nd×Nat)
 | 0,_,_,_,_=> none
 | f+1,lv,pr,d,i=>
  if (cN T i).t∈opsP.getD pr [] then do
   let (e,j) ← gj f lv (pr+1) (br T i)
   if pr=4 then return (nd 18 0 (cN T i).t [d,e],j) else nR f lv pr (nd 18 0 (cN T i).t [d,e]) j
  else some (d,i)
def rN:Nat→Nat→Nat→Option (Nd×Nat)
 | 0,_,_=> none
 | f+1,lv,i=> do
  let j ← sc T [40] (lv+1) i
  let (d,j) ← gj f (lv+1) 1 j
  let j ← gm T [41] j
  return (d,j)
def tV:Nat→Nat→Nat→Option (Nd×Nat)
 | 0,_,_=> none
 | f+1,lv,i=>
  let t:=cN T i
  if t.t=[40] then rN f lv i
  else if t.t=AF then do
   let (d,j) ← rN f lv (br T i)
   return (nd 16 0 [] [d],j)
  else if t.k=2 then some (nd 12 t.n [] [],br T i)
  else if t.t=xg then some (nd 13 1 [] [],br T i)
  else if t.t=tz then some (nd 13 0 [] [],br T i)
  else if t.t∈bltT then some (nd 15 0 t.t [],br T i)
  else if ee T i then some (nd 14 0 t.t [],br T i)
  else none
end
mutual
def Ai:Nat→Nat→Nat→Option (Nd×Nat)
 | 0,_,_=> none
 | f+1,lv,i=>
  let s:=(cN T i).t
  if ee T i then do
   let j ← gm T [61] (br T i)
   let (d,j) ← gj T f lv 1 j
   let j ← gm T [59] j
   return (nd 1 0 s [d],j)
  else if s=wP∨s=ka then do
   let (c,j) ← gj T f lv 1 (br T i)
   let (x,j) ← ra f (lv+1) j
   if s=ka then return (nd 3 0 [] [c,x],j)
   else if (cN T j).t=sD then do
    let (y,j) ← ra f (lv+1) (br T j)
    return (nd 2 0 [] [c,x,y],j)
   else return (nd 2 0 [] [c,x,nd 11 0 [] []],j)
  else if s=pM then do
   let (x,j) ← gj T f lv 1 (br T i)
   let j ← gm T [44] j
   let (k,j) ← pq T 29 j
   let j ← gm T [44] j
   let (y,j) ← gj T f lv 1 j
   let j ← gm T [44] j
   let (z,j) ← gj T f lv 1 j
   let j ← gm T [59] j
   return (nd 4 k [] [x,y,z],j)
  else if s=gU then do
   let (k,j) ← pq T 7 (br T i)
   let j ← gm T [59] j
   return (nd 5 k [] [],j)
  else if s=lG then do
   let (k,j) ← pq T 7 (br T i)
   let j ← gm T [59] j
   return (nd 6 k [] [],j)
  else if s=nN then do
   let (x,j) ← gj T f lv 1 (br T i)
   let j ← gm T [44] j
   let (y,j) ← gj T f lv 1 j
   let j ← gm T [59] j
   return (nd 8 0 [] [x,y],j)
  else if s=qd then do
   let (x,j) ← gj T f lv 1 (br T i)
   let j ← gm T [59] j
   return (nd 9 0 [] [x],j)
  else if s=qS then do
   let j ← gm T [59] (br T i)
   return (nd 7 0 [] [],j)
  else if s=qA then do
   let j ← gm T [59] (br T i)
   return (nd 10 0 [] [],j)
  else none
def ra:Nat→Nat→Nat→Option (Nd×Nat)
 | 0,_,_=> none
 | f+1,lv,i=> do
  let j ← sc T [123] lv i
  let (l,j) ← nF f lv j
  let j ← gm T [125] j
  return (nd 11 0 [] l,j)
def nF:Nat→Nat→Nat→Option (List Nd×Nat)
 | 0,_,_=> none
 | f+1,lv,i=>
  if (cN T i).t=[125] then some ([],i)
  else do
   let (d,j) ← Ai f lv i
   let (l,j) ← nF f lv j
   return (d::l,j)
end
def gw:Nat→List Tx→Nat→Option (List Tx×Nat)
 | 0,_,_=> none
 | f+1,seen,i=>
  if ee T i=false∨(cN T i).t∈seen∨16≤seen.length then none
  else if (cN T (br T i)).t=[44] then do
   let (l,j) ← gw f (seen++[(cN T i).t]) (br T (br T i))
   return ((cN T i).t::l,j)
  else do
   let j ← gm T [59] (br T i)
   return ([(cN T i).t],j)
def iQ:Nat→List Tx→List Tx→Nat→Option (List Tx×List Tx×Nat)
 | 0,_,_,_=> none
 | f+1,d,v,i=>
  if (cN T i).t=lW then do
   let (l,j) ← gw T f (d++v) (br T i)
   iQ f (d++l) v j
  else if (cN T i).t=mF then do
   let (l,j) ← gw T f (d++v) (br T i)
   iQ f d (v++l) j
  else some (d,v,i)
def xH (i:Nat):Option (Nat×Nat):=
 if (cN T i).t=nM then some (0,br T i)
 else if (cN T i).t=jH then some (1,br T i)
 else if (cN T i).t=gU then do
  let (k,j) ← pq T 7 (br T i)
  return (2+k,j)
 else if (cN T i).t=jV then do
  let (k,j) ← pq T 29 (br T i)
  return (10+k,j)
 else none
def pY (l:List (Nat×Nd)) (h:Nat×Nd):List (Nat×Nd):=l.takeWhile (fun x=> decide (x.1 < h.1))++h::l.dropWhile (fun x=> decide (x.1 < h.1))
def Ik:Nat→List (Nat×Nd)→Nat→Option (List (Nat×Nd))
 | 0,_,_=> none
 | f+1,l,i=>
  if (cN T i).k=0 then some l
  else do
   let j ← gm T IH i
   let (n,j) ← xH T j
   if l.any (fun x=> decide (x.1=n)) then none else
   let (d,j) ← ra T f 1 j
   Ik f (pY l (n,d)) j
end
def fN (s:Tx):Option (List Tx×List Tx×List (Nat×Nd)):=do
 let T ← GC s
 let (d,v,i) ← iQ T (3*T.length+10) [] [] 0
 let l ← Ik T (10*T.length+10) [] i
 return (d,v,l)

end Go.Proofs.YtmjnackchaahbaaGreat

set_option maxHeartbeats 2000000
namespace Go.Proofs.YtmjnackchaahbaaGreat
open Go.RowKit

def srcs:List Tx:=[[100,117,114,97,98,108,101,32,118,59,32,111,110,32,114,101,113,117,101,115,116,32,123,32,105,102,32,111,112,32,61,61,32,48,32,123,32,114,101,112,108,121,32,105,100,44,32,118,59,32,125,32,101,108,115,101,32,123,32,105,102,32,111,112,32,61,61,32,50,32,123,32,114,101,112,108,121,32,105,100,44,32,118,59,32,118,32,61,32,97,59,32,125,32,101,108,115,101,32,123,32,118,32,61,32,97,59,32,114,101,112,108,121,32,105,100,44,32,48,59,32,125,32,125,32,125],
 [100,117,114,97,98,108,101,32,118,59,32,111,110,32,114,101,113,117,101,115,116,32,123,32,105,102,32,111,112,32,61,61,32,48,32,123,32,114,101,112,108,121,32,105,100,44,32,118,59,32,125,32,101,108,115,101,32,123,32,105,102,32,111,112,32,61,61,32,50,32,123,32,114,101,112,108,121,32,105,100,44,32,118,59,32,118,32,61,32,97,59,32,115,121,110,99,59,32,125,32,101,108,115,101,32,123,32,118,32,61,32,97,59,32,115,121,110,99,59,32,114,101,112,108,121,32,105,100,44,32,48,59,32,125,32,125,32,125],
 [100,117,114,97,98,108,101,32,118,59,32,111,110,32,114,101,113,117,101,115,116,32,123,32,105,102,32,115,101,108,102,32,61,61,32,48,32,123,32,105,102,32,111,112,32,61,61,32,48,32,123,32,114,101,112,108,121,32,105,100,44,32,118,59,32,125,32,101,108,115,101,32,123,32,118,32,61,32,97,59,32,115,121,110,99,59,32,114,101,112,108,121,32,105,100,44,32,48,59,32,125,32,125,32,101,108,115,101,32,123,32,115,101,110,100,32,48,44,32,49,32,44,32,105,100,44,32,48,32,45,32,111,112,59,32,105,102,32,111,112,32,33,61,32,48,32,123,32,115,101,110,100,32,48,44,32,50,44,32,105,100,44,32,97,59,32,125,32,125,32,125,32,111,110,32,109,101,115,115,97,103,101,32,49,32,123,32,105,102,32,98,32,61,61,32,48,32,123,32,115,101,110,100,32,102,114,111,109,44,32,51,44,32,97,44,32,118,59,32,125,32,125,32,111,110,32,109,101,115,115,97,103,101,32,50,32,123,32,118,32,61,32,98,59,32,115,121,110,99,59,32,115,101,110,100,32,102,114,111,109,44,32,51,44,32,97,44,32,48,59,32,125,32,111,110,32,109,101,115,115,97,103,101,32,51,32,123,32,114,101,112,108,121,32,97,44,32,98,59,32,125],
 [118,111,108,97,116,105,108,101,32,118,59,32,111,110,32,114,101,113,117,101,115,116,32,123,32,105,102,32,111,112,32,61,61,32,48,32,123,32,114,101,112,108,121,32,105,100,44,32,118,59,32,125,32,101,108,115,101,32,123,32,118,32,61,32,97,59,32,114,101,112,108,121,32,105,100,44,32,48,59,32,115,101,110,100,32,49,32,45,32,115,101,108,102,44,32,52,44,32,97,44,32,48,59,32,125,32,125,32,111,110,32,109,101,115,115,97,103,101,32,52,32,123,32,118,32,61,32,97,59,32,125],
 [118,111,108,97,116,105,108,101,32,120,44,32,121,59,32,111,110,32,114,101,113,117,101,115,116,32,123,32,105,102,32,111,112,32,61,61,32,51,32,123,32,115,101,110,100,32,49,32,45,32,115,101,108,102,44,32,53,44,32,105,100,44,32,97,59,32,114,101,112,108,121,32,105,100,44,32,48,59,32,125,32,101,108,115,101,32,123,32,114,101,112,108,121,32,105,100,44,32,120,59,32,120,32,61,32,121,59,32,121,32,61,32,48,59,32,125,32,125,32,111,110,32,109,101,115,115,97,103,101,32,53,32,123,32,105,102,32,120,32,61,61,32,48,32,123,32,120,32,61,32,98,59,32,125,32,101,108,115,101,32,123,32,121,32,61,32,98,59,32,125,32,125],
 [118,111,108,97,116,105,108,101,32,116,59,32,111,110,32,115,116,97,114,116,32,123,32,105,102,32,115,101,108,102,32,61,61,32,48,32,123,32,116,32,61,32,49,59,32,115,101,110,100,32,110,111,100,101,115,32,45,32,49,44,32,54,44,32,49,44,32,48,59,32,125,32,125,32,111,110,32,109,101,115,115,97,103,101,32,54,32,123,32,116,32,61,32,97,32,43,32,49,59,32,105,102,32,116,32,60,32,52,32,123,32,115,101,110,100,32,102,114,111,109,44,32,54,44,32,116,44,32,48,59,32,125,32,101,108,115,101,32,123,32,102,97,105,108,32,116,59,32,125,32,125],
 [118,111,108,97,116,105,108,101,32,99,59,32,111,110,32,115,116,97,114,116,32,123,32,116,105,109,101,114,32,49,59,32,125,32,111,110,32,116,105,109,101,114,32,49,32,123,32,99,32,61,32,99,32,43,32,100,114,97,119,40,51,41,59,32,105,102,32,99,32,62,32,52,32,123,32,102,97,105,108,32,55,59,32,125,32,105,102,32,99,32,60,32,51,32,123,32,116,105,109,101,114,32,49,59,32,125,32,125],
 [118,111,108,97,116,105,108,101,32,108,97,115,116,59,32,111,110,32,114,101,113,117,101,115,116,32,123,32,115,101,110,100,32,49,32,45,32,115,101,108,102,44,32,55,44,32,49,44,32,48,59,32,115,101,110,100,32,49,32,45,32,115,101,108,102,44,32,55,44,32,50,44,32,48,59,32,114,101,112,108,121,32,105,100,44,32,48,59,32,125,32,111,110,32,109,101,115,115,97,103,101,32,55,32,123,32,105,102,32,97,32,60,32,108,97,115,116,32,123,32,102,97,105,108,32,51,59,32,125,32,108,97,115,116,32,61,32,97,59,32,125],
 [100,117,114,97,98,108,101,32,101,59,32,118,111,108,97,116,105,108,101,32,103,59,32,111,110,32,115,116,97,114,116,32,123,32,101,32,61,32,101,32,43,32,49,59,32,105,102,32,100,114,97,119,40,50,41,32,61,61,32,49,32,123,32,115,121,110,99,59,32,125,32,103,32,61,32,110,111,119,59,32,125,32,111,110,32,114,101,113,117,101,115,116,32,123,32,105,102,32,103,32,62,32,110,111,119,32,123,32,102,97,105,108,32,49,59,32,125,32,114,101,112,108,121,32,105,100,44,32,101,59,32,125],
 [118,111,108,97,116,105,108,101,32,105,44,32,115,59,32,111,110,32,114,101,113,117,101,115,116,32,123,32,105,32,61,32,48,59,32,115,32,61,32,48,59,32,119,104,105,108,101,32,105,32,60,32,51,32,123,32,115,32,61,32,115,32,43,32,105,32,42,32,97,59,32,105,32,61,32,105,32,43,32,49,59,32,125,32,114,101,112,108,121,32,105,100,44,32,115,59,32,125],
 [111,110,32,116,105,109,101,114,32,48,32,123,32,119,104,105,108,101,32,116,114,117,101,32,123,32,125,32,125,32,111,110,32,115,116,97,114,116,32,123,32,116,105,109,101,114,32,48,59,32,99,97,110,99,101,108,32,49,59,32,125],
 []]
theorem Eo:srcs.length=12:=rfl
end Go.Proofs.YtmjnackchaahbaaGreat

set_option maxHeartbeats 2000000
namespace Go.Proofs.YtmjnackchaahbaaGreat
open Go.RowKit

def Bo.txt:Bo→Tx
 | .add=> [43]
 | .sub=> [45]
 | .mul=> [42]
 | .div=> [47]
 | .lt=> [60]
 | .le=> [60,61]
 | .eq=> [61,61]
 | .gt=> [62]
 | .ge=> [62,61]
 | .ne=> [33,61]
section
variable (nm:List Tx)
def eo:Ex→Nd
 | .int n=> nd 12 n.toNat [] []
 | .bool b=> nd 13 (if b then 1 else 0) [] []
 | .var i=> nd 14 0 (nm.getD i []) []
 | .name k=> nd 15 0 (bltT.getD k []) []
 | .draw e=> nd 16 0 [] [eo e]
 | .neg e=> nd 17 0 [45] [eo e]
 | .not e=> nd 17 0 [33] [eo e]
 | .bin o a b=> nd 18 0 o.txt [eo a,eo b]
 | .and a b=> nd 18 0 [38,38] [eo a,eo b]
 | .or a b=> nd 18 0 [124,124] [eo a,eo b]
mutual
def EX:Sm→Nd
 | .assign i e=> nd 1 0 (nm.getD i []) [eo nm e]
 | .send t k a b=> nd 4 k [] [eo nm t,eo nm a,eo nm b]
 | .timer k=> nd 5 k [] []
 | .cancel k=> nd 6 k [] []
 | .sync=> nd 7 0 [] []
 | .stop=> nd 10 0 [] []
 | .reply a b=> nd 8 0 [] [eo nm a,eo nm b]
 | .fail e=> nd 9 0 [] [eo nm e]
 | .loop c b=> nd 3 0 [] [eo nm c,nd 11 0 [] (ix b)]
 | .ite c a b=> nd 2 0 [] [eo nm c,nd 11 0 [] (ix a),nd 11 0 [] (ix b)]
def ix:Bk→List Nd
 | .nil=> []
 | .cons s b=> EX s::ix b
end
def iy (b:Bk):Nd:=nd 11 0 [] (ix nm b)
end
def DO:List Tx:=[[118]]
def De:List Tx:=[]
def ons0:List (Nat×Bk):=[(1,(.cons (.ite (.bin .eq (.name 7) (.int 0)) (.cons (.reply (.name 6) (.var 0)) .nil) (.cons (.ite (.bin .eq (.name 7) (.int 2)) (.cons (.reply (.name 6) (.var 0)) (.cons (.assign 0 (.name 4)) .nil)) (.cons (.assign 0 (.name 4)) (.cons (.reply (.name 6) (.int 0)) .nil))) .nil)) .nil))]
theorem II:fN (srcs.getD 0 [])=some (DO,De,ons0.map fun p=> (p.1,iy (DO++De) p.2)):=by kernel_rfl
def Ck:List Tx:=[[118]]
def BS:List Tx:=[]
def ons1:List (Nat×Bk):=[(1,(.cons (.ite (.bin .eq (.name 7) (.int 0)) (.cons (.reply (.name 6) (.var 0)) .nil) (.cons (.ite (.bin .eq (.name 7) (.int 2)) (.cons (.reply (.name 6) (.var 0)) (.cons (.assign 0 (.name 4)) (.cons .sync .nil))) (.cons (.assign 0 (.name 4)) (.cons .sync (.cons (.reply (.name 6) (.int 0)) .nil)))) .nil)) .nil))]
theorem IW:fN (srcs.getD 1 [])=some (Ck,BS,ons1.map fun p=> (p.1,iy (Ck++BS) p.2)):=by kernel_rfl
def Dx:List Tx:=[[118]]
def CW:List Tx:=[]
def ons2:List (Nat×Bk):=[(1,(.cons (.ite (.bin .eq (.name 0) (.int 0)) (.cons (.ite (.bin .eq (.name 7) (.int 0)) (.cons (.reply (.name 6) (.var 0)) .nil) (.cons (.assign 0 (.name 4)) (.cons .sync (.cons (.reply (.name 6) (.int 0)) .nil)))) .nil) (.cons (.send (.int 0) 1 (.name 6) (.bin .sub (.int 0) (.name 7))) (.cons (.ite (.bin .ne (.name 7) (.int 0)) (.cons (.send (.int 0) 2 (.name 6) (.name 4)) .nil) .nil) .nil))) .nil)),
 (11,(.cons (.ite (.bin .eq (.name 5) (.int 0)) (.cons (.send (.name 3) 3 (.name 4) (.var 0)) .nil) .nil) .nil)),
 (12,(.cons (.assign 0 (.name 5)) (.cons .sync (.cons (.send (.name 3) 3 (.name 4) (.int 0)) .nil)))),
 (13,(.cons (.reply (.name 4) (.name 5)) .nil))]
theorem IA:fN (srcs.getD 2 [])=some (Dx,CW,ons2.map fun p=> (p.1,iy (Dx++CW) p.2)):=by kernel_rfl
def BT:List Tx:=[]
def BX:List Tx:=[[118]]
def ons3:List (Nat×Bk):=[(1,(.cons (.ite (.bin .eq (.name 7) (.int 0)) (.cons (.reply (.name 6) (.var 0)) .nil) (.cons (.assign 0 (.name 4)) (.cons (.reply (.name 6) (.int 0)) (.cons (.send (.bin .sub (.int 1) (.name 0)) 4 (.name 4) (.int 0)) .nil)))) .nil)),
 (14,(.cons (.assign 0 (.name 4)) .nil))]
theorem IM:fN (srcs.getD 3 [])=some (BT,BX,ons3.map fun p=> (p.1,iy (BT++BX) p.2)):=by kernel_rfl
def CD:List Tx:=[]
def CI:List Tx:=[[120],[121]]
def ons4:List (Nat×Bk):=[(1,(.cons (.ite (.bin .eq (.name 7) (.int 3)) (.cons (.send (.bin .sub (.int 1) (.name 0)) 5 (.name 6) (.name 4)) (.cons (.reply (.name 6) (.int 0)) .nil)) (.cons (.reply (.name 6) (.var 0)) (.cons (.assign 0 (.var 1)) (.cons (.assign 1 (.int 0)) .nil)))) .nil)),
 (15,(.cons (.ite (.bin .eq (.var 0) (.int 0)) (.cons (.assign 0 (.name 5)) .nil) (.cons (.assign 1 (.name 5)) .nil)) .nil))]
theorem Il:fN (srcs.getD 4 [])=some (CD,CI,ons4.map fun p=> (p.1,iy (CD++CI) p.2)):=by kernel_rfl
def CO:List Tx:=[]
def CF:List Tx:=[[116]]
def ons5:List (Nat×Bk):=[(0,(.cons (.ite (.bin .eq (.name 0) (.int 0)) (.cons (.assign 0 (.int 1)) (.cons (.send (.bin .sub (.name 1) (.int 1)) 6 (.int 1) (.int 0)) .nil)) .nil) .nil)),
 (16,(.cons (.assign 0 (.bin .add (.name 4) (.int 1))) (.cons (.ite (.bin .lt (.var 0) (.int 4)) (.cons (.send (.name 3) 6 (.var 0) (.int 0)) .nil) (.cons (.fail (.var 0)) .nil)) .nil)))]
theorem HA:fN (srcs.getD 5 [])=some (CO,CF,ons5.map fun p=> (p.1,iy (CO++CF) p.2)):=by kernel_rfl
def Ej:List Tx:=[]
def Bm:List Tx:=[[99]]
def ons6:List (Nat×Bk):=[(0,(.cons (.timer 1) .nil)),
 (3,(.cons (.assign 0 (.bin .add (.var 0) (.draw (.int 3)))) (.cons (.ite (.bin .gt (.var 0) (.int 4)) (.cons (.fail (.int 7)) .nil) .nil) (.cons (.ite (.bin .lt (.var 0) (.int 3)) (.cons (.timer 1) .nil) .nil) .nil))))]
theorem IK:fN (srcs.getD 6 [])=some (Ej,Bm,ons6.map fun p=> (p.1,iy (Ej++Bm) p.2)):=by kernel_rfl
def CH:List Tx:=[]
def Bt:List Tx:=[[108,97,115,116]]
def ons7:List (Nat×Bk):=[(1,(.cons (.send (.bin .sub (.int 1) (.name 0)) 7 (.int 1) (.int 0)) (.cons (.send (.bin .sub (.int 1) (.name 0)) 7 (.int 2) (.int 0)) (.cons (.reply (.name 6) (.int 0)) .nil)))),
 (17,(.cons (.ite (.bin .lt (.name 4) (.var 0)) (.cons (.fail (.int 3)) .nil) .nil) (.cons (.assign 0 (.name 4)) .nil)))]
theorem HU:fN (srcs.getD 7 [])=some (CH,Bt,ons7.map fun p=> (p.1,iy (CH++Bt) p.2)):=by kernel_rfl
def Cj:List Tx:=[[101]]
def CG:List Tx:=[[103]]
def ons8:List (Nat×Bk):=[(0,(.cons (.assign 0 (.bin .add (.var 0) (.int 1))) (.cons (.ite (.bin .eq (.draw (.int 2)) (.int 1)) (.cons .sync .nil) .nil) (.cons (.assign 1 (.name 2)) .nil)))),
 (1,(.cons (.ite (.bin .gt (.var 1) (.name 2)) (.cons (.fail (.int 1)) .nil) .nil) (.cons (.reply (.name 6) (.var 0)) .nil)))]
theorem IY:fN (srcs.getD 8 [])=some (Cj,CG,ons8.map fun p=> (p.1,iy (Cj++CG) p.2)):=by kernel_rfl
def DB:List Tx:=[]
def Bw:List Tx:=[[105],[115]]
def ons9:List (Nat×Bk):=[(1,(.cons (.assign 0 (.int 0)) (.cons (.assign 1 (.int 0)) (.cons (.loop (.bin .lt (.var 0) (.int 3)) (.cons (.assign 1 (.bin .add (.var 1) (.bin .mul (.var 0) (.name 4)))) (.cons (.assign 0 (.bin .add (.var 0) (.int 1))) .nil))) (.cons (.reply (.name 6) (.var 1)) .nil)))))]
theorem IU:fN (srcs.getD 9 [])=some (DB,Bw,ons9.map fun p=> (p.1,iy (DB++Bw) p.2)):=by kernel_rfl
def uy:List Tx:=[]
def ux:List Tx:=[]
def ons10:List (Nat×Bk):=[(0,(.cons (.timer 0) (.cons (.cancel 1) .nil))),
 (2,(.cons (.loop (.bool true) .nil) .nil))]
theorem ET:fN (srcs.getD 10 [])=some (uy,ux,ons10.map fun p=> (p.1,iy (uy++ux) p.2)):=by kernel_rfl
def uq:List Tx:=[]
def vE:List Tx:=[]
def ons11:List (Nat×Bk):=[]
theorem GR:fN (srcs.getD 11 [])=some (uq,vE,ons11.map fun p=> (p.1,iy (uq++vE) p.2)):=by kernel_rfl
end Go.Proofs.YtmjnackchaahbaaGreat

set_option maxHeartbeats 2000000
namespace Go.Proofs.YtmjnackchaahbaaGreat
open Go.RowKit

def eY:Ex→Nat
 | .int _=> 1 | .bool _=> 2 | .var _=> 1 | .name _=> 1
 | .draw e=> if eY e=1 then 1 else 0
 | .neg e=> if eY e=1 then 1 else 0
 | .not e=> if eY e=2 then 2 else 0
 | .bin o a b=> if eY a=1∧eY b=1 then (match o with | .add=> 1 | .sub=> 1 | .mul=> 1 | .div=> 1 | _=> 2) else 0
 | .and a b=> if eY a=2∧eY b=2 then 2 else 0
 | .or a b=> if eY a=2∧eY b=2 then 2 else 0
def oQ (e:Ex):Bool:=Nat.beq (eY e) 1
mutual
def zJ:Sm→Bool
 | .assign _ e=> oQ e
 | .send t _ a b=> oQ t && oQ a && oQ b
 | .timer _=> true | .cancel _=> true | .sync=> true | .stop=> true
 | .reply a b=> oQ a && oQ b
 | .fail e=> oQ e
 | .loop c b=> Nat.beq (eY c) 2 && qv b
 | .ite c a b=> Nat.beq (eY c) 2 && qv a && qv b
def qv:Bk→Bool
 | .nil=> true
 | .cons s b=> zJ s && qv b
end
def eL (nv:Nat):Ex→Bool
 | .int n=> decide (-2147483647≤n) && decide (n≤2147483647)
 | .bool _=> true
 | .var i=> decide (i < nv)
 | .name k=> decide (k < 9)
 | .draw e=> eL nv e | .neg e=> eL nv e | .not e=> eL nv e
 | .bin _ a b=> eL nv a && eL nv b
 | .and a b=> eL nv a && eL nv b
 | .or a b=> eL nv a && eL nv b
mutual
def mq (nv:Nat):Sm→Bool
 | .assign i e=> decide (i < nv) && eL nv e
 | .send t k a b=> decide (k < 30) && eL nv t && eL nv a && eL nv b
 | .timer k=> decide (k < 8) | .cancel k=> decide (k < 8) | .sync=> true | .stop=> true
 | .reply a b=> eL nv a && eL nv b
 | .fail e=> eL nv e
 | .loop c b=> eL nv c && pP nv b
 | .ite c a b=> eL nv c && pP nv a && pP nv b
def pP (nv:Nat):Bk→Bool
 | .nil=> true
 | .cons s b=> mq nv s && pP nv b
end
theorem da (nv:Nat): ∀ e,eL nv e=true→gJ nv e
 | .int n,h=> by simpa [eL,gJ] using h
 | .bool _,_=> trivial
 | .var i,h=> by simpa [eL,gJ] using h
 | .name k,h=> by simpa [eL,gJ] using h
 | .draw e,h=> da nv e h
 | .neg e,h=> da nv e h
 | .not e,h=> da nv e h
 | .bin _ a b,h=> by simp only [eL,Bool.and_eq_true] at h;exact ⟨da nv a h.1,da nv b h.2⟩
 | .and a b,h=> by simp only [eL,Bool.and_eq_true] at h;exact ⟨da nv a h.1,da nv b h.2⟩
 | .or a b,h=> by simp only [eL,Bool.and_eq_true] at h;exact ⟨da nv a h.1,da nv b h.2⟩
mutual
theorem Ed (nv:Nat): ∀ s,mq nv s=true→fW nv s
 | .assign i e,h=> by simp only [mq,Bool.and_eq_true,decide_eq_true_eq] at h;exact ⟨h.1,da nv e h.2⟩
 | .send t k a b,h=> by simp only [mq,Bool.and_eq_true,decide_eq_true_eq] at h;exact ⟨h.1.1.1,da nv t h.1.1.2,da nv a h.1.2,da nv b h.2⟩
 | .timer k,h=> by simpa [mq,fW] using h
 | .cancel k,h=> by simpa [mq,fW] using h
 | .sync,_=> by simp [fW]
 | .stop,_=> by simp [fW]
 | .reply a b,h=> by simp only [mq,Bool.and_eq_true] at h;exact ⟨da nv a h.1,da nv b h.2⟩
 | .fail e,h=> by simp only [mq] at h;exact da nv e h
 | .loop c b,h=> by simp only [mq,Bool.and_eq_true] at h;exact ⟨da nv c h.1,kY nv b h.2⟩
 | .ite c a b,h=> by simp only [mq,Bool.and_eq_true] at h;exact ⟨da nv c h.1.1,kY nv a h.1.2,kY nv b h.2⟩
theorem kY (nv:Nat): ∀ b,pP nv b=true→kN nv b
 | .nil,_=> by simp [kN]
 | .cons s b,h=> by simp only [pP,Bool.and_eq_true] at h;exact ⟨Ed nv s h.1,kY nv b h.2⟩
end
structure vS (l:List (Nat×Bk)) (nv:Nat):Prop where
 ok: ∀ p∈l,kN nv p.2
 wl: ∀ p∈l,qv p.2=true
 n:(bE l 0).length≤400
 h: ∀ p∈l,p.1 < 40
 nd:(l.map (·.1)).Nodup
 d: ∀ k∈mc l,k≤8
def srcB (l:List (Nat×Bk)) (nv:Nat):Bool:=l.all (fun p=> pP nv p.2 && qv p.2 && decide (p.1 < 40)) && decide ((bE l 0).length≤400) && decide (l.map (·.1)).Nodup && (mc l).all fun k=> decide (k≤8)
theorem fF {l:List (Nat×Bk)} {nv:Nat} (h:srcB l nv=true):vS l nv:=by
 simp only [srcB,Bool.and_eq_true,List.all_eq_true,decide_eq_true_eq] at h
 exact ⟨fun p hp=> kY nv _ (h.1.1.1 p hp).1.1,fun p hp=> (h.1.1.1 p hp).1.2,h.1.1.2,fun p hp=> (h.1.1.1 p hp).2,h.1.2,h.2⟩
theorem srcOk0:vS ons0 (DO++De).length:=fF ae
theorem srcOk1:vS ons1 (Ck++BS).length:=fF ae
theorem srcOk2:vS ons2 (Dx++CW).length:=fF ae
theorem srcOk3:vS ons3 (BT++BX).length:=fF ae
theorem srcOk4:vS ons4 (CD++CI).length:=fF ae
theorem srcOk5:vS ons5 (CO++CF).length:=fF ae
theorem srcOk6:vS ons6 (Ej++Bm).length:=fF ae
theorem srcOk7:vS ons7 (CH++Bt).length:=fF ae
theorem srcOk8:vS ons8 (Cj++CG).length:=fF ae
theorem srcOk9:vS ons9 (DB++Bw).length:=fF ae
theorem srcOk10:vS ons10 (uy++ux).length:=fF ae
theorem srcOk11:vS ons11 (uq++vE).length:=fF ae
def yg (l:List (Nat×Bk)) (i:Nat):Nat:=(mc l).getD i 0
theorem tD (l:List (Nat×Bk)):Fit (yg l) 0 (mc l):=fun k d h=> by
 unfold yg
 rw [Nat.zero_add,List.getD_eq_getElem?_getD,h];rfl
end Go.Proofs.YtmjnackchaahbaaGreat
