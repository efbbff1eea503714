/- part 7 -/
import Derived.Test.YtmjnackchaahbaaGreatNpZ6
set_option linter.unusedSimpArgs false
set_option linter.unusedVariables false
namespace Go.Proofs.YtmjnackchaahbaaGreat
open Go.RowKit

structure oy (n:Nat) (A:Prop):Prop where
  f:A
structure Pv (B:Prop):Prop where
  f:B
theorem RW {A:Prop} (a:Pv A):oy 0 A:=⟨a.f⟩
theorem qz {n:Nat} {A C:Prop} (h:C→A) (k:oy n C):oy (n+1) A:=⟨h k.f⟩
theorem lr {α:Type} {l m:List α} (h:l=m:=by first | exact (rfl:_=[]) | exact (rfl:_=[_]) | exact (rfl:_=[_,_]) | exact (rfl:_=[_,_,_]) | exact (rfl:_=[_,_,_,_]) | exact (rfl:_=[_,_,_,_,_]) | exact (rfl:_=[_,_,_,_,_,_]) | exact (rfl:_=[_,_,_,_,_,_,_]) | exact (rfl:_=[_,_,_,_,_,_,_,_]) | exact (rfl:_=[_,_,_,_,_,_,_,_,_]) | exact (rfl:_=[_,_,_,_,_,_,_,_,_,_]) | exact (rfl:_=[_,_,_,_,_,_,_,_,_,_,_]) | exact (rfl:_=[_,_,_,_,_,_,_,_,_,_,_,_]) | exact (rfl:_=[_,_,_,_,_,_,_,_,_,_,_,_,_]) | exact (rfl:_=[_,_,_,_,_,_,_,_,_,_,_,_,_,_]) | exact (rfl:_=[_,_,_,_,_,_,_,_,_,_,_,_,_,_,_]) | exact (rfl:_=[_,_,_,_,_,_,_,_,_,_,_,_,_,_,_,_]) | exact (rfl:_=[_,_,_,_,_,_,_,_,_,_,_,_,_,_,_,_,_]) | exact (rfl:_=[_,_,_,_,_,_,_,_,_,_,_,_,_,_,_,_,_,_]) | exact (rfl:_=[_,_,_,_,_,_,_,_,_,_,_,_,_,_,_,_,_,_,_]) | exact (rfl:_=[_,_,_,_,_,_,_,_,_,_,_,_,_,_,_,_,_,_,_,_]) | exact (rfl:_=[_,_,_,_,_,_,_,_,_,_,_,_,_,_,_,_,_,_,_,_,_]) | exact (rfl:_=[_,_,_,_,_,_,_,_,_,_,_,_,_,_,_,_,_,_,_,_,_,_]) | exact (rfl:_=[_,_,_,_,_,_,_,_,_,_,_,_,_,_,_,_,_,_,_,_,_,_,_]) | exact (rfl:_=[_,_,_,_,_,_,_,_,_,_,_,_,_,_,_,_,_,_,_,_,_,_,_,_]) | exact (rfl:_=[_,_,_,_,_,_,_,_,_,_,_,_,_,_,_,_,_,_,_,_,_,_,_,_,_]) | exact (rfl:_=[_,_,_,_,_,_,_,_,_,_,_,_,_,_,_,_,_,_,_,_,_,_,_,_,_,_]) | exact (rfl:_=[_,_,_,_,_,_,_,_,_,_,_,_,_,_,_,_,_,_,_,_,_,_,_,_,_,_,_]) | exact (rfl:_=[_,_,_,_,_,_,_,_,_,_,_,_,_,_,_,_,_,_,_,_,_,_,_,_,_,_,_,_]) | exact (rfl:_=[_,_,_,_,_,_,_,_,_,_,_,_,_,_,_,_,_,_,_,_,_,_,_,_,_,_,_,_,_]) | exact (rfl:_=[_,_,_,_,_,_,_,_,_,_,_,_,_,_,_,_,_,_,_,_,_,_,_,_,_,_,_,_,_,_]) | exact (rfl:_=[_,_,_,_,_,_,_,_,_,_,_,_,_,_,_,_,_,_,_,_,_,_,_,_,_,_,_,_,_,_,_,_,_,_,_,_,_,_,_,_,_,_,_]) | exact (rfl:_=[_,_,_,_,_,_,_,_,_,_,_,_,_,_,_,_,_,_,_,_,_,_,_,_,_,_,_,_,_,_,_,_,_,_,_,_,_,_,_,_,_,_,_,_,_,_,_,_,_,_,_,_]) | exact (rfl:_=[_,_,_,_,_,_,_,_,_,_,_,_,_,_,_,_,_,_,_,_,_,_,_,_,_,_,_,_,_,_,_,_,_,_,_,_,_,_,_,_,_,_,_,_,_,_,_,_,_,_,_,_,_,_,_,_,_,_,_,_,_,_,_,_,_,_,_])):l=m:=h
theorem Ub {α:Type} {l m:Option (List α)} (h:l=m:=by first | exact (rfl:_=some []) | exact (rfl:_=some [_]) | exact (rfl:_=some [_,_]) | exact (rfl:_=some [_,_,_]) | exact (rfl:_=some [_,_,_,_]) | exact (rfl:_=some [_,_,_,_,_]) | exact (rfl:_=some [_,_,_,_,_,_]) | exact (rfl:_=some [_,_,_,_,_,_,_]) | exact (rfl:_=some [_,_,_,_,_,_,_,_]) | exact (rfl:_=some [_,_,_,_,_,_,_,_,_]) | exact (rfl:_=some [_,_,_,_,_,_,_,_,_,_]) | exact (rfl:_=some [_,_,_,_,_,_,_,_,_,_,_]) | exact (rfl:_=some [_,_,_,_,_,_,_,_,_,_,_,_]) | exact (rfl:_=some [_,_,_,_,_,_,_,_,_,_,_,_,_]) | exact (rfl:_=some [_,_,_,_,_,_,_,_,_,_,_,_,_,_]) | exact (rfl:_=some [_,_,_,_,_,_,_,_,_,_,_,_,_,_,_]) | exact (rfl:_=some [_,_,_,_,_,_,_,_,_,_,_,_,_,_,_,_]) | exact (rfl:_=some [_,_,_,_,_,_,_,_,_,_,_,_,_,_,_,_,_]) | exact (rfl:_=some [_,_,_,_,_,_,_,_,_,_,_,_,_,_,_,_,_,_]) | exact (rfl:_=some [_,_,_,_,_,_,_,_,_,_,_,_,_,_,_,_,_,_,_]) | exact (rfl:_=some [_,_,_,_,_,_,_,_,_,_,_,_,_,_,_,_,_,_,_,_]) | exact (rfl:_=some [_,_,_,_,_,_,_,_,_,_,_,_,_,_,_,_,_,_,_,_,_]) | exact (rfl:_=some [_,_,_,_,_,_,_,_,_,_,_,_,_,_,_,_,_,_,_,_,_,_]) | exact (rfl:_=some [_,_,_,_,_,_,_,_,_,_,_,_,_,_,_,_,_,_,_,_,_,_,_]) | exact (rfl:_=some [_,_,_,_,_,_,_,_,_,_,_,_,_,_,_,_,_,_,_,_,_,_,_,_]) | exact (rfl:_=some [_,_,_,_,_,_,_,_,_,_,_,_,_,_,_,_,_,_,_,_,_,_,_,_,_]) | exact (rfl:_=some [_,_,_,_,_,_,_,_,_,_,_,_,_,_,_,_,_,_,_,_,_,_,_,_,_,_]) | exact (rfl:_=some [_,_,_,_,_,_,_,_,_,_,_,_,_,_,_,_,_,_,_,_,_,_,_,_,_,_,_]) | exact (rfl:_=some [_,_,_,_,_,_,_,_,_,_,_,_,_,_,_,_,_,_,_,_,_,_,_,_,_,_,_,_]) | exact (rfl:_=some [_,_,_,_,_,_,_,_,_,_,_,_,_,_,_,_,_,_,_,_,_,_,_,_,_,_,_,_,_]) | exact (rfl:_=some [_,_,_,_,_,_,_,_,_,_,_,_,_,_,_,_,_,_,_,_,_,_,_,_,_,_,_,_,_,_]) | exact (rfl:_=some [_,_,_,_,_,_,_,_,_,_,_,_,_,_,_,_,_,_,_,_,_,_,_,_,_,_,_,_,_,_,_,_,_,_,_,_,_,_,_,_,_,_,_]) | exact (rfl:_=some [_,_,_,_,_,_,_,_,_,_,_,_,_,_,_,_,_,_,_,_,_,_,_,_,_,_,_,_,_,_,_,_,_,_,_,_,_,_,_,_,_,_,_,_,_,_,_,_,_,_,_,_]) | exact (rfl:_=some [_,_,_,_,_,_,_,_,_,_,_,_,_,_,_,_,_,_,_,_,_,_,_,_,_,_,_,_,_,_,_,_,_,_,_,_,_,_,_,_,_,_,_,_,_,_,_,_,_,_,_,_,_,_,_,_,_,_,_,_,_,_,_,_,_,_,_])):l=m:=h
section
variable {P:Program} {d:Option Tmp} {ty:TypeId} {σ σ':St}
theorem Oc {x:Operand} (h:Stp P d (.move x) ty σ σ'):Stp P d (.move x) ty σ σ':=h
theorem NA {x:Operand} (h:Stp P d (.assign x) ty σ σ'):Stp P d (.assign x) ty σ σ':=h
theorem Mj {T:TypeId} {x:Operand} {f:Nat} (h:Stp P d (.fieldAddr T x f) ty σ σ'):Stp P d (.fieldAddr T x f) ty σ σ':=h
theorem MN {t:TypeId} {x:Operand} (h:Stp P d (.load t x) ty σ σ'):Stp P d (.load t x) ty σ σ':=h
theorem Ny {t:TypeId} {x y:Operand} (h:Stp P d (.store t x y) ty σ σ'):Stp P d (.store t x y) ty σ σ':=h
theorem Mz {c x y:Operand} (h:Stp P d (.pick c x y) ty σ σ'):Stp P d (.pick c x y) ty σ σ':=h
theorem MA {x:Operand} (h:Stp P d (.nilCheck x) ty σ σ'):Stp P d (.nilCheck x) ty σ σ':=h
theorem OE {b:BinOp} {t t':TypeId} {x y:Operand} (h:Stp P d (.binOp b t x y t') ty σ σ'):Stp P d (.binOp b t x y t') ty σ σ':=h
theorem Mo {b:UnOp} {t:TypeId} {x:Operand} (h:Stp P d (.unOp b t x) ty σ σ'):Stp P d (.unOp b t x) ty σ σ':=h
theorem MO {t:TypeId} {ps:Array (Nat×Operand)} (h:Stp P d (.build t ps) ty σ σ'):Stp P d (.build t ps) ty σ σ':=h
theorem Mx {T:TypeId} {x:Operand} {f:Nat} (h:Stp P d (.field T x f) ty σ σ'):Stp P d (.field T x f) ty σ σ':=h
theorem MZ {x:Operand} {k:Nat} (h:Stp P d (.extract x k) ty σ σ'):Stp P d (.extract x k) ty σ σ':=h
theorem Mn {c:_} (h:Stp P d (.call c) ty σ σ'):Stp P d (.call c) ty σ σ':=h
theorem NZ {e:TypeId} {x:Operand} (h:Stp P d (.box e x) ty σ σ'):Stp P d (.box e x) ty σ σ':=h
theorem Np {e:TypeId} (h:Stp P d (.alloc e) ty σ σ'):Stp P d (.alloc e) ty σ σ':=h
theorem OD {t:TypeId} {k:Nat} {ps:Array (Nat×Operand)} (h:Stp P d (.buildSlice t k ps) ty σ σ'):Stp P d (.buildSlice t k ps) ty σ σ':=h
theorem Mr {t:Tmp} {e:TypeId} (x:Operand) (hid:σ.ob (t,0)= .free) {xs:List AV} (hx:(σ.eval x).cells=some xs):Stp P (some t) (.box e x) ty σ ((σ.setOb (t,0) (.obj (.box e xs))).put (some t) (.ptr (t,0) 0)):=dZ (t,0) x hid hx
theorem MB {t:Tmp} {e:TypeId} {g:Bool} {z:List Value} (T:Ty P e g z) (hid:σ.ob (t,0)= .free) {xs:List AV} (hx:z.map AV.v=xs):Stp P (some t) (.alloc e) ty σ ((σ.setOb (t,0) (.obj (.box e xs))).put (some t) (.ptr (t,0) 0)):=fq (t,0) T hid hx
theorem MG {op:Op} [Ty P ty false [.int .i64 0]] (h:Stp P d op ty σ σ'):Stp P d op ty σ σ':=h
theorem UA {t:TypeId} {x:Operand} [Ty P t false [.int .i64 0]] (h:Stp P d (.load t x) ty σ σ'):Stp P d (.load t x) ty σ σ':=h
theorem Mq {op:Op} [Ty P ty false [.bool false]] (h:Stp P d op ty σ σ'):Stp P d op ty σ σ':=h
theorem Uz {t:TypeId} {x:Operand} [Ty P t false [.bool false]] (h:Stp P d (.load t x) ty σ σ'):Stp P d (.load t x) ty σ σ':=h
theorem MI {op:Op} [Ty P ty false [.slice none 0 0]] (h:Stp P d op ty σ σ'):Stp P d op ty σ σ':=h
theorem Sd {t:TypeId} {x:Operand} [Ty P t false [.slice none 0 0]] (h:Stp P d (.load t x) ty σ σ'):Stp P d (.load t x) ty σ σ':=h
theorem Mw {op:Op} [Ty P ty false [.string ByteArray.empty]] (h:Stp P d op ty σ σ'):Stp P d op ty σ σ':=h
theorem Su {t:TypeId} {x:Operand} [Ty P t false [.string ByteArray.empty]] (h:Stp P d (.load t x) ty σ σ'):Stp P d (.load t x) ty σ σ':=h
theorem MY {op:Op} [Ty P ty false [.pointer none]] (h:Stp P d op ty σ σ'):Stp P d op ty σ σ':=h
theorem Ui {t:TypeId} {x:Operand} [Ty P t false [.pointer none]] (h:Stp P d (.load t x) ty σ σ'):Stp P d (.load t x) ty σ σ':=h
theorem OK {op:Op} {z:List Value} [Ty P ty true z] (h:Stp P d op ty σ σ'):Stp P d op ty σ σ':=h
theorem SQ {t:TypeId} {x:Operand} {z:List Value} [Ty P t true z] (h:Stp P d (.load t x) ty σ σ'):Stp P d (.load t x) ty σ σ':=h
end
theorem Md {P:Program} {d:Option Tmp} {op:Op} {ty:TypeId} {σ σ':St} (h:Stp P d op ty σ σ':=by
  first
  | (apply Oc;first | (apply MG;first | exact cd _ rC) | (apply Mq;first | exact cd _ wq) | (apply MI;first | exact cd _ zN | exact cd _ mW | exact cd _ eh | exact cd _ kU | exact cd _ (rfl:_=AV.z)) | (apply Mw;first | exact cd _ JP) | (apply MY;first | exact cd _ tz | exact cd _ (rfl:_=AV.fp _ _) | exact cd _ kU) | (apply OK;first | exact cd _ (rfl:_=AV.agg _)) | (first | exact cd _ rC | exact cd _ tz | exact cd _ wq | exact cd _ zN | exact cd _ mW | exact cd _ JP | exact cd _ (rfl:_=AV.agg _) | exact cd _ (rfl:_=AV.fp _ _) | exact cd _ JM | exact cd _ (rfl:_=AV.tup _) | exact cd _ (rfl:_=AV.ifc _ _) | exact cd _ (rfl:_=AV.mp _) | exact cd _ (rfl:_=AV.z) | exact cd _ kU))
  | (apply Mj;first | exact di _ aa rfl rfl rfl | exact ej _ aa rfl rfl)
  | (apply MN;first | (apply UA;first | exact bB _ aa rfl rfl JX) | (apply Uz;first | exact bB _ aa rfl rfl (rfl:_=some (AV.v (.bool _)))) | (apply Sd;first | exact bB _ aa rfl rfl xn | exact bB _ aa rfl rfl Ca | exact bB _ aa rfl rfl (rfl:_=some (AV.v (.slice _ _ _))) | exact bB _ aa rfl rfl (rfl:_=some (AV.v _)) | exact bB _ aa rfl rfl (rfl:_=some (AV.z))) | (apply Su;first | exact bB _ aa rfl rfl (rfl:_=some (AV.v (.string _)))) | (apply Ui;first | exact bB _ aa rfl rfl EK | exact bB _ aa rfl rfl (rfl:_=some (AV.fp _ _)) | exact bB _ aa rfl rfl (rfl:_=some (AV.v _))) | (apply SQ;exact jM _ aa rfl rfl rfl rfl) | (first | exact bB _ aa rfl rfl JX | exact bB _ aa rfl rfl EK | exact bB _ aa rfl rfl (rfl:_=some (AV.v (.bool _))) | exact bB _ aa rfl rfl xn | exact bB _ aa rfl rfl Ca | exact bB _ aa rfl rfl (rfl:_=some (AV.v (.string _))) | exact bB _ aa rfl rfl (rfl:_=some (AV.agg _)) | exact bB _ aa rfl rfl (rfl:_=some (AV.fp _ _)) | exact bB _ aa rfl rfl (rfl:_=some (AV.fn _ _ _)) | exact bB _ aa rfl rfl (rfl:_=some (AV.tup _)) | exact bB _ aa rfl rfl (rfl:_=some (AV.ifc _ _)) | exact bB _ aa rfl rfl (rfl:_=some (AV.mp _)) | exact bB _ aa rfl rfl (rfl:_=some (AV.z)) | exact bB _ aa rfl rfl (rfl:_=some (AV.v _))))
  | (apply NA;first | (apply MG;first | exact aX _ rC) | (apply Mq;first | exact aX _ wq) | (apply MI;first | exact aX _ zN | exact aX _ mW | exact aX _ eh | exact aX _ kU | exact aX _ (rfl:_=AV.z)) | (apply Mw;first | exact aX _ JP) | (apply MY;first | exact aX _ tz | exact aX _ (rfl:_=AV.fp _ _) | exact aX _ kU) | (apply OK;first | exact aX _ (rfl:_=AV.agg _)) | (first | exact aX _ rC | exact aX _ tz | exact aX _ wq | exact aX _ zN | exact aX _ mW | exact aX _ JP | exact aX _ (rfl:_=AV.agg _) | exact aX _ (rfl:_=AV.fp _ _) | exact aX _ JM | exact aX _ (rfl:_=AV.tup _) | exact aX _ (rfl:_=AV.ifc _ _) | exact aX _ (rfl:_=AV.mp _) | exact aX _ (rfl:_=AV.z) | exact aX _ kU))
  | (apply Ny;exact cY _ _ aa rfl rfl rfl rfl (Nat.le_of_ble_eq_true rfl) rfl)
  | (apply NZ;exact Mr _ rfl rfl)
  | (apply Np;exact MB aa rfl rfl)
  | (apply Mz;first | (apply MG;first | exact cO _ _ _ rfl rC) | (apply Mq;first | exact cO _ _ _ rfl wq) | (apply MI;first | exact cO _ _ _ rfl zN | exact cO _ _ _ rfl mW | exact cO _ _ _ rfl eh | exact cO _ _ _ rfl kU | exact cO _ _ _ rfl (rfl:_=AV.z)) | (apply Mw;first | exact cO _ _ _ rfl JP) | (apply MY;first | exact cO _ _ _ rfl tz | exact cO _ _ _ rfl (rfl:_=AV.fp _ _) | exact cO _ _ _ rfl kU) | (apply OK;first | exact cO _ _ _ rfl (rfl:_=AV.agg _)) | (first | exact cO _ _ _ rfl rC | exact cO _ _ _ rfl tz | exact cO _ _ _ rfl wq | exact cO _ _ _ rfl zN | exact cO _ _ _ rfl mW | exact cO _ _ _ rfl JP | exact cO _ _ _ rfl (rfl:_=AV.agg _) | exact cO _ _ _ rfl (rfl:_=AV.fp _ _) | exact cO _ _ _ rfl JM | exact cO _ _ _ rfl (rfl:_=AV.tup _) | exact cO _ _ _ rfl (rfl:_=AV.ifc _ _) | exact cO _ _ _ rfl (rfl:_=AV.mp _) | exact cO _ _ _ rfl (rfl:_=AV.z) | exact cO _ _ _ rfl kU))
  | (apply MA;first | exact nB _ rfl rfl | exact Hc _ rfl)
  | (apply OE;first | exact dg (r:=false) _ _ Tryz.underlying9 rfl rfl rfl | exact dg (r:=true) _ _ Tryz.underlying9 rfl rfl rfl | exact ba (r:=false) _ _ rfl rfl rfl | exact ba (r:=true) _ _ rfl rfl rfl | exact cM (r:=false) _ _ rfl rfl rfl | exact cM (r:=true) _ _ rfl rfl rfl | exact cZ _ _ rfl rfl rfl | exact Eo _ _ rfl rfl rfl | exact oP _ _ rfl rfl rfl | exact ez _ _ rfl rfl rfl | exact eT _ _ rfl rfl (bT ab) | exact bq _ _ rfl rfl (bT ab))
  | (apply Mo;first | exact ew (r:=false) _ rfl rfl | exact ew (r:=true) _ rfl rfl | exact ew _ rfl rfl)
  | (apply MO;exact gA _ aa rfl Ub)
  | (apply Mx;first | exact gC _ aa rfl JX | exact gC _ aa rfl EK | exact gC _ aa rfl (rfl:_=some (AV.v (.bool _))) | exact gC _ aa rfl xn | exact gC _ aa rfl Ca | exact gC _ aa rfl (rfl:_=some (AV.v (.string _))) | exact gC _ aa rfl (rfl:_=some (AV.agg _)) | exact gC _ aa rfl (rfl:_=some (AV.fp _ _)) | exact gC _ aa rfl (rfl:_=some (AV.fn _ _ _)) | exact gC _ aa rfl (rfl:_=some (AV.tup _)) | exact gC _ aa rfl (rfl:_=some (AV.ifc _ _)) | exact gC _ aa rfl (rfl:_=some (AV.mp _)) | exact gC _ aa rfl (rfl:_=some (AV.z)) | exact gC _ aa rfl (rfl:_=some (AV.v _)) | exact Jn _ aa rfl rfl rfl)
  | (apply MZ;first | exact ft _ rfl JX | exact ft _ rfl EK | exact ft _ rfl (rfl:_=some (AV.v (.bool _))) | exact ft _ rfl xn | exact ft _ rfl Ca | exact ft _ rfl (rfl:_=some (AV.v (.string _))) | exact ft _ rfl (rfl:_=some (AV.agg _)) | exact ft _ rfl (rfl:_=some (AV.fp _ _)) | exact ft _ rfl (rfl:_=some (AV.fn _ _ _)) | exact ft _ rfl (rfl:_=some (AV.tup _)) | exact ft _ rfl (rfl:_=some (AV.ifc _ _)) | exact ft _ rfl (rfl:_=some (AV.mp _)) | exact ft _ rfl (rfl:_=some (AV.z)) | exact ft _ rfl (rfl:_=some (AV.v _)))
  | (apply Mn;first | exact Gu _ aa rfl | exact ym _ aa rfl rfl | exact Hz _ Tryz.underlying9 rfl | exact Gw _ aa rfl rfl | exact op_lenZ _ aa rfl | exact Fi _ aa rfl)
  | (apply OD;exact gX _ _ aa rfl ag (by (simp <;> rfl)) ah rfl)):Stp P d op ty σ σ':=h
section
variable {rb:Bool} {P:Program} {Q:Exit→St→Prop} {σ:St} {ops:Array Oper} {rest:List Oper} {d:Option Tmp} {ty:TypeId} {p:String}
theorem TS {all:List Oper} {W:List Nat} {I:List aA} {AA:List (List aA)} {Kont:List Res→Prop} {os:List Oper} {r:Res} {rs rs':List Res} (h:rs++[r]=rs') (hh:AnyOps P all W I AA σ Kont os rs'):AnyOps P all W I AA σ Kont os (rs++[r]):=h ▸ hh
end
section
variable {n:Nat} {rb:Bool} {P:Program} {Q:Exit→St→Prop} {σ:St} {ops:Array Oper} {rest:List Oper} {d:Option Tmp} {ty:TypeId} {p:String} {all:List Oper} {W:List Nat} {I:List aA} {AA:List (List aA)} {Kont:List Res→Prop} {os:List Oper} {rs:List Res} {op:Op}
theorem TN {x y:Code} (h:oy n (D rb P (.seq x y) Q σ)):oy n (D rb P (.seq x y) Q σ):=h
theorem TF {id:Nat} {l:Array Oper} (h:oy n (D rb P (.region id l false) Q σ)):oy n (D rb P (.region id l false) Q σ):=h
theorem Ta {c:Operand} {x y:Code} (h:oy n (D rb P (.cond c x y) Q σ)):oy n (D rb P (.cond c x y) Q σ):=h
theorem Un (h:oy n (D rb P .skip Q σ)):oy n (D rb P .skip Q σ):=h
theorem UK {i:Nat} {x:Code} (h:oy n (D rb P (.block i x) Q σ)):oy n (D rb P (.block i x) Q σ):=h
theorem TB (h:oy n (DL rb P ops Q [] σ)):oy n (DL rb P ops Q [] σ):=h
theorem Ts {af:Array Edge} (h:oy n (DL rb P ops Q (⟨d,op,ty,p,af,none⟩::rest) σ)):oy n (DL rb P ops Q (⟨d,op,ty,p,af,none⟩::rest) σ):=h
theorem Ss {af:Array Edge} {g:Nat×Bool} (h:oy n (DL rb P ops Q (⟨d,op,ty,p,af,some g⟩::rest) σ)):oy n (DL rb P ops Q (⟨d,op,ty,p,af,some g⟩::rest) σ):=h
theorem Sf {r:Res} (h:oy n (AnyOps P all W I AA σ Kont os (rs++[r]))):oy n (AnyOps P all W I AA σ Kont os (rs++[r])):=h
theorem SD (h:oy n (AnyOps P all W I AA σ Kont [] rs)):oy n (AnyOps P all W I AA σ Kont [] rs):=h
theorem SN {af:Array Edge} (h:oy n (AnyOps P all W I AA σ Kont (⟨d,op,ty,p,af,none⟩::os) rs)):oy n (AnyOps P all W I AA σ Kont (⟨d,op,ty,p,af,none⟩::os) rs):=h
theorem SJ {af:Array Edge} {g:Nat×Bool} (h:oy n (AnyOps P all W I AA σ Kont (⟨d,op,ty,p,af,some g⟩::os) rs)):oy n (AnyOps P all W I AA σ Kont (⟨d,op,ty,p,af,some g⟩::os) rs):=h
end
theorem go (n:Nat) {A B:Prop} (b:B) (k:Pv B→oy n A:=by
  intro b
  repeat (first
    | exact RW b
    | (apply Ts;first | refine qz (aj Md) ?_)
    | (apply TN;first | refine qz (aG) ?_ | refine qz (aE) ?_)
    | (apply TB;first | refine qz (am) ?_ | refine qz (Bg) ?_ | refine qz (Kc) ?_)
    | (apply Sf;first | refine qz (TS lr) ?_)
    | (apply SN;first | refine qz (aB (_,[]) (fun τ=> Md)) ?_)
    | (apply Ta;first | refine qz (cK rfl rfl) ?_ | refine qz (fR rfl rfl) ?_)
    | (apply TF;first | refine qz (aD) ?_)
    | (apply Un;first | refine qz (cE) ?_ | refine qz (kT) ?_ | refine qz (KA) ?_)
    | (apply Ss;first | refine qz (Ko rfl rfl ah) ?_ | refine qz (KI rfl rfl) ?_ | refine qz (aV rfl rfl Md) ?_)
    | (apply SJ;first | refine qz (IP rfl (fun τ=> rfl) ah) ?_ | refine qz (II rfl (fun τ=> rfl)) ?_ | refine qz (dM (_,[]) rfl (fun τ=> rfl) (fun τ=> Md)) ?_)
    | (apply SD;first | refine qz (fun h=> cq ⟨rfl,h⟩) ?_ | refine qz (fun h=> cq ⟨⟨rfl,by kernel_rfl⟩,h⟩) ?_)
    | (apply UK;first | refine qz (aH) ?_))):A:=(k ⟨b⟩).f
theorem dA {rb:Bool} {P:Program} {Q:Exit→St→Prop} {σ:St} {id:Nat} {l hd tl:List Oper} (n:Nat) {W:List Nat} (I:List aA) (h:AnyOps P hd W I [] σ (fun rs=> gH rs=I∧DL rb P l.toArray Q tl (dx hd rs (fun _=> true) 0 σ)) hd []) (hm:P.follows .mixedOrders=true:=by kernel_rfl) (hB:kS l.toArray n=true:=by kernel_rfl) (hW:(l.take n).filterMap (·.dst)=W:=by exact lr) (hI:bg I=true:=by rfl) (e1:l.take n=hd:=by exact lr) (e2:l.drop n=tl:=by exact lr):D rb P (.region id l.toArray true) Q σ:=If n W I hm hB hW (bb hI) e1 e2 h
structure AC (cs:List Nat) (p:Prop):Prop where
  f:p
section
variable {cs:List Nat} {p q:Prop}
theorem Tz:AC [] True:=⟨trivial⟩
theorem Uv (h:p) (k:AC cs q):AC (0::cs) (p∧q):=⟨h,k.f⟩
theorem Uq (h:p) (k:AC cs q):AC (1::cs) (p∧q):=⟨h,k.f⟩
theorem SR (h:p) (k:AC cs q):AC (2::cs) (p∧q):=⟨h,k.f⟩
end
def QK (cs:List Nat) (rn:List (aA×aA)) (Fz:List aA) (a b:St):Prop:=Le a b
theorem NB {σ:St} {n:Nat} {slots:List (Nat×AV)} {obs:List (aA×Cells)} {I Pn:List aA} {cs:List Nat} {rn:List (aA×aA)} {Fz:List aA} (hn:σ.n=n) (hs:nL (aS rn) σ (fun i=> bY i Fz) slots) (ho:AC cs (dI (aS rn) σ (fun i=> bY i Fz) I obs)) (hi:fu σ Fz) (hp:jl (aS rn) σ Pn) (hb:(eo (obs.map (·.1)) slots && aY (obs.map (·.1)) obs && bg ((obs.map (·.1)).map (aS rn)) && pK Pn (obs.map (·.1)))=true):QK cs rn Fz (an n slots obs I Pn) σ:=Le.mkJ rn Fz hn hs ho.f hi hp hb
theorem kj (cs:List Nat) (rn:List (aA×aA)) (Fz:List aA) {σ σ':St} (h:QK cs rn Fz σ' σ:=by
  refine NB rfl ?_ ?_ ?_ ?_ ?_
  · repeat' (first | exact trivial | exact iV rfl | exact iP rfl | exact iS rfl | exact iR rfl | exact bj ag | exact jL ag | exact de ag ag | exact cf rfl ag | exact iF rfl | exact iA rfl | exact iN rfl | exact iT rfl | exact iM rfl | exact iZ rfl | exact iD rfl | exact iI rfl | refine ⟨?_,?_⟩)
  · repeat (first | exact Tz | (apply Uv; · exact bU rfl rfl rfl) | (apply Uq; · exact cT rfl rfl rfl rfl lz) | (apply SR; · exact cL rfl rfl rfl ag))
  · repeat' (first | exact trivial | refine ⟨rfl,?_⟩)
  · repeat' (first | exact trivial | refine ⟨rfl,?_⟩)
  kernel_rfl):Le σ' σ:=h
def wA (rn:List (aA×aA)) (P:Program) (fn:Func) (σ':St) (e:Exit) (σ:St):Prop:=la P fn σ' e σ
section
variable {rn:List (aA×aA)} {P:Program} {fn:Func} {e:Exit} {σ:St} {x:ResultVar} {r r':AV} {obs:List (aA×Cells)} {I Pn:List aA}
theorem RM (he:e= .normal∨e= .ret) (hr:fn.results= #[x]) (h1:ResV P σ x r) (hl:Lv (aS rn) (eZ r σ) (fun i=> bY i []) r' r) (hw1:r'.within (obs.map (·.1))=true) (hw2:aY (obs.map (·.1)) obs=true) (hd:bg ((obs.map (·.1)).map (aS rn))=true) (ho:dI (aS rn) (eZ r σ) (fun i=> bY i []) I obs) (hp:jl (aS rn) (eZ r σ) Pn) (hsb:pK Pn (obs.map (·.1))=true):wA rn P fn (aN r' obs I Pn) e σ:=cg he hr h1 (Le.outI rn [] hl hw1 hw2 hd trivial ho hp hsb)
theorem PT (he:e= .normal∨e= .ret) (hr:fn.results= #[x]) (h1:ResV P σ x r) (hl:Lv (aS rn) (eZ r σ) (fun i=> bY i []) r' r) (hw1:r'.within (obs.map (·.1))=true) (hw2:aY (obs.map (·.1)) obs=true) (hd:bg ((obs.map (·.1)).map (aS rn))=true) (ho:mI (aS rn) (eZ r σ) (fun i=> bY i []) obs):wA rn P fn (aC r' obs) e σ:=cg he hr h1 (Le.out rn [] hl hw1 hw2 hd trivial ho)
theorem Ua (he:e= .normal∨e= .ret) (hr:fn.results= #[]) (hl:Lv (aS rn) (eZ (.tup []) σ) (fun i=> bY i []) r' (.tup [])) (hw1:r'.within (obs.map (·.1))=true) (hw2:aY (obs.map (·.1)) obs=true) (hd:bg ((obs.map (·.1)).map (aS rn))=true) (ho:dI (aS rn) (eZ (.tup []) σ) (fun i=> bY i []) I obs) (hp:jl (aS rn) (eZ (.tup []) σ) Pn) (hsb:pK Pn (obs.map (·.1))=true):wA rn P fn (aN r' obs I Pn) e σ:=xa he hr (Le.outI rn [] hl hw1 hw2 hd trivial ho hp hsb)
end
theorem jF (rn:List (aA×aA)) {P:Program} {fn:Func} {σ':St} {e:Exit} {σ:St} (h:wA rn P fn σ' e σ:=by exact RM (.inr rfl) rfl (.cellA aa rfl rfl rfl) (.agg rfl lz) rfl rfl rfl ob tr rfl):la P fn σ' e σ:=h
theorem zX (rn:List (aA×aA)) {P:Program} {fn:Func} {σ':St} {e:Exit} {σ:St} (h:wA rn P fn σ' e σ:=by exact PT (.inr rfl) rfl (.cellA aa rfl rfl rfl) (.agg rfl lz) rfl rfl rfl ob):la P fn σ' e σ:=h
theorem mX (rn:List (aA×aA)) {P:Program} {fn:Func} {σ':St} {e:Exit} {σ:St} (h:wA rn P fn σ' e σ:=by exact PT (.inr rfl) rfl (.tmp mW) (cf rfl rfl) rfl rfl rfl ob):la P fn σ' e σ:=h
theorem mV (rn:List (aA×aA)) {P:Program} {fn:Func} {σ':St} {e:Exit} {σ:St} (h:wA rn P fn σ' e σ:=by exact Ua (.inl rfl) rfl (.tup rfl aK) rfl rfl rfl ob tr rfl):la P fn σ' e σ:=h
end Go.Proofs.YtmjnackchaahbaaGreat

set_option maxHeartbeats 2000000
namespace Go.Proofs.YtmjnackchaahbaaGreat

inductive Opc where
 | push | var | setVar | name | draw | add | sub | mul | div | neg | lt | le | eq | not | jump | unl | send | timer | cancel | sync | reply | fail | stop
 deriving DecidableEq
def Opc.num:Opc→Nat
 | .push=> 1 | .var=> 2 | .setVar=> 3 | .name=> 4 | .draw=> 5 | .add=> 6 | .sub=> 7 | .mul=> 8 | .div=> 9 | .neg=> 10 | .lt=> 11 | .le=> 12 | .eq=> 13 | .not=> 14
 | .jump=> 15 | .unl=> 16 | .send=> 17 | .timer=> 18 | .cancel=> 19 | .sync=> 20 | .reply=> 21 | .fail=> 22 | .stop=> 23
def Opc.pops:Opc→Nat
 | .push=> 0 | .var=> 0 | .setVar=> 1 | .name=> 0 | .draw=> 1 | .add=> 2 | .sub=> 2 | .mul=> 2 | .div=> 2 | .neg=> 1 | .lt=> 2 | .le=> 2 | .eq=> 2 | .not=> 1
 | .jump=> 0 | .unl=> 1 | .send=> 3 | .timer=> 0 | .cancel=> 0 | .sync=> 0 | .reply=> 2 | .fail=> 1 | .stop=> 0
def Opc.puts:Opc→Nat
 | .push=> 1 | .var=> 1 | .setVar=> 0 | .name=> 1 | .draw=> 1 | .add=> 1 | .sub=> 1 | .mul=> 1 | .div=> 1 | .neg=> 1 | .lt=> 1 | .le=> 1 | .eq=> 1 | .not=> 1
 | .jump=> 0 | .unl=> 0 | .send=> 0 | .timer=> 0 | .cancel=> 0 | .sync=> 0 | .reply=> 0 | .fail=> 0 | .stop=> 0
structure eD where
 op:Opc
 n:Int:=0
inductive Bo where
 | add | sub | mul | div | lt | le | eq | gt | ge | ne
 deriving DecidableEq
def Bo.text:Bo→String
 | .add=> "+" | .sub=> "-" | .mul=> "*" | .div=> "/" | .lt=> "<" | .le=> "<=" | .eq=> "==" | .gt=> ">" | .ge=> ">=" | .ne=> "!="
def Bo.code:Bo→List eD
 | .add=> [{ op:= .add }] | .sub=> [{ op:= .sub }] | .mul=> [{ op:= .mul }] | .div=> [{ op:= .div }] | .lt=> [{ op:= .lt }] | .le=> [{ op:= .le }] | .eq=> [{ op:= .eq }]
 | .gt=> [{ op:= .le },{ op:= .not }] | .ge=> [{ op:= .lt },{ op:= .not }] | .ne=> [{ op:= .eq },{ op:= .not }]
inductive Ex where
 | int (n:Int) | bool (b:Bool) | var (i:Nat) | name (k:Nat) | draw (e:Ex) | neg (e:Ex) | not (e:Ex) | bin (o:Bo) (a b:Ex) | and (a b:Ex) | or (a b:Ex)
mutual
inductive Sm where
 | assign (i:Nat) (e:Ex) | send (to:Ex) (k:Nat) (a b:Ex) | timer (k:Nat) | cancel (k:Nat) | sync | stop | reply (a b:Ex) | fail (e:Ex) | loop (c:Ex) (b:Bk) | ite (c:Ex) (a b:Bk)
inductive Bk where
 | nil | cons (s:Sm) (b:Bk)
end

def bk:Ex→Nat→List eD
 | .int n,_=> [{ op:= .push,n:=n }]
 | .bool b,_=> [{ op:= .push,n:=if b then 1 else 0 }]
 | .var i,_=> [{ op:= .var,n:=i }]
 | .name k,_=> [{ op:= .name,n:=k }]
 | .draw e,at_=> bk e at_++[{ op:= .draw }]
 | .neg e,at_=> bk e at_++[{ op:= .neg }]
 | .not e,at_=> bk e at_++[{ op:= .not }]
 | .bin o a b,at_=> bk a at_++bk b (at_+(bk a at_).length)++o.code
 | .and a b,at_=>
  let c:=bk a at_
  let x:=bk b (at_+c.length+1)
  let f:=at_+c.length+1+x.length+1
  c++[{ op:= .unl,n:=(f:Nat) }]++x++[{ op:= .jump,n:=((f+1:Nat):Int) }]++[{ op:= .push,n:=0 }]
 | .or a b,at_=>
  let c:=bk a at_
  let f:=at_+c.length+1+1+1
  let x:=bk b f
  c++[{ op:= .unl,n:=(f:Nat) }]++[{ op:= .push,n:=1 }]++[{ op:= .jump,n:=((f+x.length:Nat):Int) }]++x
mutual
def db:Sm→Nat→List eD
 | .assign i e,at_=> bk e at_++[{ op:= .setVar,n:=i }]
 | .send t k a b,at_=>
  let c:=bk t at_
  let d:=bk a (at_+c.length)
  c++d++bk b (at_+(c.length+d.length))++[{ op:= .send,n:=k }]
 | .timer k,_=> [{ op:= .timer,n:=k }]
 | .cancel k,_=> [{ op:= .cancel,n:=k }]
 | .sync,_=> [{ op:= .sync }]
 | .stop,_=> [{ op:= .stop }]
 | .reply a b,at_=> bk a at_++bk b (at_+(bk a at_).length)++[{ op:= .reply }]
 | .fail e,at_=> bk e at_++[{ op:= .fail }]
 | .loop c b,at_=>
  let x:=bk c at_
  let y:=dD b (at_+x.length+1)
  x++[{ op:= .unl,n:=((at_+x.length+y.length+2:Nat):Int) }]++y++[{ op:= .jump,n:=(at_:Nat) }]
 | .ite c a b,at_=>
  let x:=bk c at_
  let y:=dD a (at_+x.length+1)
  let f:=at_+x.length+1+y.length+1
  let z:=dD b f
  x++[{ op:= .unl,n:=(f:Nat) }]++y++[{ op:= .jump,n:=((f+z.length:Nat):Int) }]++z
def dD:Bk→Nat→List eD
 | .nil,_=> []
 | .cons s b,at_=> db s at_++dD b (at_+(db s at_).length)
end

def dC (i:Nat) (x:eD):List Nat:=match x.op with
 | .stop=> []
 | .jump=> [x.n.toNat]
 | .unl=> [i+1,x.n.toNat]
 | _=> [i+1]
def cV (nv:Nat) (x:eD):Prop:=match x.op with
 | .push=> -2147483647≤x.n∧x.n≤2147483647
 | .var=> 0≤x.n∧x.n < nv
 | .setVar=> 0≤x.n∧x.n < nv
 | .name=> 0≤x.n∧x.n < 9
 | .send=> 0≤x.n∧x.n < 30
 | .timer=> 0≤x.n∧x.n < 8
 | .cancel=> 0≤x.n∧x.n < 8
 | _=> 0≤x.n
def Good (D:Nat→Nat) (nv lo hi at_:Nat) (c:List eD):Prop:= ∀ k x,c[k]? =some x→cV nv x∧x.op.pops≤D (at_+k)∧ ∀ j∈dC (at_+k) x,lo≤j∧j≤hi∧D j=D (at_+k) - x.op.pops+x.op.puts
theorem Good.app {D:Nat→Nat} {nv lo hi a p:Nat} {c c':List eD} (h:Good D nv lo hi a c) (h':Good D nv lo hi p c') (hp:p=a+c.length):Good D nv lo hi a (c++c'):=by
 subst hp
 intro k x hx
 by_cases hk:k < c.length
 ·rw [List.getElem?_append_left hk] at hx
  exact h k x hx
 rw [List.getElem?_append_right ab] at hx
 have:=h' _ x hx
 rwa [show a+c.length+(k - c.length)=a+k by omega] at this
theorem Good.one {D:Nat→Nat} {nv lo hi a:Nat} {x:eD} (h1:cV nv x) (h2:x.op.pops≤D a) (h3: ∀ j∈dC a x,lo≤j∧j≤hi∧D j=D a - x.op.pops+x.op.puts):Good D nv lo hi a [x]:=by
 intro k y hy
 cases k with
 | zero=> simp at hy;subst hy;exact ⟨h1,h2,h3⟩
 | succ k=> simp at hy
theorem Good.nil {D:Nat→Nat} {nv lo hi a:Nat}:Good D nv lo hi a []:=fun k x hx=> by simp at hx
theorem Good.mono {D:Nat→Nat} {nv lo hi lo' hi' a:Nat} {c:List eD} (h:Good D nv lo hi a c) (h1:lo'≤lo) (h2:hi≤hi'):Good D nv lo' hi' a c:=fun k x hx=> by
 obtain ⟨a1,a2,a3⟩:=h k x hx
 exact ⟨a1,a2,fun j hj=> by obtain ⟨b1,b2,b3⟩:=a3 j hj;exact ⟨by omega,by omega,b3⟩⟩
def Fit (D:Nat→Nat) (a:Nat) (ds:List Nat):Prop:= ∀ k d,ds[k]? =some d→D (a+k)=d
theorem Fit.left {D:Nat→Nat} {a:Nat} {l m:List Nat} (h:Fit D a (l++m)):Fit D a l:=fun k d hd=> h k d (by
 rw [List.getElem?_append_left (List.getElem?_eq_some_iff.1 hd).1];exact hd)
theorem Fit.right {D:Nat→Nat} {a:Nat} {l m:List Nat} (h:Fit D a (l++m)):Fit D (a+l.length) m:=fun k d hd=> by
 have:=h (l.length+k) d (by rw [List.getElem?_append_right ab,Nat.add_sub_cancel_left];exact hd)
 rwa [← Nat.add_assoc] at this
theorem Fit.hd {D:Nat→Nat} {a d:Nat} {l:List Nat} (h:Fit D a (d::l)):D a=d:=h 0 d rfl
def dv:Ex→Nat→List Nat
 | .int _,d=> [d] | .bool _,d=> [d] | .var _,d=> [d] | .name _,d=> [d]
 | .draw e,d=> dv e d++[d+1] | .neg e,d=> dv e d++[d+1] | .not e,d=> dv e d++[d+1]
 | .bin o a b,d=> dv a d++dv b (d+1)++(match o with | .gt=> [d+2,d+1] | .ge=> [d+2,d+1] | .ne=> [d+2,d+1] | _=> [d+2])
 | .and a b,d=> dv a d++[d+1]++dv b d++[d+1]++[d]
 | .or a b,d=> dv a d++[d+1]++[d]++[d+1]++dv b d
mutual
def dY:Sm→List Nat
 | .assign _ e=> dv e 0++[1]
 | .send t _ a b=> dv t 0++dv a 1++dv b 2++[3]
 | .timer _=> [0] | .cancel _=> [0] | .sync=> [0] | .stop=> [0]
 | .reply a b=> dv a 0++dv b 1++[2]
 | .fail e=> dv e 0++[1]
 | .loop c b=> dv c 0++[1]++mi b++[0]
 | .ite c a b=> dv c 0++[1]++mi a++[0]++mi b
def mi:Bk→List Nat
 | .nil=> []
 | .cons s b=> dY s++mi b
end
theorem bz: ∀ (e:Ex) (d a:Nat),(dv e d).length=(bk e a).length
 | .int _,_,_=> rfl | .bool _,_,_=> rfl | .var _,_,_=> rfl | .name _,_,_=> rfl
 | .draw e,d,a=> by simp [dv,bk,bz e d a]
 | .neg e,d,a=> by simp [dv,bk,bz e d a]
 | .not e,d,a=> by simp [dv,bk,bz e d a]
 | .bin o x y,d,a=> by cases o <;> simp [dv,bk,Bo.code,bz x d a,bz y (d+1) (a+(bk x a).length)]
 | .and x y,d,a=> by simp [dv,bk,bz x d a,bz y d (a+(bk x a).length+1)]
 | .or x y,d,a=> by simp [dv,bk,bz x d a,bz y d (a+(bk x a).length+1+1+1)]
mutual
theorem vX: ∀ (s:Sm) (a:Nat),(dY s).length=(db s a).length
 | .assign i e,a=> by simp [dY,db,bz e 0 a]
 | .send t k x y,a=> by simp [dY,db,bz t 0 a,bz x 1 (a+(bk t a).length),bz y 2 (a+((bk t a).length+(bk x (a+(bk t a).length)).length))]
 | .timer _,_=> by simp [dY,db] | .cancel _,_=> by simp [dY,db] | .sync,_=> by simp [dY,db] | .stop,_=> by simp [dY,db]
 | .reply x y,a=> by simp [dY,db,bz x 0 a,bz y 1 (a+(bk x a).length)]
 | .fail e,a=> by simp [dY,db,bz e 0 a]
 | .loop c b,a=> by simp [dY,db,bz c 0 a,gx b (a+(bk c a).length+1)]
 | .ite c x y,a=> by simp [dY,db,bz c 0 a,gx x (a+(bk c a).length+1),gx y (a+(bk c a).length+1+(dD x (a+(bk c a).length+1)).length+1)]
theorem gx: ∀ (b:Bk) (a:Nat),(mi b).length=(dD b a).length
 | .nil,_=> by simp [mi,dD]
 | .cons s b,a=> by simp [mi,dD,vX s a,gx b (a+(db s a).length)]
end
theorem succs_jump {i j f:Nat}:j∈dC i { op:= .jump,n:=(f:Int) }↔j=f:=by simp [dC]
theorem succs_unless {i j f:Nat}:j∈dC i { op:= .unl,n:=(f:Int) }↔j=i+1∨j=f:=by simp [dC]
theorem eF: ∀ (e:Ex) (d:Nat),∃ l,dv e d=d::l
 | .int _,_=> ⟨_,rfl⟩ | .bool _,_=> ⟨_,rfl⟩ | .var _,_=> ⟨_,rfl⟩ | .name _,_=> ⟨_,rfl⟩
 | .draw e,d=> by obtain ⟨l,h⟩:=eF e d;exact ⟨l++[d+1],by simp [dv,h]⟩
 | .neg e,d=> by obtain ⟨l,h⟩:=eF e d;exact ⟨l++[d+1],by simp [dv,h]⟩
 | .not e,d=> by obtain ⟨l,h⟩:=eF e d;exact ⟨l++[d+1],by simp [dv,h]⟩
 | .bin o x y,d=> by obtain ⟨l,h⟩:=eF x d;cases o <;> exact ⟨_,by simp only [dv,h,List.cons_append];rfl⟩
 | .and x y,d=> by obtain ⟨l,h⟩:=eF x d;exact ⟨_,by rw [dv,h];rfl⟩
 | .or x y,d=> by obtain ⟨l,h⟩:=eF x d;exact ⟨_,by rw [dv,h];rfl⟩
theorem Fit.e {D:Nat→Nat} {a d:Nat} {e:Ex} (h:Fit D a (dv e d)):D a=d:=by
 obtain ⟨l,hl⟩:=eF e d
 rw [hl] at h
 exact h.hd
def gS (nv:Nat):Ex→Prop
 | .int n=> -2147483647≤n∧n≤2147483647
 | .bool _=> True
 | .var i=> i < nv
 | .name k=> k < 9
 | .draw e=> gS nv e | .neg e=> gS nv e | .not e=> gS nv e
 | .bin _ a b=> gS nv a∧gS nv b
 | .and a b=> gS nv a∧gS nv b
 | .or a b=> gS nv a∧gS nv b
mutual
def gp (nv:Nat):Sm→Prop
 | .assign i e=> i < nv∧gS nv e
 | .send t k a b=> k < 30∧gS nv t∧gS nv a∧gS nv b
 | .timer k=> k < 8 | .cancel k=> k < 8 | .sync=> True | .stop=> True
 | .reply a b=> gS nv a∧gS nv b
 | .fail e=> gS nv e
 | .loop c b=> gS nv c∧lc nv b
 | .ite c a b=> gS nv c∧lc nv a∧lc nv b
def lc (nv:Nat):Bk→Prop
 | .nil=> True
 | .cons s b=> gp nv s∧lc nv b
end
theorem gL (D:Nat→Nat) (nv:Nat): ∀ (e:Ex) (d a lo hi:Nat),gS nv e→Fit D a (dv e d)→D (a+(bk e a).length)=d+1→lo≤a→a+(bk e a).length≤hi→Good D nv lo hi a (bk e a)
 | .int n,d,a,lo,hi,ho,hf,hx,hl,hh=> by
  simp only [bk,List.length_cons,List.length_nil] at*
  have:=hf.e
  exact .one ho (Nat.zero_le _) fun j hj=> by simp [dC] at hj;subst hj;exact ⟨by omega,by omega,by rw [hx,this];rfl⟩
 | .bool b,d,a,lo,hi,ho,hf,hx,hl,hh=> by
  simp only [bk,List.length_cons,List.length_nil] at*
  have:=hf.e
  exact .one (by cases b <;> simp [cV]) (Nat.zero_le _) fun j hj=> by simp [dC] at hj;subst hj;exact ⟨by omega,by omega,by rw [hx,this];rfl⟩
 | .var i,d,a,lo,hi,ho,hf,hx,hl,hh=> by
  simp only [bk,List.length_cons,List.length_nil] at*
  have:=hf.e
  exact .one (by simp only [gS] at ho;simp only [cV];omega) (Nat.zero_le _) fun j hj=> by simp [dC] at hj;subst hj;exact ⟨by omega,by omega,by rw [hx,this];rfl⟩
 | .name k,d,a,lo,hi,ho,hf,hx,hl,hh=> by
  simp only [bk,List.length_cons,List.length_nil] at*
  have:=hf.e
  exact .one (by simp only [gS] at ho;simp only [cV];omega) (Nat.zero_le _) fun j hj=> by simp [dC] at hj;subst hj;exact ⟨by omega,by omega,by rw [hx,this];rfl⟩
 | .draw e,d,a,lo,hi,ho,hf,hx,hl,hh=> by
  simp only [bk,dv,List.length_append,List.length_cons,List.length_nil] at*
  have h1:=hf.right.hd
  rw [bz e d a] at h1
  refine (gL D nv e d a lo hi ho hf.left h1 hl ab).app (.one (by simp [cV]) (by rw [h1];exact Nat.le_add_left _ _) fun j hj=> ?_) rfl
  simp [dC] at hj;subst hj
  exact ⟨by omega,by omega,by rw [Nat.add_assoc,hx,h1];rfl⟩
 | .neg e,d,a,lo,hi,ho,hf,hx,hl,hh=> by
  simp only [bk,dv,List.length_append,List.length_cons,List.length_nil] at*
  have h1:=hf.right.hd
  rw [bz e d a] at h1
  refine (gL D nv e d a lo hi ho hf.left h1 hl ab).app (.one (by simp [cV]) (by rw [h1];exact Nat.le_add_left _ _) fun j hj=> ?_) rfl
  simp [dC] at hj;subst hj
  exact ⟨by omega,by omega,by rw [Nat.add_assoc,hx,h1];rfl⟩
 | .not e,d,a,lo,hi,ho,hf,hx,hl,hh=> by
  simp only [bk,dv,List.length_append,List.length_cons,List.length_nil] at*
  have h1:=hf.right.hd
  rw [bz e d a] at h1
  refine (gL D nv e d a lo hi ho hf.left h1 hl ab).app (.one (by simp [cV]) (by rw [h1];exact Nat.le_add_left _ _) fun j hj=> ?_) rfl
  simp [dC] at hj;subst hj
  exact ⟨by omega,by omega,by rw [Nat.add_assoc,hx,h1];rfl⟩
 | .bin o x y,d,a,lo,hi,ho,hf,hx,hl,hh=> by
  simp only [bk,dv,List.length_append] at*
  have hf1:=hf.left.left
  have hf2:=hf.left.right
  have hf3:=hf.right
  rw [bz x d a] at hf2
  rw [List.length_append,bz x d a,bz y (d+1) (a+(bk x a).length)] at hf3
  have e2:=hf2.e
  have hy:D (a+(bk x a).length+(bk y (a+(bk x a).length)).length)=d+2:=by
   rw [Nat.add_assoc]
   cases o <;> exact hf3.hd
  refine ((gL D nv x d a lo hi ho.1 hf1 e2 hl ab).app (gL D nv y (d+1) _ lo hi ho.2 hf2 hy ab ab) rfl).app (p:=a+(bk x a).length+(bk y (a+(bk x a).length)).length) ?_ (by rw [List.length_append];omega)
  have hx':D (a+(bk x a).length+(bk y (a+(bk x a).length)).length+o.code.length)=d+1:=by rw [← hx];congr 1;omega
  have hh':a+(bk x a).length+(bk y (a+(bk x a).length)).length+o.code.length≤hi:=by omega
  have hl':lo≤a+(bk x a).length+(bk y (a+(bk x a).length)).length:=by omega
  rw [← Nat.add_assoc] at hf3
  clear hf hf1 hf2 e2 hx hh hl
  generalize a+(bk x a).length+(bk y (a+(bk x a).length)).length=p at hf3 hy hx' hh' hl'
  have one: ∀ (q:Nat) (op:Opc),lo≤q→q+1≤hi→cV nv { op:=op }→(∀ i,dC i { op:=op }=[i+1])→op.pops≤D q→D (q+1)=D q - op.pops+op.puts→Good D nv lo hi q [{ op:=op }]:=fun q op q1 q2 q3 q4 q5 q6=>
   .one q3 q5 fun j hj=> by rw [q4] at hj;simp at hj;subst hj;exact ⟨by omega,q2,q6⟩
  have two: ∀ (op:Opc),cV nv { op:=op }→(∀ i,dC i { op:=op }=[i+1])→op.pops=2→op.puts=1→D (p+2)=d+1→D (p+1)=d+1→p+2≤hi→Good D nv lo hi p [{ op:=op },{ op:= .not }]:=fun op q1 q2 q3 q4 q5 q6 q7=>
   (one p op hl' ab q1 q2 (by rw [hy,q3];omega) (by rw [q6,hy,q3,q4];omega)).app (one (p+1) .not ab q7 (by simp [cV]) (fun _=> rfl) (by rw [q6];exact Nat.le_add_left _ _) (by rw [q5,q6];rfl)) rfl
  cases o
  case gt=> exact two .le (by simp [cV]) (fun _=> rfl) rfl rfl hx' (hf3 1 _ rfl) hh'
  case ge=> exact two .lt (by simp [cV]) (fun _=> rfl) rfl rfl hx' (hf3 1 _ rfl) hh'
  case ne=> exact two .eq (by simp [cV]) (fun _=> rfl) rfl rfl hx' (hf3 1 _ rfl) hh'
  all_goals exact one p _ hl' hh' (by simp [cV]) (fun _=> rfl) (by rw [hy];exact Nat.le_add_left _ _) (by rw [show D (p+1)=d+1 from hx',hy];rfl)
 | .and x y,d,a,lo,hi,ho,hf,hx,hl,hh=> by
  simp only [bk,dv,List.length_append,List.length_cons,List.length_nil] at*
  have f1:=hf.left.left.left.left
  have f2:=hf.left.left.left.right
  have f3:=hf.left.left.right
  have f4:=hf.left.right
  have f5:=hf.right
  simp only [List.length_append,List.length_cons,List.length_nil,bz x d a,bz y d (a+(bk x a).length+1)] at f2 f3 f4 f5
  have e2:=f2.hd;have e4:=f4.hd;have e5:=f5.hd
  generalize hc:bk x a=c at*
  rw [show a+(c.length+(0+1))=a+c.length+1 by omega] at f3
  have e3:=f3.e
  generalize hz:bk y (a+c.length+1)=z at*
  have g1:=gL D nv x d a lo hi ho.1 f1 (by rw [hc];exact e2) hl (by rw [hc];omega)
  have g3:=gL D nv y d (a+c.length+1) lo hi ho.2 f3 (by rw [hz,← e4];congr 1;omega) ab (by rw [hz];omega)
  rw [hc] at g1
  rw [hz] at g3
  refine (((g1.app (.one (by simp [cV];omega) (by rw [e2];exact Nat.le_add_left _ _) fun j hj=> ?_) rfl).app g3 (by simp;omega)).app (p:=a+c.length+1+z.length) (.one (by simp [cV];omega) (Nat.zero_le _) fun j hj=> ?_) (by simp;omega)).app (p:=a+c.length+1+z.length+1) (.one (by simp [cV]) (Nat.zero_le _) fun j hj=> ?_) (by simp;omega)
  ·rcases succs_unless.1 hj with rfl | rfl
   ·exact ⟨by omega,by omega,by rw [e3,e2];rfl⟩
   exact ⟨by omega,by omega,by rw [show a+c.length+1+z.length+1=a+(c.length+(0+1)+z.length+(0+1)) by omega,e5,e2];rfl⟩
  ·obtain rfl:=succs_jump.1 hj
   exact ⟨by omega,by omega,by rw [show a+c.length+1+z.length+1+1=a+(c.length+(0+1)+z.length+(0+1)+(0+1)) by omega,hx,show a+c.length+1+z.length=a+(c.length+(0+1)+z.length) by omega,e4];rfl⟩
  simp [dC] at hj;subst hj
  exact ⟨by omega,by omega,by rw [show a+c.length+1+z.length+1+1=a+(c.length+(0+1)+z.length+(0+1)+(0+1)) by omega,hx,show a+c.length+1+z.length+1=a+(c.length+(0+1)+z.length+(0+1)) by omega,e5];rfl⟩
 | .or x y,d,a,lo,hi,ho,hf,hx,hl,hh=> by
  simp only [bk,dv,List.length_append,List.length_cons,List.length_nil] at*
  have f1:=hf.left.left.left.left
  have f2:=hf.left.left.left.right
  have f3:=hf.left.left.right
  have f4:=hf.left.right
  have f5:=hf.right
  simp only [List.length_append,List.length_cons,List.length_nil,bz x d a] at f2 f3 f4 f5
  have e2:=f2.hd;have e3:=f3.hd;have e4:=f4.hd
  generalize hc:bk x a=c at*
  rw [show a+(c.length+(0+1)+(0+1)+(0+1))=a+c.length+1+1+1 by omega] at f5
  have e5:=f5.e
  generalize hz:bk y (a+c.length+1+1+1)=z at*
  have g1:=gL D nv x d a lo hi ho.1 f1 (by rw [hc];exact e2) hl (by rw [hc];omega)
  have g5:=gL D nv y d (a+c.length+1+1+1) lo hi ho.2 f5 (by rw [hz,← hx];congr 1;omega) ab (by rw [hz];omega)
  rw [hc] at g1
  rw [hz] at g5
  refine (((g1.app (.one (by simp [cV];omega) (by rw [e2];exact Nat.le_add_left _ _) fun j hj=> ?_) rfl).app (p:=a+c.length+1) (.one (by simp [cV]) (Nat.zero_le _) fun j hj=> ?_) (by simp;omega)).app (p:=a+c.length+1+1) (.one (by simp [cV];omega) (Nat.zero_le _) fun j hj=> ?_) (by simp;omega)).app g5 (by simp;omega)
  ·rcases succs_unless.1 hj with rfl | rfl
   ·exact ⟨by omega,by omega,by rw [show a+c.length+1=a+(c.length+(0+1)) by omega,e3,e2];rfl⟩
   exact ⟨by omega,by omega,by rw [e5,e2];rfl⟩
  ·simp [dC] at hj;subst hj
   exact ⟨by omega,by omega,by rw [show a+c.length+1+1=a+(c.length+(0+1)+(0+1)) by omega,e4,show a+c.length+1=a+(c.length+(0+1)) by omega,e3];rfl⟩
  obtain rfl:=succs_jump.1 hj
  exact ⟨by omega,by omega,by rw [show a+c.length+1+1+1+z.length=a+(c.length+(0+1)+(0+1)+(0+1)+z.length) by omega,hx,show a+c.length+1+1=a+(c.length+(0+1)+(0+1)) by omega,e4];rfl⟩
theorem Gx: ∀ (s:Sm),∃ l,dY s=0::l
 | .assign _ e=> by obtain ⟨l,h⟩:=eF e 0;exact ⟨_,by simp only [dY,h,List.cons_append];rfl⟩
 | .send t _ a b=> by obtain ⟨l,h⟩:=eF t 0;exact ⟨_,by simp only [dY,h,List.cons_append];rfl⟩
 | .timer _=> ⟨_,by simp only [dY];rfl⟩ | .cancel _=> ⟨_,by simp only [dY];rfl⟩ | .sync=> ⟨_,by simp only [dY];rfl⟩ | .stop=> ⟨_,by simp only [dY];rfl⟩
 | .reply a b=> by obtain ⟨l,h⟩:=eF a 0;exact ⟨_,by simp only [dY,h,List.cons_append];rfl⟩
 | .fail e=> by obtain ⟨l,h⟩:=eF e 0;exact ⟨_,by simp only [dY,h,List.cons_append];rfl⟩
 | .loop c b=> by obtain ⟨l,h⟩:=eF c 0;exact ⟨_,by simp only [dY,h,List.cons_append];rfl⟩
 | .ite c a b=> by obtain ⟨l,h⟩:=eF c 0;exact ⟨_,by simp only [dY,h,List.cons_append];rfl⟩
theorem Fit.s {D:Nat→Nat} {a:Nat} {s:Sm} (h:Fit D a (dY s)):D a=0:=by
 obtain ⟨l,hl⟩:=Gx s
 rw [hl] at h
 exact h.hd
theorem Fit.b {D:Nat→Nat} {a:Nat} {b:Bk} (h:Fit D a (mi b)) (hx:D (a+(dD b a).length)=0):D a=0:=by
 cases b with
 | nil=> simpa [dD] using hx
 | cons s b=> simp only [mi] at h;exact h.left.s
theorem kA {D:Nat→Nat} {nv lo hi a:Nat} {op:Opc} {n:Int} (hs: ∀ i,dC i { op:=op,n:=n }=[i+1]) (ho:cV nv { op:=op,n:=n }) (h1:op.pops≤D a) (h2:D (a+1)=D a - op.pops+op.puts) (hl:lo≤a) (hh:a+1≤hi):Good D nv lo hi a [{ op:=op,n:=n }]:=
 .one ho h1 fun j hj=> by rw [hs] at hj;simp at hj;subst hj;exact ⟨by omega,hh,h2⟩
mutual
theorem KE (D:Nat→Nat) (nv:Nat): ∀ (s:Sm) (a lo hi:Nat),gp nv s→Fit D a (dY s)→D (a+(db s a).length)=0→lo≤a→a+(db s a).length≤hi→Good D nv lo hi a (db s a)
 | .assign i e,a,lo,hi,ho,hf,hx,hl,hh=> by
  simp only [db,dY,gp,List.length_append,List.length_cons,List.length_nil] at*
  have h1:=hf.right.hd
  rw [bz e 0 a] at h1
  exact (gL D nv e 0 a lo hi ho.2 hf.left h1 hl ab).app (kA (fun _=> rfl) (by simp only [cV];omega) (by rw [h1];exact Nat.le_refl _) (by rw [Nat.add_assoc,hx,h1];rfl) ab ab) rfl
 | .send t k x y,a,lo,hi,ho,hf,hx,hl,hh=> by
  simp only [db,dY,gp,List.length_append,List.length_cons,List.length_nil] at*
  have f1:=hf.left.left.left
  have f2:=hf.left.left.right
  have f3:=hf.left.right
  have f4:=hf.right
  simp only [List.length_append,bz t 0 a,bz x 1 (a+(bk t a).length),bz y 2 (a+((bk t a).length+(bk x (a+(bk t a).length)).length))] at f2 f3 f4
  have e2:=f2.e;have e3:=f3.e;have e4:=f4.hd
  have g1:=gL D nv t 0 a lo hi ho.2.1 f1 e2 hl ab
  have g2:=gL D nv x 1 _ lo hi ho.2.2.1 f2 (by rw [Nat.add_assoc];exact e3) ab ab
  have g3:=gL D nv y 2 _ lo hi ho.2.2.2 f3 (by rw [Nat.add_assoc];exact e4) ab ab
  exact ((g1.app g2 rfl).app g3 (by rw [List.length_append])).app (kA (fun _=> rfl) (by simp only [cV];omega) (by rw [e4];exact Nat.le_refl _) (by rw [Nat.add_assoc,hx,e4];rfl) ab ab) (by simp only [List.length_append])
 | .timer k,a,lo,hi,ho,hf,hx,hl,hh=> by
  simp only [db,dY,gp,List.length_cons,List.length_nil] at*
  have:=hf.hd
  exact kA (fun _=> rfl) (by simp only [cV];omega) (Nat.zero_le _) (by rw [show a+1=a+(0+1) from rfl,hx,this];rfl) hl hh
 | .cancel k,a,lo,hi,ho,hf,hx,hl,hh=> by
  simp only [db,dY,gp,List.length_cons,List.length_nil] at*
  have:=hf.hd
  exact kA (fun _=> rfl) (by simp only [cV];omega) (Nat.zero_le _) (by rw [show a+1=a+(0+1) from rfl,hx,this];rfl) hl hh
 | .sync,a,lo,hi,ho,hf,hx,hl,hh=> by
  simp only [db,dY,gp,List.length_cons,List.length_nil] at*
  have:=hf.hd
  exact kA (fun _=> rfl) (by simp [cV]) (Nat.zero_le _) (by rw [show a+1=a+(0+1) from rfl,hx,this];rfl) hl hh
 | .stop,a,lo,hi,ho,hf,hx,hl,hh=> by
  simp only [db]
  exact .one (by simp [cV]) (Nat.zero_le _) fun j hj=> by simp [dC] at hj
 | .reply x y,a,lo,hi,ho,hf,hx,hl,hh=> by
  simp only [db,dY,gp,List.length_append,List.length_cons,List.length_nil] at*
  have f1:=hf.left.left
  have f2:=hf.left.right
  have f3:=hf.right
  simp only [List.length_append,bz x 0 a,bz y 1 (a+(bk x a).length)] at f2 f3
  have e2:=f2.e;have e3:=f3.hd
  have g1:=gL D nv x 0 a lo hi ho.1 f1 e2 hl ab
  have g2:=gL D nv y 1 _ lo hi ho.2 f2 (by rw [Nat.add_assoc];exact e3) ab ab
  exact (g1.app g2 rfl).app (kA (fun _=> rfl) (by simp [cV]) (by rw [e3];exact Nat.le_refl _) (by rw [Nat.add_assoc,hx,e3];rfl) ab ab) (by simp only [List.length_append])
 | .fail e,a,lo,hi,ho,hf,hx,hl,hh=> by
  simp only [db,dY,gp,List.length_append,List.length_cons,List.length_nil] at*
  have h1:=hf.right.hd
  rw [bz e 0 a] at h1
  exact (gL D nv e 0 a lo hi ho hf.left h1 hl ab).app (kA (fun _=> rfl) (by simp [cV]) (by rw [h1];exact Nat.le_refl _) (by rw [Nat.add_assoc,hx,h1];rfl) ab ab) rfl
 | .loop c b,a,lo,hi,ho,hf,hx,hl,hh=> by
  simp only [db,dY,gp,List.length_append,List.length_cons,List.length_nil] at*
  have f1:=hf.left.left.left
  have f2:=hf.left.left.right
  have f3:=hf.left.right
  have f4:=hf.right
  have e1:=f1.e
  simp only [List.length_append,List.length_cons,List.length_nil,bz c 0 a,gx b (a+(bk c a).length+1)] at f2 f3 f4
  have e2:=f2.hd;have e4:=f4.hd
  generalize hc:bk c a=x at*
  rw [show a+(x.length+(0+1))=a+x.length+1 by omega] at f3
  have e3:=f3.b (by rw [← e4];congr 1;omega)
  have g1:=gL D nv c 0 a lo hi ho.1 f1 (by rw [hc];exact e2) hl (by rw [hc];omega)
  have g3:=vd D nv b (a+x.length+1) lo hi ho.2 f3 (by rw [← e4];congr 1;omega) ab ab
  generalize hz:dD b (a+x.length+1)=z at*
  rw [hc] at g1
  refine ((g1.app (.one (by simp [cV];omega) (by rw [e2];exact Nat.le_refl _) fun j hj=> ?_) rfl).app g3 (by simp;omega)).app (p:=a+x.length+1+z.length) (.one (by simp [cV]) (Nat.zero_le _) fun j hj=> ?_) (by simp;omega)
  ·rcases succs_unless.1 hj with rfl | rfl
   ·exact ⟨by omega,by omega,by rw [e3,e2];rfl⟩
   exact ⟨by omega,by omega,by rw [show a+x.length+z.length+2=a+(x.length+(0+1)+z.length+(0+1)) by omega,hx,e2];rfl⟩
  obtain rfl:=succs_jump.1 hj
  exact ⟨by omega,by omega,by rw [e1,show j+x.length+1+z.length=j+(x.length+(0+1)+z.length) by omega,e4];rfl⟩
 | .ite c u v,a,lo,hi,ho,hf,hx,hl,hh=> by
  simp only [db,dY,gp,List.length_append,List.length_cons,List.length_nil] at*
  have f1:=hf.left.left.left.left
  have f2:=hf.left.left.left.right
  have f3:=hf.left.left.right
  have f4:=hf.left.right
  have f5:=hf.right
  simp only [List.length_append,List.length_cons,List.length_nil,bz c 0 a,gx u (a+(bk c a).length+1)] at f2 f3 f4 f5
  have e2:=f2.hd;have e4:=f4.hd
  generalize hc:bk c a=x at*
  rw [show a+(x.length+(0+1))=a+x.length+1 by omega] at f3
  have e3:=f3.b (by rw [← e4];congr 1;omega)
  have g1:=gL D nv c 0 a lo hi ho.1 f1 (by rw [hc];exact e2) hl (by rw [hc];omega)
  have g3:=vd D nv u (a+x.length+1) lo hi ho.2.1 f3 (by rw [← e4];congr 1;omega) ab ab
  generalize hz:dD u (a+x.length+1)=z at*
  rw [show a+(x.length+(0+1)+z.length+(0+1))=a+x.length+1+z.length+1 by omega] at f5
  have e5:=f5.b (by rw [← hx];congr 1;omega)
  have g5:=vd D nv v (a+x.length+1+z.length+1) lo hi ho.2.2 f5 (by rw [← hx];congr 1;omega) ab ab
  generalize hy:dD v (a+x.length+1+z.length+1)=y at*
  rw [hc] at g1
  refine (((g1.app (.one (by simp [cV];omega) (by rw [e2];exact Nat.le_refl _) fun j hj=> ?_) rfl).app g3 (by simp;omega)).app (p:=a+x.length+1+z.length) (.one (by simp [cV];omega) (Nat.zero_le _) fun j hj=> ?_) (by simp;omega)).app g5 (by simp;omega)
  ·rcases succs_unless.1 hj with rfl | rfl
   ·exact ⟨by omega,by omega,by rw [e3,e2];rfl⟩
   exact ⟨by omega,by omega,by rw [e5,e2];rfl⟩
  obtain rfl:=succs_jump.1 hj
  exact ⟨by omega,by omega,by rw [show a+x.length+1+z.length+1+y.length=a+(x.length+(0+1)+z.length+(0+1)+y.length) by omega,hx,show a+x.length+1+z.length=a+(x.length+(0+1)+z.length) by omega,e4];rfl⟩
theorem vd (D:Nat→Nat) (nv:Nat): ∀ (b:Bk) (a lo hi:Nat),lc nv b→Fit D a (mi b)→D (a+(dD b a).length)=0→lo≤a→a+(dD b a).length≤hi→Good D nv lo hi a (dD b a)
 | .nil,a,lo,hi,ho,hf,hx,hl,hh=> by simp only [dD];exact .nil
 | .cons s b,a,lo,hi,ho,hf,hx,hl,hh=> by
  simp only [dD,mi,lc,List.length_append] at*
  have f1:=hf.left
  have f2:=hf.right
  rw [vX s a] at f2
  have e2:=f2.b (by rw [Nat.add_assoc];exact hx)
  exact (KE D nv s a lo hi ho.1 f1 e2 hl ab).app (vd D nv b _ lo hi ho.2 f2 (by rw [Nat.add_assoc];exact hx) ab ab) rfl
end
end Go.Proofs.YtmjnackchaahbaaGreat

set_option maxHeartbeats 2000000
namespace Go.Proofs.YtmjnackchaahbaaGreat

def bG:List (Nat×Bk)→Nat→List eD
 | [],_=> []
 | (_,b)::l,a=> dD b a++[{ op:= .stop }]++bG l (a+(dD b a).length+1)
def mj:List (Nat×Bk)→List Nat
 | []=> []
 | (_,b)::l=> mi b++[0]++mj l
def jU:List (Nat×Bk)→Nat→List (Nat×Nat)
 | [],_=> []
 | (h,b)::l,a=> (h,a)::jU l (a+(dD b a).length+1)
theorem qR: ∀ (l:List (Nat×Bk)) (a:Nat),(mj l).length=(bG l a).length
 | [],_=> rfl
 | (h,b)::l,a=> by simp [mj,bG,gx b a,qR l (a+(dD b a).length+1)]
theorem Ek (D:Nat→Nat) (nv:Nat): ∀ (l:List (Nat×Bk)) (a lo hi:Nat),(∀ p∈l,lc nv p.2)→Fit D a (mj l)→lo≤a→a+(bG l a).length≤hi+1→Good D nv lo hi a (bG l a)
 | [],a,lo,hi,ho,hf,hl,hh=> .nil
 | (h,b)::l,a,lo,hi,ho,hf,hl,hh=> by
  simp only [bG,mj,List.length_append,List.length_cons,List.length_nil] at*
  have f1:=hf.left.left
  have f2:=hf.left.right
  have f3:=hf.right
  simp only [List.length_append,List.length_cons,List.length_nil,gx b a] at f2 f3
  have e2:=f2.hd
  refine ((vd D nv b a lo hi (ho (h,b) (by simp)) f1 e2 hl ab).app (.one (by simp [cV]) (Nat.zero_le _) fun j hj=> by simp [dC] at hj) rfl).app (Ek D nv l _ lo hi (fun p hp=> ho p (by simp [hp])) (by rw [show a+(dD b a).length+1=a+((dD b a).length+(0+1)) by omega];exact f3) ab ab) (by simp;omega)
theorem yH {D:Nat→Nat}: ∀ {l:List (Nat×Bk)} {a:Nat},Fit D a (mj l)→ ∀ {h e:Nat},(h,e)∈jU l a→a≤e∧e < a+(bG l a).length∧D e=0
 | [],_,_,_,_,hm=> by simp [jU] at hm
 | (k,b)::l,a,hf,h,e,hm=> by
  simp only [bG,mj,jU,List.length_append,List.length_cons,List.length_nil] at*
  have f1:=hf.left.left
  have f2:=hf.left.right
  have f3:=hf.right
  simp only [List.length_append,List.length_cons,List.length_nil,gx b a] at f2 f3
  rcases List.mem_cons.1 hm with hm | hm
  ·obtain ⟨rfl,rfl⟩:=Prod.mk.inj hm
   exact ⟨Nat.le_refl _,by omega,f1.b f2.hd⟩
  obtain ⟨h1,h2,h3⟩:=yH (l:=l) (a:=a+(dD b a).length+1) (by rw [show a+(dD b a).length+1=a+((dD b a).length+(0+1)) by omega];exact f3) hm
  exact ⟨by omega,by omega,h3⟩

def lf (n:Int):Int:=max (-2147483647) (min n 2147483647)
def Rg (v:Int):Prop:= -2147483647≤v∧v≤2147483647
theorem oK (n:Int):Rg (lf n):=by unfold Rg lf;omega
theorem tJ {n:Int} (h:Rg n):lf n=n:=by unfold Rg at h;unfold lf;omega
structure Ac where
 k:Int
 a:Int:=0
 b:Int:=0
 c:Int:=0
 d:Int:=0
 deriving DecidableEq
structure Cx where
 code:List eD
 dur:Nat
 names:List Int
 ans:List Int
structure Ms where
 vars:List Int
 acts:List Ac:=[]
 steps:Nat:=0
 stack:List Int:=[]
 pc:Nat
 asked:List Int:=[]
 fin:Bool:=false
 cov:List Nat:=[]
def Ms.top (s:Ms) (k:Nat):Int:=s.stack.getD (s.stack.length - 1 - k) 0
def Ms.pop (s:Ms) (k:Nat):List Int:=s.stack.take (s.stack.length - k)
def ee (l:List Int) (i:Nat) (k:Int):Int:=l.getD i 0 % k
def bQ (l:List Ac):Nat:=l.countP fun a=> decide (a.k=3)
def flag (b:Bool):Int:=if b then 1 else 0
def eK:Opc→Int→Int→Int
 | .add,y,x=> lf (y+x)
 | .sub,y,x=> lf (y - x)
 | .mul,y,x=> lf (y*x)
 | .div,y,x=> if x=0 then 0 else lf (y.tdiv x)
 | .lt,y,x=> flag (decide (y < x))
 | .le,y,x=> flag (decide (y≤x))
 | _,y,x=> flag (decide (y=x))
def bS (K:Cx) (x:eD) (s:Ms):Ms:=match x.op with
 | .push=> { s with stack:=s.stack++[lf x.n] }
 | .var=> { s with stack:=s.stack++[lf (s.vars.getD x.n.toNat 0)] }
 | .setVar=> { s with vars:=s.vars.set x.n.toNat (s.top 0),stack:=s.pop 1,acts:=if x.n < K.dur then s.acts++[{ k:=1,a:=x.n,b:=s.top 0 }] else s.acts }
 | .name=> { s with stack:=s.stack++[lf (K.names.getD x.n.toNat 0)] }
 | .draw=>
  if max 1 (min (s.top 0) 4)=1 then { s with stack:=s.pop 1++[0] }
  else { s with stack:=s.pop 1++[ee K.ans s.asked.length (max 1 (min (s.top 0) 4))],asked:=s.asked++[max 1 (min (s.top 0) 4)] }
 | .neg=> { s with stack:=s.pop 1++[lf (-(s.top 0))] }
 | .not=> { s with stack:=s.pop 1++[flag (decide (s.top 0=0))] }
 | .jump=> { s with pc:=x.n.toNat }
 | .unl=> { s with stack:=s.pop 1,pc:=if s.top 0=0 then x.n.toNat else s.pc }
 | .send=> { s with stack:=s.pop 3,acts:=if 0≤s.top 2∧s.top 2 < K.names.getD 1 0∧bQ s.acts < 20 then s.acts++[{ k:=3,a:=s.top 2,b:=x.n,c:=s.top 1,d:=s.top 0 }] else s.acts }
 | .timer=> { s with acts:=s.acts++[{ k:=4,a:=x.n }] }
 | .cancel=> { s with acts:=s.acts++[{ k:=5,a:=x.n }] }
 | .sync=> { s with acts:=s.acts++[{ k:=2 }] }
 | .reply=> { s with stack:=s.pop 2,acts:=s.acts++[{ k:=6,a:=s.top 1,b:=s.top 0 }] }
 | .fail=> { s with stack:=s.pop 1,acts:=s.acts++[{ k:=7,a:=s.top 0 }] }
 | .stop=> { s with fin:=true }
 | o=> { s with stack:=s.pop 2++[eK o (s.top 1) (s.top 0)] }
def gD (K:Cx) (s:Ms):Ms:=bS K (K.code.getD s.pc { op:= .stop }) { s with pc:=s.pc+1,steps:=s.steps+1,cov:=s.cov++[s.pc] }
def ju (K:Cx):Nat→Ms→Ms
 | 0,s=> s
 | k+1,s=> if s.fin=true then s else ju K k (gD K s)
theorem iB {K:Cx} {I:Ms→Prop} (h: ∀ s,I s→s.fin=false→I (gD K s)): ∀ k s,I s→I (ju K k s)
 | 0,_,hs=> hs
 | k+1,s,hs=> by
  unfold ju
  split
  ·exact hs
  rename_i hf;exact iB h k _ (h s hs (by simpa using hf))
theorem xb {K:Cx} {x:eD} {s:Ms}:(bS K x s).steps=s.steps∧(bS K x s).cov=s.cov:=by
 unfold bS
 cases x.op <;> first | exact ⟨rfl,rfl⟩ | (simp only;split <;> exact ⟨rfl,rfl⟩)
theorem stepM_steps {K:Cx} {s:Ms}:(gD K s).steps=s.steps+1∧(gD K s).cov=s.cov++[s.pc]:=by
 unfold gD
 obtain ⟨h1,h2⟩:=xb (K:=K) (x:=K.code.getD s.pc { op:= .stop }) (s:={ s with pc:=s.pc+1,steps:=s.steps+1,cov:=s.cov++[s.pc] })
 exact ⟨h1,h2⟩
theorem bE (s:Ms) (k:Nat):(s.pop k).length=s.stack.length - k:=by simp [Ms.pop]
theorem Bu {K:Cx} {x:eD} {s:Ms} (h:x.op.pops≤s.stack.length):(bS K x s).stack.length=s.stack.length - x.op.pops+x.op.puts:=by
 unfold bS
 generalize x.op=o at h ⊢
 cases o <;> simp only [Opc.pops,Opc.puts] at h ⊢ <;> (try split) <;> first | rfl | (simp only [List.length_append,bE,List.length_cons,List.length_nil];done) | (simp only [List.length_append,bE,List.length_cons,List.length_nil];omega)
theorem GX {K:Cx} {x:eD} {s:Ms} {i:Nat} (hp:s.pc=i+1) (hf:(bS K x s).fin=false):(bS K x s).pc∈dC i x:=by
 unfold bS at hf ⊢
 unfold dC
 cases ho:x.op <;> simp only [ho] at hf ⊢ <;> first | (simp at hf;done) | (rw [hp];exact List.mem_cons_self) | exact List.mem_cons_self | (split <;> simp [hp])
end Go.Proofs.YtmjnackchaahbaaGreat

set_option maxHeartbeats 2000000
namespace Go.Proofs.YtmjnackchaahbaaGreat

structure PG (K:Cx) (D:Nat→Nat) (nv:Nat):Prop where
 good:Good D nv 0 (K.code.length - 1) 0 K.code
 nv:nv≤16
 nm: ∀ i,Rg (K.names.getD i 0)
theorem oT:Rg 0:=by unfold Rg;omega
theorem ud {n:Int} (h:0≤n∧n < 1000):Rg n:=by unfold Rg;omega
def Fh (K:Cx) (nv:Nat) (a:Ac):Prop:=(Rg a.a∧Rg a.b∧Rg a.c∧Rg a.d)∧(a.k=3→0≤a.a∧a.a < K.names.getD 1 0)∧(a.k=1→0≤a.a∧a.a < K.dur∧a.a < nv)
structure IV (K:Cx) (nv:Nat) (s:Ms):Prop where
 vl:s.vars.length=nv
 rv: ∀ v∈s.vars,Rg v
 rs: ∀ v∈s.stack,Rg v
 ac: ∀ a∈s.acts,Fh K nv a
 sn:bQ s.acts≤20
 ar: ∀ k∈s.asked,2≤k∧k≤4
theorem nc {l:List Int} (h: ∀ v∈l,Rg v) (i:Nat):Rg (l.getD i 0):=by
 by_cases hi:i < l.length
 ·rw [List.getD_eq_getElem?_getD,List.getElem?_eq_getElem hi];exact h _ (List.getElem_mem hi)
 rw [List.getD_eq_getElem?_getD,List.getElem?_eq_none ab];exact oT
theorem tC {s:Ms} (h: ∀ v∈s.stack,Rg v) (k:Nat):Rg (s.top k):=nc h _
theorem Jm {s:Ms} (h: ∀ v∈s.stack,Rg v) (k:Nat): ∀ v∈s.pop k,Rg v:=fun v hv=> h v (List.mem_of_mem_take hv)
theorem lQ {l:List Int} {n:Int} (h: ∀ v∈l,Rg v) (hn:Rg n): ∀ v∈l++[n],Rg v:=fun v hv=> by
 rcases List.mem_append.1 hv with hv | hv
 ·exact h v hv
 simp at hv;subst hv;exact hn
theorem yK (b:Bool):Rg (flag b):=by unfold flag Rg;split <;> omega
theorem Fo (o:Opc) (y x:Int):Rg (eK o y x):=by
 unfold eK
 split <;> first | exact oK _ | exact yK _ | (split <;> first | exact oT | exact oK _)
theorem FT {l:List Int} {i:Nat} {k:Int} (h:2≤k∧k≤4):Rg (ee l i k)∧0≤ee l i k∧ee l i k < k:=by
 unfold ee
 have h1:=Int.emod_nonneg (l.getD i 0) (show k≠0 by omega)
 have h2:=Int.emod_lt_of_pos (l.getD i 0) (show 0 < k by omega)
 exact ⟨by unfold Rg;omega,h1,h2⟩
theorem jm {K:Cx} {nv:Nat} {l:List Ac} {a:Ac} (h: ∀ a∈l,Fh K nv a) (ha:Fh K nv a): ∀ b∈l++[a],Fh K nv b:=fun b hb=> by
 rcases List.mem_append.1 hb with hb | hb
 ·exact h b hb
 simp at hb;subst hb;exact ha
theorem kk {l:List Ac} {a:Ac} (h:a.k≠3):bQ (l++[a])=bQ l:=by
 unfold bQ
 rw [List.countP_append]
 simp [h]
theorem Aa {l:List Ac} {a:Ac} (h:a.k=3):bQ (l++[a])=bQ l+1:=by
 unfold bQ
 rw [List.countP_append]
 simp [h]
theorem qq {l:List Int} {i:Nat} {n:Int} (h: ∀ v∈l,Rg v) (hn:Rg n): ∀ v∈l.set i n,Rg v:=fun v hv=> by
 rcases List.mem_or_eq_of_mem_set hv with hv | rfl
 ·exact h v hv
 exact hn
theorem FQ {K:Cx} {D:Nat→Nat} {nv:Nat} (hK:PG K D nv) {x:eD} (hx:cV nv x) {s:Ms} (h:IV K nv s):IV K nv (bS K x s):=by
 have hnv:=hK.nv
 have ht:=tC h.rs
 have hp:=Jm h.rs
 unfold bS
 unfold cV at hx
 cases ho:x.op <;> simp only [ho] at hx ⊢
 case push=> exact ⟨h.vl,h.rv,lQ h.rs (oK _),h.ac,h.sn,h.ar⟩
 case var=> exact ⟨h.vl,h.rv,lQ h.rs (oK _),h.ac,h.sn,h.ar⟩
 case name=> exact ⟨h.vl,h.rv,lQ h.rs (oK _),h.ac,h.sn,h.ar⟩
 case setVar=>
  refine ⟨by rw [List.length_set];exact h.vl,qq h.rv (ht 0),hp 1,?_,?_,h.ar⟩
  ·split
   ·rename_i hd
    exact jm h.ac ⟨⟨ud (n:=x.n) ⟨hx.1,by omega⟩,ht 0,oT,oT⟩,fun e=> by simp at e,fun _=> ⟨hx.1,hd,hx.2⟩⟩
   exact h.ac
  split
  ·rw [kk (by simp)];exact h.sn
  exact h.sn
 case draw=>
  split
  ·exact ⟨h.vl,h.rv,lQ (hp 1) oT,h.ac,h.sn,h.ar⟩
  rename_i hk
  have hk2:2≤max 1 (min (s.top 0) 4)∧max 1 (min (s.top 0) 4)≤4:=by omega
  refine ⟨h.vl,h.rv,lQ (hp 1) (FT hk2).1,h.ac,h.sn,fun k hk=> ?_⟩
  rcases List.mem_append.1 hk with hk | hk
  ·exact h.ar k hk
  simp only [List.mem_singleton] at hk;subst hk;exact hk2
 case neg=> exact ⟨h.vl,h.rv,lQ (hp 1) (oK _),h.ac,h.sn,h.ar⟩
 case not=> exact ⟨h.vl,h.rv,lQ (hp 1) (yK _),h.ac,h.sn,h.ar⟩
 case jump=> exact ⟨h.vl,h.rv,h.rs,h.ac,h.sn,h.ar⟩
 case unl=> exact ⟨h.vl,h.rv,hp 1,h.ac,h.sn,h.ar⟩
 case send=>
  refine ⟨h.vl,h.rv,hp 3,?_,?_,h.ar⟩
  ·split
   ·rename_i hc
    exact jm h.ac ⟨⟨ht 2,ud (n:=x.n) ⟨hx.1,by omega⟩,ht 1,ht 0⟩,fun _=> ⟨hc.1,hc.2.1⟩,fun e=> by simp at e⟩
   exact h.ac
  split
  ·rename_i hc
   rw [Aa rfl];omega
  exact h.sn
 case timer=> exact ⟨h.vl,h.rv,h.rs,jm h.ac ⟨⟨ud (n:=x.n) ⟨hx.1,by omega⟩,oT,oT,oT⟩,fun e=> by simp at e,fun e=> by simp at e⟩,by rw [kk (by simp)];exact h.sn,h.ar⟩
 case cancel=> exact ⟨h.vl,h.rv,h.rs,jm h.ac ⟨⟨ud (n:=x.n) ⟨hx.1,by omega⟩,oT,oT,oT⟩,fun e=> by simp at e,fun e=> by simp at e⟩,by rw [kk (by simp)];exact h.sn,h.ar⟩
 case sync=> exact ⟨h.vl,h.rv,h.rs,jm h.ac ⟨⟨oT,oT,oT,oT⟩,fun e=> by simp at e,fun e=> by simp at e⟩,by rw [kk (by simp)];exact h.sn,h.ar⟩
 case reply=> exact ⟨h.vl,h.rv,hp 2,jm h.ac ⟨⟨ht 1,ht 0,oT,oT⟩,fun e=> by simp at e,fun e=> by simp at e⟩,by rw [kk (by simp)];exact h.sn,h.ar⟩
 case fail=> exact ⟨h.vl,h.rv,hp 1,jm h.ac ⟨⟨ht 0,oT,oT,oT⟩,fun e=> by simp at e,fun e=> by simp at e⟩,by rw [kk (by simp)];exact h.sn,h.ar⟩
 case stop=> exact ⟨h.vl,h.rv,h.rs,h.ac,h.sn,h.ar⟩
 all_goals exact ⟨h.vl,h.rv,lQ (hp 2) (Fo _ _ _),h.ac,h.sn,h.ar⟩
structure At (K:Cx) (D:Nat→Nat) (nv:Nat) (s:Ms):Prop where
 iv:IV K nv s
 go:s.fin=false→s.pc < K.code.length∧s.stack.length=D s.pc
 cl: ∀ i∈s.cov,i < K.code.length
 cn:s.cov.length=s.steps
 fn:s.fin=true→ ∃ i∈s.cov,∃ x,K.code[i]? =some x∧x.op= .stop
theorem Ei {K:Cx} {x:eD} {s:Ms} (hs:s.fin=false) (h:(bS K x s).fin=true):x.op= .stop:=by
 unfold bS at h
 cases ho:x.op <;> simp only [ho] at h <;> first | rfl | (rw [hs] at h;cases h) | (split at h <;> (rw [hs] at h;cases h))
theorem pU {K:Cx} {D:Nat→Nat} {nv:Nat} (hK:PG K D nv) {s:Ms} (h:At K D nv s) (hf:s.fin=false):At K D nv (gD K s):=by
 obtain ⟨hp,hd⟩:=h.go hf
 obtain ⟨x,hx⟩: ∃ x,K.code[s.pc]? =some x:=⟨_,List.getElem?_eq_getElem hp⟩
 have hg:K.code.getD s.pc { op:= .stop }=x:=by rw [List.getD_eq_getElem?_getD,hx];rfl
 obtain ⟨g1,g2,g3⟩:=hK.good s.pc x hx
 rw [Nat.zero_add] at g2 g3
 obtain ⟨e1,e2⟩:=stepM_steps (K:=K) (s:=s)
 have hdef:gD K s=bS K x { s with pc:=s.pc+1,steps:=s.steps+1,cov:=s.cov++[s.pc] }:=by unfold gD;rw [hg]
 refine ⟨?_,fun hn=> ?_,?_,?_,fun hn=> ?_⟩
 ·rw [hdef]
  exact FQ hK g1 ⟨h.iv.vl,h.iv.rv,h.iv.rs,h.iv.ac,h.iv.sn,h.iv.ar⟩
 ·rw [hdef] at hn ⊢
  have hpc:=GX (K:=K) (x:=x) (s:={ s with pc:=s.pc+1,steps:=s.steps+1,cov:=s.cov++[s.pc] }) (i:=s.pc) rfl hn
  obtain ⟨_,j2,j3⟩:=g3 _ hpc
  refine ⟨by omega,?_⟩
  rw [Bu (by simp only;rw [hd];exact g2),j3]
  simp only
  rw [hd]
 ·rw [e2]
  intro i hi
  rcases List.mem_append.1 hi with hi | hi
  ·exact h.cl i hi
  simp at hi;subst hi;exact hp
 ·rw [e2,e1,List.length_append,h.cn];rfl
 rw [hdef] at hn
 have hs:=Ei (s:={ s with pc:=s.pc+1,steps:=s.steps+1,cov:=s.cov++[s.pc] }) hf hn
 rw [e2]
 exact ⟨s.pc,by simp,x,hx,hs⟩
theorem Jj {K:Cx} {D:Nat→Nat} {nv:Nat} (hK:PG K D nv) {s:Ms} (h:At K D nv s) (k:Nat):At K D nv (ju K k s):=iB (fun s hs hf=> pU hK hs hf) k s h
theorem kr {K:Cx}: ∀ (k:Nat) (s:Ms),(ju K k s).steps≤s.steps+k∧((ju K k s).fin=false→(ju K k s).steps=s.steps+k)
 | 0,s=> ⟨Nat.le_refl _,fun _=> rfl⟩
 | k+1,s=> by
  unfold ju
  split
  ·rename_i hf;exact ⟨by omega,fun h=> by rw [hf] at h;cases h⟩
  obtain ⟨h1,h2⟩:=kr (K:=K) k (gD K s)
  rw [stepM_steps.1] at h1 h2
  exact ⟨by omega,fun h=> by have:=h2 h;omega⟩
def cR (vars:List Int) (e:Nat):Ms:={ vars:=vars,pc:=e }
theorem qC {K:Cx} {D:Nat→Nat} {nv:Nat} {vars:List Int} {e:Nat} (hl:vars.length=nv) (hr: ∀ v∈vars,Rg v) (he:e < K.code.length) (hd:D e=0):At K D nv (cR vars e):=
 ⟨⟨hl,hr,fun v hv=> by simp [cR] at hv,fun a ha=> by simp [cR] at ha,by simp [cR,bQ],fun k hk=> by simp [cR] at hk⟩,fun _=> ⟨he,hd.symm⟩,fun i hi=> by simp [cR] at hi,rfl,fun h=> by simp [cR] at h⟩
def wp (l:List Int) (al:List Ac):List Int:=al.foldl (fun m a=> if a.k=1 then m.set a.a.toNat a.b else m) l
theorem yB (l:List Int) (al:List Ac) (a:Ac):wp l (al++[a])=if a.k=1 then (wp l al).set a.a.toNat a.b else wp l al:=by simp [wp,List.foldl_append]
theorem yE {l:List Int} {al:List Ac} {a:Ac} (h:a.k≠1):wp l (al++[a])=wp l al:=by rw [yB,if_neg h]
theorem Be {K:Cx} {nv:Nat} {x:eD} (hx:cV nv x) {v0:List Int} {s:Ms} (h:s.vars.take K.dur=wp v0 s.acts):(bS K x s).vars.take K.dur=wp v0 (bS K x s).acts:=by
 unfold bS
 unfold cV at hx
 cases ho:x.op <;> simp only [ho] at hx ⊢ <;> try first | exact h | (rw [yE (by simp)];exact h)
 ·split
  ·rename_i hd
   rw [yB,if_pos rfl,← h,List.take_set]
  rename_i hd
  rw [← h,List.take_set_of_le ab]
 ·split <;> exact h
 split
 ·rw [yE (by simp)];exact h
 exact h
theorem FR {K:Cx} {D:Nat→Nat} {nv:Nat} (hK:PG K D nv) {vars:List Int} {e:Nat} (hs:At K D nv (cR vars e)) (k:Nat):(ju K k (cR vars e)).vars.take K.dur=wp (vars.take K.dur) (ju K k (cR vars e)).acts:=by
 have:=iB (K:=K) (I:=fun s=> At K D nv s∧s.vars.take K.dur=wp (vars.take K.dur) s.acts) (fun s hI hf=> ?_) k (cR vars e) ⟨hs,rfl⟩
 ·exact this.2
 refine ⟨pU hK hI.1 hf,?_⟩
 obtain ⟨hp,_⟩:=hI.1.go hf
 have hx:K.code[s.pc]? =some K.code[s.pc]:=List.getElem?_eq_getElem hp
 have hg:K.code.getD s.pc { op:= .stop }=K.code[s.pc]:=by rw [List.getD_eq_getElem?_getD,hx];rfl
 obtain ⟨g1,_,_⟩:=hK.good s.pc _ hx
 unfold gD
 rw [hg]
 exact Be g1 hI.2
end Go.Proofs.YtmjnackchaahbaaGreat

set_option maxHeartbeats 2000000
namespace Go.Proofs.YtmjnackchaahbaaGreat

def shift (d:Nat) (x:eD):eD:=match x.op with
 | .jump=> { x with n:=x.n+d }
 | .unl=> { x with n:=x.n+d }
 | _=> x
end Go.Proofs.YtmjnackchaahbaaGreat

set_option maxHeartbeats 2000000
namespace Go.Proofs.YtmjnackchaahbaaGreat
open Go.RowKit

abbrev Tx:=List UInt8
structure Tk where
 k:Nat
 a:Nat
 t:Tx
 n:Nat:=0
def oe (c:UInt8):Bool:=Nat.ble 97 c.toNat && Nat.ble c.toNat 122
def gq (c:UInt8):Bool:=Nat.ble 48 c.toNat && Nat.ble c.toNat 57
def ut:Tx→Bool→Nat
 | [],_=> 0
 | x::l,true=> if x.toNat=10 then 1+ut l false else 1+ut l true
 | x::l,false=> if x.toNat=35 then 1+ut l true else if x.toNat=32∨x.toNat=9∨x.toNat=10 then 1+ut l false else 0
def ld (l:Tx):Nat:=l.foldl (fun n c=> 10*n+(c.toNat - 48)) 0
def GB:List Tx:=[[124,124],[38,38],[60,61],[62,61],[61,61],[33,61]]
def JN:List Tx:=[[123],[125],[91],[93],[40],[41],[61],[59],[44],[60],[62],[43],[45],[42],[47],[33]]
def rH (s:Tx) (a:Nat):Option Tk:=match s with
 | []=> none
 | c::l=>
  if oe c then (if 10 < (c::l.takeWhile fun x=> oe x || gq x).length then none else some ⟨1,a,c::l.takeWhile fun x=> oe x || gq x,0⟩)
  else if gq c then (if 2147483647 < ld (c::l.takeWhile gq) then none else some ⟨2,a,c::l.takeWhile gq,ld (c::l.takeWhile gq)⟩)
  else if s.take 2∈GB then some ⟨3,a,s.take 2,0⟩
  else if [c]∈JN then some ⟨3,a,[c],0⟩
  else none
def nF:Nat→Tx→Nat→Option (List Tk)
 | 0,_,_=> none
 | f+1,s,a=>
  if s.length≤a then some [⟨0,s.length,[],0⟩]
  else match rH (s.drop a) a with
   | none=> none
   | some t=> match nF f s (a+t.t.length+ut (s.drop (a+t.t.length)) false) with
    | none=> none
    | some l=> some (t::l)
def Gt (s:Tx):Option (List Tk):=nF (s.length+1) s (ut s false)
structure Nd where
 k:Nat
 n:Nat:=0
 s:Tx:=[]
 kn:Nat:=0
 kids:List PV:=[]
def Nd.row (d:Nd):List PV:=[.v (.int .i64 (d.k:Int)), .v (.int .i64 (d.n:Int)), .v (bt d.s), .sl d.kn d.kids]
def nd (k n:Nat) (s:Tx) (l:List Nd):Nd:=⟨k,n,s,l.length,l.flatMap Nd.row⟩
def bltT:List Tx:=[[115,101,108,102],[110,111,100,101,115],[110,111,119],[102,114,111,109],[97],[98],[105,100],[111,112],[107,101,121]]
def Rl:List Tx:=[[100,117,114,97,98,108,101],[118,111,108,97,116,105,108,101],[111,110],[115,116,97,114,116],[114,101,113,117,101,115,116],[116,105,109,101,114],[109,101,115,115,97,103,101],[105,102],[101,108,115,101],[119,104,105,108,101],[115,101,110,100],[99,97,110,99,101,108],[115,121,110,99],[114,101,112,108,121],[102,97,105,108],[115,116,111,112],[116,114,117,101],[102,97,108,115,101],[100,114,97,119]]
def lX:Tx:=[100,117,114,97,98,108,101]
def mN:Tx:=[118,111,108,97,116,105,108,101]
def Jp:Tx:=[111,110]
def ou:Tx:=[115,116,97,114,116]
def kq:Tx:=[114,101,113,117,101,115,116]
def hY:Tx:=[116,105,109,101,114]
def jW:Tx:=[109,101,115,115,97,103,101]
def wB:Tx:=[105,102]
def tw:Tx:=[101,108,115,101]
def kG:Tx:=[119,104,105,108,101]
def ri:Tx:=[115,101,110,100]
def lV:Tx:=[99,97,110,99,101,108]
def qo:Tx:=[115,121,110,99]
def nr:Tx:=[114,101,112,108,121]
def qK:Tx:=[102,97,105,108]
def qX:Tx:=[115,116,111,112]
def xE:Tx:=[116,114,117,101]
def tW:Tx:=[102,97,108,115,101]
def Eh:Tx:=[100,114,97,119]
def xA (s:Tx):Bool:=decide (s∈bltT) || decide (s∈Rl)
def opsP:List (List Tx):=[[],[[124,124]],[[38,38]],[],[[60],[60,61],[62],[62,61],[61,61],[33,61]],[[43],[45]],[[42],[47]]]
section
variable (T:List Tk)
def cX (i:Nat):Tk:=T.getD i ⟨0,0,[],0⟩
def br (i:Nat):Nat:=if i+1 < T.length then i+1 else i
def et (i:Nat):Bool:=decide ((cX T i).k=1) && !xA (cX T i).t
def gw (s:Tx) (i:Nat):Option Nat:=if (cX T i).t=s then some (br T i) else none
def sw (s:Tx) (lv i:Nat):Option Nat:=if (cX T i).t=s∧20 < lv then none else gw T s i
def pH (most i:Nat):Option (Nat×Nat):=if (cX T i).k=2∧(cX T i).n≤most then some ((cX T i).n,br T i) else none
mutual
def gy:Nat→Nat→Nat→Nat→Option (Nd×Nat)
 | 0,_,_,_=> none
 | f+1,lv,pr,i=>
  if pr=3∧(cX T i).t=[33] then JT f (cX T i).t lv 3 i
  else if pr=3 then zF f lv 4 i
  else if pr=7∧(cX T i).t=[45] then JT f (cX T i).t lv 7 i
  else if pr=7 then wd f lv i
  else zF f lv pr i
def JT:Nat→Tx→Nat→Nat→Nat→Option (Nd×Nat)
 | 0,_,_,_,_=> none
 | f+1,s,lv,pr,i=> do
  let j ← sw T s (lv+1) i
  let (d,j) ← gy f (lv+1) pr j
  return (nd 17 0 s [d],j)
def zF:Nat→Nat→Nat→Nat→Option (Nd×Nat)
 | 0,_,_,_=> none
 | f+1,lv,pr,i=> do
  let (d,j) ← gy f lv (pr+1) i
  nR f lv pr d j
def nR:Nat→Nat→Nat→Nd→Nat→Option (Nd×Nat)
 | 0,_,_,_,_=> none
 | f+1,lv,pr,d,i=>
  if (cX T i).t∈opsP.getD pr [] then do
   let (e,j) ← gy f lv (pr+1) (br T i)
   if pr=4 then return (nd 18 0 (cX T i).t [d,e],j) else nR f lv pr (nd 18 0 (cX T i).t [d,e]) j
  else some (d,i)
def sV:Nat→Nat→Nat→Option (Nd×Nat)
 | 0,_,_=> none
 | f+1,lv,i=> do
  let j ← sw T [40] (lv+1) i
  let (d,j) ← gy f (lv+1) 1 j
  let j ← gw T [41] j
  return (d,j)
def wd:Nat→Nat→Nat→Option (Nd×Nat)
 | 0,_,_=> none
 | f+1,lv,i=>
  let t:=cX T i
  if t.t=[40] then sV f lv i
  else if t.t=Eh then do
   let (d,j) ← sV f lv (br T i)
   return (nd 16 0 [] [d],j)
  else if t.k=2 then some (nd 12 t.n [] [],br T i)
  else if t.t=xE then some (nd 13 1 [] [],br T i)
  else if t.t=tW then some (nd 13 0 [] [],br T i)
  else if t.t∈bltT then some (nd 15 0 t.t [],br T i)
  else if et T i then some (nd 14 0 t.t [],br T i)
  else none
end
mutual
def zc:Nat→Nat→Nat→Option (Nd×Nat)
 | 0,_,_=> none
 | f+1,lv,i=>
  let s:=(cX T i).t
  if et T i then do
   let j ← gw T [61] (br T i)
   let (d,j) ← gy T f lv 1 j
   let j ← gw T [59] j
   return (nd 1 0 s [d],j)
  else if s=wB∨s=kG then do
   let (c,j) ← gy T f lv 1 (br T i)
   let (x,j) ← rI f (lv+1) j
   if s=kG then return (nd 3 0 [] [c,x],j)
   else if (cX T j).t=tw then do
    let (y,j) ← rI f (lv+1) (br T j)
    return (nd 2 0 [] [c,x,y],j)
   else return (nd 2 0 [] [c,x,nd 11 0 [] []],j)
  else if s=ri then do
   let (x,j) ← gy T f lv 1 (br T i)
   let j ← gw T [44] j
   let (k,j) ← pH T 29 j
   let j ← gw T [44] j
   let (y,j) ← gy T f lv 1 j
   let j ← gw T [44] j
   let (z,j) ← gy T f lv 1 j
   let j ← gw T [59] j
   return (nd 4 k [] [x,y,z],j)
  else if s=hY then do
   let (k,j) ← pH T 7 (br T i)
   let j ← gw T [59] j
   return (nd 5 k [] [],j)
  else if s=lV then do
   let (k,j) ← pH T 7 (br T i)
   let j ← gw T [59] j
   return (nd 6 k [] [],j)
  else if s=nr then do
   let (x,j) ← gy T f lv 1 (br T i)
   let j ← gw T [44] j
   let (y,j) ← gy T f lv 1 j
   let j ← gw T [59] j
   return (nd 8 0 [] [x,y],j)
  else if s=qK then do
   let (x,j) ← gy T f lv 1 (br T i)
   let j ← gw T [59] j
   return (nd 9 0 [] [x],j)
  else if s=qo then do
   let j ← gw T [59] (br T i)
   return (nd 7 0 [] [],j)
  else if s=qX then do
   let j ← gw T [59] (br T i)
   return (nd 10 0 [] [],j)
  else none
def rI:Nat→Nat→Nat→Option (Nd×Nat)
 | 0,_,_=> none
 | f+1,lv,i=> do
  let j ← sw T [123] lv i
  let (l,j) ← nw f lv j
  let j ← gw T [125] j
  return (nd 11 0 [] l,j)
def nw:Nat→Nat→Nat→Option (List Nd×Nat)
 | 0,_,_=> none
 | f+1,lv,i=>
  if (cX T i).t=[125] then some ([],i)
  else do
   let (d,j) ← zc f lv i
   let (l,j) ← nw f lv j
   return (d::l,j)
end
def gK:Nat→List Tx→Nat→Option (List Tx×Nat)
 | 0,_,_=> none
 | f+1,seen,i=>
  if et T i=false∨(cX T i).t∈seen∨16≤seen.length then none
  else if (cX T (br T i)).t=[44] then do
   let (l,j) ← gK f (seen++[(cX T i).t]) (br T (br T i))
   return ((cX T i).t::l,j)
  else do
   let j ← gw T [59] (br T i)
   return ([(cX T i).t],j)
def jo:Nat→List Tx→List Tx→Nat→Option (List Tx×List Tx×Nat)
 | 0,_,_,_=> none
 | f+1,d,v,i=>
  if (cX T i).t=lX then do
   let (l,j) ← gK T f (d++v) (br T i)
   jo f (d++l) v j
  else if (cX T i).t=mN then do
   let (l,j) ← gK T f (d++v) (br T i)
   jo f d (v++l) j
  else some (d,v,i)
def yF (i:Nat):Option (Nat×Nat):=
 if (cX T i).t=ou then some (0,br T i)
 else if (cX T i).t=kq then some (1,br T i)
 else if (cX T i).t=hY then do
  let (k,j) ← pH T 7 (br T i)
  return (2+k,j)
 else if (cX T i).t=jW then do
  let (k,j) ← pH T 29 (br T i)
  return (10+k,j)
 else none
def ry (l:List (Nat×Nd)) (h:Nat×Nd):List (Nat×Nd):=l.takeWhile (fun x=> decide (x.1 < h.1))++h::l.dropWhile (fun x=> decide (x.1 < h.1))
def JK:Nat→List (Nat×Nd)→Nat→Option (List (Nat×Nd))
 | 0,_,_=> none
 | f+1,l,i=>
  if (cX T i).k=0 then some l
  else do
   let j ← gw T Jp i
   let (n,j) ← yF T j
   if l.any (fun x=> decide (x.1=n)) then none else
   let (d,j) ← rI T f 1 j
   JK f (ry l (n,d)) j
end
def fX (s:Tx):Option (List Tx×List Tx×List (Nat×Nd)):=do
 let T ← Gt s
 let (d,v,i) ← jo T (3*T.length+10) [] [] 0
 let l ← JK T (10*T.length+10) [] i
 return (d,v,l)

end Go.Proofs.YtmjnackchaahbaaGreat

set_option maxHeartbeats 2000000
namespace Go.Proofs.YtmjnackchaahbaaGreat
open Go.RowKit

def srcs:List Tx:=[[100,117,114,97,98,108,101,32,118,59,32,111,110,32,114,101,113,117,101,115,116,32,123,32,105,102,32,111,112,32,61,61,32,48,32,123,32,114,101,112,108,121,32,105,100,44,32,118,59,32,125,32,101,108,115,101,32,123,32,105,102,32,111,112,32,61,61,32,50,32,123,32,114,101,112,108,121,32,105,100,44,32,118,59,32,118,32,61,32,97,59,32,125,32,101,108,115,101,32,123,32,118,32,61,32,97,59,32,114,101,112,108,121,32,105,100,44,32,48,59,32,125,32,125,32,125],
 [100,117,114,97,98,108,101,32,118,59,32,111,110,32,114,101,113,117,101,115,116,32,123,32,105,102,32,111,112,32,61,61,32,48,32,123,32,114,101,112,108,121,32,105,100,44,32,118,59,32,125,32,101,108,115,101,32,123,32,105,102,32,111,112,32,61,61,32,50,32,123,32,114,101,112,108,121,32,105,100,44,32,118,59,32,118,32,61,32,97,59,32,115,121,110,99,59,32,125,32,101,108,115,101,32,123,32,118,32,61,32,97,59,32,115,121,110,99,59,32,114,101,112,108,121,32,105,100,44,32,48,59,32,125,32,125,32,125],
 [100,117,114,97,98,108,101,32,118,59,32,111,110,32,114,101,113,117,101,115,116,32,123,32,105,102,32,115,101,108,102,32,61,61,32,48,32,123,32,105,102,32,111,112,32,61,61,32,48,32,123,32,114,101,112,108,121,32,105,100,44,32,118,59,32,125,32,101,108,115,101,32,123,32,118,32,61,32,97,59,32,115,121,110,99,59,32,114,101,112,108,121,32,105,100,44,32,48,59,32,125,32,125,32,101,108,115,101,32,123,32,115,101,110,100,32,48,44,32,49,32,44,32,105,100,44,32,48,32,45,32,111,112,59,32,105,102,32,111,112,32,33,61,32,48,32,123,32,115,101,110,100,32,48,44,32,50,44,32,105,100,44,32,97,59,32,125,32,125,32,125,32,111,110,32,109,101,115,115,97,103,101,32,49,32,123,32,105,102,32,98,32,61,61,32,48,32,123,32,115,101,110,100,32,102,114,111,109,44,32,51,44,32,97,44,32,118,59,32,125,32,125,32,111,110,32,109,101,115,115,97,103,101,32,50,32,123,32,118,32,61,32,98,59,32,115,121,110,99,59,32,115,101,110,100,32,102,114,111,109,44,32,51,44,32,97,44,32,48,59,32,125,32,111,110,32,109,101,115,115,97,103,101,32,51,32,123,32,114,101,112,108,121,32,97,44,32,98,59,32,125],
 [118,111,108,97,116,105,108,101,32,118,59,32,111,110,32,114,101,113,117,101,115,116,32,123,32,105,102,32,111,112,32,61,61,32,48,32,123,32,114,101,112,108,121,32,105,100,44,32,118,59,32,125,32,101,108,115,101,32,123,32,118,32,61,32,97,59,32,114,101,112,108,121,32,105,100,44,32,48,59,32,115,101,110,100,32,49,32,45,32,115,101,108,102,44,32,52,44,32,97,44,32,48,59,32,125,32,125,32,111,110,32,109,101,115,115,97,103,101,32,52,32,123,32,118,32,61,32,97,59,32,125],
 [118,111,108,97,116,105,108,101,32,120,44,32,121,59,32,111,110,32,114,101,113,117,101,115,116,32,123,32,105,102,32,111,112,32,61,61,32,51,32,123,32,115,101,110,100,32,49,32,45,32,115,101,108,102,44,32,53,44,32,105,100,44,32,97,59,32,114,101,112,108,121,32,105,100,44,32,48,59,32,125,32,101,108,115,101,32,123,32,114,101,112,108,121,32,105,100,44,32,120,59,32,120,32,61,32,121,59,32,121,32,61,32,48,59,32,125,32,125,32,111,110,32,109,101,115,115,97,103,101,32,53,32,123,32,105,102,32,120,32,61,61,32,48,32,123,32,120,32,61,32,98,59,32,125,32,101,108,115,101,32,123,32,121,32,61,32,98,59,32,125,32,125],
 [118,111,108,97,116,105,108,101,32,116,59,32,111,110,32,115,116,97,114,116,32,123,32,105,102,32,115,101,108,102,32,61,61,32,48,32,123,32,116,32,61,32,49,59,32,115,101,110,100,32,110,111,100,101,115,32,45,32,49,44,32,54,44,32,49,44,32,48,59,32,125,32,125,32,111,110,32,109,101,115,115,97,103,101,32,54,32,123,32,116,32,61,32,97,32,43,32,49,59,32,105,102,32,116,32,60,32,52,32,123,32,115,101,110,100,32,102,114,111,109,44,32,54,44,32,116,44,32,48,59,32,125,32,101,108,115,101,32,123,32,102,97,105,108,32,116,59,32,125,32,125],
 [118,111,108,97,116,105,108,101,32,99,59,32,111,110,32,115,116,97,114,116,32,123,32,116,105,109,101,114,32,49,59,32,125,32,111,110,32,116,105,109,101,114,32,49,32,123,32,99,32,61,32,99,32,43,32,100,114,97,119,40,51,41,59,32,105,102,32,99,32,62,32,52,32,123,32,102,97,105,108,32,55,59,32,125,32,105,102,32,99,32,60,32,51,32,123,32,116,105,109,101,114,32,49,59,32,125,32,125],
 [118,111,108,97,116,105,108,101,32,108,97,115,116,59,32,111,110,32,114,101,113,117,101,115,116,32,123,32,115,101,110,100,32,49,32,45,32,115,101,108,102,44,32,55,44,32,49,44,32,48,59,32,115,101,110,100,32,49,32,45,32,115,101,108,102,44,32,55,44,32,50,44,32,48,59,32,114,101,112,108,121,32,105,100,44,32,48,59,32,125,32,111,110,32,109,101,115,115,97,103,101,32,55,32,123,32,105,102,32,97,32,60,32,108,97,115,116,32,123,32,102,97,105,108,32,51,59,32,125,32,108,97,115,116,32,61,32,97,59,32,125],
 [100,117,114,97,98,108,101,32,101,59,32,118,111,108,97,116,105,108,101,32,103,59,32,111,110,32,115,116,97,114,116,32,123,32,101,32,61,32,101,32,43,32,49,59,32,105,102,32,100,114,97,119,40,50,41,32,61,61,32,49,32,123,32,115,121,110,99,59,32,125,32,103,32,61,32,110,111,119,59,32,125,32,111,110,32,114,101,113,117,101,115,116,32,123,32,105,102,32,103,32,62,32,110,111,119,32,123,32,102,97,105,108,32,49,59,32,125,32,114,101,112,108,121,32,105,100,44,32,101,59,32,125],
 [118,111,108,97,116,105,108,101,32,105,44,32,115,59,32,111,110,32,114,101,113,117,101,115,116,32,123,32,105,32,61,32,48,59,32,115,32,61,32,48,59,32,119,104,105,108,101,32,105,32,60,32,51,32,123,32,115,32,61,32,115,32,43,32,105,32,42,32,97,59,32,105,32,61,32,105,32,43,32,49,59,32,125,32,114,101,112,108,121,32,105,100,44,32,115,59,32,125],
 [111,110,32,116,105,109,101,114,32,48,32,123,32,119,104,105,108,101,32,116,114,117,101,32,123,32,125,32,125,32,111,110,32,115,116,97,114,116,32,123,32,116,105,109,101,114,32,48,59,32,99,97,110,99,101,108,32,49,59,32,125],
 []]
theorem Dh:srcs.length=12:=rfl
end Go.Proofs.YtmjnackchaahbaaGreat

set_option maxHeartbeats 2000000
namespace Go.Proofs.YtmjnackchaahbaaGreat
open Go.RowKit

def Bo.txt:Bo→Tx
 | .add=> [43]
 | .sub=> [45]
 | .mul=> [42]
 | .div=> [47]
 | .lt=> [60]
 | .le=> [60,61]
 | .eq=> [61,61]
 | .gt=> [62]
 | .ge=> [62,61]
 | .ne=> [33,61]
section
variable (nm:List Tx)
def eB:Ex→Nd
 | .int n=> nd 12 n.toNat [] []
 | .bool b=> nd 13 (if b then 1 else 0) [] []
 | .var i=> nd 14 0 (nm.getD i []) []
 | .name k=> nd 15 0 (bltT.getD k []) []
 | .draw e=> nd 16 0 [] [eB e]
 | .neg e=> nd 17 0 [45] [eB e]
 | .not e=> nd 17 0 [33] [eB e]
 | .bin o a b=> nd 18 0 o.txt [eB a,eB b]
 | .and a b=> nd 18 0 [38,38] [eB a,eB b]
 | .or a b=> nd 18 0 [124,124] [eB a,eB b]
mutual
def Fs:Sm→Nd
 | .assign i e=> nd 1 0 (nm.getD i []) [eB nm e]
 | .send t k a b=> nd 4 k [] [eB nm t,eB nm a,eB nm b]
 | .timer k=> nd 5 k [] []
 | .cancel k=> nd 6 k [] []
 | .sync=> nd 7 0 [] []
 | .stop=> nd 10 0 [] []
 | .reply a b=> nd 8 0 [] [eB nm a,eB nm b]
 | .fail e=> nd 9 0 [] [eB nm e]
 | .loop c b=> nd 3 0 [] [eB nm c,nd 11 0 [] (iU b)]
 | .ite c a b=> nd 2 0 [] [eB nm c,nd 11 0 [] (iU a),nd 11 0 [] (iU b)]
def iU:Bk→List Nd
 | .nil=> []
 | .cons s b=> Fs s::iU b
end
def iY (b:Bk):Nd:=nd 11 0 [] (iU nm b)
end
def DY:List Tx:=[[118]]
def EN:List Tx:=[]
def ons0:List (Nat×Bk):=[(1,(.cons (.ite (.bin .eq (.name 7) (.int 0)) (.cons (.reply (.name 6) (.var 0)) .nil) (.cons (.ite (.bin .eq (.name 7) (.int 2)) (.cons (.reply (.name 6) (.var 0)) (.cons (.assign 0 (.name 4)) .nil)) (.cons (.assign 0 (.name 4)) (.cons (.reply (.name 6) (.int 0)) .nil))) .nil)) .nil))]
theorem JE:fX (srcs.getD 0 [])=some (DY,EN,ons0.map fun p=> (p.1,iY (DY++EN) p.2)):=by kernel_rfl
def Ce:List Tx:=[[118]]
def Cv:List Tx:=[]
def ons1:List (Nat×Bk):=[(1,(.cons (.ite (.bin .eq (.name 7) (.int 0)) (.cons (.reply (.name 6) (.var 0)) .nil) (.cons (.ite (.bin .eq (.name 7) (.int 2)) (.cons (.reply (.name 6) (.var 0)) (.cons (.assign 0 (.name 4)) (.cons .sync .nil))) (.cons (.assign 0 (.name 4)) (.cons .sync (.cons (.reply (.name 6) (.int 0)) .nil)))) .nil)) .nil))]
theorem JG:fX (srcs.getD 1 [])=some (Ce,Cv,ons1.map fun p=> (p.1,iY (Ce++Cv) p.2)):=by kernel_rfl
def CF:List Tx:=[[118]]
def EF:List Tx:=[]
def ons2:List (Nat×Bk):=[(1,(.cons (.ite (.bin .eq (.name 0) (.int 0)) (.cons (.ite (.bin .eq (.name 7) (.int 0)) (.cons (.reply (.name 6) (.var 0)) .nil) (.cons (.assign 0 (.name 4)) (.cons .sync (.cons (.reply (.name 6) (.int 0)) .nil)))) .nil) (.cons (.send (.int 0) 1 (.name 6) (.bin .sub (.int 0) (.name 7))) (.cons (.ite (.bin .ne (.name 7) (.int 0)) (.cons (.send (.int 0) 2 (.name 6) (.name 4)) .nil) .nil) .nil))) .nil)),
 (11,(.cons (.ite (.bin .eq (.name 5) (.int 0)) (.cons (.send (.name 3) 3 (.name 4) (.var 0)) .nil) .nil) .nil)),
 (12,(.cons (.assign 0 (.name 5)) (.cons .sync (.cons (.send (.name 3) 3 (.name 4) (.int 0)) .nil)))),
 (13,(.cons (.reply (.name 4) (.name 5)) .nil))]
theorem Jb:fX (srcs.getD 2 [])=some (CF,EF,ons2.map fun p=> (p.1,iY (CF++EF) p.2)):=by kernel_rfl
def Eg:List Tx:=[]
def BP:List Tx:=[[118]]
def ons3:List (Nat×Bk):=[(1,(.cons (.ite (.bin .eq (.name 7) (.int 0)) (.cons (.reply (.name 6) (.var 0)) .nil) (.cons (.assign 0 (.name 4)) (.cons (.reply (.name 6) (.int 0)) (.cons (.send (.bin .sub (.int 1) (.name 0)) 4 (.name 4) (.int 0)) .nil)))) .nil)),
 (14,(.cons (.assign 0 (.name 4)) .nil))]
theorem Jg:fX (srcs.getD 3 [])=some (Eg,BP,ons3.map fun p=> (p.1,iY (Eg++BP) p.2)):=by kernel_rfl
def BQ:List Tx:=[]
def CJ:List Tx:=[[120],[121]]
def ons4:List (Nat×Bk):=[(1,(.cons (.ite (.bin .eq (.name 7) (.int 3)) (.cons (.send (.bin .sub (.int 1) (.name 0)) 5 (.name 6) (.name 4)) (.cons (.reply (.name 6) (.int 0)) .nil)) (.cons (.reply (.name 6) (.var 0)) (.cons (.assign 0 (.var 1)) (.cons (.assign 1 (.int 0)) .nil)))) .nil)),
 (15,(.cons (.ite (.bin .eq (.var 0) (.int 0)) (.cons (.assign 0 (.name 5)) .nil) (.cons (.assign 1 (.name 5)) .nil)) .nil))]
theorem JO:fX (srcs.getD 4 [])=some (BQ,CJ,ons4.map fun p=> (p.1,iY (BQ++CJ) p.2)):=by kernel_rfl
def DJ:List Tx:=[]
def Bx:List Tx:=[[116]]
def ons5:List (Nat×Bk):=[(0,(.cons (.ite (.bin .eq (.name 0) (.int 0)) (.cons (.assign 0 (.int 1)) (.cons (.send (.bin .sub (.name 1) (.int 1)) 6 (.int 1) (.int 0)) .nil)) .nil) .nil)),
 (16,(.cons (.assign 0 (.bin .add (.name 4) (.int 1))) (.cons (.ite (.bin .lt (.var 0) (.int 4)) (.cons (.send (.name 3) 6 (.var 0) (.int 0)) .nil) (.cons (.fail (.var 0)) .nil)) .nil)))]
theorem Ij:fX (srcs.getD 5 [])=some (DJ,Bx,ons5.map fun p=> (p.1,iY (DJ++Bx) p.2)):=by kernel_rfl
def BO:List Tx:=[]
def CR:List Tx:=[[99]]
def ons6:List (Nat×Bk):=[(0,(.cons (.timer 1) .nil)),
 (3,(.cons (.assign 0 (.bin .add (.var 0) (.draw (.int 3)))) (.cons (.ite (.bin .gt (.var 0) (.int 4)) (.cons (.fail (.int 7)) .nil) .nil) (.cons (.ite (.bin .lt (.var 0) (.int 3)) (.cons (.timer 1) .nil) .nil) .nil))))]
theorem Jz:fX (srcs.getD 6 [])=some (BO,CR,ons6.map fun p=> (p.1,iY (BO++CR) p.2)):=by kernel_rfl
def Bc:List Tx:=[]
def ED:List Tx:=[[108,97,115,116]]
def ons7:List (Nat×Bk):=[(1,(.cons (.send (.bin .sub (.int 1) (.name 0)) 7 (.int 1) (.int 0)) (.cons (.send (.bin .sub (.int 1) (.name 0)) 7 (.int 2) (.int 0)) (.cons (.reply (.name 6) (.int 0)) .nil)))),
 (17,(.cons (.ite (.bin .lt (.name 4) (.var 0)) (.cons (.fail (.int 3)) .nil) .nil) (.cons (.assign 0 (.name 4)) .nil)))]
theorem Ix:fX (srcs.getD 7 [])=some (Bc,ED,ons7.map fun p=> (p.1,iY (Bc++ED) p.2)):=by kernel_rfl
def Ds:List Tx:=[[101]]
def EW:List Tx:=[[103]]
def ons8:List (Nat×Bk):=[(0,(.cons (.assign 0 (.bin .add (.var 0) (.int 1))) (.cons (.ite (.bin .eq (.draw (.int 2)) (.int 1)) (.cons .sync .nil) .nil) (.cons (.assign 1 (.name 2)) .nil)))),
 (1,(.cons (.ite (.bin .gt (.var 1) (.name 2)) (.cons (.fail (.int 1)) .nil) .nil) (.cons (.reply (.name 6) (.var 0)) .nil)))]
theorem JH:fX (srcs.getD 8 [])=some (Ds,EW,ons8.map fun p=> (p.1,iY (Ds++EW) p.2)):=by kernel_rfl
def DN:List Tx:=[]
def EH:List Tx:=[[105],[115]]
def ons9:List (Nat×Bk):=[(1,(.cons (.assign 0 (.int 0)) (.cons (.assign 1 (.int 0)) (.cons (.loop (.bin .lt (.var 0) (.int 3)) (.cons (.assign 1 (.bin .add (.var 1) (.bin .mul (.var 0) (.name 4)))) (.cons (.assign 0 (.bin .add (.var 0) (.int 1))) .nil))) (.cons (.reply (.name 6) (.var 1)) .nil)))))]
theorem JB:fX (srcs.getD 9 [])=some (DN,EH,ons9.map fun p=> (p.1,iY (DN++EH) p.2)):=by kernel_rfl
def vb:List Tx:=[]
def uX:List Tx:=[]
def ons10:List (Nat×Bk):=[(0,(.cons (.timer 0) (.cons (.cancel 1) .nil))),
 (2,(.cons (.loop (.bool true) .nil) .nil))]
theorem Ga:fX (srcs.getD 10 [])=some (vb,uX,ons10.map fun p=> (p.1,iY (vb++uX) p.2)):=by kernel_rfl
def vN:List Tx:=[]
def uE:List Tx:=[]
def ons11:List (Nat×Bk):=[]
theorem Gz:fX (srcs.getD 11 [])=some (vN,uE,ons11.map fun p=> (p.1,iY (vN++uE) p.2)):=by kernel_rfl
end Go.Proofs.YtmjnackchaahbaaGreat

set_option maxHeartbeats 2000000
namespace Go.Proofs.YtmjnackchaahbaaGreat
open Go.RowKit

def fk:Ex→Nat
 | .int _=> 1 | .bool _=> 2 | .var _=> 1 | .name _=> 1
 | .draw e=> if fk e=1 then 1 else 0
 | .neg e=> if fk e=1 then 1 else 0
 | .not e=> if fk e=2 then 2 else 0
 | .bin o a b=> if fk a=1∧fk b=1 then (match o with | .add=> 1 | .sub=> 1 | .mul=> 1 | .div=> 1 | _=> 2) else 0
 | .and a b=> if fk a=2∧fk b=2 then 2 else 0
 | .or a b=> if fk a=2∧fk b=2 then 2 else 0
def pw (e:Ex):Bool:=Nat.beq (fk e) 1
mutual
def yS:Sm→Bool
 | .assign _ e=> pw e
 | .send t _ a b=> pw t && pw a && pw b
 | .timer _=> true | .cancel _=> true | .sync=> true | .stop=> true
 | .reply a b=> pw a && pw b
 | .fail e=> pw e
 | .loop c b=> Nat.beq (fk c) 2 && qL b
 | .ite c a b=> Nat.beq (fk c) 2 && qL a && qL b
def qL:Bk→Bool
 | .nil=> true
 | .cons s b=> yS s && qL b
end
def eW (nv:Nat):Ex→Bool
 | .int n=> decide (-2147483647≤n) && decide (n≤2147483647)
 | .bool _=> true
 | .var i=> decide (i < nv)
 | .name k=> decide (k < 9)
 | .draw e=> eW nv e | .neg e=> eW nv e | .not e=> eW nv e
 | .bin _ a b=> eW nv a && eW nv b
 | .and a b=> eW nv a && eW nv b
 | .or a b=> eW nv a && eW nv b
mutual
def mu (nv:Nat):Sm→Bool
 | .assign i e=> decide (i < nv) && eW nv e
 | .send t k a b=> decide (k < 30) && eW nv t && eW nv a && eW nv b
 | .timer k=> decide (k < 8) | .cancel k=> decide (k < 8) | .sync=> true | .stop=> true
 | .reply a b=> eW nv a && eW nv b
 | .fail e=> eW nv e
 | .loop c b=> eW nv c && rq nv b
 | .ite c a b=> eW nv c && rq nv a && rq nv b
def rq (nv:Nat):Bk→Bool
 | .nil=> true
 | .cons s b=> mu nv s && rq nv b
end
theorem dt (nv:Nat): ∀ e,eW nv e=true→gS nv e
 | .int n,h=> by simpa [eW,gS] using h
 | .bool _,_=> trivial
 | .var i,h=> by simpa [eW,gS] using h
 | .name k,h=> by simpa [eW,gS] using h
 | .draw e,h=> dt nv e h
 | .neg e,h=> dt nv e h
 | .not e,h=> dt nv e h
 | .bin _ a b,h=> by simp only [eW,Bool.and_eq_true] at h;exact ⟨dt nv a h.1,dt nv b h.2⟩
 | .and a b,h=> by simp only [eW,Bool.and_eq_true] at h;exact ⟨dt nv a h.1,dt nv b h.2⟩
 | .or a b,h=> by simp only [eW,Bool.and_eq_true] at h;exact ⟨dt nv a h.1,dt nv b h.2⟩
mutual
theorem Ef (nv:Nat): ∀ s,mu nv s=true→gp nv s
 | .assign i e,h=> by simp only [mu,Bool.and_eq_true,decide_eq_true_eq] at h;exact ⟨h.1,dt nv e h.2⟩
 | .send t k a b,h=> by simp only [mu,Bool.and_eq_true,decide_eq_true_eq] at h;exact ⟨h.1.1.1,dt nv t h.1.1.2,dt nv a h.1.2,dt nv b h.2⟩
 | .timer k,h=> by simpa [mu,gp] using h
 | .cancel k,h=> by simpa [mu,gp] using h
 | .sync,_=> by simp [gp]
 | .stop,_=> by simp [gp]
 | .reply a b,h=> by simp only [mu,Bool.and_eq_true] at h;exact ⟨dt nv a h.1,dt nv b h.2⟩
 | .fail e,h=> by simp only [mu] at h;exact dt nv e h
 | .loop c b,h=> by simp only [mu,Bool.and_eq_true] at h;exact ⟨dt nv c h.1,lG nv b h.2⟩
 | .ite c a b,h=> by simp only [mu,Bool.and_eq_true] at h;exact ⟨dt nv c h.1.1,lG nv a h.1.2,lG nv b h.2⟩
theorem lG (nv:Nat): ∀ b,rq nv b=true→lc nv b
 | .nil,_=> by simp [lc]
 | .cons s b,h=> by simp only [rq,Bool.and_eq_true] at h;exact ⟨Ef nv s h.1,lG nv b h.2⟩
end
structure wu (l:List (Nat×Bk)) (nv:Nat):Prop where
 ok: ∀ p∈l,lc nv p.2
 wl: ∀ p∈l,qL p.2=true
 n:(bG l 0).length≤400
 h: ∀ p∈l,p.1 < 40
 nd:(l.map (·.1)).Nodup
 d: ∀ k∈mj l,k≤8
def srcB (l:List (Nat×Bk)) (nv:Nat):Bool:=l.all (fun p=> rq nv p.2 && qL p.2 && decide (p.1 < 40)) && decide ((bG l 0).length≤400) && decide (l.map (·.1)).Nodup && (mj l).all fun k=> decide (k≤8)
theorem fS {l:List (Nat×Bk)} {nv:Nat} (h:srcB l nv=true):wu l nv:=by
 simp only [srcB,Bool.and_eq_true,List.all_eq_true,decide_eq_true_eq] at h
 exact ⟨fun p hp=> lG nv _ (h.1.1.1 p hp).1.1,fun p hp=> (h.1.1.1 p hp).1.2,h.1.1.2,fun p hp=> (h.1.1.1 p hp).2,h.1.2,h.2⟩
theorem srcOk0:wu ons0 (DY++EN).length:=fS ae
theorem srcOk1:wu ons1 (Ce++Cv).length:=fS ae
theorem srcOk2:wu ons2 (CF++EF).length:=fS ae
theorem srcOk3:wu ons3 (Eg++BP).length:=fS ae
theorem srcOk4:wu ons4 (BQ++CJ).length:=fS ae
theorem srcOk5:wu ons5 (DJ++Bx).length:=fS ae
theorem srcOk6:wu ons6 (BO++CR).length:=fS ae
theorem srcOk7:wu ons7 (Bc++ED).length:=fS ae
theorem srcOk8:wu ons8 (Ds++EW).length:=fS ae
theorem srcOk9:wu ons9 (DN++EH).length:=fS ae
theorem srcOk10:wu ons10 (vb++uX).length:=fS ae
theorem srcOk11:wu ons11 (vN++uE).length:=fS ae
def xT (l:List (Nat×Bk)) (i:Nat):Nat:=(mj l).getD i 0
theorem ti (l:List (Nat×Bk)):Fit (xT l) 0 (mj l):=fun k d h=> by
 unfold xT
 rw [Nat.zero_add,List.getD_eq_getElem?_getD,h];rfl
end Go.Proofs.YtmjnackchaahbaaGreat
