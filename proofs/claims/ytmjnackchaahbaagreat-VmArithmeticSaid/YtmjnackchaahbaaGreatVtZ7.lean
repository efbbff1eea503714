/- Part 7 of the texts that the walk leans on: the machine, the walks, the plain laws. -/
import Derived.Test.YtmjnackchaahbaaGreatVtZ6
set_option linter.unusedSimpArgs false
set_option linter.unusedVariables false
namespace Go.Proofs.YtmjnackchaahbaaGreat
open Go.RowKit

section
variable {rb:Bool} {P:Program} {Q:Exit→St→Prop} {σ:St}
theorem aq {x y:Code} (h:D rb P x (iG (D rb P y Q) Q) σ):D rb P (.seq x y) Q σ:=aT fun _ hK=> by
  intro K a w hr R
  refine wpIn_mono (h K a w hr R) ?_
  rintro e a' w' ⟨σ',R',q⟩
  refine ⟨σ',R',?_⟩
  cases e with
  | normal=> exact hK _ q
  | _=> exact q
theorem am {id:Nat} {l:List Oper} {y:Code} (h:DL rb P l.toArray (iG (D rb P y Q) Q) l σ):D rb P (.seq (.region id l.toArray false) y) Q σ:=aq (an h)
theorem ai {ops:Array Oper} {y:Code} (h:D rb P y Q σ):DL rb P ops (iG (D rb P y Q) Q) [] σ:=aI h
theorem aO {y:Code} (h:D rb P y Q σ):D rb P .skip (iG (D rb P y Q) Q) σ:=bA h
theorem gq {ops:Array Oper} {y:Code} {i:Nat} (h:D rb P y Q σ):DL rb P ops (pe i (iG (D rb P y Q) Q)) [] σ:=aI h
theorem cf {y:Code} {i:Nat} (h:D rb P y Q σ):D rb P .skip (pe i (iG (D rb P y Q) Q)) σ:=bA h
end
section
variable {rb:Bool} {P:Program} {Q:Exit→St→Prop} {σ:St} {ops:Array Oper} {rest:List Oper} {d:Option Tmp} {ty:TypeId} {p:String} {af:Array Edge}
theorem cE {x:Operand} {b:Bool} (hx:σ.eval x= .v (.bool b)) (h:DL rb P ops Q rest (σ.put d (.v (.bool b)))):DL rb P ops Q (⟨d, .move x,ty,p,af,none⟩::rest) σ:=aj (aH x hx) h
theorem ce {x:Operand} {b:Bool} (hx:σ.eval x= .v (.bool b)) (h:DL rb P ops Q rest (σ.put d (.v (.bool b)))):DL rb P ops Q (⟨d, .assign x,ty,p,af,none⟩::rest) σ:=aj (bB x hx) h
theorem aV {x:Operand} {k:IntKind} {n:Int} (hx:σ.eval x= .v (.int k n)) (h:DL rb P ops Q rest (σ.put d (.v (.int k n)))):DL rb P ops Q (⟨d, .move x,ty,p,af,none⟩::rest) σ:=aj (aH x hx) h
theorem bc {x:Operand} {k:IntKind} {n:Int} (hx:σ.eval x= .v (.int k n)) (h:DL rb P ops Q rest (σ.put d (.v (.int k n)))):DL rb P ops Q (⟨d, .assign x,ty,p,af,none⟩::rest) σ:=aj (bB x hx) h
theorem dv {x:Operand} {s:ByteArray} (hx:σ.eval x= .v (.string s)) (h:DL rb P ops Q rest (σ.put d (.v (.string s)))):DL rb P ops Q (⟨d, .move x,ty,p,af,none⟩::rest) σ:=aj (aH x hx) h
theorem mi {x:Operand} {s:ByteArray} (hx:σ.eval x= .v (.string s)) (h:DL rb P ops Q rest (σ.put d (.v (.string s)))):DL rb P ops Q (⟨d, .assign x,ty,p,af,none⟩::rest) σ:=aj (bB x hx) h
theorem bN {x:Operand} {i:ay} {o:Nat} (hx:σ.eval x= .ptr i o) (h:DL rb P ops Q rest (σ.put d (.ptr i o))):DL rb P ops Q (⟨d, .move x,ty,p,af,none⟩::rest) σ:=aj (aH x hx) h
theorem CX {x:Operand} {i:ay} {o:Nat} (hx:σ.eval x= .ptr i o) (h:DL rb P ops Q rest (σ.put d (.ptr i o))):DL rb P ops Q (⟨d, .assign x,ty,p,af,none⟩::rest) σ:=aj (bB x hx) h
theorem fW {x:Operand} {i:ay} {o n:Nat} (hx:σ.eval x= .ref i o n) (h:DL rb P ops Q rest (σ.put d (.ref i o n))):DL rb P ops Q (⟨d, .move x,ty,p,af,none⟩::rest) σ:=aj (aH x hx) h
theorem eE {x:Operand} {i:ay} {o n:Nat} (hx:σ.eval x= .ref i o n) (h:DL rb P ops Q rest (σ.put d (.ref i o n))):DL rb P ops Q (⟨d, .assign x,ty,p,af,none⟩::rest) σ:=aj (bB x hx) h
theorem eT {x:Operand} {n:Nat} {xs:List PV} (hx:σ.eval x= .sl n xs) (h:DL rb P ops Q rest (σ.put d (.sl n xs))):DL rb P ops Q (⟨d, .move x,ty,p,af,none⟩::rest) σ:=aj (aH x hx) h
theorem jS {x:Operand} {n:Nat} {xs:List PV} (hx:σ.eval x= .sl n xs) (h:DL rb P ops Q rest (σ.put d (.sl n xs))):DL rb P ops Q (⟨d, .assign x,ty,p,af,none⟩::rest) σ:=aj (bB x hx) h
theorem Ir {t:TypeId} {z:List Value} {x:Operand} [T:Ty P t false z] {i:ay} {off:Nat} {e:TypeId} {ys:List AV} {b:Bool} (hx:σ.eval x= .ptr i off) (hid:σ.ob i= .obj (.box e ys)) (hv:ys[off]? =some (.v (.bool b))) (h:DL rb P ops Q rest (σ.put d (.v (.bool b)))):DL rb P ops Q (⟨d, .load t x,ty,p,af,none⟩::rest) σ:=aj (aG x T hx hid hv) h
theorem cw {t:TypeId} {z:List Value} {x:Operand} [T:Ty P t false z] {i:ay} {off:Nat} {e:TypeId} {ys:List AV} {k:IntKind} {n:Int} (hx:σ.eval x= .ptr i off) (hid:σ.ob i= .obj (.box e ys)) (hv:ys[off]? =some (.v (.int k n))) (h:DL rb P ops Q rest (σ.put d (.v (.int k n)))):DL rb P ops Q (⟨d, .load t x,ty,p,af,none⟩::rest) σ:=aj (aG x T hx hid hv) h
theorem eY {t:TypeId} {z:List Value} {x:Operand} [T:Ty P t false z] {i:ay} {off:Nat} {e:TypeId} {ys:List AV} {n:Nat} {xs:List PV} (hx:σ.eval x= .ptr i off) (hid:σ.ob i= .obj (.box e ys)) (hv:ys[off]? =some (.sl n xs)) (h:DL rb P ops Q rest (σ.put d (.sl n xs))):DL rb P ops Q (⟨d, .load t x,ty,p,af,none⟩::rest) σ:=aj (aG x T hx hid hv) h
theorem jv {t t':TypeId} {x y:Operand} {k:IntKind} {a b:Int} (hx:σ.eval x= .v (.int k a)) (hy:σ.eval y= .v (.int k b)) (hr:(a==b)=true) (h:DL rb P ops Q rest (σ.put d (.v (.bool true)))):DL rb P ops Q (⟨d, .binOp .eql t x y t',ty,p,af,none⟩::rest) σ:=aj (bH x y hx hy hr) h
theorem fJ {t t':TypeId} {x y:Operand} {k:IntKind} {a b:Int} (hx:σ.eval x= .v (.int k a)) (hy:σ.eval y= .v (.int k b)) (hr:(a==b)=false) (h:DL rb P ops Q rest (σ.put d (.v (.bool false)))):DL rb P ops Q (⟨d, .binOp .eql t x y t',ty,p,af,none⟩::rest) σ:=aj (bH x y hx hy hr) h
theorem bu {T:TypeId} {f off:Nat} {x:Operand} [F:cq P T f off] {i:ay} {of0 of1:Nat} {oc:Cells} (hx:σ.eval x= .ptr i of0) (hid:σ.ob i= .obj oc) (he:of0+off=of1) (h:DL rb P ops Q rest (σ.put d (.ptr i of1))):DL rb P ops Q (⟨d, .fieldAddr T x f,ty,p,af,none⟩::rest) σ:=aj (aD x F hx hid he) h
theorem cF {t:TypeId} {g:Bool} {z:List Value} {x y:Operand} [T:Ty P t g z] {i:ay} {off:Nat} {e:TypeId} {xs vs ys:List AV} (hx:σ.eval x= .ptr i off) (hid:σ.ob i= .obj (.box e xs)) (hv:(σ.eval y).cells=some vs) (hl:vs.length=z.length) (hfit:Nat.ble (off+vs.length) xs.length=true) (hy:eH xs off vs=ys) (h:DL rb P ops Q rest ((σ.setOb i (.obj (.box e ys))).put d .dead)):DL rb P ops Q (⟨d, .store t x y,ty,p,af,none⟩::rest) σ:=aj (iX x y T hx hid hv hl (Nat.le_of_ble_eq_true hfit) hy) h
theorem fO {P:Program} {all:List Oper} {W:List Nat} {I:List ay} {AA:List (List ay)} {σ:St} {Kont:List Res→Prop} {os:List Oper} {rs:List Res} {r0:Res} (h:rs=[r0]) (hh:AnyOps P all W I AA σ Kont os [r0]):AnyOps P all W I AA σ Kont os rs:=h ▸ hh
theorem fR {P:Program} {all:List Oper} {W:List Nat} {I:List ay} {AA:List (List ay)} {σ:St} {Kont:List Res→Prop} {os:List Oper} {rs:List Res} {r0 r1:Res} (h:rs=[r0,r1]) (hh:AnyOps P all W I AA σ Kont os [r0,r1]):AnyOps P all W I AA σ Kont os rs:=h ▸ hh
theorem fT {P:Program} {all:List Oper} {W:List Nat} {I:List ay} {AA:List (List ay)} {σ:St} {Kont:List Res→Prop} {os:List Oper} {rs:List Res} {r0 r1 r2:Res} (h:rs=[r0,r1,r2]) (hh:AnyOps P all W I AA σ Kont os [r0,r1,r2]):AnyOps P all W I AA σ Kont os rs:=h ▸ hh
theorem fP {P:Program} {all:List Oper} {W:List Nat} {I:List ay} {AA:List (List ay)} {σ:St} {Kont:List Res→Prop} {os:List Oper} {rs:List Res} {r0 r1 r2 r3:Res} (h:rs=[r0,r1,r2,r3]) (hh:AnyOps P all W I AA σ Kont os [r0,r1,r2,r3]):AnyOps P all W I AA σ Kont os rs:=h ▸ hh
theorem gb {P:Program} {all:List Oper} {W:List Nat} {I:List ay} {AA:List (List ay)} {σ:St} {Kont:List Res→Prop} {os:List Oper} {rs:List Res} {r0 r1 r2 r3 r4:Res} (h:rs=[r0,r1,r2,r3,r4]) (hh:AnyOps P all W I AA σ Kont os [r0,r1,r2,r3,r4]):AnyOps P all W I AA σ Kont os rs:=h ▸ hh
theorem gC {P:Program} {all:List Oper} {W:List Nat} {I:List ay} {AA:List (List ay)} {σ:St} {Kont:List Res→Prop} {os:List Oper} {rs:List Res} {r0 r1 r2 r3 r4 r5:Res} (h:rs=[r0,r1,r2,r3,r4,r5]) (hh:AnyOps P all W I AA σ Kont os [r0,r1,r2,r3,r4,r5]):AnyOps P all W I AA σ Kont os rs:=h ▸ hh
theorem iy {P:Program} {all:List Oper} {W:List Nat} {I:List ay} {AA:List (List ay)} {σ:St} {Kont:List Res→Prop} {os:List Oper} {rs:List Res} {r0 r1 r2 r3 r4 r5 r6:Res} (h:rs=[r0,r1,r2,r3,r4,r5,r6]) (hh:AnyOps P all W I AA σ Kont os [r0,r1,r2,r3,r4,r5,r6]):AnyOps P all W I AA σ Kont os rs:=h ▸ hh
theorem jy {P:Program} {all:List Oper} {W:List Nat} {I:List ay} {AA:List (List ay)} {σ:St} {Kont:List Res→Prop} {os:List Oper} {rs:List Res} {r0 r1 r2 r3 r4 r5 r6 r7:Res} (h:rs=[r0,r1,r2,r3,r4,r5,r6,r7]) (hh:AnyOps P all W I AA σ Kont os [r0,r1,r2,r3,r4,r5,r6,r7]):AnyOps P all W I AA σ Kont os rs:=h ▸ hh
theorem jr {P:Program} {all:List Oper} {W:List Nat} {I:List ay} {AA:List (List ay)} {σ:St} {Kont:List Res→Prop} {os:List Oper} {rs:List Res} {r0 r1 r2 r3 r4 r5 r6 r7 r8:Res} (h:rs=[r0,r1,r2,r3,r4,r5,r6,r7,r8]) (hh:AnyOps P all W I AA σ Kont os [r0,r1,r2,r3,r4,r5,r6,r7,r8]):AnyOps P all W I AA σ Kont os rs:=h ▸ hh
theorem fq {P:Program} {all:List Oper} {W:List Nat} {I:List ay} {AA:List (List ay)} {σ:St} {Kont:List Res→Prop} {os:List Oper} {rs:List Res} {r0 r1 r2 r3 r4 r5 r6 r7 r8 r9:Res} (h:rs=[r0,r1,r2,r3,r4,r5,r6,r7,r8,r9]) (hh:AnyOps P all W I AA σ Kont os [r0,r1,r2,r3,r4,r5,r6,r7,r8,r9]):AnyOps P all W I AA σ Kont os rs:=h ▸ hh
theorem fv {P:Program} {all:List Oper} {W:List Nat} {I:List ay} {AA:List (List ay)} {σ:St} {Kont:List Res→Prop} {os:List Oper} {rs:List Res} {r0 r1 r2 r3 r4 r5 r6 r7 r8 r9 r10:Res} (h:rs=[r0,r1,r2,r3,r4,r5,r6,r7,r8,r9,r10]) (hh:AnyOps P all W I AA σ Kont os [r0,r1,r2,r3,r4,r5,r6,r7,r8,r9,r10]):AnyOps P all W I AA σ Kont os rs:=h ▸ hh
theorem jf {P:Program} {all:List Oper} {W:List Nat} {I:List ay} {AA:List (List ay)} {σ:St} {Kont:List Res→Prop} {os:List Oper} {rs:List Res} {r0 r1 r2 r3 r4 r5 r6 r7 r8 r9 r10 r11:Res} (h:rs=[r0,r1,r2,r3,r4,r5,r6,r7,r8,r9,r10,r11]) (hh:AnyOps P all W I AA σ Kont os [r0,r1,r2,r3,r4,r5,r6,r7,r8,r9,r10,r11]):AnyOps P all W I AA σ Kont os rs:=h ▸ hh
theorem jR {P:Program} {all:List Oper} {W:List Nat} {I:List ay} {AA:List (List ay)} {σ:St} {Kont:List Res→Prop} {os:List Oper} {rs:List Res} {r0 r1 r2 r3 r4 r5 r6 r7 r8 r9 r10 r11 r12:Res} (h:rs=[r0,r1,r2,r3,r4,r5,r6,r7,r8,r9,r10,r11,r12]) (hh:AnyOps P all W I AA σ Kont os [r0,r1,r2,r3,r4,r5,r6,r7,r8,r9,r10,r11,r12]):AnyOps P all W I AA σ Kont os rs:=h ▸ hh
theorem mh {P:Program} {all:List Oper} {W:List Nat} {I:List ay} {AA:List (List ay)} {σ:St} {Kont:List Res→Prop} {os:List Oper} {rs:List Res} {r0 r1 r2 r3 r4 r5 r6 r7 r8 r9 r10 r11 r12 r13:Res} (h:rs=[r0,r1,r2,r3,r4,r5,r6,r7,r8,r9,r10,r11,r12,r13]) (hh:AnyOps P all W I AA σ Kont os [r0,r1,r2,r3,r4,r5,r6,r7,r8,r9,r10,r11,r12,r13]):AnyOps P all W I AA σ Kont os rs:=h ▸ hh
theorem qp {P:Program} {all:List Oper} {W:List Nat} {I:List ay} {AA:List (List ay)} {σ:St} {Kont:List Res→Prop} {os:List Oper} {rs:List Res} {r0 r1 r2 r3 r4 r5 r6 r7 r8 r9 r10 r11 r12 r13 r14:Res} (h:rs=[r0,r1,r2,r3,r4,r5,r6,r7,r8,r9,r10,r11,r12,r13,r14]) (hh:AnyOps P all W I AA σ Kont os [r0,r1,r2,r3,r4,r5,r6,r7,r8,r9,r10,r11,r12,r13,r14]):AnyOps P all W I AA σ Kont os rs:=h ▸ hh
theorem qC {P:Program} {all:List Oper} {W:List Nat} {I:List ay} {AA:List (List ay)} {σ:St} {Kont:List Res→Prop} {os:List Oper} {rs:List Res} {r0 r1 r2 r3 r4 r5 r6 r7 r8 r9 r10 r11 r12 r13 r14 r15:Res} (h:rs=[r0,r1,r2,r3,r4,r5,r6,r7,r8,r9,r10,r11,r12,r13,r14,r15]) (hh:AnyOps P all W I AA σ Kont os [r0,r1,r2,r3,r4,r5,r6,r7,r8,r9,r10,r11,r12,r13,r14,r15]):AnyOps P all W I AA σ Kont os rs:=h ▸ hh
theorem rH {P:Program} {all:List Oper} {W:List Nat} {I:List ay} {AA:List (List ay)} {σ:St} {Kont:List Res→Prop} {os:List Oper} {rs:List Res} {r0 r1 r2 r3 r4 r5 r6 r7 r8 r9 r10 r11 r12 r13 r14 r15 r16:Res} (h:rs=[r0,r1,r2,r3,r4,r5,r6,r7,r8,r9,r10,r11,r12,r13,r14,r15,r16]) (hh:AnyOps P all W I AA σ Kont os [r0,r1,r2,r3,r4,r5,r6,r7,r8,r9,r10,r11,r12,r13,r14,r15,r16]):AnyOps P all W I AA σ Kont os rs:=h ▸ hh
theorem rA {P:Program} {all:List Oper} {W:List Nat} {I:List ay} {AA:List (List ay)} {σ:St} {Kont:List Res→Prop} {os:List Oper} {rs:List Res} {r0 r1 r2 r3 r4 r5 r6 r7 r8 r9 r10 r11 r12 r13 r14 r15 r16 r17:Res} (h:rs=[r0,r1,r2,r3,r4,r5,r6,r7,r8,r9,r10,r11,r12,r13,r14,r15,r16,r17]) (hh:AnyOps P all W I AA σ Kont os [r0,r1,r2,r3,r4,r5,r6,r7,r8,r9,r10,r11,r12,r13,r14,r15,r16,r17]):AnyOps P all W I AA σ Kont os rs:=h ▸ hh
theorem ru {P:Program} {all:List Oper} {W:List Nat} {I:List ay} {AA:List (List ay)} {σ:St} {Kont:List Res→Prop} {os:List Oper} {rs:List Res} {r0 r1 r2 r3 r4 r5 r6 r7 r8 r9 r10 r11 r12 r13 r14 r15 r16 r17 r18:Res} (h:rs=[r0,r1,r2,r3,r4,r5,r6,r7,r8,r9,r10,r11,r12,r13,r14,r15,r16,r17,r18]) (hh:AnyOps P all W I AA σ Kont os [r0,r1,r2,r3,r4,r5,r6,r7,r8,r9,r10,r11,r12,r13,r14,r15,r16,r17,r18]):AnyOps P all W I AA σ Kont os rs:=h ▸ hh
theorem tV {P:Program} {all:List Oper} {W:List Nat} {I:List ay} {AA:List (List ay)} {σ:St} {Kont:List Res→Prop} {os:List Oper} {rs:List Res} {r0 r1 r2 r3 r4 r5 r6 r7 r8 r9 r10 r11 r12 r13 r14 r15 r16 r17 r18 r19:Res} (h:rs=[r0,r1,r2,r3,r4,r5,r6,r7,r8,r9,r10,r11,r12,r13,r14,r15,r16,r17,r18,r19]) (hh:AnyOps P all W I AA σ Kont os [r0,r1,r2,r3,r4,r5,r6,r7,r8,r9,r10,r11,r12,r13,r14,r15,r16,r17,r18,r19]):AnyOps P all W I AA σ Kont os rs:=h ▸ hh
theorem vj {P:Program} {all:List Oper} {W:List Nat} {I:List ay} {AA:List (List ay)} {σ:St} {Kont:List Res→Prop} {os:List Oper} {rs:List Res} {r0 r1 r2 r3 r4 r5 r6 r7 r8 r9 r10 r11 r12 r13 r14 r15 r16 r17 r18 r19 r20:Res} (h:rs=[r0,r1,r2,r3,r4,r5,r6,r7,r8,r9,r10,r11,r12,r13,r14,r15,r16,r17,r18,r19,r20]) (hh:AnyOps P all W I AA σ Kont os [r0,r1,r2,r3,r4,r5,r6,r7,r8,r9,r10,r11,r12,r13,r14,r15,r16,r17,r18,r19,r20]):AnyOps P all W I AA σ Kont os rs:=h ▸ hh
theorem zK {P:Program} {all:List Oper} {W:List Nat} {I:List ay} {AA:List (List ay)} {σ:St} {Kont:List Res→Prop} {os:List Oper} {rs:List Res} {r0 r1 r2 r3 r4 r5 r6 r7 r8 r9 r10 r11 r12 r13 r14 r15 r16 r17 r18 r19 r20 r21:Res} (h:rs=[r0,r1,r2,r3,r4,r5,r6,r7,r8,r9,r10,r11,r12,r13,r14,r15,r16,r17,r18,r19,r20,r21]) (hh:AnyOps P all W I AA σ Kont os [r0,r1,r2,r3,r4,r5,r6,r7,r8,r9,r10,r11,r12,r13,r14,r15,r16,r17,r18,r19,r20,r21]):AnyOps P all W I AA σ Kont os rs:=h ▸ hh
theorem xN {P:Program} {all:List Oper} {W:List Nat} {I:List ay} {AA:List (List ay)} {σ:St} {Kont:List Res→Prop} {os:List Oper} {rs:List Res} {r0 r1 r2 r3 r4 r5 r6 r7 r8 r9 r10 r11 r12 r13 r14 r15 r16 r17 r18 r19 r20 r21 r22:Res} (h:rs=[r0,r1,r2,r3,r4,r5,r6,r7,r8,r9,r10,r11,r12,r13,r14,r15,r16,r17,r18,r19,r20,r21,r22]) (hh:AnyOps P all W I AA σ Kont os [r0,r1,r2,r3,r4,r5,r6,r7,r8,r9,r10,r11,r12,r13,r14,r15,r16,r17,r18,r19,r20,r21,r22]):AnyOps P all W I AA σ Kont os rs:=h ▸ hh
theorem zj {P:Program} {all:List Oper} {W:List Nat} {I:List ay} {AA:List (List ay)} {σ:St} {Kont:List Res→Prop} {os:List Oper} {rs:List Res} {r0 r1 r2 r3 r4 r5 r6 r7 r8 r9 r10 r11 r12 r13 r14 r15 r16 r17 r18 r19 r20 r21 r22 r23:Res} (h:rs=[r0,r1,r2,r3,r4,r5,r6,r7,r8,r9,r10,r11,r12,r13,r14,r15,r16,r17,r18,r19,r20,r21,r22,r23]) (hh:AnyOps P all W I AA σ Kont os [r0,r1,r2,r3,r4,r5,r6,r7,r8,r9,r10,r11,r12,r13,r14,r15,r16,r17,r18,r19,r20,r21,r22,r23]):AnyOps P all W I AA σ Kont os rs:=h ▸ hh
theorem yY {P:Program} {all:List Oper} {W:List Nat} {I:List ay} {AA:List (List ay)} {σ:St} {Kont:List Res→Prop} {os:List Oper} {rs:List Res} {r0 r1 r2 r3 r4 r5 r6 r7 r8 r9 r10 r11 r12 r13 r14 r15 r16 r17 r18 r19 r20 r21 r22 r23 r24:Res} (h:rs=[r0,r1,r2,r3,r4,r5,r6,r7,r8,r9,r10,r11,r12,r13,r14,r15,r16,r17,r18,r19,r20,r21,r22,r23,r24]) (hh:AnyOps P all W I AA σ Kont os [r0,r1,r2,r3,r4,r5,r6,r7,r8,r9,r10,r11,r12,r13,r14,r15,r16,r17,r18,r19,r20,r21,r22,r23,r24]):AnyOps P all W I AA σ Kont os rs:=h ▸ hh
theorem xJ {P:Program} {all:List Oper} {W:List Nat} {I:List ay} {AA:List (List ay)} {σ:St} {Kont:List Res→Prop} {os:List Oper} {rs:List Res} {r0 r1 r2 r3 r4 r5 r6 r7 r8 r9 r10 r11 r12 r13 r14 r15 r16 r17 r18 r19 r20 r21 r22 r23 r24 r25:Res} (h:rs=[r0,r1,r2,r3,r4,r5,r6,r7,r8,r9,r10,r11,r12,r13,r14,r15,r16,r17,r18,r19,r20,r21,r22,r23,r24,r25]) (hh:AnyOps P all W I AA σ Kont os [r0,r1,r2,r3,r4,r5,r6,r7,r8,r9,r10,r11,r12,r13,r14,r15,r16,r17,r18,r19,r20,r21,r22,r23,r24,r25]):AnyOps P all W I AA σ Kont os rs:=h ▸ hh
theorem zG {P:Program} {all:List Oper} {W:List Nat} {I:List ay} {AA:List (List ay)} {σ:St} {Kont:List Res→Prop} {os:List Oper} {rs:List Res} {r0 r1 r2 r3 r4 r5 r6 r7 r8 r9 r10 r11 r12 r13 r14 r15 r16 r17 r18 r19 r20 r21 r22 r23 r24 r25 r26:Res} (h:rs=[r0,r1,r2,r3,r4,r5,r6,r7,r8,r9,r10,r11,r12,r13,r14,r15,r16,r17,r18,r19,r20,r21,r22,r23,r24,r25,r26]) (hh:AnyOps P all W I AA σ Kont os [r0,r1,r2,r3,r4,r5,r6,r7,r8,r9,r10,r11,r12,r13,r14,r15,r16,r17,r18,r19,r20,r21,r22,r23,r24,r25,r26]):AnyOps P all W I AA σ Kont os rs:=h ▸ hh
theorem yw {P:Program} {all:List Oper} {W:List Nat} {I:List ay} {AA:List (List ay)} {σ:St} {Kont:List Res→Prop} {os:List Oper} {rs:List Res} {r0 r1 r2 r3 r4 r5 r6 r7 r8 r9 r10 r11 r12 r13 r14 r15 r16 r17 r18 r19 r20 r21 r22 r23 r24 r25 r26 r27:Res} (h:rs=[r0,r1,r2,r3,r4,r5,r6,r7,r8,r9,r10,r11,r12,r13,r14,r15,r16,r17,r18,r19,r20,r21,r22,r23,r24,r25,r26,r27]) (hh:AnyOps P all W I AA σ Kont os [r0,r1,r2,r3,r4,r5,r6,r7,r8,r9,r10,r11,r12,r13,r14,r15,r16,r17,r18,r19,r20,r21,r22,r23,r24,r25,r26,r27]):AnyOps P all W I AA σ Kont os rs:=h ▸ hh
theorem cm {id:Nat} {d1 d2:Tmp} {uE uC t t':TypeId} {p1 p2:String} {f1 f2:Array Edge} {u v w z:Operand} {x y:Code} {k:IntKind} {a b:Int} (hx:σ.eval u= .v (.int k a)) (hy:σ.eval v= .v (.int k b)) (hr:(a==b)=false) (hw:(σ.put (some d1) (.v (.bool false))).eval w= .v (.bool false)) (hz:((σ.put (some d1) (.v (.bool false))).put (some d2) (.v (.bool false))).eval z= .v (.bool false)) (h:D rb P y Q ((σ.put (some d1) (.v (.bool false))).put (some d2) (.v (.bool false)))):
    D rb P (.seq (.region id #[⟨some d1, .binOp .eql t u v t',uE,p1,f1,none⟩,⟨some d2, .assign w,uC,p2,f2,none⟩] false) (.cond z x y)) Q σ:=am (l:=[⟨some d1, .binOp .eql t u v t',uE,p1,f1,none⟩,⟨some d2, .assign w,uC,p2,f2,none⟩]) (aj (bH u v hx hy hr) (aj (bB w hw) (ai (mu hz h))))
theorem fN {id:Nat} {d1 d2:Tmp} {uE uC t t':TypeId} {p1 p2:String} {f1 f2:Array Edge} {u v w z:Operand} {x y:Code} {k:IntKind} {a b:Int} (hx:σ.eval u= .v (.int k a)) (hy:σ.eval v= .v (.int k b)) (hr:(a==b)=true) (hw:(σ.put (some d1) (.v (.bool true))).eval w= .v (.bool true)) (hz:((σ.put (some d1) (.v (.bool true))).put (some d2) (.v (.bool true))).eval z= .v (.bool true)) (h:D rb P x Q ((σ.put (some d1) (.v (.bool true))).put (some d2) (.v (.bool true)))):
    D rb P (.seq (.region id #[⟨some d1, .binOp .eql t u v t',uE,p1,f1,none⟩,⟨some d2, .assign w,uC,p2,f2,none⟩] false) (.cond z x y)) Q σ:=am (l:=[⟨some d1, .binOp .eql t u v t',uE,p1,f1,none⟩,⟨some d2, .assign w,uC,p2,f2,none⟩]) (aj (bH u v hx hy hr) (aj (bB w hw) (ai (mA hz h))))
end
theorem ar {σ:St} {rn:List (ay×ay)} {xs ys:List AV} (h:fb σ rn xs ys:=by repeat' (first | exact cW | refine cG ?_ ?_ | exact Lv.v | exact cd (by assumption) | exact cd ab | exact Lv.sl | exact Lv.fp | exact Lv.nil | exact cY rfl rfl | exact eg rfl | refine Lv.agg rfl ?_ | refine Lv.fn rfl ?_ rfl ?_ | refine Lv.ifc ?_ | exact br | refine aB ?_ ?_)):fb σ rn xs ys:=h
theorem al {σ:St} {F:ay→Bool} {xs ys:List AV} (h:fB σ F xs ys:=by repeat' (first | exact eP | refine lV ?_ ?_ | exact Lv.v | exact cd ab | exact Lv.sl | exact Lv.fp | exact Lv.nil | refine Lv.agg rfl ?_ | refine Lv.fn rfl ?_ rfl ?_ | exact br | refine aB ?_ ?_ | exact Lv.z0)):fB σ F xs ys:=h
theorem aw {σ:St} {F:ay→Bool} {xs ys:List AV} (h:fB σ F xs ys:=by repeat' (first | exact eP | refine lV ?_ ?_ | exact Lv.v | exact cd ab | exact Lv.sl | exact Lv.fp | exact Lv.nil | refine Lv.agg rfl ?_ | refine Lv.fn rfl ?_ rfl ?_ | exact br | refine aB ?_ ?_ | (refine iL rfl rfl ?_ rfl;first | assumption | (simp;done) | (simp;omega) | omega) | exact Lv.frzP rfl rfl rfl)):fB σ F xs ys:=h
theorem kp {σ:St} {n:Nat} {slots:List (Nat×AV)} {obs:List (ay×Cells)} {I Pn:List ay} (h:Le (aA n slots obs I Pn) σ:=by
  refine Le.mkJ [] [] rfl ?_ ?_ trivial ?_ ?_
  · repeat' (first | exact trivial | exact iV rfl | exact iP rfl | exact iS rfl | exact iR rfl | exact iF rfl | exact iA rfl | exact iN rfl | exact iT rfl | exact iM rfl | exact iZ rfl | exact iD rfl | exact iI rfl | refine ⟨?_,?_⟩)
  · repeat' (first | exact trivial | exact cH rfl rfl rfl | refine ⟨?_,?_⟩)
  · repeat' (first | exact trivial | refine ⟨rfl,?_⟩)
  · kernel_rfl):Le (aA n slots obs I Pn) σ:=h
theorem dq {rb:Bool} {P:Program} {Q:Exit→St→Prop} {σ:St} {id:Nat} {d1 d2:Tmp} {uE uC t t':TypeId} {p1 p2:String} {f1 f2:Array Edge} {u v w z:Operand} {x y:Code} {k:IntKind} {a b:Int} (hx:σ.eval u= .v (.int k a)) (hy:σ.eval v= .v (.int k b)) (hr:(a==b)=false) (hw:(σ.put (some d1) (.v (.bool false))).eval w= .v (.bool false)) (hz:((σ.put (some d1) (.v (.bool false))).put (some d2) (.v (.bool false))).eval z= .v (.bool false)) (h:D rb P y Q ((σ.put (some d1) (.v (.bool false))).put (some d2) (.v (.bool false)))):
    D rb P (.region id #[⟨some d1, .binOp .eql t u v t',uE,p1,f1,none⟩,⟨some d2, .assign w,uC,p2,f2,none⟩] false) (iG (D rb P (.cond z x y) Q) Q) σ:=an (l:=[⟨some d1, .binOp .eql t u v t',uE,p1,f1,none⟩,⟨some d2, .assign w,uC,p2,f2,none⟩]) (aj (bH u v hx hy hr) (aj (bB w hw) (ai (mu hz h))))
theorem yO {rb:Bool} {P:Program} {Q:Exit→St→Prop} {σ:St} {id:Nat} {d1 d2:Tmp} {uE uC t t':TypeId} {p1 p2:String} {f1 f2:Array Edge} {u v w z:Operand} {x y:Code} {k:IntKind} {a b:Int} (hx:σ.eval u= .v (.int k a)) (hy:σ.eval v= .v (.int k b)) (hr:(a==b)=true) (hw:(σ.put (some d1) (.v (.bool true))).eval w= .v (.bool true)) (hz:((σ.put (some d1) (.v (.bool true))).put (some d2) (.v (.bool true))).eval z= .v (.bool true)) (h:D rb P x Q ((σ.put (some d1) (.v (.bool true))).put (some d2) (.v (.bool true)))):
    D rb P (.region id #[⟨some d1, .binOp .eql t u v t',uE,p1,f1,none⟩,⟨some d2, .assign w,uC,p2,f2,none⟩] false) (iG (D rb P (.cond z x y) Q) Q) σ:=an (l:=[⟨some d1, .binOp .eql t u v t',uE,p1,f1,none⟩,⟨some d2, .assign w,uC,p2,f2,none⟩]) (aj (bH u v hx hy hr) (aj (bB w hw) (ai (mA hz h))))
theorem bP {P:Program} {σ:St} {dd:Option Tmp} {ty:TypeId} {f:FuncId} {xs:Array Operand} {ats:Array TypeId} [C:bW P f] {args:List AV} {ins outs:List (ay×Cells)} {r:AV} {I Pn:List ay}
    (sp:Spec P f (aY args ins) (be r outs I Pn)) (ha:fb σ [] (xs.toList.map σ.eval) args:=by repeat' (first | exact cW | refine cG ?_ ?_ | exact Lv.v | exact cd (by assumption) | exact cd ab | exact Lv.sl | exact Lv.fp | exact Lv.nil | exact cY rfl rfl | exact eg rfl | refine Lv.agg rfl ?_ | refine Lv.fn rfl ?_ rfl ?_ | refine Lv.ifc ?_ | exact br | refine aB ?_ ?_))
    (hins:ee (bn []) σ (fun _=> false) (ins.map (·.1)) ins:=by exact ⟨⟨rfl,⟨_,rfl, .box rfl (by repeat' (first | exact br | refine aB ?_ ?_ | exact Lv.sl | exact Lv.v | exact Lv.nil | exact cY rfl rfl))⟩,rfl⟩,trivial⟩) (hfr:dU σ (bn []) (ins.map (·.1)) outs:=by exact ⟨rfl,trivial⟩)
    (hb:(AV.withins (ins.map (·.1)) args && bC (ins.map (·.1)) ins && bG ((ins.map (·.1)).map (bn [])) && bG (ins.map (·.1)) && bG ((outs.map (·.1)).map (bn [])) && bG (outs.map (·.1)) && fV (ins.map (·.1)) Pn outs && r.within (outs.map (·.1)) && bC (outs.map (·.1)) outs)=true:=by kernel_rfl):
    Stp P dd (.call { callee:= .value (.func f),args:=xs,argTypes:=ats }) ty σ ((σ.afterP (bn []) outs (ins.map (·.1)) I).put dd (r.ren (bn []))):=dm C [] ha sp hins hfr hb
theorem lz {ρ:ay→ay} {σ:St} {F:ay→Bool} {xs ys:List AV} (h: ∀ (j:Nat) (a b:AV),xs[j]? =some a→ys[j]? =some b→Lv ρ σ F a b:=by repeat' (first | exact br | refine aB ?_ ?_ | exact Lv.v | exact Lv.sl | exact Lv.nil | exact cY rfl rfl | exact eg rfl | exact Lv.fp | exact cd rfl | exact gy rfl | exact gS rfl rfl | refine Lv.fn rfl ?_ rfl ?_ | refine Lv.agg rfl ?_ | exact Lv.z)): ∀ (j:Nat) (a b:AV),xs[j]? =some a→ys[j]? =some b→Lv ρ σ F a b:=h
theorem tr {p:Prop} (h:p:=by repeat' (first | exact trivial | refine ⟨rfl,?_⟩)):p:=h
theorem ob {p:Prop} (h:p:=by repeat' (first | exact trivial | exact ⟨rfl,⟨_,rfl, .rowE rfl⟩,rfl⟩ | exact ⟨rfl,⟨_,rfl, .box ag (by repeat' (first | exact br | refine aB ?_ ?_ | exact Lv.v | exact Lv.sl | exact Lv.nil | exact cY rfl rfl | exact eg rfl | exact Lv.fp | exact cd rfl | exact gy rfl | exact gS rfl rfl | refine Lv.fn rfl ?_ rfl ?_ | refine Lv.agg rfl ?_ | exact Lv.z))⟩,rfl⟩ | refine ⟨?_,?_⟩)):p:=h
theorem Ce {ρ:ay→ay} {σ:St} {F:ay→Bool} {x0 x1 x2 x3:Value} {xs ys:List AV} (h: ∀ (j:Nat) (a b:AV),xs[j]? =some a→ys[j]? =some b→Lv ρ σ F a b): ∀ (j:Nat) (a b:AV),(.v x0:: .v x1:: .v x2:: .v x3::xs)[j]? =some a→(.v x0:: .v x1:: .v x2:: .v x3::ys)[j]? =some b→Lv ρ σ F a b:=aB .v (aB .v (aB .v (aB .v h)))
theorem uD {ρ:ay→ay} {σ:St} {F:ay→Bool} {x0 x1 x2 x3 x4 x5 x6 x7 x8 x9:Value} {xs ys:List AV} (h: ∀ (j:Nat) (a b:AV),xs[j]? =some a→ys[j]? =some b→Lv ρ σ F a b): ∀ (j:Nat) (a b:AV),(.v x0:: .v x1:: .v x2:: .v x3:: .v x4:: .v x5:: .v x6:: .v x7:: .v x8:: .v x9::xs)[j]? =some a→(.v x0:: .v x1:: .v x2:: .v x3:: .v x4:: .v x5:: .v x6:: .v x7:: .v x8:: .v x9::ys)[j]? =some b→Lv ρ σ F a b:=aB .v (aB .v (aB .v (aB .v (aB .v (aB .v (aB .v (aB .v (aB .v (aB .v h)))))))))
theorem px {ρ:ay→ay} {σ:St} {F:ay→Bool} {k0:IntKind} {x0 y0:Int} {xs ys:List AV} (h: ∀ (j:Nat) (a b:AV),xs[j]? =some a→ys[j]? =some b→Lv ρ σ F a b) (e0:x0=y0:=by rfl): ∀ (j:Nat) (a b:AV),(.v (.int k0 x0)::xs)[j]? =some a→(.v (.int k0 y0)::ys)[j]? =some b→Lv ρ σ F a b:=aB (cd e0) h
theorem yb {ρ:ay→ay} {σ:St} {F:ay→Bool} {k0 k1 k2 k3:IntKind} {x0 x1 x2 x3 y0 y1 y2 y3:Int} {xs ys:List AV} (h: ∀ (j:Nat) (a b:AV),xs[j]? =some a→ys[j]? =some b→Lv ρ σ F a b) (e0:x0=y0:=by rfl) (e1:x1=y1:=by rfl) (e2:x2=y2:=by rfl) (e3:x3=y3:=by rfl): ∀ (j:Nat) (a b:AV),(.v (.int k0 x0):: .v (.int k1 x1):: .v (.int k2 x2):: .v (.int k3 x3)::xs)[j]? =some a→(.v (.int k0 y0):: .v (.int k1 y1):: .v (.int k2 y2):: .v (.int k3 y3)::ys)[j]? =some b→Lv ρ σ F a b:=aB (cd e0) (aB (cd e1) (aB (cd e2) (aB (cd e3) h)))
theorem qr {ρ:ay→ay} {σ:St} {F:ay→Bool} {k0 k1 k2 k3 k4 k5 k6 k7 k8 k9:IntKind} {x0 x1 x2 x3 x4 x5 x6 x7 x8 x9 y0 y1 y2 y3 y4 y5 y6 y7 y8 y9:Int} {xs ys:List AV} (h: ∀ (j:Nat) (a b:AV),xs[j]? =some a→ys[j]? =some b→Lv ρ σ F a b) (e0:x0=y0:=by rfl) (e1:x1=y1:=by rfl) (e2:x2=y2:=by rfl) (e3:x3=y3:=by rfl) (e4:x4=y4:=by rfl) (e5:x5=y5:=by rfl) (e6:x6=y6:=by rfl) (e7:x7=y7:=by rfl) (e8:x8=y8:=by rfl) (e9:x9=y9:=by rfl): ∀ (j:Nat) (a b:AV),(.v (.int k0 x0):: .v (.int k1 x1):: .v (.int k2 x2):: .v (.int k3 x3):: .v (.int k4 x4):: .v (.int k5 x5):: .v (.int k6 x6):: .v (.int k7 x7):: .v (.int k8 x8):: .v (.int k9 x9)::xs)[j]? =some a→(.v (.int k0 y0):: .v (.int k1 y1):: .v (.int k2 y2):: .v (.int k3 y3):: .v (.int k4 y4):: .v (.int k5 y5):: .v (.int k6 y6):: .v (.int k7 y7):: .v (.int k8 y8):: .v (.int k9 y9)::ys)[j]? =some b→Lv ρ σ F a b:=aB (cd e0) (aB (cd e1) (aB (cd e2) (aB (cd e3) (aB (cd e4) (aB (cd e5) (aB (cd e6) (aB (cd e7) (aB (cd e8) (aB (cd e9) h)))))))))
end Go.Proofs.YtmjnackchaahbaaGreat

namespace Go.Proofs.YtmjnackchaahbaaGreat

inductive Opc where
  | push | var | setVar | name | draw | add | sub | mul | div | neg | lt | le | eq | not | jump | unl | send | timer | cancel | sync | reply | fail | stop
  deriving DecidableEq
def Opc.num:Opc→Nat
  | .push=> 1 | .var=> 2 | .setVar=> 3 | .name=> 4 | .draw=> 5 | .add=> 6 | .sub=> 7 | .mul=> 8 | .div=> 9 | .neg=> 10 | .lt=> 11 | .le=> 12 | .eq=> 13 | .not=> 14
  | .jump=> 15 | .unl=> 16 | .send=> 17 | .timer=> 18 | .cancel=> 19 | .sync=> 20 | .reply=> 21 | .fail=> 22 | .stop=> 23
def Opc.pops:Opc→Nat
  | .push=> 0 | .var=> 0 | .setVar=> 1 | .name=> 0 | .draw=> 1 | .add=> 2 | .sub=> 2 | .mul=> 2 | .div=> 2 | .neg=> 1 | .lt=> 2 | .le=> 2 | .eq=> 2 | .not=> 1
  | .jump=> 0 | .unl=> 1 | .send=> 3 | .timer=> 0 | .cancel=> 0 | .sync=> 0 | .reply=> 2 | .fail=> 1 | .stop=> 0
def Opc.puts:Opc→Nat
  | .push=> 1 | .var=> 1 | .setVar=> 0 | .name=> 1 | .draw=> 1 | .add=> 1 | .sub=> 1 | .mul=> 1 | .div=> 1 | .neg=> 1 | .lt=> 1 | .le=> 1 | .eq=> 1 | .not=> 1
  | .jump=> 0 | .unl=> 0 | .send=> 0 | .timer=> 0 | .cancel=> 0 | .sync=> 0 | .reply=> 0 | .fail=> 0 | .stop=> 0
structure dY where
  op:Opc
  n:Int:=0
inductive Bo where
  | add | sub | mul | div | lt | le | eq | gt | ge | ne
  deriving DecidableEq
def Bo.text:Bo→String
  | .add=> "+" | .sub=> "-" | .mul=> "*" | .div=> "/" | .lt=> "<" | .le=> "<=" | .eq=> "==" | .gt=> ">" | .ge=> ">=" | .ne=> "!="
def Bo.code:Bo→List dY
  | .add=> [{ op:= .add }] | .sub=> [{ op:= .sub }] | .mul=> [{ op:= .mul }] | .div=> [{ op:= .div }] | .lt=> [{ op:= .lt }] | .le=> [{ op:= .le }] | .eq=> [{ op:= .eq }]
  | .gt=> [{ op:= .le },{ op:= .not }] | .ge=> [{ op:= .lt },{ op:= .not }] | .ne=> [{ op:= .eq },{ op:= .not }]
inductive Ex where
  | int (n:Int) | bool (b:Bool) | var (i:Nat) | name (k:Nat) | draw (e:Ex) | neg (e:Ex) | not (e:Ex) | bin (o:Bo) (a b:Ex) | and (a b:Ex) | or (a b:Ex)
mutual
inductive Sm where
  | assign (i:Nat) (e:Ex) | send (to:Ex) (k:Nat) (a b:Ex) | timer (k:Nat) | cancel (k:Nat) | sync | stop | reply (a b:Ex) | fail (e:Ex) | loop (c:Ex) (b:Bk) | ite (c:Ex) (a b:Bk)
inductive Bk where
  | nil | cons (s:Sm) (b:Bk)
end

def bz:Ex→Nat→List dY
  | .int n,_=> [{ op:= .push,n:=n }]
  | .bool b,_=> [{ op:= .push,n:=if b then 1 else 0 }]
  | .var i,_=> [{ op:= .var,n:=i }]
  | .name k,_=> [{ op:= .name,n:=k }]
  | .draw e,at_=> bz e at_++[{ op:= .draw }]
  | .neg e,at_=> bz e at_++[{ op:= .neg }]
  | .not e,at_=> bz e at_++[{ op:= .not }]
  | .bin o a b,at_=> bz a at_++bz b (at_+(bz a at_).length)++o.code
  | .and a b,at_=>
    let c:=bz a at_
    let x:=bz b (at_+c.length+1)
    let f:=at_+c.length+1+x.length+1
    c++[{ op:= .unl,n:=(f:Nat) }]++x++[{ op:= .jump,n:=((f+1:Nat):Int) }]++[{ op:= .push,n:=0 }]
  | .or a b,at_=>
    let c:=bz a at_
    let f:=at_+c.length+1+1+1
    let x:=bz b f
    c++[{ op:= .unl,n:=(f:Nat) }]++[{ op:= .push,n:=1 }]++[{ op:= .jump,n:=((f+x.length:Nat):Int) }]++x
mutual
def cN:Sm→Nat→List dY
  | .assign i e,at_=> bz e at_++[{ op:= .setVar,n:=i }]
  | .send t k a b,at_=>
    let c:=bz t at_
    let d:=bz a (at_+c.length)
    c++d++bz b (at_+(c.length+d.length))++[{ op:= .send,n:=k }]
  | .timer k,_=> [{ op:= .timer,n:=k }]
  | .cancel k,_=> [{ op:= .cancel,n:=k }]
  | .sync,_=> [{ op:= .sync }]
  | .stop,_=> [{ op:= .stop }]
  | .reply a b,at_=> bz a at_++bz b (at_+(bz a at_).length)++[{ op:= .reply }]
  | .fail e,at_=> bz e at_++[{ op:= .fail }]
  | .loop c b,at_=>
    let x:=bz c at_
    let y:=di b (at_+x.length+1)
    x++[{ op:= .unl,n:=((at_+x.length+y.length+2:Nat):Int) }]++y++[{ op:= .jump,n:=(at_:Nat) }]
  | .ite c a b,at_=>
    let x:=bz c at_
    let y:=di a (at_+x.length+1)
    let f:=at_+x.length+1+y.length+1
    let z:=di b f
    x++[{ op:= .unl,n:=(f:Nat) }]++y++[{ op:= .jump,n:=((f+z.length:Nat):Int) }]++z
def di:Bk→Nat→List dY
  | .nil,_=> []
  | .cons s b,at_=> cN s at_++di b (at_+(cN s at_).length)
end

def db (i:Nat) (x:dY):List Nat:=match x.op with
  | .stop=> []
  | .jump=> [x.n.toNat]
  | .unl=> [i+1,x.n.toNat]
  | _=> [i+1]
def cJ (nv:Nat) (x:dY):Prop:=match x.op with
  | .push=> -2147483647≤x.n∧x.n≤2147483647
  | .var=> 0≤x.n∧x.n < nv
  | .setVar=> 0≤x.n∧x.n < nv
  | .name=> 0≤x.n∧x.n < 9
  | .send=> 0≤x.n∧x.n < 30
  | .timer=> 0≤x.n∧x.n < 8
  | .cancel=> 0≤x.n∧x.n < 8
  | _=> 0≤x.n
def Good (D:Nat→Nat) (nv lo hi at_:Nat) (c:List dY):Prop:= ∀ k x,c[k]? =some x→cJ nv x∧x.op.pops≤D (at_+k)∧ ∀ j∈db (at_+k) x,lo≤j∧j≤hi∧D j=D (at_+k) - x.op.pops+x.op.puts
theorem Good.app {D:Nat→Nat} {nv lo hi a p:Nat} {c c':List dY} (h:Good D nv lo hi a c) (h':Good D nv lo hi p c') (hp:p=a+c.length):Good D nv lo hi a (c++c'):=by
  subst hp
  intro k x hx
  by_cases hk:k < c.length
  · rw [List.getElem?_append_left hk] at hx
    exact h k x hx
  · rw [List.getElem?_append_right ab] at hx
    have:=h' _ x hx
    rwa [show a+c.length+(k - c.length)=a+k by omega] at this
theorem Good.one {D:Nat→Nat} {nv lo hi a:Nat} {x:dY} (h1:cJ nv x) (h2:x.op.pops≤D a) (h3: ∀ j∈db a x,lo≤j∧j≤hi∧D j=D a - x.op.pops+x.op.puts):Good D nv lo hi a [x]:=by
  intro k y hy
  cases k with
  | zero=> simp at hy;subst hy;exact ⟨h1,h2,h3⟩
  | succ k=> simp at hy
theorem Good.nil {D:Nat→Nat} {nv lo hi a:Nat}:Good D nv lo hi a []:=fun k x hx=> by simp at hx
theorem Good.mono {D:Nat→Nat} {nv lo hi lo' hi' a:Nat} {c:List dY} (h:Good D nv lo hi a c) (h1:lo'≤lo) (h2:hi≤hi'):Good D nv lo' hi' a c:=fun k x hx=> by
  obtain ⟨a1,a2,a3⟩:=h k x hx
  exact ⟨a1,a2,fun j hj=> by obtain ⟨b1,b2,b3⟩:=a3 j hj;exact ⟨by omega,by omega,b3⟩⟩
def Fit (D:Nat→Nat) (a:Nat) (ds:List Nat):Prop:= ∀ k d,ds[k]? =some d→D (a+k)=d
theorem Fit.left {D:Nat→Nat} {a:Nat} {l m:List Nat} (h:Fit D a (l++m)):Fit D a l:=fun k d hd=> h k d (by
  rw [List.getElem?_append_left (List.getElem?_eq_some_iff.1 hd).1];exact hd)
theorem Fit.right {D:Nat→Nat} {a:Nat} {l m:List Nat} (h:Fit D a (l++m)):Fit D (a+l.length) m:=fun k d hd=> by
  have:=h (l.length+k) d (by rw [List.getElem?_append_right ab,Nat.add_sub_cancel_left];exact hd)
  rwa [← Nat.add_assoc] at this
theorem Fit.hd {D:Nat→Nat} {a d:Nat} {l:List Nat} (h:Fit D a (d::l)):D a=d:=h 0 d rfl
def cX:Ex→Nat→List Nat
  | .int _,d=> [d] | .bool _,d=> [d] | .var _,d=> [d] | .name _,d=> [d]
  | .draw e,d=> cX e d++[d+1] | .neg e,d=> cX e d++[d+1] | .not e,d=> cX e d++[d+1]
  | .bin o a b,d=> cX a d++cX b (d+1)++(match o with | .gt=> [d+2,d+1] | .ge=> [d+2,d+1] | .ne=> [d+2,d+1] | _=> [d+2])
  | .and a b,d=> cX a d++[d+1]++cX b d++[d+1]++[d]
  | .or a b,d=> cX a d++[d+1]++[d]++[d+1]++cX b d
mutual
def dD:Sm→List Nat
  | .assign _ e=> cX e 0++[1]
  | .send t _ a b=> cX t 0++cX a 1++cX b 2++[3]
  | .timer _=> [0] | .cancel _=> [0] | .sync=> [0] | .stop=> [0]
  | .reply a b=> cX a 0++cX b 1++[2]
  | .fail e=> cX e 0++[1]
  | .loop c b=> cX c 0++[1]++jQ b++[0]
  | .ite c a b=> cX c 0++[1]++jQ a++[0]++jQ b
def jQ:Bk→List Nat
  | .nil=> []
  | .cons s b=> dD s++jQ b
end
theorem bM: ∀ (e:Ex) (d a:Nat),(cX e d).length=(bz e a).length
  | .int _,_,_=> rfl | .bool _,_,_=> rfl | .var _,_,_=> rfl | .name _,_,_=> rfl
  | .draw e,d,a=> by simp [cX,bz,bM e d a]
  | .neg e,d,a=> by simp [cX,bz,bM e d a]
  | .not e,d,a=> by simp [cX,bz,bM e d a]
  | .bin o x y,d,a=> by cases o <;> simp [cX,bz,Bo.code,bM x d a,bM y (d+1) (a+(bz x a).length)]
  | .and x y,d,a=> by simp [cX,bz,bM x d a,bM y d (a+(bz x a).length+1)]
  | .or x y,d,a=> by simp [cX,bz,bM x d a,bM y d (a+(bz x a).length+1+1+1)]
mutual
theorem pW: ∀ (s:Sm) (a:Nat),(dD s).length=(cN s a).length
  | .assign i e,a=> by simp [dD,cN,bM e 0 a]
  | .send t k x y,a=> by simp [dD,cN,bM t 0 a,bM x 1 (a+(bz t a).length),bM y 2 (a+((bz t a).length+(bz x (a+(bz t a).length)).length))]
  | .timer _,_=> by simp [dD,cN] | .cancel _,_=> by simp [dD,cN] | .sync,_=> by simp [dD,cN] | .stop,_=> by simp [dD,cN]
  | .reply x y,a=> by simp [dD,cN,bM x 0 a,bM y 1 (a+(bz x a).length)]
  | .fail e,a=> by simp [dD,cN,bM e 0 a]
  | .loop c b,a=> by simp [dD,cN,bM c 0 a,ff b (a+(bz c a).length+1)]
  | .ite c x y,a=> by simp [dD,cN,bM c 0 a,ff x (a+(bz c a).length+1),ff y (a+(bz c a).length+1+(di x (a+(bz c a).length+1)).length+1)]
theorem ff: ∀ (b:Bk) (a:Nat),(jQ b).length=(di b a).length
  | .nil,_=> by simp [jQ,di]
  | .cons s b,a=> by simp [jQ,di,pW s a,ff b (a+(cN s a).length)]
end
theorem succs_jump {i j f:Nat}:j∈db i { op:= .jump,n:=(f:Int) }↔j=f:=by simp [db]
theorem succs_unless {i j f:Nat}:j∈db i { op:= .unl,n:=(f:Int) }↔j=i+1∨j=f:=by simp [db]
theorem dN: ∀ (e:Ex) (d:Nat),∃ l,cX e d=d::l
  | .int _,_=> ⟨_,rfl⟩ | .bool _,_=> ⟨_,rfl⟩ | .var _,_=> ⟨_,rfl⟩ | .name _,_=> ⟨_,rfl⟩
  | .draw e,d=> by obtain ⟨l,h⟩:=dN e d;exact ⟨l++[d+1],by simp [cX,h]⟩
  | .neg e,d=> by obtain ⟨l,h⟩:=dN e d;exact ⟨l++[d+1],by simp [cX,h]⟩
  | .not e,d=> by obtain ⟨l,h⟩:=dN e d;exact ⟨l++[d+1],by simp [cX,h]⟩
  | .bin o x y,d=> by obtain ⟨l,h⟩:=dN x d;cases o <;> exact ⟨_,by simp only [cX,h,List.cons_append];rfl⟩
  | .and x y,d=> by obtain ⟨l,h⟩:=dN x d;exact ⟨_,by rw [cX,h];rfl⟩
  | .or x y,d=> by obtain ⟨l,h⟩:=dN x d;exact ⟨_,by rw [cX,h];rfl⟩
theorem Fit.e {D:Nat→Nat} {a d:Nat} {e:Ex} (h:Fit D a (cX e d)):D a=d:=by
  obtain ⟨l,hl⟩:=dN e d
  rw [hl] at h
  exact h.hd
def fy (nv:Nat):Ex→Prop
  | .int n=> -2147483647≤n∧n≤2147483647
  | .bool _=> True
  | .var i=> i < nv
  | .name k=> k < 9
  | .draw e=> fy nv e | .neg e=> fy nv e | .not e=> fy nv e
  | .bin _ a b=> fy nv a∧fy nv b
  | .and a b=> fy nv a∧fy nv b
  | .or a b=> fy nv a∧fy nv b
mutual
def fa (nv:Nat):Sm→Prop
  | .assign i e=> i < nv∧fy nv e
  | .send t k a b=> k < 30∧fy nv t∧fy nv a∧fy nv b
  | .timer k=> k < 8 | .cancel k=> k < 8 | .sync=> True | .stop=> True
  | .reply a b=> fy nv a∧fy nv b
  | .fail e=> fy nv e
  | .loop c b=> fy nv c∧iu nv b
  | .ite c a b=> fy nv c∧iu nv a∧iu nv b
def iu (nv:Nat):Bk→Prop
  | .nil=> True
  | .cons s b=> fa nv s∧iu nv b
end
theorem fu (D:Nat→Nat) (nv:Nat): ∀ (e:Ex) (d a lo hi:Nat),fy nv e→Fit D a (cX e d)→D (a+(bz e a).length)=d+1→lo≤a→a+(bz e a).length≤hi→Good D nv lo hi a (bz e a)
  | .int n,d,a,lo,hi,ho,hf,hx,hl,hh=> by
    simp only [bz,List.length_cons,List.length_nil] at*
    have:=hf.e
    exact .one ho (Nat.zero_le _) fun j hj=> by simp [db] at hj;subst hj;exact ⟨by omega,by omega,by rw [hx,this];rfl⟩
  | .bool b,d,a,lo,hi,ho,hf,hx,hl,hh=> by
    simp only [bz,List.length_cons,List.length_nil] at*
    have:=hf.e
    exact .one (by cases b <;> simp [cJ]) (Nat.zero_le _) fun j hj=> by simp [db] at hj;subst hj;exact ⟨by omega,by omega,by rw [hx,this];rfl⟩
  | .var i,d,a,lo,hi,ho,hf,hx,hl,hh=> by
    simp only [bz,List.length_cons,List.length_nil] at*
    have:=hf.e
    exact .one (by simp only [fy] at ho;simp only [cJ];omega) (Nat.zero_le _) fun j hj=> by simp [db] at hj;subst hj;exact ⟨by omega,by omega,by rw [hx,this];rfl⟩
  | .name k,d,a,lo,hi,ho,hf,hx,hl,hh=> by
    simp only [bz,List.length_cons,List.length_nil] at*
    have:=hf.e
    exact .one (by simp only [fy] at ho;simp only [cJ];omega) (Nat.zero_le _) fun j hj=> by simp [db] at hj;subst hj;exact ⟨by omega,by omega,by rw [hx,this];rfl⟩
  | .draw e,d,a,lo,hi,ho,hf,hx,hl,hh=> by
    simp only [bz,cX,List.length_append,List.length_cons,List.length_nil] at*
    have h1:=hf.right.hd
    rw [bM e d a] at h1
    refine (fu D nv e d a lo hi ho hf.left h1 hl ab).app (.one (by simp [cJ]) (by rw [h1];exact Nat.le_add_left _ _) fun j hj=> ?_) rfl
    simp [db] at hj;subst hj
    exact ⟨by omega,by omega,by rw [Nat.add_assoc,hx,h1];rfl⟩
  | .neg e,d,a,lo,hi,ho,hf,hx,hl,hh=> by
    simp only [bz,cX,List.length_append,List.length_cons,List.length_nil] at*
    have h1:=hf.right.hd
    rw [bM e d a] at h1
    refine (fu D nv e d a lo hi ho hf.left h1 hl ab).app (.one (by simp [cJ]) (by rw [h1];exact Nat.le_add_left _ _) fun j hj=> ?_) rfl
    simp [db] at hj;subst hj
    exact ⟨by omega,by omega,by rw [Nat.add_assoc,hx,h1];rfl⟩
  | .not e,d,a,lo,hi,ho,hf,hx,hl,hh=> by
    simp only [bz,cX,List.length_append,List.length_cons,List.length_nil] at*
    have h1:=hf.right.hd
    rw [bM e d a] at h1
    refine (fu D nv e d a lo hi ho hf.left h1 hl ab).app (.one (by simp [cJ]) (by rw [h1];exact Nat.le_add_left _ _) fun j hj=> ?_) rfl
    simp [db] at hj;subst hj
    exact ⟨by omega,by omega,by rw [Nat.add_assoc,hx,h1];rfl⟩
  | .bin o x y,d,a,lo,hi,ho,hf,hx,hl,hh=> by
    simp only [bz,cX,List.length_append] at*
    have hf1:=hf.left.left
    have hf2:=hf.left.right
    have hf3:=hf.right
    rw [bM x d a] at hf2
    rw [List.length_append,bM x d a,bM y (d+1) (a+(bz x a).length)] at hf3
    have e2:=hf2.e
    have hy:D (a+(bz x a).length+(bz y (a+(bz x a).length)).length)=d+2:=by
      rw [Nat.add_assoc]
      cases o <;> exact hf3.hd
    refine ((fu D nv x d a lo hi ho.1 hf1 e2 hl ab).app (fu D nv y (d+1) _ lo hi ho.2 hf2 hy ab ab) rfl).app (p:=a+(bz x a).length+(bz y (a+(bz x a).length)).length) ?_ (by rw [List.length_append];omega)
    have hx':D (a+(bz x a).length+(bz y (a+(bz x a).length)).length+o.code.length)=d+1:=by rw [← hx];congr 1;omega
    have hh':a+(bz x a).length+(bz y (a+(bz x a).length)).length+o.code.length≤hi:=by omega
    have hl':lo≤a+(bz x a).length+(bz y (a+(bz x a).length)).length:=by omega
    rw [← Nat.add_assoc] at hf3
    clear hf hf1 hf2 e2 hx hh hl
    generalize a+(bz x a).length+(bz y (a+(bz x a).length)).length=p at hf3 hy hx' hh' hl'
    have one: ∀ (q:Nat) (op:Opc),lo≤q→q+1≤hi→cJ nv { op:=op }→(∀ i,db i { op:=op }=[i+1])→op.pops≤D q→D (q+1)=D q - op.pops+op.puts→Good D nv lo hi q [{ op:=op }]:=fun q op q1 q2 q3 q4 q5 q6=>
      .one q3 q5 fun j hj=> by rw [q4] at hj;simp at hj;subst hj;exact ⟨by omega,q2,q6⟩
    have two: ∀ (op:Opc),cJ nv { op:=op }→(∀ i,db i { op:=op }=[i+1])→op.pops=2→op.puts=1→D (p+2)=d+1→D (p+1)=d+1→p+2≤hi→Good D nv lo hi p [{ op:=op },{ op:= .not }]:=fun op q1 q2 q3 q4 q5 q6 q7=>
      (one p op hl' ab q1 q2 (by rw [hy,q3];omega) (by rw [q6,hy,q3,q4];omega)).app (one (p+1) .not ab q7 (by simp [cJ]) (fun _=> rfl) (by rw [q6];exact Nat.le_add_left _ _) (by rw [q5,q6];rfl)) rfl
    cases o
    case gt=> exact two .le (by simp [cJ]) (fun _=> rfl) rfl rfl hx' (hf3 1 _ rfl) hh'
    case ge=> exact two .lt (by simp [cJ]) (fun _=> rfl) rfl rfl hx' (hf3 1 _ rfl) hh'
    case ne=> exact two .eq (by simp [cJ]) (fun _=> rfl) rfl rfl hx' (hf3 1 _ rfl) hh'
    all_goals exact one p _ hl' hh' (by simp [cJ]) (fun _=> rfl) (by rw [hy];exact Nat.le_add_left _ _) (by rw [show D (p+1)=d+1 from hx',hy];rfl)
  | .and x y,d,a,lo,hi,ho,hf,hx,hl,hh=> by
    simp only [bz,cX,List.length_append,List.length_cons,List.length_nil] at*
    have f1:=hf.left.left.left.left
    have f2:=hf.left.left.left.right
    have f3:=hf.left.left.right
    have f4:=hf.left.right
    have f5:=hf.right
    simp only [List.length_append,List.length_cons,List.length_nil,bM x d a,bM y d (a+(bz x a).length+1)] at f2 f3 f4 f5
    have e2:=f2.hd;have e4:=f4.hd;have e5:=f5.hd
    generalize hc:bz x a=c at*
    rw [show a+(c.length+(0+1))=a+c.length+1 by omega] at f3
    have e3:=f3.e
    generalize hz:bz y (a+c.length+1)=z at*
    have g1:=fu D nv x d a lo hi ho.1 f1 (by rw [hc];exact e2) hl (by rw [hc];omega)
    have g3:=fu D nv y d (a+c.length+1) lo hi ho.2 f3 (by rw [hz,← e4];congr 1;omega) ab (by rw [hz];omega)
    rw [hc] at g1
    rw [hz] at g3
    refine (((g1.app (.one (by simp [cJ];omega) (by rw [e2];exact Nat.le_add_left _ _) fun j hj=> ?_) rfl).app g3 (by simp;omega)).app (p:=a+c.length+1+z.length) (.one (by simp [cJ];omega) (Nat.zero_le _) fun j hj=> ?_) (by simp;omega)).app (p:=a+c.length+1+z.length+1) (.one (by simp [cJ]) (Nat.zero_le _) fun j hj=> ?_) (by simp;omega)
    · rcases succs_unless.1 hj with rfl | rfl
      · exact ⟨by omega,by omega,by rw [e3,e2];rfl⟩
      · exact ⟨by omega,by omega,by rw [show a+c.length+1+z.length+1=a+(c.length+(0+1)+z.length+(0+1)) by omega,e5,e2];rfl⟩
    · obtain rfl:=succs_jump.1 hj
      exact ⟨by omega,by omega,by rw [show a+c.length+1+z.length+1+1=a+(c.length+(0+1)+z.length+(0+1)+(0+1)) by omega,hx,show a+c.length+1+z.length=a+(c.length+(0+1)+z.length) by omega,e4];rfl⟩
    · simp [db] at hj;subst hj
      exact ⟨by omega,by omega,by rw [show a+c.length+1+z.length+1+1=a+(c.length+(0+1)+z.length+(0+1)+(0+1)) by omega,hx,show a+c.length+1+z.length+1=a+(c.length+(0+1)+z.length+(0+1)) by omega,e5];rfl⟩
  | .or x y,d,a,lo,hi,ho,hf,hx,hl,hh=> by
    simp only [bz,cX,List.length_append,List.length_cons,List.length_nil] at*
    have f1:=hf.left.left.left.left
    have f2:=hf.left.left.left.right
    have f3:=hf.left.left.right
    have f4:=hf.left.right
    have f5:=hf.right
    simp only [List.length_append,List.length_cons,List.length_nil,bM x d a] at f2 f3 f4 f5
    have e2:=f2.hd;have e3:=f3.hd;have e4:=f4.hd
    generalize hc:bz x a=c at*
    rw [show a+(c.length+(0+1)+(0+1)+(0+1))=a+c.length+1+1+1 by omega] at f5
    have e5:=f5.e
    generalize hz:bz y (a+c.length+1+1+1)=z at*
    have g1:=fu D nv x d a lo hi ho.1 f1 (by rw [hc];exact e2) hl (by rw [hc];omega)
    have g5:=fu D nv y d (a+c.length+1+1+1) lo hi ho.2 f5 (by rw [hz,← hx];congr 1;omega) ab (by rw [hz];omega)
    rw [hc] at g1
    rw [hz] at g5
    refine (((g1.app (.one (by simp [cJ];omega) (by rw [e2];exact Nat.le_add_left _ _) fun j hj=> ?_) rfl).app (p:=a+c.length+1) (.one (by simp [cJ]) (Nat.zero_le _) fun j hj=> ?_) (by simp;omega)).app (p:=a+c.length+1+1) (.one (by simp [cJ];omega) (Nat.zero_le _) fun j hj=> ?_) (by simp;omega)).app g5 (by simp;omega)
    · rcases succs_unless.1 hj with rfl | rfl
      · exact ⟨by omega,by omega,by rw [show a+c.length+1=a+(c.length+(0+1)) by omega,e3,e2];rfl⟩
      · exact ⟨by omega,by omega,by rw [e5,e2];rfl⟩
    · simp [db] at hj;subst hj
      exact ⟨by omega,by omega,by rw [show a+c.length+1+1=a+(c.length+(0+1)+(0+1)) by omega,e4,show a+c.length+1=a+(c.length+(0+1)) by omega,e3];rfl⟩
    · obtain rfl:=succs_jump.1 hj
      exact ⟨by omega,by omega,by rw [show a+c.length+1+1+1+z.length=a+(c.length+(0+1)+(0+1)+(0+1)+z.length) by omega,hx,show a+c.length+1+1=a+(c.length+(0+1)+(0+1)) by omega,e4];rfl⟩
theorem zd: ∀ (s:Sm),∃ l,dD s=0::l
  | .assign _ e=> by obtain ⟨l,h⟩:=dN e 0;exact ⟨_,by simp only [dD,h,List.cons_append];rfl⟩
  | .send t _ a b=> by obtain ⟨l,h⟩:=dN t 0;exact ⟨_,by simp only [dD,h,List.cons_append];rfl⟩
  | .timer _=> ⟨_,by simp only [dD];rfl⟩ | .cancel _=> ⟨_,by simp only [dD];rfl⟩ | .sync=> ⟨_,by simp only [dD];rfl⟩ | .stop=> ⟨_,by simp only [dD];rfl⟩
  | .reply a b=> by obtain ⟨l,h⟩:=dN a 0;exact ⟨_,by simp only [dD,h,List.cons_append];rfl⟩
  | .fail e=> by obtain ⟨l,h⟩:=dN e 0;exact ⟨_,by simp only [dD,h,List.cons_append];rfl⟩
  | .loop c b=> by obtain ⟨l,h⟩:=dN c 0;exact ⟨_,by simp only [dD,h,List.cons_append];rfl⟩
  | .ite c a b=> by obtain ⟨l,h⟩:=dN c 0;exact ⟨_,by simp only [dD,h,List.cons_append];rfl⟩
theorem Fit.s {D:Nat→Nat} {a:Nat} {s:Sm} (h:Fit D a (dD s)):D a=0:=by
  obtain ⟨l,hl⟩:=zd s
  rw [hl] at h
  exact h.hd
theorem Fit.b {D:Nat→Nat} {a:Nat} {b:Bk} (h:Fit D a (jQ b)) (hx:D (a+(di b a).length)=0):D a=0:=by
  cases b with
  | nil=> simpa [di] using hx
  | cons s b=> simp only [jQ] at h;exact h.left.s
theorem ix {D:Nat→Nat} {nv lo hi a:Nat} {op:Opc} {n:Int} (hs: ∀ i,db i { op:=op,n:=n }=[i+1]) (ho:cJ nv { op:=op,n:=n }) (h1:op.pops≤D a) (h2:D (a+1)=D a - op.pops+op.puts) (hl:lo≤a) (hh:a+1≤hi):Good D nv lo hi a [{ op:=op,n:=n }]:=
  .one ho h1 fun j hj=> by rw [hs] at hj;simp at hj;subst hj;exact ⟨by omega,hh,h2⟩
mutual
theorem CE (D:Nat→Nat) (nv:Nat): ∀ (s:Sm) (a lo hi:Nat),fa nv s→Fit D a (dD s)→D (a+(cN s a).length)=0→lo≤a→a+(cN s a).length≤hi→Good D nv lo hi a (cN s a)
  | .assign i e,a,lo,hi,ho,hf,hx,hl,hh=> by
    simp only [cN,dD,fa,List.length_append,List.length_cons,List.length_nil] at*
    have h1:=hf.right.hd
    rw [bM e 0 a] at h1
    exact (fu D nv e 0 a lo hi ho.2 hf.left h1 hl ab).app (ix (fun _=> rfl) (by simp only [cJ];omega) (by rw [h1];exact Nat.le_refl _) (by rw [Nat.add_assoc,hx,h1];rfl) ab ab) rfl
  | .send t k x y,a,lo,hi,ho,hf,hx,hl,hh=> by
    simp only [cN,dD,fa,List.length_append,List.length_cons,List.length_nil] at*
    have f1:=hf.left.left.left
    have f2:=hf.left.left.right
    have f3:=hf.left.right
    have f4:=hf.right
    simp only [List.length_append,bM t 0 a,bM x 1 (a+(bz t a).length),bM y 2 (a+((bz t a).length+(bz x (a+(bz t a).length)).length))] at f2 f3 f4
    have e2:=f2.e;have e3:=f3.e;have e4:=f4.hd
    have g1:=fu D nv t 0 a lo hi ho.2.1 f1 e2 hl ab
    have g2:=fu D nv x 1 _ lo hi ho.2.2.1 f2 (by rw [Nat.add_assoc];exact e3) ab ab
    have g3:=fu D nv y 2 _ lo hi ho.2.2.2 f3 (by rw [Nat.add_assoc];exact e4) ab ab
    exact ((g1.app g2 rfl).app g3 (by rw [List.length_append])).app (ix (fun _=> rfl) (by simp only [cJ];omega) (by rw [e4];exact Nat.le_refl _) (by rw [Nat.add_assoc,hx,e4];rfl) ab ab) (by simp only [List.length_append])
  | .timer k,a,lo,hi,ho,hf,hx,hl,hh=> by
    simp only [cN,dD,fa,List.length_cons,List.length_nil] at*
    have:=hf.hd
    exact ix (fun _=> rfl) (by simp only [cJ];omega) (Nat.zero_le _) (by rw [show a+1=a+(0+1) from rfl,hx,this];rfl) hl hh
  | .cancel k,a,lo,hi,ho,hf,hx,hl,hh=> by
    simp only [cN,dD,fa,List.length_cons,List.length_nil] at*
    have:=hf.hd
    exact ix (fun _=> rfl) (by simp only [cJ];omega) (Nat.zero_le _) (by rw [show a+1=a+(0+1) from rfl,hx,this];rfl) hl hh
  | .sync,a,lo,hi,ho,hf,hx,hl,hh=> by
    simp only [cN,dD,fa,List.length_cons,List.length_nil] at*
    have:=hf.hd
    exact ix (fun _=> rfl) (by simp [cJ]) (Nat.zero_le _) (by rw [show a+1=a+(0+1) from rfl,hx,this];rfl) hl hh
  | .stop,a,lo,hi,ho,hf,hx,hl,hh=> by
    simp only [cN]
    exact .one (by simp [cJ]) (Nat.zero_le _) fun j hj=> by simp [db] at hj
  | .reply x y,a,lo,hi,ho,hf,hx,hl,hh=> by
    simp only [cN,dD,fa,List.length_append,List.length_cons,List.length_nil] at*
    have f1:=hf.left.left
    have f2:=hf.left.right
    have f3:=hf.right
    simp only [List.length_append,bM x 0 a,bM y 1 (a+(bz x a).length)] at f2 f3
    have e2:=f2.e;have e3:=f3.hd
    have g1:=fu D nv x 0 a lo hi ho.1 f1 e2 hl ab
    have g2:=fu D nv y 1 _ lo hi ho.2 f2 (by rw [Nat.add_assoc];exact e3) ab ab
    exact (g1.app g2 rfl).app (ix (fun _=> rfl) (by simp [cJ]) (by rw [e3];exact Nat.le_refl _) (by rw [Nat.add_assoc,hx,e3];rfl) ab ab) (by simp only [List.length_append])
  | .fail e,a,lo,hi,ho,hf,hx,hl,hh=> by
    simp only [cN,dD,fa,List.length_append,List.length_cons,List.length_nil] at*
    have h1:=hf.right.hd
    rw [bM e 0 a] at h1
    exact (fu D nv e 0 a lo hi ho hf.left h1 hl ab).app (ix (fun _=> rfl) (by simp [cJ]) (by rw [h1];exact Nat.le_refl _) (by rw [Nat.add_assoc,hx,h1];rfl) ab ab) rfl
  | .loop c b,a,lo,hi,ho,hf,hx,hl,hh=> by
    simp only [cN,dD,fa,List.length_append,List.length_cons,List.length_nil] at*
    have f1:=hf.left.left.left
    have f2:=hf.left.left.right
    have f3:=hf.left.right
    have f4:=hf.right
    have e1:=f1.e
    simp only [List.length_append,List.length_cons,List.length_nil,bM c 0 a,ff b (a+(bz c a).length+1)] at f2 f3 f4
    have e2:=f2.hd;have e4:=f4.hd
    generalize hc:bz c a=x at*
    rw [show a+(x.length+(0+1))=a+x.length+1 by omega] at f3
    have e3:=f3.b (by rw [← e4];congr 1;omega)
    have g1:=fu D nv c 0 a lo hi ho.1 f1 (by rw [hc];exact e2) hl (by rw [hc];omega)
    have g3:=qc D nv b (a+x.length+1) lo hi ho.2 f3 (by rw [← e4];congr 1;omega) ab ab
    generalize hz:di b (a+x.length+1)=z at*
    rw [hc] at g1
    refine ((g1.app (.one (by simp [cJ];omega) (by rw [e2];exact Nat.le_refl _) fun j hj=> ?_) rfl).app g3 (by simp;omega)).app (p:=a+x.length+1+z.length) (.one (by simp [cJ]) (Nat.zero_le _) fun j hj=> ?_) (by simp;omega)
    · rcases succs_unless.1 hj with rfl | rfl
      · exact ⟨by omega,by omega,by rw [e3,e2];rfl⟩
      · exact ⟨by omega,by omega,by rw [show a+x.length+z.length+2=a+(x.length+(0+1)+z.length+(0+1)) by omega,hx,e2];rfl⟩
    · obtain rfl:=succs_jump.1 hj
      exact ⟨by omega,by omega,by rw [e1,show j+x.length+1+z.length=j+(x.length+(0+1)+z.length) by omega,e4];rfl⟩
  | .ite c u v,a,lo,hi,ho,hf,hx,hl,hh=> by
    simp only [cN,dD,fa,List.length_append,List.length_cons,List.length_nil] at*
    have f1:=hf.left.left.left.left
    have f2:=hf.left.left.left.right
    have f3:=hf.left.left.right
    have f4:=hf.left.right
    have f5:=hf.right
    simp only [List.length_append,List.length_cons,List.length_nil,bM c 0 a,ff u (a+(bz c a).length+1)] at f2 f3 f4 f5
    have e2:=f2.hd;have e4:=f4.hd
    generalize hc:bz c a=x at*
    rw [show a+(x.length+(0+1))=a+x.length+1 by omega] at f3
    have e3:=f3.b (by rw [← e4];congr 1;omega)
    have g1:=fu D nv c 0 a lo hi ho.1 f1 (by rw [hc];exact e2) hl (by rw [hc];omega)
    have g3:=qc D nv u (a+x.length+1) lo hi ho.2.1 f3 (by rw [← e4];congr 1;omega) ab ab
    generalize hz:di u (a+x.length+1)=z at*
    rw [show a+(x.length+(0+1)+z.length+(0+1))=a+x.length+1+z.length+1 by omega] at f5
    have e5:=f5.b (by rw [← hx];congr 1;omega)
    have g5:=qc D nv v (a+x.length+1+z.length+1) lo hi ho.2.2 f5 (by rw [← hx];congr 1;omega) ab ab
    generalize hy:di v (a+x.length+1+z.length+1)=y at*
    rw [hc] at g1
    refine (((g1.app (.one (by simp [cJ];omega) (by rw [e2];exact Nat.le_refl _) fun j hj=> ?_) rfl).app g3 (by simp;omega)).app (p:=a+x.length+1+z.length) (.one (by simp [cJ];omega) (Nat.zero_le _) fun j hj=> ?_) (by simp;omega)).app g5 (by simp;omega)
    · rcases succs_unless.1 hj with rfl | rfl
      · exact ⟨by omega,by omega,by rw [e3,e2];rfl⟩
      · exact ⟨by omega,by omega,by rw [e5,e2];rfl⟩
    · obtain rfl:=succs_jump.1 hj
      exact ⟨by omega,by omega,by rw [show a+x.length+1+z.length+1+y.length=a+(x.length+(0+1)+z.length+(0+1)+y.length) by omega,hx,show a+x.length+1+z.length=a+(x.length+(0+1)+z.length) by omega,e4];rfl⟩
theorem qc (D:Nat→Nat) (nv:Nat): ∀ (b:Bk) (a lo hi:Nat),iu nv b→Fit D a (jQ b)→D (a+(di b a).length)=0→lo≤a→a+(di b a).length≤hi→Good D nv lo hi a (di b a)
  | .nil,a,lo,hi,ho,hf,hx,hl,hh=> by simp only [di];exact .nil
  | .cons s b,a,lo,hi,ho,hf,hx,hl,hh=> by
    simp only [di,jQ,iu,List.length_append] at*
    have f1:=hf.left
    have f2:=hf.right
    rw [pW s a] at f2
    have e2:=f2.b (by rw [Nat.add_assoc];exact hx)
    exact (CE D nv s a lo hi ho.1 f1 e2 hl ab).app (qc D nv b _ lo hi ho.2 f2 (by rw [Nat.add_assoc];exact hx) ab ab) rfl
end
end Go.Proofs.YtmjnackchaahbaaGreat

namespace Go.Proofs.YtmjnackchaahbaaGreat

def bQ:List (Nat×Bk)→Nat→List dY
  | [],_=> []
  | (_,b)::l,a=> di b a++[{ op:= .stop }]++bQ l (a+(di b a).length+1)
def jT:List (Nat×Bk)→List Nat
  | []=> []
  | (_,b)::l=> jQ b++[0]++jT l
def ij:List (Nat×Bk)→Nat→List (Nat×Nat)
  | [],_=> []
  | (h,b)::l,a=> (h,a)::ij l (a+(di b a).length+1)
theorem nb: ∀ (l:List (Nat×Bk)) (a:Nat),(jT l).length=(bQ l a).length
  | [],_=> rfl
  | (h,b)::l,a=> by simp [jT,bQ,ff b a,nb l (a+(di b a).length+1)]
theorem sL (D:Nat→Nat) (nv:Nat): ∀ (l:List (Nat×Bk)) (a lo hi:Nat),(∀ p∈l,iu nv p.2)→Fit D a (jT l)→lo≤a→a+(bQ l a).length≤hi+1→Good D nv lo hi a (bQ l a)
  | [],a,lo,hi,ho,hf,hl,hh=> .nil
  | (h,b)::l,a,lo,hi,ho,hf,hl,hh=> by
    simp only [bQ,jT,List.length_append,List.length_cons,List.length_nil] at*
    have f1:=hf.left.left
    have f2:=hf.left.right
    have f3:=hf.right
    simp only [List.length_append,List.length_cons,List.length_nil,ff b a] at f2 f3
    have e2:=f2.hd
    refine ((qc D nv b a lo hi (ho (h,b) (by simp)) f1 e2 hl ab).app (.one (by simp [cJ]) (Nat.zero_le _) fun j hj=> by simp [db] at hj) rfl).app (sL D nv l _ lo hi (fun p hp=> ho p (by simp [hp])) (by rw [show a+(di b a).length+1=a+((di b a).length+(0+1)) by omega];exact f3) ab ab) (by simp;omega)
theorem rW {D:Nat→Nat}: ∀ {l:List (Nat×Bk)} {a:Nat},Fit D a (jT l)→ ∀ {h e:Nat},(h,e)∈ij l a→a≤e∧e < a+(bQ l a).length∧D e=0
  | [],_,_,_,_,hm=> by simp [ij] at hm
  | (k,b)::l,a,hf,h,e,hm=> by
    simp only [bQ,jT,ij,List.length_append,List.length_cons,List.length_nil] at*
    have f1:=hf.left.left
    have f2:=hf.left.right
    have f3:=hf.right
    simp only [List.length_append,List.length_cons,List.length_nil,ff b a] at f2 f3
    rcases List.mem_cons.1 hm with hm | hm
    · obtain ⟨rfl,rfl⟩:=Prod.mk.inj hm
      exact ⟨Nat.le_refl _,by omega,f1.b f2.hd⟩
    · obtain ⟨h1,h2,h3⟩:=rW (l:=l) (a:=a+(di b a).length+1) (by rw [show a+(di b a).length+1=a+((di b a).length+(0+1)) by omega];exact f3) hm
      exact ⟨by omega,by omega,h3⟩

def jK (n:Int):Int:=max (-2147483647) (min n 2147483647)
def Rg (v:Int):Prop:= -2147483647≤v∧v≤2147483647
theorem lH (n:Int):Rg (jK n):=by unfold Rg jK;omega
theorem vF {n:Int} (h:Rg n):jK n=n:=by unfold Rg at h;unfold jK;omega
structure Ac where
  k:Int
  a:Int:=0
  b:Int:=0
  c:Int:=0
  d:Int:=0
  deriving DecidableEq
structure Cx where
  code:List dY
  dur:Nat
  names:List Int
  ans:List Int
structure Ms where
  vars:List Int
  acts:List Ac:=[]
  steps:Nat:=0
  stack:List Int:=[]
  pc:Nat
  asked:List Int:=[]
  fin:Bool:=false
  cov:List Nat:=[]
def Ms.top (s:Ms) (k:Nat):Int:=s.stack.getD (s.stack.length - 1 - k) 0
def Ms.pop (s:Ms) (k:Nat):List Int:=s.stack.take (s.stack.length - k)
def lM (l:List Int) (i:Nat) (k:Int):Int:=l.getD i 0 % k
def cg (l:List Ac):Nat:=l.countP fun a=> decide (a.k=3)
def flag (b:Bool):Int:=if b then 1 else 0
def iH:Opc→Int→Int→Int
  | .add,y,x=> jK (y+x)
  | .sub,y,x=> jK (y - x)
  | .mul,y,x=> jK (y*x)
  | .div,y,x=> if x=0 then 0 else jK (y.tdiv x)
  | .lt,y,x=> flag (decide (y < x))
  | .le,y,x=> flag (decide (y≤x))
  | _,y,x=> flag (decide (y=x))
def dk (K:Cx) (x:dY) (s:Ms):Ms:=match x.op with
  | .push=> { s with stack:=s.stack++[jK x.n] }
  | .var=> { s with stack:=s.stack++[jK (s.vars.getD x.n.toNat 0)] }
  | .setVar=> { s with vars:=s.vars.set x.n.toNat (s.top 0),stack:=s.pop 1,acts:=if x.n < K.dur then s.acts++[{ k:=1,a:=x.n,b:=s.top 0 }] else s.acts }
  | .name=> { s with stack:=s.stack++[jK (K.names.getD x.n.toNat 0)] }
  | .draw=>
    if max 1 (min (s.top 0) 4)=1 then { s with stack:=s.pop 1++[0] }
    else { s with stack:=s.pop 1++[lM K.ans s.asked.length (max 1 (min (s.top 0) 4))],asked:=s.asked++[max 1 (min (s.top 0) 4)] }
  | .neg=> { s with stack:=s.pop 1++[jK (-(s.top 0))] }
  | .not=> { s with stack:=s.pop 1++[flag (decide (s.top 0=0))] }
  | .jump=> { s with pc:=x.n.toNat }
  | .unl=> { s with stack:=s.pop 1,pc:=if s.top 0=0 then x.n.toNat else s.pc }
  | .send=> { s with stack:=s.pop 3,acts:=if 0≤s.top 2∧s.top 2 < K.names.getD 1 0∧cg s.acts < 20 then s.acts++[{ k:=3,a:=s.top 2,b:=x.n,c:=s.top 1,d:=s.top 0 }] else s.acts }
  | .timer=> { s with acts:=s.acts++[{ k:=4,a:=x.n }] }
  | .cancel=> { s with acts:=s.acts++[{ k:=5,a:=x.n }] }
  | .sync=> { s with acts:=s.acts++[{ k:=2 }] }
  | .reply=> { s with stack:=s.pop 2,acts:=s.acts++[{ k:=6,a:=s.top 1,b:=s.top 0 }] }
  | .fail=> { s with stack:=s.pop 1,acts:=s.acts++[{ k:=7,a:=s.top 0 }] }
  | .stop=> { s with fin:=true }
  | o=> { s with stack:=s.pop 2++[iH o (s.top 1) (s.top 0)] }
def eh (K:Cx) (s:Ms):Ms:=dk K (K.code.getD s.pc { op:= .stop }) { s with pc:=s.pc+1,steps:=s.steps+1,cov:=s.cov++[s.pc] }
def kB (K:Cx):Nat→Ms→Ms
  | 0,s=> s
  | k+1,s=> if s.fin=true then s else kB K k (eh K s)
theorem qV {K:Cx} {x:dY} {s:Ms}:(dk K x s).steps=s.steps∧(dk K x s).cov=s.cov:=by
  unfold dk
  cases x.op <;> first | exact ⟨rfl,rfl⟩ | (simp only;split <;> exact ⟨rfl,rfl⟩)
theorem lY {K:Cx} {s:Ms}:(eh K s).steps=s.steps+1∧(eh K s).cov=s.cov++[s.pc]:=by
  unfold eh
  obtain ⟨h1,h2⟩:=qV (K:=K) (x:=K.code.getD s.pc { op:= .stop }) (s:={ s with pc:=s.pc+1,steps:=s.steps+1,cov:=s.cov++[s.pc] })
  exact ⟨h1,h2⟩
theorem cb (s:Ms) (k:Nat):(s.pop k).length=s.stack.length - k:=by simp [Ms.pop]
theorem uK {K:Cx} {x:dY} {s:Ms} (h:x.op.pops≤s.stack.length):(dk K x s).stack.length=s.stack.length - x.op.pops+x.op.puts:=by
  unfold dk
  generalize x.op=o at h ⊢
  cases o <;> simp only [Opc.pops,Opc.puts] at h ⊢ <;> (try split) <;> first | rfl | (simp only [List.length_append,cb,List.length_cons,List.length_nil];done) | (simp only [List.length_append,cb,List.length_cons,List.length_nil];omega) | omega
theorem yz {K:Cx} {x:dY} {s:Ms} {i:Nat} (hp:s.pc=i+1) (hf:(dk K x s).fin=false):(dk K x s).pc∈db i x:=by
  unfold dk at hf ⊢
  unfold db
  cases ho:x.op <;> simp only [ho] at hf ⊢ <;> first | (simp at hf;done) | (rw [hp];exact List.mem_cons_self) | exact List.mem_cons_self | (split <;> simp [hp])
end Go.Proofs.YtmjnackchaahbaaGreat

namespace Go.Proofs.YtmjnackchaahbaaGreat

structure PG (K:Cx) (D:Nat→Nat) (nv:Nat):Prop where
  good:Good D nv 0 (K.code.length - 1) 0 K.code
  nv:nv≤16
  nm: ∀ i,Rg (K.names.getD i 0)
theorem nH:Rg 0:=by unfold Rg;omega
theorem ph {n:Int} (h:0≤n∧n < 1000):Rg n:=by unfold Rg;omega
def zF (K:Cx) (nv:Nat) (a:Ac):Prop:=(Rg a.a∧Rg a.b∧Rg a.c∧Rg a.d)∧(a.k=3→0≤a.a∧a.a < K.names.getD 1 0)∧(a.k=1→0≤a.a∧a.a < K.dur∧a.a < nv)
structure IV (K:Cx) (nv:Nat) (s:Ms):Prop where
  vl:s.vars.length=nv
  rv: ∀ v∈s.vars,Rg v
  rs: ∀ v∈s.stack,Rg v
  ac: ∀ a∈s.acts,zF K nv a
  sn:cg s.acts≤20
  ar: ∀ k∈s.asked,2≤k∧k≤4
theorem mC {l:List Int} (h: ∀ v∈l,Rg v) (i:Nat):Rg (l.getD i 0):=by
  by_cases hi:i < l.length
  · rw [List.getD_eq_getElem?_getD,List.getElem?_eq_getElem hi];exact h _ (List.getElem_mem hi)
  · rw [List.getD_eq_getElem?_getD,List.getElem?_eq_none ab];exact nH
theorem qS {s:Ms} (h: ∀ v∈s.stack,Rg v) (k:Nat):Rg (s.top k):=mC h _
theorem AX {s:Ms} (h: ∀ v∈s.stack,Rg v) (k:Nat): ∀ v∈s.pop k,Rg v:=fun v hv=> h v (List.mem_of_mem_take hv)
theorem jq {l:List Int} {n:Int} (h: ∀ v∈l,Rg v) (hn:Rg n): ∀ v∈l++[n],Rg v:=fun v hv=> by
  rcases List.mem_append.1 hv with hv | hv
  · exact h v hv
  · simp at hv;subst hv;exact hn
theorem sE (b:Bool):Rg (flag b):=by unfold flag Rg;split <;> omega
theorem yh (o:Opc) (y x:Int):Rg (iH o y x):=by
  unfold iH
  split <;> first | exact lH _ | exact sE _ | (split <;> first | exact nH | exact lH _)
theorem xI {l:List Int} {i:Nat} {k:Int} (h:2≤k∧k≤4):Rg (lM l i k)∧0≤lM l i k∧lM l i k < k:=by
  unfold lM
  have h1:=Int.emod_nonneg (l.getD i 0) (show k≠0 by omega)
  have h2:=Int.emod_lt_of_pos (l.getD i 0) (show 0 < k by omega)
  exact ⟨by unfold Rg;omega,h1,h2⟩
theorem gf {K:Cx} {nv:Nat} {l:List Ac} {a:Ac} (h: ∀ a∈l,zF K nv a) (ha:zF K nv a): ∀ b∈l++[a],zF K nv b:=fun b hb=> by
  rcases List.mem_append.1 hb with hb | hb
  · exact h b hb
  · simp at hb;subst hb;exact ha
theorem gT {l:List Ac} {a:Ac} (h:a.k≠3):cg (l++[a])=cg l:=by
  unfold cg
  rw [List.countP_append]
  simp [h]
theorem tf {l:List Ac} {a:Ac} (h:a.k=3):cg (l++[a])=cg l+1:=by
  unfold cg
  rw [List.countP_append]
  simp [h]
theorem Bp {l:List Int} {i:Nat} {n:Int} (h: ∀ v∈l,Rg v) (hn:Rg n): ∀ v∈l.set i n,Rg v:=fun v hv=> by
  rcases List.mem_or_eq_of_mem_set hv with hv | rfl
  · exact h v hv
  · exact hn
theorem yP {K:Cx} {D:Nat→Nat} {nv:Nat} (hK:PG K D nv) {x:dY} (hx:cJ nv x) {s:Ms} (h:IV K nv s):IV K nv (dk K x s):=by
  have hnv:=hK.nv
  have ht:=qS h.rs
  have hp:=AX h.rs
  unfold dk
  unfold cJ at hx
  cases ho:x.op <;> simp only [ho] at hx ⊢
  case push=> exact ⟨h.vl,h.rv,jq h.rs (lH _),h.ac,h.sn,h.ar⟩
  case var=> exact ⟨h.vl,h.rv,jq h.rs (lH _),h.ac,h.sn,h.ar⟩
  case name=> exact ⟨h.vl,h.rv,jq h.rs (lH _),h.ac,h.sn,h.ar⟩
  case setVar=>
    refine ⟨by rw [List.length_set];exact h.vl,Bp h.rv (ht 0),hp 1,?_,?_,h.ar⟩
    · split
      · rename_i hd
        exact gf h.ac ⟨⟨ph (n:=x.n) ⟨hx.1,by omega⟩,ht 0,nH,nH⟩,fun e=> by simp at e,fun _=> ⟨hx.1,hd,hx.2⟩⟩
      · exact h.ac
    · split
      · rw [gT (by simp)];exact h.sn
      · exact h.sn
  case draw=>
    split
    · exact ⟨h.vl,h.rv,jq (hp 1) nH,h.ac,h.sn,h.ar⟩
    · rename_i hk
      have hk2:2≤max 1 (min (s.top 0) 4)∧max 1 (min (s.top 0) 4)≤4:=by omega
      refine ⟨h.vl,h.rv,jq (hp 1) (xI hk2).1,h.ac,h.sn,fun k hk=> ?_⟩
      rcases List.mem_append.1 hk with hk | hk
      · exact h.ar k hk
      · simp only [List.mem_singleton] at hk;subst hk;exact hk2
  case neg=> exact ⟨h.vl,h.rv,jq (hp 1) (lH _),h.ac,h.sn,h.ar⟩
  case not=> exact ⟨h.vl,h.rv,jq (hp 1) (sE _),h.ac,h.sn,h.ar⟩
  case jump=> exact ⟨h.vl,h.rv,h.rs,h.ac,h.sn,h.ar⟩
  case unl=> exact ⟨h.vl,h.rv,hp 1,h.ac,h.sn,h.ar⟩
  case send=>
    refine ⟨h.vl,h.rv,hp 3,?_,?_,h.ar⟩
    · split
      · rename_i hc
        exact gf h.ac ⟨⟨ht 2,ph (n:=x.n) ⟨hx.1,by omega⟩,ht 1,ht 0⟩,fun _=> ⟨hc.1,hc.2.1⟩,fun e=> by simp at e⟩
      · exact h.ac
    · split
      · rename_i hc
        rw [tf rfl];omega
      · exact h.sn
  case timer=> exact ⟨h.vl,h.rv,h.rs,gf h.ac ⟨⟨ph (n:=x.n) ⟨hx.1,by omega⟩,nH,nH,nH⟩,fun e=> by simp at e,fun e=> by simp at e⟩,by rw [gT (by simp)];exact h.sn,h.ar⟩
  case cancel=> exact ⟨h.vl,h.rv,h.rs,gf h.ac ⟨⟨ph (n:=x.n) ⟨hx.1,by omega⟩,nH,nH,nH⟩,fun e=> by simp at e,fun e=> by simp at e⟩,by rw [gT (by simp)];exact h.sn,h.ar⟩
  case sync=> exact ⟨h.vl,h.rv,h.rs,gf h.ac ⟨⟨nH,nH,nH,nH⟩,fun e=> by simp at e,fun e=> by simp at e⟩,by rw [gT (by simp)];exact h.sn,h.ar⟩
  case reply=> exact ⟨h.vl,h.rv,hp 2,gf h.ac ⟨⟨ht 1,ht 0,nH,nH⟩,fun e=> by simp at e,fun e=> by simp at e⟩,by rw [gT (by simp)];exact h.sn,h.ar⟩
  case fail=> exact ⟨h.vl,h.rv,hp 1,gf h.ac ⟨⟨ht 0,nH,nH,nH⟩,fun e=> by simp at e,fun e=> by simp at e⟩,by rw [gT (by simp)];exact h.sn,h.ar⟩
  case stop=> exact ⟨h.vl,h.rv,h.rs,h.ac,h.sn,h.ar⟩
  all_goals exact ⟨h.vl,h.rv,jq (hp 2) (yh _ _ _),h.ac,h.sn,h.ar⟩
structure At (K:Cx) (D:Nat→Nat) (nv:Nat) (s:Ms):Prop where
  iv:IV K nv s
  go:s.fin=false→s.pc < K.code.length∧s.stack.length=D s.pc
  cl: ∀ i∈s.cov,i < K.code.length
  cn:s.cov.length=s.steps
  fn:s.fin=true→ ∃ i∈s.cov,∃ x,K.code[i]? =some x∧x.op= .stop
theorem uZ {K:Cx} {x:dY} {s:Ms} (hs:s.fin=false) (h:(dk K x s).fin=true):x.op= .stop:=by
  unfold dk at h
  cases ho:x.op <;> simp only [ho] at h <;> first | rfl | (rw [hs] at h;cases h) | (split at h <;> (rw [hs] at h;cases h))
theorem yC {K:Cx} {D:Nat→Nat} {nv:Nat} (hK:PG K D nv) {s:Ms} (h:At K D nv s) (hf:s.fin=false):At K D nv (eh K s):=by
  obtain ⟨hp,hd⟩:=h.go hf
  obtain ⟨x,hx⟩: ∃ x,K.code[s.pc]? =some x:=⟨_,List.getElem?_eq_getElem hp⟩
  have hg:K.code.getD s.pc { op:= .stop }=x:=by rw [List.getD_eq_getElem?_getD,hx];rfl
  obtain ⟨g1,g2,g3⟩:=hK.good s.pc x hx
  rw [Nat.zero_add] at g2 g3
  obtain ⟨e1,e2⟩:=lY (K:=K) (s:=s)
  have hdef:eh K s=dk K x { s with pc:=s.pc+1,steps:=s.steps+1,cov:=s.cov++[s.pc] }:=by unfold eh;rw [hg]
  refine ⟨?_,fun hn=> ?_,?_,?_,fun hn=> ?_⟩
  · rw [hdef]
    exact yP hK g1 ⟨h.iv.vl,h.iv.rv,h.iv.rs,h.iv.ac,h.iv.sn,h.iv.ar⟩
  · rw [hdef] at hn ⊢
    have hpc:=yz (K:=K) (x:=x) (s:={ s with pc:=s.pc+1,steps:=s.steps+1,cov:=s.cov++[s.pc] }) (i:=s.pc) rfl hn
    obtain ⟨_,j2,j3⟩:=g3 _ hpc
    refine ⟨by omega,?_⟩
    rw [uK (by simp only;rw [hd];exact g2),j3]
    simp only
    rw [hd]
  · rw [e2]
    intro i hi
    rcases List.mem_append.1 hi with hi | hi
    · exact h.cl i hi
    · simp at hi;subst hi;exact hp
  · rw [e2,e1,List.length_append,h.cn];rfl
  · rw [hdef] at hn
    have hs:=uZ (s:={ s with pc:=s.pc+1,steps:=s.steps+1,cov:=s.cov++[s.pc] }) hf hn
    rw [e2]
    exact ⟨s.pc,by simp,x,hx,hs⟩
def el (vars:List Int) (e:Nat):Ms:={ vars:=vars,pc:=e }
theorem vi {K:Cx} {D:Nat→Nat} {nv:Nat} {vars:List Int} {e:Nat} (hl:vars.length=nv) (hr: ∀ v∈vars,Rg v) (he:e < K.code.length) (hd:D e=0):At K D nv (el vars e):=
  ⟨⟨hl,hr,fun v hv=> by simp [el] at hv,fun a ha=> by simp [el] at ha,by simp [el,cg],fun k hk=> by simp [el] at hk⟩,fun _=> ⟨he,hd.symm⟩,fun i hi=> by simp [el] at hi,rfl,fun h=> by simp [el] at h⟩

abbrev Tx:=List UInt8
structure Tk where
  k:Nat
  a:Nat
  t:Tx
  n:Nat:=0
def lm (c:UInt8):Bool:=Nat.ble 97 c.toNat && Nat.ble c.toNat 122
def eZ (c:UInt8):Bool:=Nat.ble 48 c.toNat && Nat.ble c.toNat 57
def pH:Tx→Bool→Nat
  | [],_=> 0
  | x::l,true=> if x.toNat=10 then 1+pH l false else 1+pH l true
  | x::l,false=> if x.toNat=35 then 1+pH l true else if x.toNat=32∨x.toNat=9∨x.toNat=10 then 1+pH l false else 0
def iO (l:Tx):Nat:=l.foldl (fun n c=> 10*n+(c.toNat - 48)) 0
def zb:List Tx:=[[124,124],[38,38],[60,61],[62,61],[61,61],[33,61]]
def BN:List Tx:=[[123],[125],[91],[93],[40],[41],[61],[59],[44],[60],[62],[43],[45],[42],[47],[33]]
def nR (s:Tx) (a:Nat):Option Tk:=match s with
  | []=> none
  | c::l=>
    if lm c then (if 10 < (c::l.takeWhile fun x=> lm x || eZ x).length then none else some ⟨1,a,c::l.takeWhile fun x=> lm x || eZ x,0⟩)
    else if eZ c then (if 2147483647 < iO (c::l.takeWhile eZ) then none else some ⟨2,a,c::l.takeWhile eZ,iO (c::l.takeWhile eZ)⟩)
    else if s.take 2∈zb then some ⟨3,a,s.take 2,0⟩
    else if [c]∈BN then some ⟨3,a,[c],0⟩
    else none
def lc:Nat→Tx→Nat→Option (List Tk)
  | 0,_,_=> none
  | f+1,s,a=>
    if s.length≤a then some [⟨0,s.length,[],0⟩]
    else match nR (s.drop a) a with
      | none=> none
      | some t=> match lc f s (a+t.t.length+pH (s.drop (a+t.t.length)) false) with
        | none=> none
        | some l=> some (t::l)
def ya (s:Tx):Option (List Tk):=lc (s.length+1) s (pH s false)
structure Nd where
  k:Nat
  n:Nat:=0
  s:Tx:=[]
  kn:Nat:=0
  kids:List PV:=[]
def Nd.row (d:Nd):List PV:=[.v (.int .i64 (d.k:Int)), .v (.int .i64 (d.n:Int)), .v (bt d.s), .sl d.kn d.kids]
def nd (k n:Nat) (s:Tx) (l:List Nd):Nd:=⟨k,n,s,l.length,l.flatMap Nd.row⟩
def bltT:List Tx:=[[115,101,108,102],[110,111,100,101,115],[110,111,119],[102,114,111,109],[97],[98],[105,100],[111,112],[107,101,121]]
def LR:List Tx:=[[100,117,114,97,98,108,101],[118,111,108,97,116,105,108,101],[111,110],[115,116,97,114,116],[114,101,113,117,101,115,116],[116,105,109,101,114],[109,101,115,115,97,103,101],[105,102],[101,108,115,101],[119,104,105,108,101],[115,101,110,100],[99,97,110,99,101,108],[115,121,110,99],[114,101,112,108,121],[102,97,105,108],[115,116,111,112],[116,114,117,101],[102,97,108,115,101],[100,114,97,119]]
def jL:Tx:=[100,117,114,97,98,108,101]
def ku:Tx:=[118,111,108,97,116,105,108,101]
def Ba:Tx:=[111,110]
def lj:Tx:=[115,116,97,114,116]
def gW:Tx:=[114,101,113,117,101,115,116]
def fE:Tx:=[116,105,109,101,114]
def hG:Tx:=[109,101,115,115,97,103,101]
def rz:Tx:=[105,102]
def oZ:Tx:=[101,108,115,101]
def ip:Tx:=[119,104,105,108,101]
def mT:Tx:=[115,101,110,100]
def iU:Tx:=[99,97,110,99,101,108]
def mJ:Tx:=[115,121,110,99]
def kH:Tx:=[114,101,112,108,121]
def mR:Tx:=[102,97,105,108]
def nj:Tx:=[115,116,111,112]
def rJ:Tx:=[116,114,117,101]
def oV:Tx:=[102,97,108,115,101]
def wM:Tx:=[100,114,97,119]
def rf (s:Tx):Bool:=decide (s∈bltT) || decide (s∈LR)
def opsP:List (List Tx):=[[],[[124,124]],[[38,38]],[],[[60],[60,61],[62],[62,61],[61,61],[33,61]],[[43],[45]],[[42],[47]]]
section
variable (T:List Tk)
def cK (i:Nat):Tk:=T.getD i ⟨0,0,[],0⟩
def bK (i:Nat):Nat:=if i+1 < T.length then i+1 else i
def dH (i:Nat):Bool:=decide ((cK T i).k=1) && !rf (cK T i).t
def fi (s:Tx) (i:Nat):Option Nat:=if (cK T i).t=s then some (bK T i) else none
def oy (s:Tx) (lv i:Nat):Option Nat:=if (cK T i).t=s∧20 < lv then none else fi T s i
def mf (most i:Nat):Option (Nat×Nat):=if (cK T i).k=2∧(cK T i).n≤most then some ((cK T i).n,bK T i) else none
mutual
def fe:Nat→Nat→Nat→Nat→Option (Nd×Nat)
  | 0,_,_,_=> none
  | f+1,lv,pr,i=>
    if pr=3∧(cK T i).t=[33] then Ck f (cK T i).t lv 3 i
    else if pr=3 then tS f lv 4 i
    else if pr=7∧(cK T i).t=[45] then Ck f (cK T i).t lv 7 i
    else if pr=7 then pL f lv i
    else tS f lv pr i
def Ck:Nat→Tx→Nat→Nat→Nat→Option (Nd×Nat)
  | 0,_,_,_,_=> none
  | f+1,s,lv,pr,i=> do
    let j ← oy T s (lv+1) i
    let (d,j) ← fe f (lv+1) pr j
    return (nd 17 0 s [d],j)
def tS:Nat→Nat→Nat→Nat→Option (Nd×Nat)
  | 0,_,_,_=> none
  | f+1,lv,pr,i=> do
    let (d,j) ← fe f lv (pr+1) i
    lg f lv pr d j
def lg:Nat→Nat→Nat→Nd→Nat→Option (Nd×Nat)
  | 0,_,_,_,_=> none
  | f+1,lv,pr,d,i=>
    if (cK T i).t∈opsP.getD pr [] then do
      let (e,j) ← fe f lv (pr+1) (bK T i)
      if pr=4 then return (nd 18 0 (cK T i).t [d,e],j) else lg f lv pr (nd 18 0 (cK T i).t [d,e]) j
    else some (d,i)
def nU:Nat→Nat→Nat→Option (Nd×Nat)
  | 0,_,_=> none
  | f+1,lv,i=> do
    let j ← oy T [40] (lv+1) i
    let (d,j) ← fe f (lv+1) 1 j
    let j ← fi T [41] j
    return (d,j)
def pL:Nat→Nat→Nat→Option (Nd×Nat)
  | 0,_,_=> none
  | f+1,lv,i=>
    let t:=cK T i
    if t.t=[40] then nU f lv i
    else if t.t=wM then do
      let (d,j) ← nU f lv (bK T i)
      return (nd 16 0 [] [d],j)
    else if t.k=2 then some (nd 12 t.n [] [],bK T i)
    else if t.t=rJ then some (nd 13 1 [] [],bK T i)
    else if t.t=oV then some (nd 13 0 [] [],bK T i)
    else if t.t∈bltT then some (nd 15 0 t.t [],bK T i)
    else if dH T i then some (nd 14 0 t.t [],bK T i)
    else none
end
mutual
def uB:Nat→Nat→Nat→Option (Nd×Nat)
  | 0,_,_=> none
  | f+1,lv,i=>
    let s:=(cK T i).t
    if dH T i then do
      let j ← fi T [61] (bK T i)
      let (d,j) ← fe T f lv 1 j
      let j ← fi T [59] j
      return (nd 1 0 s [d],j)
    else if s=rz∨s=ip then do
      let (c,j) ← fe T f lv 1 (bK T i)
      let (x,j) ← nL f (lv+1) j
      if s=ip then return (nd 3 0 [] [c,x],j)
      else if (cK T j).t=oZ then do
        let (y,j) ← nL f (lv+1) (bK T j)
        return (nd 2 0 [] [c,x,y],j)
      else return (nd 2 0 [] [c,x,nd 11 0 [] []],j)
    else if s=mT then do
      let (x,j) ← fe T f lv 1 (bK T i)
      let j ← fi T [44] j
      let (k,j) ← mf T 29 j
      let j ← fi T [44] j
      let (y,j) ← fe T f lv 1 j
      let j ← fi T [44] j
      let (z,j) ← fe T f lv 1 j
      let j ← fi T [59] j
      return (nd 4 k [] [x,y,z],j)
    else if s=fE then do
      let (k,j) ← mf T 7 (bK T i)
      let j ← fi T [59] j
      return (nd 5 k [] [],j)
    else if s=iU then do
      let (k,j) ← mf T 7 (bK T i)
      let j ← fi T [59] j
      return (nd 6 k [] [],j)
    else if s=kH then do
      let (x,j) ← fe T f lv 1 (bK T i)
      let j ← fi T [44] j
      let (y,j) ← fe T f lv 1 j
      let j ← fi T [59] j
      return (nd 8 0 [] [x,y],j)
    else if s=mR then do
      let (x,j) ← fe T f lv 1 (bK T i)
      let j ← fi T [59] j
      return (nd 9 0 [] [x],j)
    else if s=mJ then do
      let j ← fi T [59] (bK T i)
      return (nd 7 0 [] [],j)
    else if s=nj then do
      let j ← fi T [59] (bK T i)
      return (nd 10 0 [] [],j)
    else none
def nL:Nat→Nat→Nat→Option (Nd×Nat)
  | 0,_,_=> none
  | f+1,lv,i=> do
    let j ← oy T [123] lv i
    let (l,j) ← kE f lv j
    let j ← fi T [125] j
    return (nd 11 0 [] l,j)
def kE:Nat→Nat→Nat→Option (List Nd×Nat)
  | 0,_,_=> none
  | f+1,lv,i=>
    if (cK T i).t=[125] then some ([],i)
    else do
      let (d,j) ← uB f lv i
      let (l,j) ← kE f lv j
      return (d::l,j)
end
def ft:Nat→List Tx→Nat→Option (List Tx×Nat)
  | 0,_,_=> none
  | f+1,seen,i=>
    if dH T i=false∨(cK T i).t∈seen∨16≤seen.length then none
    else if (cK T (bK T i)).t=[44] then do
      let (l,j) ← ft f (seen++[(cK T i).t]) (bK T (bK T i))
      return ((cK T i).t::l,j)
    else do
      let j ← fi T [59] (bK T i)
      return ([(cK T i).t],j)
def gv:Nat→List Tx→List Tx→Nat→Option (List Tx×List Tx×Nat)
  | 0,_,_,_=> none
  | f+1,d,v,i=>
    if (cK T i).t=jL then do
      let (l,j) ← ft T f (d++v) (bK T i)
      gv f (d++l) v j
    else if (cK T i).t=ku then do
      let (l,j) ← ft T f (d++v) (bK T i)
      gv f d (v++l) j
    else some (d,v,i)
def sA (i:Nat):Option (Nat×Nat):=
  if (cK T i).t=lj then some (0,bK T i)
  else if (cK T i).t=gW then some (1,bK T i)
  else if (cK T i).t=fE then do
    let (k,j) ← mf T 7 (bK T i)
    return (2+k,j)
  else if (cK T i).t=hG then do
    let (k,j) ← mf T 29 (bK T i)
    return (10+k,j)
  else none
def na (l:List (Nat×Nd)) (h:Nat×Nd):List (Nat×Nd):=l.takeWhile (fun x=> decide (x.1 < h.1))++h::l.dropWhile (fun x=> decide (x.1 < h.1))
def Au:Nat→List (Nat×Nd)→Nat→Option (List (Nat×Nd))
  | 0,_,_=> none
  | f+1,l,i=>
    if (cK T i).k=0 then some l
    else do
      let j ← fi T Ba i
      let (n,j) ← sA T j
      if l.any (fun x=> decide (x.1=n)) then none else
      let (d,j) ← nL T f 1 j
      Au f (na l (n,d)) j
end
def oM (s:Tx):Option (List Tx×List Tx×List (Nat×Nd)):=do
  let T ← ya s
  let (d,v,i) ← gv T (3*T.length+10) [] [] 0
  let l ← Au T (10*T.length+10) [] i
  return (d,v,l)

def AJ:Tx:=[118,111,108,97,116,105,108,101,32,118,59,32,111,110,32,115,116,97,114,116,32,123,32,118,32,61,32,55,32,47,32,50,59,32,115,101,110,100,32,48,44,32,51,44,32,118,44,32,49,59,32,125]

def Bo.txt:Bo→Tx
  | .add=> [43]
  | .sub=> [45]
  | .mul=> [42]
  | .div=> [47]
  | .lt=> [60]
  | .le=> [60,61]
  | .eq=> [61,61]
  | .gt=> [62]
  | .ge=> [62,61]
  | .ne=> [33,61]
section
variable (nm:List Tx)
def dK:Ex→Nd
  | .int n=> nd 12 n.toNat [] []
  | .bool b=> nd 13 (if b then 1 else 0) [] []
  | .var i=> nd 14 0 (nm.getD i []) []
  | .name k=> nd 15 0 (bltT.getD k []) []
  | .draw e=> nd 16 0 [] [dK e]
  | .neg e=> nd 17 0 [45] [dK e]
  | .not e=> nd 17 0 [33] [dK e]
  | .bin o a b=> nd 18 0 o.txt [dK a,dK b]
  | .and a b=> nd 18 0 [38,38] [dK a,dK b]
  | .or a b=> nd 18 0 [124,124] [dK a,dK b]
mutual
def zl:Sm→Nd
  | .assign i e=> nd 1 0 (nm.getD i []) [dK nm e]
  | .send t k a b=> nd 4 k [] [dK nm t,dK nm a,dK nm b]
  | .timer k=> nd 5 k [] []
  | .cancel k=> nd 6 k [] []
  | .sync=> nd 7 0 [] []
  | .stop=> nd 10 0 [] []
  | .reply a b=> nd 8 0 [] [dK nm a,dK nm b]
  | .fail e=> nd 9 0 [] [dK nm e]
  | .loop c b=> nd 3 0 [] [dK nm c,nd 11 0 [] (ga b)]
  | .ite c a b=> nd 2 0 [] [dK nm c,nd 11 0 [] (ga a),nd 11 0 [] (ga b)]
def ga:Bk→List Nd
  | .nil=> []
  | .cons s b=> zl s::ga b
end
def lp (b:Bk):Nd:=nd 11 0 [] (ga nm b)
end
def yu:List Tx:=[]
def ym:List Tx:=[[118]]
def onsL:List (Nat×Bk):=[(0,(.cons (.assign 0 (.bin .div (.int 7) (.int 2))) (.cons (.send (.int 0) 3 (.var 0) (.int 1)) .nil)))]
theorem Az:oM AJ=some (yu,ym,onsL.map fun p=> (p.1,lp (yu++ym) p.2)):=by kernel_rfl

def ei:Ex→Nat
  | .int _=> 1 | .bool _=> 2 | .var _=> 1 | .name _=> 1
  | .draw e=> if ei e=1 then 1 else 0
  | .neg e=> if ei e=1 then 1 else 0
  | .not e=> if ei e=2 then 2 else 0
  | .bin o a b=> if ei a=1∧ei b=1 then (match o with | .add=> 1 | .sub=> 1 | .mul=> 1 | .div=> 1 | _=> 2) else 0
  | .and a b=> if ei a=2∧ei b=2 then 2 else 0
  | .or a b=> if ei a=2∧ei b=2 then 2 else 0
def lZ (e:Ex):Bool:=Nat.beq (ei e) 1
mutual
def tY:Sm→Bool
  | .assign _ e=> lZ e
  | .send t _ a b=> lZ t && lZ a && lZ b
  | .timer _=> true | .cancel _=> true | .sync=> true | .stop=> true
  | .reply a b=> lZ a && lZ b
  | .fail e=> lZ e
  | .loop c b=> Nat.beq (ei c) 2 && nG b
  | .ite c a b=> Nat.beq (ei c) 2 && nG a && nG b
def nG:Bk→Bool
  | .nil=> true
  | .cons s b=> tY s && nG b
end
def ea (nv:Nat):Ex→Bool
  | .int n=> decide (-2147483647≤n) && decide (n≤2147483647)
  | .bool _=> true
  | .var i=> decide (i < nv)
  | .name k=> decide (k < 9)
  | .draw e=> ea nv e | .neg e=> ea nv e | .not e=> ea nv e
  | .bin _ a b=> ea nv a && ea nv b
  | .and a b=> ea nv a && ea nv b
  | .or a b=> ea nv a && ea nv b
mutual
def kd (nv:Nat):Sm→Bool
  | .assign i e=> decide (i < nv) && ea nv e
  | .send t k a b=> decide (k < 30) && ea nv t && ea nv a && ea nv b
  | .timer k=> decide (k < 8) | .cancel k=> decide (k < 8) | .sync=> true | .stop=> true
  | .reply a b=> ea nv a && ea nv b
  | .fail e=> ea nv e
  | .loop c b=> ea nv c && mN nv b
  | .ite c a b=> ea nv c && mN nv a && mN nv b
def mN (nv:Nat):Bk→Bool
  | .nil=> true
  | .cons s b=> kd nv s && mN nv b
end
theorem cU (nv:Nat): ∀ e,ea nv e=true→fy nv e
  | .int n,h=> by simpa [ea,fy] using h
  | .bool _,_=> trivial
  | .var i,h=> by simpa [ea,fy] using h
  | .name k,h=> by simpa [ea,fy] using h
  | .draw e,h=> cU nv e h
  | .neg e,h=> cU nv e h
  | .not e,h=> cU nv e h
  | .bin _ a b,h=> by simp only [ea,Bool.and_eq_true] at h;exact ⟨cU nv a h.1,cU nv b h.2⟩
  | .and a b,h=> by simp only [ea,Bool.and_eq_true] at h;exact ⟨cU nv a h.1,cU nv b h.2⟩
  | .or a b,h=> by simp only [ea,Bool.and_eq_true] at h;exact ⟨cU nv a h.1,cU nv b h.2⟩
mutual
theorem vZ (nv:Nat): ∀ s,kd nv s=true→fa nv s
  | .assign i e,h=> by simp only [kd,Bool.and_eq_true,decide_eq_true_eq] at h;exact ⟨h.1,cU nv e h.2⟩
  | .send t k a b,h=> by simp only [kd,Bool.and_eq_true,decide_eq_true_eq] at h;exact ⟨h.1.1.1,cU nv t h.1.1.2,cU nv a h.1.2,cU nv b h.2⟩
  | .timer k,h=> by simpa [kd,fa] using h
  | .cancel k,h=> by simpa [kd,fa] using h
  | .sync,_=> by simp [fa]
  | .stop,_=> by simp [fa]
  | .reply a b,h=> by simp only [kd,Bool.and_eq_true] at h;exact ⟨cU nv a h.1,cU nv b h.2⟩
  | .fail e,h=> by simp only [kd] at h;exact cU nv e h
  | .loop c b,h=> by simp only [kd,Bool.and_eq_true] at h;exact ⟨cU nv c h.1,iW nv b h.2⟩
  | .ite c a b,h=> by simp only [kd,Bool.and_eq_true] at h;exact ⟨cU nv c h.1.1,iW nv a h.1.2,iW nv b h.2⟩
theorem iW (nv:Nat): ∀ b,mN nv b=true→iu nv b
  | .nil,_=> by simp [iu]
  | .cons s b,h=> by simp only [mN,Bool.and_eq_true] at h;exact ⟨vZ nv s h.1,iW nv b h.2⟩
end
structure Fr (l:List (Nat×Bk)) (nv:Nat):Prop where
  ok: ∀ p∈l,iu nv p.2
  wl: ∀ p∈l,nG p.2=true
  n:(bQ l 0).length≤400
  h: ∀ p∈l,p.1 < 40
  nd:(l.map (·.1)).Nodup
  d: ∀ k∈jT l,k≤8
def srcB (l:List (Nat×Bk)) (nv:Nat):Bool:=l.all (fun p=> mN nv p.2 && nG p.2 && decide (p.1 < 40)) && decide ((bQ l 0).length≤400) && decide (l.map (·.1)).Nodup && (jT l).all fun k=> decide (k≤8)
theorem zL {l:List (Nat×Bk)} {nv:Nat} (h:srcB l nv=true):Fr l nv:=by
  simp only [srcB,Bool.and_eq_true,List.all_eq_true,decide_eq_true_eq] at h
  exact ⟨fun p hp=> iW nv _ (h.1.1.1 p hp).1.1,fun p hp=> (h.1.1.1 p hp).1.2,h.1.1.2,fun p hp=> (h.1.1.1 p hp).2,h.1.2,h.2⟩
theorem srcOkL:Fr onsL (yu++ym).length:=zL ae
def qb (l:List (Nat×Bk)) (i:Nat):Nat:=(jT l).getD i 0
theorem mz (l:List (Nat×Bk)):Fit (qb l) 0 (jT l):=fun k d h=> by
  unfold qb
  rw [Nat.zero_add,List.getD_eq_getElem?_getD,h];rfl
theorem CR {l:List (Nat×Bk)} {nv dur:Nat} {names ans:List Int} (hn:nv≤16) (ho: ∀ p∈l,iu nv p.2) (hm: ∀ i,Rg (names.getD i 0)):PG ⟨bQ l 0,dur,names,ans⟩ (qb l) nv:=
  ⟨sL (qb l) nv l 0 0 ((bQ l 0).length - 1) ho (mz l) (Nat.le_refl _) ab,hn,hm⟩
def CD (n k:Int):List dY:=[{ op:= .var },{ op:= .push,n:=n },{ op:= .lt },{ op:= .unl,n:=13 },{ op:= .push,n:=k },{ op:= .var },{ op:= .push,n:=5 },{ op:= .send,n:=7 },
  { op:= .var },{ op:= .push,n:=1 },{ op:= .add },{ op:= .setVar },{ op:= .jump },{ op:= .stop }]

abbrev DS:=List Int×Bool×Bool
def gB (n:Nat) (d:Int) (s:DS) (j:Nat):DS:=
  if n≤j then s else if s.1.getD j (-1) < 0 then (s.1.set j d,s.2.1,true) else if s.1.getD j (-1)≠d then (s.1,false,s.2.2) else s
def cD (C:List dY) (i:Nat):dY:=C.getD i { op:= .stop }
def yH (C:List dY) (i:Nat) (s:DS):Int:=max (s.1.getD i (-1) - (cD C i).op.pops) 0+(cD C i).op.puts
def jm (C:List dY) (s:DS) (i:Nat):DS:=
  if s.1.getD i (-1) < 0 then s
  else (db i (cD C i)).foldl (gB C.length (yH C i s)) (s.1,if s.1.getD i (-1) - (cD C i).op.pops < 0 then false else s.2.1,s.2.2)
def cR (C:List dY) (s:List Int×Bool) (k:Nat):DS:=(List.range k).foldl (jm C) (s.1,s.2,false)
theorem ng (C:List dY) (s:List Int×Bool) (k:Nat):cR C s (k+1)=jm C (cR C s k) k:=by simp [cR,List.range_succ,List.foldl_append]
def gG (C:List dY):Nat→List Int×Bool→List Int×Bool
  | 0,s=> s
  | f+1,s=> if (cR C s C.length).2.2=true then gG C f ((cR C s C.length).1,(cR C s C.length).2.1) else ((cR C s C.length).1,(cR C s C.length).2.1)
def neg (l:List Int):Nat:=l.countP fun x=> decide (x < 0)
theorem xV {l:List Int} {j:Nat} {d:Int} (hj:j < l.length) (h:l.getD j (-1) < 0) (hd:0≤d):neg (l.set j d)+1=neg l:=by
  unfold neg
  have e:l=l.take j++l[j]::l.drop (j+1):=by rw [List.getElem_cons_drop hj,List.take_append_drop]
  have h':l[j] < 0:=by rwa [List.getD_eq_getElem?_getD,List.getElem?_eq_getElem hj] at h
  rw [List.set_eq_take_append_cons_drop,if_pos hj]
  conv=> rhs;rw [e]
  simp only [List.countP_append,List.countP_cons]
  rw [decide_eq_true h',decide_eq_false (show ¬ d < 0 by omega)]
  simp
  omega
structure DI (D:Nat→Nat) (n:Nat) (s:DS):Prop where
  len:s.1.length=n
  val: ∀ i,i < n→s.1.getD i (-1)= -1∨s.1.getD i (-1)=(D i:Int)
  ok:s.2.1=true
theorem gQ {l:List Int} {j i:Nat} {d:Int}:(l.set j d).getD i (-1)=if i=j∧j < l.length then d else l.getD i (-1):=by
  simp only [List.getD_eq_getElem?_getD,List.getElem?_set]
  by_cases h:j=i
  · subst h
    by_cases h2:j < l.length
    · simp [h2]
    · simp [h2]
  · simp [h,Ne.symm h]
theorem yr {D:Nat→Nat} {n:Nat} {d:Int} {s:DS} {j:Nat} (h:DI D n s) (hd:d=(D j:Int)):DI D n (gB n d s j)∧neg (gB n d s j).1≤neg s.1∧((gB n d s j).2.2=true→s.2.2=true∨neg (gB n d s j).1 < neg s.1):=by
  unfold gB
  split
  · exact ⟨h,Nat.le_refl _,fun e=> .inl e⟩
  · rename_i hj
    split
    · rename_i hn
      have:=xV (l:=s.1) (j:=j) (d:=d) (by rw [h.len];omega) hn ab
      refine ⟨⟨by rw [List.length_set];exact h.len,fun i hi=> ?_,h.ok⟩,by simp only;omega,fun _=> .inr (by simp only;omega)⟩
      simp only
      rw [gQ]
      split
      · rename_i hc;rw [hc.1];exact .inr hd
      · exact h.val i hi
    · rename_i hn
      have hv:=h.val j ab
      have:s.1.getD j (-1)=d:=by rw [hd];rcases hv with hv | hv <;> omega
      rw [if_neg (fun hc=> hc this)]
      exact ⟨h,Nat.le_refl _,fun e=> .inl e⟩
theorem la {D:Nat→Nat} {n:Nat} {d:Int}: ∀ (l:List Nat) {s:DS},DI D n s→(∀ j∈l,d=(D j:Int))→DI D n (l.foldl (gB n d) s)∧neg (l.foldl (gB n d) s).1≤neg s.1∧((l.foldl (gB n d) s).2.2=true→s.2.2=true∨neg (l.foldl (gB n d) s).1 < neg s.1)
  | [],s,h,_=> ⟨h,Nat.le_refl _,fun e=> .inl e⟩
  | j::l,s,h,hd=> by
    obtain ⟨a1,a2,a3⟩:=yr h (hd j (by simp))
    obtain ⟨b1,b2,b3⟩:=la l a1 fun j hj=> hd j (by simp [hj])
    simp only [List.foldl_cons]
    refine ⟨b1,by omega,fun e=> ?_⟩
    rcases b3 e with e | e
    · rcases a3 e with e | e
      · exact .inl e
      · exact .inr ab
    · exact .inr ab
section
variable {D:Nat→Nat} {nv:Nat} {C:List dY} (hC:Good D nv 0 (C.length - 1) 0 C)
include hC
theorem xp {s:DS} {i:Nat} (hi:i < C.length) (h:DI D C.length s):DI D C.length (jm C s i)∧neg (jm C s i).1≤neg s.1∧((jm C s i).2.2=true→s.2.2=true∨neg (jm C s i).1 < neg s.1):=by
  unfold jm
  split
  · exact ⟨h,Nat.le_refl _,fun e=> .inl e⟩
  · rename_i hn
    have hx:C[i]? =some (cD C i):=by unfold cD;rw [List.getD_eq_getElem?_getD,List.getElem?_eq_getElem hi];rfl
    obtain ⟨_,g2,g3⟩:=hC i _ hx
    rw [Nat.zero_add] at g2 g3
    have hv:s.1.getD i (-1)=(D i:Int):=by rcases h.val i hi with hv | hv <;> omega
    have hdo:yH C i s=((D i - (cD C i).op.pops+(cD C i).op.puts:Nat):Int):=by unfold yH;rw [hv];omega
    rw [if_neg (by rw [hv];omega)]
    exact la _ ⟨h.len,h.val,h.ok⟩ fun j hj=> by rw [hdo,(g3 j hj).2.2]
theorem jo {s:List Int×Bool} (h:DI D C.length (s.1,s.2,false)): ∀ k,k≤C.length→DI D C.length (cR C s k)∧neg (cR C s k).1≤neg s.1∧((cR C s k).2.2=true→neg (cR C s k).1 < neg s.1)
  | 0,_=> ⟨h,Nat.le_refl _,fun e=> by simp [cR] at e⟩
  | k+1,hk=> by
    obtain ⟨a1,a2,a3⟩:=jo h k ab
    obtain ⟨b1,b2,b3⟩:=xp hC ab a1 (i:=k)
    rw [ng]
    refine ⟨b1,by omega,fun e=> ?_⟩
    rcases b3 e with e | e
    · have:=a3 e;omega
    · omega
theorem qF: ∀ f (s:List Int×Bool),DI D C.length (s.1,s.2,false)→DI D C.length ((gG C f s).1,(gG C f s).2,false)
  | 0,s,h=> h
  | f+1,s,h=> by
    obtain ⟨a1,_,_⟩:=jo hC h C.length (Nat.le_refl _)
    unfold gG
    split
    · exact qF f _ ⟨a1.len,a1.val,a1.ok⟩
    · exact ⟨a1.len,a1.val,a1.ok⟩
end
theorem ri {C:List dY} {f:Nat} {s:List Int×Bool} (h:(cR C s C.length).2.2=true):gG C (f+1) s=gG C f ((cR C s C.length).1,(cR C s C.length).2.1):=by rw [gG,if_pos h]
theorem ro {C:List dY} {f:Nat} {s:List Int×Bool} (h:(cR C s C.length).2.2=false):gG C (f+1) s=((cR C s C.length).1,(cR C s C.length).2.1):=by rw [gG,if_neg (by simp [h])]
def gw (C:List dY) (e:Int):List Int×Bool:=if e < 0∨(C.length:Int)≤e then (List.replicate C.length (-1),true) else gG C (C.length+1) ((List.replicate C.length (-1)).set e.toNat 0,true)
theorem nk {D:Nat→Nat} {nv:Nat} {C:List dY} (hC:Good D nv 0 (C.length - 1) 0 C) {e:Int} (he:0≤e→e < C.length→D e.toNat=0):DI D C.length ((gw C e).1,(gw C e).2,false):=by
  have hr: ∀ i,(List.replicate C.length (-1:Int)).getD i (-1)= -1:=fun i=> by rw [List.getD_eq_getElem?_getD,List.getElem?_replicate];split <;> rfl
  unfold gw
  split
  · exact ⟨by simp,fun i _=> .inl (hr i),rfl⟩
  · refine qF hC _ _ ⟨by simp,fun i hi=> ?_,rfl⟩
    simp only
    rw [gQ]
    split
    · rename_i hc
      right
      rw [hc.1,he ab ab];rfl
    · exact .inl (hr i)
def iC (C:List dY) (out:List Int) (k:Nat):Int:=(List.range k).foldl (fun m i=> if 0≤out.getD i (-1) then max (max m (out.getD i (-1))) (out.getD i (-1) - (cD C i).op.pops+(cD C i).op.puts) else m) 0
theorem ni (C:List dY) (out:List Int) (k:Nat):iC C out (k+1)=if 0≤out.getD k (-1) then max (max (iC C out k) (out.getD k (-1))) (out.getD k (-1) - (cD C k).op.pops+(cD C k).op.puts) else iC C out k:=by simp [iC,List.range_succ,List.foldl_append]
theorem za (o:Opc):o.puts≤1:=by cases o <;> decide
theorem kW {C:List dY} {out:List Int} {D:Nat→Nat} {n:Nat} {ok ch:Bool} (h:DI D n (out,ok,ch)) {B:Nat} (hB: ∀ i,i < n→D i≤B): ∀ k,k≤n→0≤iC C out k∧iC C out k≤B+1
  | 0,_=> by simp [iC];omega
  | k+1,hk=> by
    obtain ⟨h1,h2⟩:=kW (C:=C) h hB k ab
    have h3:=hB k ab
    have h4:out.getD k (-1)= -1∨out.getD k (-1)=(D k:Int):=h.val k ab
    have h5:=za (cD C k).op
    have h6:=ni C out k
    rw [h6]
    rcases h4 with h4 | h4 <;> rw [h4] <;> split <;> omega
def lx (l:List (Nat×Nat)):List Int:=l.foldl (fun m p=> m.set p.1 (p.2:Int)) (List.replicate 40 (-1))
theorem vS (l:List (Nat×Nat)):(lx l).length=40:=by
  unfold lx
  have: ∀ (l:List (Nat×Nat)) (m:List Int),m.length=40→(l.foldl (fun m p=> m.set p.1 (p.2:Int)) m).length=40:=by
    intro l
    induction l with
    | nil=> exact fun m h=> h
    | cons p l ih=> exact fun m h=> ih _ (by rw [List.length_set];exact h)
  exact this l _ (by simp)
theorem ve: ∀ (l:List (Nat×Nat)) (h:Nat),(lx l).getD h (-1)= -1∨ ∃ e,(h,e)∈l∧(lx l).getD h (-1)=(e:Int):=by
  unfold lx
  have key: ∀ (l:List (Nat×Nat)) (m:List Int) (h:Nat),(l.foldl (fun m p=> m.set p.1 (p.2:Int)) m).getD h (-1)=m.getD h (-1)∨ ∃ e,(h,e)∈l∧(l.foldl (fun m p=> m.set p.1 (p.2:Int)) m).getD h (-1)=(e:Int):=by
    intro l
    induction l with
    | nil=> exact fun m h=> .inl rfl
    | cons p l ih=>
      intro m h
      simp only [List.foldl_cons]
      rcases ih (m.set p.1 (p.2:Int)) h with e | ⟨e,h1,h2⟩
      · rw [e,gQ]
        split
        · rename_i hc
          exact .inr ⟨p.2,by rw [hc.1];exact List.mem_cons_self,rfl⟩
        · exact .inl rfl
      · exact .inr ⟨e,List.mem_cons_of_mem _ h1,h2⟩
  intro l h
  rcases key l (List.replicate 40 (-1)) h with e | e
  · left
    rw [e,List.getD_eq_getElem?_getD,List.getElem?_replicate]
    split <;> rfl
  · exact .inr e
def iB (l:List (Nat×Bk)):Bool:=decide ((bQ l 0).length≤400) && (List.range 40).all fun h=> decide (iC (bQ l 0) (gw (bQ l 0) ((lx (ij l 0)).getD h (-1))).1 (bQ l 0).length≤16)
theorem vY (l:List (Nat×Bk)) (h:Nat):(lx (ij l 0)).getD h (-1)= -1∨ ∃ e:Nat,(h,e)∈ij l 0∧(lx (ij l 0)).getD h (-1)=(e:Int)∧e < (bQ l 0).length∧qb l e=0:=by
  rcases ve (ij l 0) h with e | ⟨e,h1,h2⟩
  · exact .inl e
  · obtain ⟨_,h4,h5⟩:=rW (mz l) h1
    exact .inr ⟨e,h1,h2,by omega,h5⟩
theorem ux {l:List (Nat×Bk)} {nv:Nat} (hs:Fr l nv):iB l=true:=by
  unfold iB
  rw [Bool.and_eq_true,decide_eq_true_eq,List.all_eq_true]
  refine ⟨hs.n,fun h _=> ?_⟩
  rw [decide_eq_true_eq]
  have hg:=sL (qb l) nv l 0 0 ((bQ l 0).length - 1) hs.ok (mz l) (Nat.le_refl _) ab
  have hd:=nk hg (e:=(lx (ij l 0)).getD h (-1)) (fun h1 h2=> by
    rcases vY l h with e | ⟨e,_,e2,_,e4⟩
    · omega
    · rw [e2];exact e4)
  have hB: ∀ i,i < (bQ l 0).length→qb l i≤8:=fun i hi=> by
    unfold qb
    rw [← nb l 0] at hi
    rw [List.getD_eq_getElem?_getD,List.getElem?_eq_getElem hi]
    exact hs.d _ (List.getElem_mem hi)
  have:=(kW (C:=bQ l 0) hd hB _ (Nat.le_refl _)).2
  omega
end Go.Proofs.YtmjnackchaahbaaGreat
