/- part 7 -/
import Derived.Test.YtmjnackchaahbaaGreatNqZ6
set_option linter.unusedSimpArgs false
set_option linter.unusedVariables false
namespace Go.Proofs.YtmjnackchaahbaaGreat
open Go.RowKit

section
variable {rb:Bool} {P:Program} {Q:Exit→St→Prop} {σ:St}
theorem aq {x y:Code} (h:D rb P x (kz (D rb P y Q) Q) σ):D rb P (.seq x y) Q σ:=aU fun _ hK=> by
 intro K a w hr R
 refine wpIn_mono (h K a w hr R) ?_
 rintro e a' w' ⟨σ',R',q⟩
 refine ⟨σ',R',?_⟩
 cases e with
 | normal=> exact hK _ q
 | _=> exact q
theorem am {id:Nat} {l:List Oper} {y:Code} (h:DL rb P l.toArray (kz (D rb P y Q) Q) l σ):D rb P (.seq (.region id l.toArray false) y) Q σ:=aq (an h)
theorem aj {ops:Array Oper} {y:Code} (h:D rb P y Q σ):DL rb P ops (kz (D rb P y Q) Q) [] σ:=aJ h
theorem aT {y:Code} (h:D rb P y Q σ):D rb P .skip (kz (D rb P y Q) Q) σ:=bs h
theorem ek {ops:Array Oper} {y:Code} {i:Nat} (h:D rb P y Q σ):DL rb P ops (td i (kz (D rb P y Q) Q)) [] σ:=aJ h
theorem cp {y:Code} {i:Nat} (h:D rb P y Q σ):D rb P .skip (td i (kz (D rb P y Q) Q)) σ:=bs h
end
theorem CQ {P:Program} {w:World} {t e:TypeId} (n c:Nat) (ht:P.underlying t=some (.slice e)): ∃ b,(binOp .eql t (.slice none n c) (.slice none 0 0)).run P w= .ok (.bool b) w:=by
 have h1 (d:Nat): ∃ b,(Op.equalIn (d+1) t (.slice none n c) (.slice none 0 0)).run P w= .ok b w:=by
  simp [run_underlying ht,Op.equalIn]
 obtain ⟨b,h2⟩:=h1 9999
 refine ⟨b,?_⟩
 simp only [binOp]
 simp [Op.equal,Op.maxDepth,h2]
theorem tB {P:Program} {σ:St} {dd:Option Tmp} {ty:TypeId} {t t' e:TypeId} (x y:Operand) (h:P.underlying t=some (.slice e)) {n:Nat} {xs:List PV} (hx:σ.eval x= .sl n xs) (hy:σ.eval y= .v (.slice none 0 0)):JK P dd (.binOp .eql t x y t') ty σ (fun σ'=> ∃ b,σ'=σ.put dd (.v (.bool b))):=by
 intro o hd ho ht
 subst hd
 intro K ι S a w R
 have hp: ∃ p m c,a.eval x= .slice p m c:=by
  have hr:=R.eval x
  rw [hx] at hr
  generalize a.eval x=u at hr
  cases hr with
  | sl h=>
   cases h with
   | sl0 h0 h1 h2=> exact ⟨_,_,_,rfl⟩
   | sl=> exact ⟨_,_,_,rfl⟩
 obtain ⟨p,m,c,hp⟩:=hp
 have h2:=Rep.evV R hy
 have hq: ∃ b,(binOp .eql t (.slice p m c) (.slice none 0 0)).run P w= .ok (.bool b) w:=by
  cases p with
  | none=> exact CQ m c h
  | some p=> exact ⟨_,uT p m c h⟩
 obtain ⟨b,hq⟩:=hq
 have hrun:(execOp a.eval o).run P w= .ok (.value (.bool b)) w:=by
  clear h hx hy
  generalize a.eval=ρ at hp h2
  simp [execOp,ho,hp,h2,eqGuard,hq]
 exact bY hrun ⟨_,⟨b,rfl⟩,ι,S,R.put o.dst .v fun _=> fF⟩
section
variable {rb:Bool} {P:Program} {Q:Exit→St→Prop} {σ:St} {ops:Array Oper} {rest:List Oper} {d:Option Tmp} {ty:TypeId} {p:String} {af:Array Edge}
theorem cE {x:Operand} {b:Bool} (hx:σ.eval x= .v (.bool b)) (h:DL rb P ops Q rest (σ.put d (.v (.bool b)))):DL rb P ops Q (⟨d, .move x,ty,p,af,none⟩::rest) σ:=ai (aH x hx) h
theorem cu {x:Operand} {b:Bool} (hx:σ.eval x= .v (.bool b)) (h:DL rb P ops Q rest (σ.put d (.v (.bool b)))):DL rb P ops Q (⟨d, .assign x,ty,p,af,none⟩::rest) σ:=ai (bp x hx) h
theorem aX {x:Operand} {k:IntKind} {n:Int} (hx:σ.eval x= .v (.int k n)) (h:DL rb P ops Q rest (σ.put d (.v (.int k n)))):DL rb P ops Q (⟨d, .move x,ty,p,af,none⟩::rest) σ:=ai (aH x hx) h
theorem be {x:Operand} {k:IntKind} {n:Int} (hx:σ.eval x= .v (.int k n)) (h:DL rb P ops Q rest (σ.put d (.v (.int k n)))):DL rb P ops Q (⟨d, .assign x,ty,p,af,none⟩::rest) σ:=ai (bp x hx) h
theorem ej {x:Operand} {s:ByteArray} (hx:σ.eval x= .v (.string s)) (h:DL rb P ops Q rest (σ.put d (.v (.string s)))):DL rb P ops Q (⟨d, .move x,ty,p,af,none⟩::rest) σ:=ai (aH x hx) h
theorem oH {x:Operand} {s:ByteArray} (hx:σ.eval x= .v (.string s)) (h:DL rb P ops Q rest (σ.put d (.v (.string s)))):DL rb P ops Q (⟨d, .assign x,ty,p,af,none⟩::rest) σ:=ai (bp x hx) h
theorem bR {x:Operand} {i:aC} {o:Nat} (hx:σ.eval x= .ptr i o) (h:DL rb P ops Q rest (σ.put d (.ptr i o))):DL rb P ops Q (⟨d, .move x,ty,p,af,none⟩::rest) σ:=ai (aH x hx) h
theorem wG {x:Operand} {i:aC} {o:Nat} (hx:σ.eval x= .ptr i o) (h:DL rb P ops Q rest (σ.put d (.ptr i o))):DL rb P ops Q (⟨d, .assign x,ty,p,af,none⟩::rest) σ:=ai (bp x hx) h
theorem gI {x:Operand} {i:aC} {o n:Nat} (hx:σ.eval x= .ref i o n) (h:DL rb P ops Q rest (σ.put d (.ref i o n))):DL rb P ops Q (⟨d, .move x,ty,p,af,none⟩::rest) σ:=ai (aH x hx) h
theorem fk {x:Operand} {i:aC} {o n:Nat} (hx:σ.eval x= .ref i o n) (h:DL rb P ops Q rest (σ.put d (.ref i o n))):DL rb P ops Q (⟨d, .assign x,ty,p,af,none⟩::rest) σ:=ai (bp x hx) h
theorem eY {x:Operand} {n:Nat} {xs:List PV} (hx:σ.eval x= .sl n xs) (h:DL rb P ops Q rest (σ.put d (.sl n xs))):DL rb P ops Q (⟨d, .move x,ty,p,af,none⟩::rest) σ:=ai (aH x hx) h
theorem kH {x:Operand} {n:Nat} {xs:List PV} (hx:σ.eval x= .sl n xs) (h:DL rb P ops Q rest (σ.put d (.sl n xs))):DL rb P ops Q (⟨d, .assign x,ty,p,af,none⟩::rest) σ:=ai (bp x hx) h
theorem Af {t:TypeId} {z:List Value} {x:Operand} [T:Ty P t false z] {i:aC} {off:Nat} {e:TypeId} {ys:List AV} {b:Bool} (hx:σ.eval x= .ptr i off) (hid:σ.ob i= .obj (.box e ys)) (hv:ys[off]? =some (.v (.bool b))) (h:DL rb P ops Q rest (σ.put d (.v (.bool b)))):DL rb P ops Q (⟨d, .load t x,ty,p,af,none⟩::rest) σ:=ai (aF x T hx hid hv) h
theorem cf {t:TypeId} {z:List Value} {x:Operand} [T:Ty P t false z] {i:aC} {off:Nat} {e:TypeId} {ys:List AV} {k:IntKind} {n:Int} (hx:σ.eval x= .ptr i off) (hid:σ.ob i= .obj (.box e ys)) (hv:ys[off]? =some (.v (.int k n))) (h:DL rb P ops Q rest (σ.put d (.v (.int k n)))):DL rb P ops Q (⟨d, .load t x,ty,p,af,none⟩::rest) σ:=ai (aF x T hx hid hv) h
theorem eZ {t:TypeId} {z:List Value} {x:Operand} [T:Ty P t false z] {i:aC} {off:Nat} {e:TypeId} {ys:List AV} {n:Nat} {xs:List PV} (hx:σ.eval x= .ptr i off) (hid:σ.ob i= .obj (.box e ys)) (hv:ys[off]? =some (.sl n xs)) (h:DL rb P ops Q rest (σ.put d (.sl n xs))):DL rb P ops Q (⟨d, .load t x,ty,p,af,none⟩::rest) σ:=ai (aF x T hx hid hv) h
theorem kf {t t':TypeId} {x y:Operand} {k:IntKind} {a b:Int} (hx:σ.eval x= .v (.int k a)) (hy:σ.eval y= .v (.int k b)) (hr:(a==b)=true) (h:DL rb P ops Q rest (σ.put d (.v (.bool true)))):DL rb P ops Q (⟨d, .binOp .eql t x y t',ty,p,af,none⟩::rest) σ:=ai (bC x y hx hy hr) h
theorem gM {t t':TypeId} {x y:Operand} {k:IntKind} {a b:Int} (hx:σ.eval x= .v (.int k a)) (hy:σ.eval y= .v (.int k b)) (hr:(a==b)=false) (h:DL rb P ops Q rest (σ.put d (.v (.bool false)))):DL rb P ops Q (⟨d, .binOp .eql t x y t',ty,p,af,none⟩::rest) σ:=ai (bC x y hx hy hr) h
theorem bb {T:TypeId} {f off:Nat} {x:Operand} [F:eS P T f off] {i:aC} {of0 of1:Nat} {oc:Cells} (hx:σ.eval x= .ptr i of0) (hid:σ.ob i= .obj oc) (he:of0+off=of1) (h:DL rb P ops Q rest (σ.put d (.ptr i of1))):DL rb P ops Q (⟨d, .fieldAddr T x f,ty,p,af,none⟩::rest) σ:=ai (aA x F hx hid he) h
theorem bG {t:TypeId} {g:Bool} {z:List Value} {x y:Operand} [T:Ty P t g z] {i:aC} {off:Nat} {e:TypeId} {xs vs ys:List AV} (hx:σ.eval x= .ptr i off) (hid:σ.ob i= .obj (.box e xs)) (hv:(σ.eval y).cells=some vs) (hl:vs.length=z.length) (hfit:Nat.ble (off+vs.length) xs.length=true) (hy:fX xs off vs=ys) (h:DL rb P ops Q rest ((σ.setOb i (.obj (.box e ys))).put d .dead)):DL rb P ops Q (⟨d, .store t x y,ty,p,af,none⟩::rest) σ:=ai (dH x y T hx hid hv hl (Nat.le_of_ble_eq_true hfit) hy) h
theorem fP {P:Program} {all:List Oper} {W:List Nat} {I:List aC} {AA:List (List aC)} {σ:St} {Kont:List Res→Prop} {os:List Oper} {rs:List Res} {r0:Res} (h:rs=[r0]) (hh:AnyOps P all W I AA σ Kont os [r0]):AnyOps P all W I AA σ Kont os rs:=h ▸ hh
theorem fQ {P:Program} {all:List Oper} {W:List Nat} {I:List aC} {AA:List (List aC)} {σ:St} {Kont:List Res→Prop} {os:List Oper} {rs:List Res} {r0 r1:Res} (h:rs=[r0,r1]) (hh:AnyOps P all W I AA σ Kont os [r0,r1]):AnyOps P all W I AA σ Kont os rs:=h ▸ hh
theorem fU {P:Program} {all:List Oper} {W:List Nat} {I:List aC} {AA:List (List aC)} {σ:St} {Kont:List Res→Prop} {os:List Oper} {rs:List Res} {r0 r1 r2:Res} (h:rs=[r0,r1,r2]) (hh:AnyOps P all W I AA σ Kont os [r0,r1,r2]):AnyOps P all W I AA σ Kont os rs:=h ▸ hh
theorem fY {P:Program} {all:List Oper} {W:List Nat} {I:List aC} {AA:List (List aC)} {σ:St} {Kont:List Res→Prop} {os:List Oper} {rs:List Res} {r0 r1 r2 r3:Res} (h:rs=[r0,r1,r2,r3]) (hh:AnyOps P all W I AA σ Kont os [r0,r1,r2,r3]):AnyOps P all W I AA σ Kont os rs:=h ▸ hh
theorem gz {P:Program} {all:List Oper} {W:List Nat} {I:List aC} {AA:List (List aC)} {σ:St} {Kont:List Res→Prop} {os:List Oper} {rs:List Res} {r0 r1 r2 r3 r4:Res} (h:rs=[r0,r1,r2,r3,r4]) (hh:AnyOps P all W I AA σ Kont os [r0,r1,r2,r3,r4]):AnyOps P all W I AA σ Kont os rs:=h ▸ hh
theorem gZ {P:Program} {all:List Oper} {W:List Nat} {I:List aC} {AA:List (List aC)} {σ:St} {Kont:List Res→Prop} {os:List Oper} {rs:List Res} {r0 r1 r2 r3 r4 r5:Res} (h:rs=[r0,r1,r2,r3,r4,r5]) (hh:AnyOps P all W I AA σ Kont os [r0,r1,r2,r3,r4,r5]):AnyOps P all W I AA σ Kont os rs:=h ▸ hh
theorem jg {P:Program} {all:List Oper} {W:List Nat} {I:List aC} {AA:List (List aC)} {σ:St} {Kont:List Res→Prop} {os:List Oper} {rs:List Res} {r0 r1 r2 r3 r4 r5 r6:Res} (h:rs=[r0,r1,r2,r3,r4,r5,r6]) (hh:AnyOps P all W I AA σ Kont os [r0,r1,r2,r3,r4,r5,r6]):AnyOps P all W I AA σ Kont os rs:=h ▸ hh
theorem ka {P:Program} {all:List Oper} {W:List Nat} {I:List aC} {AA:List (List aC)} {σ:St} {Kont:List Res→Prop} {os:List Oper} {rs:List Res} {r0 r1 r2 r3 r4 r5 r6 r7:Res} (h:rs=[r0,r1,r2,r3,r4,r5,r6,r7]) (hh:AnyOps P all W I AA σ Kont os [r0,r1,r2,r3,r4,r5,r6,r7]):AnyOps P all W I AA σ Kont os rs:=h ▸ hh
theorem kG {P:Program} {all:List Oper} {W:List Nat} {I:List aC} {AA:List (List aC)} {σ:St} {Kont:List Res→Prop} {os:List Oper} {rs:List Res} {r0 r1 r2 r3 r4 r5 r6 r7 r8:Res} (h:rs=[r0,r1,r2,r3,r4,r5,r6,r7,r8]) (hh:AnyOps P all W I AA σ Kont os [r0,r1,r2,r3,r4,r5,r6,r7,r8]):AnyOps P all W I AA σ Kont os rs:=h ▸ hh
theorem fW {P:Program} {all:List Oper} {W:List Nat} {I:List aC} {AA:List (List aC)} {σ:St} {Kont:List Res→Prop} {os:List Oper} {rs:List Res} {r0 r1 r2 r3 r4 r5 r6 r7 r8 r9:Res} (h:rs=[r0,r1,r2,r3,r4,r5,r6,r7,r8,r9]) (hh:AnyOps P all W I AA σ Kont os [r0,r1,r2,r3,r4,r5,r6,r7,r8,r9]):AnyOps P all W I AA σ Kont os rs:=h ▸ hh
theorem gL {P:Program} {all:List Oper} {W:List Nat} {I:List aC} {AA:List (List aC)} {σ:St} {Kont:List Res→Prop} {os:List Oper} {rs:List Res} {r0 r1 r2 r3 r4 r5 r6 r7 r8 r9 r10:Res} (h:rs=[r0,r1,r2,r3,r4,r5,r6,r7,r8,r9,r10]) (hh:AnyOps P all W I AA σ Kont os [r0,r1,r2,r3,r4,r5,r6,r7,r8,r9,r10]):AnyOps P all W I AA σ Kont os rs:=h ▸ hh
theorem kP {P:Program} {all:List Oper} {W:List Nat} {I:List aC} {AA:List (List aC)} {σ:St} {Kont:List Res→Prop} {os:List Oper} {rs:List Res} {r0 r1 r2 r3 r4 r5 r6 r7 r8 r9 r10 r11:Res} (h:rs=[r0,r1,r2,r3,r4,r5,r6,r7,r8,r9,r10,r11]) (hh:AnyOps P all W I AA σ Kont os [r0,r1,r2,r3,r4,r5,r6,r7,r8,r9,r10,r11]):AnyOps P all W I AA σ Kont os rs:=h ▸ hh
theorem mt {P:Program} {all:List Oper} {W:List Nat} {I:List aC} {AA:List (List aC)} {σ:St} {Kont:List Res→Prop} {os:List Oper} {rs:List Res} {r0 r1 r2 r3 r4 r5 r6 r7 r8 r9 r10 r11 r12:Res} (h:rs=[r0,r1,r2,r3,r4,r5,r6,r7,r8,r9,r10,r11,r12]) (hh:AnyOps P all W I AA σ Kont os [r0,r1,r2,r3,r4,r5,r6,r7,r8,r9,r10,r11,r12]):AnyOps P all W I AA σ Kont os rs:=h ▸ hh
theorem pw {P:Program} {all:List Oper} {W:List Nat} {I:List aC} {AA:List (List aC)} {σ:St} {Kont:List Res→Prop} {os:List Oper} {rs:List Res} {r0 r1 r2 r3 r4 r5 r6 r7 r8 r9 r10 r11 r12 r13:Res} (h:rs=[r0,r1,r2,r3,r4,r5,r6,r7,r8,r9,r10,r11,r12,r13]) (hh:AnyOps P all W I AA σ Kont os [r0,r1,r2,r3,r4,r5,r6,r7,r8,r9,r10,r11,r12,r13]):AnyOps P all W I AA σ Kont os rs:=h ▸ hh
theorem vZ {P:Program} {all:List Oper} {W:List Nat} {I:List aC} {AA:List (List aC)} {σ:St} {Kont:List Res→Prop} {os:List Oper} {rs:List Res} {r0 r1 r2 r3 r4 r5 r6 r7 r8 r9 r10 r11 r12 r13 r14:Res} (h:rs=[r0,r1,r2,r3,r4,r5,r6,r7,r8,r9,r10,r11,r12,r13,r14]) (hh:AnyOps P all W I AA σ Kont os [r0,r1,r2,r3,r4,r5,r6,r7,r8,r9,r10,r11,r12,r13,r14]):AnyOps P all W I AA σ Kont os rs:=h ▸ hh
theorem wJ {P:Program} {all:List Oper} {W:List Nat} {I:List aC} {AA:List (List aC)} {σ:St} {Kont:List Res→Prop} {os:List Oper} {rs:List Res} {r0 r1 r2 r3 r4 r5 r6 r7 r8 r9 r10 r11 r12 r13 r14 r15:Res} (h:rs=[r0,r1,r2,r3,r4,r5,r6,r7,r8,r9,r10,r11,r12,r13,r14,r15]) (hh:AnyOps P all W I AA σ Kont os [r0,r1,r2,r3,r4,r5,r6,r7,r8,r9,r10,r11,r12,r13,r14,r15]):AnyOps P all W I AA σ Kont os rs:=h ▸ hh
theorem yf {P:Program} {all:List Oper} {W:List Nat} {I:List aC} {AA:List (List aC)} {σ:St} {Kont:List Res→Prop} {os:List Oper} {rs:List Res} {r0 r1 r2 r3 r4 r5 r6 r7 r8 r9 r10 r11 r12 r13 r14 r15 r16:Res} (h:rs=[r0,r1,r2,r3,r4,r5,r6,r7,r8,r9,r10,r11,r12,r13,r14,r15,r16]) (hh:AnyOps P all W I AA σ Kont os [r0,r1,r2,r3,r4,r5,r6,r7,r8,r9,r10,r11,r12,r13,r14,r15,r16]):AnyOps P all W I AA σ Kont os rs:=h ▸ hh
theorem zT {P:Program} {all:List Oper} {W:List Nat} {I:List aC} {AA:List (List aC)} {σ:St} {Kont:List Res→Prop} {os:List Oper} {rs:List Res} {r0 r1 r2 r3 r4 r5 r6 r7 r8 r9 r10 r11 r12 r13 r14 r15 r16 r17:Res} (h:rs=[r0,r1,r2,r3,r4,r5,r6,r7,r8,r9,r10,r11,r12,r13,r14,r15,r16,r17]) (hh:AnyOps P all W I AA σ Kont os [r0,r1,r2,r3,r4,r5,r6,r7,r8,r9,r10,r11,r12,r13,r14,r15,r16,r17]):AnyOps P all W I AA σ Kont os rs:=h ▸ hh
theorem CN {P:Program} {all:List Oper} {W:List Nat} {I:List aC} {AA:List (List aC)} {σ:St} {Kont:List Res→Prop} {os:List Oper} {rs:List Res} {r0 r1 r2 r3 r4 r5 r6 r7 r8 r9 r10 r11 r12 r13 r14 r15 r16 r17 r18:Res} (h:rs=[r0,r1,r2,r3,r4,r5,r6,r7,r8,r9,r10,r11,r12,r13,r14,r15,r16,r17,r18]) (hh:AnyOps P all W I AA σ Kont os [r0,r1,r2,r3,r4,r5,r6,r7,r8,r9,r10,r11,r12,r13,r14,r15,r16,r17,r18]):AnyOps P all W I AA σ Kont os rs:=h ▸ hh
theorem FV {P:Program} {all:List Oper} {W:List Nat} {I:List aC} {AA:List (List aC)} {σ:St} {Kont:List Res→Prop} {os:List Oper} {rs:List Res} {r0 r1 r2 r3 r4 r5 r6 r7 r8 r9 r10 r11 r12 r13 r14 r15 r16 r17 r18 r19:Res} (h:rs=[r0,r1,r2,r3,r4,r5,r6,r7,r8,r9,r10,r11,r12,r13,r14,r15,r16,r17,r18,r19]) (hh:AnyOps P all W I AA σ Kont os [r0,r1,r2,r3,r4,r5,r6,r7,r8,r9,r10,r11,r12,r13,r14,r15,r16,r17,r18,r19]):AnyOps P all W I AA σ Kont os rs:=h ▸ hh
theorem FS {P:Program} {all:List Oper} {W:List Nat} {I:List aC} {AA:List (List aC)} {σ:St} {Kont:List Res→Prop} {os:List Oper} {rs:List Res} {r0 r1 r2 r3 r4 r5 r6 r7 r8 r9 r10 r11 r12 r13 r14 r15 r16 r17 r18 r19 r20:Res} (h:rs=[r0,r1,r2,r3,r4,r5,r6,r7,r8,r9,r10,r11,r12,r13,r14,r15,r16,r17,r18,r19,r20]) (hh:AnyOps P all W I AA σ Kont os [r0,r1,r2,r3,r4,r5,r6,r7,r8,r9,r10,r11,r12,r13,r14,r15,r16,r17,r18,r19,r20]):AnyOps P all W I AA σ Kont os rs:=h ▸ hh
theorem FX {P:Program} {all:List Oper} {W:List Nat} {I:List aC} {AA:List (List aC)} {σ:St} {Kont:List Res→Prop} {os:List Oper} {rs:List Res} {r0 r1 r2 r3 r4 r5 r6 r7 r8 r9 r10 r11 r12 r13 r14 r15 r16 r17 r18 r19 r20 r21:Res} (h:rs=[r0,r1,r2,r3,r4,r5,r6,r7,r8,r9,r10,r11,r12,r13,r14,r15,r16,r17,r18,r19,r20,r21]) (hh:AnyOps P all W I AA σ Kont os [r0,r1,r2,r3,r4,r5,r6,r7,r8,r9,r10,r11,r12,r13,r14,r15,r16,r17,r18,r19,r20,r21]):AnyOps P all W I AA σ Kont os rs:=h ▸ hh
theorem FR {P:Program} {all:List Oper} {W:List Nat} {I:List aC} {AA:List (List aC)} {σ:St} {Kont:List Res→Prop} {os:List Oper} {rs:List Res} {r0 r1 r2 r3 r4 r5 r6 r7 r8 r9 r10 r11 r12 r13 r14 r15 r16 r17 r18 r19 r20 r21 r22:Res} (h:rs=[r0,r1,r2,r3,r4,r5,r6,r7,r8,r9,r10,r11,r12,r13,r14,r15,r16,r17,r18,r19,r20,r21,r22]) (hh:AnyOps P all W I AA σ Kont os [r0,r1,r2,r3,r4,r5,r6,r7,r8,r9,r10,r11,r12,r13,r14,r15,r16,r17,r18,r19,r20,r21,r22]):AnyOps P all W I AA σ Kont os rs:=h ▸ hh
theorem Gh {P:Program} {all:List Oper} {W:List Nat} {I:List aC} {AA:List (List aC)} {σ:St} {Kont:List Res→Prop} {os:List Oper} {rs:List Res} {r0 r1 r2 r3 r4 r5 r6 r7 r8 r9 r10 r11 r12 r13 r14 r15 r16 r17 r18 r19 r20 r21 r22 r23:Res} (h:rs=[r0,r1,r2,r3,r4,r5,r6,r7,r8,r9,r10,r11,r12,r13,r14,r15,r16,r17,r18,r19,r20,r21,r22,r23]) (hh:AnyOps P all W I AA σ Kont os [r0,r1,r2,r3,r4,r5,r6,r7,r8,r9,r10,r11,r12,r13,r14,r15,r16,r17,r18,r19,r20,r21,r22,r23]):AnyOps P all W I AA σ Kont os rs:=h ▸ hh
theorem Eb {P:Program} {all:List Oper} {W:List Nat} {I:List aC} {AA:List (List aC)} {σ:St} {Kont:List Res→Prop} {os:List Oper} {rs:List Res} {r0 r1 r2 r3 r4 r5 r6 r7 r8 r9 r10 r11 r12 r13 r14 r15 r16 r17 r18 r19 r20 r21 r22 r23 r24:Res} (h:rs=[r0,r1,r2,r3,r4,r5,r6,r7,r8,r9,r10,r11,r12,r13,r14,r15,r16,r17,r18,r19,r20,r21,r22,r23,r24]) (hh:AnyOps P all W I AA σ Kont os [r0,r1,r2,r3,r4,r5,r6,r7,r8,r9,r10,r11,r12,r13,r14,r15,r16,r17,r18,r19,r20,r21,r22,r23,r24]):AnyOps P all W I AA σ Kont os rs:=h ▸ hh
theorem DE {P:Program} {all:List Oper} {W:List Nat} {I:List aC} {AA:List (List aC)} {σ:St} {Kont:List Res→Prop} {os:List Oper} {rs:List Res} {r0 r1 r2 r3 r4 r5 r6 r7 r8 r9 r10 r11 r12 r13 r14 r15 r16 r17 r18 r19 r20 r21 r22 r23 r24 r25:Res} (h:rs=[r0,r1,r2,r3,r4,r5,r6,r7,r8,r9,r10,r11,r12,r13,r14,r15,r16,r17,r18,r19,r20,r21,r22,r23,r24,r25]) (hh:AnyOps P all W I AA σ Kont os [r0,r1,r2,r3,r4,r5,r6,r7,r8,r9,r10,r11,r12,r13,r14,r15,r16,r17,r18,r19,r20,r21,r22,r23,r24,r25]):AnyOps P all W I AA σ Kont os rs:=h ▸ hh
theorem Fy {P:Program} {all:List Oper} {W:List Nat} {I:List aC} {AA:List (List aC)} {σ:St} {Kont:List Res→Prop} {os:List Oper} {rs:List Res} {r0 r1 r2 r3 r4 r5 r6 r7 r8 r9 r10 r11 r12 r13 r14 r15 r16 r17 r18 r19 r20 r21 r22 r23 r24 r25 r26:Res} (h:rs=[r0,r1,r2,r3,r4,r5,r6,r7,r8,r9,r10,r11,r12,r13,r14,r15,r16,r17,r18,r19,r20,r21,r22,r23,r24,r25,r26]) (hh:AnyOps P all W I AA σ Kont os [r0,r1,r2,r3,r4,r5,r6,r7,r8,r9,r10,r11,r12,r13,r14,r15,r16,r17,r18,r19,r20,r21,r22,r23,r24,r25,r26]):AnyOps P all W I AA σ Kont os rs:=h ▸ hh
theorem DH {P:Program} {all:List Oper} {W:List Nat} {I:List aC} {AA:List (List aC)} {σ:St} {Kont:List Res→Prop} {os:List Oper} {rs:List Res} {r0 r1 r2 r3 r4 r5 r6 r7 r8 r9 r10 r11 r12 r13 r14 r15 r16 r17 r18 r19 r20 r21 r22 r23 r24 r25 r26 r27:Res} (h:rs=[r0,r1,r2,r3,r4,r5,r6,r7,r8,r9,r10,r11,r12,r13,r14,r15,r16,r17,r18,r19,r20,r21,r22,r23,r24,r25,r26,r27]) (hh:AnyOps P all W I AA σ Kont os [r0,r1,r2,r3,r4,r5,r6,r7,r8,r9,r10,r11,r12,r13,r14,r15,r16,r17,r18,r19,r20,r21,r22,r23,r24,r25,r26,r27]):AnyOps P all W I AA σ Kont os rs:=h ▸ hh
theorem cK {id:Nat} {d1 d2:Tmp} {zp zw t t':TypeId} {p1 p2:String} {f1 f2:Array Edge} {u v w z:Operand} {x y:Code} {k:IntKind} {a b:Int} (hx:σ.eval u= .v (.int k a)) (hy:σ.eval v= .v (.int k b)) (hr:(a==b)=false) (hw:(σ.put (some d1) (.v (.bool false))).eval w= .v (.bool false)) (hz:((σ.put (some d1) (.v (.bool false))).put (some d2) (.v (.bool false))).eval z= .v (.bool false)) (h:D rb P y Q ((σ.put (some d1) (.v (.bool false))).put (some d2) (.v (.bool false)))):
  D rb P (.seq (.region id #[⟨some d1, .binOp .eql t u v t',zp,p1,f1,none⟩,⟨some d2, .assign w,zw,p2,f2,none⟩] false) (.cond z x y)) Q σ:=am (l:=[⟨some d1, .binOp .eql t u v t',zp,p1,f1,none⟩,⟨some d2, .assign w,zw,p2,f2,none⟩]) (ai (bC u v hx hy hr) (ai (bp w hw) (aj (pM hz h))))
theorem iO {id:Nat} {d1 d2:Tmp} {zp zw t t':TypeId} {p1 p2:String} {f1 f2:Array Edge} {u v w z:Operand} {x y:Code} {k:IntKind} {a b:Int} (hx:σ.eval u= .v (.int k a)) (hy:σ.eval v= .v (.int k b)) (hr:(a==b)=true) (hw:(σ.put (some d1) (.v (.bool true))).eval w= .v (.bool true)) (hz:((σ.put (some d1) (.v (.bool true))).put (some d2) (.v (.bool true))).eval z= .v (.bool true)) (h:D rb P x Q ((σ.put (some d1) (.v (.bool true))).put (some d2) (.v (.bool true)))):
  D rb P (.seq (.region id #[⟨some d1, .binOp .eql t u v t',zp,p1,f1,none⟩,⟨some d2, .assign w,zw,p2,f2,none⟩] false) (.cond z x y)) Q σ:=am (l:=[⟨some d1, .binOp .eql t u v t',zp,p1,f1,none⟩,⟨some d2, .assign w,zw,p2,f2,none⟩]) (ai (bC u v hx hy hr) (ai (bp w hw) (aj (pK hz h))))
end
theorem ar {σ:St} {rn:List (aC×aC)} {xs ys:List AV} (h:gH σ rn xs ys:=by repeat' (first | exact dI | refine dg ?_ ?_ | exact Lv.v | exact co (by assumption) | exact co ab | exact Lv.sl | exact Lv.fp | exact Lv.nil | exact cP rfl rfl | exact dJ rfl | refine Lv.agg rfl ?_ | refine Lv.fn rfl ?_ rfl ?_ | refine Lv.ifc ?_ | exact bf | refine ax ?_ ?_)):gH σ rn xs ys:=h
theorem al {σ:St} {F:aC→Bool} {xs ys:List AV} (h:gw σ F xs ys:=by repeat' (first | exact cX | refine fc ?_ ?_ | exact Lv.v | exact co ab | exact Lv.sl | exact Lv.fp | exact Lv.nil | refine Lv.agg rfl ?_ | refine Lv.fn rfl ?_ rfl ?_ | exact bf | refine ax ?_ ?_ | exact Lv.z0)):gw σ F xs ys:=h
theorem aw {σ:St} {F:aC→Bool} {xs ys:List AV} (h:gw σ F xs ys:=by repeat' (first | exact cX | refine fc ?_ ?_ | exact Lv.v | exact co ab | exact Lv.sl | exact Lv.fp | exact Lv.nil | refine Lv.agg rfl ?_ | refine Lv.fn rfl ?_ rfl ?_ | exact bf | refine ax ?_ ?_ | (refine fi rfl rfl ?_ rfl;first | assumption | (simp;done) | (simp;omega) | omega) | exact Lv.frzP rfl rfl rfl)):gw σ F xs ys:=h
theorem kp {σ:St} {n:Nat} {slots:List (Nat×AV)} {obs:List (aC×Cells)} {I Pn:List aC} (h:Le (aE n slots obs I Pn) σ:=by
 refine Le.mkJ [] [] rfl ?_ ?_ trivial ?_ ?_
 ·repeat' (first | exact trivial | exact iV rfl | exact iP rfl | exact iS rfl | exact iR rfl | exact iF rfl | exact iA rfl | exact iN rfl | exact iT rfl | exact iM rfl | exact iZ rfl | exact iD rfl | exact iI rfl | refine ⟨?_,?_⟩)
 ·repeat' (first | exact trivial | exact bF rfl rfl rfl | refine ⟨?_,?_⟩)
 ·repeat' (first | exact trivial | refine ⟨rfl,?_⟩)
 kernel_rfl):Le (aE n slots obs I Pn) σ:=h
theorem dZ {rb:Bool} {P:Program} {Q:Exit→St→Prop} {σ:St} {id:Nat} {d1 d2:Tmp} {zp zw t t':TypeId} {p1 p2:String} {f1 f2:Array Edge} {u v w z:Operand} {x y:Code} {k:IntKind} {a b:Int} (hx:σ.eval u= .v (.int k a)) (hy:σ.eval v= .v (.int k b)) (hr:(a==b)=false) (hw:(σ.put (some d1) (.v (.bool false))).eval w= .v (.bool false)) (hz:((σ.put (some d1) (.v (.bool false))).put (some d2) (.v (.bool false))).eval z= .v (.bool false)) (h:D rb P y Q ((σ.put (some d1) (.v (.bool false))).put (some d2) (.v (.bool false)))):
  D rb P (.region id #[⟨some d1, .binOp .eql t u v t',zp,p1,f1,none⟩,⟨some d2, .assign w,zw,p2,f2,none⟩] false) (kz (D rb P (.cond z x y) Q) Q) σ:=an (l:=[⟨some d1, .binOp .eql t u v t',zp,p1,f1,none⟩,⟨some d2, .assign w,zw,p2,f2,none⟩]) (ai (bC u v hx hy hr) (ai (bp w hw) (aj (pM hz h))))
theorem zr {rb:Bool} {P:Program} {Q:Exit→St→Prop} {σ:St} {id:Nat} {d1 d2:Tmp} {zp zw t t':TypeId} {p1 p2:String} {f1 f2:Array Edge} {u v w z:Operand} {x y:Code} {k:IntKind} {a b:Int} (hx:σ.eval u= .v (.int k a)) (hy:σ.eval v= .v (.int k b)) (hr:(a==b)=true) (hw:(σ.put (some d1) (.v (.bool true))).eval w= .v (.bool true)) (hz:((σ.put (some d1) (.v (.bool true))).put (some d2) (.v (.bool true))).eval z= .v (.bool true)) (h:D rb P x Q ((σ.put (some d1) (.v (.bool true))).put (some d2) (.v (.bool true)))):
  D rb P (.region id #[⟨some d1, .binOp .eql t u v t',zp,p1,f1,none⟩,⟨some d2, .assign w,zw,p2,f2,none⟩] false) (kz (D rb P (.cond z x y) Q) Q) σ:=an (l:=[⟨some d1, .binOp .eql t u v t',zp,p1,f1,none⟩,⟨some d2, .assign w,zw,p2,f2,none⟩]) (ai (bC u v hx hy hr) (ai (bp w hw) (aj (pK hz h))))
theorem bU {P:Program} {σ:St} {dd:Option Tmp} {ty:TypeId} {f:FuncId} {xs:Array Operand} {ats:Array TypeId} [C:cR P f] {args:List AV} {ins outs:List (aC×Cells)} {r:AV} {I Pn:List aC}
  (sp:Spec P f (aY args ins) (bc r outs I Pn)) (ha:gH σ [] (xs.toList.map σ.eval) args:=by repeat' (first | exact dI | refine dg ?_ ?_ | exact Lv.v | exact co (by assumption) | exact co ab | exact Lv.sl | exact Lv.fp | exact Lv.nil | exact cP rfl rfl | exact dJ rfl | refine Lv.agg rfl ?_ | refine Lv.fn rfl ?_ rfl ?_ | refine Lv.ifc ?_ | exact bf | refine ax ?_ ?_))
  (hins:ey (bk []) σ (fun _=> false) (ins.map (·.1)) ins:=by exact ⟨⟨rfl,⟨_,rfl, .box rfl (by repeat' (first | exact bf | refine ax ?_ ?_ | exact Lv.sl | exact Lv.v | exact Lv.nil | exact cP rfl rfl))⟩,rfl⟩,trivial⟩) (hfr:eT σ (bk []) (ins.map (·.1)) outs:=by exact ⟨rfl,trivial⟩)
  (hb:(AV.withins (ins.map (·.1)) args && bz (ins.map (·.1)) ins && bA ((ins.map (·.1)).map (bk [])) && bA (ins.map (·.1)) && bA ((outs.map (·.1)).map (bk [])) && bA (outs.map (·.1)) && iu (ins.map (·.1)) Pn outs && r.within (outs.map (·.1)) && bz (outs.map (·.1)) outs)=true:=by kernel_rfl):
  Stp P dd (.call { callee:= .value (.func f),args:=xs,argTypes:=ats }) ty σ ((σ.afterP (bk []) outs (ins.map (·.1)) I).put dd (r.ren (bk []))):=dY C [] ha sp hins hfr hb
theorem lz {ρ:aC→aC} {σ:St} {F:aC→Bool} {xs ys:List AV} (h: ∀ (j:Nat) (a b:AV),xs[j]? =some a→ys[j]? =some b→Lv ρ σ F a b:=by repeat' (first | exact bf | refine ax ?_ ?_ | exact Lv.v | exact Lv.sl | exact Lv.nil | exact cP rfl rfl | exact dJ rfl | exact Lv.fp | exact co rfl | exact mw rfl | exact jl rfl rfl | refine Lv.fn rfl ?_ rfl ?_ | refine Lv.agg rfl ?_ | exact Lv.z)): ∀ (j:Nat) (a b:AV),xs[j]? =some a→ys[j]? =some b→Lv ρ σ F a b:=h
theorem tr {p:Prop} (h:p:=by repeat' (first | exact trivial | refine ⟨rfl,?_⟩)):p:=h
theorem ob {p:Prop} (h:p:=by repeat' (first | exact trivial | exact ⟨rfl,⟨_,rfl, .rowE rfl⟩,rfl⟩ | exact ⟨rfl,⟨_,rfl, .box ag (by repeat' (first | exact bf | refine ax ?_ ?_ | exact Lv.v | exact Lv.sl | exact Lv.nil | exact cP rfl rfl | exact dJ rfl | exact Lv.fp | exact co rfl | exact mw rfl | exact jl rfl rfl | refine Lv.fn rfl ?_ rfl ?_ | refine Lv.agg rfl ?_ | exact Lv.z))⟩,rfl⟩ | refine ⟨?_,?_⟩)):p:=h
theorem zu {ρ:aC→aC} {σ:St} {F:aC→Bool} {x0 x1 x2 x3:Value} {xs ys:List AV} (h: ∀ (j:Nat) (a b:AV),xs[j]? =some a→ys[j]? =some b→Lv ρ σ F a b): ∀ (j:Nat) (a b:AV),(.v x0:: .v x1:: .v x2:: .v x3::xs)[j]? =some a→(.v x0:: .v x1:: .v x2:: .v x3::ys)[j]? =some b→Lv ρ σ F a b:=ax .v (ax .v (ax .v (ax .v h)))
theorem zq {ρ:aC→aC} {σ:St} {F:aC→Bool} {x0 x1 x2 x3 x4 x5 x6 x7 x8 x9:Value} {xs ys:List AV} (h: ∀ (j:Nat) (a b:AV),xs[j]? =some a→ys[j]? =some b→Lv ρ σ F a b): ∀ (j:Nat) (a b:AV),(.v x0:: .v x1:: .v x2:: .v x3:: .v x4:: .v x5:: .v x6:: .v x7:: .v x8:: .v x9::xs)[j]? =some a→(.v x0:: .v x1:: .v x2:: .v x3:: .v x4:: .v x5:: .v x6:: .v x7:: .v x8:: .v x9::ys)[j]? =some b→Lv ρ σ F a b:=ax .v (ax .v (ax .v (ax .v (ax .v (ax .v (ax .v (ax .v (ax .v (ax .v h)))))))))
theorem nC {ρ:aC→aC} {σ:St} {F:aC→Bool} {k0:IntKind} {x0 y0:Int} {xs ys:List AV} (h: ∀ (j:Nat) (a b:AV),xs[j]? =some a→ys[j]? =some b→Lv ρ σ F a b) (e0:x0=y0:=by rfl): ∀ (j:Nat) (a b:AV),(.v (.int k0 x0)::xs)[j]? =some a→(.v (.int k0 y0)::ys)[j]? =some b→Lv ρ σ F a b:=ax (co e0) h
theorem EB {ρ:aC→aC} {σ:St} {F:aC→Bool} {k0 k1 k2 k3:IntKind} {x0 x1 x2 x3 y0 y1 y2 y3:Int} {xs ys:List AV} (h: ∀ (j:Nat) (a b:AV),xs[j]? =some a→ys[j]? =some b→Lv ρ σ F a b) (e0:x0=y0:=by rfl) (e1:x1=y1:=by rfl) (e2:x2=y2:=by rfl) (e3:x3=y3:=by rfl): ∀ (j:Nat) (a b:AV),(.v (.int k0 x0):: .v (.int k1 x1):: .v (.int k2 x2):: .v (.int k3 x3)::xs)[j]? =some a→(.v (.int k0 y0):: .v (.int k1 y1):: .v (.int k2 y2):: .v (.int k3 y3)::ys)[j]? =some b→Lv ρ σ F a b:=ax (co e0) (ax (co e1) (ax (co e2) (ax (co e3) h)))
theorem pq {ρ:aC→aC} {σ:St} {F:aC→Bool} {k0 k1 k2 k3 k4 k5 k6 k7 k8 k9:IntKind} {x0 x1 x2 x3 x4 x5 x6 x7 x8 x9 y0 y1 y2 y3 y4 y5 y6 y7 y8 y9:Int} {xs ys:List AV} (h: ∀ (j:Nat) (a b:AV),xs[j]? =some a→ys[j]? =some b→Lv ρ σ F a b) (e0:x0=y0:=by rfl) (e1:x1=y1:=by rfl) (e2:x2=y2:=by rfl) (e3:x3=y3:=by rfl) (e4:x4=y4:=by rfl) (e5:x5=y5:=by rfl) (e6:x6=y6:=by rfl) (e7:x7=y7:=by rfl) (e8:x8=y8:=by rfl) (e9:x9=y9:=by rfl): ∀ (j:Nat) (a b:AV),(.v (.int k0 x0):: .v (.int k1 x1):: .v (.int k2 x2):: .v (.int k3 x3):: .v (.int k4 x4):: .v (.int k5 x5):: .v (.int k6 x6):: .v (.int k7 x7):: .v (.int k8 x8):: .v (.int k9 x9)::xs)[j]? =some a→(.v (.int k0 y0):: .v (.int k1 y1):: .v (.int k2 y2):: .v (.int k3 y3):: .v (.int k4 y4):: .v (.int k5 y5):: .v (.int k6 y6):: .v (.int k7 y7):: .v (.int k8 y8):: .v (.int k9 y9)::ys)[j]? =some b→Lv ρ σ F a b:=ax (co e0) (ax (co e1) (ax (co e2) (ax (co e3) (ax (co e4) (ax (co e5) (ax (co e6) (ax (co e7) (ax (co e8) (ax (co e9) h)))))))))
end Go.Proofs.YtmjnackchaahbaaGreat

namespace Go.Proofs.YtmjnackchaahbaaGreat

inductive Opc where
 | push | var | setVar | name | draw | add | sub | mul | div | neg | lt | le | eq | not | jump | unl | send | timer | cancel | sync | reply | fail | stop
 deriving DecidableEq
def Opc.num:Opc→Nat
 | .push=> 1 | .var=> 2 | .setVar=> 3 | .name=> 4 | .draw=> 5 | .add=> 6 | .sub=> 7 | .mul=> 8 | .div=> 9 | .neg=> 10 | .lt=> 11 | .le=> 12 | .eq=> 13 | .not=> 14
 | .jump=> 15 | .unl=> 16 | .send=> 17 | .timer=> 18 | .cancel=> 19 | .sync=> 20 | .reply=> 21 | .fail=> 22 | .stop=> 23
def Opc.pops:Opc→Nat
 | .push=> 0 | .var=> 0 | .setVar=> 1 | .name=> 0 | .draw=> 1 | .add=> 2 | .sub=> 2 | .mul=> 2 | .div=> 2 | .neg=> 1 | .lt=> 2 | .le=> 2 | .eq=> 2 | .not=> 1
 | .jump=> 0 | .unl=> 1 | .send=> 3 | .timer=> 0 | .cancel=> 0 | .sync=> 0 | .reply=> 2 | .fail=> 1 | .stop=> 0
def Opc.puts:Opc→Nat
 | .push=> 1 | .var=> 1 | .setVar=> 0 | .name=> 1 | .draw=> 1 | .add=> 1 | .sub=> 1 | .mul=> 1 | .div=> 1 | .neg=> 1 | .lt=> 1 | .le=> 1 | .eq=> 1 | .not=> 1
 | .jump=> 0 | .unl=> 0 | .send=> 0 | .timer=> 0 | .cancel=> 0 | .sync=> 0 | .reply=> 0 | .fail=> 0 | .stop=> 0
structure eW where
 op:Opc
 n:Int:=0
inductive Bo where
 | add | sub | mul | div | lt | le | eq | gt | ge | ne
 deriving DecidableEq
def Bo.text:Bo→String
 | .add=> "+" | .sub=> "-" | .mul=> "*" | .div=> "/" | .lt=> "<" | .le=> "<=" | .eq=> "==" | .gt=> ">" | .ge=> ">=" | .ne=> "!="
def Bo.code:Bo→List eW
 | .add=> [{ op:= .add }] | .sub=> [{ op:= .sub }] | .mul=> [{ op:= .mul }] | .div=> [{ op:= .div }] | .lt=> [{ op:= .lt }] | .le=> [{ op:= .le }] | .eq=> [{ op:= .eq }]
 | .gt=> [{ op:= .le },{ op:= .not }] | .ge=> [{ op:= .lt },{ op:= .not }] | .ne=> [{ op:= .eq },{ op:= .not }]
inductive Ex where
 | int (n:Int) | bool (b:Bool) | var (i:Nat) | name (k:Nat) | draw (e:Ex) | neg (e:Ex) | not (e:Ex) | bin (o:Bo) (a b:Ex) | and (a b:Ex) | or (a b:Ex)
mutual
inductive Sm where
 | assign (i:Nat) (e:Ex) | send (to:Ex) (k:Nat) (a b:Ex) | timer (k:Nat) | cancel (k:Nat) | sync | stop | reply (a b:Ex) | fail (e:Ex) | loop (c:Ex) (b:Bk) | ite (c:Ex) (a b:Bk)
inductive Bk where
 | nil | cons (s:Sm) (b:Bk)
end

def bE:Ex→Nat→List eW
 | .int n,_=> [{ op:= .push,n:=n }]
 | .bool b,_=> [{ op:= .push,n:=if b then 1 else 0 }]
 | .var i,_=> [{ op:= .var,n:=i }]
 | .name k,_=> [{ op:= .name,n:=k }]
 | .draw e,at_=> bE e at_++[{ op:= .draw }]
 | .neg e,at_=> bE e at_++[{ op:= .neg }]
 | .not e,at_=> bE e at_++[{ op:= .not }]
 | .bin o a b,at_=> bE a at_++bE b (at_+(bE a at_).length)++o.code
 | .and a b,at_=>
  let c:=bE a at_
  let x:=bE b (at_+c.length+1)
  let f:=at_+c.length+1+x.length+1
  c++[{ op:= .unl,n:=(f:Nat) }]++x++[{ op:= .jump,n:=((f+1:Nat):Int) }]++[{ op:= .push,n:=0 }]
 | .or a b,at_=>
  let c:=bE a at_
  let f:=at_+c.length+1+1+1
  let x:=bE b f
  c++[{ op:= .unl,n:=(f:Nat) }]++[{ op:= .push,n:=1 }]++[{ op:= .jump,n:=((f+x.length:Nat):Int) }]++x
mutual
def dx:Sm→Nat→List eW
 | .assign i e,at_=> bE e at_++[{ op:= .setVar,n:=i }]
 | .send t k a b,at_=>
  let c:=bE t at_
  let d:=bE a (at_+c.length)
  c++d++bE b (at_+(c.length+d.length))++[{ op:= .send,n:=k }]
 | .timer k,_=> [{ op:= .timer,n:=k }]
 | .cancel k,_=> [{ op:= .cancel,n:=k }]
 | .sync,_=> [{ op:= .sync }]
 | .stop,_=> [{ op:= .stop }]
 | .reply a b,at_=> bE a at_++bE b (at_+(bE a at_).length)++[{ op:= .reply }]
 | .fail e,at_=> bE e at_++[{ op:= .fail }]
 | .loop c b,at_=>
  let x:=bE c at_
  let y:=dT b (at_+x.length+1)
  x++[{ op:= .unl,n:=((at_+x.length+y.length+2:Nat):Int) }]++y++[{ op:= .jump,n:=(at_:Nat) }]
 | .ite c a b,at_=>
  let x:=bE c at_
  let y:=dT a (at_+x.length+1)
  let f:=at_+x.length+1+y.length+1
  let z:=dT b f
  x++[{ op:= .unl,n:=(f:Nat) }]++y++[{ op:= .jump,n:=((f+z.length:Nat):Int) }]++z
def dT:Bk→Nat→List eW
 | .nil,_=> []
 | .cons s b,at_=> dx s at_++dT b (at_+(dx s at_).length)
end

def dR (i:Nat) (x:eW):List Nat:=match x.op with
 | .stop=> []
 | .jump=> [x.n.toNat]
 | .unl=> [i+1,x.n.toNat]
 | _=> [i+1]
def dj (nv:Nat) (x:eW):Prop:=match x.op with
 | .push=> -2147483647≤x.n∧x.n≤2147483647
 | .var=> 0≤x.n∧x.n < nv
 | .setVar=> 0≤x.n∧x.n < nv
 | .name=> 0≤x.n∧x.n < 9
 | .send=> 0≤x.n∧x.n < 30
 | .timer=> 0≤x.n∧x.n < 8
 | .cancel=> 0≤x.n∧x.n < 8
 | _=> 0≤x.n
def Good (D:Nat→Nat) (nv lo hi at_:Nat) (c:List eW):Prop:= ∀ k x,c[k]? =some x→dj nv x∧x.op.pops≤D (at_+k)∧ ∀ j∈dR (at_+k) x,lo≤j∧j≤hi∧D j=D (at_+k) - x.op.pops+x.op.puts
theorem Good.app {D:Nat→Nat} {nv lo hi a p:Nat} {c c':List eW} (h:Good D nv lo hi a c) (h':Good D nv lo hi p c') (hp:p=a+c.length):Good D nv lo hi a (c++c'):=by
 subst hp
 intro k x hx
 by_cases hk:k < c.length
 ·rw [List.getElem?_append_left hk] at hx
  exact h k x hx
 rw [List.getElem?_append_right ab] at hx
 have:=h' _ x hx
 rwa [show a+c.length+(k - c.length)=a+k by omega] at this
theorem Good.one {D:Nat→Nat} {nv lo hi a:Nat} {x:eW} (h1:dj nv x) (h2:x.op.pops≤D a) (h3: ∀ j∈dR a x,lo≤j∧j≤hi∧D j=D a - x.op.pops+x.op.puts):Good D nv lo hi a [x]:=by
 intro k y hy
 cases k with
 | zero=> simp at hy;subst hy;exact ⟨h1,h2,h3⟩
 | succ k=> simp at hy
theorem Good.nil {D:Nat→Nat} {nv lo hi a:Nat}:Good D nv lo hi a []:=fun k x hx=> by simp at hx
theorem Good.mono {D:Nat→Nat} {nv lo hi lo' hi' a:Nat} {c:List eW} (h:Good D nv lo hi a c) (h1:lo'≤lo) (h2:hi≤hi'):Good D nv lo' hi' a c:=fun k x hx=> by
 obtain ⟨a1,a2,a3⟩:=h k x hx
 exact ⟨a1,a2,fun j hj=> by obtain ⟨b1,b2,b3⟩:=a3 j hj;exact ⟨by omega,by omega,b3⟩⟩
def Fit (D:Nat→Nat) (a:Nat) (ds:List Nat):Prop:= ∀ k d,ds[k]? =some d→D (a+k)=d
theorem Fit.left {D:Nat→Nat} {a:Nat} {l m:List Nat} (h:Fit D a (l++m)):Fit D a l:=fun k d hd=> h k d (by
 rw [List.getElem?_append_left (List.getElem?_eq_some_iff.1 hd).1];exact hd)
theorem Fit.right {D:Nat→Nat} {a:Nat} {l m:List Nat} (h:Fit D a (l++m)):Fit D (a+l.length) m:=fun k d hd=> by
 have:=h (l.length+k) d (by rw [List.getElem?_append_right ab,Nat.add_sub_cancel_left];exact hd)
 rwa [← Nat.add_assoc] at this
theorem Fit.hd {D:Nat→Nat} {a d:Nat} {l:List Nat} (h:Fit D a (d::l)):D a=d:=h 0 d rfl
def dG:Ex→Nat→List Nat
 | .int _,d=> [d] | .bool _,d=> [d] | .var _,d=> [d] | .name _,d=> [d]
 | .draw e,d=> dG e d++[d+1] | .neg e,d=> dG e d++[d+1] | .not e,d=> dG e d++[d+1]
 | .bin o a b,d=> dG a d++dG b (d+1)++(match o with | .gt=> [d+2,d+1] | .ge=> [d+2,d+1] | .ne=> [d+2,d+1] | _=> [d+2])
 | .and a b,d=> dG a d++[d+1]++dG b d++[d+1]++[d]
 | .or a b,d=> dG a d++[d+1]++[d]++[d+1]++dG b d
mutual
def eu:Sm→List Nat
 | .assign _ e=> dG e 0++[1]
 | .send t _ a b=> dG t 0++dG a 1++dG b 2++[3]
 | .timer _=> [0] | .cancel _=> [0] | .sync=> [0] | .stop=> [0]
 | .reply a b=> dG a 0++dG b 1++[2]
 | .fail e=> dG e 0++[1]
 | .loop c b=> dG c 0++[1]++mv b++[0]
 | .ite c a b=> dG c 0++[1]++mv a++[0]++mv b
def mv:Bk→List Nat
 | .nil=> []
 | .cons s b=> eu s++mv b
end
theorem bS: ∀ (e:Ex) (d a:Nat),(dG e d).length=(bE e a).length
 | .int _,_,_=> rfl | .bool _,_,_=> rfl | .var _,_,_=> rfl | .name _,_,_=> rfl
 | .draw e,d,a=> by simp [dG,bE,bS e d a]
 | .neg e,d,a=> by simp [dG,bE,bS e d a]
 | .not e,d,a=> by simp [dG,bE,bS e d a]
 | .bin o x y,d,a=> by cases o <;> simp [dG,bE,Bo.code,bS x d a,bS y (d+1) (a+(bE x a).length)]
 | .and x y,d,a=> by simp [dG,bE,bS x d a,bS y d (a+(bE x a).length+1)]
 | .or x y,d,a=> by simp [dG,bE,bS x d a,bS y d (a+(bE x a).length+1+1+1)]
mutual
theorem ux: ∀ (s:Sm) (a:Nat),(eu s).length=(dx s a).length
 | .assign i e,a=> by simp [eu,dx,bS e 0 a]
 | .send t k x y,a=> by simp [eu,dx,bS t 0 a,bS x 1 (a+(bE t a).length),bS y 2 (a+((bE t a).length+(bE x (a+(bE t a).length)).length))]
 | .timer _,_=> by simp [eu,dx] | .cancel _,_=> by simp [eu,dx] | .sync,_=> by simp [eu,dx] | .stop,_=> by simp [eu,dx]
 | .reply x y,a=> by simp [eu,dx,bS x 0 a,bS y 1 (a+(bE x a).length)]
 | .fail e,a=> by simp [eu,dx,bS e 0 a]
 | .loop c b,a=> by simp [eu,dx,bS c 0 a,gP b (a+(bE c a).length+1)]
 | .ite c x y,a=> by simp [eu,dx,bS c 0 a,gP x (a+(bE c a).length+1),gP y (a+(bE c a).length+1+(dT x (a+(bE c a).length+1)).length+1)]
theorem gP: ∀ (b:Bk) (a:Nat),(mv b).length=(dT b a).length
 | .nil,_=> by simp [mv,dT]
 | .cons s b,a=> by simp [mv,dT,ux s a,gP b (a+(dx s a).length)]
end
theorem succs_jump {i j f:Nat}:j∈dR i { op:= .jump,n:=(f:Int) }↔j=f:=by simp [dR]
theorem succs_unless {i j f:Nat}:j∈dR i { op:= .unl,n:=(f:Int) }↔j=i+1∨j=f:=by simp [dR]
theorem eR: ∀ (e:Ex) (d:Nat),∃ l,dG e d=d::l
 | .int _,_=> ⟨_,rfl⟩ | .bool _,_=> ⟨_,rfl⟩ | .var _,_=> ⟨_,rfl⟩ | .name _,_=> ⟨_,rfl⟩
 | .draw e,d=> by obtain ⟨l,h⟩:=eR e d;exact ⟨l++[d+1],by simp [dG,h]⟩
 | .neg e,d=> by obtain ⟨l,h⟩:=eR e d;exact ⟨l++[d+1],by simp [dG,h]⟩
 | .not e,d=> by obtain ⟨l,h⟩:=eR e d;exact ⟨l++[d+1],by simp [dG,h]⟩
 | .bin o x y,d=> by obtain ⟨l,h⟩:=eR x d;cases o <;> exact ⟨_,by simp only [dG,h,List.cons_append];rfl⟩
 | .and x y,d=> by obtain ⟨l,h⟩:=eR x d;exact ⟨_,by rw [dG,h];rfl⟩
 | .or x y,d=> by obtain ⟨l,h⟩:=eR x d;exact ⟨_,by rw [dG,h];rfl⟩
theorem Fit.e {D:Nat→Nat} {a d:Nat} {e:Ex} (h:Fit D a (dG e d)):D a=d:=by
 obtain ⟨l,hl⟩:=eR e d
 rw [hl] at h
 exact h.hd
def ic (nv:Nat):Ex→Prop
 | .int n=> -2147483647≤n∧n≤2147483647
 | .bool _=> True
 | .var i=> i < nv
 | .name k=> k < 9
 | .draw e=> ic nv e | .neg e=> ic nv e | .not e=> ic nv e
 | .bin _ a b=> ic nv a∧ic nv b
 | .and a b=> ic nv a∧ic nv b
 | .or a b=> ic nv a∧ic nv b
mutual
def gK (nv:Nat):Sm→Prop
 | .assign i e=> i < nv∧ic nv e
 | .send t k a b=> k < 30∧ic nv t∧ic nv a∧ic nv b
 | .timer k=> k < 8 | .cancel k=> k < 8 | .sync=> True | .stop=> True
 | .reply a b=> ic nv a∧ic nv b
 | .fail e=> ic nv e
 | .loop c b=> ic nv c∧lj nv b
 | .ite c a b=> ic nv c∧lj nv a∧lj nv b
def lj (nv:Nat):Bk→Prop
 | .nil=> True
 | .cons s b=> gK nv s∧lj nv b
end
theorem gW (D:Nat→Nat) (nv:Nat): ∀ (e:Ex) (d a lo hi:Nat),ic nv e→Fit D a (dG e d)→D (a+(bE e a).length)=d+1→lo≤a→a+(bE e a).length≤hi→Good D nv lo hi a (bE e a)
 | .int n,d,a,lo,hi,ho,hf,hx,hl,hh=> by
  simp only [bE,List.length_cons,List.length_nil] at*
  have:=hf.e
  exact .one ho (Nat.zero_le _) fun j hj=> by simp [dR] at hj;subst hj;exact ⟨by omega,by omega,by rw [hx,this];rfl⟩
 | .bool b,d,a,lo,hi,ho,hf,hx,hl,hh=> by
  simp only [bE,List.length_cons,List.length_nil] at*
  have:=hf.e
  exact .one (by cases b <;> simp [dj]) (Nat.zero_le _) fun j hj=> by simp [dR] at hj;subst hj;exact ⟨by omega,by omega,by rw [hx,this];rfl⟩
 | .var i,d,a,lo,hi,ho,hf,hx,hl,hh=> by
  simp only [bE,List.length_cons,List.length_nil] at*
  have:=hf.e
  exact .one (by simp only [ic] at ho;simp only [dj];omega) (Nat.zero_le _) fun j hj=> by simp [dR] at hj;subst hj;exact ⟨by omega,by omega,by rw [hx,this];rfl⟩
 | .name k,d,a,lo,hi,ho,hf,hx,hl,hh=> by
  simp only [bE,List.length_cons,List.length_nil] at*
  have:=hf.e
  exact .one (by simp only [ic] at ho;simp only [dj];omega) (Nat.zero_le _) fun j hj=> by simp [dR] at hj;subst hj;exact ⟨by omega,by omega,by rw [hx,this];rfl⟩
 | .draw e,d,a,lo,hi,ho,hf,hx,hl,hh=> by
  simp only [bE,dG,List.length_append,List.length_cons,List.length_nil] at*
  have h1:=hf.right.hd
  rw [bS e d a] at h1
  refine (gW D nv e d a lo hi ho hf.left h1 hl ab).app (.one (by simp [dj]) (by rw [h1];exact Nat.le_add_left _ _) fun j hj=> ?_) rfl
  simp [dR] at hj;subst hj
  exact ⟨by omega,by omega,by rw [Nat.add_assoc,hx,h1];rfl⟩
 | .neg e,d,a,lo,hi,ho,hf,hx,hl,hh=> by
  simp only [bE,dG,List.length_append,List.length_cons,List.length_nil] at*
  have h1:=hf.right.hd
  rw [bS e d a] at h1
  refine (gW D nv e d a lo hi ho hf.left h1 hl ab).app (.one (by simp [dj]) (by rw [h1];exact Nat.le_add_left _ _) fun j hj=> ?_) rfl
  simp [dR] at hj;subst hj
  exact ⟨by omega,by omega,by rw [Nat.add_assoc,hx,h1];rfl⟩
 | .not e,d,a,lo,hi,ho,hf,hx,hl,hh=> by
  simp only [bE,dG,List.length_append,List.length_cons,List.length_nil] at*
  have h1:=hf.right.hd
  rw [bS e d a] at h1
  refine (gW D nv e d a lo hi ho hf.left h1 hl ab).app (.one (by simp [dj]) (by rw [h1];exact Nat.le_add_left _ _) fun j hj=> ?_) rfl
  simp [dR] at hj;subst hj
  exact ⟨by omega,by omega,by rw [Nat.add_assoc,hx,h1];rfl⟩
 | .bin o x y,d,a,lo,hi,ho,hf,hx,hl,hh=> by
  simp only [bE,dG,List.length_append] at*
  have hf1:=hf.left.left
  have hf2:=hf.left.right
  have hf3:=hf.right
  rw [bS x d a] at hf2
  rw [List.length_append,bS x d a,bS y (d+1) (a+(bE x a).length)] at hf3
  have e2:=hf2.e
  have hy:D (a+(bE x a).length+(bE y (a+(bE x a).length)).length)=d+2:=by
   rw [Nat.add_assoc]
   cases o <;> exact hf3.hd
  refine ((gW D nv x d a lo hi ho.1 hf1 e2 hl ab).app (gW D nv y (d+1) _ lo hi ho.2 hf2 hy ab ab) rfl).app (p:=a+(bE x a).length+(bE y (a+(bE x a).length)).length) ?_ (by rw [List.length_append];omega)
  have hx':D (a+(bE x a).length+(bE y (a+(bE x a).length)).length+o.code.length)=d+1:=by rw [← hx];congr 1;omega
  have hh':a+(bE x a).length+(bE y (a+(bE x a).length)).length+o.code.length≤hi:=by omega
  have hl':lo≤a+(bE x a).length+(bE y (a+(bE x a).length)).length:=by omega
  rw [← Nat.add_assoc] at hf3
  clear hf hf1 hf2 e2 hx hh hl
  generalize a+(bE x a).length+(bE y (a+(bE x a).length)).length=p at hf3 hy hx' hh' hl'
  have one: ∀ (q:Nat) (op:Opc),lo≤q→q+1≤hi→dj nv { op:=op }→(∀ i,dR i { op:=op }=[i+1])→op.pops≤D q→D (q+1)=D q - op.pops+op.puts→Good D nv lo hi q [{ op:=op }]:=fun q op q1 q2 q3 q4 q5 q6=>
   .one q3 q5 fun j hj=> by rw [q4] at hj;simp at hj;subst hj;exact ⟨by omega,q2,q6⟩
  have two: ∀ (op:Opc),dj nv { op:=op }→(∀ i,dR i { op:=op }=[i+1])→op.pops=2→op.puts=1→D (p+2)=d+1→D (p+1)=d+1→p+2≤hi→Good D nv lo hi p [{ op:=op },{ op:= .not }]:=fun op q1 q2 q3 q4 q5 q6 q7=>
   (one p op hl' ab q1 q2 (by rw [hy,q3];omega) (by rw [q6,hy,q3,q4];omega)).app (one (p+1) .not ab q7 (by simp [dj]) (fun _=> rfl) (by rw [q6];exact Nat.le_add_left _ _) (by rw [q5,q6];rfl)) rfl
  cases o
  case gt=> exact two .le (by simp [dj]) (fun _=> rfl) rfl rfl hx' (hf3 1 _ rfl) hh'
  case ge=> exact two .lt (by simp [dj]) (fun _=> rfl) rfl rfl hx' (hf3 1 _ rfl) hh'
  case ne=> exact two .eq (by simp [dj]) (fun _=> rfl) rfl rfl hx' (hf3 1 _ rfl) hh'
  all_goals exact one p _ hl' hh' (by simp [dj]) (fun _=> rfl) (by rw [hy];exact Nat.le_add_left _ _) (by rw [show D (p+1)=d+1 from hx',hy];rfl)
 | .and x y,d,a,lo,hi,ho,hf,hx,hl,hh=> by
  simp only [bE,dG,List.length_append,List.length_cons,List.length_nil] at*
  have f1:=hf.left.left.left.left
  have f2:=hf.left.left.left.right
  have f3:=hf.left.left.right
  have f4:=hf.left.right
  have f5:=hf.right
  simp only [List.length_append,List.length_cons,List.length_nil,bS x d a,bS y d (a+(bE x a).length+1)] at f2 f3 f4 f5
  have e2:=f2.hd;have e4:=f4.hd;have e5:=f5.hd
  generalize hc:bE x a=c at*
  rw [show a+(c.length+(0+1))=a+c.length+1 by omega] at f3
  have e3:=f3.e
  generalize hz:bE y (a+c.length+1)=z at*
  have g1:=gW D nv x d a lo hi ho.1 f1 (by rw [hc];exact e2) hl (by rw [hc];omega)
  have g3:=gW D nv y d (a+c.length+1) lo hi ho.2 f3 (by rw [hz,← e4];congr 1;omega) ab (by rw [hz];omega)
  rw [hc] at g1
  rw [hz] at g3
  refine (((g1.app (.one (by simp [dj];omega) (by rw [e2];exact Nat.le_add_left _ _) fun j hj=> ?_) rfl).app g3 (by simp;omega)).app (p:=a+c.length+1+z.length) (.one (by simp [dj];omega) (Nat.zero_le _) fun j hj=> ?_) (by simp;omega)).app (p:=a+c.length+1+z.length+1) (.one (by simp [dj]) (Nat.zero_le _) fun j hj=> ?_) (by simp;omega)
  ·rcases succs_unless.1 hj with rfl | rfl
   ·exact ⟨by omega,by omega,by rw [e3,e2];rfl⟩
   exact ⟨by omega,by omega,by rw [show a+c.length+1+z.length+1=a+(c.length+(0+1)+z.length+(0+1)) by omega,e5,e2];rfl⟩
  ·obtain rfl:=succs_jump.1 hj
   exact ⟨by omega,by omega,by rw [show a+c.length+1+z.length+1+1=a+(c.length+(0+1)+z.length+(0+1)+(0+1)) by omega,hx,show a+c.length+1+z.length=a+(c.length+(0+1)+z.length) by omega,e4];rfl⟩
  simp [dR] at hj;subst hj
  exact ⟨by omega,by omega,by rw [show a+c.length+1+z.length+1+1=a+(c.length+(0+1)+z.length+(0+1)+(0+1)) by omega,hx,show a+c.length+1+z.length+1=a+(c.length+(0+1)+z.length+(0+1)) by omega,e5];rfl⟩
 | .or x y,d,a,lo,hi,ho,hf,hx,hl,hh=> by
  simp only [bE,dG,List.length_append,List.length_cons,List.length_nil] at*
  have f1:=hf.left.left.left.left
  have f2:=hf.left.left.left.right
  have f3:=hf.left.left.right
  have f4:=hf.left.right
  have f5:=hf.right
  simp only [List.length_append,List.length_cons,List.length_nil,bS x d a] at f2 f3 f4 f5
  have e2:=f2.hd;have e3:=f3.hd;have e4:=f4.hd
  generalize hc:bE x a=c at*
  rw [show a+(c.length+(0+1)+(0+1)+(0+1))=a+c.length+1+1+1 by omega] at f5
  have e5:=f5.e
  generalize hz:bE y (a+c.length+1+1+1)=z at*
  have g1:=gW D nv x d a lo hi ho.1 f1 (by rw [hc];exact e2) hl (by rw [hc];omega)
  have g5:=gW D nv y d (a+c.length+1+1+1) lo hi ho.2 f5 (by rw [hz,← hx];congr 1;omega) ab (by rw [hz];omega)
  rw [hc] at g1
  rw [hz] at g5
  refine (((g1.app (.one (by simp [dj];omega) (by rw [e2];exact Nat.le_add_left _ _) fun j hj=> ?_) rfl).app (p:=a+c.length+1) (.one (by simp [dj]) (Nat.zero_le _) fun j hj=> ?_) (by simp;omega)).app (p:=a+c.length+1+1) (.one (by simp [dj];omega) (Nat.zero_le _) fun j hj=> ?_) (by simp;omega)).app g5 (by simp;omega)
  ·rcases succs_unless.1 hj with rfl | rfl
   ·exact ⟨by omega,by omega,by rw [show a+c.length+1=a+(c.length+(0+1)) by omega,e3,e2];rfl⟩
   exact ⟨by omega,by omega,by rw [e5,e2];rfl⟩
  ·simp [dR] at hj;subst hj
   exact ⟨by omega,by omega,by rw [show a+c.length+1+1=a+(c.length+(0+1)+(0+1)) by omega,e4,show a+c.length+1=a+(c.length+(0+1)) by omega,e3];rfl⟩
  obtain rfl:=succs_jump.1 hj
  exact ⟨by omega,by omega,by rw [show a+c.length+1+1+1+z.length=a+(c.length+(0+1)+(0+1)+(0+1)+z.length) by omega,hx,show a+c.length+1+1=a+(c.length+(0+1)+(0+1)) by omega,e4];rfl⟩
theorem DT: ∀ (s:Sm),∃ l,eu s=0::l
 | .assign _ e=> by obtain ⟨l,h⟩:=eR e 0;exact ⟨_,by simp only [eu,h,List.cons_append];rfl⟩
 | .send t _ a b=> by obtain ⟨l,h⟩:=eR t 0;exact ⟨_,by simp only [eu,h,List.cons_append];rfl⟩
 | .timer _=> ⟨_,by simp only [eu];rfl⟩ | .cancel _=> ⟨_,by simp only [eu];rfl⟩ | .sync=> ⟨_,by simp only [eu];rfl⟩ | .stop=> ⟨_,by simp only [eu];rfl⟩
 | .reply a b=> by obtain ⟨l,h⟩:=eR a 0;exact ⟨_,by simp only [eu,h,List.cons_append];rfl⟩
 | .fail e=> by obtain ⟨l,h⟩:=eR e 0;exact ⟨_,by simp only [eu,h,List.cons_append];rfl⟩
 | .loop c b=> by obtain ⟨l,h⟩:=eR c 0;exact ⟨_,by simp only [eu,h,List.cons_append];rfl⟩
 | .ite c a b=> by obtain ⟨l,h⟩:=eR c 0;exact ⟨_,by simp only [eu,h,List.cons_append];rfl⟩
theorem Fit.s {D:Nat→Nat} {a:Nat} {s:Sm} (h:Fit D a (eu s)):D a=0:=by
 obtain ⟨l,hl⟩:=DT s
 rw [hl] at h
 exact h.hd
theorem Fit.b {D:Nat→Nat} {a:Nat} {b:Bk} (h:Fit D a (mv b)) (hx:D (a+(dT b a).length)=0):D a=0:=by
 cases b with
 | nil=> simpa [dT] using hx
 | cons s b=> simp only [mv] at h;exact h.left.s
theorem la {D:Nat→Nat} {nv lo hi a:Nat} {op:Opc} {n:Int} (hs: ∀ i,dR i { op:=op,n:=n }=[i+1]) (ho:dj nv { op:=op,n:=n }) (h1:op.pops≤D a) (h2:D (a+1)=D a - op.pops+op.puts) (hl:lo≤a) (hh:a+1≤hi):Good D nv lo hi a [{ op:=op,n:=n }]:=
 .one ho h1 fun j hj=> by rw [hs] at hj;simp at hj;subst hj;exact ⟨by omega,hh,h2⟩
mutual
theorem Jg (D:Nat→Nat) (nv:Nat): ∀ (s:Sm) (a lo hi:Nat),gK nv s→Fit D a (eu s)→D (a+(dx s a).length)=0→lo≤a→a+(dx s a).length≤hi→Good D nv lo hi a (dx s a)
 | .assign i e,a,lo,hi,ho,hf,hx,hl,hh=> by
  simp only [dx,eu,gK,List.length_append,List.length_cons,List.length_nil] at*
  have h1:=hf.right.hd
  rw [bS e 0 a] at h1
  exact (gW D nv e 0 a lo hi ho.2 hf.left h1 hl ab).app (la (fun _=> rfl) (by simp only [dj];omega) (by rw [h1];exact Nat.le_refl _) (by rw [Nat.add_assoc,hx,h1];rfl) ab ab) rfl
 | .send t k x y,a,lo,hi,ho,hf,hx,hl,hh=> by
  simp only [dx,eu,gK,List.length_append,List.length_cons,List.length_nil] at*
  have f1:=hf.left.left.left
  have f2:=hf.left.left.right
  have f3:=hf.left.right
  have f4:=hf.right
  simp only [List.length_append,bS t 0 a,bS x 1 (a+(bE t a).length),bS y 2 (a+((bE t a).length+(bE x (a+(bE t a).length)).length))] at f2 f3 f4
  have e2:=f2.e;have e3:=f3.e;have e4:=f4.hd
  have g1:=gW D nv t 0 a lo hi ho.2.1 f1 e2 hl ab
  have g2:=gW D nv x 1 _ lo hi ho.2.2.1 f2 (by rw [Nat.add_assoc];exact e3) ab ab
  have g3:=gW D nv y 2 _ lo hi ho.2.2.2 f3 (by rw [Nat.add_assoc];exact e4) ab ab
  exact ((g1.app g2 rfl).app g3 (by rw [List.length_append])).app (la (fun _=> rfl) (by simp only [dj];omega) (by rw [e4];exact Nat.le_refl _) (by rw [Nat.add_assoc,hx,e4];rfl) ab ab) (by simp only [List.length_append])
 | .timer k,a,lo,hi,ho,hf,hx,hl,hh=> by
  simp only [dx,eu,gK,List.length_cons,List.length_nil] at*
  have:=hf.hd
  exact la (fun _=> rfl) (by simp only [dj];omega) (Nat.zero_le _) (by rw [show a+1=a+(0+1) from rfl,hx,this];rfl) hl hh
 | .cancel k,a,lo,hi,ho,hf,hx,hl,hh=> by
  simp only [dx,eu,gK,List.length_cons,List.length_nil] at*
  have:=hf.hd
  exact la (fun _=> rfl) (by simp only [dj];omega) (Nat.zero_le _) (by rw [show a+1=a+(0+1) from rfl,hx,this];rfl) hl hh
 | .sync,a,lo,hi,ho,hf,hx,hl,hh=> by
  simp only [dx,eu,gK,List.length_cons,List.length_nil] at*
  have:=hf.hd
  exact la (fun _=> rfl) (by simp [dj]) (Nat.zero_le _) (by rw [show a+1=a+(0+1) from rfl,hx,this];rfl) hl hh
 | .stop,a,lo,hi,ho,hf,hx,hl,hh=> by
  simp only [dx]
  exact .one (by simp [dj]) (Nat.zero_le _) fun j hj=> by simp [dR] at hj
 | .reply x y,a,lo,hi,ho,hf,hx,hl,hh=> by
  simp only [dx,eu,gK,List.length_append,List.length_cons,List.length_nil] at*
  have f1:=hf.left.left
  have f2:=hf.left.right
  have f3:=hf.right
  simp only [List.length_append,bS x 0 a,bS y 1 (a+(bE x a).length)] at f2 f3
  have e2:=f2.e;have e3:=f3.hd
  have g1:=gW D nv x 0 a lo hi ho.1 f1 e2 hl ab
  have g2:=gW D nv y 1 _ lo hi ho.2 f2 (by rw [Nat.add_assoc];exact e3) ab ab
  exact (g1.app g2 rfl).app (la (fun _=> rfl) (by simp [dj]) (by rw [e3];exact Nat.le_refl _) (by rw [Nat.add_assoc,hx,e3];rfl) ab ab) (by simp only [List.length_append])
 | .fail e,a,lo,hi,ho,hf,hx,hl,hh=> by
  simp only [dx,eu,gK,List.length_append,List.length_cons,List.length_nil] at*
  have h1:=hf.right.hd
  rw [bS e 0 a] at h1
  exact (gW D nv e 0 a lo hi ho hf.left h1 hl ab).app (la (fun _=> rfl) (by simp [dj]) (by rw [h1];exact Nat.le_refl _) (by rw [Nat.add_assoc,hx,h1];rfl) ab ab) rfl
 | .loop c b,a,lo,hi,ho,hf,hx,hl,hh=> by
  simp only [dx,eu,gK,List.length_append,List.length_cons,List.length_nil] at*
  have f1:=hf.left.left.left
  have f2:=hf.left.left.right
  have f3:=hf.left.right
  have f4:=hf.right
  have e1:=f1.e
  simp only [List.length_append,List.length_cons,List.length_nil,bS c 0 a,gP b (a+(bE c a).length+1)] at f2 f3 f4
  have e2:=f2.hd;have e4:=f4.hd
  generalize hc:bE c a=x at*
  rw [show a+(x.length+(0+1))=a+x.length+1 by omega] at f3
  have e3:=f3.b (by rw [← e4];congr 1;omega)
  have g1:=gW D nv c 0 a lo hi ho.1 f1 (by rw [hc];exact e2) hl (by rw [hc];omega)
  have g3:=uB D nv b (a+x.length+1) lo hi ho.2 f3 (by rw [← e4];congr 1;omega) ab ab
  generalize hz:dT b (a+x.length+1)=z at*
  rw [hc] at g1
  refine ((g1.app (.one (by simp [dj];omega) (by rw [e2];exact Nat.le_refl _) fun j hj=> ?_) rfl).app g3 (by simp;omega)).app (p:=a+x.length+1+z.length) (.one (by simp [dj]) (Nat.zero_le _) fun j hj=> ?_) (by simp;omega)
  ·rcases succs_unless.1 hj with rfl | rfl
   ·exact ⟨by omega,by omega,by rw [e3,e2];rfl⟩
   exact ⟨by omega,by omega,by rw [show a+x.length+z.length+2=a+(x.length+(0+1)+z.length+(0+1)) by omega,hx,e2];rfl⟩
  obtain rfl:=succs_jump.1 hj
  exact ⟨by omega,by omega,by rw [e1,show j+x.length+1+z.length=j+(x.length+(0+1)+z.length) by omega,e4];rfl⟩
 | .ite c u v,a,lo,hi,ho,hf,hx,hl,hh=> by
  simp only [dx,eu,gK,List.length_append,List.length_cons,List.length_nil] at*
  have f1:=hf.left.left.left.left
  have f2:=hf.left.left.left.right
  have f3:=hf.left.left.right
  have f4:=hf.left.right
  have f5:=hf.right
  simp only [List.length_append,List.length_cons,List.length_nil,bS c 0 a,gP u (a+(bE c a).length+1)] at f2 f3 f4 f5
  have e2:=f2.hd;have e4:=f4.hd
  generalize hc:bE c a=x at*
  rw [show a+(x.length+(0+1))=a+x.length+1 by omega] at f3
  have e3:=f3.b (by rw [← e4];congr 1;omega)
  have g1:=gW D nv c 0 a lo hi ho.1 f1 (by rw [hc];exact e2) hl (by rw [hc];omega)
  have g3:=uB D nv u (a+x.length+1) lo hi ho.2.1 f3 (by rw [← e4];congr 1;omega) ab ab
  generalize hz:dT u (a+x.length+1)=z at*
  rw [show a+(x.length+(0+1)+z.length+(0+1))=a+x.length+1+z.length+1 by omega] at f5
  have e5:=f5.b (by rw [← hx];congr 1;omega)
  have g5:=uB D nv v (a+x.length+1+z.length+1) lo hi ho.2.2 f5 (by rw [← hx];congr 1;omega) ab ab
  generalize hy:dT v (a+x.length+1+z.length+1)=y at*
  rw [hc] at g1
  refine (((g1.app (.one (by simp [dj];omega) (by rw [e2];exact Nat.le_refl _) fun j hj=> ?_) rfl).app g3 (by simp;omega)).app (p:=a+x.length+1+z.length) (.one (by simp [dj];omega) (Nat.zero_le _) fun j hj=> ?_) (by simp;omega)).app g5 (by simp;omega)
  ·rcases succs_unless.1 hj with rfl | rfl
   ·exact ⟨by omega,by omega,by rw [e3,e2];rfl⟩
   exact ⟨by omega,by omega,by rw [e5,e2];rfl⟩
  obtain rfl:=succs_jump.1 hj
  exact ⟨by omega,by omega,by rw [show a+x.length+1+z.length+1+y.length=a+(x.length+(0+1)+z.length+(0+1)+y.length) by omega,hx,show a+x.length+1+z.length=a+(x.length+(0+1)+z.length) by omega,e4];rfl⟩
theorem uB (D:Nat→Nat) (nv:Nat): ∀ (b:Bk) (a lo hi:Nat),lj nv b→Fit D a (mv b)→D (a+(dT b a).length)=0→lo≤a→a+(dT b a).length≤hi→Good D nv lo hi a (dT b a)
 | .nil,a,lo,hi,ho,hf,hx,hl,hh=> by simp only [dT];exact .nil
 | .cons s b,a,lo,hi,ho,hf,hx,hl,hh=> by
  simp only [dT,mv,lj,List.length_append] at*
  have f1:=hf.left
  have f2:=hf.right
  rw [ux s a] at f2
  have e2:=f2.b (by rw [Nat.add_assoc];exact hx)
  exact (Jg D nv s a lo hi ho.1 f1 e2 hl ab).app (uB D nv b _ lo hi ho.2 f2 (by rw [Nat.add_assoc];exact hx) ab ab) rfl
end
end Go.Proofs.YtmjnackchaahbaaGreat

namespace Go.Proofs.YtmjnackchaahbaaGreat

def bV:List (Nat×Bk)→Nat→List eW
 | [],_=> []
 | (_,b)::l,a=> dT b a++[{ op:= .stop }]++bV l (a+(dT b a).length+1)
def ms:List (Nat×Bk)→List Nat
 | []=> []
 | (_,b)::l=> mv b++[0]++ms l
def kD:List (Nat×Bk)→Nat→List (Nat×Nat)
 | [],_=> []
 | (h,b)::l,a=> (h,a)::kD l (a+(dT b a).length+1)
theorem qb: ∀ (l:List (Nat×Bk)) (a:Nat),(ms l).length=(bV l a).length
 | [],_=> rfl
 | (h,b)::l,a=> by simp [ms,bV,gP b a,qb l (a+(dT b a).length+1)]
theorem BV (D:Nat→Nat) (nv:Nat): ∀ (l:List (Nat×Bk)) (a lo hi:Nat),(∀ p∈l,lj nv p.2)→Fit D a (ms l)→lo≤a→a+(bV l a).length≤hi+1→Good D nv lo hi a (bV l a)
 | [],a,lo,hi,ho,hf,hl,hh=> .nil
 | (h,b)::l,a,lo,hi,ho,hf,hl,hh=> by
  simp only [bV,ms,List.length_append,List.length_cons,List.length_nil] at*
  have f1:=hf.left.left
  have f2:=hf.left.right
  have f3:=hf.right
  simp only [List.length_append,List.length_cons,List.length_nil,gP b a] at f2 f3
  have e2:=f2.hd
  refine ((uB D nv b a lo hi (ho (h,b) (by simp)) f1 e2 hl ab).app (.one (by simp [dj]) (Nat.zero_le _) fun j hj=> by simp [dR] at hj) rfl).app (BV D nv l _ lo hi (fun p hp=> ho p (by simp [hp])) (by rw [show a+(dT b a).length+1=a+((dT b a).length+(0+1)) by omega];exact f3) ab ab) (by simp;omega)
theorem wT {D:Nat→Nat}: ∀ {l:List (Nat×Bk)} {a:Nat},Fit D a (ms l)→ ∀ {h e:Nat},(h,e)∈kD l a→a≤e∧e < a+(bV l a).length∧D e=0
 | [],_,_,_,_,hm=> by simp [kD] at hm
 | (k,b)::l,a,hf,h,e,hm=> by
  simp only [bV,ms,kD,List.length_append,List.length_cons,List.length_nil] at*
  have f1:=hf.left.left
  have f2:=hf.left.right
  have f3:=hf.right
  simp only [List.length_append,List.length_cons,List.length_nil,gP b a] at f2 f3
  rcases List.mem_cons.1 hm with hm | hm
  ·obtain ⟨rfl,rfl⟩:=Prod.mk.inj hm
   exact ⟨Nat.le_refl _,by omega,f1.b f2.hd⟩
  obtain ⟨h1,h2,h3⟩:=wT (l:=l) (a:=a+(dT b a).length+1) (by rw [show a+(dT b a).length+1=a+((dT b a).length+(0+1)) by omega];exact f3) hm
  exact ⟨by omega,by omega,h3⟩

def oT (n:Int):Int:=max (-2147483647) (min n 2147483647)
def Rg (v:Int):Prop:= -2147483647≤v∧v≤2147483647
theorem oy (n:Int):Rg (oT n):=by unfold Rg oT;omega
structure Ac where
 k:Int
 a:Int:=0
 b:Int:=0
 c:Int:=0
 d:Int:=0
 deriving DecidableEq
structure Cx where
 code:List eW
 dur:Nat
 names:List Int
 ans:List Int
structure Ms where
 vars:List Int
 acts:List Ac:=[]
 steps:Nat:=0
 stack:List Int:=[]
 pc:Nat
 asked:List Int:=[]
 fin:Bool:=false
 cov:List Nat:=[]
def Ms.top (s:Ms) (k:Nat):Int:=s.stack.getD (s.stack.length - 1 - k) 0
def Ms.pop (s:Ms) (k:Nat):List Int:=s.stack.take (s.stack.length - k)
def gv (l:List Int) (i:Nat) (k:Int):Int:=l.getD i 0 % k
def cG (l:List Ac):Nat:=l.countP fun a=> decide (a.k=3)
def flag (b:Bool):Int:=if b then 1 else 0
def Ha:Opc→Int→Int→Int
 | .add,y,x=> oT (y+x)
 | .sub,y,x=> oT (y - x)
 | .mul,y,x=> oT (y*x)
 | .div,y,x=> if x=0 then 0 else oT (y.tdiv x)
 | .lt,y,x=> flag (decide (y < x))
 | .le,y,x=> flag (decide (y≤x))
 | _,y,x=> flag (decide (y=x))
def dA (K:Cx) (x:eW) (s:Ms):Ms:=match x.op with
 | .push=> { s with stack:=s.stack++[oT x.n] }
 | .var=> { s with stack:=s.stack++[oT (s.vars.getD x.n.toNat 0)] }
 | .setVar=> { s with vars:=s.vars.set x.n.toNat (s.top 0),stack:=s.pop 1,acts:=if x.n < K.dur then s.acts++[{ k:=1,a:=x.n,b:=s.top 0 }] else s.acts }
 | .name=> { s with stack:=s.stack++[oT (K.names.getD x.n.toNat 0)] }
 | .draw=>
  if max 1 (min (s.top 0) 4)=1 then { s with stack:=s.pop 1++[0] }
  else { s with stack:=s.pop 1++[gv K.ans s.asked.length (max 1 (min (s.top 0) 4))],asked:=s.asked++[max 1 (min (s.top 0) 4)] }
 | .neg=> { s with stack:=s.pop 1++[oT (-(s.top 0))] }
 | .not=> { s with stack:=s.pop 1++[flag (decide (s.top 0=0))] }
 | .jump=> { s with pc:=x.n.toNat }
 | .unl=> { s with stack:=s.pop 1,pc:=if s.top 0=0 then x.n.toNat else s.pc }
 | .send=> { s with stack:=s.pop 3,acts:=if 0≤s.top 2∧s.top 2 < K.names.getD 1 0∧cG s.acts < 20 then s.acts++[{ k:=3,a:=s.top 2,b:=x.n,c:=s.top 1,d:=s.top 0 }] else s.acts }
 | .timer=> { s with acts:=s.acts++[{ k:=4,a:=x.n }] }
 | .cancel=> { s with acts:=s.acts++[{ k:=5,a:=x.n }] }
 | .sync=> { s with acts:=s.acts++[{ k:=2 }] }
 | .reply=> { s with stack:=s.pop 2,acts:=s.acts++[{ k:=6,a:=s.top 1,b:=s.top 0 }] }
 | .fail=> { s with stack:=s.pop 1,acts:=s.acts++[{ k:=7,a:=s.top 0 }] }
 | .stop=> { s with fin:=true }
 | o=> { s with stack:=s.pop 2++[Ha o (s.top 1) (s.top 0)] }
def jf (K:Cx) (s:Ms):Ms:=dA K (K.code.getD s.pc { op:= .stop }) { s with pc:=s.pc+1,steps:=s.steps+1,cov:=s.cov++[s.pc] }
def kV (K:Cx):Nat→Ms→Ms
 | 0,s=> s
 | k+1,s=> if s.fin=true then s else kV K k (jf K s)
theorem kx {K:Cx} {I:Ms→Prop} (h: ∀ s,I s→s.fin=false→I (jf K s)): ∀ k s,I s→I (kV K k s)
 | 0,_,hs=> hs
 | k+1,s,hs=> by
  unfold kV
  split
  ·exact hs
  rename_i hf;exact kx h k _ (h s hs (by simpa using hf))
theorem wz {K:Cx} {x:eW} {s:Ms}:(dA K x s).steps=s.steps∧(dA K x s).cov=s.cov:=by
 unfold dA
 cases x.op <;> first | exact ⟨rfl,rfl⟩ | (simp only;split <;> exact ⟨rfl,rfl⟩)
theorem stepM_steps {K:Cx} {s:Ms}:(jf K s).steps=s.steps+1∧(jf K s).cov=s.cov++[s.pc]:=by
 unfold jf
 obtain ⟨h1,h2⟩:=wz (K:=K) (x:=K.code.getD s.pc { op:= .stop }) (s:={ s with pc:=s.pc+1,steps:=s.steps+1,cov:=s.cov++[s.pc] })
 exact ⟨h1,h2⟩
theorem cF (s:Ms) (k:Nat):(s.pop k).length=s.stack.length - k:=by simp [Ms.pop]
theorem Ag {K:Cx} {x:eW} {s:Ms} (h:x.op.pops≤s.stack.length):(dA K x s).stack.length=s.stack.length - x.op.pops+x.op.puts:=by
 unfold dA
 generalize x.op=o at h ⊢
 cases o <;> simp only [Opc.pops,Opc.puts] at h ⊢ <;> (try split) <;> first | rfl | (simp only [List.length_append,cF,List.length_cons,List.length_nil];done) | (simp only [List.length_append,cF,List.length_cons,List.length_nil];omega)
theorem Ew {K:Cx} {x:eW} {s:Ms} {i:Nat} (hp:s.pc=i+1) (hf:(dA K x s).fin=false):(dA K x s).pc∈dR i x:=by
 unfold dA at hf ⊢
 unfold dR
 cases ho:x.op <;> simp only [ho] at hf ⊢ <;> first | (simp at hf;done) | (rw [hp];exact List.mem_cons_self) | exact List.mem_cons_self | (split <;> simp [hp])
end Go.Proofs.YtmjnackchaahbaaGreat

namespace Go.Proofs.YtmjnackchaahbaaGreat

structure PG (K:Cx) (D:Nat→Nat) (nv:Nat):Prop where
 good:Good D nv 0 (K.code.length - 1) 0 K.code
 nv:nv≤16
 nm: ∀ i,Rg (K.names.getD i 0)
theorem oS:Rg 0:=by unfold Rg;omega
theorem sr {n:Int} (h:0≤n∧n < 1000):Rg n:=by unfold Rg;omega
def EK (K:Cx) (nv:Nat) (a:Ac):Prop:=(Rg a.a∧Rg a.b∧Rg a.c∧Rg a.d)∧(a.k=3→0≤a.a∧a.a < K.names.getD 1 0)∧(a.k=1→0≤a.a∧a.a < K.dur∧a.a < nv)
structure IV (K:Cx) (nv:Nat) (s:Ms):Prop where
 vl:s.vars.length=nv
 rv: ∀ v∈s.vars,Rg v
 rs: ∀ v∈s.stack,Rg v
 ac: ∀ a∈s.acts,EK K nv a
 sn:cG s.acts≤20
 ar: ∀ k∈s.asked,2≤k∧k≤4
theorem pN {l:List Int} (h: ∀ v∈l,Rg v) (i:Nat):Rg (l.getD i 0):=by
 by_cases hi:i < l.length
 ·rw [List.getD_eq_getElem?_getD,List.getElem?_eq_getElem hi];exact h _ (List.getElem_mem hi)
 rw [List.getD_eq_getElem?_getD,List.getElem?_eq_none ab];exact oS
theorem wh {s:Ms} (h: ∀ v∈s.stack,Rg v) (k:Nat):Rg (s.top k):=pN h _
theorem Ip {s:Ms} (h: ∀ v∈s.stack,Rg v) (k:Nat): ∀ v∈s.pop k,Rg v:=fun v hv=> h v (List.mem_of_mem_take hv)
theorem lL {l:List Int} {n:Int} (h: ∀ v∈l,Rg v) (hn:Rg n): ∀ v∈l++[n],Rg v:=fun v hv=> by
 rcases List.mem_append.1 hv with hv | hv
 ·exact h v hv
 simp at hv;subst hv;exact hn
theorem xz (b:Bool):Rg (flag b):=by unfold flag Rg;split <;> omega
theorem DW (o:Opc) (y x:Int):Rg (Ha o y x):=by
 unfold Ha
 split <;> first | exact oy _ | exact xz _ | (split <;> first | exact oS | exact oy _)
theorem Em {l:List Int} {i:Nat} {k:Int} (h:2≤k∧k≤4):Rg (gv l i k)∧0≤gv l i k∧gv l i k < k:=by
 unfold gv
 have h1:=Int.emod_nonneg (l.getD i 0) (show k≠0 by omega)
 have h2:=Int.emod_lt_of_pos (l.getD i 0) (show 0 < k by omega)
 exact ⟨by unfold Rg;omega,h1,h2⟩
theorem js {K:Cx} {nv:Nat} {l:List Ac} {a:Ac} (h: ∀ a∈l,EK K nv a) (ha:EK K nv a): ∀ b∈l++[a],EK K nv b:=fun b hb=> by
 rcases List.mem_append.1 hb with hb | hb
 ·exact h b hb
 simp at hb;subst hb;exact ha
theorem kB {l:List Ac} {a:Ac} (h:a.k≠3):cG (l++[a])=cG l:=by
 unfold cG
 rw [List.countP_append]
 simp [h]
theorem xP {l:List Ac} {a:Ac} (h:a.k=3):cG (l++[a])=cG l+1:=by
 unfold cG
 rw [List.countP_append]
 simp [h]
theorem pY {l:List Int} {i:Nat} {n:Int} (h: ∀ v∈l,Rg v) (hn:Rg n): ∀ v∈l.set i n,Rg v:=fun v hv=> by
 rcases List.mem_or_eq_of_mem_set hv with hv | rfl
 ·exact h v hv
 exact hn
theorem DN {K:Cx} {D:Nat→Nat} {nv:Nat} (hK:PG K D nv) {x:eW} (hx:dj nv x) {s:Ms} (h:IV K nv s):IV K nv (dA K x s):=by
 have hnv:=hK.nv
 have ht:=wh h.rs
 have hp:=Ip h.rs
 unfold dA
 unfold dj at hx
 cases ho:x.op <;> simp only [ho] at hx ⊢
 case push=> exact ⟨h.vl,h.rv,lL h.rs (oy _),h.ac,h.sn,h.ar⟩
 case var=> exact ⟨h.vl,h.rv,lL h.rs (oy _),h.ac,h.sn,h.ar⟩
 case name=> exact ⟨h.vl,h.rv,lL h.rs (oy _),h.ac,h.sn,h.ar⟩
 case setVar=>
  refine ⟨by rw [List.length_set];exact h.vl,pY h.rv (ht 0),hp 1,?_,?_,h.ar⟩
  ·split
   ·rename_i hd
    exact js h.ac ⟨⟨sr (n:=x.n) ⟨hx.1,by omega⟩,ht 0,oS,oS⟩,fun e=> by simp at e,fun _=> ⟨hx.1,hd,hx.2⟩⟩
   exact h.ac
  split
  ·rw [kB (by simp)];exact h.sn
  exact h.sn
 case draw=>
  split
  ·exact ⟨h.vl,h.rv,lL (hp 1) oS,h.ac,h.sn,h.ar⟩
  rename_i hk
  have hk2:2≤max 1 (min (s.top 0) 4)∧max 1 (min (s.top 0) 4)≤4:=by omega
  refine ⟨h.vl,h.rv,lL (hp 1) (Em hk2).1,h.ac,h.sn,fun k hk=> ?_⟩
  rcases List.mem_append.1 hk with hk | hk
  ·exact h.ar k hk
  simp only [List.mem_singleton] at hk;subst hk;exact hk2
 case neg=> exact ⟨h.vl,h.rv,lL (hp 1) (oy _),h.ac,h.sn,h.ar⟩
 case not=> exact ⟨h.vl,h.rv,lL (hp 1) (xz _),h.ac,h.sn,h.ar⟩
 case jump=> exact ⟨h.vl,h.rv,h.rs,h.ac,h.sn,h.ar⟩
 case unl=> exact ⟨h.vl,h.rv,hp 1,h.ac,h.sn,h.ar⟩
 case send=>
  refine ⟨h.vl,h.rv,hp 3,?_,?_,h.ar⟩
  ·split
   ·rename_i hc
    exact js h.ac ⟨⟨ht 2,sr (n:=x.n) ⟨hx.1,by omega⟩,ht 1,ht 0⟩,fun _=> ⟨hc.1,hc.2.1⟩,fun e=> by simp at e⟩
   exact h.ac
  split
  ·rename_i hc
   rw [xP rfl];omega
  exact h.sn
 case timer=> exact ⟨h.vl,h.rv,h.rs,js h.ac ⟨⟨sr (n:=x.n) ⟨hx.1,by omega⟩,oS,oS,oS⟩,fun e=> by simp at e,fun e=> by simp at e⟩,by rw [kB (by simp)];exact h.sn,h.ar⟩
 case cancel=> exact ⟨h.vl,h.rv,h.rs,js h.ac ⟨⟨sr (n:=x.n) ⟨hx.1,by omega⟩,oS,oS,oS⟩,fun e=> by simp at e,fun e=> by simp at e⟩,by rw [kB (by simp)];exact h.sn,h.ar⟩
 case sync=> exact ⟨h.vl,h.rv,h.rs,js h.ac ⟨⟨oS,oS,oS,oS⟩,fun e=> by simp at e,fun e=> by simp at e⟩,by rw [kB (by simp)];exact h.sn,h.ar⟩
 case reply=> exact ⟨h.vl,h.rv,hp 2,js h.ac ⟨⟨ht 1,ht 0,oS,oS⟩,fun e=> by simp at e,fun e=> by simp at e⟩,by rw [kB (by simp)];exact h.sn,h.ar⟩
 case fail=> exact ⟨h.vl,h.rv,hp 1,js h.ac ⟨⟨ht 0,oS,oS,oS⟩,fun e=> by simp at e,fun e=> by simp at e⟩,by rw [kB (by simp)];exact h.sn,h.ar⟩
 case stop=> exact ⟨h.vl,h.rv,h.rs,h.ac,h.sn,h.ar⟩
 all_goals exact ⟨h.vl,h.rv,lL (hp 2) (DW _ _ _),h.ac,h.sn,h.ar⟩
structure At (K:Cx) (D:Nat→Nat) (nv:Nat) (s:Ms):Prop where
 iv:IV K nv s
 go:s.fin=false→s.pc < K.code.length∧s.stack.length=D s.pc
 cl: ∀ i∈s.cov,i < K.code.length
 cn:s.cov.length=s.steps
 fn:s.fin=true→ ∃ i∈s.cov,∃ x,K.code[i]? =some x∧x.op= .stop
theorem Bz {K:Cx} {x:eW} {s:Ms} (hs:s.fin=false) (h:(dA K x s).fin=true):x.op= .stop:=by
 unfold dA at h
 cases ho:x.op <;> simp only [ho] at h <;> first | rfl | (rw [hs] at h;cases h) | (split at h <;> (rw [hs] at h;cases h))
theorem sV {K:Cx} {D:Nat→Nat} {nv:Nat} (hK:PG K D nv) {s:Ms} (h:At K D nv s) (hf:s.fin=false):At K D nv (jf K s):=by
 obtain ⟨hp,hd⟩:=h.go hf
 obtain ⟨x,hx⟩: ∃ x,K.code[s.pc]? =some x:=⟨_,List.getElem?_eq_getElem hp⟩
 have hg:K.code.getD s.pc { op:= .stop }=x:=by rw [List.getD_eq_getElem?_getD,hx];rfl
 obtain ⟨g1,g2,g3⟩:=hK.good s.pc x hx
 rw [Nat.zero_add] at g2 g3
 obtain ⟨e1,e2⟩:=stepM_steps (K:=K) (s:=s)
 have hdef:jf K s=dA K x { s with pc:=s.pc+1,steps:=s.steps+1,cov:=s.cov++[s.pc] }:=by unfold jf;rw [hg]
 refine ⟨?_,fun hn=> ?_,?_,?_,fun hn=> ?_⟩
 ·rw [hdef]
  exact DN hK g1 ⟨h.iv.vl,h.iv.rv,h.iv.rs,h.iv.ac,h.iv.sn,h.iv.ar⟩
 ·rw [hdef] at hn ⊢
  have hpc:=Ew (K:=K) (x:=x) (s:={ s with pc:=s.pc+1,steps:=s.steps+1,cov:=s.cov++[s.pc] }) (i:=s.pc) rfl hn
  obtain ⟨_,j2,j3⟩:=g3 _ hpc
  refine ⟨by omega,?_⟩
  rw [Ag (by simp only;rw [hd];exact g2),j3]
  simp only
  rw [hd]
 ·rw [e2]
  intro i hi
  rcases List.mem_append.1 hi with hi | hi
  ·exact h.cl i hi
  simp at hi;subst hi;exact hp
 ·rw [e2,e1,List.length_append,h.cn];rfl
 rw [hdef] at hn
 have hs:=Bz (s:={ s with pc:=s.pc+1,steps:=s.steps+1,cov:=s.cov++[s.pc] }) hf hn
 rw [e2]
 exact ⟨s.pc,by simp,x,hx,hs⟩
theorem HT {K:Cx} {D:Nat→Nat} {nv:Nat} (hK:PG K D nv) {s:Ms} (h:At K D nv s) (k:Nat):At K D nv (kV K k s):=kx (fun s hs hf=> sV hK hs hf) k s h
theorem mi {K:Cx}: ∀ (k:Nat) (s:Ms),(kV K k s).steps≤s.steps+k∧((kV K k s).fin=false→(kV K k s).steps=s.steps+k)
 | 0,s=> ⟨Nat.le_refl _,fun _=> rfl⟩
 | k+1,s=> by
  unfold kV
  split
  ·rename_i hf;exact ⟨by omega,fun h=> by rw [hf] at h;cases h⟩
  obtain ⟨h1,h2⟩:=mi (K:=K) k (jf K s)
  rw [stepM_steps.1] at h1 h2
  exact ⟨by omega,fun h=> by have:=h2 h;omega⟩
def dV (vars:List Int) (e:Nat):Ms:={ vars:=vars,pc:=e }
theorem tX {K:Cx} {D:Nat→Nat} {nv:Nat} {vars:List Int} {e:Nat} (hl:vars.length=nv) (hr: ∀ v∈vars,Rg v) (he:e < K.code.length) (hd:D e=0):At K D nv (dV vars e):=
 ⟨⟨hl,hr,fun v hv=> by simp [dV] at hv,fun a ha=> by simp [dV] at ha,by simp [dV,cG],fun k hk=> by simp [dV] at hk⟩,fun _=> ⟨he,hd.symm⟩,fun i hi=> by simp [dV] at hi,rfl,fun h=> by simp [dV] at h⟩
def vy (l:List Int) (al:List Ac):List Int:=al.foldl (fun m a=> if a.k=1 then m.set a.a.toNat a.b else m) l
theorem xd (l:List Int) (al:List Ac) (a:Ac):vy l (al++[a])=if a.k=1 then (vy l al).set a.a.toNat a.b else vy l al:=by simp [vy,List.foldl_append]
theorem wQ {l:List Int} {al:List Ac} {a:Ac} (h:a.k≠1):vy l (al++[a])=vy l al:=by rw [xd,if_neg h]
theorem Bj {K:Cx} {nv:Nat} {x:eW} (hx:dj nv x) {v0:List Int} {s:Ms} (h:s.vars.take K.dur=vy v0 s.acts):(dA K x s).vars.take K.dur=vy v0 (dA K x s).acts:=by
 unfold dA
 unfold dj at hx
 cases ho:x.op <;> simp only [ho] at hx ⊢ <;> try first | exact h | (rw [wQ (by simp)];exact h)
 ·split
  ·rename_i hd
   rw [xd,if_pos rfl,← h,List.take_set]
  rename_i hd
  rw [← h,List.take_set_of_le ab]
 ·split <;> exact h
 split
 ·rw [wQ (by simp)];exact h
 exact h
theorem FI {K:Cx} {D:Nat→Nat} {nv:Nat} (hK:PG K D nv) {vars:List Int} {e:Nat} (hs:At K D nv (dV vars e)) (k:Nat):(kV K k (dV vars e)).vars.take K.dur=vy (vars.take K.dur) (kV K k (dV vars e)).acts:=by
 have:=kx (K:=K) (I:=fun s=> At K D nv s∧s.vars.take K.dur=vy (vars.take K.dur) s.acts) (fun s hI hf=> ?_) k (dV vars e) ⟨hs,rfl⟩
 ·exact this.2
 refine ⟨sV hK hI.1 hf,?_⟩
 obtain ⟨hp,_⟩:=hI.1.go hf
 have hx:K.code[s.pc]? =some K.code[s.pc]:=List.getElem?_eq_getElem hp
 have hg:K.code.getD s.pc { op:= .stop }=K.code[s.pc]:=by rw [List.getD_eq_getElem?_getD,hx];rfl
 obtain ⟨g1,_,_⟩:=hK.good s.pc _ hx
 unfold jf
 rw [hg]
 exact Bj g1 hI.2
end Go.Proofs.YtmjnackchaahbaaGreat

namespace Go.Proofs.YtmjnackchaahbaaGreat

def shift (d:Nat) (x:eW):eW:=match x.op with
 | .jump=> { x with n:=x.n+d }
 | .unl=> { x with n:=x.n+d }
 | _=> x

abbrev Tx:=List UInt8
structure Tk where
 k:Nat
 a:Nat
 t:Tx
 n:Nat:=0
def nr (c:UInt8):Bool:=Nat.ble 97 c.toNat && Nat.ble c.toNat 122
def gJ (c:UInt8):Bool:=Nat.ble 48 c.toNat && Nat.ble c.toNat 57
def tP:Tx→Bool→Nat
 | [],_=> 0
 | x::l,true=> if x.toNat=10 then 1+tP l false else 1+tP l true
 | x::l,false=> if x.toNat=35 then 1+tP l true else if x.toNat=32∨x.toNat=9∨x.toNat=10 then 1+tP l false else 0
def li (l:Tx):Nat:=l.foldl (fun n c=> 10*n+(c.toNat - 48)) 0
def Gc:List Tx:=[[124,124],[38,38],[60,61],[62,61],[61,61],[33,61]]
def Hb:List Tx:=[[123],[125],[91],[93],[40],[41],[61],[59],[44],[60],[62],[43],[45],[42],[47],[33]]
def rh (s:Tx) (a:Nat):Option Tk:=match s with
 | []=> none
 | c::l=>
  if nr c then (if 10 < (c::l.takeWhile fun x=> nr x || gJ x).length then none else some ⟨1,a,c::l.takeWhile fun x=> nr x || gJ x,0⟩)
  else if gJ c then (if 2147483647 < li (c::l.takeWhile gJ) then none else some ⟨2,a,c::l.takeWhile gJ,li (c::l.takeWhile gJ)⟩)
  else if s.take 2∈Gc then some ⟨3,a,s.take 2,0⟩
  else if [c]∈Hb then some ⟨3,a,[c],0⟩
  else none
def nV:Nat→Tx→Nat→Option (List Tk)
 | 0,_,_=> none
 | f+1,s,a=>
  if s.length≤a then some [⟨0,s.length,[],0⟩]
  else match rh (s.drop a) a with
   | none=> none
   | some t=> match nV f s (a+t.t.length+tP (s.drop (a+t.t.length)) false) with
    | none=> none
    | some l=> some (t::l)
def EN (s:Tx):Option (List Tk):=nV (s.length+1) s (tP s false)
structure Nd where
 k:Nat
 n:Nat:=0
 s:Tx:=[]
 kn:Nat:=0
 kids:List PV:=[]
def Nd.row (d:Nd):List PV:=[.v (.int .i64 (d.k:Int)), .v (.int .i64 (d.n:Int)), .v (bt d.s), .sl d.kn d.kids]
def nd (k n:Nat) (s:Tx) (l:List Nd):Nd:=⟨k,n,s,l.length,l.flatMap Nd.row⟩
def bltT:List Tx:=[[115,101,108,102],[110,111,100,101,115],[110,111,119],[102,114,111,109],[97],[98],[105,100],[111,112],[107,101,121]]
def Pc:List Tx:=[[100,117,114,97,98,108,101],[118,111,108,97,116,105,108,101],[111,110],[115,116,97,114,116],[114,101,113,117,101,115,116],[116,105,109,101,114],[109,101,115,115,97,103,101],[105,102],[101,108,115,101],[119,104,105,108,101],[115,101,110,100],[99,97,110,99,101,108],[115,121,110,99],[114,101,112,108,121],[102,97,105,108],[115,116,111,112],[116,114,117,101],[102,97,108,115,101],[100,114,97,119]]
def mf:Tx:=[100,117,114,97,98,108,101]
def mI:Tx:=[118,111,108,97,116,105,108,101]
def GY:Tx:=[111,110]
def nQ:Tx:=[115,116,97,114,116]
def kr:Tx:=[114,101,113,117,101,115,116]
def im:Tx:=[116,105,109,101,114]
def ku:Tx:=[109,101,115,115,97,103,101]
def vG:Tx:=[105,102]
def tb:Tx:=[101,108,115,101]
def kJ:Tx:=[119,104,105,108,101]
def qz:Tx:=[115,101,110,100]
def lq:Tx:=[99,97,110,99,101,108]
def qr:Tx:=[115,121,110,99]
def nP:Tx:=[114,101,112,108,121]
def qQ:Tx:=[102,97,105,108]
def pR:Tx:=[115,116,111,112]
def vN:Tx:=[116,114,117,101]
def sY:Tx:=[102,97,108,115,101]
def BP:Tx:=[100,114,97,119]
def wd (s:Tx):Bool:=decide (s∈bltT) || decide (s∈Pc)
def opsP:List (List Tx):=[[],[[124,124]],[[38,38]],[],[[60],[60,61],[62],[62,61],[61,61],[33,61]],[[43],[45]],[[42],[47]]]
section
variable (T:List Tk)
def dm (i:Nat):Tk:=T.getD i ⟨0,0,[],0⟩
def bK (i:Nat):Nat:=if i+1 < T.length then i+1 else i
def eK (i:Nat):Bool:=decide ((dm T i).k=1) && !wd (dm T i).t
def gR (s:Tx) (i:Nat):Option Nat:=if (dm T i).t=s then some (bK T i) else none
def sf (s:Tx) (lv i:Nat):Option Nat:=if (dm T i).t=s∧20 < lv then none else gR T s i
def py (most i:Nat):Option (Nat×Nat):=if (dm T i).k=2∧(dm T i).n≤most then some ((dm T i).n,bK T i) else none
mutual
def gO:Nat→Nat→Nat→Nat→Option (Nd×Nat)
 | 0,_,_,_=> none
 | f+1,lv,pr,i=>
  if pr=3∧(dm T i).t=[33] then IU f (dm T i).t lv 3 i
  else if pr=3 then yW f lv 4 i
  else if pr=7∧(dm T i).t=[45] then IU f (dm T i).t lv 7 i
  else if pr=7 then vw f lv i
  else yW f lv pr i
def IU:Nat→Tx→Nat→Nat→Nat→Option (Nd×Nat)
 | 0,_,_,_,_=> none
 | f+1,s,lv,pr,i=> do
  let j ← sf T s (lv+1) i
  let (d,j) ← gO f (lv+1) pr j
  return (nd 17 0 s [d],j)
def yW:Nat→Nat→Nat→Nat→Option (Nd×Nat)
 | 0,_,_,_=> none
 | f+1,lv,pr,i=> do
  let (d,j) ← gO f lv (pr+1) i
  nK f lv pr d j
def nK:Nat→Nat→Nat→Nd→Nat→Option (Nd×Nat)
 | 0,_,_,_,_=> none
 | f+1,lv,pr,d,i=>
  if (dm T i).t∈opsP.getD pr [] then do
   let (e,j) ← gO f lv (pr+1) (bK T i)
   if pr=4 then return (nd 18 0 (dm T i).t [d,e],j) else nK f lv pr (nd 18 0 (dm T i).t [d,e]) j
  else some (d,i)
def rU:Nat→Nat→Nat→Option (Nd×Nat)
 | 0,_,_=> none
 | f+1,lv,i=> do
  let j ← sf T [40] (lv+1) i
  let (d,j) ← gO f (lv+1) 1 j
  let j ← gR T [41] j
  return (d,j)
def vw:Nat→Nat→Nat→Option (Nd×Nat)
 | 0,_,_=> none
 | f+1,lv,i=>
  let t:=dm T i
  if t.t=[40] then rU f lv i
  else if t.t=BP then do
   let (d,j) ← rU f lv (bK T i)
   return (nd 16 0 [] [d],j)
  else if t.k=2 then some (nd 12 t.n [] [],bK T i)
  else if t.t=vN then some (nd 13 1 [] [],bK T i)
  else if t.t=sY then some (nd 13 0 [] [],bK T i)
  else if t.t∈bltT then some (nd 15 0 t.t [],bK T i)
  else if eK T i then some (nd 14 0 t.t [],bK T i)
  else none
end
mutual
def yU:Nat→Nat→Nat→Option (Nd×Nat)
 | 0,_,_=> none
 | f+1,lv,i=>
  let s:=(dm T i).t
  if eK T i then do
   let j ← gR T [61] (bK T i)
   let (d,j) ← gO T f lv 1 j
   let j ← gR T [59] j
   return (nd 1 0 s [d],j)
  else if s=vG∨s=kJ then do
   let (c,j) ← gO T f lv 1 (bK T i)
   let (x,j) ← re f (lv+1) j
   if s=kJ then return (nd 3 0 [] [c,x],j)
   else if (dm T j).t=tb then do
    let (y,j) ← re f (lv+1) (bK T j)
    return (nd 2 0 [] [c,x,y],j)
   else return (nd 2 0 [] [c,x,nd 11 0 [] []],j)
  else if s=qz then do
   let (x,j) ← gO T f lv 1 (bK T i)
   let j ← gR T [44] j
   let (k,j) ← py T 29 j
   let j ← gR T [44] j
   let (y,j) ← gO T f lv 1 j
   let j ← gR T [44] j
   let (z,j) ← gO T f lv 1 j
   let j ← gR T [59] j
   return (nd 4 k [] [x,y,z],j)
  else if s=im then do
   let (k,j) ← py T 7 (bK T i)
   let j ← gR T [59] j
   return (nd 5 k [] [],j)
  else if s=lq then do
   let (k,j) ← py T 7 (bK T i)
   let j ← gR T [59] j
   return (nd 6 k [] [],j)
  else if s=nP then do
   let (x,j) ← gO T f lv 1 (bK T i)
   let j ← gR T [44] j
   let (y,j) ← gO T f lv 1 j
   let j ← gR T [59] j
   return (nd 8 0 [] [x,y],j)
  else if s=qQ then do
   let (x,j) ← gO T f lv 1 (bK T i)
   let j ← gR T [59] j
   return (nd 9 0 [] [x],j)
  else if s=qr then do
   let j ← gR T [59] (bK T i)
   return (nd 7 0 [] [],j)
  else if s=pR then do
   let j ← gR T [59] (bK T i)
   return (nd 10 0 [] [],j)
  else none
def re:Nat→Nat→Nat→Option (Nd×Nat)
 | 0,_,_=> none
 | f+1,lv,i=> do
  let j ← sf T [123] lv i
  let (l,j) ← nY f lv j
  let j ← gR T [125] j
  return (nd 11 0 [] l,j)
def nY:Nat→Nat→Nat→Option (List Nd×Nat)
 | 0,_,_=> none
 | f+1,lv,i=>
  if (dm T i).t=[125] then some ([],i)
  else do
   let (d,j) ← yU f lv i
   let (l,j) ← nY f lv j
   return (d::l,j)
end
def gU:Nat→List Tx→Nat→Option (List Tx×Nat)
 | 0,_,_=> none
 | f+1,seen,i=>
  if eK T i=false∨(dm T i).t∈seen∨16≤seen.length then none
  else if (dm T (bK T i)).t=[44] then do
   let (l,j) ← gU f (seen++[(dm T i).t]) (bK T (bK T i))
   return ((dm T i).t::l,j)
  else do
   let j ← gR T [59] (bK T i)
   return ([(dm T i).t],j)
def jq:Nat→List Tx→List Tx→Nat→Option (List Tx×List Tx×Nat)
 | 0,_,_,_=> none
 | f+1,d,v,i=>
  if (dm T i).t=mf then do
   let (l,j) ← gU T f (d++v) (bK T i)
   jq f (d++l) v j
  else if (dm T i).t=mI then do
   let (l,j) ← gU T f (d++v) (bK T i)
   jq f d (v++l) j
  else some (d,v,i)
def xu (i:Nat):Option (Nat×Nat):=
 if (dm T i).t=nQ then some (0,bK T i)
 else if (dm T i).t=kr then some (1,bK T i)
 else if (dm T i).t=im then do
  let (k,j) ← py T 7 (bK T i)
  return (2+k,j)
 else if (dm T i).t=ku then do
  let (k,j) ← py T 29 (bK T i)
  return (10+k,j)
 else none
def pQ (l:List (Nat×Nd)) (h:Nat×Nd):List (Nat×Nd):=l.takeWhile (fun x=> decide (x.1 < h.1))++h::l.dropWhile (fun x=> decide (x.1 < h.1))
def Iq:Nat→List (Nat×Nd)→Nat→Option (List (Nat×Nd))
 | 0,_,_=> none
 | f+1,l,i=>
  if (dm T i).k=0 then some l
  else do
   let j ← gR T GY i
   let (n,j) ← xu T j
   if l.any (fun x=> decide (x.1=n)) then none else
   let (d,j) ← re T f 1 j
   Iq f (pQ l (n,d)) j
end
def gx (s:Tx):Option (List Tx×List Tx×List (Nat×Nd)):=do
 let T ← EN s
 let (d,v,i) ← jq T (3*T.length+10) [] [] 0
 let l ← Iq T (10*T.length+10) [] i
 return (d,v,l)


def srcs:List Tx:=[[100,117,114,97,98,108,101,32,118,59,32,111,110,32,114,101,113,117,101,115,116,32,123,32,105,102,32,111,112,32,61,61,32,48,32,123,32,114,101,112,108,121,32,105,100,44,32,118,59,32,125,32,101,108,115,101,32,123,32,105,102,32,111,112,32,61,61,32,50,32,123,32,114,101,112,108,121,32,105,100,44,32,118,59,32,118,32,61,32,97,59,32,125,32,101,108,115,101,32,123,32,118,32,61,32,97,59,32,114,101,112,108,121,32,105,100,44,32,48,59,32,125,32,125,32,125],
 [100,117,114,97,98,108,101,32,118,59,32,111,110,32,114,101,113,117,101,115,116,32,123,32,105,102,32,111,112,32,61,61,32,48,32,123,32,114,101,112,108,121,32,105,100,44,32,118,59,32,125,32,101,108,115,101,32,123,32,105,102,32,111,112,32,61,61,32,50,32,123,32,114,101,112,108,121,32,105,100,44,32,118,59,32,118,32,61,32,97,59,32,115,121,110,99,59,32,125,32,101,108,115,101,32,123,32,118,32,61,32,97,59,32,115,121,110,99,59,32,114,101,112,108,121,32,105,100,44,32,48,59,32,125,32,125,32,125],
 [100,117,114,97,98,108,101,32,118,59,32,111,110,32,114,101,113,117,101,115,116,32,123,32,105,102,32,115,101,108,102,32,61,61,32,48,32,123,32,105,102,32,111,112,32,61,61,32,48,32,123,32,114,101,112,108,121,32,105,100,44,32,118,59,32,125,32,101,108,115,101,32,123,32,118,32,61,32,97,59,32,115,121,110,99,59,32,114,101,112,108,121,32,105,100,44,32,48,59,32,125,32,125,32,101,108,115,101,32,123,32,115,101,110,100,32,48,44,32,49,32,44,32,105,100,44,32,48,32,45,32,111,112,59,32,105,102,32,111,112,32,33,61,32,48,32,123,32,115,101,110,100,32,48,44,32,50,44,32,105,100,44,32,97,59,32,125,32,125,32,125,32,111,110,32,109,101,115,115,97,103,101,32,49,32,123,32,105,102,32,98,32,61,61,32,48,32,123,32,115,101,110,100,32,102,114,111,109,44,32,51,44,32,97,44,32,118,59,32,125,32,125,32,111,110,32,109,101,115,115,97,103,101,32,50,32,123,32,118,32,61,32,98,59,32,115,121,110,99,59,32,115,101,110,100,32,102,114,111,109,44,32,51,44,32,97,44,32,48,59,32,125,32,111,110,32,109,101,115,115,97,103,101,32,51,32,123,32,114,101,112,108,121,32,97,44,32,98,59,32,125],
 [118,111,108,97,116,105,108,101,32,118,59,32,111,110,32,114,101,113,117,101,115,116,32,123,32,105,102,32,111,112,32,61,61,32,48,32,123,32,114,101,112,108,121,32,105,100,44,32,118,59,32,125,32,101,108,115,101,32,123,32,118,32,61,32,97,59,32,114,101,112,108,121,32,105,100,44,32,48,59,32,115,101,110,100,32,49,32,45,32,115,101,108,102,44,32,52,44,32,97,44,32,48,59,32,125,32,125,32,111,110,32,109,101,115,115,97,103,101,32,52,32,123,32,118,32,61,32,97,59,32,125],
 [118,111,108,97,116,105,108,101,32,120,44,32,121,59,32,111,110,32,114,101,113,117,101,115,116,32,123,32,105,102,32,111,112,32,61,61,32,51,32,123,32,115,101,110,100,32,49,32,45,32,115,101,108,102,44,32,53,44,32,105,100,44,32,97,59,32,114,101,112,108,121,32,105,100,44,32,48,59,32,125,32,101,108,115,101,32,123,32,114,101,112,108,121,32,105,100,44,32,120,59,32,120,32,61,32,121,59,32,121,32,61,32,48,59,32,125,32,125,32,111,110,32,109,101,115,115,97,103,101,32,53,32,123,32,105,102,32,120,32,61,61,32,48,32,123,32,120,32,61,32,98,59,32,125,32,101,108,115,101,32,123,32,121,32,61,32,98,59,32,125,32,125],
 [118,111,108,97,116,105,108,101,32,116,59,32,111,110,32,115,116,97,114,116,32,123,32,105,102,32,115,101,108,102,32,61,61,32,48,32,123,32,116,32,61,32,49,59,32,115,101,110,100,32,110,111,100,101,115,32,45,32,49,44,32,54,44,32,49,44,32,48,59,32,125,32,125,32,111,110,32,109,101,115,115,97,103,101,32,54,32,123,32,116,32,61,32,97,32,43,32,49,59,32,105,102,32,116,32,60,32,52,32,123,32,115,101,110,100,32,102,114,111,109,44,32,54,44,32,116,44,32,48,59,32,125,32,101,108,115,101,32,123,32,102,97,105,108,32,116,59,32,125,32,125],
 [118,111,108,97,116,105,108,101,32,99,59,32,111,110,32,115,116,97,114,116,32,123,32,116,105,109,101,114,32,49,59,32,125,32,111,110,32,116,105,109,101,114,32,49,32,123,32,99,32,61,32,99,32,43,32,100,114,97,119,40,51,41,59,32,105,102,32,99,32,62,32,52,32,123,32,102,97,105,108,32,55,59,32,125,32,105,102,32,99,32,60,32,51,32,123,32,116,105,109,101,114,32,49,59,32,125,32,125],
 [118,111,108,97,116,105,108,101,32,108,97,115,116,59,32,111,110,32,114,101,113,117,101,115,116,32,123,32,115,101,110,100,32,49,32,45,32,115,101,108,102,44,32,55,44,32,49,44,32,48,59,32,115,101,110,100,32,49,32,45,32,115,101,108,102,44,32,55,44,32,50,44,32,48,59,32,114,101,112,108,121,32,105,100,44,32,48,59,32,125,32,111,110,32,109,101,115,115,97,103,101,32,55,32,123,32,105,102,32,97,32,60,32,108,97,115,116,32,123,32,102,97,105,108,32,51,59,32,125,32,108,97,115,116,32,61,32,97,59,32,125],
 [100,117,114,97,98,108,101,32,101,59,32,118,111,108,97,116,105,108,101,32,103,59,32,111,110,32,115,116,97,114,116,32,123,32,101,32,61,32,101,32,43,32,49,59,32,105,102,32,100,114,97,119,40,50,41,32,61,61,32,49,32,123,32,115,121,110,99,59,32,125,32,103,32,61,32,110,111,119,59,32,125,32,111,110,32,114,101,113,117,101,115,116,32,123,32,105,102,32,103,32,62,32,110,111,119,32,123,32,102,97,105,108,32,49,59,32,125,32,114,101,112,108,121,32,105,100,44,32,101,59,32,125],
 [118,111,108,97,116,105,108,101,32,105,44,32,115,59,32,111,110,32,114,101,113,117,101,115,116,32,123,32,105,32,61,32,48,59,32,115,32,61,32,48,59,32,119,104,105,108,101,32,105,32,60,32,51,32,123,32,115,32,61,32,115,32,43,32,105,32,42,32,97,59,32,105,32,61,32,105,32,43,32,49,59,32,125,32,114,101,112,108,121,32,105,100,44,32,115,59,32,125],
 [111,110,32,116,105,109,101,114,32,48,32,123,32,119,104,105,108,101,32,116,114,117,101,32,123,32,125,32,125,32,111,110,32,115,116,97,114,116,32,123,32,116,105,109,101,114,32,48,59,32,99,97,110,99,101,108,32,49,59,32,125],
 []]
theorem Ca:srcs.length=12:=rfl

def Bo.txt:Bo→Tx
 | .add=> [43]
 | .sub=> [45]
 | .mul=> [42]
 | .div=> [47]
 | .lt=> [60]
 | .le=> [60,61]
 | .eq=> [61,61]
 | .gt=> [62]
 | .ge=> [62,61]
 | .ne=> [33,61]
section
variable (nm:List Tx)
def eQ:Ex→Nd
 | .int n=> nd 12 n.toNat [] []
 | .bool b=> nd 13 (if b then 1 else 0) [] []
 | .var i=> nd 14 0 (nm.getD i []) []
 | .name k=> nd 15 0 (bltT.getD k []) []
 | .draw e=> nd 16 0 [] [eQ e]
 | .neg e=> nd 17 0 [45] [eQ e]
 | .not e=> nd 17 0 [33] [eQ e]
 | .bin o a b=> nd 18 0 o.txt [eQ a,eQ b]
 | .and a b=> nd 18 0 [38,38] [eQ a,eQ b]
 | .or a b=> nd 18 0 [124,124] [eQ a,eQ b]
mutual
def Eg:Sm→Nd
 | .assign i e=> nd 1 0 (nm.getD i []) [eQ nm e]
 | .send t k a b=> nd 4 k [] [eQ nm t,eQ nm a,eQ nm b]
 | .timer k=> nd 5 k [] []
 | .cancel k=> nd 6 k [] []
 | .sync=> nd 7 0 [] []
 | .stop=> nd 10 0 [] []
 | .reply a b=> nd 8 0 [] [eQ nm a,eQ nm b]
 | .fail e=> nd 9 0 [] [eQ nm e]
 | .loop c b=> nd 3 0 [] [eQ nm c,nd 11 0 [] (ji b)]
 | .ite c a b=> nd 2 0 [] [eQ nm c,nd 11 0 [] (ji a),nd 11 0 [] (ji b)]
def ji:Bk→List Nd
 | .nil=> []
 | .cons s b=> Eg s::ji b
end
def jj (b:Bk):Nd:=nd 11 0 [] (ji nm b)
end
def Do:List Tx:=[[118]]
def AC:List Tx:=[]
def ons0:List (Nat×Bk):=[(1,(.cons (.ite (.bin .eq (.name 7) (.int 0)) (.cons (.reply (.name 6) (.var 0)) .nil) (.cons (.ite (.bin .eq (.name 7) (.int 2)) (.cons (.reply (.name 6) (.var 0)) (.cons (.assign 0 (.name 4)) .nil)) (.cons (.assign 0 (.name 4)) (.cons (.reply (.name 6) (.int 0)) .nil))) .nil)) .nil))]
theorem HQ:gx (srcs.getD 0 [])=some (Do,AC,ons0.map fun p=> (p.1,jj (Do++AC) p.2)):=by kernel_rfl
def zx:List Tx:=[[118]]
def zR:List Tx:=[]
def ons1:List (Nat×Bk):=[(1,(.cons (.ite (.bin .eq (.name 7) (.int 0)) (.cons (.reply (.name 6) (.var 0)) .nil) (.cons (.ite (.bin .eq (.name 7) (.int 2)) (.cons (.reply (.name 6) (.var 0)) (.cons (.assign 0 (.name 4)) (.cons .sync .nil))) (.cons (.assign 0 (.name 4)) (.cons .sync (.cons (.reply (.name 6) (.int 0)) .nil)))) .nil)) .nil))]
theorem Hr:gx (srcs.getD 1 [])=some (zx,zR,ons1.map fun p=> (p.1,jj (zx++zR) p.2)):=by kernel_rfl
def Ad:List Tx:=[[118]]
def Bi:List Tx:=[]
def ons2:List (Nat×Bk):=[(1,(.cons (.ite (.bin .eq (.name 0) (.int 0)) (.cons (.ite (.bin .eq (.name 7) (.int 0)) (.cons (.reply (.name 6) (.var 0)) .nil) (.cons (.assign 0 (.name 4)) (.cons .sync (.cons (.reply (.name 6) (.int 0)) .nil)))) .nil) (.cons (.send (.int 0) 1 (.name 6) (.bin .sub (.int 0) (.name 7))) (.cons (.ite (.bin .ne (.name 7) (.int 0)) (.cons (.send (.int 0) 2 (.name 6) (.name 4)) .nil) .nil) .nil))) .nil)),
 (11,(.cons (.ite (.bin .eq (.name 5) (.int 0)) (.cons (.send (.name 3) 3 (.name 4) (.var 0)) .nil) .nil) .nil)),
 (12,(.cons (.assign 0 (.name 5)) (.cons .sync (.cons (.send (.name 3) 3 (.name 4) (.int 0)) .nil)))),
 (13,(.cons (.reply (.name 4) (.name 5)) .nil))]
theorem Is:gx (srcs.getD 2 [])=some (Ad,Bi,ons2.map fun p=> (p.1,jj (Ad++Bi) p.2)):=by kernel_rfl
def Dq:List Tx:=[]
def Cf:List Tx:=[[118]]
def ons3:List (Nat×Bk):=[(1,(.cons (.ite (.bin .eq (.name 7) (.int 0)) (.cons (.reply (.name 6) (.var 0)) .nil) (.cons (.assign 0 (.name 4)) (.cons (.reply (.name 6) (.int 0)) (.cons (.send (.bin .sub (.int 1) (.name 0)) 4 (.name 4) (.int 0)) .nil)))) .nil)),
 (14,(.cons (.assign 0 (.name 4)) .nil))]
theorem GX:gx (srcs.getD 3 [])=some (Dq,Cf,ons3.map fun p=> (p.1,jj (Dq++Cf) p.2)):=by kernel_rfl
def BF:List Tx:=[]
def Ak:List Tx:=[[120],[121]]
def ons4:List (Nat×Bk):=[(1,(.cons (.ite (.bin .eq (.name 7) (.int 3)) (.cons (.send (.bin .sub (.int 1) (.name 0)) 5 (.name 6) (.name 4)) (.cons (.reply (.name 6) (.int 0)) .nil)) (.cons (.reply (.name 6) (.var 0)) (.cons (.assign 0 (.var 1)) (.cons (.assign 1 (.int 0)) .nil)))) .nil)),
 (15,(.cons (.ite (.bin .eq (.var 0) (.int 0)) (.cons (.assign 0 (.name 5)) .nil) (.cons (.assign 1 (.name 5)) .nil)) .nil))]
theorem Hk:gx (srcs.getD 4 [])=some (BF,Ak,ons4.map fun p=> (p.1,jj (BF++Ak) p.2)):=by kernel_rfl
def Dj:List Tx:=[]
def BZ:List Tx:=[[116]]
def ons5:List (Nat×Bk):=[(0,(.cons (.ite (.bin .eq (.name 0) (.int 0)) (.cons (.assign 0 (.int 1)) (.cons (.send (.bin .sub (.name 1) (.int 1)) 6 (.int 1) (.int 0)) .nil)) .nil) .nil)),
 (16,(.cons (.assign 0 (.bin .add (.name 4) (.int 1))) (.cons (.ite (.bin .lt (.var 0) (.int 4)) (.cons (.send (.name 3) 6 (.var 0) (.int 0)) .nil) (.cons (.fail (.var 0)) .nil)) .nil)))]
theorem Ie:gx (srcs.getD 5 [])=some (Dj,BZ,ons5.map fun p=> (p.1,jj (Dj++BZ) p.2)):=by kernel_rfl
def Br:List Tx:=[]
def AM:List Tx:=[[99]]
def ons6:List (Nat×Bk):=[(0,(.cons (.timer 1) .nil)),
 (3,(.cons (.assign 0 (.bin .add (.var 0) (.draw (.int 3)))) (.cons (.ite (.bin .gt (.var 0) (.int 4)) (.cons (.fail (.int 7)) .nil) .nil) (.cons (.ite (.bin .lt (.var 0) (.int 3)) (.cons (.timer 1) .nil) .nil) .nil))))]
theorem Hw:gx (srcs.getD 6 [])=some (Br,AM,ons6.map fun p=> (p.1,jj (Br++AM) p.2)):=by kernel_rfl
def Ai:List Tx:=[]
def Au:List Tx:=[[108,97,115,116]]
def ons7:List (Nat×Bk):=[(1,(.cons (.send (.bin .sub (.int 1) (.name 0)) 7 (.int 1) (.int 0)) (.cons (.send (.bin .sub (.int 1) (.name 0)) 7 (.int 2) (.int 0)) (.cons (.reply (.name 6) (.int 0)) .nil)))),
 (17,(.cons (.ite (.bin .lt (.name 4) (.var 0)) (.cons (.fail (.int 3)) .nil) .nil) (.cons (.assign 0 (.name 4)) .nil)))]
theorem Hy:gx (srcs.getD 7 [])=some (Ai,Au,ons7.map fun p=> (p.1,jj (Ai++Au) p.2)):=by kernel_rfl
def Dh:List Tx:=[[101]]
def Ck:List Tx:=[[103]]
def ons8:List (Nat×Bk):=[(0,(.cons (.assign 0 (.bin .add (.var 0) (.int 1))) (.cons (.ite (.bin .eq (.draw (.int 2)) (.int 1)) (.cons .sync .nil) .nil) (.cons (.assign 1 (.name 2)) .nil)))),
 (1,(.cons (.ite (.bin .gt (.var 1) (.name 2)) (.cons (.fail (.int 1)) .nil) .nil) (.cons (.reply (.name 6) (.var 0)) .nil)))]
theorem HH:gx (srcs.getD 8 [])=some (Dh,Ck,ons8.map fun p=> (p.1,jj (Dh++Ck) p.2)):=by kernel_rfl
def zB:List Tx:=[]
def AT:List Tx:=[[105],[115]]
def ons9:List (Nat×Bk):=[(1,(.cons (.assign 0 (.int 0)) (.cons (.assign 1 (.int 0)) (.cons (.loop (.bin .lt (.var 0) (.int 3)) (.cons (.assign 1 (.bin .add (.var 1) (.bin .mul (.var 0) (.name 4)))) (.cons (.assign 0 (.bin .add (.var 0) (.int 1))) .nil))) (.cons (.reply (.name 6) (.var 1)) .nil)))))]
theorem Hf:gx (srcs.getD 9 [])=some (zB,AT,ons9.map fun p=> (p.1,jj (zB++AT) p.2)):=by kernel_rfl
def vk:List Tx:=[]
def uF:List Tx:=[]
def ons10:List (Nat×Bk):=[(0,(.cons (.timer 0) (.cons (.cancel 1) .nil))),
 (2,(.cons (.loop (.bool true) .nil) .nil))]
theorem Et:gx (srcs.getD 10 [])=some (vk,uF,ons10.map fun p=> (p.1,jj (vk++uF) p.2)):=by kernel_rfl
def tY:List Tx:=[]
def vt:List Tx:=[]
def ons11:List (Nat×Bk):=[]
theorem Dz:gx (srcs.getD 11 [])=some (tY,vt,ons11.map fun p=> (p.1,jj (tY++vt) p.2)):=by kernel_rfl
end Go.Proofs.YtmjnackchaahbaaGreat
