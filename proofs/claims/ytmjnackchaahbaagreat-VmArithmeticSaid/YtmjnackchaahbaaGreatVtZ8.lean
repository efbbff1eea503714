/- Part 8 of the texts that the walk leans on: the machine, the walks, the plain laws. -/
import Derived.Test.YtmjnackchaahbaaGreatVtZ7
set_option linter.unusedSimpArgs false
set_option linter.unusedVariables false
namespace Go.Proofs.YtmjnackchaahbaaGreat
open Go.RowKit

theorem lC {α β:Type} (f:α→List β) (c:Nat) (hf: ∀ a,(f a).length=c): ∀ l:List α,(l.flatMap f).length=l.length*c
 | []=> by simp
 | a::l=> by rw [List.flatMap_cons,List.length_append,hf,lC f c hf l,List.length_cons,Nat.succ_mul];omega
theorem mB {α β:Type} (f:α→List β) (c:Nat) (hf: ∀ a,(f a).length=c): ∀ (l:List α) (k:Nat),(l.flatMap f).drop (k*c)=(l.drop k).flatMap f
 | l,0=> by simp
 | [],k+1=> by simp
 | a::l,k+1=> by
  rw [List.flatMap_cons,List.drop_succ_cons,← mB f c hf l k,List.drop_append,List.drop_eq_nil_of_le (by rw [hf,Nat.succ_mul];omega),List.nil_append,hf]
  congr 1;rw [Nat.succ_mul];omega
theorem nc {α β:Type} (f:α→List β) (c:Nat) (hf: ∀ a,(f a).length=c) (l:List α) (k:Nat) (h:k < l.length):((l.flatMap f).drop (k*c)).take c=f l[k]:=by
 rw [mB f c hf,List.drop_eq_getElem_cons h,List.flatMap_cons,List.take_append_of_le_length (by rw [hf];exact Nat.le_refl _),List.take_of_length_le (by rw [hf];exact Nat.le_refl _)]
theorem mK {α β:Type} (f:α→List β) (c:Nat) (hf: ∀ a,(f a).length=c) (l:List α) (k j:Nat) (h:k < l.length) (hj:j < c):(l.flatMap f)[k*c+j]? =(f l[k])[j]? :=by
 rw [← nc f c hf l k h,List.getElem?_take_of_lt hj,List.getElem?_drop]
theorem ll {α β:Type} (f:α→List β) (l:List α) (a:α):l.flatMap f++f a=(l++[a]).flatMap f:=by simp
theorem xc {α β:Type} (f:α→List β) (l m:List α):l.flatMap f++m.flatMap f=(l++m).flatMap f:=by simp

def ed (l:List Tx):List PV:=l.map fun t=> .v (bt t)
@[simp] theorem bq (l:List Tx):(ed l).length=l.length:=by simp [ed]
theorem ik (l:List Tx) (k:Nat) (h:k < l.length):(ed l)[k]? =some (.v (bt (l.getD k []))):=by simp [ed,h]
theorem mQ (a b:List Tx):ed a++ed b=ed (a++b):=by simp [ed]
theorem li (a:List Tx) (t:Tx):ed a++[.v (bt t)]=ed (a++[t]):=by simp [ed]
theorem gO {l:List Tx} {k:Nat} (h:k < l.length):l.getD k []∈l:=by
 rw [List.getD_eq_getElem?_getD,List.getElem?_eq_getElem h];exact List.getElem_mem h
theorem iz {α:Type} {l:List α} {k:Nat} {x d:α} (h:x∉l.take k) (hk:k < l.length) (hx:l.getD k d≠x):x∉l.take (k+1):=by
 rw [List.take_succ_eq_append_getElem hk,List.mem_append,List.mem_singleton]
 rintro (h' | h')
 ·exact h h'
 ·exact hx (by rw [List.getD_eq_getElem?_getD,List.getElem?_eq_getElem hk,h'];rfl)

def Ag (t:Tk):List PV:=[.v (.int .i64 (t.k:Int)), .v (.int .i64 (t.a:Int)), .v (bt t.t), .v (.int .i64 (t.n:Int))]
def pi (l:List Tk):List PV:=l.flatMap Ag
theorem bp (l:List Tk):(pi l).length=l.length*4:=lC Ag 4 (fun _=> rfl) l
theorem rU (l:List Tk) (k:Nat) (h:k < l.length):cK l k=l[k]:=by simp [cK,h]
theorem nr (l:List Tk) (k:Nat) (h:k < l.length):(pi l)[k*4]? =some (.v (.int .i64 ((cK l k).k:Int))):=by
 rw [rU l k h];exact mK Ag 4 (fun _=> rfl) l k 0 h ab
theorem kT (l:List Tk) (k:Nat) (h:k < l.length):(pi l)[k*4+2]? =some (.v (bt (cK l k).t)):=by
 rw [rU l k h];exact mK Ag 4 (fun _=> rfl) l k 2 h ab
theorem kI (l:List Tk) (k:Nat) (h:k < l.length):PV.ups (((pi l).drop (k*4)).take 4)=[.v (.int .i64 ((cK l k).k:Int)), .v (.int .i64 ((cK l k).a:Int)), .v (bt (cK l k).t), .v (.int .i64 ((cK l k).n:Int))]:=by
 rw [rU l k h,show ((pi l).drop (k*4)).take 4=Ag l[k] from nc Ag 4 (fun _=> rfl) l k h];rfl
theorem qH (l:List Tk) (t:Tk):pi l++Ag t=pi (l++[t]):=ll Ag l t

theorem eM {s:Tx} {a:Nat} {b:UInt8} (h:s[a]? =some b):s.drop a=b::s.drop (a+1):=by
 obtain ⟨hl,rfl⟩:=List.getElem?_eq_some_iff.1 h
 exact List.drop_eq_getElem_cons hl
theorem hZ {s:Tx} {a:Nat} (h:a < s.length): ∃ b,s[a]? =some b:=⟨_,List.getElem?_eq_getElem h⟩
theorem IB (b:UInt8):0≤(b.toNat:Int)∧(b.toNat:Int) < 256:=⟨by omega,by have:=b.toNat_lt;omega⟩
def iE (s:Tx) (a:Nat) (c:Bool):Nat:=a+pH (s.drop a) c
theorem pd {s:Tx} {a:Nat} (h:s.length≤a) (c:Bool):iE s a c=a:=by
 unfold iE;rw [List.drop_eq_nil_of_le h];unfold pH;rfl
theorem AB {s:Tx} {a:Nat} {b:UInt8} (h:s[a]? =some b) (hb:b.toNat=10):iE s a true=iE s a false:=by
 unfold iE;rw [eM h];simp [pH,hb]
theorem Bd {s:Tx} {a:Nat} {b:UInt8} (h:s[a]? =some b) (hb:b.toNat≠10):iE s a true=iE s (a+1) true:=by
 unfold iE;rw [eM h];simp [pH,hb];omega
theorem wv {s:Tx} {a:Nat} {b:UInt8} (h:s[a]? =some b) (hb:b.toNat=35):iE s a false=iE s a true:=by
 unfold iE;rw [eM h];simp [pH,hb]
theorem rK {s:Tx} {a:Nat} {b:UInt8} (h:s[a]? =some b) (h0:b.toNat≠35) (hb:b.toNat=32∨b.toNat=9∨b.toNat=10):iE s a false=iE s (a+1) false:=by
 unfold iE;rw [eM h,pH,if_neg h0,if_pos hb];omega
theorem xK {s:Tx} {a:Nat} {b:UInt8} (h:s[a]? =some b) (h0:b.toNat≠35) (hb: ¬ (b.toNat=32∨b.toNat=9∨b.toNat=10)):iE s a false=a:=by
 unfold iE;rw [eM h,pH,if_neg h0,if_neg hb];rfl
theorem lD: ∀ (l:Tx) (c:Bool),pH l c≤l.length
 | [],c=> by unfold pH;exact Nat.le_refl _
 | x::l,true=> by have h1:=lD l true;have h2:=lD l false;unfold pH;split <;> simp only [List.length_cons] <;> omega
 | x::l,false=> by have h1:=lD l true;have h2:=lD l false;unfold pH;split <;> (try split) <;> simp only [List.length_cons] <;> omega
theorem rR {s:Tx} {a:Nat} (h:a≤s.length) (c:Bool):a≤iE s a c∧iE s a c≤s.length:=by
 have:=lD (s.drop a) c
 rw [List.length_drop] at this
 unfold iE;omega
def jx (p:UInt8→Bool) (s:Tx) (a:Nat):Nat:=a+((s.drop a).takeWhile p).length
theorem sf {p:UInt8→Bool} {s:Tx} {a:Nat} (h:s.length≤a):jx p s a=a:=by
 unfold jx;rw [List.drop_eq_nil_of_le h];rfl
theorem oU {p:UInt8→Bool} {s:Tx} {a:Nat} {b:UInt8} (h:s[a]? =some b) (hb:p b=true):jx p s a=jx p s (a+1):=by
 unfold jx;rw [eM h,List.takeWhile_cons,if_pos hb,List.length_cons];omega
theorem vp {p:UInt8→Bool} {s:Tx} {a:Nat} {b:UInt8} (h:s[a]? =some b) (hb:p b=false):jx p s a=a:=by
 unfold jx;rw [eM h,List.takeWhile_cons,if_neg (by simp [hb])];rfl
theorem pa {p:UInt8→Bool} {s:Tx} {a:Nat} (h:a≤s.length):a≤jx p s a∧jx p s a≤s.length:=by
 have:((s.drop a).takeWhile p).length≤(s.drop a).length:=(List.takeWhile_prefix p).length_le
 rw [List.length_drop] at this
 unfold jx;omega
theorem qa {p:UInt8→Bool} {s:Tx} {a:Nat} {b:UInt8} (h:s[a]? =some b):(s.drop a).take (jx p s (a+1) - a)=b::(s.drop (a+1)).takeWhile p:=by
 rw [eM h,show jx p s (a+1) - a=((s.drop (a+1)).takeWhile p).length+1 by unfold jx;omega,List.take_succ_cons]
 congr 1
 obtain ⟨t,ht⟩:=List.takeWhile_prefix p (l:=s.drop (a+1))
 conv=> lhs;arg 2;rw [← ht]
 rw [List.take_append_of_le_length (Nat.le_refl _),List.take_length]
theorem oH (l:Tx) (b:UInt8):iO (l++[b])=10*iO l+(b.toNat - 48):=by unfold iO;rw [List.foldl_append];rfl
theorem zr (l m:Tx):iO l≤iO (l++m):=by
 induction m generalizing l with
 | nil=> simp
 | cons b m ih=>
  have:=ih (l++[b])
  rw [oH,List.append_assoc] at this
  simp only [List.cons_append,List.nil_append] at this
  omega
theorem uk (l:Tx) (i:Nat):iO (l.take i)≤iO l:=by
 have:=zr (l.take i) (l.drop i)
 rwa [List.take_append_drop] at this
theorem uq {l:Tx} {i:Nat} {b:UInt8} (h:l[i]? =some b):iO (l.take (i+1))=10*iO (l.take i)+(b.toNat - 48):=by
 obtain ⟨hl,rfl⟩:=List.getElem?_eq_some_iff.1 h
 rw [List.take_succ_eq_append_getElem hl,oH]
theorem vL (b:UInt8):lm b=true↔97≤(b.toNat:Int)∧(b.toNat:Int)≤122:=by
 unfold lm;rw [Bool.and_eq_true,Nat.ble_eq,Nat.ble_eq];omega
theorem qt (b:UInt8):eZ b=true↔48≤(b.toNat:Int)∧(b.toNat:Int)≤57:=by
 unfold eZ;rw [Bool.and_eq_true,Nat.ble_eq,Nat.ble_eq];omega
theorem Al {b:Bool} {p:Prop} (h:b=true↔p) (hn: ¬ p):b=false:=by
 cases b with
 | false=> rfl
 | true=> exact absurd (h.1 rfl) hn
def inr (x:dY):List PV:=[.v (.int .i64 (x.op.num:Int)), .v (.int .i64 x.n)]
def inl (l:List dY):List PV:=l.flatMap inr
theorem bF (l:List dY):(inl l).length=l.length*2:=lC inr 2 (fun _=> rfl) l
theorem lk (l:List dY) (k:Nat) (h:k < l.length):(inl l)[k*2]? =some (.v (.int .i64 ((cD l k).op.num:Int))):=by
 rw [show cD l k=l[k] by simp [cD,h]];exact mK inr 2 (fun _=> rfl) l k 0 h ab
theorem vg (l:List dY) (k:Nat) (h:k < l.length):(inl l)[k*2+1]? =some (.v (.int .i64 (cD l k).n)):=by
 rw [show cD l k=l[k] by simp [cD,h]];exact mK inr 2 (fun _=> rfl) l k 1 h ab
theorem vb (l:List dY) (k:Nat) (h:k < l.length):PV.ups (((inl l).drop (k*2)).take 2)=[.v (.int .i64 ((cD l k).op.num:Int)), .v (.int .i64 (cD l k).n)]:=by
 rw [show cD l k=l[k] by simp [cD,h],show ((inl l).drop (k*2)).take 2=inr l[k] from nc inr 2 (fun _=> rfl) l k h];rfl
theorem dZ (l:List dY) (x:dY):inl l++inr x=inl (l++[x]):=ll inr l x
theorem jD (l m:List dY):inl l++inl m=inl (l++m):=xc inr l m
def Cj (x:Ac):List PV:=[.v (.int .i64 x.k), .v (.int .i64 x.a), .v (.int .i64 x.b), .v (.int .i64 x.c), .v (.int .i64 x.d)]
def sI (l:List Ac):List PV:=l.flatMap Cj
def BK (l:List Ac) (k:Nat):Ac:=l.getD k { k:=0 }
theorem fk (l:List Ac):(sI l).length=l.length*5:=lC Cj 5 (fun _=> rfl) l
theorem uW (l:List Ac) (k:Nat) (h:k < l.length):PV.ups (((sI l).drop (k*5)).take 5)=[.v (.int .i64 (BK l k).k), .v (.int .i64 (BK l k).a), .v (.int .i64 (BK l k).b), .v (.int .i64 (BK l k).c), .v (.int .i64 (BK l k).d)]:=by
 rw [show BK l k=l[k] by simp [BK,h],show ((sI l).drop (k*5)).take 5=Cj l[k] from nc Cj 5 (fun _=> rfl) l k h];rfl
theorem wH (l:List Ac) (x:Ac):sI l++Cj x=sI (l++[x]):=ll Cj l x
end Go.Proofs.YtmjnackchaahbaaGreat

namespace Go.Proofs.YtmjnackchaahbaaGreat
abbrev Ez:List Value:=[.int .i64 0, .int .i64 0, .int .i64 0, .int .i64 0, .int .i64 0, .int .i64 0, .int .i64 0, .int .i64 0, .int .i64 0, .int .i64 0, .int .i64 0, .int .i64 0, .int .i64 0, .int .i64 0, .int .i64 0, .int .i64 0, .int .i64 0, .int .i64 0, .int .i64 0, .int .i64 0, .int .i64 0, .int .i64 0, .int .i64 0, .int .i64 0, .int .i64 0, .int .i64 0, .int .i64 0, .int .i64 0, .int .i64 0, .int .i64 0, .int .i64 0, .int .i64 0, .int .i64 0, .int .i64 0, .int .i64 0, .int .i64 0, .int .i64 0, .int .i64 0, .int .i64 0, .int .i64 0]
abbrev Cg:List Value:=[.slice none 0 0, .int .i64 0, .int .i64 0, .int .i64 0, .int .i64 0, .int .i64 0, .int .i64 0, .int .i64 0, .int .i64 0, .int .i64 0, .int .i64 0, .int .i64 0, .int .i64 0, .int .i64 0, .int .i64 0, .int .i64 0, .int .i64 0, .int .i64 0, .int .i64 0, .int .i64 0, .int .i64 0, .int .i64 0, .int .i64 0, .int .i64 0, .int .i64 0, .int .i64 0, .int .i64 0, .int .i64 0, .int .i64 0, .int .i64 0, .int .i64 0, .int .i64 0, .int .i64 0, .int .i64 0, .int .i64 0, .int .i64 0, .int .i64 0, .int .i64 0, .int .i64 0, .int .i64 0, .int .i64 0, .int .i64 0, .int .i64 0]
abbrev sd:List Value:=[.int .i64 0, .int .i64 0, .int .i64 0, .int .i64 0, .int .i64 0, .int .i64 0, .int .i64 0, .int .i64 0, .int .i64 0]
abbrev zQ:List Value:=[.slice none 0 0, .slice none 0 0, .int .i64 0, .bool false, .slice none 0 0]
abbrev Ab:List Value:=[.slice none 0 0, .slice none 0 0, .int .i64 0, .bool false, .slice none 0 0, .slice none 0 0]
abbrev lP:List Value:=[.int .i64 0, .int .i64 0, .int .i64 0, .int .i64 0, .int .i64 0]
abbrev Cl:List Value:=[.slice none 0 0, .slice none 0 0, .slice none 0 0]
abbrev zU:List Value:=[.int .i64 0, .int .i64 0, .string ByteArray.empty, .slice none 0 0]
abbrev Ak:List Value:=[.int .i64 0, .int .i64 0, .int .i64 0, .string ByteArray.empty, .slice none 0 0]
abbrev Gd:List Value:=[.int .i64 0, .int .i64 0, .int .i64 0, .int .i64 0, .int .i64 0, .int .i64 0, .int .i64 0, .int .i64 0, .int .i64 0, .int .i64 0, .int .i64 0, .int .i64 0, .int .i64 0, .int .i64 0, .int .i64 0, .int .i64 0, .int .i64 0, .int .i64 0, .int .i64 0, .int .i64 0, .int .i64 0, .int .i64 0, .int .i64 0, .int .i64 0, .int .i64 0, .int .i64 0, .int .i64 0, .int .i64 0, .int .i64 0, .int .i64 0, .int .i64 0, .int .i64 0, .int .i64 0, .int .i64 0, .int .i64 0, .int .i64 0, .int .i64 0, .int .i64 0, .int .i64 0, .int .i64 0, .int .i64 0]
abbrev ue:List Value:=[.bool false, .int .i64 0, .int .i64 0, .int .i64 0, .slice none 0 0, .slice none 0 0, .slice none 0 0, .slice none 0 0, .int .i64 0, .int .i64 0, .int .i64 0, .int .i64 0, .int .i64 0, .int .i64 0, .int .i64 0, .int .i64 0, .int .i64 0, .int .i64 0, .int .i64 0, .int .i64 0, .int .i64 0, .int .i64 0, .int .i64 0, .int .i64 0, .int .i64 0, .int .i64 0, .int .i64 0, .int .i64 0, .int .i64 0, .int .i64 0, .int .i64 0, .int .i64 0, .int .i64 0, .int .i64 0, .int .i64 0, .int .i64 0, .int .i64 0, .int .i64 0, .int .i64 0, .int .i64 0, .int .i64 0, .int .i64 0, .int .i64 0, .int .i64 0, .int .i64 0, .int .i64 0, .int .i64 0, .int .i64 0, .int .i64 0, .int .i64 0, .int .i64 0, .int .i64 0]
abbrev tG:List Value:=[.int .i64 0, .int .i64 0, .int .i64 0, .int .i64 0, .int .i64 0, .int .i64 0, .int .i64 0, .int .i64 0, .int .i64 0, .int .i64 0, .int .i64 0, .int .i64 0, .int .i64 0, .slice none 0 0, .slice none 0 0]
abbrev tW:List Value:=[.int .i64 0, .int .i64 0, .int .i64 0]
abbrev tC:List Value:=[.int .i64 0, .int .i64 0, .int .i64 0, .slice none 0 0, .bool false, .int .i64 0, .slice none 0 0, .slice none 0 0, .slice none 0 0, .int .i64 0, .bool false, .slice none 0 0]
abbrev pQ:List Value:=[.int .i64 0, .int .i64 0, .int .i64 0, .slice none 0 0, .slice none 0 0]
abbrev nP:List Value:=[.int .i64 0, .int .i64 0, .int .i64 0, .int .i64 0, .int .i64 0, .int .i64 0, .int .i64 0]
abbrev ud:List Value:=[.slice none 0 0, .slice none 0 0, .bool false]
abbrev tM:List Value:=[.slice none 0 0, .int .i64 0, .int .i64 0, .int .i64 0, .int .i64 0, .int .i64 0, .int .i64 0, .int .i64 0, .int .i64 0, .int .i64 0]
abbrev tx:List Value:=[.slice none 0 0, .slice none 0 0, .slice none 0 0, .slice none 0 0]
abbrev uy:List Value:=[.slice none 0 0, .int .i64 0, .int .i64 0, .int .i64 0, .int .i64 0, .int .i64 0, .int .i64 0, .int .i64 0, .int .i64 0, .int .i64 0, .int .i64 0, .int .i64 0, .int .i64 0, .int .i64 0, .int .i64 0, .int .i64 0, .int .i64 0, .int .i64 0, .int .i64 0, .int .i64 0, .int .i64 0, .int .i64 0, .int .i64 0, .int .i64 0, .int .i64 0, .int .i64 0, .int .i64 0, .int .i64 0, .int .i64 0, .int .i64 0, .int .i64 0, .int .i64 0, .int .i64 0, .int .i64 0, .int .i64 0, .int .i64 0, .int .i64 0, .int .i64 0, .int .i64 0, .int .i64 0, .int .i64 0, .int .i64 0, .int .i64 0, .slice none 0 0, .int .i64 0, .int .i64 0, .int .i64 0, .int .i64 0, .int .i64 0, .int .i64 0, .int .i64 0, .int .i64 0, .int .i64 0, .nilFunc, .slice none 0 0, .slice none 0 0, .int .i64 0, .bool false, .slice none 0 0, .slice none 0 0, .int .i64 0, .int .i64 0, .int .i64 0, .bool false]
abbrev yV:List Value:=[.nilFunc, .nilFunc, .nilFunc, .nilFunc, .nilFunc, .nilFunc, .nilFunc, .nilFunc, .nilFunc, .nilFunc, .nilFunc, .nilFunc, .nilFunc, .nilFunc, .nilFunc, .nilFunc, .nilFunc, .nilFunc, .nilFunc, .nilFunc, .nilFunc, .nilFunc, .nilFunc, .nilFunc]
abbrev ut:List Value:=[.int .i64 0, .int .i64 0, .int .i64 0, .int .i64 0]
abbrev pV:List Value:=[.int .i64 0, .int .i64 0, .int .i64 0, .int .i64 0, .int .i64 0, .int .i64 0]
abbrev tE:List Value:=[.slice none 0 0, .int .i64 0, .int .i64 0, .int .i64 0, .slice none 0 0]
abbrev pZ:List Value:=[.int .i64 0, .int .i64 0, .string ByteArray.empty, .int .i64 0]
abbrev xT:List Value:=[.bool false, .int .i64 0, .int .i64 0, .int .i64 0, .slice none 0 0, .slice none 0 0, .slice none 0 0, .slice none 0 0, .int .i64 0, .int .i64 0, .int .i64 0, .int .i64 0, .int .i64 0, .int .i64 0, .int .i64 0, .int .i64 0, .int .i64 0, .int .i64 0, .int .i64 0, .int .i64 0, .int .i64 0, .int .i64 0, .int .i64 0, .int .i64 0, .int .i64 0, .int .i64 0, .int .i64 0, .int .i64 0, .int .i64 0, .int .i64 0, .int .i64 0, .int .i64 0, .int .i64 0, .int .i64 0, .int .i64 0, .int .i64 0, .int .i64 0, .int .i64 0, .int .i64 0, .int .i64 0, .int .i64 0, .int .i64 0, .int .i64 0, .int .i64 0, .int .i64 0, .int .i64 0, .int .i64 0, .int .i64 0, .int .i64 0, .int .i64 0, .int .i64 0, .int .i64 0, .slice none 0 0, .slice none 0 0, .bool false, .int .i64 0, .slice none 0 0, .int .i64 0, .int .i64 0, .int .i64 0, .slice none 0 0, .slice none 0 0, .int .i64 0, .bool false, .slice none 0 0, .slice none 0 0, .slice none 0 0]
abbrev Cs:List Value:=[.int .u64 0, .int .u64 0, .int .u32 0, .int .u8 0, .int .u8 0, .int .u8 0, .int .u8 0, .nilFunc, .pointer none, .int .i32 0, .int .i32 0]

instance uE:Ty Tryz.prog 1 false [.nilFunc]:=Ty.of (bytes:=8) (.nilFunc) Tryz.underlying1 rfl ae rfl (by simp [Value.oneCell'])
instance uC:Ty Tryz.prog 2 false [.int .i64 0]:=Ty.of (bytes:=8) (.int .i64 0) Tryz.underlying2 rfl ae rfl (by simp [Value.oneCell'])
instance ew:Ty Tryz.prog 3 false [.int .i64 0]:=Ty.of (bytes:=8) (.int .i64 0) Tryz.underlying3 rfl ae rfl (by simp [Value.oneCell'])
instance zW:Ty Tryz.prog 4 false [.bool false]:=Ty.of (bytes:=1) (.bool false) Tryz.underlying4 rfl ae rfl (by simp [Value.oneCell'])
instance QC:Ty Tryz.prog 5 false [.int .u8 0]:=Ty.of (bytes:=1) (.int .u8 0) Tryz.underlying5 rfl ae rfl (by simp [Value.oneCell'])
instance Lp:Ty Tryz.prog 9 false [.string ByteArray.empty]:=Ty.of (bytes:=16) (.string ByteArray.empty) Tryz.underlying9 rfl ae rfl (by simp [Value.oneCell'])
instance Qx:Ty Tryz.prog 12 false [.int .u64 0]:=Ty.of (bytes:=8) (.int .u64 0) Tryz.underlying12 rfl ae rfl (by simp [Value.oneCell'])
instance gX:Ty Tryz.prog 22 false [.slice none 0 0]:=Ty.of (bytes:=24) (.slice none 0 0) Tryz.underlying22 rfl ae rfl (by simp [Value.oneCell'])
instance CU:Ty Tryz.prog 23 false [.slice none 0 0]:=Ty.of (bytes:=24) (.slice none 0 0) Tryz.underlying23 rfl ae rfl (by simp [Value.oneCell'])
instance GB:Ty Tryz.prog 24 true Ez:=Ty.of (bytes:=320) (.agg (Ez).toArray) Tryz.underlying24 rfl ae rfl (by simp [Value.oneCell'])
instance Jc:Ty Tryz.prog 26 true Cg:=Ty.of (bytes:=360) (.agg (Cg).toArray) Tryz.underlying26 rfl ae rfl (by simp [Value.oneCell'])
instance CG:Ty Tryz.prog 30 true sd:=Ty.of (bytes:=72) (.agg (sd).toArray) Tryz.underlying30 rfl ae rfl (by simp [Value.oneCell'])
instance xG:Ty Tryz.prog 32 false [.slice none 0 0]:=Ty.of (bytes:=24) (.slice none 0 0) Tryz.underlying32 rfl ae rfl (by simp [Value.oneCell'])
instance PK:Ty Tryz.prog 33 true zQ:=Ty.of (bytes:=88) (.agg (zQ).toArray) Tryz.underlying33 rfl ae rfl (by simp [Value.oneCell'])
instance Cm:Ty Tryz.prog 34 true zQ:=Ty.of (bytes:=88) (.agg (zQ).toArray) Tryz.underlying34 rfl ae rfl (by simp [Value.oneCell'])
instance OL:Ty Tryz.prog 38 true Ab:=Ty.of (bytes:=112) (.agg (Ab).toArray) Tryz.underlying38 rfl ae rfl (by simp [Value.oneCell'])
instance Pp:Ty Tryz.prog 39 true Ab:=Ty.of (bytes:=112) (.agg (Ab).toArray) Tryz.underlying39 rfl ae rfl (by simp [Value.oneCell'])
instance OS:Ty Tryz.prog 40 false [.nilFunc]:=Ty.of (bytes:=8) (.nilFunc) Tryz.underlying40 rfl ae rfl (by simp [Value.oneCell'])
instance Qf:Ty Tryz.prog 42 false [.nilFunc]:=Ty.of (bytes:=8) (.nilFunc) Tryz.underlying42 rfl ae rfl (by simp [Value.oneCell'])
instance GK:Ty Tryz.prog 43 false [.nilFunc]:=Ty.of (bytes:=8) (.nilFunc) Tryz.underlying43 rfl ae rfl (by simp [Value.oneCell'])
instance OA:Ty Tryz.prog 44 true [.int .i64 0, .int .i64 0]:=Ty.of (bytes:=16) (.agg #[.int .i64 0, .int .i64 0]) Tryz.underlying44 rfl ae rfl (by simp [Value.oneCell'])
instance NW:Ty Tryz.prog 45 false [.slice none 0 0]:=Ty.of (bytes:=24) (.slice none 0 0) Tryz.underlying45 rfl ae rfl (by simp [Value.oneCell'])
instance OW:Ty Tryz.prog 47 true [.int .i64 0, .int .i64 0]:=Ty.of (bytes:=16) (.agg #[.int .i64 0, .int .i64 0]) Tryz.underlying47 rfl ae rfl (by simp [Value.oneCell'])
instance NU:Ty Tryz.prog 48 true [.int .i64 0, .int .i64 0]:=Ty.of (bytes:=16) (.agg #[.int .i64 0, .int .i64 0]) Tryz.underlying48 rfl ae rfl (by simp [Value.oneCell'])
instance Pj:Ty Tryz.prog 51 false [.nilFunc]:=Ty.of (bytes:=8) (.nilFunc) Tryz.underlying51 rfl ae rfl (by simp [Value.oneCell'])
instance Ob:Ty Tryz.prog 57 true lP:=Ty.of (bytes:=40) (.agg (lP).toArray) Tryz.underlying57 rfl ae rfl (by simp [Value.oneCell'])
instance Qp:Ty Tryz.prog 60 false [.nilFunc]:=Ty.of (bytes:=8) (.nilFunc) Tryz.underlying60 rfl ae rfl (by simp [Value.oneCell'])
instance AY:Ty Tryz.prog 61 false [.slice none 0 0]:=Ty.of (bytes:=24) (.slice none 0 0) Tryz.underlying61 rfl ae rfl (by simp [Value.oneCell'])
instance Jx:Ty Tryz.prog 62 false [.slice none 0 0]:=Ty.of (bytes:=24) (.slice none 0 0) Tryz.underlying62 rfl ae rfl (by simp [Value.oneCell'])
instance HJ:Ty Tryz.prog 64 true Cl:=Ty.of (bytes:=72) (.agg (Cl).toArray) Tryz.underlying64 rfl ae rfl (by simp [Value.oneCell'])
instance Je:Ty Tryz.prog 66 false [.int .i64 0]:=Ty.of (bytes:=8) (.int .i64 0) Tryz.underlying66 rfl ae rfl (by simp [Value.oneCell'])
instance Hb:Ty Tryz.prog 69 false [.slice none 0 0]:=Ty.of (bytes:=24) (.slice none 0 0) Tryz.underlying69 rfl ae rfl (by simp [Value.oneCell'])
instance GA:Ty Tryz.prog 71 true zU:=Ty.of (bytes:=56) (.agg (zU).toArray) Tryz.underlying71 rfl ae rfl (by simp [Value.oneCell'])
instance Pa:Ty Tryz.prog 73 true Ak:=Ty.of (bytes:=64) (.agg (Ak).toArray) Tryz.underlying73 rfl ae rfl (by simp [Value.oneCell'])
instance HK:Ty Tryz.prog 78 false [.slice none 0 0]:=Ty.of (bytes:=24) (.slice none 0 0) Tryz.underlying78 rfl ae rfl (by simp [Value.oneCell'])
instance HW:Ty Tryz.prog 80 true [.slice none 0 0, .slice none 0 0]:=Ty.of (bytes:=48) (.agg #[.slice none 0 0, .slice none 0 0]) Tryz.underlying80 rfl ae rfl (by simp [Value.oneCell'])
instance IH:Ty Tryz.prog 81 true Gd:=Ty.of (bytes:=328) (.agg (Gd).toArray) Tryz.underlying81 rfl ae rfl (by simp [Value.oneCell'])
instance Qy:Ty Tryz.prog 83 true ue:=Ty.of (bytes:=480) (.agg (ue).toArray) Tryz.underlying83 rfl ae rfl (by simp [Value.oneCell'])
instance Pz:Ty Tryz.prog 87 true tG:=Ty.of (bytes:=152) (.agg (tG).toArray) Tryz.underlying87 rfl ae rfl (by simp [Value.oneCell'])
instance CL:Ty Tryz.prog 88 false [.slice none 0 0]:=Ty.of (bytes:=24) (.slice none 0 0) Tryz.underlying88 rfl ae rfl (by simp [Value.oneCell'])
instance IA:Ty Tryz.prog 89 false [.slice none 0 0]:=Ty.of (bytes:=24) (.slice none 0 0) Tryz.underlying89 rfl ae rfl (by simp [Value.oneCell'])
instance rc:Ty Tryz.prog 91 true tW:=Ty.of (bytes:=24) (.agg (tW).toArray) Tryz.underlying91 rfl ae rfl (by simp [Value.oneCell'])
instance Px:Ty Tryz.prog 96 true tC:=Ty.of (bytes:=176) (.agg (tC).toArray) Tryz.underlying96 rfl ae rfl (by simp [Value.oneCell'])
instance Qu:Ty Tryz.prog 97 false [.pointer none]:=Ty.of (bytes:=8) (.pointer none) Tryz.underlying97 rfl ae rfl (by simp [Value.oneCell'])
instance Qg:Ty Tryz.prog 99 false [.nilFunc]:=Ty.of (bytes:=8) (.nilFunc) Tryz.underlying99 rfl ae rfl (by simp [Value.oneCell'])
instance NO:Ty Tryz.prog 100 false [.nilFunc]:=Ty.of (bytes:=8) (.nilFunc) Tryz.underlying100 rfl ae rfl (by simp [Value.oneCell'])
instance zV:Ty Tryz.prog 101 false [.slice none 0 0]:=Ty.of (bytes:=24) (.slice none 0 0) Tryz.underlying101 rfl ae rfl (by simp [Value.oneCell'])
instance LN:Ty Tryz.prog 102 true pQ:=Ty.of (bytes:=72) (.agg (pQ).toArray) Tryz.underlying102 rfl ae rfl (by simp [Value.oneCell'])
instance KL:Ty Tryz.prog 103 true pQ:=Ty.of (bytes:=72) (.agg (pQ).toArray) Tryz.underlying103 rfl ae rfl (by simp [Value.oneCell'])
instance Ni:Ty Tryz.prog 104 false [.nilFunc]:=Ty.of (bytes:=8) (.nilFunc) Tryz.underlying104 rfl ae rfl (by simp [Value.oneCell'])
instance KN:Ty Tryz.prog 105 false [.nilFunc]:=Ty.of (bytes:=8) (.nilFunc) Tryz.underlying105 rfl ae rfl (by simp [Value.oneCell'])
instance Mx:Ty Tryz.prog 108 true lP:=Ty.of (bytes:=40) (.agg (lP).toArray) Tryz.underlying108 rfl ae rfl (by simp [Value.oneCell'])
instance uJ:Ty Tryz.prog 109 true lP:=Ty.of (bytes:=40) (.agg (lP).toArray) Tryz.underlying109 rfl ae rfl (by simp [Value.oneCell'])
instance LY:Ty Tryz.prog 110 true nP:=Ty.of (bytes:=56) (.agg (nP).toArray) Tryz.underlying110 rfl ae rfl (by simp [Value.oneCell'])
instance MX:Ty Tryz.prog 111 true nP:=Ty.of (bytes:=56) (.agg (nP).toArray) Tryz.underlying111 rfl ae rfl (by simp [Value.oneCell'])
instance LA:Ty Tryz.prog 112 false [.nilFunc]:=Ty.of (bytes:=8) (.nilFunc) Tryz.underlying112 rfl ae rfl (by simp [Value.oneCell'])
instance NG:Ty Tryz.prog 113 false [.slice none 0 0]:=Ty.of (bytes:=24) (.slice none 0 0) Tryz.underlying113 rfl ae rfl (by simp [Value.oneCell'])
instance KT:Ty Tryz.prog 114 true lP:=Ty.of (bytes:=40) (.agg (lP).toArray) Tryz.underlying114 rfl ae rfl (by simp [Value.oneCell'])
instance zT:Ty Tryz.prog 115 true lP:=Ty.of (bytes:=40) (.agg (lP).toArray) Tryz.underlying115 rfl ae rfl (by simp [Value.oneCell'])
instance KC:Ty Tryz.prog 116 true sd:=Ty.of (bytes:=72) (.agg (sd).toArray) Tryz.underlying116 rfl ae rfl (by simp [Value.oneCell'])
instance Lz:Ty Tryz.prog 117 true sd:=Ty.of (bytes:=72) (.agg (sd).toArray) Tryz.underlying117 rfl ae rfl (by simp [Value.oneCell'])
instance JS:Ty Tryz.prog 118 false [.nilFunc]:=Ty.of (bytes:=8) (.nilFunc) Tryz.underlying118 rfl ae rfl (by simp [Value.oneCell'])
instance Kv:Ty Tryz.prog 119 false [.nilFunc]:=Ty.of (bytes:=8) (.nilFunc) Tryz.underlying119 rfl ae rfl (by simp [Value.oneCell'])
instance MS:Ty Tryz.prog 121 false [.slice none 0 0]:=Ty.of (bytes:=24) (.slice none 0 0) Tryz.underlying121 rfl ae rfl (by simp [Value.oneCell'])
instance Ky:Ty Tryz.prog 122 false [.nilFunc]:=Ty.of (bytes:=8) (.nilFunc) Tryz.underlying122 rfl ae rfl (by simp [Value.oneCell'])
instance JV:Ty Tryz.prog 124 false [.nilFunc]:=Ty.of (bytes:=8) (.nilFunc) Tryz.underlying124 rfl ae rfl (by simp [Value.oneCell'])
instance Nu:Ty Tryz.prog 125 true [.int .i64 0, .int .i64 0]:=Ty.of (bytes:=16) (.agg #[.int .i64 0, .int .i64 0]) Tryz.underlying125 rfl ae rfl (by simp [Value.oneCell'])
instance LG:Ty Tryz.prog 126 true [.int .i64 0, .int .i64 0]:=Ty.of (bytes:=16) (.agg #[.int .i64 0, .int .i64 0]) Tryz.underlying126 rfl ae rfl (by simp [Value.oneCell'])
instance Lq:Ty Tryz.prog 127 false [.pointer none]:=Ty.of (bytes:=8) (.pointer none) Tryz.underlying127 rfl ae rfl (by simp [Value.oneCell'])
instance KQ:Ty Tryz.prog 129 true ud:=Ty.of (bytes:=56) (.agg (ud).toArray) Tryz.underlying129 rfl ae rfl (by simp [Value.oneCell'])
instance CV:Ty Tryz.prog 132 true tM:=Ty.of (bytes:=96) (.agg (tM).toArray) Tryz.underlying132 rfl ae rfl (by simp [Value.oneCell'])
instance Nc:Ty Tryz.prog 137 false [.pointer none]:=Ty.of (bytes:=8) (.pointer none) Tryz.underlying137 rfl ae rfl (by simp [Value.oneCell'])
instance Lt:Ty Tryz.prog 141 false [.pointer none]:=Ty.of (bytes:=8) (.pointer none) Tryz.underlying141 rfl ae rfl (by simp [Value.oneCell'])
instance MV:Ty Tryz.prog 143 true tx:=Ty.of (bytes:=96) (.agg (tx).toArray) Tryz.underlying143 rfl ae rfl (by simp [Value.oneCell'])
instance Lu:Ty Tryz.prog 161 false [.nilFunc]:=Ty.of (bytes:=8) (.nilFunc) Tryz.underlying161 rfl ae rfl (by simp [Value.oneCell'])
instance Mg:Ty Tryz.prog 168 false [.pointer none]:=Ty.of (bytes:=8) (.pointer none) Tryz.underlying168 rfl ae rfl (by simp [Value.oneCell'])
instance MT:Ty Tryz.prog 169 false [.nilFunc]:=Ty.of (bytes:=8) (.nilFunc) Tryz.underlying169 rfl ae rfl (by simp [Value.oneCell'])
instance Ka:Ty Tryz.prog 171 true uy:=Ty.of (bytes:=608) (.agg (uy).toArray) Tryz.underlying171 rfl ae rfl (by simp [Value.oneCell'])
instance MR:Ty Tryz.prog 172 false [.nilFunc]:=Ty.of (bytes:=8) (.nilFunc) Tryz.underlying172 rfl ae rfl (by simp [Value.oneCell'])
instance ND:Ty Tryz.prog 173 true yV:=Ty.of (bytes:=192) (.agg (yV).toArray) Tryz.underlying173 rfl ae rfl (by simp [Value.oneCell'])
instance KM:Ty Tryz.prog 175 false [.map none]:=Ty.of (bytes:=8) (.map none) Tryz.underlying175 rfl ae rfl (by simp [Value.oneCell'])
instance LP:Ty Tryz.prog 176 true []:=Ty.of (bytes:=0) (.agg #[]) Tryz.underlying176 rfl ae rfl (by simp [Value.oneCell'])
instance Kj:Ty Tryz.prog 178 false [.nilFunc]:=Ty.of (bytes:=8) (.nilFunc) Tryz.underlying178 rfl ae rfl (by simp [Value.oneCell'])
instance LF:Ty Tryz.prog 179 false [.nilFunc]:=Ty.of (bytes:=8) (.nilFunc) Tryz.underlying179 rfl ae rfl (by simp [Value.oneCell'])
instance Ns:Ty Tryz.prog 188 false [.map none]:=Ty.of (bytes:=8) (.map none) Tryz.underlying188 rfl ae rfl (by simp [Value.oneCell'])
instance Kz:Ty Tryz.prog 190 false [.map none]:=Ty.of (bytes:=8) (.map none) Tryz.underlying190 rfl ae rfl (by simp [Value.oneCell'])
instance Mv:Ty Tryz.prog 192 true ut:=Ty.of (bytes:=32) (.agg (ut).toArray) Tryz.underlying192 rfl ae rfl (by simp [Value.oneCell'])
instance La:Ty Tryz.prog 196 true pV:=Ty.of (bytes:=48) (.agg (pV).toArray) Tryz.underlying196 rfl ae rfl (by simp [Value.oneCell'])
instance Ki:Ty Tryz.prog 200 false [.pointer none]:=Ty.of (bytes:=8) (.pointer none) Tryz.underlying200 rfl ae rfl (by simp [Value.oneCell'])
instance NQ:Ty Tryz.prog 216 false [.nilFunc]:=Ty.of (bytes:=8) (.nilFunc) Tryz.underlying216 rfl ae rfl (by simp [Value.oneCell'])
instance CM:Ty Tryz.prog 217 false [.slice none 0 0]:=Ty.of (bytes:=24) (.slice none 0 0) Tryz.underlying217 rfl ae rfl (by simp [Value.oneCell'])
instance Nb:Ty Tryz.prog 220 false [.pointer none]:=Ty.of (bytes:=8) (.pointer none) Tryz.underlying220 rfl ae rfl (by simp [Value.oneCell'])
instance Nf:Ty Tryz.prog 222 true tE:=Ty.of (bytes:=72) (.agg (tE).toArray) Tryz.underlying222 rfl ae rfl (by simp [Value.oneCell'])
instance KS:Ty Tryz.prog 225 true pZ:=Ty.of (bytes:=40) (.agg (pZ).toArray) Tryz.underlying225 rfl ae rfl (by simp [Value.oneCell'])
instance KO:Ty Tryz.prog 253 false [.int .i64 0]:=Ty.of (bytes:=8) (.int .i64 0) Tryz.underlying253 rfl ae rfl (by simp [Value.oneCell'])
instance Ma:Ty Tryz.prog 275 false [.slice none 0 0]:=Ty.of (bytes:=24) (.slice none 0 0) Tryz.underlying275 rfl ae rfl (by simp [Value.oneCell'])
instance OJ:Elem Tryz.prog 22 3 1 8 [.int .i64 0]:=Elem.of (.int .i64 0) Tryz.underlying22 ae rfl rfl ah ah (by simp [Value.oneCell'])
instance Ox:Elem Tryz.prog 23 48 2 16 [.int .i64 0, .int .i64 0]:=Elem.of (.agg #[.int .i64 0, .int .i64 0]) Tryz.underlying23 ae rfl rfl ah ah (by simp [Value.oneCell'])
instance Qv:Elem Tryz.prog 32 57 5 40 lP:=Elem.of (.agg (lP).toArray) Tryz.underlying32 ae rfl rfl ah ah (by simp [Value.oneCell'])
instance Ov:Elem Tryz.prog 45 44 2 16 [.int .i64 0, .int .i64 0]:=Elem.of (.agg #[.int .i64 0, .int .i64 0]) Tryz.underlying45 ae rfl rfl ah ah (by simp [Value.oneCell'])
instance NV:Elem Tryz.prog 61 9 1 16 [.string ByteArray.empty]:=Elem.of (.string ByteArray.empty) Tryz.underlying61 ae rfl rfl ah ah (by simp [Value.oneCell'])
instance Pv:Elem Tryz.prog 62 73 5 64 Ak:=Elem.of (.agg (Ak).toArray) Tryz.underlying62 ae rfl rfl ah ah (by simp [Value.oneCell'])
instance On:Elem Tryz.prog 69 71 4 56 zU:=Elem.of (.agg (zU).toArray) Tryz.underlying69 ae rfl rfl ah ah (by simp [Value.oneCell'])
instance Of:Elem Tryz.prog 78 126 2 16 [.int .i64 0, .int .i64 0]:=Elem.of (.agg #[.int .i64 0, .int .i64 0]) Tryz.underlying78 ae rfl rfl ah ah (by simp [Value.oneCell'])
instance NT:Elem Tryz.prog 88 111 7 56 nP:=Elem.of (.agg (nP).toArray) Tryz.underlying88 ae rfl rfl ah ah (by simp [Value.oneCell'])
instance OI:Elem Tryz.prog 89 117 9 72 sd:=Elem.of (.agg (sd).toArray) Tryz.underlying89 ae rfl rfl ah ah (by simp [Value.oneCell'])
instance JX:Elem Tryz.prog 101 196 6 48 pV:=Elem.of (.agg (pV).toArray) Tryz.underlying101 ae rfl rfl ah ah (by simp [Value.oneCell'])
instance Mu:Elem Tryz.prog 113 115 5 40 lP:=Elem.of (.agg (lP).toArray) Tryz.underlying113 ae rfl rfl ah ah (by simp [Value.oneCell'])
instance Mq:Elem Tryz.prog 121 4 1 1 [.bool false]:=Elem.of (.bool false) Tryz.underlying121 ae rfl rfl ah ah (by simp [Value.oneCell'])
instance JM:Elem Tryz.prog 217 225 4 40 pZ:=Elem.of (.agg (pZ).toArray) Tryz.underlying217 ae rfl rfl ah ah (by simp [Value.oneCell'])
instance Mt:Elem Tryz.prog 275 61 1 24 [.slice none 0 0]:=Elem.of (.slice none 0 0) Tryz.underlying275 ae rfl rfl ah ah (by simp [Value.oneCell'])
instance Jf:cq Tryz.prog 26 0 0:=⟨fun ad w=> by kernel_rfl⟩
instance Jp:Fvl Tryz.prog 26 0 0 false 1:=Fvl.of Tryz.underlying26 rfl rfl CU rfl
instance HS:cq Tryz.prog 26 1 1:=⟨fun ad w=> by kernel_rfl⟩
instance Ix:Fvl Tryz.prog 26 1 1 true 40:=Fvl.of Tryz.underlying26 rfl rfl GB rfl
instance GC:cq Tryz.prog 26 2 41:=⟨fun ad w=> by kernel_rfl⟩
instance Il:Fvl Tryz.prog 26 2 41 false 1:=Fvl.of Tryz.underlying26 rfl rfl ew rfl
instance Gx:cq Tryz.prog 26 3 42:=⟨fun ad w=> by kernel_rfl⟩
instance Gl:Fvl Tryz.prog 26 3 42 false 1:=Fvl.of Tryz.underlying26 rfl rfl ew rfl
instance GT:cq Tryz.prog 33 0 0:=⟨fun ad w=> by kernel_rfl⟩
instance Ho:Fvl Tryz.prog 33 0 0 false 1:=Fvl.of Tryz.underlying33 rfl rfl gX rfl
instance HZ:cq Tryz.prog 33 1 1:=⟨fun ad w=> by kernel_rfl⟩
instance Ic:Fvl Tryz.prog 33 1 1 false 1:=Fvl.of Tryz.underlying33 rfl rfl xG rfl
instance HB:cq Tryz.prog 33 2 2:=⟨fun ad w=> by kernel_rfl⟩
instance Ht:Fvl Tryz.prog 33 2 2 false 1:=Fvl.of Tryz.underlying33 rfl rfl ew rfl
instance Jm:cq Tryz.prog 33 3 3:=⟨fun ad w=> by kernel_rfl⟩
instance It:Fvl Tryz.prog 33 3 3 false 1:=Fvl.of Tryz.underlying33 rfl rfl zW rfl
instance HD:cq Tryz.prog 33 4 4:=⟨fun ad w=> by kernel_rfl⟩
instance Jn:Fvl Tryz.prog 33 4 4 false 1:=Fvl.of Tryz.underlying33 rfl rfl gX rfl
instance Hz:cq Tryz.prog 34 0 0:=⟨fun ad w=> by kernel_rfl⟩
instance Gm:Fvl Tryz.prog 34 0 0 false 1:=Fvl.of Tryz.underlying34 rfl rfl gX rfl
instance IE:cq Tryz.prog 34 1 1:=⟨fun ad w=> by kernel_rfl⟩
instance IG:Fvl Tryz.prog 34 1 1 false 1:=Fvl.of Tryz.underlying34 rfl rfl xG rfl
instance Iq:cq Tryz.prog 34 2 2:=⟨fun ad w=> by kernel_rfl⟩
instance IZ:Fvl Tryz.prog 34 2 2 false 1:=Fvl.of Tryz.underlying34 rfl rfl ew rfl
instance IS:cq Tryz.prog 34 3 3:=⟨fun ad w=> by kernel_rfl⟩
instance JE:Fvl Tryz.prog 34 3 3 false 1:=Fvl.of Tryz.underlying34 rfl rfl zW rfl
instance Gv:cq Tryz.prog 34 4 4:=⟨fun ad w=> by kernel_rfl⟩
instance GD:Fvl Tryz.prog 34 4 4 false 1:=Fvl.of Tryz.underlying34 rfl rfl gX rfl
instance IK:cq Tryz.prog 38 0 0:=⟨fun ad w=> by kernel_rfl⟩
instance Jt:Fvl Tryz.prog 38 0 0 false 1:=Fvl.of Tryz.underlying38 rfl rfl gX rfl
instance HF:cq Tryz.prog 38 1 1:=⟨fun ad w=> by kernel_rfl⟩
instance GE:Fvl Tryz.prog 38 1 1 false 1:=Fvl.of Tryz.underlying38 rfl rfl xG rfl
instance IO:cq Tryz.prog 38 2 2:=⟨fun ad w=> by kernel_rfl⟩
instance GP:Fvl Tryz.prog 38 2 2 false 1:=Fvl.of Tryz.underlying38 rfl rfl ew rfl
instance Jb:cq Tryz.prog 38 3 3:=⟨fun ad w=> by kernel_rfl⟩
instance Iw:Fvl Tryz.prog 38 3 3 false 1:=Fvl.of Tryz.underlying38 rfl rfl zW rfl
instance Gy:cq Tryz.prog 38 4 4:=⟨fun ad w=> by kernel_rfl⟩
instance Gu:Fvl Tryz.prog 38 4 4 false 1:=Fvl.of Tryz.underlying38 rfl rfl gX rfl
instance IR:cq Tryz.prog 38 5 5:=⟨fun ad w=> by kernel_rfl⟩
instance Hl:Fvl Tryz.prog 38 5 5 false 1:=Fvl.of Tryz.underlying38 rfl rfl gX rfl
instance IW:cq Tryz.prog 39 0 0:=⟨fun ad w=> by kernel_rfl⟩
instance Hg:Fvl Tryz.prog 39 0 0 false 1:=Fvl.of Tryz.underlying39 rfl rfl gX rfl
instance Js:cq Tryz.prog 39 1 1:=⟨fun ad w=> by kernel_rfl⟩
instance Im:Fvl Tryz.prog 39 1 1 false 1:=Fvl.of Tryz.underlying39 rfl rfl xG rfl
instance JB:cq Tryz.prog 39 2 2:=⟨fun ad w=> by kernel_rfl⟩
instance Jl:Fvl Tryz.prog 39 2 2 false 1:=Fvl.of Tryz.underlying39 rfl rfl ew rfl
instance Gq:cq Tryz.prog 39 3 3:=⟨fun ad w=> by kernel_rfl⟩
instance Ja:Fvl Tryz.prog 39 3 3 false 1:=Fvl.of Tryz.underlying39 rfl rfl zW rfl
instance HL:cq Tryz.prog 39 4 4:=⟨fun ad w=> by kernel_rfl⟩
instance IT:Fvl Tryz.prog 39 4 4 false 1:=Fvl.of Tryz.underlying39 rfl rfl gX rfl
instance II:cq Tryz.prog 39 5 5:=⟨fun ad w=> by kernel_rfl⟩
instance Jj:Fvl Tryz.prog 39 5 5 false 1:=Fvl.of Tryz.underlying39 rfl rfl gX rfl
instance Hn:cq Tryz.prog 47 0 0:=⟨fun ad w=> by kernel_rfl⟩
instance HM:Fvl Tryz.prog 47 0 0 false 1:=Fvl.of Tryz.underlying47 rfl rfl ew rfl
instance ID:cq Tryz.prog 47 1 1:=⟨fun ad w=> by kernel_rfl⟩
instance IL:Fvl Tryz.prog 47 1 1 false 1:=Fvl.of Tryz.underlying47 rfl rfl ew rfl
instance Id:cq Tryz.prog 48 0 0:=⟨fun ad w=> by kernel_rfl⟩
instance IY:Fvl Tryz.prog 48 0 0 false 1:=Fvl.of Tryz.underlying48 rfl rfl ew rfl
instance Iz:cq Tryz.prog 48 1 1:=⟨fun ad w=> by kernel_rfl⟩
instance Gp:Fvl Tryz.prog 48 1 1 false 1:=Fvl.of Tryz.underlying48 rfl rfl ew rfl
instance HN:cq Tryz.prog 57 0 0:=⟨fun ad w=> by kernel_rfl⟩
instance IM:Fvl Tryz.prog 57 0 0 false 1:=Fvl.of Tryz.underlying57 rfl rfl ew rfl
instance Iu:cq Tryz.prog 57 1 1:=⟨fun ad w=> by kernel_rfl⟩
instance JC:Fvl Tryz.prog 57 1 1 false 1:=Fvl.of Tryz.underlying57 rfl rfl ew rfl
instance Hu:cq Tryz.prog 57 2 2:=⟨fun ad w=> by kernel_rfl⟩
instance GH:Fvl Tryz.prog 57 2 2 false 1:=Fvl.of Tryz.underlying57 rfl rfl ew rfl
instance HV:cq Tryz.prog 57 3 3:=⟨fun ad w=> by kernel_rfl⟩
instance HU:Fvl Tryz.prog 57 3 3 false 1:=Fvl.of Tryz.underlying57 rfl rfl ew rfl
instance HC:cq Tryz.prog 57 4 4:=⟨fun ad w=> by kernel_rfl⟩
instance Hp:Fvl Tryz.prog 57 4 4 false 1:=Fvl.of Tryz.underlying57 rfl rfl ew rfl
instance He:cq Tryz.prog 64 0 0:=⟨fun ad w=> by kernel_rfl⟩
instance IJ:Fvl Tryz.prog 64 0 0 false 1:=Fvl.of Tryz.underlying64 rfl rfl AY rfl
instance Gz:cq Tryz.prog 64 1 1:=⟨fun ad w=> by kernel_rfl⟩
instance Ih:Fvl Tryz.prog 64 1 1 false 1:=Fvl.of Tryz.underlying64 rfl rfl AY rfl
instance In:cq Tryz.prog 64 2 2:=⟨fun ad w=> by kernel_rfl⟩
instance Io:Fvl Tryz.prog 64 2 2 false 1:=Fvl.of Tryz.underlying64 rfl rfl Jx rfl
instance IC:cq Tryz.prog 71 0 0:=⟨fun ad w=> by kernel_rfl⟩
instance IX:Fvl Tryz.prog 71 0 0 false 1:=Fvl.of Tryz.underlying71 rfl rfl ew rfl
instance JF:cq Tryz.prog 71 1 1:=⟨fun ad w=> by kernel_rfl⟩
instance If:Fvl Tryz.prog 71 1 1 false 1:=Fvl.of Tryz.underlying71 rfl rfl ew rfl
instance GJ:cq Tryz.prog 71 2 2:=⟨fun ad w=> by kernel_rfl⟩
instance Gt:Fvl Tryz.prog 71 2 2 false 1:=Fvl.of Tryz.underlying71 rfl rfl Lp rfl
instance Jw:cq Tryz.prog 71 3 3:=⟨fun ad w=> by kernel_rfl⟩
instance JJ:Fvl Tryz.prog 71 3 3 false 1:=Fvl.of Tryz.underlying71 rfl rfl Hb rfl
instance Is:cq Tryz.prog 73 0 0:=⟨fun ad w=> by kernel_rfl⟩
instance HE:Fvl Tryz.prog 73 0 0 false 1:=Fvl.of Tryz.underlying73 rfl rfl ew rfl
instance GX:cq Tryz.prog 73 1 1:=⟨fun ad w=> by kernel_rfl⟩
instance GY:Fvl Tryz.prog 73 1 1 true 4:=Fvl.of Tryz.underlying73 rfl rfl GA rfl
instance Jh:cq Tryz.prog 80 0 0:=⟨fun ad w=> by kernel_rfl⟩
instance JA:Fvl Tryz.prog 80 0 0 false 1:=Fvl.of Tryz.underlying80 rfl rfl gX rfl
instance JL:cq Tryz.prog 80 1 1:=⟨fun ad w=> by kernel_rfl⟩
instance HA:Fvl Tryz.prog 80 1 1 false 1:=Fvl.of Tryz.underlying80 rfl rfl HK rfl
instance Gr:cq Tryz.prog 83 0 0:=⟨fun ad w=> by kernel_rfl⟩
instance Jo:Fvl Tryz.prog 83 0 0 false 1:=Fvl.of Tryz.underlying83 rfl rfl zW rfl
instance Hh:cq Tryz.prog 83 1 1:=⟨fun ad w=> by kernel_rfl⟩
instance JH:Fvl Tryz.prog 83 1 1 false 1:=Fvl.of Tryz.underlying83 rfl rfl ew rfl
instance JD:cq Tryz.prog 83 2 2:=⟨fun ad w=> by kernel_rfl⟩
instance Hr:Fvl Tryz.prog 83 2 2 false 1:=Fvl.of Tryz.underlying83 rfl rfl ew rfl
instance Hc:cq Tryz.prog 83 3 3:=⟨fun ad w=> by kernel_rfl⟩
instance Hf:Fvl Tryz.prog 83 3 3 false 1:=Fvl.of Tryz.underlying83 rfl rfl ew rfl
instance Gw:cq Tryz.prog 83 4 4:=⟨fun ad w=> by kernel_rfl⟩
instance IN:Fvl Tryz.prog 83 4 4 true 2:=Fvl.of Tryz.underlying83 rfl rfl HW rfl
instance Ji:cq Tryz.prog 83 5 6:=⟨fun ad w=> by kernel_rfl⟩
instance HG:Fvl Tryz.prog 83 5 6 false 1:=Fvl.of Tryz.underlying83 rfl rfl gX rfl
instance GQ:cq Tryz.prog 83 6 7:=⟨fun ad w=> by kernel_rfl⟩
instance Ij:Fvl Tryz.prog 83 6 7 false 1:=Fvl.of Tryz.underlying83 rfl rfl gX rfl
instance GW:cq Tryz.prog 83 7 8:=⟨fun ad w=> by kernel_rfl⟩
instance Ig:Fvl Tryz.prog 83 7 8 true 41:=Fvl.of Tryz.underlying83 rfl rfl IH rfl
instance Jr:cq Tryz.prog 83 8 49:=⟨fun ad w=> by kernel_rfl⟩
instance HH:Fvl Tryz.prog 83 8 49 false 1:=Fvl.of Tryz.underlying83 rfl rfl ew rfl
instance GG:cq Tryz.prog 83 9 50:=⟨fun ad w=> by kernel_rfl⟩
instance Gs:Fvl Tryz.prog 83 9 50 false 1:=Fvl.of Tryz.underlying83 rfl rfl ew rfl
instance Gf:cq Tryz.prog 83 10 51:=⟨fun ad w=> by kernel_rfl⟩
instance DJ:Fvl Tryz.prog 83 10 51 false 1:=Fvl.of Tryz.underlying83 rfl rfl ew rfl
instance GZ:cq Tryz.prog 87 0 0:=⟨fun ad w=> by kernel_rfl⟩
instance GO:Fvl Tryz.prog 87 0 0 false 1:=Fvl.of Tryz.underlying87 rfl rfl ew rfl
instance HQ:cq Tryz.prog 87 1 1:=⟨fun ad w=> by kernel_rfl⟩
instance IF:Fvl Tryz.prog 87 1 1 false 1:=Fvl.of Tryz.underlying87 rfl rfl ew rfl
instance HT:cq Tryz.prog 87 2 2:=⟨fun ad w=> by kernel_rfl⟩
instance Jy:Fvl Tryz.prog 87 2 2 true 9:=Fvl.of Tryz.underlying87 rfl rfl CG rfl
instance Hs:cq Tryz.prog 87 3 11:=⟨fun ad w=> by kernel_rfl⟩
instance Jz:Fvl Tryz.prog 87 3 11 false 1:=Fvl.of Tryz.underlying87 rfl rfl ew rfl
instance Ju:cq Tryz.prog 87 4 12:=⟨fun ad w=> by kernel_rfl⟩
instance GR:Fvl Tryz.prog 87 4 12 false 1:=Fvl.of Tryz.underlying87 rfl rfl ew rfl
instance Hk:cq Tryz.prog 87 5 13:=⟨fun ad w=> by kernel_rfl⟩
instance HX:Fvl Tryz.prog 87 5 13 false 1:=Fvl.of Tryz.underlying87 rfl rfl gX rfl
instance Hw:cq Tryz.prog 87 6 14:=⟨fun ad w=> by kernel_rfl⟩
instance HY:Fvl Tryz.prog 87 6 14 false 1:=Fvl.of Tryz.underlying87 rfl rfl gX rfl
instance Gk:cq Tryz.prog 91 0 0:=⟨fun ad w=> by kernel_rfl⟩
instance Ie:Fvl Tryz.prog 91 0 0 false 1:=Fvl.of Tryz.underlying91 rfl rfl ew rfl
instance Jv:cq Tryz.prog 91 1 1:=⟨fun ad w=> by kernel_rfl⟩
instance Hy:Fvl Tryz.prog 91 1 1 false 1:=Fvl.of Tryz.underlying91 rfl rfl ew rfl
instance Hi:cq Tryz.prog 91 2 2:=⟨fun ad w=> by kernel_rfl⟩
instance Ii:Fvl Tryz.prog 91 2 2 false 1:=Fvl.of Tryz.underlying91 rfl rfl ew rfl
instance IU:cq Tryz.prog 96 0 0:=⟨fun ad w=> by kernel_rfl⟩
instance Ia:Fvl Tryz.prog 96 0 0 true 3:=Fvl.of Tryz.underlying96 rfl rfl rc rfl
instance GI:cq Tryz.prog 96 1 3:=⟨fun ad w=> by kernel_rfl⟩
instance Hx:Fvl Tryz.prog 96 1 3 false 1:=Fvl.of Tryz.underlying96 rfl rfl IA rfl
instance JI:cq Tryz.prog 96 2 4:=⟨fun ad w=> by kernel_rfl⟩
instance Jd:Fvl Tryz.prog 96 2 4 false 1:=Fvl.of Tryz.underlying96 rfl rfl zW rfl
instance GS:cq Tryz.prog 96 3 5:=⟨fun ad w=> by kernel_rfl⟩
instance IP:Fvl Tryz.prog 96 3 5 false 1:=Fvl.of Tryz.underlying96 rfl rfl ew rfl
instance Hv:cq Tryz.prog 96 4 6:=⟨fun ad w=> by kernel_rfl⟩
instance Ib:Fvl Tryz.prog 96 4 6 false 1:=Fvl.of Tryz.underlying96 rfl rfl gX rfl
instance GV:cq Tryz.prog 96 5 7:=⟨fun ad w=> by kernel_rfl⟩
instance Hm:Fvl Tryz.prog 96 5 7 true 5:=Fvl.of Tryz.underlying96 rfl rfl Cm rfl
instance Gh:cq Tryz.prog 102 0 0:=⟨fun ad w=> by kernel_rfl⟩
instance EF:Fvl Tryz.prog 102 0 0 true 3:=Fvl.of Tryz.underlying102 rfl rfl rc rfl
instance Dq:cq Tryz.prog 102 1 3:=⟨fun ad w=> by kernel_rfl⟩
instance Fm:Fvl Tryz.prog 102 1 3 false 1:=Fvl.of Tryz.underlying102 rfl rfl zV rfl
instance Ed:cq Tryz.prog 102 2 4:=⟨fun ad w=> by kernel_rfl⟩
instance Fv:Fvl Tryz.prog 102 2 4 false 1:=Fvl.of Tryz.underlying102 rfl rfl CL rfl
instance Do:cq Tryz.prog 103 0 0:=⟨fun ad w=> by kernel_rfl⟩
instance Eg:Fvl Tryz.prog 103 0 0 true 3:=Fvl.of Tryz.underlying103 rfl rfl rc rfl
instance FK:cq Tryz.prog 103 1 3:=⟨fun ad w=> by kernel_rfl⟩
instance ER:Fvl Tryz.prog 103 1 3 false 1:=Fvl.of Tryz.underlying103 rfl rfl zV rfl
instance Dy:cq Tryz.prog 103 2 4:=⟨fun ad w=> by kernel_rfl⟩
instance EC:Fvl Tryz.prog 103 2 4 false 1:=Fvl.of Tryz.underlying103 rfl rfl CL rfl
instance Dz:cq Tryz.prog 108 0 0:=⟨fun ad w=> by kernel_rfl⟩
instance Eb:Fvl Tryz.prog 108 0 0 true 3:=Fvl.of Tryz.underlying108 rfl rfl rc rfl
instance Fw:cq Tryz.prog 108 1 3:=⟨fun ad w=> by kernel_rfl⟩
instance Fl:Fvl Tryz.prog 108 1 3 false 1:=Fvl.of Tryz.underlying108 rfl rfl ew rfl
instance DN:cq Tryz.prog 108 2 4:=⟨fun ad w=> by kernel_rfl⟩
instance FA:Fvl Tryz.prog 108 2 4 false 1:=Fvl.of Tryz.underlying108 rfl rfl ew rfl
instance EG:cq Tryz.prog 109 0 0:=⟨fun ad w=> by kernel_rfl⟩
instance Fc:Fvl Tryz.prog 109 0 0 true 3:=Fvl.of Tryz.underlying109 rfl rfl rc rfl
instance Fq:cq Tryz.prog 109 1 3:=⟨fun ad w=> by kernel_rfl⟩
instance FU:Fvl Tryz.prog 109 1 3 false 1:=Fvl.of Tryz.underlying109 rfl rfl ew rfl
instance Dk:cq Tryz.prog 109 2 4:=⟨fun ad w=> by kernel_rfl⟩
instance DA:Fvl Tryz.prog 109 2 4 false 1:=Fvl.of Tryz.underlying109 rfl rfl ew rfl
instance En:cq Tryz.prog 110 0 0:=⟨fun ad w=> by kernel_rfl⟩
instance DF:Fvl Tryz.prog 110 0 0 true 5:=Fvl.of Tryz.underlying110 rfl rfl uJ rfl
instance Fy:cq Tryz.prog 110 1 5:=⟨fun ad w=> by kernel_rfl⟩
instance Fg:Fvl Tryz.prog 110 1 5 false 1:=Fvl.of Tryz.underlying110 rfl rfl ew rfl
instance Eh:cq Tryz.prog 110 2 6:=⟨fun ad w=> by kernel_rfl⟩
instance Dg:Fvl Tryz.prog 110 2 6 false 1:=Fvl.of Tryz.underlying110 rfl rfl ew rfl
instance FF:cq Tryz.prog 111 0 0:=⟨fun ad w=> by kernel_rfl⟩
instance EY:Fvl Tryz.prog 111 0 0 true 5:=Fvl.of Tryz.underlying111 rfl rfl uJ rfl
instance FB:cq Tryz.prog 111 1 5:=⟨fun ad w=> by kernel_rfl⟩
instance Ge:Fvl Tryz.prog 111 1 5 false 1:=Fvl.of Tryz.underlying111 rfl rfl ew rfl
instance EX:cq Tryz.prog 111 2 6:=⟨fun ad w=> by kernel_rfl⟩
instance EK:Fvl Tryz.prog 111 2 6 false 1:=Fvl.of Tryz.underlying111 rfl rfl ew rfl
instance DZ:cq Tryz.prog 114 0 0:=⟨fun ad w=> by kernel_rfl⟩
instance Du:Fvl Tryz.prog 114 0 0 true 3:=Fvl.of Tryz.underlying114 rfl rfl rc rfl
instance Es:cq Tryz.prog 114 1 3:=⟨fun ad w=> by kernel_rfl⟩
instance DX:Fvl Tryz.prog 114 1 3 false 1:=Fvl.of Tryz.underlying114 rfl rfl ew rfl
instance DW:cq Tryz.prog 114 2 4:=⟨fun ad w=> by kernel_rfl⟩
instance Dx:Fvl Tryz.prog 114 2 4 false 1:=Fvl.of Tryz.underlying114 rfl rfl ew rfl
instance EP:cq Tryz.prog 115 0 0:=⟨fun ad w=> by kernel_rfl⟩
instance Ea:Fvl Tryz.prog 115 0 0 true 3:=Fvl.of Tryz.underlying115 rfl rfl rc rfl
instance EU:cq Tryz.prog 115 1 3:=⟨fun ad w=> by kernel_rfl⟩
instance FC:Fvl Tryz.prog 115 1 3 false 1:=Fvl.of Tryz.underlying115 rfl rfl ew rfl
instance Fs:cq Tryz.prog 115 2 4:=⟨fun ad w=> by kernel_rfl⟩
instance DR:Fvl Tryz.prog 115 2 4 false 1:=Fvl.of Tryz.underlying115 rfl rfl ew rfl
instance FM:cq Tryz.prog 116 0 0:=⟨fun ad w=> by kernel_rfl⟩
instance EH:Fvl Tryz.prog 116 0 0 true 5:=Fvl.of Tryz.underlying116 rfl rfl zT rfl
instance Fd:cq Tryz.prog 116 1 5:=⟨fun ad w=> by kernel_rfl⟩
instance Eu:Fvl Tryz.prog 116 1 5 false 1:=Fvl.of Tryz.underlying116 rfl rfl ew rfl
instance DQ:cq Tryz.prog 116 2 6:=⟨fun ad w=> by kernel_rfl⟩
instance Gg:Fvl Tryz.prog 116 2 6 false 1:=Fvl.of Tryz.underlying116 rfl rfl ew rfl
instance FE:cq Tryz.prog 116 3 7:=⟨fun ad w=> by kernel_rfl⟩
instance Dv:Fvl Tryz.prog 116 3 7 false 1:=Fvl.of Tryz.underlying116 rfl rfl ew rfl
instance FS:cq Tryz.prog 116 4 8:=⟨fun ad w=> by kernel_rfl⟩
instance FG:Fvl Tryz.prog 116 4 8 false 1:=Fvl.of Tryz.underlying116 rfl rfl ew rfl
instance ET:cq Tryz.prog 117 0 0:=⟨fun ad w=> by kernel_rfl⟩
instance FN:Fvl Tryz.prog 117 0 0 true 5:=Fvl.of Tryz.underlying117 rfl rfl zT rfl
instance Ds:cq Tryz.prog 117 1 5:=⟨fun ad w=> by kernel_rfl⟩
instance Fp:Fvl Tryz.prog 117 1 5 false 1:=Fvl.of Tryz.underlying117 rfl rfl ew rfl
instance Ew:cq Tryz.prog 117 2 6:=⟨fun ad w=> by kernel_rfl⟩
instance DY:Fvl Tryz.prog 117 2 6 false 1:=Fvl.of Tryz.underlying117 rfl rfl ew rfl
instance EI:cq Tryz.prog 117 3 7:=⟨fun ad w=> by kernel_rfl⟩
instance Ej:Fvl Tryz.prog 117 3 7 false 1:=Fvl.of Tryz.underlying117 rfl rfl ew rfl
instance Gj:cq Tryz.prog 117 4 8:=⟨fun ad w=> by kernel_rfl⟩
instance FI:Fvl Tryz.prog 117 4 8 false 1:=Fvl.of Tryz.underlying117 rfl rfl ew rfl
instance DG:cq Tryz.prog 125 0 0:=⟨fun ad w=> by kernel_rfl⟩
instance Dn:Fvl Tryz.prog 125 0 0 false 1:=Fvl.of Tryz.underlying125 rfl rfl ew rfl
instance Dr:cq Tryz.prog 125 1 1:=⟨fun ad w=> by kernel_rfl⟩
instance EN:Fvl Tryz.prog 125 1 1 false 1:=Fvl.of Tryz.underlying125 rfl rfl ew rfl
instance FP:cq Tryz.prog 126 0 0:=⟨fun ad w=> by kernel_rfl⟩
instance Fh:Fvl Tryz.prog 126 0 0 false 1:=Fvl.of Tryz.underlying126 rfl rfl ew rfl
instance El:cq Tryz.prog 126 1 1:=⟨fun ad w=> by kernel_rfl⟩
instance DK:Fvl Tryz.prog 126 1 1 false 1:=Fvl.of Tryz.underlying126 rfl rfl ew rfl
instance FD:cq Tryz.prog 129 0 0:=⟨fun ad w=> by kernel_rfl⟩
instance Fe:Fvl Tryz.prog 129 0 0 false 1:=Fvl.of Tryz.underlying129 rfl rfl gX rfl
instance DD:cq Tryz.prog 129 1 1:=⟨fun ad w=> by kernel_rfl⟩
instance DU:Fvl Tryz.prog 129 1 1 false 1:=Fvl.of Tryz.underlying129 rfl rfl gX rfl
instance FQ:cq Tryz.prog 129 2 2:=⟨fun ad w=> by kernel_rfl⟩
instance Dw:Fvl Tryz.prog 129 2 2 false 1:=Fvl.of Tryz.underlying129 rfl rfl zW rfl
instance Fi:cq Tryz.prog 132 0 0:=⟨fun ad w=> by kernel_rfl⟩
instance DO:Fvl Tryz.prog 132 0 0 false 1:=Fvl.of Tryz.underlying132 rfl rfl gX rfl
instance Dt:cq Tryz.prog 132 1 1:=⟨fun ad w=> by kernel_rfl⟩
instance Fk:Fvl Tryz.prog 132 1 1 true 9:=Fvl.of Tryz.underlying132 rfl rfl CG rfl
instance Fa:cq Tryz.prog 143 0 0:=⟨fun ad w=> by kernel_rfl⟩
instance FW:Fvl Tryz.prog 143 0 0 true 3:=Fvl.of Tryz.underlying143 rfl rfl HJ rfl
instance Gc:cq Tryz.prog 143 1 3:=⟨fun ad w=> by kernel_rfl⟩
instance Et:Fvl Tryz.prog 143 1 3 false 1:=Fvl.of Tryz.underlying143 rfl rfl CU rfl
instance Ei:cq Tryz.prog 171 0 0:=⟨fun ad w=> by kernel_rfl⟩
instance Ft:Fvl Tryz.prog 171 0 0 true 43:=Fvl.of Tryz.underlying171 rfl rfl Jc rfl
instance Fx:cq Tryz.prog 171 1 43:=⟨fun ad w=> by kernel_rfl⟩
instance FL:Fvl Tryz.prog 171 1 43 true 10:=Fvl.of Tryz.underlying171 rfl rfl CV rfl
instance Dp:cq Tryz.prog 171 2 53:=⟨fun ad w=> by kernel_rfl⟩
instance Ey:Fvl Tryz.prog 171 2 53 false 1:=Fvl.of Tryz.underlying171 rfl rfl GK rfl
instance EO:cq Tryz.prog 171 3 54:=⟨fun ad w=> by kernel_rfl⟩
instance Ef:Fvl Tryz.prog 171 3 54 true 5:=Fvl.of Tryz.underlying171 rfl rfl Cm rfl
instance Ec:cq Tryz.prog 171 4 59:=⟨fun ad w=> by kernel_rfl⟩
instance EL:Fvl Tryz.prog 171 4 59 false 1:=Fvl.of Tryz.underlying171 rfl rfl gX rfl
instance Fj:cq Tryz.prog 171 5 60:=⟨fun ad w=> by kernel_rfl⟩
instance FX:Fvl Tryz.prog 171 5 60 false 1:=Fvl.of Tryz.underlying171 rfl rfl ew rfl
instance DB:cq Tryz.prog 171 6 61:=⟨fun ad w=> by kernel_rfl⟩
instance EJ:Fvl Tryz.prog 171 6 61 false 1:=Fvl.of Tryz.underlying171 rfl rfl ew rfl
instance DV:cq Tryz.prog 171 7 62:=⟨fun ad w=> by kernel_rfl⟩
instance Er:Fvl Tryz.prog 171 7 62 false 1:=Fvl.of Tryz.underlying171 rfl rfl ew rfl
instance DH:cq Tryz.prog 171 8 63:=⟨fun ad w=> by kernel_rfl⟩
instance DC:Fvl Tryz.prog 171 8 63 false 1:=Fvl.of Tryz.underlying171 rfl rfl zW rfl
instance EZ:cq Tryz.prog 192 0 0:=⟨fun ad w=> by kernel_rfl⟩
instance EQ:Fvl Tryz.prog 192 0 0 false 1:=Fvl.of Tryz.underlying192 rfl rfl ew rfl
instance FV:cq Tryz.prog 192 1 1:=⟨fun ad w=> by kernel_rfl⟩
instance DM:Fvl Tryz.prog 192 1 1 false 1:=Fvl.of Tryz.underlying192 rfl rfl ew rfl
instance FO:cq Tryz.prog 192 2 2:=⟨fun ad w=> by kernel_rfl⟩
instance Ep:Fvl Tryz.prog 192 2 2 false 1:=Fvl.of Tryz.underlying192 rfl rfl ew rfl
instance EE:cq Tryz.prog 192 3 3:=⟨fun ad w=> by kernel_rfl⟩
instance FR:Fvl Tryz.prog 192 3 3 false 1:=Fvl.of Tryz.underlying192 rfl rfl ew rfl
instance Eo:cq Tryz.prog 196 0 0:=⟨fun ad w=> by kernel_rfl⟩
instance ED:Fvl Tryz.prog 196 0 0 true 5:=Fvl.of Tryz.underlying196 rfl rfl uJ rfl
instance FH:cq Tryz.prog 196 1 5:=⟨fun ad w=> by kernel_rfl⟩
instance FZ:Fvl Tryz.prog 196 1 5 false 1:=Fvl.of Tryz.underlying196 rfl rfl ew rfl
instance DE:cq Tryz.prog 222 0 0:=⟨fun ad w=> by kernel_rfl⟩
instance Ga:Fvl Tryz.prog 222 0 0 false 1:=Fvl.of Tryz.underlying222 rfl rfl CM rfl
instance Em:cq Tryz.prog 222 1 1:=⟨fun ad w=> by kernel_rfl⟩
instance Gb:Fvl Tryz.prog 222 1 1 false 1:=Fvl.of Tryz.underlying222 rfl rfl ew rfl
instance Dl:cq Tryz.prog 222 2 2:=⟨fun ad w=> by kernel_rfl⟩
instance Ff:Fvl Tryz.prog 222 2 2 false 1:=Fvl.of Tryz.underlying222 rfl rfl ew rfl
instance Dh:cq Tryz.prog 222 3 3:=⟨fun ad w=> by kernel_rfl⟩
instance Ev:Fvl Tryz.prog 222 3 3 false 1:=Fvl.of Tryz.underlying222 rfl rfl Je rfl
instance FY:cq Tryz.prog 222 4 4:=⟨fun ad w=> by kernel_rfl⟩
instance FJ:Fvl Tryz.prog 222 4 4 false 1:=Fvl.of Tryz.underlying222 rfl rfl AY rfl
instance Fo:cq Tryz.prog 225 0 0:=⟨fun ad w=> by kernel_rfl⟩
instance DP:Fvl Tryz.prog 225 0 0 false 1:=Fvl.of Tryz.underlying225 rfl rfl ew rfl
instance EV:cq Tryz.prog 225 1 1:=⟨fun ad w=> by kernel_rfl⟩
instance Dm:Fvl Tryz.prog 225 1 1 false 1:=Fvl.of Tryz.underlying225 rfl rfl ew rfl
instance FT:cq Tryz.prog 225 2 2:=⟨fun ad w=> by kernel_rfl⟩
instance DT:Fvl Tryz.prog 225 2 2 false 1:=Fvl.of Tryz.underlying225 rfl rfl Lp rfl
instance ES:cq Tryz.prog 225 3 3:=⟨fun ad w=> by kernel_rfl⟩
instance Gi:Fvl Tryz.prog 225 3 3 false 1:=Fvl.of Tryz.underlying225 rfl rfl ew rfl
instance QB:bW Tryz.prog 3:=⟨fun args w=> by kernel_rfl⟩
instance QD:bW Tryz.prog 4:=⟨fun args w=> by kernel_rfl⟩
instance Oq:bW Tryz.prog 20:=⟨fun args w=> by kernel_rfl⟩
instance Ow:bW Tryz.prog 21:=⟨fun args w=> by kernel_rfl⟩
instance Oh:bW Tryz.prog 22:=⟨fun args w=> by kernel_rfl⟩
instance NZ:bW Tryz.prog 23:=⟨fun args w=> by kernel_rfl⟩
instance Qi:bW Tryz.prog 24:=⟨fun args w=> by kernel_rfl⟩
instance Oz:bW Tryz.prog 25:=⟨fun args w=> by kernel_rfl⟩
instance OX:bW Tryz.prog 26:=⟨fun args w=> by kernel_rfl⟩
instance Ou:bW Tryz.prog 27:=⟨fun args w=> by kernel_rfl⟩
instance Qq:bW Tryz.prog 28:=⟨fun args w=> by kernel_rfl⟩
instance Pi:bW Tryz.prog 29:=⟨fun args w=> by kernel_rfl⟩
instance Pr:bW Tryz.prog 30:=⟨fun args w=> by kernel_rfl⟩
instance Om:bW Tryz.prog 31:=⟨fun args w=> by kernel_rfl⟩
instance PQ:bW Tryz.prog 32:=⟨fun args w=> by kernel_rfl⟩
instance Oi:bW Tryz.prog 33:=⟨fun args w=> by kernel_rfl⟩
instance PP:bW Tryz.prog 34:=⟨fun args w=> by kernel_rfl⟩
instance Qs:bW Tryz.prog 35:=⟨fun args w=> by kernel_rfl⟩
instance Pd:bW Tryz.prog 38:=⟨fun args w=> by kernel_rfl⟩
instance Qa:bW Tryz.prog 39:=⟨fun args w=> by kernel_rfl⟩
instance OU:bW Tryz.prog 44:=⟨fun args w=> by kernel_rfl⟩
instance OK:bW Tryz.prog 47:=⟨fun args w=> by kernel_rfl⟩
instance Py:bW Tryz.prog 48:=⟨fun args w=> by kernel_rfl⟩
instance Og:bW Tryz.prog 56:=⟨fun args w=> by kernel_rfl⟩
instance Pc:bW Tryz.prog 57:=⟨fun args w=> by kernel_rfl⟩
instance OM:bW Tryz.prog 58:=⟨fun args w=> by kernel_rfl⟩
instance Qm:bW Tryz.prog 59:=⟨fun args w=> by kernel_rfl⟩
instance PZ:bW Tryz.prog 60:=⟨fun args w=> by kernel_rfl⟩
instance PM:bW Tryz.prog 61:=⟨fun args w=> by kernel_rfl⟩
instance Qh:bW Tryz.prog 62:=⟨fun args w=> by kernel_rfl⟩
instance Qj:bW Tryz.prog 63:=⟨fun args w=> by kernel_rfl⟩
instance Ot:bW Tryz.prog 64:=⟨fun args w=> by kernel_rfl⟩
instance PR:bW Tryz.prog 65:=⟨fun args w=> by kernel_rfl⟩
instance Oa:bW Tryz.prog 66:=⟨fun args w=> by kernel_rfl⟩
instance Oe:bW Tryz.prog 68:=⟨fun args w=> by kernel_rfl⟩
instance OV:bW Tryz.prog 69:=⟨fun args w=> by kernel_rfl⟩
instance PN:bW Tryz.prog 70:=⟨fun args w=> by kernel_rfl⟩
instance OF:bW Tryz.prog 71:=⟨fun args w=> by kernel_rfl⟩
instance PC:bW Tryz.prog 72:=⟨fun args w=> by kernel_rfl⟩
instance OQ:bW Tryz.prog 73:=⟨fun args w=> by kernel_rfl⟩
instance Oy:bW Tryz.prog 74:=⟨fun args w=> by kernel_rfl⟩
instance Ph:bW Tryz.prog 75:=⟨fun args w=> by kernel_rfl⟩
instance PJ:bW Tryz.prog 77:=⟨fun args w=> by kernel_rfl⟩
instance Pe:bW Tryz.prog 78:=⟨fun args w=> by kernel_rfl⟩
instance OG:bW Tryz.prog 79:=⟨fun args w=> by kernel_rfl⟩
instance Pq:bW Tryz.prog 80:=⟨fun args w=> by kernel_rfl⟩
instance PU:bW Tryz.prog 81:=⟨fun args w=> by kernel_rfl⟩
instance Pm:bW Tryz.prog 82:=⟨fun args w=> by kernel_rfl⟩
instance PW:bW Tryz.prog 83:=⟨fun args w=> by kernel_rfl⟩
instance OH:bW Tryz.prog 86:=⟨fun args w=> by kernel_rfl⟩
instance Po:bW Tryz.prog 87:=⟨fun args w=> by kernel_rfl⟩
instance Qw:bW Tryz.prog 88:=⟨fun args w=> by kernel_rfl⟩
instance OY:bW Tryz.prog 89:=⟨fun args w=> by kernel_rfl⟩
instance Pf:bW Tryz.prog 90:=⟨fun args w=> by kernel_rfl⟩
instance NY:bW Tryz.prog 91:=⟨fun args w=> by kernel_rfl⟩
instance Qn:bW Tryz.prog 92:=⟨fun args w=> by kernel_rfl⟩
instance OB:bW Tryz.prog 93:=⟨fun args w=> by kernel_rfl⟩
instance NX:bW Tryz.prog 94:=⟨fun args w=> by kernel_rfl⟩
instance Qe:bW Tryz.prog 95:=⟨fun args w=> by kernel_rfl⟩
instance Oj:bW Tryz.prog 96:=⟨fun args w=> by kernel_rfl⟩
instance Qo:bW Tryz.prog 97:=⟨fun args w=> by kernel_rfl⟩
instance Lc:bW Tryz.prog 102:=⟨fun args w=> by kernel_rfl⟩
instance MU:bW Tryz.prog 103:=⟨fun args w=> by kernel_rfl⟩
instance NF:bW Tryz.prog 105:=⟨fun args w=> by kernel_rfl⟩
instance NA:bW Tryz.prog 106:=⟨fun args w=> by kernel_rfl⟩
instance LQ:bW Tryz.prog 107:=⟨fun args w=> by kernel_rfl⟩
instance LZ:bW Tryz.prog 108:=⟨fun args w=> by kernel_rfl⟩
instance Ng:bW Tryz.prog 109:=⟨fun args w=> by kernel_rfl⟩
instance MA:bW Tryz.prog 110:=⟨fun args w=> by kernel_rfl⟩
instance Kg:bW Tryz.prog 111:=⟨fun args w=> by kernel_rfl⟩
instance MY:bW Tryz.prog 112:=⟨fun args w=> by kernel_rfl⟩
instance Lw:bW Tryz.prog 113:=⟨fun args w=> by kernel_rfl⟩
instance Mi:bW Tryz.prog 114:=⟨fun args w=> by kernel_rfl⟩
instance Mc:bW Tryz.prog 115:=⟨fun args w=> by kernel_rfl⟩
instance Nn:bW Tryz.prog 116:=⟨fun args w=> by kernel_rfl⟩
instance KX:bW Tryz.prog 117:=⟨fun args w=> by kernel_rfl⟩
instance MI:bW Tryz.prog 118:=⟨fun args w=> by kernel_rfl⟩
instance MC:bW Tryz.prog 119:=⟨fun args w=> by kernel_rfl⟩
instance MO:bW Tryz.prog 120:=⟨fun args w=> by kernel_rfl⟩
instance JZ:bW Tryz.prog 121:=⟨fun args w=> by kernel_rfl⟩
instance MQ:bW Tryz.prog 122:=⟨fun args w=> by kernel_rfl⟩
instance Ny:bW Tryz.prog 123:=⟨fun args w=> by kernel_rfl⟩
instance KV:bW Tryz.prog 124:=⟨fun args w=> by kernel_rfl⟩
instance JW:bW Tryz.prog 125:=⟨fun args w=> by kernel_rfl⟩
instance LK:bW Tryz.prog 126:=⟨fun args w=> by kernel_rfl⟩
instance Lg:bW Tryz.prog 127:=⟨fun args w=> by kernel_rfl⟩
instance LU:bW Tryz.prog 128:=⟨fun args w=> by kernel_rfl⟩
instance KI:bW Tryz.prog 129:=⟨fun args w=> by kernel_rfl⟩
instance Kq:bW Tryz.prog 130:=⟨fun args w=> by kernel_rfl⟩
instance Ml:bW Tryz.prog 131:=⟨fun args w=> by kernel_rfl⟩
instance Ko:bW Tryz.prog 132:=⟨fun args w=> by kernel_rfl⟩
instance Km:bW Tryz.prog 133:=⟨fun args w=> by kernel_rfl⟩
instance Kn:bW Tryz.prog 134:=⟨fun args w=> by kernel_rfl⟩
instance Nk:bW Tryz.prog 135:=⟨fun args w=> by kernel_rfl⟩
instance NM:bW Tryz.prog 136:=⟨fun args w=> by kernel_rfl⟩
instance LV:bW Tryz.prog 137:=⟨fun args w=> by kernel_rfl⟩
instance MM:bW Tryz.prog 138:=⟨fun args w=> by kernel_rfl⟩
instance MG:bW Tryz.prog 139:=⟨fun args w=> by kernel_rfl⟩
instance LB:bW Tryz.prog 140:=⟨fun args w=> by kernel_rfl⟩
instance Mz:bW Tryz.prog 141:=⟨fun args w=> by kernel_rfl⟩
instance Kl:bW Tryz.prog 142:=⟨fun args w=> by kernel_rfl⟩
instance Kb:bW Tryz.prog 143:=⟨fun args w=> by kernel_rfl⟩
instance NS:bW Tryz.prog 144:=⟨fun args w=> by kernel_rfl⟩
instance Kp:bW Tryz.prog 145:=⟨fun args w=> by kernel_rfl⟩
instance Lx:bW Tryz.prog 146:=⟨fun args w=> by kernel_rfl⟩
instance Kf:bW Tryz.prog 147:=⟨fun args w=> by kernel_rfl⟩
instance Me:bW Tryz.prog 148:=⟨fun args w=> by kernel_rfl⟩
instance Nq:bW Tryz.prog 149:=⟨fun args w=> by kernel_rfl⟩
instance NE:bW Tryz.prog 150:=⟨fun args w=> by kernel_rfl⟩
instance No:bW Tryz.prog 151:=⟨fun args w=> by kernel_rfl⟩
instance Mp:bW Tryz.prog 152:=⟨fun args w=> by kernel_rfl⟩
instance MP:bW Tryz.prog 153:=⟨fun args w=> by kernel_rfl⟩
instance KD:bW Tryz.prog 154:=⟨fun args w=> by kernel_rfl⟩
instance JY:bW Tryz.prog 155:=⟨fun args w=> by kernel_rfl⟩
instance LI:bW Tryz.prog 156:=⟨fun args w=> by kernel_rfl⟩
instance Np:bW Tryz.prog 157:=⟨fun args w=> by kernel_rfl⟩
instance Mo:bW Tryz.prog 158:=⟨fun args w=> by kernel_rfl⟩
instance MH:bW Tryz.prog 159:=⟨fun args w=> by kernel_rfl⟩
instance NP:bW Tryz.prog 160:=⟨fun args w=> by kernel_rfl⟩
instance NR:bW Tryz.prog 161:=⟨fun args w=> by kernel_rfl⟩
instance Kt:bW Tryz.prog 162:=⟨fun args w=> by kernel_rfl⟩
instance Na:bW Tryz.prog 163:=⟨fun args w=> by kernel_rfl⟩
instance KK:bW Tryz.prog 164:=⟨fun args w=> by kernel_rfl⟩
instance KA:bW Tryz.prog 165:=⟨fun args w=> by kernel_rfl⟩
instance LO:bW Tryz.prog 166:=⟨fun args w=> by kernel_rfl⟩
instance Li:bW Tryz.prog 167:=⟨fun args w=> by kernel_rfl⟩
instance NB:bW Tryz.prog 169:=⟨fun args w=> by kernel_rfl⟩
instance Nj:bW Tryz.prog 170:=⟨fun args w=> by kernel_rfl⟩
instance KU:bW Tryz.prog 171:=⟨fun args w=> by kernel_rfl⟩
instance KH:bW Tryz.prog 173:=⟨fun args w=> by kernel_rfl⟩
instance KG:bW Tryz.prog 176:=⟨fun args w=> by kernel_rfl⟩
instance Kd:bW Tryz.prog 177:=⟨fun args w=> by kernel_rfl⟩
instance Nv:bW Tryz.prog 183:=⟨fun args w=> by kernel_rfl⟩
instance MB:bW Tryz.prog 184:=⟨fun args w=> by kernel_rfl⟩
instance Ku:bW Tryz.prog 185:=⟨fun args w=> by kernel_rfl⟩
instance KR:bW Tryz.prog 186:=⟨fun args w=> by kernel_rfl⟩
instance KP:bW Tryz.prog 187:=⟨fun args w=> by kernel_rfl⟩
instance KY:bW Tryz.prog 188:=⟨fun args w=> by kernel_rfl⟩
instance Kk:bW Tryz.prog 189:=⟨fun args w=> by kernel_rfl⟩
instance JQ:bW Tryz.prog 190:=⟨fun args w=> by kernel_rfl⟩
instance LT:bW Tryz.prog 191:=⟨fun args w=> by kernel_rfl⟩
instance JN:bW Tryz.prog 192:=⟨fun args w=> by kernel_rfl⟩
instance KW:bW Tryz.prog 194:=⟨fun args w=> by kernel_rfl⟩
instance JR:bW Tryz.prog 195:=⟨fun args w=> by kernel_rfl⟩
instance Lj:bW Tryz.prog 196:=⟨fun args w=> by kernel_rfl⟩
instance JU:bW Tryz.prog 197:=⟨fun args w=> by kernel_rfl⟩
instance LD:bW Tryz.prog 198:=⟨fun args w=> by kernel_rfl⟩
instance Nl:bW Tryz.prog 199:=⟨fun args w=> by kernel_rfl⟩
instance Nm:bW Tryz.prog 200:=⟨fun args w=> by kernel_rfl⟩
instance MF:bW Tryz.prog 201:=⟨fun args w=> by kernel_rfl⟩
instance LE:bW Tryz.prog 202:=⟨fun args w=> by kernel_rfl⟩
instance Nt:bW Tryz.prog 203:=⟨fun args w=> by kernel_rfl⟩
instance Mw:bW Tryz.prog 204:=⟨fun args w=> by kernel_rfl⟩
instance NH:bW Tryz.prog 205:=⟨fun args w=> by kernel_rfl⟩
instance Mh:bW Tryz.prog 207:=⟨fun args w=> by kernel_rfl⟩
instance MZ:bW Tryz.prog 211:=⟨fun args w=> by kernel_rfl⟩
instance Kw:bW Tryz.prog 212:=⟨fun args w=> by kernel_rfl⟩
instance Nz:bW Tryz.prog 213:=⟨fun args w=> by kernel_rfl⟩
instance KE:bW Tryz.prog 214:=⟨fun args w=> by kernel_rfl⟩
instance JO:bW Tryz.prog 215:=⟨fun args w=> by kernel_rfl⟩
instance Mf:bW Tryz.prog 216:=⟨fun args w=> by kernel_rfl⟩
instance Ls:bW Tryz.prog 217:=⟨fun args w=> by kernel_rfl⟩
instance JT:bW Tryz.prog 218:=⟨fun args w=> by kernel_rfl⟩
instance Lr:bW Tryz.prog 221:=⟨fun args w=> by kernel_rfl⟩
instance Kh:bW Tryz.prog 222:=⟨fun args w=> by kernel_rfl⟩
instance ME:bW Tryz.prog 223:=⟨fun args w=> by kernel_rfl⟩
instance Lb:bW Tryz.prog 224:=⟨fun args w=> by kernel_rfl⟩
instance NL:bW Tryz.prog 225:=⟨fun args w=> by kernel_rfl⟩
instance Lo:bW Tryz.prog 226:=⟨fun args w=> by kernel_rfl⟩
instance Mm:bW Tryz.prog 227:=⟨fun args w=> by kernel_rfl⟩
instance ML:bW Tryz.prog 235:=⟨fun args w=> by kernel_rfl⟩
instance Nw:bW Tryz.prog 236:=⟨fun args w=> by kernel_rfl⟩
instance LS:bW Tryz.prog 237:=⟨fun args w=> by kernel_rfl⟩
instance NC:bW Tryz.prog 240:=⟨fun args w=> by kernel_rfl⟩
end Go.Proofs.YtmjnackchaahbaaGreat

namespace Go.Proofs.YtmjnackchaahbaaGreat

instance OO:Bld Tryz.prog 24 Ez (fun i=> some (i*1,1)):=Bld.array (bytes:=320) (.agg (Ez).toArray) Tryz.underlying24 ae rfl (by simp [Value.oneCell']) ae
instance OZ:Bld Tryz.prog 25 Cg (fun i=> ([(0,1),(1,40),(41,1),(42,1)]:List (Nat×Nat))[i]?):=Bld.struct (bytes:=360) (.agg (Cg).toArray) [(0,1),(1,40),(41,1),(42,1)] Tryz.underlying25 ae rfl (by simp [Value.oneCell']) (fun w=> by kernel_rfl)
instance Qk:Bld Tryz.prog 26 Cg (fun i=> ([(0,1),(1,40),(41,1),(42,1)]:List (Nat×Nat))[i]?):=Bld.struct (bytes:=360) (.agg (Cg).toArray) [(0,1),(1,40),(41,1),(42,1)] Tryz.underlying26 ae rfl (by simp [Value.oneCell']) (fun w=> by kernel_rfl)
instance Qc:Bld Tryz.prog 30 sd (fun i=> some (i*1,1)):=Bld.array (bytes:=72) (.agg (sd).toArray) Tryz.underlying30 ae rfl (by simp [Value.oneCell']) ae
instance OP:Bld Tryz.prog 33 zQ (fun i=> ([(0,1),(1,1),(2,1),(3,1),(4,1)]:List (Nat×Nat))[i]?):=Bld.struct (bytes:=88) (.agg (zQ).toArray) [(0,1),(1,1),(2,1),(3,1),(4,1)] Tryz.underlying33 ae rfl (by simp [Value.oneCell']) (fun w=> by kernel_rfl)
instance PX:Bld Tryz.prog 34 zQ (fun i=> ([(0,1),(1,1),(2,1),(3,1),(4,1)]:List (Nat×Nat))[i]?):=Bld.struct (bytes:=88) (.agg (zQ).toArray) [(0,1),(1,1),(2,1),(3,1),(4,1)] Tryz.underlying34 ae rfl (by simp [Value.oneCell']) (fun w=> by kernel_rfl)
instance PY:Bld Tryz.prog 38 Ab (fun i=> ([(0,1),(1,1),(2,1),(3,1),(4,1),(5,1)]:List (Nat×Nat))[i]?):=Bld.struct (bytes:=112) (.agg (Ab).toArray) [(0,1),(1,1),(2,1),(3,1),(4,1),(5,1)] Tryz.underlying38 ae rfl (by simp [Value.oneCell']) (fun w=> by kernel_rfl)
instance Ok:Bld Tryz.prog 39 Ab (fun i=> ([(0,1),(1,1),(2,1),(3,1),(4,1),(5,1)]:List (Nat×Nat))[i]?):=Bld.struct (bytes:=112) (.agg (Ab).toArray) [(0,1),(1,1),(2,1),(3,1),(4,1),(5,1)] Tryz.underlying39 ae rfl (by simp [Value.oneCell']) (fun w=> by kernel_rfl)
instance OC:Bld Tryz.prog 44 [.int .i64 0, .int .i64 0] (fun i=> some (i*1,1)):=Bld.array (bytes:=16) (.agg #[.int .i64 0, .int .i64 0]) Tryz.underlying44 ae rfl (by simp [Value.oneCell']) ae
instance Oc:Bld Tryz.prog 47 [.int .i64 0, .int .i64 0] (fun i=> ([(0,1),(1,1)]:List (Nat×Nat))[i]?):=Bld.struct (bytes:=16) (.agg #[.int .i64 0, .int .i64 0]) [(0,1),(1,1)] Tryz.underlying47 ae rfl (by simp [Value.oneCell']) (fun w=> by kernel_rfl)
instance OT:Bld Tryz.prog 48 [.int .i64 0, .int .i64 0] (fun i=> ([(0,1),(1,1)]:List (Nat×Nat))[i]?):=Bld.struct (bytes:=16) (.agg #[.int .i64 0, .int .i64 0]) [(0,1),(1,1)] Tryz.underlying48 ae rfl (by simp [Value.oneCell']) (fun w=> by kernel_rfl)
instance PA:Bld Tryz.prog 56 lP (fun i=> ([(0,1),(1,1),(2,1),(3,1),(4,1)]:List (Nat×Nat))[i]?):=Bld.struct (bytes:=40) (.agg (lP).toArray) [(0,1),(1,1),(2,1),(3,1),(4,1)] Tryz.underlying56 ae rfl (by simp [Value.oneCell']) (fun w=> by kernel_rfl)
instance Qb:Bld Tryz.prog 57 lP (fun i=> ([(0,1),(1,1),(2,1),(3,1),(4,1)]:List (Nat×Nat))[i]?):=Bld.struct (bytes:=40) (.agg (lP).toArray) [(0,1),(1,1),(2,1),(3,1),(4,1)] Tryz.underlying57 ae rfl (by simp [Value.oneCell']) (fun w=> by kernel_rfl)
instance PH:Bld Tryz.prog 63 Cl (fun i=> ([(0,1),(1,1),(2,1)]:List (Nat×Nat))[i]?):=Bld.struct (bytes:=72) (.agg (Cl).toArray) [(0,1),(1,1),(2,1)] Tryz.underlying63 ae rfl (by simp [Value.oneCell']) (fun w=> by kernel_rfl)
instance Pk:Bld Tryz.prog 64 Cl (fun i=> ([(0,1),(1,1),(2,1)]:List (Nat×Nat))[i]?):=Bld.struct (bytes:=72) (.agg (Cl).toArray) [(0,1),(1,1),(2,1)] Tryz.underlying64 ae rfl (by simp [Value.oneCell']) (fun w=> by kernel_rfl)
instance Od:Bld Tryz.prog 70 zU (fun i=> ([(0,1),(1,1),(2,1),(3,1)]:List (Nat×Nat))[i]?):=Bld.struct (bytes:=56) (.agg (zU).toArray) [(0,1),(1,1),(2,1),(3,1)] Tryz.underlying70 ae rfl (by simp [Value.oneCell']) (fun w=> by kernel_rfl)
instance Ol:Bld Tryz.prog 71 zU (fun i=> ([(0,1),(1,1),(2,1),(3,1)]:List (Nat×Nat))[i]?):=Bld.struct (bytes:=56) (.agg (zU).toArray) [(0,1),(1,1),(2,1),(3,1)] Tryz.underlying71 ae rfl (by simp [Value.oneCell']) (fun w=> by kernel_rfl)
instance PF:Bld Tryz.prog 72 Ak (fun i=> ([(0,1),(1,4)]:List (Nat×Nat))[i]?):=Bld.struct (bytes:=64) (.agg (Ak).toArray) [(0,1),(1,4)] Tryz.underlying72 ae rfl (by simp [Value.oneCell']) (fun w=> by kernel_rfl)
instance Pu:Bld Tryz.prog 73 Ak (fun i=> ([(0,1),(1,4)]:List (Nat×Nat))[i]?):=Bld.struct (bytes:=64) (.agg (Ak).toArray) [(0,1),(1,4)] Tryz.underlying73 ae rfl (by simp [Value.oneCell']) (fun w=> by kernel_rfl)
instance Qd:Bld Tryz.prog 79 [.slice none 0 0, .slice none 0 0] (fun i=> ([(0,1),(1,1)]:List (Nat×Nat))[i]?):=Bld.struct (bytes:=48) (.agg #[.slice none 0 0, .slice none 0 0]) [(0,1),(1,1)] Tryz.underlying79 ae rfl (by simp [Value.oneCell']) (fun w=> by kernel_rfl)
instance Pw:Bld Tryz.prog 80 [.slice none 0 0, .slice none 0 0] (fun i=> ([(0,1),(1,1)]:List (Nat×Nat))[i]?):=Bld.struct (bytes:=48) (.agg #[.slice none 0 0, .slice none 0 0]) [(0,1),(1,1)] Tryz.underlying80 ae rfl (by simp [Value.oneCell']) (fun w=> by kernel_rfl)
instance PT:Bld Tryz.prog 81 Gd (fun i=> some (i*1,1)):=Bld.array (bytes:=328) (.agg (Gd).toArray) Tryz.underlying81 ae rfl (by simp [Value.oneCell']) ae
instance Pl:Bld Tryz.prog 82 ue (fun i=> ([(0,1),(1,1),(2,1),(3,1),(4,2),(6,1),(7,1),(8,41),(49,1),(50,1),(51,1)]:List (Nat×Nat))[i]?):=Bld.struct (bytes:=480) (.agg (ue).toArray) [(0,1),(1,1),(2,1),(3,1),(4,2),(6,1),(7,1),(8,41),(49,1),(50,1),(51,1)] Tryz.underlying82 ae rfl (by simp [Value.oneCell']) (fun w=> by kernel_rfl)
instance OE:Bld Tryz.prog 83 ue (fun i=> ([(0,1),(1,1),(2,1),(3,1),(4,2),(6,1),(7,1),(8,41),(49,1),(50,1),(51,1)]:List (Nat×Nat))[i]?):=Bld.struct (bytes:=480) (.agg (ue).toArray) [(0,1),(1,1),(2,1),(3,1),(4,2),(6,1),(7,1),(8,41),(49,1),(50,1),(51,1)] Tryz.underlying83 ae rfl (by simp [Value.oneCell']) (fun w=> by kernel_rfl)
instance Ql:Bld Tryz.prog 86 tG (fun i=> ([(0,1),(1,1),(2,9),(11,1),(12,1),(13,1),(14,1)]:List (Nat×Nat))[i]?):=Bld.struct (bytes:=152) (.agg (tG).toArray) [(0,1),(1,1),(2,9),(11,1),(12,1),(13,1),(14,1)] Tryz.underlying86 ae rfl (by simp [Value.oneCell']) (fun w=> by kernel_rfl)
instance Qz:Bld Tryz.prog 87 tG (fun i=> ([(0,1),(1,1),(2,9),(11,1),(12,1),(13,1),(14,1)]:List (Nat×Nat))[i]?):=Bld.struct (bytes:=152) (.agg (tG).toArray) [(0,1),(1,1),(2,9),(11,1),(12,1),(13,1),(14,1)] Tryz.underlying87 ae rfl (by simp [Value.oneCell']) (fun w=> by kernel_rfl)
instance Pt:Bld Tryz.prog 90 tW (fun i=> ([(0,1),(1,1),(2,1)]:List (Nat×Nat))[i]?):=Bld.struct (bytes:=24) (.agg (tW).toArray) [(0,1),(1,1),(2,1)] Tryz.underlying90 ae rfl (by simp [Value.oneCell']) (fun w=> by kernel_rfl)
instance OR:Bld Tryz.prog 91 tW (fun i=> ([(0,1),(1,1),(2,1)]:List (Nat×Nat))[i]?):=Bld.struct (bytes:=24) (.agg (tW).toArray) [(0,1),(1,1),(2,1)] Tryz.underlying91 ae rfl (by simp [Value.oneCell']) (fun w=> by kernel_rfl)
instance PL:Bld Tryz.prog 92 xT (fun i=> ([(0,52),(52,1),(53,1),(54,1),(55,1),(56,1),(57,3),(60,6),(66,1)]:List (Nat×Nat))[i]?):=Bld.struct (bytes:=728) (.agg (xT).toArray) [(0,52),(52,1),(53,1),(54,1),(55,1),(56,1),(57,3),(60,6),(66,1)] Tryz.underlying92 ae rfl (by simp [Value.oneCell']) (fun w=> by kernel_rfl)
instance PB:Bld Tryz.prog 93 xT (fun i=> ([(0,52),(52,1),(53,1),(54,1),(55,1),(56,1),(57,3),(60,6),(66,1)]:List (Nat×Nat))[i]?):=Bld.struct (bytes:=728) (.agg (xT).toArray) [(0,52),(52,1),(53,1),(54,1),(55,1),(56,1),(57,3),(60,6),(66,1)] Tryz.underlying93 ae rfl (by simp [Value.oneCell']) (fun w=> by kernel_rfl)
instance OD:Bld Tryz.prog 95 tC (fun i=> ([(0,3),(3,1),(4,1),(5,1),(6,1),(7,5)]:List (Nat×Nat))[i]?):=Bld.struct (bytes:=176) (.agg (tC).toArray) [(0,3),(3,1),(4,1),(5,1),(6,1),(7,5)] Tryz.underlying95 ae rfl (by simp [Value.oneCell']) (fun w=> by kernel_rfl)
instance Ps:Bld Tryz.prog 96 tC (fun i=> ([(0,3),(3,1),(4,1),(5,1),(6,1),(7,5)]:List (Nat×Nat))[i]?):=Bld.struct (bytes:=176) (.agg (tC).toArray) [(0,3),(3,1),(4,1),(5,1),(6,1),(7,5)] Tryz.underlying96 ae rfl (by simp [Value.oneCell']) (fun w=> by kernel_rfl)
instance JP:Bld Tryz.prog 102 pQ (fun i=> ([(0,3),(3,1),(4,1)]:List (Nat×Nat))[i]?):=Bld.struct (bytes:=72) (.agg (pQ).toArray) [(0,3),(3,1),(4,1)] Tryz.underlying102 ae rfl (by simp [Value.oneCell']) (fun w=> by kernel_rfl)
instance NK:Bld Tryz.prog 103 pQ (fun i=> ([(0,3),(3,1),(4,1)]:List (Nat×Nat))[i]?):=Bld.struct (bytes:=72) (.agg (pQ).toArray) [(0,3),(3,1),(4,1)] Tryz.underlying103 ae rfl (by simp [Value.oneCell']) (fun w=> by kernel_rfl)
instance Nr:Bld Tryz.prog 108 lP (fun i=> ([(0,3),(3,1),(4,1)]:List (Nat×Nat))[i]?):=Bld.struct (bytes:=40) (.agg (lP).toArray) [(0,3),(3,1),(4,1)] Tryz.underlying108 ae rfl (by simp [Value.oneCell']) (fun w=> by kernel_rfl)
instance My:Bld Tryz.prog 109 lP (fun i=> ([(0,3),(3,1),(4,1)]:List (Nat×Nat))[i]?):=Bld.struct (bytes:=40) (.agg (lP).toArray) [(0,3),(3,1),(4,1)] Tryz.underlying109 ae rfl (by simp [Value.oneCell']) (fun w=> by kernel_rfl)
instance Nh:Bld Tryz.prog 110 nP (fun i=> ([(0,5),(5,1),(6,1)]:List (Nat×Nat))[i]?):=Bld.struct (bytes:=56) (.agg (nP).toArray) [(0,5),(5,1),(6,1)] Tryz.underlying110 ae rfl (by simp [Value.oneCell']) (fun w=> by kernel_rfl)
instance Lf:Bld Tryz.prog 111 nP (fun i=> ([(0,5),(5,1),(6,1)]:List (Nat×Nat))[i]?):=Bld.struct (bytes:=56) (.agg (nP).toArray) [(0,5),(5,1),(6,1)] Tryz.underlying111 ae rfl (by simp [Value.oneCell']) (fun w=> by kernel_rfl)
instance LM:Bld Tryz.prog 114 lP (fun i=> ([(0,3),(3,1),(4,1)]:List (Nat×Nat))[i]?):=Bld.struct (bytes:=40) (.agg (lP).toArray) [(0,3),(3,1),(4,1)] Tryz.underlying114 ae rfl (by simp [Value.oneCell']) (fun w=> by kernel_rfl)
instance KB:Bld Tryz.prog 115 lP (fun i=> ([(0,3),(3,1),(4,1)]:List (Nat×Nat))[i]?):=Bld.struct (bytes:=40) (.agg (lP).toArray) [(0,3),(3,1),(4,1)] Tryz.underlying115 ae rfl (by simp [Value.oneCell']) (fun w=> by kernel_rfl)
instance Mn:Bld Tryz.prog 116 sd (fun i=> ([(0,5),(5,1),(6,1),(7,1),(8,1)]:List (Nat×Nat))[i]?):=Bld.struct (bytes:=72) (.agg (sd).toArray) [(0,5),(5,1),(6,1),(7,1),(8,1)] Tryz.underlying116 ae rfl (by simp [Value.oneCell']) (fun w=> by kernel_rfl)
instance Nx:Bld Tryz.prog 117 sd (fun i=> ([(0,5),(5,1),(6,1),(7,1),(8,1)]:List (Nat×Nat))[i]?):=Bld.struct (bytes:=72) (.agg (sd).toArray) [(0,5),(5,1),(6,1),(7,1),(8,1)] Tryz.underlying117 ae rfl (by simp [Value.oneCell']) (fun w=> by kernel_rfl)
instance KJ:Bld Tryz.prog 125 [.int .i64 0, .int .i64 0] (fun i=> ([(0,1),(1,1)]:List (Nat×Nat))[i]?):=Bld.struct (bytes:=16) (.agg #[.int .i64 0, .int .i64 0]) [(0,1),(1,1)] Tryz.underlying125 ae rfl (by simp [Value.oneCell']) (fun w=> by kernel_rfl)
instance KF:Bld Tryz.prog 126 [.int .i64 0, .int .i64 0] (fun i=> ([(0,1),(1,1)]:List (Nat×Nat))[i]?):=Bld.struct (bytes:=16) (.agg #[.int .i64 0, .int .i64 0]) [(0,1),(1,1)] Tryz.underlying126 ae rfl (by simp [Value.oneCell']) (fun w=> by kernel_rfl)
instance Ly:Bld Tryz.prog 128 ud (fun i=> ([(0,1),(1,1),(2,1)]:List (Nat×Nat))[i]?):=Bld.struct (bytes:=56) (.agg (ud).toArray) [(0,1),(1,1),(2,1)] Tryz.underlying128 ae rfl (by simp [Value.oneCell']) (fun w=> by kernel_rfl)
instance Ll:Bld Tryz.prog 129 ud (fun i=> ([(0,1),(1,1),(2,1)]:List (Nat×Nat))[i]?):=Bld.struct (bytes:=56) (.agg (ud).toArray) [(0,1),(1,1),(2,1)] Tryz.underlying129 ae rfl (by simp [Value.oneCell']) (fun w=> by kernel_rfl)
instance NI:Bld Tryz.prog 131 tM (fun i=> ([(0,1),(1,9)]:List (Nat×Nat))[i]?):=Bld.struct (bytes:=96) (.agg (tM).toArray) [(0,1),(1,9)] Tryz.underlying131 ae rfl (by simp [Value.oneCell']) (fun w=> by kernel_rfl)
instance Kr:Bld Tryz.prog 132 tM (fun i=> ([(0,1),(1,9)]:List (Nat×Nat))[i]?):=Bld.struct (bytes:=96) (.agg (tM).toArray) [(0,1),(1,9)] Tryz.underlying132 ae rfl (by simp [Value.oneCell']) (fun w=> by kernel_rfl)
instance NJ:Bld Tryz.prog 138 [.slice none 0 0, .int .i64 0] (fun i=> ([(0,1),(1,1)]:List (Nat×Nat))[i]?):=Bld.struct (bytes:=32) (.agg #[.slice none 0 0, .int .i64 0]) [(0,1),(1,1)] Tryz.underlying138 ae rfl (by simp [Value.oneCell']) (fun w=> by kernel_rfl)
instance Mr:Bld Tryz.prog 139 [.slice none 0 0, .int .i64 0] (fun i=> ([(0,1),(1,1)]:List (Nat×Nat))[i]?):=Bld.struct (bytes:=32) (.agg #[.slice none 0 0, .int .i64 0]) [(0,1),(1,1)] Tryz.underlying139 ae rfl (by simp [Value.oneCell']) (fun w=> by kernel_rfl)
instance Ks:Bld Tryz.prog 142 tx (fun i=> ([(0,3),(3,1)]:List (Nat×Nat))[i]?):=Bld.struct (bytes:=96) (.agg (tx).toArray) [(0,3),(3,1)] Tryz.underlying142 ae rfl (by simp [Value.oneCell']) (fun w=> by kernel_rfl)
instance NN:Bld Tryz.prog 143 tx (fun i=> ([(0,3),(3,1)]:List (Nat×Nat))[i]?):=Bld.struct (bytes:=96) (.agg (tx).toArray) [(0,3),(3,1)] Tryz.underlying143 ae rfl (by simp [Value.oneCell']) (fun w=> by kernel_rfl)
instance MJ:Bld Tryz.prog 170 uy (fun i=> ([(0,43),(43,10),(53,1),(54,5),(59,1),(60,1),(61,1),(62,1),(63,1)]:List (Nat×Nat))[i]?):=Bld.struct (bytes:=608) (.agg (uy).toArray) [(0,43),(43,10),(53,1),(54,5),(59,1),(60,1),(61,1),(62,1),(63,1)] Tryz.underlying170 ae rfl (by simp [Value.oneCell']) (fun w=> by kernel_rfl)
instance MW:Bld Tryz.prog 171 uy (fun i=> ([(0,43),(43,10),(53,1),(54,5),(59,1),(60,1),(61,1),(62,1),(63,1)]:List (Nat×Nat))[i]?):=Bld.struct (bytes:=608) (.agg (uy).toArray) [(0,43),(43,10),(53,1),(54,5),(59,1),(60,1),(61,1),(62,1),(63,1)] Tryz.underlying171 ae rfl (by simp [Value.oneCell']) (fun w=> by kernel_rfl)
instance Ld:Bld Tryz.prog 173 yV (fun i=> some (i*1,1)):=Bld.array (bytes:=192) (.agg (yV).toArray) Tryz.underlying173 ae rfl (by simp [Value.oneCell']) ae
instance LH:Bld Tryz.prog 176 [] (fun i=> ([]:List (Nat×Nat))[i]?):=Bld.struct (bytes:=0) (.agg #[]) [] Tryz.underlying176 ae rfl (by simp [Value.oneCell']) (fun w=> by kernel_rfl)
instance MK:Bld Tryz.prog 191 ut (fun i=> ([(0,1),(1,1),(2,1),(3,1)]:List (Nat×Nat))[i]?):=Bld.struct (bytes:=32) (.agg (ut).toArray) [(0,1),(1,1),(2,1),(3,1)] Tryz.underlying191 ae rfl (by simp [Value.oneCell']) (fun w=> by kernel_rfl)
instance MN:Bld Tryz.prog 192 ut (fun i=> ([(0,1),(1,1),(2,1),(3,1)]:List (Nat×Nat))[i]?):=Bld.struct (bytes:=32) (.agg (ut).toArray) [(0,1),(1,1),(2,1),(3,1)] Tryz.underlying192 ae rfl (by simp [Value.oneCell']) (fun w=> by kernel_rfl)
instance Mb:Bld Tryz.prog 195 pV (fun i=> ([(0,5),(5,1)]:List (Nat×Nat))[i]?):=Bld.struct (bytes:=48) (.agg (pV).toArray) [(0,5),(5,1)] Tryz.underlying195 ae rfl (by simp [Value.oneCell']) (fun w=> by kernel_rfl)
instance Ke:Bld Tryz.prog 196 pV (fun i=> ([(0,5),(5,1)]:List (Nat×Nat))[i]?):=Bld.struct (bytes:=48) (.agg (pV).toArray) [(0,5),(5,1)] Tryz.underlying196 ae rfl (by simp [Value.oneCell']) (fun w=> by kernel_rfl)
instance LC:Bld Tryz.prog 221 tE (fun i=> ([(0,1),(1,1),(2,1),(3,1),(4,1)]:List (Nat×Nat))[i]?):=Bld.struct (bytes:=72) (.agg (tE).toArray) [(0,1),(1,1),(2,1),(3,1),(4,1)] Tryz.underlying221 ae rfl (by simp [Value.oneCell']) (fun w=> by kernel_rfl)
instance Kc:Bld Tryz.prog 222 tE (fun i=> ([(0,1),(1,1),(2,1),(3,1),(4,1)]:List (Nat×Nat))[i]?):=Bld.struct (bytes:=72) (.agg (tE).toArray) [(0,1),(1,1),(2,1),(3,1),(4,1)] Tryz.underlying222 ae rfl (by simp [Value.oneCell']) (fun w=> by kernel_rfl)
instance Lk:Bld Tryz.prog 224 pZ (fun i=> ([(0,1),(1,1),(2,1),(3,1)]:List (Nat×Nat))[i]?):=Bld.struct (bytes:=40) (.agg (pZ).toArray) [(0,1),(1,1),(2,1),(3,1)] Tryz.underlying224 ae rfl (by simp [Value.oneCell']) (fun w=> by kernel_rfl)
instance LW:Bld Tryz.prog 225 pZ (fun i=> ([(0,1),(1,1),(2,1),(3,1)]:List (Nat×Nat))[i]?):=Bld.struct (bytes:=40) (.agg (pZ).toArray) [(0,1),(1,1),(2,1),(3,1)] Tryz.underlying225 ae rfl (by simp [Value.oneCell']) (fun w=> by kernel_rfl)
instance Md:Bld Tryz.prog 287 Cs (fun i=> ([(0,1),(1,1),(2,1),(3,1),(4,1),(5,1),(6,1),(7,1),(8,1),(9,1),(10,1)]:List (Nat×Nat))[i]?):=Bld.struct (bytes:=48) (.agg (Cs).toArray) [(0,1),(1,1),(2,1),(3,1),(4,1),(5,1),(6,1),(7,1),(8,1),(9,1),(10,1)] Tryz.underlying287 ae rfl (by simp [Value.oneCell']) (fun w=> by kernel_rfl)
def fh (n m:Int):Int:=(if n < 0 then -(n+1) else n) % m
theorem jN (n m:Int) (h:0 < m):0≤fh n m:=Int.emod_nonneg _ ab
theorem jM (n m:Int) (h:0 < m):fh n m < m:=Int.emod_lt_of_pos _ h
theorem iY (n m:Int) (hm:1≤m) (h1:m≤4611686018427387904) (h2: -9223372036854775808≤n) (h3:n≤9223372036854775807):
  Spec Tryz.prog 33 (bf [.v (.int .i64 n), .v (.int .i64 m)] []) (aL (.v (.int .i64 (fh n m))) []):=by
 refine Spec.ofN Tryz.func33 rfl Tryz.ntmps33 rfl ?_
 refine am (bc rfl (ai (aq (am (aV rfl (aj (bo _ _ rfl rfl rfl) (ai (aP rfl (fun hc6=> ?_) (fun hc6=> ?_)))))))))
 ·skip
  refine an (aV rfl (aj (aZ _ _ rfl rfl (bJ ab)) ?_))
  refine aj (xj _ rfl (bJ ab)) ?_
  refine bc rfl (ai (am (aV rfl (aV rfl (aj (kq _ _ rfl rfl ab (Int.tmod_eq_emod_of_nonneg ab)) ?_)))))
  refine bc rfl (ai (aE (aW (.inr rfl) rfl (.tmp (rfl:_=AV.v (.int _ _))) (Le.out [] [] (cd ?_) rfl rfl rfl trivial trivial))))
  unfold fh
  rw [if_pos hc6]
 ·skip
  refine aO (am (aV rfl (aV rfl (aj (kq _ _ rfl rfl ab (Int.tmod_eq_emod_of_nonneg ab)) ?_))))
  refine bc rfl (ai (aE (aW (.inr rfl) rfl (.tmp (rfl:_=AV.v (.int _ _))) (Le.out [] [] (cd ?_) rfl rfl rfl trivial trivial))))
  unfold fh
  rw [if_neg ab]

theorem tB (n m:Nat) (xs ys:List Int) (hn:xs.length=n) (hm:ys.length=m) (h1:n≤4611686018427387904) (h2:m≤4611686018427387904):
  Spec Tryz.prog 30 (bf [.sl n (dS xs), .sl m (dS ys)] []) (aL (.v (.bool (decide (xs=ys)))) []):=by
 subst hn;subst hm
 refine Spec.ofN Tryz.func30 rfl Tryz.ntmps30 rfl ?_
 refine am (ce rfl (ai (aq (am (eT rfl (aj (bD _ aa rfl) (eT rfl (aj (bD _ aa rfl) (aj (bY _ _ rfl rfl rfl) (ai ?_))))))))))
 refine aP rfl (fun hc10=> ?_) (fun hc10=> ?_)
 ·skip
  refine am (ce rfl (ai (aE (aW (.inr rfl) rfl (.tmp (rfl:_=AV.v (.bool _))) (Le.out [] [] (gy ?_) rfl rfl rfl trivial trivial)))))
  exact decide_eq_false fun h=> by subst h;omega
 ·skip
  refine aO (aT fun K5 hK5=> ?_)
  refine am (bc rfl (ai (au ?_)))
  refine bv (α:=Nat) (fun k=> k≤xs.length∧xs.length=ys.length∧xs.take k=ys.take k) 26 [(0,_),(1,_)] [] (fun k=> [(5, .v (.int .i64 (k:Int)))]) (fun k=> []) [] [] (fun k=> xs.length - k) 0 ?_ (by
   refine Le.mkJ [] [] rfl ?_ ?_ trivial trivial ?_
   ·exact ⟨(by exact iS rfl),(by exact iS rfl),(cd ag),trivial⟩
   ·exact trivial
   ·kernel_rfl) ?_
  ·exact ⟨by omega,by omega,rfl⟩
  intro k hk
  obtain ⟨hk,hl,ht⟩:=hk
  refine aT fun K7 hK7=> ?_
  refine am (aV rfl (eT rfl (aj (bD _ aa rfl) (aj (bo _ _ rfl rfl rfl) (ai (aP rfl (fun hc14=> ?_) (fun hc14=> ?_)))))))
  ·skip
   have hkx:k < xs.length:=by omega
   have hky:k < ys.length:=by omega
   refine bA (hK7 _ ?_)
   clear hK7;try clear K7
   refine aq (au (aq ?_))
   refine aQ (σ':=aA 26 [(0,_),(1,_),(5,_)] [] [] []) (by
    refine Le.mkJ [] [] rfl ?_ ?_ trivial trivial ?_
    ·exact ⟨(by exact iS rfl),(by exact iS rfl),(iV rfl),trivial⟩
    ·exact trivial
    ·kernel_rfl) ?_
   refine bT 9 [17,18,19,20,21,22,23,24,25] [] ae ae rfl (aM rfl) (rfl:_=[_,_,_,_,_,_,_,_,_]) (rfl:_=[]) ?_
   refine ap (_,[]) (fun τ=> aH _ (rfl:_=AV.sl _ _)) ?_
   refine fO rfl ?_
   refine ap (_,[]) (fun τ=> aH _ (rfl:_=AV.v (.int _ _))) ?_
   refine fR rfl ?_
   refine ap (_,[]) (fun τ=> bl _ _ aa rfl rfl _ rfl ab (by (simp only [aU,bj,bh];omega)) (by exact Nat.mul_one _)) ?_
   refine fT rfl ?_
   refine ap (_,[]) (fun τ=> bU _ aa rfl (by exact dz _ _ ab) rfl) ?_
   refine fP rfl ?_
   refine ap (_,[]) (fun τ=> aH _ (rfl:_=AV.sl _ _)) ?_
   refine gb rfl ?_
   refine ap (_,[]) (fun τ=> aH _ (rfl:_=AV.v (.int _ _))) ?_
   refine gC rfl ?_
   refine ap (_,[]) (fun τ=> bl _ _ aa rfl rfl _ rfl ab (by (simp only [aU,bj,bh];omega)) (by exact Nat.mul_one _)) ?_
   refine iy rfl ?_
   refine ap (_,[]) (fun τ=> bU _ aa rfl (by exact dz _ _ ab) rfl) ?_
   refine jy rfl ?_
   refine ap (_,[]) (fun τ=> bY _ _ rfl rfl rfl) ?_
   refine jr rfl (bw ⟨rfl,?_⟩)
   refine ai (aP rfl (fun hc25=> ?_) (fun hc25=> ?_))
   ·skip
    refine am (ce rfl (ai (aE (aW (.inr rfl) rfl (.tmp (rfl:_=AV.v (.bool _))) (Le.out [] [] (gy ?_) rfl rfl rfl trivial trivial)))))
    exact decide_eq_false fun h=> by subst h;exact hc25 rfl
   ·skip
    refine cf (an (aV rfl (aj (aZ _ _ rfl rfl (bJ ab)) ?_)))
    refine bc rfl (aI (⟨k+1,?_,?_,?_⟩))
    ·refine ⟨by omega,hl,?_⟩
     rw [oQ _ _ _ hkx,oQ _ _ _ hky] at hc25
     rw [List.take_succ_eq_append_getElem hkx,List.take_succ_eq_append_getElem hky,ht,hc25]
    ·skip
     refine Le.mkJ [] [] rfl ?_ ?_ trivial trivial ?_
     ·exact ⟨(by exact iS rfl),(by exact iS rfl),(cd ag),trivial⟩
     ·exact trivial
     ·kernel_rfl
    ·omega
  ·skip
   refine bI (id (hK5 _ ?_))
   clear hK5;try clear K5
   refine am (ce rfl (ai (aE (aW (.inr rfl) rfl (.tmp (rfl:_=AV.v (.bool _))) (Le.out [] [] (gy ?_) rfl rfl rfl trivial trivial)))))
   rw [List.take_of_length_le ab,List.take_of_length_le ab] at ht
   exact decide_eq_true ht
end Go.Proofs.YtmjnackchaahbaaGreat
