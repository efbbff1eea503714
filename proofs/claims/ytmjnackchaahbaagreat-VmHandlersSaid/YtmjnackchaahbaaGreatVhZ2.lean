/- part 2 -/
import Derived.Test.YtmjnackchaahbaaGreatVhZ1
set_option linter.unusedSimpArgs false
set_option linter.unusedVariables false
namespace Go.Proofs.YtmjnackchaahbaaGreat
open Go.RowKit

inductive PV where
  | v (x:Value)
  | sl (n:Nat) (xs:List PV)
  | ptr (off:Nat) (xs:List PV)
  | fn (f:Fn) (first caps:List PV)
  | ifc (t:TypeId) (p:PV)

abbrev ay:=Nat×Nat

inductive AV where
  | dead
  | v (x:Value)
  | sl (n:Nat) (xs:List PV)
  | fp (off:Nat) (xs:List PV)
  | ref (id:ay) (off n:Nat)
  | ptr (id:ay) (off:Nat)
  | agg (xs:List AV)
  | fn (f:Fn) (first caps:List AV)
  | ifc (t:TypeId) (x:AV)
  | tup (xs:List AV)
  | z
  | mp (id:ay)

inductive Cells where
  | row (e:TypeId) (sz:Nat) (xs:List PV)
  | box (e:TypeId) (xs:List AV)
  | rowA (e:TypeId) (sz:Nat) (xs:List AV)
  | mp (es:List MapEntry) (clock:Nat)
  | it (m:ay) (since:Nat) (seen:Array Nat) (stepped:Nat)

inductive Slot where
  | free
  | gone
  | obj (o:Cells)

def SC (S:Nat→Prop) (w:World) (b:Nat):Prop:=S b∧ ∃ c e f,w.heap[b]? =some (.cells c e f)
theorem SC.mk {S:Nat→Prop} {w:World} {b:Nat} {c:Array Value} {e:TypeId} {f:Nat×Nat} (h:S b) (hb:w.heap[b]? =some (.cells c e f)):SC S w b:=⟨h,c,e,f,hb⟩
theorem SC.next {S S':Nat→Prop} {w w':World} {b:Nat} (h:SC S w b) (hw: ∀ g,S g→w'.heap[g]? =w.heap[g]?) (hS: ∀ g,S g→S' g):SC S' w' b:=let ⟨h1,c,e,f,h2⟩:=h;⟨hS _ h1,c,e,f,by rw [hw _ h1];exact h2⟩
inductive Rd (S:Nat→Prop) (w:World):PV→Value→Prop where
  | v {x:Value} (h1:x.oneCell'=true):Rd S w (.v x) x
  | sl0 {n c:Nat} {ao:Option Addr} (h0:n≤c) (h1:c≤maxLen) (h2:ao=none→n=0∧c=0):Rd S w (.sl n []) (.slice ao n c)
  | sl {n c b o:Nat} {xs:List PV} (us:Nat→Value) (h0:n≤c) (h1:c≤maxLen) (hS:SC S w b)
      (h2: ∀ j p,xs[j]? =some p→w.cell? ⟨b,o+j,none⟩=some (us j)) (h3: ∀ j p,xs[j]? =some p→Rd S w p (us j)):Rd S w (.sl n xs) (.slice (some ⟨b,o,none⟩) n c)
  | ptr {off b o:Nat} {xs:List PV} (us:Nat→Value) (hS:SC S w b)
      (h2: ∀ j p,xs[j]? =some p→w.cell? ⟨b,o+j,none⟩=some (us j)) (h3: ∀ j p,xs[j]? =some p→Rd S w p (us j)):Rd S w (.ptr off xs) (.pointer (some ⟨b,o+off,none⟩))
  | fn {f:Fn} {first caps:List PV} {us vs:Array Value} (h1:us.size=first.length) (h2:vs.size=caps.length)
      (h3: ∀ j p,first[j]? =some p→Rd S w p (us.getD j undef)) (h4: ∀ j p,caps[j]? =some p→Rd S w p (vs.getD j undef)):Rd S w (.fn f first caps) (.func f us vs)
  | ifc {t:TypeId} {p:PV} {u:Value} (h:Rd S w p u):Rd S w (.ifc t p) (.iface t u)

theorem Rd.one {S:Nat→Prop} {w:World} {p:PV} {x:Value} (h:Rd S w p x):x.oneCell'=true:=by
  cases h <;> first | rfl | assumption

theorem Rd.next {S S':Nat→Prop} {w w':World} {p:PV} {x:Value} (h:Rd S w p x) (hw: ∀ g,S g→w'.heap[g]? =w.heap[g]?) (hS: ∀ g,S g→S' g):Rd S' w' p x:=by
  induction h with
  | v h1=> exact .v h1
  | sl0 a b c=> exact .sl0 a b c
  | sl us h0 h1 hs h2 h3 ih=> exact .sl us h0 h1 (hs.next hw hS) (fun j p hp=> by rw [World.cell?_of_block (w:=w) (hw _ hs.1)];exact h2 j p hp) ih
  | ptr us hs h2 h3 ih=> exact .ptr us (hs.next hw hS) (fun j p hp=> by rw [World.cell?_of_block (w:=w) (hw _ hs.1)];exact h2 j p hp) ih
  | fn h1 h2 h3 h4 i3 i4=> exact .fn h1 h2 i3 i4
  | ifc h ih=> exact .ifc ih

theorem Rd.cells {S:Nat→Prop} {w:World} {p:PV} {x:Value} (h:Rd S w p x):Rd (fun g=> SC S w g) w p x:=by
  induction h with
  | v h1=> exact .v h1
  | sl0 a b c=> exact .sl0 a b c
  | sl us h0 h1 hs h2 h3 ih=> exact .sl us h0 h1 ⟨hs,hs.2⟩ h2 ih
  | ptr us hs h2 h3 ih=> exact .ptr us ⟨hs,hs.2⟩ h2 ih
  | fn h1 h2 h3 h4 i3 i4=> exact .fn h1 h2 i3 i4
  | ifc h ih=> exact .ifc ih

structure dX where
  g:Option Nat
  tot:Nat
  sz:Nat

def Fy (B:dX) (off n:Nat) (x:Value):Prop:=
  ∃ c,n≤c∧c≤maxLen∧match B.g with
    | none=> x= .slice none 0 0∧n=0∧c=0
    | some g=> ∃ o,x= .slice (some ⟨g,o,none⟩) n c∧(o=off∨c=0∧0 < off)∧off+c*B.sz=B.tot

def HU (B:dX) (x:Value):Prop:= ∃ g,B.g=some g∧x= .map (some g)
def Ii (B:dX) (off:Nat) (x:Value):Prop:= ∃ g,B.g=some g∧x= .pointer (some ⟨g,off,none⟩)

inductive Rep (ι:ay→Option dX) (S:Nat→Prop) (w:World):AV→Value→Prop where
  | dead {x:Value}:Rep ι S w .dead x
  | v {x:Value}:Rep ι S w (.v x) x
  | sl {n:Nat} {xs:List PV} {x:Value} (h:Rd S w (.sl n xs) x):Rep ι S w (.sl n xs) x
  | fp {off:Nat} {xs:List PV} {x:Value} (h:Rd S w (.ptr off xs) x):Rep ι S w (.fp off xs) x
  | ref {id:ay} {off n:Nat} {x:Value} (h: ∀ B,ι id=some B→Fy B off n x) (h1:x.oneCell'=true):Rep ι S w (.ref id off n) x
  | ptr {id:ay} {off:Nat} {x:Value} (h: ∀ B,ι id=some B→Ii B off x) (h1:x.oneCell'=true):Rep ι S w (.ptr id off) x
  | agg {xs:List AV} {us:Array Value} (h1:us.size=xs.length) (h2: ∀ u∈us.toList,u.oneCell'=true) (h: ∀ j a,xs[j]? =some a→Rep ι S w a (us.getD j undef)):Rep ι S w (.agg xs) (.agg us)
  | fn {f:Fn} {first caps:List AV} {us vs:Array Value} (h1:us.size=first.length) (h2:vs.size=caps.length)
      (h3: ∀ j p,first[j]? =some p→Rep ι S w p (us.getD j undef)) (h4: ∀ j p,caps[j]? =some p→Rep ι S w p (vs.getD j undef)):Rep ι S w (.fn f first caps) (.func f us vs)
  | ifc {t:TypeId} {a:AV} {u:Value} (h:Rep ι S w a u):Rep ι S w (.ifc t a) (.iface t u)
  | z {ao:Option Addr}:Rep ι S w .z (.slice ao 0 0)
  | mp {id:ay} {x:Value} (h: ∀ B,ι id=some B→HU B x) (h1:x.oneCell'=true):Rep ι S w (.mp id) x
  | tup {xs:List AV} {us:Array Value} (h1:us.size=xs.length) (h: ∀ j a,xs[j]? =some a→Rep ι S w a (us.getD j undef)):Rep ι S w (.tup xs) (.tuple us)

inductive Has (id:ay):AV→Prop where
  | ref {off n:Nat}:Has id (.ref id off n)
  | ptr {off:Nat}:Has id (.ptr id off)
  | mp:Has id (.mp id)
  | agg {xs:List AV} {a:AV} (hm:a∈xs) (h:Has id a):Has id (.agg xs)
  | fn1 {f:Fn} {xs ys:List AV} {a:AV} (hm:a∈xs) (h:Has id a):Has id (.fn f xs ys)
  | fn2 {f:Fn} {xs ys:List AV} {a:AV} (hm:a∈ys) (h:Has id a):Has id (.fn f xs ys)
  | ifc {t:TypeId} {a:AV} (h:Has id a):Has id (.ifc t a)
  | tup {xs:List AV} {a:AV} (hm:a∈xs) (h:Has id a):Has id (.tup xs)

theorem Rep.next {ι ι':ay→Option dX} {S S':Nat→Prop} {w w':World} {a:AV} {x:Value} (h:Rep ι S w a x) (hw: ∀ g,S g→w'.heap[g]? =w.heap[g]?) (hS: ∀ g,S g→S' g)
    (hι: ∀ id B,Has id a→ι' id=some B→ι id=some B):Rep ι' S' w' a x:=by
  induction h with
  | dead=> exact .dead
  | v=> exact .v
  | sl h=> exact .sl (h.next hw hS)
  | fp h=> exact .fp (h.next hw hS)
  | ref h h1=> exact .ref (fun B hB=> h B (hι _ B .ref hB)) h1
  | ptr h h1=> exact .ptr (fun B hB=> h B (hι _ B .ptr hB)) h1
  | agg h1 h2 h ih=> exact .agg h1 h2 fun j a ha=> ih j a ha fun id B hb=> hι id B (.agg (List.mem_of_getElem? ha) hb)
  | fn h1 h2 h3 h4 i3 i4=> exact .fn h1 h2 (fun j a ha=> i3 j a ha fun id B hb=> hι id B (.fn1 (List.mem_of_getElem? ha) hb)) fun j a ha=> i4 j a ha fun id B hb=> hι id B (.fn2 (List.mem_of_getElem? ha) hb)
  | ifc h ih=> exact .ifc (ih fun id B hb=> hι id B (.ifc hb))
  | z=> exact .z
  | mp h h1=> exact .mp (fun B hB=> h B (hι _ B .mp hB)) h1
  | tup h1 h ih=> exact .tup h1 fun j a ha=> ih j a ha fun id B hb=> hι id B (.tup (List.mem_of_getElem? ha) hb)

def Cells.Has (id:ay):Cells→Prop
  | .row _ _ _=> False
  | .box _ xs=> ∃ a∈xs,YtmjnackchaahbaaGreat.Has id a
  | .rowA _ _ xs=> ∃ a∈xs,YtmjnackchaahbaaGreat.Has id a
  | .mp _ _=> False
  | .it m _ _ _=> id=m

def RowOk (w:World) (B:dX) (e:TypeId) (n:Nat) (R:Nat→Value→Prop):Prop:=
  (B.g=none∧n=0∧B.tot=0)∨ ∃ g cur,B.g=some g∧w.heap[g]? =some (.cells cur e (0,0))∧cur.size=B.tot∧n≤cur.size∧ ∀ j,j < n→ ∃ u,cur[j]? =some u∧u.oneCell'=true∧R j u

def ObjOk (ι:ay→Option dX) (S:Nat→Prop) (w:World) (id:ay):Cells→Prop
  | .row e sz xs=> ∃ B,ι id=some B∧B.sz=sz∧RowOk w B e xs.length fun j u=> ∀ p,xs[j]? =some p→Rd S w p u
  | .box e xs=> ∃ B g,ι id=some B∧B.g=some g∧xs.length≤B.tot∧RowOk w B e xs.length fun j u=> ∀ a,xs[j]? =some a→Rep ι S w a u
  | .rowA e sz xs=> ∃ B,ι id=some B∧B.sz=sz∧RowOk w B e xs.length fun j u=> ∀ a,xs[j]? =some a→Rep ι S w a u
  | .mp es clock=> ∃ B g,ι id=some B∧B.g=some g∧w.heap[g]? =some (.map es.toArray clock)
  | .it m since seen stepped=> ∃ B g,ι id=some B∧B.g=some g∧ ∃ mg,w.heap[g]? =some (.mapIter (some mg) since seen stepped)∧ ∀ B',ι m=some B'→B'.g=some mg

structure St where
  n:Nat
  fr:Nat→AV
  ob:ay→Slot
  inc:ay→Bool:=fun _=> false
  pin:ay→Option ay:=fun _=> none

structure jb where
  w0:World
  own:Nat→Prop
  S0:Nat→Prop
  home:ay→Option dX
  rd:Option Nat

structure Keeps (own:Nat→Prop) (w w':World):Prop where
  os:w'.os=w.os
  tape:w'.tape=w.tape
  output:w'.output=w.output
  size:w.heap.size≤w'.heap.size
  block: ∀ g,g < w.heap.size→ ¬ own g→w'.heap[g]? =w.heap[g]?

theorem Keeps.refl (own:Nat→Prop) (w:World):Keeps own w w:=⟨rfl,rfl,rfl,Nat.le_refl _,fun _ _ _=> rfl⟩
theorem Keeps.of_below {own:Nat→Prop} {w w':World} (h:Below w.heap.size w w'):Keeps own w w':=⟨h.os,h.tape,h.output,h.size,fun g hg _=> h.block g hg⟩
theorem Keeps.mono {own own':Nat→Prop} {w w':World} (h:Keeps own w w') (ho: ∀ g,own g→own' g):Keeps own' w w':=⟨h.os,h.tape,h.output,h.size,fun g hg hn=> h.block g hg fun h'=> hn (ho g h')⟩
theorem Keeps.trans {own own':Nat→Prop} {a b c:World} (h:Keeps own a b) (h':Keeps own' b c) (ho: ∀ g,g < a.heap.size→own' g→own g):Keeps own a c:=
  ⟨h'.os.trans h.os,h'.tape.trans h.tape,h'.output.trans h.output,Nat.le_trans h.size h'.size,fun g hg hn=> (h'.block g (Nat.lt_of_lt_of_le hg h.size) fun h2=> hn (ho g hg h2)).trans (h.block g hg hn)⟩
theorem Keeps.grown {w w':World} {row:Option Nat} (h:w.grownBy w' row):Keeps (fun g=> row=some g) w w':=⟨h.os,h.tape,h.output,h.size,fun g hg hn=> h.block g hg fun e=> hn e.symm⟩

def DefOk (b:Nat) (S:Nat→Prop) (ds:List Deferred) (w:World):Prop:=ds.Nodup∧ ∀ d∈ds,∃ r,d={ target:= .collected r,args:= #[] }∧w.heap[r]? =some (.deferred (some []))∧b≤r∧ ¬ S r
theorem DefOk.nil {b:Nat} {S:Nat→Prop} {w:World}:DefOk b S [] w:=⟨.nil,fun d hd=> by cases hd⟩

structure RelI (K:jb) (ι:ay→Option dX) (S:Nat→Prop) (σ:St) (a:Act) (w:World):Prop where
  keeps:Keeps K.own K.w0 w
  S0: ∀ g,S g→K.S0 g∨K.w0.heap.size≤g
  Slt: ∀ g,S g→g < w.heap.size
  nt:a.tmps.size=σ.n
  df:DefOk K.w0.heap.size S a.defers w
  fr: ∀ t,t < σ.n→Rep ι S w (σ.fr t) (a.tmps.getD t undef)
  cl: ∀ t id,Has id (σ.fr t)→σ.ob id≠ .free
  clo: ∀ id' o id,σ.ob id'= .obj o→o.Has id→σ.ob id≠ .free
  ob: ∀ id o,σ.ob id= .obj o→ObjOk ι S w id o
  dom: ∀ id B,ι id=some B→ ∃ o,σ.ob id= .obj o
  inj: ∀ id id' B B' g,ι id=some B→ι id'=some B'→B.g=some g→B'.g=some g→id=id'
  sep: ∀ id B g,ι id=some B→B.g=some g→ ¬ S g∧(K.own g∨K.w0.heap.size≤g)∧(σ.inc id=false→K.w0.heap.size≤g)
  pin: ∀ id h o,σ.pin id=some h→σ.ob id= .obj o→ι id=K.home h
  pf: ∀ id,σ.ob id= .free→σ.pin id=none

def wb (K:jb) (σ:St) (a:Act) (w:World):Prop:= ∃ ι S,RelI K ι S σ a w

theorem RowOk.next {w w':World} {B:dX} {e:TypeId} {n:Nat} {R R':Nat→Value→Prop} (h:RowOk w B e n R) (hw: ∀ g,B.g=some g→w'.heap[g]? =w.heap[g]?) (hR: ∀ j u,R j u→R' j u):RowOk w' B e n R':=by
  rcases h with h | ⟨g,cur,a,b,c,d,f⟩
  · exact .inl h
  exact .inr ⟨g,cur,a,by rw [hw g a];exact b,c,d,fun j hj=> let ⟨u,h1,h2,h3⟩:=f j hj;⟨u,h1,h2,hR j u h3⟩⟩

theorem ObjOk.next {ι ι':ay→Option dX} {S S':Nat→Prop} {w w':World} {id:ay} {o:Cells} (h:ObjOk ι S w id o) (hid:ι' id=ι id) (hw: ∀ B g,ι id=some B→B.g=some g→w'.heap[g]? =w.heap[g]?)
    (hwS: ∀ g,S g→w'.heap[g]? =w.heap[g]?) (hS: ∀ g,S g→S' g) (hι: ∀ id' B,o.Has id'→ι' id'=some B→ι id'=some B):ObjOk ι' S' w' id o:=by
  cases o with
  | row e sz xs=>
    obtain ⟨B,h1,h2,h3⟩:=h
    exact ⟨B,by rw [hid];exact h1,h2,h3.next (fun g hg=> hw B g h1 hg) fun j u hu p hp=> (hu p hp).next hwS hS⟩
  | box e xs=>
    obtain ⟨B,g,h1,h2,h3,h4⟩:=h
    exact ⟨B,g,by rw [hid];exact h1,h2,h3,h4.next (fun g hg=> hw B g h1 hg) fun j u hu p hp=> (hu p hp).next hwS hS fun id' B' hb=> hι id' B' ⟨p,List.mem_of_getElem? hp,hb⟩⟩
  | rowA e sz xs=>
    obtain ⟨B,h1,h2,h3⟩:=h
    exact ⟨B,by rw [hid];exact h1,h2,h3.next (fun g hg=> hw B g h1 hg) fun j u hu p hp=> (hu p hp).next hwS hS fun id' B' hb=> hι id' B' ⟨p,List.mem_of_getElem? hp,hb⟩⟩
  | mp es clock=>
    obtain ⟨B,g,h1,h2,h3⟩:=h
    exact ⟨B,g,by rw [hid];exact h1,h2,by rw [hw B g h1 h2];exact h3⟩
  | it m since seen stepped=>
    obtain ⟨B,g,h1,h2,mg,h3,h4⟩:=h
    exact ⟨B,g,by rw [hid];exact h1,h2,mg,by rw [hw B g h1 h2];exact h3,fun B' hB'=> h4 B' (hι m B' rfl hB')⟩

theorem ObjOk.at {ι:ay→Option dX} {S:Nat→Prop} {w:World} {id:ay} {o:Cells} {B:dX} {g:Nat} (h:ObjOk ι S w id o) (h1:ι id=some B) (h2:B.g=some g): ∃ x,w.heap[g]? =some x∧ ∀ l,x≠ .deferred l:=by
  have key: ∀ {e n} {R':Nat→Value→Prop},RowOk w B e n R'→ ∃ x,w.heap[g]? =some x∧ ∀ l,x≠ .deferred l:=by
    intro e n R' hr
    rcases hr with ⟨h,_⟩ | ⟨g',cur,h,hh,_⟩
    · rw [h2] at h;cases h
    rw [h2] at h
    obtain rfl:=Option.some.inj h
    exact ⟨_,hh,fun l hl=> by cases hl⟩
  cases o with
  | row e sz xs=>
    obtain ⟨B',h1',_,h3⟩:=h
    rw [h1] at h1'
    obtain rfl:=Option.some.inj h1'
    exact key h3
  | box e xs=>
    obtain ⟨B',g',h1',_,_,h3⟩:=h
    rw [h1] at h1'
    obtain rfl:=Option.some.inj h1'
    exact key h3
  | rowA e sz xs=>
    obtain ⟨B',h1',_,h3⟩:=h
    rw [h1] at h1'
    obtain rfl:=Option.some.inj h1'
    exact key h3
  | mp es clock=>
    obtain ⟨B',g',h1',h2',h3⟩:=h
    rw [h1] at h1'
    obtain rfl:=Option.some.inj h1'
    rw [h2] at h2'
    obtain rfl:=Option.some.inj h2'
    exact ⟨_,h3,fun l hl=> by cases hl⟩
  | it m since seen stepped=>
    obtain ⟨B',g',h1',h2',mg,h3,_⟩:=h
    rw [h1] at h1'
    obtain rfl:=Option.some.inj h1'
    rw [h2] at h2'
    obtain rfl:=Option.some.inj h2'
    exact ⟨_,h3,fun l hl=> by cases hl⟩
theorem ObjOk.ex {ι:ay→Option dX} {S:Nat→Prop} {w:World} {id:ay} {o:Cells} (h:ObjOk ι S w id o): ∃ B,ι id=some B:=by
  cases o with
  | row e sz xs=> obtain ⟨B,h,_⟩:=h;exact ⟨B,h⟩
  | box e xs=> obtain ⟨B,_,h,_⟩:=h;exact ⟨B,h⟩
  | rowA e sz xs=> obtain ⟨B,h,_⟩:=h;exact ⟨B,h⟩
  | mp es clock=> obtain ⟨B,_,h,_⟩:=h;exact ⟨B,h⟩
  | it m since seen stepped=> obtain ⟨B,_,h,_⟩:=h;exact ⟨B,h⟩
theorem ObjOk.lt {ι:ay→Option dX} {S:Nat→Prop} {w:World} {id:ay} {o:Cells} {B:dX} {g:Nat} (h:ObjOk ι S w id o) (h1:ι id=some B) (h2:B.g=some g):g < w.heap.size:=
  let ⟨_,h,_⟩:=h.at h1 h2
  (Array.getElem?_eq_some_iff.1 h).1
theorem RelI.lt {K:jb} {ι:ay→Option dX} {S:Nat→Prop} {σ:St} {a:Act} {w:World} (R:RelI K ι S σ a w) {id:ay} {B:dX} {g:Nat} (h1:ι id=some B) (h2:B.g=some g):g < w.heap.size:=
  let ⟨o,ho⟩:=R.dom id B h1
  (R.ob id o ho).lt h1 h2

theorem RelI.gen {K:jb} {ι ι':ay→Option dX} {S S':Nat→Prop} {σ:St} {a:Act} {w w':World} {ob':ay→Slot} {inc':ay→Bool} (R:RelI K ι S σ a w) (M:ay→Prop)
    (hk:Keeps (fun g=> ∃ id B,M id∧ι id=some B∧B.g=some g) w w')
    (hι: ∀ id,¬ M id→ι' id=ι id) (hob: ∀ id,¬ M id→ob' id=σ.ob id) (hinc: ∀ id,¬ M id→inc' id=σ.inc id) (hfree: ∀ id,ob' id= .free→σ.ob id= .free)
    (hS: ∀ g,S g→S' g) (hS': ∀ g,S' g→S g∨w.heap.size≤g∨ ∃ id B,M id∧ι id=some B∧B.g=some g∧ι' id=none∧K.w0.heap.size≤g) (hSlt: ∀ g,S' g→g < w'.heap.size)
    (hM: ∀ id B,M id→ι' id=some B→ι id=some B∨σ.ob id= .free)
    (hobj: ∀ id o,M id→ob' id= .obj o→ObjOk ι' S' w' id o∧ ∀ id',o.Has id'→ob' id'≠ .free)
    (hdom: ∀ id B,M id→ι' id=some B→ ∃ o,ob' id= .obj o)
    (hinj: ∀ id id' B B' g,M id→ι' id=some B→ι' id'=some B'→B.g=some g→B'.g=some g→id=id')
    (hsep: ∀ id B g,M id→ι' id=some B→B.g=some g→ ¬ S' g∧(K.own g∨K.w0.heap.size≤g)∧(inc' id=false→K.w0.heap.size≤g))
    (hpin: ∀ id h o,M id→σ.pin id=some h→ob' id= .obj o→ι' id=ι id∧ ∃ o,σ.ob id= .obj o):RelI K ι' S' { σ with ob:=ob',inc:=inc' } a w':=by
  have hwS: ∀ g,S g→w'.heap[g]? =w.heap[g]? :=fun g hg=> hk.block g (R.Slt g hg) fun ⟨id,B,_,h2,h3⟩=> (R.sep id B g h2 h3).1 hg
  have href: ∀ id B,σ.ob id≠ .free→ι' id=some B→ι id=some B:=by
    intro id B hne hB
    by_cases hm:M id
    · exact (hM id B hm hB).resolve_right hne
    rw [← hι id hm];exact hB
  have hfr': ∀ id,σ.ob id≠ .free→ob' id≠ .free:=fun id h h'=> h (hfree id h')
  have hlt: ∀ id B g,ι id=some B→B.g=some g→g < w.heap.size:=fun id B g h1 h2=> R.lt h1 h2
  refine ⟨R.keeps.trans hk fun g hg ⟨id,B,_,h2,h3⟩=> (R.sep id B g h2 h3).2.1.resolve_right ab,fun g hg=> ?_,hSlt,R.nt,⟨R.df.1,fun d hd=> ?_⟩,fun t ht=> (R.fr t ht).next hwS hS fun id B hb hB=> href id B (R.cl t id hb) hB,
    fun t id hb=> hfr' id (R.cl t id hb),fun id' o id ho hb=> ?_,fun id o ho=> ?_,fun id B hB=> ?_,fun id id' B B' g h1 h2 h3 h4=> ?_,fun id B g h1 h2=> ?_,fun id h o hp ho=> ?_,fun id hf=> R.pf id (hfree id hf)⟩
  · rcases hS' g hg with h | h | ⟨_,_,_,_,_,_,h⟩
    · exact R.S0 g h
    · exact .inr (Nat.le_trans R.keeps.size h)
    exact .inr h
  · obtain ⟨r,h1,h2,h3,h8⟩:=R.df.2 d hd
    have hno: ∀ id B,ι id=some B→B.g≠some r:=by
      intro id B h4 h5
      obtain ⟨o,ho⟩:=R.dom id B h4
      obtain ⟨x,h6,h7⟩:=(R.ob id o ho).at h4 h5
      rw [h2] at h6
      exact h7 _ (Option.some.inj h6).symm
    have hr:=(Array.getElem?_eq_some_iff.1 h2).1
    refine ⟨r,h1,?_,h3,fun hs=> ?_⟩
    · rw [hk.block r hr fun ⟨id,B,_,h4,h5⟩=> hno id B h4 h5]
      exact h2
    rcases hS' r hs with h | h | ⟨id,B,_,h4,h5,_⟩
    · exact h8 h
    · omega
    exact hno id B h4 h5
  · by_cases hm:M id'
    · exact (hobj id' o hm ho).2 id hb
    simp only [hob id' hm] at ho
    exact hfr' id (R.clo id' o id ho hb)
  · by_cases hm:M id
    · exact (hobj id o hm ho).1
    simp only [hob id hm] at ho
    refine (R.ob id o ho).next (hι id hm) (fun B g h1 h2=> hk.block g (hlt id B g h1 h2) fun ⟨id2,B2,hm2,h3,h4⟩=> hm (R.inj id id2 B B2 g h1 h3 h2 h4 ▸ hm2)) hwS hS fun id' B hb hB=> href id' B (R.clo id o id' ho hb) hB
  · by_cases hm:M id
    · exact hdom id B hm hB
    rw [hι id hm] at hB
    simp only [hob id hm]
    exact R.dom id B hB
  · by_cases hm:M id
    · exact hinj id id' B B' g hm h1 h2 h3 h4
    by_cases hm':M id'
    · exact (hinj id' id B' B g hm' h2 h1 h4 h3).symm
    rw [hι id hm] at h1
    rw [hι id' hm'] at h2
    exact R.inj id id' B B' g h1 h2 h3 h4
  · by_cases hm:M id
    · exact hsep id B g hm h1 h2
    rw [hι id hm] at h1
    refine ⟨fun hs=> ?_,(R.sep id B g h1 h2).2.1,by simp only [hinc id hm];exact (R.sep id B g h1 h2).2.2⟩
    rcases hS' g hs with h | h | ⟨id2,B2,hm2,h3,h4,h5,_⟩
    · exact (R.sep id B g h1 h2).1 h
    · have:=hlt id B g h1 h2;omega
    exact hm (R.inj id id2 B B2 g h1 h3 h2 h4 ▸ hm2)
  by_cases hm:M id
  · obtain ⟨h1,o',h2⟩:=hpin id h o hm hp ho
    rw [h1];exact R.pin id h o' hp h2
  rw [hι id hm]
  simp only [hob id hm] at ho
  exact R.pin id h o hp ho

def gh (i j:ay):Bool:=Nat.beq i.1 j.1 && Nat.beq i.2 j.2
theorem oeq_iff {i j:ay}:gh i j=true↔i=j:=by
  obtain ⟨a,b⟩:=i;obtain ⟨c,d⟩:=j
  simp only [gh,Bool.and_eq_true,Prod.mk.injEq,Nat.beq_eq]
theorem dE (i:ay):gh i i=true:=oeq_iff.2 rfl
theorem ic {i j:ay} (h:i≠j):gh i j=false:=by
  cases hh:gh i j with
  | false=> rfl
  | true=> exact absurd (oeq_iff.1 hh) h

def St.eval (σ:St):Operand→AV
  | .tmp t=> bif Nat.blt t σ.n then σ.fr t else .dead
  | .const v=> .v v
  | .global g=> .v (.pointer (some ⟨g,0,none⟩))
  | .func f=> .fn (.func f) [] []

def St.put (σ:St) (d:Option Tmp) (a:AV):St:=
  match d with
  | none=> σ
  | some d=> { σ with fr:=fun t=> bif Nat.beq t d then a else σ.fr t }
def St.setInc (σ:St) (id:ay) (b:Bool):St:={ σ with inc:=fun i=> bif gh i id then b else σ.inc i }
def St.setOb (σ:St) (id:ay) (s:Slot):St:={ σ with ob:=fun i=> bif gh i id then s else σ.ob i }

theorem St.put_ob (σ:St) (d:Option Tmp) (a:AV):(σ.put d a).ob=σ.ob:=by cases d <;> rfl
theorem St.put_n (σ:St) (d:Option Tmp) (a:AV):(σ.put d a).n=σ.n:=by cases d <;> rfl
theorem St.setOb_same (σ:St) (id:ay) (s:Slot):(σ.setOb id s).ob id=s:=by simp [St.setOb,dE]
theorem St.setOb_ne (σ:St) {id i:ay} (s:Slot) (h:i≠id):(σ.setOb id s).ob i=σ.ob i:=by simp [St.setOb,ic h]

section
variable {K:jb} {ι:ay→Option dX} {S:Nat→Prop} {σ:St} {a:Act} {w:World}

theorem RelI.eval (R:RelI K ι S σ a w) (x:Operand):Rep ι S w (σ.eval x) (a.eval x):=by
  cases x with
  | tmp t=>
    simp only [St.eval,Act.eval]
    by_cases h:t < σ.n
    · have:Nat.blt t σ.n=true:=by simpa [Nat.blt_eq] using h
      rw [this];exact R.fr t h
    have:Nat.blt t σ.n=false:=by
      cases hb:Nat.blt t σ.n with
      | false=> rfl
      | true=> rw [Nat.blt_eq] at hb;exact absurd hb h
    rw [this];exact .dead
  | const v=> exact .v
  | global g=> exact .v
  | func f=> exact .fn rfl rfl (by simp) (by simp)

theorem RelI.evalHas (R:RelI K ι S σ a w) (x:Operand) {id:ay} (h:Has id (σ.eval x)):σ.ob id≠ .free:=by
  cases x with
  | tmp t=>
    simp only [St.eval] at h
    by_cases ht:t < σ.n
    · have:Nat.blt t σ.n=true:=by simpa [Nat.blt_eq] using ht
      rw [this] at h;exact R.cl t id h
    have:Nat.blt t σ.n=false:=by
      cases hb:Nat.blt t σ.n with
      | false=> rfl
      | true=> rw [Nat.blt_eq] at hb;exact absurd hb ht
    rw [this] at h;cases h
  | const v=> cases h
  | global g=> cases h
  | func f=> cases h <;> simp at*

theorem RelI.put (R:RelI K ι S σ a w) (d:Option Tmp) {av:AV} {v:Value} (h:Rep ι S w av v) (hh: ∀ id,Has id av→σ.ob id≠ .free):RelI K ι S (σ.put d av) (a.put d v) w:=by
  cases d with
  | none=> exact R
  | some d=>
    refine ⟨R.keeps,R.S0,R.Slt,by simpa [Act.put,St.put] using R.nt,R.df,fun t ht=> ?_,fun t id hb=> ?_,R.clo,R.ob,R.dom,R.inj,R.sep,R.pin,R.pf⟩
    · simp only [St.put,Act.put] at ht ⊢
      by_cases hd:t=d
      · subst hd
        have:Nat.beq t t=true:=Nat.beq_refl t
        have hs:t < a.tmps.size:=by rw [R.nt];exact ht
        simp only [this,cond_true]
        simpa [hs] using h
      have:Nat.beq t d=false:=by
        cases hb:Nat.beq t d with
        | false=> rfl
        | true=> exact absurd (Nat.eq_of_beq_eq_true hb) hd
      simp only [this,cond_false]
      have:=R.fr t ht
      simpa [Array.getElem?_setIfInBounds_ne (Ne.symm hd)] using this
    simp only [St.put] at hb ⊢
    by_cases hd:Nat.beq t d=true
    · simp only [hd,cond_true] at hb;exact hh id hb
    have hd':Nat.beq t d=false:=Bool.eq_false_iff.2 hd
    simp only [hd',cond_false] at hb;exact R.cl t id hb

def mn (ι:ay→Option dX) (id:ay) (B:Option dX):ay→Option dX:=fun i=> if i=id then B else ι i
theorem cm (ι:ay→Option dX) (id:ay) (B:Option dX):mn ι id B id=B:=by simp [mn]
theorem kX (ι:ay→Option dX) {id i:ay} (B:Option dX) (h:i≠id):mn ι id B i=ι i:=by simp [mn,h]

theorem RelI.new (R:RelI K ι S σ a w) {w':World} {id:ay} {o:Cells} {B:dX} (hid:σ.ob id= .free) (hb:Below w.heap.size w w') (hB: ∀ g,B.g=some g→w.heap.size≤g)
    (ho:ObjOk (mn ι id (some B)) S w' id o) (hh: ∀ id',o.Has id'→id'=id∨σ.ob id'≠ .free):RelI K (mn ι id (some B)) S (σ.setOb id (.obj o)) a w':=by
  have hold: ∀ i B' g,ι i=some B'→B'.g=some g→g < w.heap.size:=fun i B' g h1 h2=> R.lt h1 h2
  have hι0:ι id=none:=by
    cases h:ι id with
    | none=> rfl
    | some B'=> obtain ⟨o',ho'⟩:=R.dom id B' h;rw [hid] at ho';cases ho'
  refine R.gen (ob':=(σ.setOb id (.obj o)).ob) (inc':=σ.inc) (· =id) (.of_below hb) (fun i hi=> kX _ _ hi) (fun i hi=> St.setOb_ne _ _ hi) (fun _ _=> rfl) (fun i hi=> ?_) (fun _ h=> h) (fun _ h=> .inl h) (fun g hg=> Nat.lt_of_lt_of_le (R.Slt g hg) hb.size)
    (fun i B' hi hB'=> .inr (hi ▸ hid)) (fun i o' hi ho'=> ?_) (fun i B' hi _=> ⟨o,by subst hi;exact St.setOb_same _ _ _⟩) (fun i i' B1 B2 g hi h1 h2 h3 h4=> ?_) (fun i B' g hi h1 h2=> ?_) (fun i h o' hi hp _=> by subst hi;rw [R.pf i hid] at hp;cases hp)
  · by_cases h:i=id
    · subst h;exact hid
    rwa [St.setOb_ne _ _ h] at hi
  · subst hi
    rw [St.setOb_same] at ho'
    obtain rfl:=Slot.obj.inj ho'
    refine ⟨ho,fun id' hb'=> ?_⟩
    by_cases h:id'=i
    · subst h;rw [St.setOb_same];intro h;cases h
    rw [St.setOb_ne _ _ h];exact (hh id' hb').resolve_left h
  · subst hi
    rw [cm] at h1
    obtain rfl:=Option.some.inj h1
    by_cases h:i'=i
    · exact h.symm
    rw [kX _ _ h] at h2
    have:=hold i' B2 g h2 h4
    have:=hB g h3
    omega
  subst hi
  rw [cm] at h1
  obtain rfl:=Option.some.inj h1
  have:=hB g h2
  have:=Nat.le_trans R.keeps.size this
  exact ⟨fun hs=> by have:=R.Slt g hs;omega, .inr this,fun _=> this⟩

theorem RelI.upd (R:RelI K ι S σ a w) {w':World} {id:ay} {o o':Cells} {B:dX} (hid:σ.ob id= .obj o) (hB:ι id=some B) (hk:Keeps (fun g=> B.g=some g) w w')
    (ho:ObjOk ι S w' id o') (hh: ∀ id',o'.Has id'→σ.ob id'≠ .free):RelI K ι S (σ.setOb id (.obj o')) a w':=by
  refine R.gen (ob':=(σ.setOb id (.obj o')).ob) (inc':=σ.inc) (· =id) (hk.mono fun g hg=> ⟨id,B,rfl,hB,hg⟩) (fun i hi=> rfl) (fun i hi=> St.setOb_ne _ _ hi) (fun _ _=> rfl) (fun i hi=> ?_) (fun _ h=> h) (fun _ h=> .inl h) (fun g hg=> Nat.lt_of_lt_of_le (R.Slt g hg) hk.size)
    (fun i B' hi hB'=> .inl hB') (fun i o2 hi ho2=> ?_) (fun i B' hi _=> ⟨o',by subst hi;exact St.setOb_same _ _ _⟩) (fun i i' B1 B2 g _ h1 h2 h3 h4=> R.inj i i' B1 B2 g h1 h2 h3 h4) (fun i B' g hi h1 h2=> R.sep i B' g h1 h2) (fun i h o' hi hp _=> ⟨rfl,o,by subst hi;exact hid⟩)
  · by_cases h:i=id
    · subst h;rw [St.setOb_same] at hi;cases hi
    rwa [St.setOb_ne _ _ h] at hi
  subst hi
  rw [St.setOb_same] at ho2
  obtain rfl:=Slot.obj.inj ho2
  refine ⟨ho,fun id' hb'=> ?_⟩
  by_cases h:id'=i
  · subst h;rw [St.setOb_same];intro h;cases h
  rw [St.setOb_ne _ _ h];exact hh id' hb'

theorem RelI.moved (R:RelI K ι S σ a w) {w':World} {id id':ay} {o o':Cells} {B B':dX} (hid:σ.ob id= .obj o) (hid':σ.ob id'= .free) (hB:ι id=some B) (hk:Keeps (fun g=> B.g=some g) w w')
    (hB': ∀ g,B'.g=some g→B.g=some g∨w.heap.size≤g)
    (ho:ObjOk (mn (mn ι id none) id' (some B')) S w' id' o') (hh: ∀ i,o'.Has i→i=id'∨σ.ob i≠ .free):RelI K (mn (mn ι id none) id' (some B')) S (((σ.setOb id .gone).setOb id' (.obj o')).setInc id' (σ.inc id)) a w':=by
  have hne:id'≠id:=fun e=> by subst e;rw [hid] at hid';cases hid'
  have hold: ∀ i B2 g,ι i=some B2→B2.g=some g→g < w.heap.size:=fun i B2 g h1 h2=> R.lt h1 h2
  have hob: ∀ i,i≠id→i≠id'→((σ.setOb id .gone).setOb id' (.obj o')).ob i=σ.ob i:=fun i h h'=> by rw [St.setOb_ne _ _ h',St.setOb_ne _ _ h]
  have hob1:((σ.setOb id .gone).setOb id' (.obj o')).ob id= .gone:=by rw [St.setOb_ne _ _ (Ne.symm hne),St.setOb_same]
  have hι1:mn (mn ι id none) id' (some B') id=none:=by rw [kX _ _ (Ne.symm hne),cm]
  have hι2: ∀ i,i≠id→i≠id'→mn (mn ι id none) id' (some B') i=ι i:=fun i h h'=> by rw [kX _ _ h',kX _ _ h]
  refine R.gen (ob':=((σ.setOb id .gone).setOb id' (.obj o')).ob) (inc':=fun i=> bif gh i id' then σ.inc id else σ.inc i) (fun i=> i=id∨i=id') (hk.mono fun g hg=> ⟨id,B, .inl rfl,hB,hg⟩) (fun i hi=> hι2 i (fun h=> hi (.inl h)) fun h=> hi (.inr h)) (fun i hi=> hob i (fun h=> hi (.inl h)) fun h=> hi (.inr h))
    (fun i hi=> by simp only [ic (fun h=> hi (.inr h)),cond_false]) (fun i hi=> ?_) (fun _ h=> h) (fun _ h=> .inl h)
    (fun g hg=> Nat.lt_of_lt_of_le (R.Slt g hg) hk.size) (fun i B2 hi hB2=> ?_) (fun i o2 hi ho2=> ?_) (fun i B2 hi hB2=> ?_) (fun i i' B1 B2 g hi h1 h2 h3 h4=> ?_) (fun i B2 g hi h1 h2=> ?_)
    (fun i h o2 hi hp ho2=> by
      rcases hi with rfl | rfl
      · exact absurd (hob1.symm.trans ho2) (by intro h;cases h)
      rw [R.pf i hid'] at hp;cases hp)
  · by_cases h:i=id
    · subst h;exact absurd (hob1.symm.trans hi) (by intro h;cases h)
    by_cases h':i=id'
    · subst h';exact hid'
    rwa [hob i h h'] at hi
  · rcases hi with rfl | rfl
    · rw [hι1] at hB2;cases hB2
    exact .inr hid'
  · rcases hi with rfl | rfl
    · exact absurd (hob1.symm.trans ho2) (by intro h;cases h)
    have:=(St.setOb_same (σ.setOb id .gone) i (.obj o')).symm.trans ho2
    obtain rfl:=Slot.obj.inj this
    refine ⟨ho,fun i2 hb'=> ?_⟩
    by_cases h:i2=i
    · subst h;intro hf;exact absurd ((St.setOb_same (σ.setOb id .gone) i2 (.obj o')).symm.trans hf) (by intro h;cases h)
    by_cases h':i2=id
    · subst h';intro hf;exact absurd (hob1.symm.trans hf) (by intro h;cases h)
    intro hf;exact (hh i2 hb').resolve_left h ((hob i2 h' h).symm.trans hf)
  · rcases hi with rfl | rfl
    · rw [hι1] at hB2;cases hB2
    exact ⟨o',St.setOb_same _ _ _⟩
  · rcases hi with rfl | rfl
    · rw [hι1] at h1;cases h1
    rw [cm] at h1
    obtain rfl:=Option.some.inj h1
    by_cases h:i'=i
    · exact h.symm
    by_cases h':i'=id
    · subst h';rw [hι1] at h2;cases h2
    rw [hι2 i' h' h] at h2
    rcases hB' g h3 with h5 | h5
    · exact absurd (R.inj i' id B2 B g h2 hB h4 h5) h'
    have:=hold i' B2 g h2 h4;omega
  rcases hi with rfl | rfl
  · rw [hι1] at h1;cases h1
  rw [cm] at h1
  obtain rfl:=Option.some.inj h1
  rcases hB' g h2 with h5 | h5
  · simp only [dE,cond_true];exact R.sep id B g hB h5
  have:=Nat.le_trans R.keeps.size h5
  exact ⟨fun hs=> by have:=R.Slt g hs;omega, .inr this,fun _=> this⟩

end

mutual
def PV.up:PV→AV
  | .v x=> .v x
  | .sl n xs=> .sl n xs
  | .ptr o xs=> .fp o xs
  | .fn f a b=> .fn f (PV.ups a) (PV.ups b)
  | .ifc t p=> .ifc t p.up
def PV.ups:List PV→List AV
  | []=> []
  | p::l=> p.up::PV.ups l
end

theorem oo: ∀ (l:List PV) (j:Nat),(PV.ups l)[j]? =(l[j]?).map PV.up
  | [],j=> by simp [PV.ups]
  | p::l,0=> by simp [PV.ups]
  | p::l,j+1=> by simp [PV.ups,oo l j]
theorem rM: ∀ (l:List PV),(PV.ups l).length=l.length
  | []=> rfl
  | p::l=> by simp [PV.ups,rM l]
mutual
theorem ru {id:ay}: ∀ (p:PV),¬ Has id p.up
  | .v _,h=> by simp only [PV.up] at h;cases h
  | .sl _ _,h=> by simp only [PV.up] at h;cases h
  | .ptr _ _,h=> by simp only [PV.up] at h;cases h
  | .fn f a b,h=> by
    simp only [PV.up] at h
    cases h with
    | fn1 hm h=> exact oF a _ hm h
    | fn2 hm h=> exact oF b _ hm h
  | .ifc t p,h=> by
    simp only [PV.up] at h
    cases h with
    | ifc h=> exact ru p h
theorem oF {id:ay}: ∀ (l:List PV) (a:AV),a∈PV.ups l→ ¬ Has id a
  | [],a,h=> by simp [PV.ups] at h
  | p::l,a,h=> by
    simp only [PV.ups,List.mem_cons] at h
    rcases h with rfl | h
    · exact ru p
    exact oF l a h
end

theorem Rd.up {ι:ay→Option dX} {S:Nat→Prop} {w:World} {p:PV} {u:Value} (h:Rd S w p u):Rep ι S w p.up u:=by
  induction h with
  | v h1=> simp only [PV.up];exact .v
  | sl0 a b c=> simp only [PV.up];exact .sl (.sl0 a b c)
  | sl us h0 h1 hs h2 h3 ih=> simp only [PV.up];exact .sl (.sl us h0 h1 hs h2 h3)
  | ptr us hs h2 h3 ih=> simp only [PV.up];exact .fp (.ptr us hs h2 h3)
  | fn h1 h2 h3 h4 i3 i4=>
    simp only [PV.up]
    refine .fn (by rw [rM];exact h1) (by rw [rM];exact h2) (fun j q hq=> ?_) fun j q hq=> ?_
    · rw [oo] at hq
      obtain ⟨p,hp,rfl⟩:=Option.map_eq_some_iff.1 hq
      exact i3 j p hp
    rw [oo] at hq
    obtain ⟨p,hp,rfl⟩:=Option.map_eq_some_iff.1 hq
    exact i4 j p hp
  | ifc h ih=> simp only [PV.up];exact .ifc ih

def AV.dn0:AV→Option PV
  | .sl n xs=> some (.sl n xs)
  | .fp o xs=> some (.ptr o xs)
  | _=> none
def xV:List AV→Option (List PV)
  | []=> some []
  | a::l=> match a.dn0,xV l with
    | some p,some r=> some (p::r)
    | _,_=> none
theorem pM: ∀ {l:List AV} {r:List PV},xV l=some r→l.length=r.length∧ ∀ (j:Nat) (p:PV),r[j]? =some p→ ∃ a,l[j]? =some a∧a.dn0=some p
  | [],r,h=> by simp [xV] at h;subst h;simp
  | a::l,r,h=> by
    simp only [xV] at h
    split at h
    · rename_i p r' hp hr
      obtain rfl:=Option.some.inj h
      obtain ⟨h1,h2⟩:=pM hr
      refine ⟨by simp [h1],fun j q hq=> ?_⟩
      cases j with
      | zero=> simp at hq;subst hq;exact ⟨a,by simp,hp⟩
      | succ j=> exact h2 j q (by simpa using hq)
    cases h
theorem Rep.dn0 {ι:ay→Option dX} {S:Nat→Prop} {w:World} {a:AV} {u:Value} (h:Rep ι S w a u) {p:PV} (hp:a.dn0=some p):Rd S w p u:=by
  cases h <;> simp [AV.dn0] at hp <;> subst hp
  · assumption
  assumption
def AV.down:AV→Option PV
  | .v x=> some (.v x)
  | .sl n xs=> some (.sl n xs)
  | .fp o xs=> some (.ptr o xs)
  | .fn f a b=> match xV a,xV b with
    | some x,some y=> some (.fn f x y)
    | _,_=> none
  | _=> none
theorem Rep.down {ι:ay→Option dX} {S:Nat→Prop} {w:World} {a:AV} {u:Value} (h:Rep ι S w a u) {p:PV} (hp:a.down=some p) (h1:u.oneCell'=true):Rd S w p u:=by
  cases h with
  | fn h2 h3 h4 h5=>
    simp only [AV.down] at hp
    split at hp
    · rename_i x y hx hy
      obtain rfl:=Option.some.inj hp
      obtain ⟨e1,e2⟩:=pM hx
      obtain ⟨e3,e4⟩:=pM hy
      refine .fn (by rw [h2,e1]) (by rw [h3,e3]) (fun j p hp=> ?_) fun j p hp=> ?_
      · obtain ⟨a,ha,hd⟩:=e2 j p hp
        exact (h4 j a ha).dn0 hd
      obtain ⟨a,ha,hd⟩:=e4 j p hp
      exact (h5 j a ha).dn0 hd
    cases hp
  | v=> simp [AV.down] at hp;subst hp;exact .v h1
  | sl h=> simp [AV.down] at hp;subst hp;exact h
  | fp h=> simp [AV.down] at hp;subst hp;exact h
  | _=> simp [AV.down] at hp

def AV.cells:AV→Option (List AV)
  | .agg xs=> some xs
  | .tup _=> none
  | .dead=> none
  | .v x=> if x.oneCell'=true then some [.v x] else none
  | a=> some [a]

theorem Rep.one {ι:ay→Option dX} {S:Nat→Prop} {w:World} {a:AV} {u:Value} (h:Rep ι S w a u) (ha:a.cells=some [a]):u.oneCell'=true:=by
  cases h with
  | dead=> simp [AV.cells] at ha
  | v=>
    simp only [AV.cells] at ha
    split at ha
    · assumption
    cases ha
  | sl h=> exact h.one
  | fp h=> exact h.one
  | ref _ h1=> exact h1
  | ptr _ h1=> exact h1
  | agg _ _ _=>
    simp only [AV.cells] at ha
    injection ha with ha
    have:=congrArg SizeOf.sizeOf ha
    simp at this
    omega
  | fn _ _ _ _=> rfl
  | ifc _=> rfl
  | z=> rfl
  | mp _ h1=> exact h1
  | tup _ _=> simp [AV.cells] at ha

theorem Rep.cells {ι:ay→Option dX} {S:Nat→Prop} {w:World} {a:AV} {u:Value} (h:Rep ι S w a u) {xs:List AV} (ha:a.cells=some xs):
    u.cells.size=xs.length∧(∀ x∈u.cells.toList,x.oneCell'=true)∧ ∀ j b,xs[j]? =some b→Rep ι S w b (u.cells.getD j undef):=by
  have single:a.cells=some [a]→u.oneCell'=true→xs=[a]→u.cells.size=xs.length∧(∀ x∈u.cells.toList,x.oneCell'=true)∧ ∀ j b,xs[j]? =some b→Rep ι S w b (u.cells.getD j undef):=by
    intro h0 h1 h2
    subst h2
    have hc:u.cells= #[u]:=xK h1
    rw [hc]
    refine ⟨rfl,by simpa using h1,fun j b hb=> ?_⟩
    cases j with
    | zero=> simp at hb;subst hb;simpa using h
    | succ j=> simp at hb
  cases h with
  | dead=> simp [AV.cells] at ha
  | v=>
    simp only [AV.cells] at ha
    split at ha
    · rename_i h1
      exact single (by simp [AV.cells,h1]) h1 (Option.some.inj ha).symm
    cases ha
  | sl h0=> exact single rfl h0.one (Option.some.inj ha).symm
  | fp h0=> exact single rfl h0.one (Option.some.inj ha).symm
  | ref _ h1=> exact single rfl h1 (Option.some.inj ha).symm
  | ptr _ h1=> exact single rfl h1 (Option.some.inj ha).symm
  | agg h1 h2 h3=> obtain rfl:=Option.some.inj ha;exact ⟨h1,h2,h3⟩
  | fn _ _ _ _=> exact single rfl rfl (Option.some.inj ha).symm
  | ifc _=> exact single rfl rfl (Option.some.inj ha).symm
  | z=> exact single rfl rfl (Option.some.inj ha).symm
  | mp _ h1=> exact single rfl h1 (Option.some.inj ha).symm
  | tup _ _=> simp [AV.cells] at ha
theorem nk {a:AV} {xs:List AV} (ha:a.cells=some xs) {id:ay} {b:AV} (hb:b∈xs) (h:Has id b):Has id a:=by
  have single:xs=[a]→Has id a:=fun e=> by subst e;simp at hb;subst hb;exact h
  cases a <;> simp only [AV.cells] at ha <;> first
    | (obtain rfl:=Option.some.inj ha;exact .agg hb h)
    | exact single (Option.some.inj ha).symm
    | (split at ha <;> first | exact single (Option.some.inj ha).symm | cases ha)
    | cases ha

def gH (P:Program) (o:Oper) (σ σ':St):Prop:=
  ∀ K ι S a w,RelI K ι S σ a w→fl P o a.eval w fun v w'=> ∃ ι' S',RelI K ι' S' σ' (a.put o.dst v) w'

section
variable {P:Program} {o:Oper} {σ:St} {av:AV}

theorem bs (h: ∀ K ι S a w,RelI K ι S σ a w→ ∃ v,(execOp a.eval o).run P w= .ok (.value v) w∧Rep ι S w av v∧ ∀ id,Has id av→σ.ob id≠ .free):gH P o σ (σ.put o.dst av):=
  fun K ι S a w R=> let ⟨_,h1,h2,h3⟩:=h K ι S a w R;bZ h1 ⟨ι,S,R.put o.dst h2 h3⟩

theorem eU {x:Value} {id:ay} {Q:Prop}:Has id (.v x)→Q:=fun h=> by cases h
theorem sN {n:Nat} {xs:List PV} {id:ay} {Q:Prop}:Has id (.sl n xs)→Q:=fun h=> by cases h
theorem uT {n:Nat} {xs:List PV} {id:ay} {Q:Prop}:Has id (.fp n xs)→Q:=fun h=> by cases h

theorem Rep.toV {ι:ay→Option dX} {S:Nat→Prop} {w:World} {x u:Value} (h:Rep ι S w (.v x) u):u=x:=by cases h;rfl

theorem RelI.ptrB {K:jb} {ι:ay→Option dX} {S:Nat→Prop} {σ:St} {a:Act} {w:World} (R:RelI K ι S σ a w) {id:ay} {oc:Cells} (hid:σ.ob id= .obj oc) {x:Operand} {off:Nat} (hx:σ.eval x= .ptr id off):
    ∃ B g,ι id=some B∧B.g=some g∧a.eval x= .pointer (some ⟨g,off,none⟩):=by
  have ho:=R.ob id oc hid
  have hp:=R.eval x
  rw [hx] at hp
  cases hp with
  | ptr h _=>
    obtain ⟨B,hB⟩:=ho.ex
    obtain ⟨g,h2,h3⟩:=h B hB
    exact ⟨B,g,hB,h2,h3⟩

theorem RelI.refB {K:jb} {ι:ay→Option dX} {S:Nat→Prop} {σ:St} {a:Act} {w:World} (R:RelI K ι S σ a w) {id:ay} {e:TypeId} {sz:Nat} {xs:List PV} (hid:σ.ob id= .obj (.row e sz xs)) {x:Operand} {off n:Nat} (hx:σ.eval x= .ref id off n):
    ∃ B,ι id=some B∧B.sz=sz∧Fy B off n (a.eval x)∧RowOk w B e xs.length fun j u=> ∀ p,xs[j]? =some p→Rd S w p u:=by
  obtain ⟨B,h1,h2,h3⟩:=R.ob id _ hid
  have hp:=R.eval x
  rw [hx] at hp
  cases hp with
  | ref h _=> exact ⟨B,h1,h2,h B h1,h3⟩

theorem RelI.boxB {K:jb} {ι:ay→Option dX} {S:Nat→Prop} {σ:St} {a:Act} {w:World} (R:RelI K ι S σ a w) {id:ay} {e:TypeId} {xs:List AV} (hid:σ.ob id= .obj (.box e xs)) {x:Operand} {off:Nat} (hx:σ.eval x= .ptr id off):
    ∃ B g cur,ι id=some B∧B.g=some g∧a.eval x= .pointer (some ⟨g,off,none⟩)∧w.heap[g]? =some (.cells cur e (0,0))∧(cur.size=B.tot∧xs.length≤cur.size)∧(∀ (j:Nat) (b:AV),xs[j]? =some b→ ∃ u,cur[j]? =some u∧u.oneCell'=true∧Rep ι S w b u):=by
  obtain ⟨B,g,h1,h2,h3⟩:=R.ptrB hid hx
  obtain ⟨B',g',h4,h5,h6,h7⟩:=R.ob id _ hid
  rw [h1] at h4
  obtain rfl:=Option.some.inj h4
  rcases h7 with ⟨h8,_⟩ | ⟨g2,cur,h8,h9,h10,h11,h12⟩
  · rw [h2] at h8;cases h8
  rw [h2] at h8
  obtain rfl:=Option.some.inj h8
  refine ⟨B,g,cur,h1,h2,h3,h9,⟨h10,h11⟩,fun j b hb=> ?_⟩
  obtain ⟨u,hu,hu1,hu2⟩:=h12 j (List.getElem?_eq_some_iff.1 hb).1
  exact ⟨u,hu,hu1,hu2 b hb⟩

theorem RelI.rowB {K:jb} {ι:ay→Option dX} {S:Nat→Prop} {σ:St} {a:Act} {w:World} (R:RelI K ι S σ a w) {id:ay} {e:TypeId} {sz:Nat} {xs:List PV} (hid:σ.ob id= .obj (.row e sz xs)) {x:Operand} {off:Nat} (hx:σ.eval x= .ptr id off):
    ∃ B g cur,ι id=some B∧B.g=some g∧a.eval x= .pointer (some ⟨g,off,none⟩)∧w.heap[g]? =some (.cells cur e (0,0))∧B.sz=sz∧cur.size=B.tot∧xs.length≤cur.size∧(∀ (j:Nat) (b:PV),xs[j]? =some b→ ∃ u,cur[j]? =some u∧u.oneCell'=true∧Rd S w b u):=by
  obtain ⟨B,g,h1,h2,h3⟩:=R.ptrB hid hx
  obtain ⟨B',h4,h5,h7⟩:=R.ob id _ hid
  rw [h1] at h4
  obtain rfl:=Option.some.inj h4
  rcases h7 with ⟨h8,_⟩ | ⟨g2,cur,h8,h9,h10,h11,h12⟩
  · rw [h2] at h8;cases h8
  rw [h2] at h8
  obtain rfl:=Option.some.inj h8
  refine ⟨B,g,cur,h1,h2,h3,h9,h5,h10,h11,fun j b hb=> ?_⟩
  obtain ⟨u,hu,hu1,hu2⟩:=h12 j (List.getElem?_eq_some_iff.1 hb).1
  exact ⟨u,hu,hu1,hu2 b hb⟩

theorem ee {w:World} {g off:Nat} {cur:Array Value} {e:TypeId} {u:Value} (hg:w.heap[g]? =some (.cells cur e (0,0))) (hu:cur[off]? =some u):w.cell? ⟨g,off,none⟩=some u:=by
  simp [World.cell?,hg,hu]

variable {t:TypeId} {z:List Value}
theorem ox {α:Type} {R:Nat→α→Prop}: ∀ (k:Nat),(∀ j,j < k→ ∃ u,R j u)→ ∃ us:List α,us.length=k∧ ∀ j u,us[j]? =some u→R j u
  | 0,_=> ⟨[],rfl,by simp⟩
  | k+1,h=> by
    obtain ⟨us,h1,h2⟩:=ox k fun j hj=> h j ab
    obtain ⟨u,hu⟩:=h k ab
    refine ⟨us++[u],by simp [h1],fun j v hv=> ?_⟩
    rw [List.getElem?_append] at hv
    split at hv
    · exact h2 j v hv
    rename_i hj
    have:j - us.length=0:=by
      have:=(List.getElem?_eq_some_iff.1 hv).1
      simp at this;omega
    rw [this] at hv
    simp at hv
    subst hv
    have:j=k:=by omega
    subst this;exact hu

theorem pI (x:Operand) (ho:o.op= .load t x) (T:Ty P t true z) {xs:List AV} (hl:xs.length=z.length)
    (h: ∀ K ι S a w,RelI K ι S σ a w→ ∃ g off,a.eval x= .pointer (some ⟨g,off,none⟩)∧(∀ j b,xs[j]? =some b→ ∃ u,w.cell? ⟨g,off+j,none⟩=some u∧u.oneCell'=true∧Rep ι S w b u)∧ ∀ i,(∃ b∈xs,Has i b)→σ.ob i≠ .free):gH P o σ (σ.put o.dst (.agg xs)):=by
  refine bs fun K ι S a w R=> ?_
  obtain ⟨g,off,h1,h2,h3⟩:=h K ι S a w R
  obtain ⟨us,hu1,hu2⟩:=ox (R:=fun j u=> w.cell? ⟨g,off+j,none⟩=some u∧u.oneCell'=true∧ ∀ b,xs[j]? =some b→Rep ι S w b u) xs.length fun j hj=> by
    obtain ⟨u,a1,a2,a3⟩:=h2 j _ (List.getElem?_eq_getElem hj)
    exact ⟨u,a1,a2,fun b hb=> by rw [List.getElem?_eq_getElem hj] at hb;obtain rfl:=Option.some.inj hb;exact a3⟩
  refine ⟨.agg us.toArray,CQ x ho h1 (fun j u hu=> by rw [Addr.add_lit];exact (hu2 j u hu).1) ab, .agg (by simpa using hu1) (fun u hu=> ?_) (fun j b hb=> ?_),fun i hi=> ?_⟩
  · obtain ⟨j,hj,rfl⟩:=List.getElem_of_mem (by simpa using hu)
    exact (hu2 j _ (List.getElem?_eq_getElem hj)).2.1
  · have hj:j < us.length:=by rw [hu1];exact (List.getElem?_eq_some_iff.1 hb).1
    have:=(hu2 j _ (List.getElem?_eq_getElem hj)).2.2 b hb
    simpa [hj] using this
  cases hi with
  | agg hm h=> exact h3 i ⟨_,hm,h⟩

end

section
variable {P:Program} {o:Oper} {σ:St} {av:AV} {t e:TypeId} {agg:Bool} {z:List Value}

theorem mA (w:World) (g:Nat) (cs:Array Value) {own:Nat→Prop} (h:own g):Keeps own w (w.setRow g cs):=
  ⟨rfl,rfl,rfl,by simp,fun k _ hk=> setRow_other w g k _ fun e=> hk (e ▸ h)⟩

theorem RelI.newBox {K:jb} {ι:ay→Option dX} {S:Nat→Prop} {a:Act} {w:World} (R:RelI K ι S σ a w) {id:ay} (hid:σ.ob id= .free) (e:TypeId) {us:Array Value} {xs:List AV}
    (h1:us.size=xs.length) (h2: ∀ x∈us.toList,x.oneCell'=true) (h3: ∀ j b,xs[j]? =some b→Rep ι S w b (us.getD j undef)) (h4: ∀ b∈xs,∀ i,Has i b→σ.ob i≠ .free) (d:Option Tmp):
    ∃ ι' S',RelI K ι' S' ((σ.setOb id (.obj (.box e xs))).put d (.ptr id 0)) (a.put d (.pointer (some ⟨w.heap.size,0,none⟩))) (w.alloc (.cells us e)):=by
  have hn: ∀ i,(∃ b∈xs,Has i b)→i≠id:=fun i ⟨b,hb,hi⟩ e=> by subst e;exact h4 b hb i hi hid
  have hw: ∀ g,S g→(w.alloc (.cells us e)).heap[g]? =w.heap[g]? :=fun g hg=> Below.heap_alloc _ _ _ (R.Slt g hg)
  have R1:=R.new (w':=w.alloc (.cells us e)) (o:= .box e xs) (B:=⟨some w.heap.size,xs.length,0⟩) hid ((Below.refl _ _).alloc (Nat.le_refl _) _) (fun g hg=> by obtain rfl:=Option.some.inj hg;exact Nat.le_refl _)
    ⟨_,w.heap.size,cm _ _ _,rfl,Nat.le_refl _, .inr ⟨w.heap.size,us,rfl,heap_alloc_new w _,h1,by omega,fun j hj=> by
      have hju:j < us.size:=by omega
      refine ⟨us[j],by simp [hju],h2 _ (by simp),fun b hb=> ?_⟩
      have:=h3 j b hb
      simp [hju] at this
      exact this.next hw (fun _ h=> h) fun i B hi hB=> by rwa [kX _ _ (hn i ⟨b,List.mem_of_getElem? hb,hi⟩)] at hB⟩⟩
    (fun i ⟨b,hb,hi⟩=> .inr (h4 b hb i hi))
  refine ⟨_,S,R1.put d (.ptr (fun B hB=> ?_) rfl) fun i hi=> ?_⟩
  · rw [cm] at hB
    obtain rfl:=Option.some.inj hB
    exact ⟨_,rfl,rfl⟩
  cases hi;rw [St.setOb_same];intro h;cases h

def ez {α:Type} (cs:List α) (off:Nat) (vs:List α):List α:=cs.take off++vs++cs.drop (off+vs.length)
theorem fb {α:Type} (cs vs:List α) (off:Nat) (h:off+vs.length≤cs.length):(ez cs off vs).length=cs.length:=by simp [ez];omega
theorem fa {α:Type} (cs vs:List α) (off:Nat) (h:off+vs.length≤cs.length) (j:Nat):(ez cs off vs)[j]? =if off≤j∧j < off+vs.length then vs[j - off]? else cs[j]? :=by
  simp only [ez]
  by_cases h1:j < off
  · rw [if_neg ab,List.append_assoc,List.getElem?_append,if_pos (by simp;omega),List.getElem?_take,if_pos h1]
  by_cases h2:j < off+vs.length
  · rw [if_pos ⟨by omega,h2⟩,List.append_assoc,List.getElem?_append,if_neg (by simp;omega),List.length_take,List.getElem?_append,if_pos ab]
    congr 1;omega
  rw [if_neg ab,List.getElem?_append,if_neg (by simp;omega),List.getElem?_drop]
  congr 1;simp;omega
theorem pZ {α:Type} {cs vs:List α} {off:Nat} {u:α} (h:u∈ez cs off vs):u∈cs∨u∈vs:=by
  simp only [ez,List.mem_append] at h
  rcases h with (h | h) | h
  · exact .inl (List.mem_of_mem_take h)
  · exact .inr h
  exact .inl (List.mem_of_mem_drop h)
theorem zh {α:Type} (cs:List α) (off:Nat) (u:α) (h:off < cs.length):ez cs off [u]=cs.set off u:=by
  simp [ez,List.set_eq_take_append_cons_drop,h]
theorem tk (cs:List Value) (off:Nat) (vs:List Value):put cs off vs=ez cs off vs:=rfl

def kh:List AV→Option (List PV)
  | []=> some []
  | a::l=> match a.down,kh l with
    | some p,some r=> some (p::r)
    | _,_=> none
theorem fS: ∀ {l:List AV} {r:List PV},kh l=some r→l.length=r.length∧ ∀ (j:Nat) (p:PV),r[j]? =some p→ ∃ a,l[j]? =some a∧a.down=some p
  | [],r,h=> by simp [kh] at h;subst h;simp
  | a::l,r,h=> by
    simp only [kh] at h
    split at h
    · rename_i p r' hp hr
      obtain rfl:=Option.some.inj h
      obtain ⟨h1,h2⟩:=fS hr
      refine ⟨by simp [h1],fun j q hq=> ?_⟩
      cases j with
      | zero=> simp at hq;subst hq;exact ⟨a,by simp,hp⟩
      | succ j=> simpa using h2 j q (by simpa using hq)
    cases h

theorem RelI.newRow {K:jb} {ι:ay→Option dX} {S:Nat→Prop} {a:Act} {w w':World} (R:RelI K ι S σ a w) {id:ay} (hid:σ.ob id= .free) (hb:Below w.heap.size w w') (e:TypeId) (sz n:Nat) {g c:Nat} {cur:Array Value} {xs:List PV}
    (hg:w'.heap[g]? =some (.cells cur e (0,0))) (hge:w.heap.size≤g) (hn:n≤c) (hc:c≤maxLen) (hcs:cur.size=c*sz) (h1:xs.length=n*sz) (h2: ∀ (j:Nat) (b:PV),xs[j]? =some b→ ∃ u,cur[j]? =some u∧u.oneCell'=true∧Rd S w b u) (d:Option Tmp):
    ∃ ι' S',RelI K ι' S' ((σ.setOb id (.obj (.row e sz xs))).put d (.ref id 0 n)) (a.put d (.slice (some ⟨g,0,none⟩) n c)) w':=by
  have hw: ∀ k,S k→w'.heap[k]? =w.heap[k]? :=fun k hk=> hb.block k (R.Slt k hk)
  have R1:=R.new (w':=w') (o:= .row e sz xs) (B:=⟨some g,cur.size,sz⟩) hid hb (fun k hk=> by obtain rfl:=Option.some.inj hk;exact hge)
    ⟨_,cm _ _ _,rfl, .inr ⟨g,cur,rfl,hg,rfl,by rw [h1,hcs];exact Nat.mul_le_mul_right _ hn,fun j hj=> by
      obtain ⟨u,a1,a2,a3⟩:=h2 j _ (List.getElem?_eq_getElem hj)
      refine ⟨u,a1,a2,fun p hp=> ?_⟩
      rw [List.getElem?_eq_getElem hj] at hp
      obtain rfl:=Option.some.inj hp
      exact a3.next hw fun _ h=> h⟩⟩ (fun i hi=> hi.elim)
  refine ⟨_,S,R1.put d (.ref (fun B hB=> ?_) rfl) fun i hi=> ?_⟩
  · rw [cm] at hB
    obtain rfl:=Option.some.inj hB
    exact ⟨c,hn,hc,0,rfl, .inl rfl,by simp [hcs]⟩
  cases hi;rw [St.setOb_same];intro h;cases h

theorem RelI.newNil {K:jb} {ι:ay→Option dX} {S:Nat→Prop} {a:Act} {w w':World} (R:RelI K ι S σ a w) {id:ay} (hid:σ.ob id= .free) (hb:Below w.heap.size w w') (e:TypeId) (sz:Nat) (d:Option Tmp):
    ∃ ι' S',RelI K ι' S' ((σ.setOb id (.obj (.row e sz []))).put d (.ref id 0 0)) (a.put d (.slice none 0 0)) w':=by
  have R1:=R.new (w':=w') (o:= .row e sz []) (B:=⟨none,0,sz⟩) hid hb (fun k hk=> by cases hk) ⟨_,cm _ _ _,rfl, .inl ⟨rfl,rfl,rfl⟩⟩ (fun i hi=> hi.elim)
  refine ⟨_,S,R1.put d (.ref (fun B hB=> ?_) rfl) fun i hi=> ?_⟩
  · rw [cm] at hB
    obtain rfl:=Option.some.inj hB
    exact ⟨0,Nat.le_refl _,by unfold maxLen;omega,rfl,rfl,rfl⟩
  cases hi;rw [St.setOb_same];intro h;cases h

variable {T:TypeId} {size bytes:Nat}

def nq (σ:St):Nat→List (Nat×Operand)→Option (List (List AV))
  | _,[]=> some []
  | k,(i,x)::l=> if i=k then (match (σ.eval x).cells,nq σ (k+1) l with
    | some c,some r=> some (c::r)
    | _,_=> none) else none

theorem ky {K:jb} {ι:ay→Option dX} {S:Nat→Prop} {a:Act} {w:World} (R:RelI K ι S σ a w): ∀ (l:List (Nat×Operand)) (k:Nat) (r:List (List AV)),nq σ k l=some r→
    ∃ vs:List Value,l.map (fun p=> (p.1,a.eval p.2))=kd k vs∧vs.length=r.length∧(∀ (j:Nat) (v:Value) (c:List AV),vs[j]? =some v→r[j]? =some c→v.cells.size=c.length)∧
      (vs.flatMap fun v=> v.cells.toList).length=r.flatten.length∧(∀ x∈(vs.flatMap fun v=> v.cells.toList),x.oneCell'=true)∧
      ∀ (j:Nat) (b:AV),r.flatten[j]? =some b→ ∃ u,(vs.flatMap fun v=> v.cells.toList)[j]? =some u∧Rep ι S w b u
  | [],k,r,h=> by simp [nq] at h;subst h;exact ⟨[],by simp [kd],rfl,by simp,by simp,by simp,by simp⟩
  | (i,x)::l,k,r,h=> by
    simp only [nq] at h
    split at h
    · rename_i hik
      subst hik
      split at h
      · rename_i c r' hc hr
        obtain rfl:=Option.some.inj h
        obtain ⟨vs,h1,h2,h3,h4,h5,h6⟩:=ky R l (i+1) r' hr
        obtain ⟨c1,c2,c3⟩:=(R.eval x).cells hc
        refine ⟨a.eval x::vs,by simp [kd,h1],by simp [h2],fun j v c' hv hc'=> ?_,by simp [c1,h4],fun y hy=> ?_,fun j b hb=> ?_⟩
        · cases j with
          | zero=> simp at hv hc';subst hv;subst hc';exact c1
          | succ j=> exact h3 j v c' (by simpa using hv) (by simpa using hc')
        · simp only [List.flatMap_cons,List.mem_append] at hy
          rcases hy with hy | hy
          · exact c2 y hy
          exact h5 y hy
        simp only [List.flatten_cons,List.flatMap_cons,List.getElem?_append] at hb ⊢
        have c1':(a.eval x).cells.toList.length=c.length:=by simpa using c1
        rw [c1']
        split at hb
        · rename_i hj
          rw [if_pos hj]
          have hj2:j < (a.eval x).cells.size:=by omega
          have:=c3 j b hb
          simp [hj2] at this
          exact ⟨_,by simp [hj2],this⟩
        rename_i hj
        rw [if_neg hj]
        exact h6 _ b hb
      cases h
    cases h

end

section
variable {P:Program} {o:Oper} {σ:St} {av:AV} {t e T:TypeId} {agg:Bool} {z:List Value} {size bytes:Nat}

inductive SrcAV (σ:St):AV→Nat→Nat→List PV→Prop where
  | sl {m sz:Nat} {news:List PV} (h:news.length=m*sz):SrcAV σ (.sl m news) sz m news
  | nil {sz:Nat}:SrcAV σ (.v (.slice none 0 0)) sz 0 []
  | ref {id:ay} {off m sz:Nat} {e:TypeId} {xs news:List PV} (hid:σ.ob id= .obj (.row e sz xs)) (hn:(xs.drop off).take (m*sz)=news) (hl:off+m*sz≤xs.length):SrcAV σ (.ref id off m) sz m news

theorem SrcAV.src {K:jb} {ι:ay→Option dX} {S:Nat→Prop} {a:Act} {w:World} (R:RelI K ι S σ a w) {x:Operand} {sz m:Nat} {news:List PV} (hsz:0 < sz) (h:SrcAV σ (σ.eval x) sz m news):
    ∃ us,Sl w sz (a.eval x) m us∧us.length=news.length∧ ∀ (j:Nat) (p:PV),news[j]? =some p→ ∃ u,us[j]? =some u∧u.oneCell'=true∧Rd S w p u:=by
  have hv:=R.eval x
  generalize he:σ.eval x=av at h hv
  cases h with
  | nil=>
    rw [hv.toV]
    exact ⟨[],⟨none,0,rfl,Nat.le_refl _,by simp,by simp,by simp,fun _=> ⟨rfl,rfl⟩,fun h=> absurd h ab,by simp⟩,rfl,by simp⟩
  | sl h=>
    cases hv with
    | sl hr=>
      generalize a.eval x=v at hr
      cases hr with
      | sl0 h0 h1 h2=>
        have:m=0:=by
          rcases Nat.eq_zero_or_pos m with h' | h'
          · exact h'
          have:=Nat.mul_pos h' hsz;simp at h;omega
        subst this
        exact ⟨[],⟨_,_,rfl,h0,h1,by simp,by simp,fun hn=> by obtain ⟨_,rfl⟩:=h2 hn;exact ⟨rfl,rfl⟩,fun h=> absurd h ab,by simp⟩,rfl,by simp⟩
      | sl us h0 h1 hS h2 h3=>
        obtain ⟨vs,v1,v2⟩:=ox (R:=fun j u=> u=us j) news.length fun j _=> ⟨us j,rfl⟩
        have hat: ∀ (j:Nat) (u:Value),vs[j]? =some u→ ∃ p,news[j]? =some p∧u=us j:=fun j u hu=> by
          have hj:j < news.length:=by rw [← v1];exact (List.getElem?_eq_some_iff.1 hu).1
          exact ⟨news[j],List.getElem?_eq_getElem hj,v2 j u hu⟩
        refine ⟨vs,⟨_,_,rfl,h0,h1,by omega,fun u hu=> ?_,fun hn=> (by cases hn),fun _=> ⟨_,_,rfl⟩,fun ad had j u hu=> ?_⟩,v1,fun j p hp=> ?_⟩
        · obtain ⟨j,hj,rfl⟩:=List.getElem_of_mem hu
          obtain ⟨p,hp,hh⟩:=hat j _ (List.getElem?_eq_getElem hj)
          rw [hh];exact (h3 j p hp).one
        · obtain rfl:=Option.some.inj had
          obtain ⟨p,hp,rfl⟩:=hat j u hu
          rw [Addr.add_lit];exact h2 j p hp
        have hj:j < vs.length:=by rw [v1];exact (List.getElem?_eq_some_iff.1 hp).1
        have:=v2 j _ (List.getElem?_eq_getElem hj)
        exact ⟨vs[j],List.getElem?_eq_getElem hj,by rw [this];exact (h3 j p hp).one,by rw [this];exact h3 j p hp⟩
  | ref hid hn hl=>
    rename_i id off e' xs
    obtain ⟨B,h1,h2,⟨c,h3,h4,h5⟩,h6⟩:=R.refB hid he
    subst hn
    cases hg:B.g with
    | none=>
      rw [hg] at h5
      obtain ⟨h7,rfl,_⟩:=h5
      rw [h7]
      exact ⟨[],⟨none,0,rfl,Nat.le_refl _,by simp,by simp,by simp,fun _=> ⟨rfl,rfl⟩,fun h=> absurd h ab,by simp⟩,by simp,by simp⟩
    | some g=>
      rw [hg] at h5
      obtain ⟨o',h7,h8,h9⟩:=h5
      rcases h6 with ⟨h6,_⟩ | ⟨g',cur,h10,h11,h12,h13,h14⟩
      · rw [hg] at h6;cases h6
      rw [hg] at h10
      obtain rfl:=Option.some.inj h10
      obtain ⟨us,u1,u2⟩:=ox (R:=fun j u=> cur[off+j]? =some u∧u.oneCell'=true∧ ∀ p,xs[off+j]? =some p→Rd S w p u) (m*sz) fun j hj=> h14 (off+j) ab
      refine ⟨us,⟨_,_,h7,h3,h4,u1,fun u hu=> ?_,fun hn=> (by cases hn),fun _=> ⟨_,_,rfl⟩,fun ad had j u hu=> ?_⟩,by simp [u1];omega,fun j p hp=> ?_⟩
      · obtain ⟨j,hj,rfl⟩:=List.getElem_of_mem hu
        exact (u2 j _ (List.getElem?_eq_getElem hj)).2.1
      · obtain rfl:=Option.some.inj had
        have hj:j < m*sz:=by rw [← u1];exact (List.getElem?_eq_some_iff.1 hu).1
        have hm:0 < m:=by rcases Nat.eq_zero_or_pos m with h | h; · subst h;omega
                          exact h
        obtain rfl:=h8.resolve_right ab
        rw [Addr.add_lit]
        exact ee h11 (u2 j u hu).1
      rw [List.getElem?_take] at hp
      split at hp
      · rename_i hj
        rw [List.getElem?_drop] at hp
        have hju:j < us.length:=by omega
        have:=u2 j _ (List.getElem?_eq_getElem hju)
        exact ⟨us[j],List.getElem?_eq_getElem hju,this.2.1,this.2.2 p hp⟩
      cases hp

theorem RelI.owns {K:jb} {ι:ay→Option dX} {S:Nat→Prop} {a:Act} {w:World} (R:RelI K ι S σ a w) {id:ay} {e:TypeId} {sz n:Nat} {xs:List PV} (hid:σ.ob id= .obj (.row e sz xs)) {x:Operand} (hx:σ.eval x= .ref id 0 n) (hl:n*sz=xs.length):
    ∃ B us,ι id=some B∧w.ownsRow 0 e sz (a.eval x) n us∧us.length=xs.length∧(∀ (j:Nat) (p:PV),xs[j]? =some p→ ∃ u,us[j]? =some u∧u.oneCell'=true∧Rd S w p u)∧ ∀ g,(a.eval x).ownBlock=some g↔B.g=some g:=by
  obtain ⟨B,h1,h2,⟨c,h3,h4,h5⟩,h6⟩:=R.refB hid hx
  cases hg:B.g with
  | none=>
    rw [hg] at h5
    obtain ⟨h7,rfl,_⟩:=h5
    have:xs=[]:=List.eq_nil_of_length_eq_zero ab
    subst this
    exact ⟨B,[],h1,by rw [h7];exact World.ownsRow_nil _ _ _ _,rfl,by simp,fun g=> by simp [h7,Value.ownBlock,hg]⟩
  | some g=>
    rw [hg] at h5
    obtain ⟨o',h7,h8,h9⟩:=h5
    obtain rfl:=h8.resolve_right ab
    rcases h6 with ⟨h6,_⟩ | ⟨g',cur,h10,h11,h12,h13,h14⟩
    · rw [hg] at h6;cases h6
    rw [hg] at h10
    obtain rfl:=Option.some.inj h10
    subst h2
    refine ⟨B,cur.toList.take (n*B.sz),h1,⟨by simp;omega, .inr ⟨g,c,cur,h7,Nat.zero_le _,h11,h3,h4,by omega,rfl⟩⟩,by simp;omega,fun j p hp=> ?_,fun k=> by simp [h7,Value.ownBlock,hg]⟩
    have hj:j < xs.length:=(List.getElem?_eq_some_iff.1 hp).1
    obtain ⟨u,hu,hu1,hu2⟩:=h14 j hj
    exact ⟨u,by rw [List.getElem?_take,if_pos ab];simpa using hu,hu1,hu2 p hp⟩

theorem kY {w:World} {e:TypeId} {sz n:Nat} {v:Value} {us:List Value} (h:w.ownsRow 0 e sz v n us):
    (v= .slice none 0 0∧n=0∧us=[])∨ ∃ g c cur,v= .slice (some ⟨g,0,none⟩) n c∧w.heap[g]? =some (.cells cur e (0,0))∧n≤c∧c≤maxLen∧cur.size=c*sz∧ ∀ (j:Nat) (u:Value),us[j]? =some u→cur[j]? =some u:=by
  rcases h.2 with ⟨h1,h2⟩ | ⟨g,cap,cur,hv,hbg,hg,hnc,hcm,hcs,htake⟩
  · subst h2
    exact .inl ⟨h1,rfl,List.eq_nil_of_length_eq_zero (by simpa using h.1)⟩
  refine .inr ⟨g,cap,cur,hv,hg,hnc,hcm,hcs,fun j u hu=> ?_⟩
  rw [← htake,List.getElem?_take] at hu
  split at hu
  · simpa using hu
  cases hu

inductive Bnd (σ:St) (dflt:Nat):Option Operand→Nat→Prop where
  | dflt:Bnd σ dflt none dflt
  | lit {x:Operand} {k:IntKind} {N:Int} {n:Nat} (h:σ.eval x= .v (.int k N)) (hN:N=(n:Int)):Bnd σ dflt (some x) n

theorem gK (w:World) {a:Act} (E:Elem P T e size bytes z) (x:Operand) (lo hi:Option Operand) (ho:o.op= .slice T x lo hi none) {ao:Option Addr} {n c:Nat} (hx:a.eval x= .slice ao n c) (hnc:n≤c) (lv hv:Nat)
    (hl:(lo=none∧lv=0)∨ ∃ p k L,lo=some p∧a.eval p= .int k L∧L=(lv:Int)) (hh:(hi=none∧hv=n)∨ ∃ p k L,hi=some p∧a.eval p= .int k L∧L=(hv:Int)) (h1:lv≤hv) (h2:hv≤n):
    (execOp a.eval o).run P w= .ok (.value (.slice (if c=lv then ao else ao.map (·.add (lv*size))) (hv - lv) (c - lv))) w:=by
  obtain ⟨inf,zv,hinf,_,hs,_⟩:=E.info
  have hlo: ∀ y,lv≤y→ ∀ code,(match lo.map a.eval with | some v=> Instr.sliceBound v y code | none=> pure 0:Sem Nat).run P w= .ok lv w:=by
    intro y hy code
    rcases hl with ⟨rfl,rfl⟩ | ⟨p,k,L,rfl,hp,rfl⟩
    · rfl
    simp [hp,Instr.sliceBound,asIntOf,hy]
  have hhi:(match hi.map a.eval with | some v=> Instr.sliceBound v c .sliceAcap | none=> pure n:Sem Nat).run P w= .ok hv w:=by
    rcases hh with ⟨rfl,rfl⟩ | ⟨p,k,L,rfl,hp,rfl⟩
    · rfl
    simp [hp,Instr.sliceBound,asIntOf,show hv≤c by omega]
  have hbo:(Instr.sliceBounds true n c (lo.map a.eval) (hi.map a.eval) none).run P w= .ok (lv,hv,c) w:=by
    have:=hlo hv h1 .sliceB
    cases hlo':lo.map a.eval <;> cases hhi':hi.map a.eval <;> simp [hlo',hhi'] at this hhi <;> simp [Instr.sliceBounds,this,hhi] <;> simp_all
  simp [execOp,ho,Instr.sliceAt,hx,run_underlying E.und,Instr.slice,hbo,sizeOf,typeInfo,hinf,hs]

theorem Bnd.real {K:jb} {ι:ay→Option dX} {S:Nat→Prop} {a:Act} {w:World} (R:RelI K ι S σ a w) {d n:Nat} {x:Option Operand} (h:Bnd σ d x n):(x=none∧n=d)∨ ∃ p k L,x=some p∧a.eval p= .int k L∧L=(n:Int):=by
  cases h with
  | dflt=> exact .inl ⟨rfl,rfl⟩
  | lit h hN=>
    have:=R.eval ‹Operand›
    rw [h] at this
    exact .inr ⟨_,_,_,rfl,this.toV,hN⟩

theorem Rep.evV {K:jb} {ι:ay→Option dX} {S:Nat→Prop} {a:Act} {w:World} (R:RelI K ι S σ a w) {x:Operand} {v:Value} (h:σ.eval x= .v v):a.eval x=v:=by
  have:=R.eval x
  rw [h] at this
  exact this.toV

variable {t':TypeId} {a b:Int} {k:IntKind}
theorem fc {x y:Operand} {op:BinOp} (ho:o.op= .binOp op t x y t') {u v:Value} (hx:σ.eval x= .v u) (hy:σ.eval y= .v v) {r:Value} (h: ∀ (ρ:Operand→Value) w,ρ x=u→ρ y=v→(execOp ρ o).run P w= .ok (.value r) w):gH P o σ (σ.put o.dst (.v r)):=
  bs fun _ _ _ a w R=> ⟨r,h a.eval w (Rep.evV R hx) (Rep.evV R hy), .v,fun _=> eU⟩
theorem Fq {x:Operand} {op:UnOp} (ho:o.op= .unOp op t x) {u r:Value} (hx:σ.eval x= .v u) (h: ∀ (ρ:Operand→Value) w,ρ x=u→(execOp ρ o).run P w= .ok (.value r) w):gH P o σ (σ.put o.dst (.v r)):=
  bs fun _ _ _ a w R=> ⟨r,h a.eval w (Rep.evV R hx), .v,fun _=> eU⟩
end
end Go.Proofs.YtmjnackchaahbaaGreat
