/- part 14 -/
import Derived.Test.YtmjnackchaahbaaGreatNqZ13
set_option linter.unusedSimpArgs false
set_option linter.unusedVariables false
namespace Go.Proofs.YtmjnackchaahbaaGreat

structure Dk where
 cells:List Int
 pend:List (Int×Int):=[]
def pb (c:List Int) (l:List (Int×Int)):List Int:=l.foldl (fun c w=> c.set w.1.toNat w.2) c
@[simp] theorem gu (l:List (Int×Int)): ∀ (c:List Int),(pb c l).length=c.length:=by
 induction l with
 | nil=> intro c;rfl
 | cons w l ih=> intro c;show (pb (c.set _ _) l).length=_;rw [ih,List.length_set]
theorem ol (c:List Int) (l m:List (Int×Int)):pb c (l++m)=pb (pb c l) m:=by simp [pb,List.foldl_append]
def Dk.view (d:Dk):List Int:=pb d.cells d.pend
def Dk.write (d:Dk) (c v:Int):Dk:=
 if c < 0∨(d.cells.length:Int)≤c then d
 else if 4 < d.pend.length+1 then ⟨pb d.cells ((d.pend++[(c,v)]).take 1),(d.pend++[(c,v)]).drop 1⟩
 else ⟨d.cells,d.pend++[(c,v)]⟩
def Dk.sync (d:Dk):Dk:=⟨d.view,[]⟩
def kept:List (Int×Int)→List Bool→List (Int×Int)
 | w::l,true::k=> w::kept l k
 | _::l,false::k=> kept l k
 | _,_=> []
def Dk.crash (d:Dk) (k:List Bool):Dk:=⟨pb d.cells (kept d.pend k),[]⟩
def Dk.resize (d:Dk) (n:Nat):Dk:=⟨(d.view++List.replicate n 0).take n,[]⟩
structure DkOk (n:Nat) (d:Dk):Prop where
 len:d.cells.length=n
 rg: ∀ v∈d.cells,Rg v
 pn:d.pend.length≤4
 pr: ∀ w∈d.pend,0≤w.1∧w.1 < n∧Rg w.2
theorem tG: ∀ (l:List (Int×Int)) {c:List Int},(∀ v∈c,Rg v)→(∀ w∈l,Rg w.2)→ ∀ v∈pb c l,Rg v
 | [],_,h,_=> h
 | w::l,c,h,hw=> tG l (c:=c.set w.1.toNat w.2) (pY h (hw w (by simp))) fun x hx=> hw x (by simp [hx])
theorem DkOk.view {n:Nat} {d:Dk} (h:DkOk n d):d.view.length=n∧ ∀ v∈d.view,Rg v:=⟨by unfold Dk.view;rw [gu,h.len],tG _ h.rg fun w hw=> (h.pr w hw).2.2⟩
theorem DkOk.write {n:Nat} {d:Dk} (h:DkOk n d) {c v:Int} (hv:Rg v):DkOk n (d.write c v):=by
 unfold Dk.write
 split
 ·exact h
 rename_i hc
 have hl:=h.len
 have hp: ∀ w∈d.pend++[(c,v)],0≤w.1∧w.1 < n∧Rg w.2:=fun w hw=> by
  rcases List.mem_append.1 hw with hw | hw
  ·exact h.pr w hw
  simp at hw;subst hw;exact ⟨by simp only;omega,by simp only;omega,hv⟩
 split
 ·have:=h.pn
  refine ⟨by simp only;rw [gu];exact hl,tG _ h.rg fun w hw=> (hp w (List.mem_of_mem_take hw)).2.2,by simp;omega,fun w hw=> hp w (List.mem_of_mem_drop hw)⟩
 exact ⟨hl,h.rg,by simp;omega,hp⟩
theorem DkOk.sync {n:Nat} {d:Dk} (h:DkOk n d):DkOk n d.sync:=⟨h.view.1,h.view.2,by simp [Dk.sync],fun w hw=> by simp [Dk.sync] at hw⟩
theorem qC: ∀ {l:List (Int×Int)} {k:List Bool} {w:Int×Int},w∈kept l k→w∈l
 | [],[],_,h=> by simp [kept] at h
 | [],_::_,_,h=> by simp [kept] at h
 | _::_,[],_,h=> by simp [kept] at h
 | x::l,true::k,w,h=> by
  simp only [kept,List.mem_cons] at h ⊢
  exact h.imp id fun h=> qC h
 | x::l,false::k,w,h=> by
  simp only [kept] at h
  exact List.mem_cons_of_mem _ (qC h)
theorem DkOk.crash {n:Nat} {d:Dk} (h:DkOk n d) (k:List Bool):DkOk n (d.crash k):=
 ⟨by unfold Dk.crash;simp only;rw [gu];exact h.len,tG _ h.rg fun w hw=> (h.pr w (qC hw)).2.2,by simp [Dk.crash],fun w hw=> by simp [Dk.crash] at hw⟩
theorem DkOk.resize {m:Nat} {d:Dk} (h:DkOk m d) (n:Nat):DkOk n (d.resize n):=by
 obtain ⟨h1,h2⟩:=h.view
 refine ⟨by simp [Dk.resize],fun v hv=> ?_,by simp [Dk.resize],fun w hw=> by simp [Dk.resize] at hw⟩
 rcases List.mem_append.1 (List.mem_of_mem_take hv) with hv | hv
 ·exact h2 v hv
 rw [List.mem_replicate] at hv;rw [hv.2];exact oS
theorem vU {n:Nat} {d:Dk} (h:DkOk n d) {c v:Int} (h0:0≤c) (h1:c < n):(d.write c v).view=d.view.set c.toNat v:=by
 unfold Dk.write
 have hl:=h.len
 rw [if_neg ab]
 split
 ·unfold Dk.view
  simp only
  rw [← ol,List.take_append_drop,ol];rfl
 unfold Dk.view
 simp only
 rw [ol];rfl

structure Ns where
 up:Bool:=false
 ver:Int:= -1
 epoch:Int:=0
 clock:Int:=0
 dk:Dk:=⟨[],[]⟩
 vol:List Int:=[]
 timers:List Int:=[]
 counts:List Int:=List.replicate 41 0
 wait:Int:= -1
structure Nr where
 sent:List Ac:=[]
 repl:Bool:=false
 value:Int:=0
 fails:List Int:=[]
def xj (l:List Int) (k:Int) (set:Bool):List Int:=((List.range 8).map fun (i:Nat)=> (i:Int)).filter fun i=> if i=k then set else decide (i∈l)
def eh (q:Ns×Nr) (a:Ac):Ns×Nr:=
 if a.k=1 then ({ q.1 with dk:=q.1.dk.write a.a a.b },q.2)
 else if a.k=2 then ({ q.1 with dk:=q.1.dk.sync },q.2)
 else if a.k=4 then ({ q.1 with timers:=xj q.1.timers a.a true },q.2)
 else if a.k=5 then ({ q.1 with timers:=xj q.1.timers a.a false },q.2)
 else if a.k=3 then (q.1,{ q.2 with sent:=q.2.sent++[a] })
 else if a.k=6 then (if 0≤q.1.wait∧a.a=q.1.wait then ({ q.1 with wait:= -1 },{ q.2 with repl:=true,value:=a.b }) else q)
 else if a.k=7 then (q.1,{ q.2 with fails:=q.2.fails++[a.a] })
 else q
def jb (p:Pg) (h:Nat) (names vars ans:List Int):Ms:=if p.e h < 0 then { vars:=vars,pc:=0 } else kV ⟨p.c,p.d,names,ans⟩ 500 (dV vars (p.e h).toNat)
def cT (clock drift tick:Int):Int:=clock+1+(if 0 < drift then tick % (drift+1) else 0)
def ew (names:List Int) (self nodes clock:Int):List Int:=((names.set 0 self).set 1 nodes).set 2 clock
def gE (s:Ns) (p:Pg) (h:Nat) (self nodes drift tick:Int) (names ans:List Int):Ms:=jb p h (ew names self nodes (cT s.clock drift tick)) (s.dk.view++s.vol) ans
def dy (s:Ns) (p:Pg) (h:Nat) (self nodes drift tick:Int) (names ans:List Int):Ns×Nr:=
 (gE s p h self nodes drift tick names ans).acts.foldl eh ({ s with clock:=cT s.clock drift tick,counts:=s.counts.set h (s.counts.getD h 0+1),vol:=(gE s p h self nodes drift tick names ans).vars.drop p.d },{})
def cQ (s:Ns) (p:Pg) (v:Int):Ns:={ s with ver:=v,dk:=if s.dk.cells.length=p.d then s.dk else s.dk.resize p.d,vol:=List.replicate p.v 0,timers:=[],wait:= -1,up:=true }
def mR (s:Ns) (p:Pg) (v self nodes drift tick:Int) (ans:List Int):Ns×Nr:=dy (cQ s p v) p 0 self nodes drift tick (List.replicate 9 0) ans
def lH (s:Ns) (k:List Bool):Ns:={ s with dk:=s.dk.crash k,counts:=s.counts.set 40 (s.counts.getD 40 0+1),epoch:=s.epoch+1,vol:=List.replicate s.vol.length 0,timers:=[],wait:= -1,up:=false }
theorem rm (q:Ns×Nr) (a:Ac):(eh q a).1.up=q.1.up∧(eh q a).1.ver=q.1.ver∧(eh q a).1.epoch=q.1.epoch∧(eh q a).1.clock=q.1.clock∧(eh q a).1.vol=q.1.vol∧(eh q a).1.counts=q.1.counts:=by
 unfold eh
 split
 ·exact ⟨rfl,rfl,rfl,rfl,rfl,rfl⟩
 split
 ·exact ⟨rfl,rfl,rfl,rfl,rfl,rfl⟩
 split
 ·exact ⟨rfl,rfl,rfl,rfl,rfl,rfl⟩
 split
 ·exact ⟨rfl,rfl,rfl,rfl,rfl,rfl⟩
 split
 ·exact ⟨rfl,rfl,rfl,rfl,rfl,rfl⟩
 split
 ·split <;> exact ⟨rfl,rfl,rfl,rfl,rfl,rfl⟩
 split <;> exact ⟨rfl,rfl,rfl,rfl,rfl,rfl⟩
theorem oD: ∀ (l:List Ac) (q:Ns×Nr),(l.foldl eh q).1.up=q.1.up∧(l.foldl eh q).1.ver=q.1.ver∧(l.foldl eh q).1.epoch=q.1.epoch∧(l.foldl eh q).1.clock=q.1.clock∧(l.foldl eh q).1.vol=q.1.vol∧(l.foldl eh q).1.counts=q.1.counts
 | [],q=> ⟨rfl,rfl,rfl,rfl,rfl,rfl⟩
 | a::l,q=> by
  obtain ⟨a1,a2,a3,a4,a5,a6⟩:=rm q a
  obtain ⟨b1,b2,b3,b4,b5,b6⟩:=oD l (eh q a)
  exact ⟨b1.trans a1,b2.trans a2,b3.trans a3,b4.trans a4,b5.trans a5,b6.trans a6⟩
theorem sJ {n:Nat} {q:Ns×Nr} {a:Ac} (h:DkOk n q.1.dk) (ha:Rg a.b):DkOk n (eh q a).1.dk:=by
 unfold eh
 split
 ·exact h.write ha
 split
 ·exact h.sync
 split
 ·exact h
 split
 ·exact h
 split
 ·exact h
 split
 ·split <;> exact h
 split <;> exact h
theorem wZ {n:Nat}: ∀ (l:List Ac) {q:Ns×Nr},DkOk n q.1.dk→(∀ a∈l,Rg a.b)→DkOk n (l.foldl eh q).1.dk
 | [],_,h,_=> h
 | a::l,q,h,ha=> wZ l (q:=eh q a) (sJ h (ha a (by simp))) fun b hb=> ha b (by simp [hb])
end Go.Proofs.YtmjnackchaahbaaGreat

namespace Go.Proofs.YtmjnackchaahbaaGreat

structure mW (p:Pg):Prop where
 ex: ∃ D,Good D (p.d+p.v) 0 (p.c.length - 1) 0 p.c∧ ∀ h,p.e h < 0∨(0≤p.e h∧p.e h < p.c.length∧D (p.e h).toNat=0)
 nv:p.d+p.v≤16
theorem uR {p:Pg} (hp:mW p) {h:Nat} {names vars ans:List Int} (hn: ∀ i,Rg (names.getD i 0)) (hv:vars.length=p.d+p.v) (hr: ∀ v∈vars,Rg v):
  IV ⟨p.c,p.d,names,ans⟩ (p.d+p.v) (jb p h names vars ans)∧(jb p h names vars ans).vars.take p.d=vy (vars.take p.d) (jb p h names vars ans).acts∧(jb p h names vars ans).steps≤500:=by
 obtain ⟨D,hg,he⟩:=hp.ex
 unfold jb
 split
 ·exact ⟨⟨hv,hr,fun v hv=> by simp at hv,fun a ha=> by simp at ha,by simp [cG],fun k hk=> by simp at hk⟩,rfl,by simp⟩
 rename_i hne
 rcases he h with he | ⟨e1,e2,e3⟩
 ·exact absurd he hne
 have hK:PG ⟨p.c,p.d,names,ans⟩ D (p.d+p.v):=⟨hg,hp.nv,hn⟩
 have hs:=tX (K:=⟨p.c,p.d,names,ans⟩) (D:=D) hv hr (e:=(p.e h).toNat) (by show _ < p.c.length;omega) e3
 refine ⟨(HT hK hs 500).iv,FI hK hs 500,?_⟩
 have:=(mi (K:=⟨p.c,p.d,names,ans⟩) 500 (dV vars (p.e h).toNat)).1
 simpa [dV] using this
theorem rx {n:Nat}: ∀ (l:List Ac) (q:Ns×Nr),DkOk n q.1.dk→(∀ a∈l,Rg a.b∧(a.k=1→0≤a.a∧a.a < n))→(l.foldl eh q).1.dk.view=vy q.1.dk.view l
 | [],q,_,_=> rfl
 | a::l,q,h,ha=> by
  obtain ⟨h1,h2⟩:=ha a (by simp)
  simp only [List.foldl_cons]
  rw [rx l (eh q a) (sJ h h1) fun b hb=> ha b (by simp [hb])]
  show vy _ l=vy (if a.k=1 then q.1.dk.view.set a.a.toNat a.b else q.1.dk.view) l
  congr 1
  unfold eh
  by_cases hk:a.k=1
  ·rw [if_pos hk,if_pos hk]
   exact vU h (h2 hk).1 (h2 hk).2
  rw [if_neg hk,if_neg hk]
  split
  ·rfl
  split
  ·rfl
  split
  ·rfl
  split
  ·rfl
  split
  ·split <;> rfl
  split <;> rfl
def DK (l:List Int):Prop:=l.Pairwise (· < ·)∧ ∀ x∈l,0≤x∧x < 8
theorem Dl (l:List Int) (k:Int) (b:Bool):DK (xj l k b):=by
 unfold xj
 refine ⟨List.Pairwise.filter _ (by rw [List.pairwise_map];exact List.pairwise_lt_range.imp fun h=> by omega),fun x hx=> ?_⟩
 obtain ⟨hm,_⟩:=List.mem_filter.1 hx
 obtain ⟨i,hi,rfl⟩:=List.mem_map.1 hm
 have:=List.mem_range.1 hi
 omega
theorem wR: ∀ (l:List Ac) (q:Ns×Nr),DK q.1.timers→DK (l.foldl eh q).1.timers
 | [],q,h=> h
 | a::l,q,h=> by
  simp only [List.foldl_cons]
  refine wR l _ ?_
  unfold eh
  split
  ·exact h
  split
  ·exact h
  split
  ·exact Dl _ _ _
  split
  ·exact Dl _ _ _
  split
  ·exact h
  split
  ·split <;> exact h
  split <;> exact h
structure tH (p:Pg) (s:Ns):Prop where
 dk:DkOk p.d s.dk
 vl:s.vol.length=p.v
 vr: ∀ v∈s.vol,Rg v
 tm:DK s.timers
 ct:s.counts.length=41
theorem rz {names:List Int} {self nodes clock:Int} (h: ∀ i,Rg (names.getD i 0)) (h1:Rg self) (h2:Rg nodes) (h3:Rg clock) (i:Nat):Rg ((ew names self nodes clock).getD i 0):=by
 refine pN (fun v hv=> ?_) i
 have hn: ∀ v∈names,Rg v:=fun v hv=> by
  obtain ⟨j,hj,rfl⟩:=List.getElem_of_mem hv
  have:=h j
  rwa [List.getD_eq_getElem?_getD,List.getElem?_eq_getElem hj] at this
 exact pY (pY (pY hn h1) h2) h3 v hv
theorem kQ {p:Pg} (hp:mW p) {s:Ns} (hs:tH p s) {h:Nat} {self nodes drift tick:Int} {names ans:List Int} (hn: ∀ i,Rg (names.getD i 0)) (h1:Rg self) (h2:Rg nodes) (h3:Rg (cT s.clock drift tick)):
  tH p (dy s p h self nodes drift tick names ans).1∧IV ⟨p.c,p.d,ew names self nodes (cT s.clock drift tick),ans⟩ (p.d+p.v) (gE s p h self nodes drift tick names ans)∧
   (dy s p h self nodes drift tick names ans).1.dk.view++(dy s p h self nodes drift tick names ans).1.vol=(gE s p h self nodes drift tick names ans).vars∧
   (dy s p h self nodes drift tick names ans).1.dk.view=vy s.dk.view (gE s p h self nodes drift tick names ans).acts:=by
 obtain ⟨v1,v2⟩:=hs.dk.view
 have hvl:=hs.vl
 obtain ⟨iv,hw,_⟩:=uR hp (h:=h) (names:=ew names self nodes (cT s.clock drift tick)) (vars:=s.dk.view++s.vol) (ans:=ans) (rz hn h1 h2 h3) (by rw [List.length_append,v1,hvl]) (fun v hv=> (List.mem_append.1 hv).elim (v2 v) (hs.vr v))
 have hac: ∀ a∈(gE s p h self nodes drift tick names ans).acts,Rg a.b∧(a.k=1→0≤a.a∧a.a < p.d):=fun a ha=> by
  obtain ⟨⟨_,q1,_,_⟩,_,q2⟩:=iv.ac a ha
  exact ⟨q1,fun e=> ⟨(q2 e).1,(q2 e).2.1⟩⟩
 have hview:=rx (gE s p h self nodes drift tick names ans).acts ({ s with clock:=cT s.clock drift tick,counts:=s.counts.set h (s.counts.getD h 0+1),vol:=(gE s p h self nodes drift tick names ans).vars.drop p.d },{}) hs.dk hac
 have hdk:=wZ (n:=p.d) (gE s p h self nodes drift tick names ans).acts (q:=({ s with clock:=cT s.clock drift tick,counts:=s.counts.set h (s.counts.getD h 0+1),vol:=(gE s p h self nodes drift tick names ans).vars.drop p.d },{})) hs.dk fun a ha=> (hac a ha).1
 have htm:=wR (gE s p h self nodes drift tick names ans).acts ({ s with clock:=cT s.clock drift tick,counts:=s.counts.set h (s.counts.getD h 0+1),vol:=(gE s p h self nodes drift tick names ans).vars.drop p.d },{}) hs.tm
 obtain ⟨_,_,_,_,k5,k6⟩:=oD (gE s p h self nodes drift tick names ans).acts ({ s with clock:=cT s.clock drift tick,counts:=s.counts.set h (s.counts.getD h 0+1),vol:=(gE s p h self nodes drift tick names ans).vars.drop p.d },{})
 have hvlen:(gE s p h self nodes drift tick names ans).vars.length=p.d+p.v:=iv.vl
 have hvr: ∀ v∈(gE s p h self nodes drift tick names ans).vars,Rg v:=iv.rv
 refine ⟨⟨hdk,?_,?_,htm,?_⟩,iv,?_,hview⟩
 ·show ((gE s p h self nodes drift tick names ans).acts.foldl eh _).1.vol.length=_
  rw [k5];simp only [List.length_drop];omega
 ·show ∀ v∈((gE s p h self nodes drift tick names ans).acts.foldl eh _).1.vol,_
  rw [k5];exact fun v hv=> hvr v (List.mem_of_mem_drop hv)
 ·show ((gE s p h self nodes drift tick names ans).acts.foldl eh _).1.counts.length=_
  rw [k6];simp only [List.length_set];exact hs.ct
 show ((gE s p h self nodes drift tick names ans).acts.foldl eh _).1.dk.view++((gE s p h self nodes drift tick names ans).acts.foldl eh _).1.vol=_
 rw [hview,k5]
 simp only
 have hw':(gE s p h self nodes drift tick names ans).vars.take p.d=vy s.dk.view (gE s p h self nodes drift tick names ans).acts:=by
  have e:(s.dk.view++s.vol).take p.d=s.dk.view:=by rw [← v1,List.take_left'];rfl
  rw [e] at hw
  exact hw
 rw [← hw']
 exact List.take_append_drop _ _
end Go.Proofs.YtmjnackchaahbaaGreat

namespace Go.Proofs.YtmjnackchaahbaaGreat

structure Na where
 crash:Bool
 h:Nat
 names:List Int
 wait:Int
 tick:Int
 draws:List Int
 keeps:List Int
structure Qa where
 kind:Int
 idx:Int
 ar:Int
 n:Int
def gl (drift tick:Int) (asked ans:List Int):List Qa:=(if 0 < drift then [⟨2,0,drift+1,tick % (drift+1)⟩] else [])++(List.range asked.length).map fun (i:Nat)=> ⟨1,(i:Int),asked.getD i 0,gv ans i (asked.getD i 0)⟩
def iQ (k:Nat) (keeps:List Int):List Qa:=(List.range k).map fun (i:Nat)=> ⟨3,(i:Int),2,keeps.getD i 0⟩
def keepB (k:Nat) (keeps:List Int):List Bool:=(List.range k).map fun i=> decide (keeps.getD i 0=1)
def cd (p q:Pg) (s:Ns):Pg:=if s.up=true then (if s.ver=1 then q else p) else (if s.epoch % 2=1 then q else p)
def iJ (s:Ns):Int:=if s.epoch % 2=1 then 1 else 0
def eF (p q:Pg) (drift:Int) (a:Na) (s:Ns):Ns×Nr:=
 if s.up=false then mR s (cd p q s) (iJ s) 1 3 drift a.tick a.draws
 else if a.crash=true then (lH s (keepB s.dk.pend.length a.keeps),{})
 else dy { s with wait:=a.wait } (cd p q s) a.h 1 3 drift a.tick a.names a.draws
def iL (p q:Pg) (drift:Int) (a:Na) (s:Ns):List Qa:=
 if s.up=false then gl drift a.tick (gE (cQ s (cd p q s) (iJ s)) (cd p q s) 0 1 3 drift a.tick (List.replicate 9 0) a.draws).asked a.draws
 else if a.crash=true then iQ s.dk.pend.length a.keeps
 else gl drift a.tick (gE { s with wait:=a.wait } (cd p q s) a.h 1 3 drift a.tick a.names a.draws).asked a.draws
structure Bp (a:Na):Prop where
 h:a.h < 40
 nm: ∀ i,Rg (a.names.getD i 0)
 wt: -1≤a.wait∧a.wait≤2
 tk:0≤a.tick∧a.tick≤3
structure Sq (p q:Pg) (i:Nat) (s:Ns):Prop where
 up:s.up=true→tH (if s.ver=1 then q else p) s∧(s.ver=0∨s.ver=1)
 dn:s.up=false→(∃ n,DkOk n s.dk)∧s.wait= -1∧s.timers=[]
 ck:0≤s.clock∧s.clock≤4*i
 cl:s.counts.length=41
 ct: ∀ k,0≤s.counts.getD k 0∧s.counts.getD k 0≤i
 ep:0≤s.epoch∧s.epoch≤i
theorem nB {clock drift tick:Int} (hd:0≤drift∧drift≤3):clock+1≤cT clock drift tick∧cT clock drift tick≤clock+1+drift:=by
 unfold cT
 split
 ·have h1:=Int.emod_nonneg tick (show drift+1≠0 by omega)
  have h2:=Int.emod_lt_of_pos tick (show 0 < drift+1 by omega)
  omega
 omega
theorem vD {l:List Int} {i:Nat} (hl:l.length=41) (h: ∀ k,0≤l.getD k 0∧l.getD k 0≤i) (j:Nat): ∀ k,0≤(l.set j (l.getD j 0+1)).getD k 0∧(l.set j (l.getD j 0+1)).getD k 0≤((i+1:Nat):Int):=by
 intro k
 have h1:=h k
 have h2:=h j
 rw [List.getD_eq_getElem?_getD,List.getElem?_set]
 split
 ·split
  ·simp only [Option.getD_some];omega
  simp only [Option.getD_none];omega
 rw [← List.getD_eq_getElem?_getD];omega
theorem HB (p q:Pg):Sq p q 0 {}:=
 ⟨fun h=> by simp at h,fun _=> ⟨⟨0,rfl,fun v hv=> by simp at hv,by simp,fun w hw=> by simp at hw⟩,rfl,rfl⟩,by simp,by simp,fun k=> by
  rw [List.getD_eq_getElem?_getD,List.getElem?_replicate]
  split <;> simp,by simp⟩
theorem fR (s:Ns) (p:Pg) (h:Nat) (self nodes drift tick:Int) (names ans:List Int):(dy s p h self nodes drift tick names ans).1.up=s.up∧(dy s p h self nodes drift tick names ans).1.ver=s.ver∧(dy s p h self nodes drift tick names ans).1.epoch=s.epoch∧(dy s p h self nodes drift tick names ans).1.clock=cT s.clock drift tick∧(dy s p h self nodes drift tick names ans).1.counts=s.counts.set h (s.counts.getD h 0+1):=by
 obtain ⟨a1,a2,a3,a4,_,a6⟩:=oD (gE s p h self nodes drift tick names ans).acts ({ s with clock:=cT s.clock drift tick,counts:=s.counts.set h (s.counts.getD h 0+1),vol:=(gE s p h self nodes drift tick names ans).vars.drop p.d },{})
 exact ⟨a1,a2,a3,a4,a6⟩
theorem de {n:Int} (h: -1000≤n∧n≤1000):Rg n:=by unfold Rg;omega
theorem rZ {p:Pg} {s:Ns} {n:Nat} (h:DkOk n s.dk) (hc:s.counts.length=41) (v:Int):tH p (cQ s p v):=by
 refine ⟨?_,by simp [cQ],fun x hx=> ?_,⟨List.Pairwise.nil,fun x hx=> by simp [cQ] at hx⟩,hc⟩
 ·unfold cQ
  simp only
  split
  ·rename_i he;rw [← he,h.len];exact h
  exact h.resize _
 simp only [cQ,List.mem_replicate] at hx;rw [hx.2];exact oS
theorem EQ {p q:Pg} (hp:mW p) (hq:mW q) {drift:Int} (hd:0≤drift∧drift≤3) {a:Na} (ha:Bp a) {i:Nat} (hi:i≤100) {s:Ns} (h:Sq p q i s):Sq p q (i+1) (eF p q drift a s).1:=by
 have hck:=h.ck
 have htk:=nB (clock:=s.clock) (tick:=a.tick) hd
 have hep:=h.ep
 have hct:=vD h.cl h.ct
 have h0: ∀ i,Rg ((List.replicate 9 (0:Int)).getD i 0):=fun i=> by
  rw [List.getD_eq_getElem?_getD,List.getElem?_replicate]
  split <;> exact oS
 unfold eF
 split
 ·rename_i hu
  obtain ⟨⟨n,hdk⟩,_,_⟩:=h.dn hu
  have hpg:cd p q s=if iJ s=1 then q else p:=by
   unfold cd iJ
   rw [if_neg (by simp [hu])]
   split <;> rfl
  have hver:iJ s=0∨iJ s=1:=by unfold iJ;split <;> simp
  have hok:mW (cd p q s):=by rw [hpg];split <;> assumption
  have hb:=rZ (p:=cd p q s) hdk h.cl (iJ s)
  have ho:=(kQ hok hb (h:=0) (self:=1) (nodes:=3) (drift:=drift) (tick:=a.tick) (ans:=a.draws) h0 (de ab) (de ab) (de (by show -1000≤cT s.clock drift a.tick∧cT s.clock drift a.tick≤1000;omega))).1
  obtain ⟨k1,k2,k3,k4,k5⟩:=fR (cQ s (cd p q s) (iJ s)) (cd p q s) 0 1 3 drift a.tick (List.replicate 9 0) a.draws
  unfold mR
  have e1:(dy (cQ s (cd p q s) (iJ s)) (cd p q s) 0 1 3 drift a.tick (List.replicate 9 0) a.draws).1.ver=iJ s:=k2
  refine ⟨fun _=> ⟨by rw [e1,← hpg];exact ho,by rw [e1];exact hver⟩,fun hx=> by rw [k1] at hx;simp [cQ] at hx,?_,ho.ct,?_,?_⟩
  ·rw [k4];show 0≤cT s.clock drift a.tick∧cT s.clock drift a.tick≤_;omega
  ·rw [k5];exact hct 0
  rw [k3];show 0≤s.epoch∧s.epoch≤_;omega
 rename_i hu
 have hu:s.up=true:=by simpa using hu
 obtain ⟨hs,hv⟩:=h.up hu
 split
 ·refine ⟨fun hx=> by simp [lH] at hx,fun _=> ⟨⟨_,hs.dk.crash _⟩,rfl,rfl⟩,?_,?_,hct 40,?_⟩
  ·show 0≤s.clock∧s.clock≤_;omega
  ·show (s.counts.set 40 _).length=41;rw [List.length_set];exact h.cl
  show 0≤s.epoch+1∧s.epoch+1≤_;omega
 have hpg:cd p q s=if s.ver=1 then q else p:=by unfold cd;rw [if_pos hu]
 have hok:mW (cd p q s):=by rw [hpg];split <;> assumption
 have hs':tH (cd p q s) { s with wait:=a.wait }:=by rw [hpg];exact ⟨hs.dk,hs.vl,hs.vr,hs.tm,hs.ct⟩
 have ho:=(kQ hok hs' (h:=a.h) (self:=1) (nodes:=3) (drift:=drift) (tick:=a.tick) (ans:=a.draws) ha.nm (de ab) (de ab) (de (by show -1000≤cT s.clock drift a.tick∧cT s.clock drift a.tick≤1000;omega))).1
 obtain ⟨k1,k2,k3,k4,k5⟩:=fR { s with wait:=a.wait } (cd p q s) a.h 1 3 drift a.tick a.names a.draws
 have e1:(dy { s with wait:=a.wait } (cd p q s) a.h 1 3 drift a.tick a.names a.draws).1.ver=s.ver:=k2
 refine ⟨fun _=> ⟨by rw [e1,← hpg];exact ho,by rw [e1];exact hv⟩,fun hx=> by rw [k1] at hx;simp [hu] at hx,?_,ho.ct,?_,?_⟩
 ·rw [k4];show 0≤cT s.clock drift a.tick∧cT s.clock drift a.tick≤_;omega
 ·rw [k5];exact hct a.h
 rw [k3];show 0≤s.epoch∧s.epoch≤_;omega

def GF (w:Int×Int):List PV:=[.v (.int .i64 w.1), .v (.int .i64 w.2)]
def lG (l:List (Int×Int)):List PV:=l.flatMap GF
theorem eJ (l:List (Int×Int)):(lG l).length=l.length*2:=iW GF 2 (fun _=> rfl) l
theorem qD (l:List (Int×Int)) (k:Nat) (h:k < l.length):PV.ups (((lG l).drop (k*2)).take 2)=[.v (.int .i64 (l.getD k (0,0)).1), .v (.int .i64 (l.getD k (0,0)).2)]:=by
 have e:l.getD k (0,0)=l[k]:=by rw [List.getD_eq_getElem?_getD,List.getElem?_eq_getElem h];rfl
 rw [e,show ((lG l).drop (k*2)).take 2=GF l[k] from lU GF 2 (fun _=> rfl) l k h];rfl
theorem uE (l:List (Int×Int)) (x:Int×Int):lG l++GF x=lG (l++[x]):=jR GF l x
theorem qU (l:List (Int×Int)):(lG l).take (l.length*2)=lG l:=List.take_of_length_le (by rw [eJ];exact Nat.le_refl _)
theorem Aq (c:List Int) (l:List (Int×Int)) {k:Nat} (h:k < l.length):pb c (l.take (k+1))=(pb c (l.take k)).set (l.getD k (0,0)).1.toNat (l.getD k (0,0)).2:=by
 have e:l.take (k+1)=l.take k++[l.getD k (0,0)]:=by
  rw [List.take_add_one,List.getElem?_eq_getElem h,List.getD_eq_getElem?_getD,List.getElem?_eq_getElem h];rfl
 rw [e,ol];rfl
abbrev Rh (d:Dk):List AV:=[.sl d.cells.length (cw d.cells), .sl d.pend.length (lG d.pend)]
abbrev rI (d:Dk):AV:= .agg (Rh d)
theorem Er {ρ:aC→aC} {σ:St} {F:aC→Bool} {id:aC} {e:TypeId} {n m:Nat} {l r:List Int} (hid:σ.ob id= .obj (.row e 1 (cw l))) (hF:F id=true) (hm:n=m) (hl:l=r) (hn:m=r.length:=by (rfl)):Lv ρ σ F (.sl m (cw r)) (.ref id 0 n):=by
 subst hm;subst hl
 exact fi hid hF (by rw [aO,Nat.mul_one];exact hn) rfl
theorem hG (d:Dk) (h1:d.cells.length≤1000000) (h2:d.pend.length≤1000000):
  Spec Tryz.prog 88 (ba [rI d] []) (aP (.agg [.ref (0,8) 0 d.cells.length, .ref (1,8) 0 d.pend.length]) [((0,8), .row 3 1 (cw d.cells)),((1,8), .row 126 2 (lG d.pend))]):=by
 refine Spec.ofN Tryz.func88 rfl Tryz.ntmps88 rfl ?_
 refine am (ai (aQ (1,0) _ rfl rfl) (ai (aD (2,0) aa rfl rfl) (aj (am (bb rfl rfl rfl (eZ rfl rfl rfl (ai (bo _ aa rfl) (ai (pS (7,0) _ _ aa rfl rfl _ rfl rfl ab rfl rfl) ?_))))))))
 refine ai (aN _ aa rfl (by exact eV)) ?_
 refine ai (aD (3,0) aa rfl rfl) (bG rfl rfl rfl rfl rfl rfl (aj (am (bb rfl rfl rfl (ai (aF _ aa rfl rfl ei) (bb rfl rfl rfl (eZ rfl rfl rfl (ai (CP _ _ aa rfl rfl (by simp [jA]) (.sl (by rw [aO,Nat.mul_one])) rfl rfl) ?_))))))))
 refine aj (am (bb rfl rfl rfl (ai (aF _ aa rfl rfl (rfl:_=some (AV.v (.slice _ _ _)))) (bb rfl rfl rfl (eZ rfl rfl rfl (ai (wi (18,0) _ _ aa rfl (.sl (by rw [eJ])) ab rfl) ?_))))))
 refine bb rfl rfl rfl (bG rfl rfl rfl rfl rfl rfl (aj (aq ?_)))
 refine aM (σ':=aE 21 [(2,_),(3,_)] [((2,0),_),((7,0),_),((3,0),_),((18,0),_)] [] []) kp ?_
 exact an (ai (az _ aa rfl rfl rfl rfl) (bG rfl rfl rfl rfl rfl rfl (aj (aG (bI (.inr rfl) rfl (.cellA aa rfl rfl rfl) (Le.out [((0,8),(7,0)),((1,8),(18,0))] [] (.agg rfl lz) rfl rfl rfl trivial ⟨⟨rfl,⟨_,rfl, .rowE (by rw [List.take_of_length_le (by rw [aO];omega),List.drop_of_length_le (by simp [jA]),List.append_nil])⟩,rfl⟩,⟨rfl,⟨_,rfl, .rowE rfl⟩,rfl⟩,trivial⟩))))))
theorem jm (c:List Int) (l:List (Int×Int)) (h1:l.length≤1000000) (hc:c.length≤1000000) (ho: ∀ w∈l,0≤w.1∧w.1 < (c.length:Int)):
  Spec Tryz.prog 89 (aY [.ref (0,9) 0 c.length, .sl l.length (lG l)] [((0,9), .row 3 1 (cw c))]) (bc (.tup []) [((0,9), .row 3 1 (cw (pb c l)))] [(0,9)] [(0,9)]):=by
 refine Spec.ofNI Tryz.func89 rfl Tryz.ntmps89 rfl ?_
 refine am (eY rfl (ai (bo _ aa rfl) (aX rfl (aj (ay ?_)))))
 refine bq (α:=Nat) (fun k=> k≤l.length) 19 [(0,_),(6,_),(7,_)] [] (fun k=> [(8, .v (.int .i64 (k:Int)))]) (fun k=> [((0,9), .row 3 1 (cw (pb c (l.take k))))]) [(0,9)] [(0,9)] (fun k=> l.length - k) 0 ?_ (by
  refine Le.mkJ [] [] rfl ?_ ?_ trivial tr ?_
  ·exact ⟨(iR rfl),(iS rfl),(iV rfl),(co ag),trivial⟩
  ·exact ⟨(fj rfl rfl rfl ag),trivial⟩
  kernel_rfl) ?_
 ·omega
 intro k hk
 refine am (ai (bl _ _ rfl rfl rfl) (aj (aU fun K3 hK3=> ?_)))
 refine aR rfl (fun hc9=> ?_) (fun hc9=> ?_)
 ·skip
  have hia:=qD l k ab
  have hm:l.getD k (0,0)∈l:=by rw [List.getD_eq_getElem?_getD,List.getElem?_eq_getElem ab];exact List.getElem_mem _
  obtain ⟨q1,q2⟩:=ho _ hm
  have q3:=Aq c l (k:=k) ab
  generalize l.getD k (0,0)=w at hia q1 q2 q3
  obtain ⟨i,hi⟩:=Int.eq_ofNat_of_zero_le q1
  rw [hi,Int.toNat_natCast] at q3
  have q4:(pb c (l.take k)).length=c.length:=gu _ _
  refine bs (hK3 _ ?_)
  clear hK3;try clear K3
  refine aq (ay (am (ai (bn _ _ aa rfl rfl _ rfl ab (by (simp only [aO,bg,bj,aO,eJ];omega)) ag) ?_)))
  refine ai (cg _ aa rfl (by exact hia) rfl) ?_
  refine ai (aD (5,0) aa rfl rfl) (bG rfl rfl rfl rfl rfl rfl (aj (an (gI rfl (bb rfl rfl rfl (cf rfl rfl rfl (bb rfl rfl rfl (cf rfl rfl rfl (ai (fh _ _ aa rfl rfl rfl i hi ab (by exact (Nat.zero_add _).trans (Nat.mul_one _))) ?_)))))))))
  refine ai (oA _ _ aa rfl rfl rfl rfl rfl (by rw [aO];simp only [List.length_cons,List.length_nil];omega) ((lZ _ _ _ ab).trans (congrArg cw q3.symm))) ?_
  refine ek (an (ai (aZ _ _ rfl rfl (bD ab)) ?_))
  refine aX rfl (aJ (⟨k+1,?_,?_,?_⟩))
  ·omega
  ·skip
   refine Le.mkJ [] [] rfl ?_ ?_ trivial tr ?_
   ·exact ⟨(iR rfl),(iS rfl),(iV rfl),(co ag),trivial⟩
   ·exact ⟨(fj rfl rfl rfl ag),trivial⟩
   kernel_rfl
  omega
 exact bB (id (fB (.inl rfl) rfl (Le.outI [] [] (.tup rfl bf) rfl rfl rfl trivial ⟨⟨rfl,⟨_,rfl, .rowE (by rw [List.take_of_length_le ab])⟩,rfl⟩,trivial⟩ tr rfl)))
theorem qj (d:Dk) (h1:d.cells.length≤1000000) (h2:d.pend.length≤1000000) (ho: ∀ w∈d.pend,0≤w.1∧w.1 < (d.cells.length:Int)):
  Spec Tryz.prog 115 (ba [rI d] []) (aP (rI d.sync) []):=by
 have hd:=hG d h1 h2
 have ha:=jm d.cells d.pend h2 h1 ho
 have hl:d.view.length=d.cells.length:=gu _ _
 have hl2:d.sync.cells.length=d.cells.length:=hl
 refine Spec.ofN Tryz.func115 rfl Tryz.ntmps115 rfl ?_
 refine am (ai (aQ (1,0) _ rfl rfl) (ai (aD (2,0) aa rfl rfl) (aj (am (ai (az _ aa rfl rfl rfl rfl) (ai (cm aa [((0,8),(5,0)),((1,8),(5,1))] ar (hd.toI) trivial tr ae) ?_))))))
 refine ai (aD (3,0) aa rfl rfl) (bG rfl rfl rfl rfl rfl rfl (aj (aU fun K3 hK3=> ?_)))
 refine aM (Le.frzB (ys:=lG d.pend) (3,0) 1 rfl rfl rfl rfl (by rw [List.drop_zero,qU]) (by rw [eJ];omega)) ?_
 refine an (bb rfl rfl rfl (ai (aF _ aa rfl rfl ei) (bb rfl rfl rfl (eZ rfl rfl rfl (ai (cm aa [((0,9),(5,0))] ar (ha) ob tr ae) ?_)))))
 refine aJ (hK3 _ ?_)
 clear hK3;try clear K3
 exact am (bb rfl rfl rfl (bG rfl rfl rfl rfl rfl rfl (aj (am (ai (az _ aa rfl rfl rfl rfl) (bG rfl rfl rfl rfl rfl rfl (aj (aG (bI (.inr rfl) rfl (.cellA aa rfl rfl rfl) (Le.out [] [(5,0)] (.agg rfl (ax (Er rfl rfl hl2.symm rfl) lz)) rfl rfl rfl tr trivial))))))))))
theorem vP (d:Dk) (h1:d.cells.length≤1000000) (h2:d.pend.length≤1000000) (ho: ∀ w∈d.pend,0≤w.1∧w.1 < (d.cells.length:Int)):
  Spec Tryz.prog 82 (ba [rI d] []) (aP (.sl d.view.length (cw d.view)) []):=by
 have hs:=qj d h1 h2 ho
 refine Spec.ofN Tryz.func82 rfl Tryz.ntmps82 rfl ?_
 refine am (ai (aQ (1,0) _ rfl rfl) (ai (bp _ fC) (aj (am (ai (az _ aa rfl rfl rfl rfl) (ai (aI aa al (hs) rfl rfl) ?_))))))
 exact ai (AD _ aa rfl eG) (kH rfl (aj (aG (qV rfl rfl))))
theorem yq (n:Nat) (h1:n≤1000000):
  Spec Tryz.prog 120 (ba [.v (.int .i64 (n:Int))] []) (aP (.agg [.ref (0,8) 0 n, .v (.slice none 0 0)]) [((0,8), .row 3 1 (cw (List.replicate n 0)))]):=by
 refine Spec.ofN Tryz.func120 rfl Tryz.ntmps120 rfl ?_
 refine am (ai (aD (2,0) aa rfl rfl) (aj (am (aX rfl (ai (pS (4,0) _ _ aa rfl rfl _ rfl rfl ab rfl rfl) ?_)))))
 refine ai (aN _ aa rfl (by exact eV)) ?_
 exact bG rfl rfl rfl rfl rfl rfl (aj (aG (bI (.inr rfl) rfl (.cellA aa rfl rfl rfl) (Le.out [((0,8),(4,0))] [] (.agg rfl lz) rfl rfl rfl trivial ⟨⟨rfl,⟨_,rfl, .rowE (by simp [cw,rep])⟩,rfl⟩,trivial⟩))))
theorem DA (v:List Int) (n:Nat):(cw v).take n++(cw (List.replicate n 0)).drop v.length=cw ((v++List.replicate n 0).take n):=by
 simp only [cw,← List.map_take,← List.map_drop,← List.map_append]
 congr 1
 rw [List.take_append,List.take_replicate,List.drop_replicate]
 congr 2
 omega
theorem sH (d:Dk) (n:Nat) (h1:d.cells.length≤1000000) (h2:d.pend.length≤1000000) (hn:n≤1000000) (ho: ∀ w∈d.pend,0≤w.1∧w.1 < (d.cells.length:Int)):
  Spec Tryz.prog 90 (ba [rI d, .v (.int .i64 (n:Int))] []) (aP (rI (d.resize n)) []):=by
 have hv:=vP d h1 h2 ho
 have hnw:=yq n hn
 have hl:(d.resize n).cells.length=n:=by simp [Dk.resize]
 refine Spec.ofN Tryz.func90 rfl Tryz.ntmps90 rfl ?_
 refine am (ai (aQ (2,0) _ rfl rfl) (ai (aD (4,0) aa rfl rfl) (aj (am (aX rfl (ai (cm aa [((0,8),(7,0))] ar (hnw.toI) trivial tr ae) ?_))))))
 refine ai (aD (5,0) aa rfl rfl) (bG rfl rfl rfl rfl rfl rfl (aj (aq ?_)))
 refine aM (σ':=aE 14 [(2,_),(4,_),(5,_)] [((2,0),_),((4,0),_),((7,0),_),((5,0),_)] [] []) kp ?_
 refine bO 4 [8,9,10,11] [] ae ae rfl (aL rfl) (rfl:_=[_,_,_,_]) (rfl:_=[_]) ?_
 refine ap (_,[]) (fun τ=> aA _ aa rfl rfl rfl) ?_
 refine fP rfl ?_
 refine ap (_,[]) (fun τ=> aF _ aa rfl rfl ei) ?_
 refine fQ rfl ?_
 refine ap (_,[]) (fun τ=> az _ aa rfl rfl rfl rfl) ?_
 refine fU rfl ?_
 refine ap (_,[]) (fun τ=> (aI aa al (hv) rfl rfl)) ?_
 refine fY rfl (bm ⟨rfl,?_⟩)
 refine ai (CP _ _ aa rfl rfl (by simp) (.sl (by rw [aO,Nat.mul_one])) (DA _ _) rfl) ?_
 exact aj (am (ai (az _ aa rfl rfl rfl rfl) (bG rfl rfl rfl rfl rfl rfl (aj (aG (bI (.inr rfl) rfl (.cellA aa rfl rfl rfl) (Le.out [] [(7,0)] (.agg rfl (ax (Er rfl rfl hl.symm rfl) lz)) rfl rfl rfl tr trivial)))))))

abbrev jH (d:Dk):Prop:= ∀ w∈d.pend,0≤w.1∧w.1 < (d.cells.length:Int)
theorem HW {ρ:aC→aC} {σ:St} {F:aC→Bool} {id:aC} {e:TypeId} {n m:Nat} {l r:List (Int×Int)} (hid:σ.ob id= .obj (.row e 2 (lG l))) (hF:F id=true) (hm:n=m) (hl:l=r) (hn:m=r.length:=by (rfl)):Lv ρ σ F (.sl m (lG r)) (.ref id 0 n):=by
 subst hm;subst hl
 exact fi hid hF (by rw [eJ,hn]) rfl
theorem wa (d:Dk) (h1:d.cells.length≤1000000) (h2:d.pend.length≤1000000) (c v:Int) (hc:c < 0):
  Spec Tryz.prog 183 (ba [rI d, .v (.int .i64 c), .v (.int .i64 v)] []) (aP (rI d) []):=by
 have hd:=hG d h1 h2
 refine Spec.ofN Tryz.func183 rfl Tryz.ntmps183 rfl ?_
 refine am (ai (aQ (3,0) _ rfl rfl) (ai (aD (6,0) aa rfl rfl) (aj (am (ai (az _ aa rfl rfl rfl rfl) (ai (cm aa [((0,8),(9,0)),((1,8),(9,1))] ar (hd.toI) trivial tr ae) ?_))))))
 refine ai (aD (7,0) aa rfl rfl) (bG rfl rfl rfl rfl rfl rfl (aj (aq (am (aX rfl (ai (bl (r:=true) _ _ rfl rfl (decide_eq_true ab)) ?_))))))
 refine cE rfl (aK rfl rfl ah ?_)
 refine aK rfl rfl ah ?_
 refine aK rfl rfl ah ?_
 refine aK rfl rfl ah ?_
 refine aK rfl rfl ah ?_
 refine ai (aB _ _ _ rfl bJ) (aj (bM rfl rfl (aq ?_)))
 refine aM (σ':=aE 45 [(6,_),(7,_)] [((6,0),_),((9,0),_),((9,1),_),((7,0),_)] [] []) kp ?_
 exact an (ai (az _ aa rfl rfl rfl rfl) (bG rfl rfl rfl rfl rfl rfl (aj (aG (bI (.inr rfl) rfl (.cellA aa rfl rfl rfl) (Le.out [] [(9,0),(9,1)] (.agg rfl (ax (Er rfl rfl rfl rfl) (ax (HW rfl rfl rfl rfl) bf))) rfl rfl rfl tr trivial))))))
theorem wu (d:Dk) (h1:d.cells.length≤1000000) (h2:d.pend.length≤1000000) (c v:Int) (hc:0≤c) (hb:(d.cells.length:Int)≤c):
  Spec Tryz.prog 183 (ba [rI d, .v (.int .i64 c), .v (.int .i64 v)] []) (aP (rI d) []):=by
 have hd:=hG d h1 h2
 refine Spec.ofN Tryz.func183 rfl Tryz.ntmps183 rfl ?_
 refine am (ai (aQ (3,0) _ rfl rfl) (ai (aD (6,0) aa rfl rfl) (aj (am (ai (az _ aa rfl rfl rfl rfl) (ai (cm aa [((0,8),(9,0)),((1,8),(9,1))] ar (hd.toI) trivial tr ae) ?_))))))
 refine ai (aD (7,0) aa rfl rfl) (bG rfl rfl rfl rfl rfl rfl (aj (aq (am (aX rfl (ai (bl (r:=false) _ _ rfl rfl (decide_eq_false ab)) ?_))))))
 refine cE rfl (au rfl rfl (aH _ eg) (au rfl rfl (aA _ aa rfl rfl rfl) (au rfl rfl (aF _ aa rfl rfl eG) (au rfl rfl (bo _ aa rfl) (au rfl rfl (fw (r:=true) _ _ rfl rfl (decide_eq_true ab)) ?_)))))
 refine ai (aB _ _ _ rfl bJ) (aj (bM rfl rfl (aq ?_)))
 refine aM (σ':=aE 45 [(6,_),(7,_)] [((6,0),_),((9,0),_),((9,1),_),((7,0),_)] [] []) kp ?_
 exact an (ai (az _ aa rfl rfl rfl rfl) (bG rfl rfl rfl rfl rfl rfl (aj (aG (bI (.inr rfl) rfl (.cellA aa rfl rfl rfl) (Le.out [] [(9,0),(9,1)] (.agg rfl (ax (Er rfl rfl rfl rfl) (ax (HW rfl rfl rfl rfl) bf))) rfl rfl rfl tr trivial))))))
theorem uX (d:Dk) (h1:d.cells.length≤1000000) (h2:d.pend.length≤1000000) (c v:Int) (hc:0≤c) (hb:c < (d.cells.length:Int)) (hr:d.pend.length+1≤4):
  Spec Tryz.prog 183 (ba [rI d, .v (.int .i64 c), .v (.int .i64 v)] []) (aP (rI ⟨d.cells,d.pend++[(c,v)]⟩) []):=by
 have hd:=hG d h1 h2
 have hl:(d.pend++[(c,v)]).length=d.pend.length+1:=by simp
 refine Spec.ofN Tryz.func183 rfl Tryz.ntmps183 rfl ?_
 refine am (ai (aQ (3,0) _ rfl rfl) (ai (aD (6,0) aa rfl rfl) (aj (am (ai (az _ aa rfl rfl rfl rfl) (ai (cm aa [((0,8),(9,0)),((1,8),(9,1))] ar (hd.toI) trivial tr ae) ?_))))))
 refine ai (aD (7,0) aa rfl rfl) (bG rfl rfl rfl rfl rfl rfl (aj (aq (am (aX rfl (ai (bl (r:=false) _ _ rfl rfl (decide_eq_false ab)) ?_))))))
 refine cE rfl (au rfl rfl (aH _ eg) (au rfl rfl (aA _ aa rfl rfl rfl) (au rfl rfl (aF _ aa rfl rfl eG) (au rfl rfl (bo _ aa rfl) (au rfl rfl (fw (r:=false) _ _ rfl rfl (decide_eq_false ab)) ?_)))))
 refine ai (aB _ _ _ rfl bJ) (aj (aW rfl rfl (aT (aq ?_))))
 refine aM (σ':=aE 45 [(1,_),(2,_),(6,_),(7,_)] [((6,0),_),((9,0),_),((9,1),_),((7,0),_)] [] []) kp ?_
 refine an (bb rfl rfl rfl (ai (aF _ aa rfl rfl ei) (aX rfl (aX rfl (ai (aN _ aa rfl (by exact eV)) ?_)))))
 refine ai (bh _ _ aa rfl ag (by (simp <;> rfl)) ah rfl) ?_
 refine ai (du (m:=1) (news:=GF (c,v)) (26,0) _ _ aa rfl rfl (by rw [eJ]) (.sl rfl) ab rfl (uE _ (c,v)) rfl) ?_
 refine bb rfl rfl rfl (bG rfl rfl rfl rfl rfl rfl (aj (aq (am (bb rfl rfl rfl (ai (aF _ aa rfl rfl ei) (ai (cV _ aa rfl rfl) (ai (fM _ _ rfl rfl rfl) (aj (aW rfl (decide_eq_false ab) ?_))))))))))
 exact aT (am (ai (az _ aa rfl rfl rfl rfl) (bG rfl rfl rfl rfl rfl rfl (aj (aG (bI (.inr rfl) rfl (.cellA aa rfl rfl rfl) (Le.out [] [(9,0),(26,0)] (.agg rfl (ax (Er rfl rfl rfl rfl) (ax (HW rfl rfl hl.symm rfl) bf))) rfl rfl rfl tr trivial)))))))
theorem uw (d:Dk) (h1:d.cells.length≤1000000) (h2:d.pend.length≤1000000) (c v:Int) (ho:jH d) (hc:0≤c) (hb:c < (d.cells.length:Int)) (hr:4 < d.pend.length+1):
  Spec Tryz.prog 183 (ba [rI d, .v (.int .i64 c), .v (.int .i64 v)] []) (aP (rI ⟨pb d.cells ((d.pend++[(c,v)]).take 1),(d.pend++[(c,v)]).drop 1⟩) []):=by
 have hd:=hG d h1 h2
 have hl:(d.pend++[(c,v)]).length=d.pend.length+1:=by simp
 have hia:=qD (d.pend++[(c,v)]) 0 ab
 have ht:(d.pend++[(c,v)]).take 1=[(d.pend++[(c,v)]).getD 0 (0,0)]:=by
  cases d.pend with
  | nil=> rfl
  | cons x l=> rfl
 have hw:0≤((d.pend++[(c,v)]).getD 0 (0,0)).1∧((d.pend++[(c,v)]).getD 0 (0,0)).1 < (d.cells.length:Int):=by
  have hm:(d.pend++[(c,v)]).getD 0 (0,0)∈d.pend++[(c,v)]:=by rw [List.getD_eq_getElem?_getD,List.getElem?_eq_getElem ab];exact List.getElem_mem _
  rcases List.mem_append.1 hm with hm | hm
  ·exact ho _ hm
  rw [List.mem_singleton.1 hm];exact ⟨hc,hb⟩
 have hl2:((d.pend++[(c,v)]).drop 1).length=d.pend.length+1 - 1:=by rw [List.length_drop,hl]
 have hl3:(pb d.cells ((d.pend++[(c,v)]).take 1)).length=d.cells.length:=gu _ _
 have hsl:((lG (d.pend++[(c,v)])).drop (1*2)).take ((d.pend.length+1 - 1)*2)=lG ((d.pend++[(c,v)]).drop 1):=by
  have e:(lG (d.pend++[(c,v)])).drop 2=lG ((d.pend++[(c,v)]).drop 1):=by
   cases d.pend with
   | nil=> rfl
   | cons x l=> rfl
  rw [Nat.one_mul,e,← hl2,qU]
 generalize (d.pend++[(c,v)]).getD 0 (0,0)=w at hia ht hw
 have hap:=jm d.cells [w] (by simp) h1 (fun x hx=> by rw [List.mem_singleton.1 hx];exact hw)
 have hap:Spec Tryz.prog 89 (aY [.ref (0,9) 0 d.cells.length, .sl 1 (lG [w])] [((0,9), .row 3 1 (cw d.cells))]) (bc (.tup []) [((0,9), .row 3 1 (cw (pb d.cells [w])))] [(0,9)] [(0,9)]):=hap
 refine Spec.ofN Tryz.func183 rfl Tryz.ntmps183 rfl ?_
 refine am (ai (aQ (3,0) _ rfl rfl) (ai (aD (6,0) aa rfl rfl) (aj (am (ai (az _ aa rfl rfl rfl rfl) (ai (cm aa [((0,8),(9,0)),((1,8),(9,1))] ar (hd.toI) trivial tr ae) ?_))))))
 refine ai (aD (7,0) aa rfl rfl) (bG rfl rfl rfl rfl rfl rfl (aj (aq (am (aX rfl (ai (bl (r:=false) _ _ rfl rfl (decide_eq_false ab)) ?_))))))
 refine cE rfl (au rfl rfl (aH _ eg) (au rfl rfl (aA _ aa rfl rfl rfl) (au rfl rfl (aF _ aa rfl rfl eG) (au rfl rfl (bo _ aa rfl) (au rfl rfl (fw (r:=false) _ _ rfl rfl (decide_eq_false ab)) ?_)))))
 refine ai (aB _ _ _ rfl bJ) (aj (aW rfl rfl (aT (aq ?_))))
 refine aM (σ':=aE 45 [(1,_),(2,_),(6,_),(7,_)] [((6,0),_),((9,0),_),((9,1),_),((7,0),_)] [] []) kp ?_
 refine an (bb rfl rfl rfl (ai (aF _ aa rfl rfl ei) (aX rfl (aX rfl (ai (aN _ aa rfl (by exact eV)) ?_)))))
 refine ai (bh _ _ aa rfl ag (by (simp <;> rfl)) ah rfl) ?_
 refine ai (du (m:=1) (news:=GF (c,v)) (26,0) _ _ aa rfl rfl (by rw [eJ]) (.sl rfl) ab rfl (uE _ (c,v)) rfl) ?_
 refine bb rfl rfl rfl (bG rfl rfl rfl rfl rfl rfl (aj (aU fun K6 hK6=> ?_)))
 refine am (bb rfl rfl rfl (ai (aF _ aa rfl rfl ei) (ai (cV _ aa rfl rfl) (ai (fM _ _ rfl rfl rfl) (aj (bM rfl (decide_eq_true ab) ?_))))))
 refine aU fun K8 hK8=> ?_
 refine aM (Le.frzB (ys:=lG (d.pend++[(c,v)])) (7,0) 1 rfl rfl rfl rfl (by rw [List.drop_zero,← hl,qU]) (by rw [eJ];omega)) ?_
 refine bO 8 [32,33,34,35,36,37,38,39] [(9,0)] ae ae rfl (aL rfl) (rfl:_=[_,_,_,_,_,_,_,_]) (rfl:_=[]) ?_
 refine ap (_,[]) (fun τ=> aA _ aa rfl rfl rfl) ?_
 refine fP rfl ?_
 refine ap (_,[]) (fun τ=> aF _ aa rfl rfl ei) ?_
 refine fQ rfl ?_
 refine ap (_,[]) (fun τ=> aA _ aa rfl rfl rfl) ?_
 refine fU rfl ?_
 refine ap (_,[]) (fun τ=> aF _ aa rfl rfl eG) ?_
 refine fY rfl ?_
 refine ap (_,[]) (fun τ=> bn _ _ aa rfl rfl 0 rfl ab (by rw [eJ];omega) rfl) ?_
 refine gz rfl ?_
 refine ap (_,[]) (fun τ=> cg _ aa rfl (by exact hia) rfl) ?_
 refine gZ rfl ?_
 refine ap (_,[]) (fun τ=> bh _ _ aa rfl ag (by simp <;> rfl) ah (by exact (rfl:_=some (lG [w])))) ?_
 refine jg rfl ?_
 refine ap (_,[((9,0),_)]) (fun τ=> (bW aa [((0,9),(9,0))] ar (hap) ob tr tr rfl rfl ae ae)) ?_
 refine ka rfl (bm ⟨rfl,?_⟩)
 refine aJ (hK8 _ ?_)
 clear hK8;try clear K8
 refine aM (σ':=aE 45 [(6,_),(7,_)] [((6,0),_),((9,0),_),((7,0),_)] [] []) kp ?_
 refine an (bb rfl rfl rfl (eZ rfl rfl rfl (ai (lc _ _ _ aa rfl 1 (d.pend.length+1) (.lit rfl rfl) .dflt ab ab hsl rfl) ?_)))
 refine bb rfl rfl rfl (bG rfl rfl rfl rfl rfl rfl (aJ (hK6 _ ?_)))
 clear hK6;try clear K6
 exact am (ai (az _ aa rfl rfl rfl rfl) (bG rfl rfl rfl rfl rfl rfl (aj (aG (bI (.inr rfl) rfl (.cellA aa rfl rfl rfl) (Le.out [] [(9,0)] (.agg rfl (ax (Er rfl rfl hl3.symm (congrArg (pb d.cells) ht).symm) (ax (jl hl2 rfl) bf))) rfl rfl rfl tr trivial))))))
theorem uV (d:Dk) (h1:d.cells.length≤1000000) (h2:d.pend.length≤1000000) (ho:jH d) (c v:Int):
  Spec Tryz.prog 183 (ba [rI d, .v (.int .i64 c), .v (.int .i64 v)] []) (aP (rI (d.write c v)) []):=by
 unfold Dk.write
 by_cases h0:c < 0
 ·rw [if_pos (.inl h0)];exact wa d h1 h2 c v h0
 by_cases hb:(d.cells.length:Int)≤c
 ·rw [if_pos (.inr hb)];exact wu d h1 h2 c v ab hb
 rw [if_neg ab]
 by_cases hr:4 < d.pend.length+1
 ·rw [if_pos hr];exact uw d h1 h2 c v ho ab ab hr
 rw [if_neg hr];exact uX d h1 h2 c v ab ab ab
theorem rO: ∀ (l:List (Int×Int)) (b:List Bool) (k:Nat),k < l.length→k < b.length→kept (l.take (k+1)) b=kept (l.take k) b++(if b.getD k false=true then [l.getD k (0,0)] else [])
 | [],_,_,h,_=> by simp at h
 | _::_,[],_,_,h=> by simp at h
 | x::l,y::b,0,_,_=> by cases y <;> simp [kept] <;> cases l <;> simp [kept]
 | x::l,y::b,k+1,h,hb=> by
  have:=rO l b k (by simpa using h) (by simpa using hb)
  cases y <;> simp [kept,this]
theorem uQ: ∀ (l:List (Int×Int)) (b:List Bool) (k:Nat),b.length≤k→kept (l.take (k+1)) b=kept (l.take k) b
 | [],_,_,_=> by simp
 | _::_,[],_,_=> by simp [kept]
 | x::l,y::b,0,h=> by simp at h
 | x::l,y::b,k+1,h=> by
  have:=uQ l b k (by simpa using h)
  cases y <;> simp [kept,this]
set_option maxHeartbeats 1000000 in
theorem ui (d:Dk) (h1:d.cells.length≤1000000) (h2:d.pend.length≤1000000) (ho:jH d) (b:List Bool) (hb:b.length≤1000000):
  Spec Tryz.prog 55 (ba [rI d, .sl b.length (CF b)] []) (aP (rI (d.crash b)) []):=by
 have hd:=hG d h1 h2
 have hlz:(d.crash b).cells.length=d.cells.length:=gu _ _
 refine Spec.ofN Tryz.func55 rfl Tryz.ntmps55 rfl ?_
 refine am (ai (aQ (2,0) _ rfl rfl) (ai (aD (4,0) aa rfl rfl) (aj (am (ai (az _ aa rfl rfl rfl rfl) (ai (cm aa [((0,8),(9,0)),((1,8),(9,1))] ar (hd.toI) trivial tr ae) ?_))))))
 refine ai (aD (5,0) aa rfl rfl) (bG rfl rfl rfl rfl rfl rfl (aj (aU fun K3 hK3=> ?_)))
 refine aq ?_
 refine aM (Le.frzB (ys:=lG d.pend) (5,0) 1 rfl rfl rfl rfl (by rw [List.drop_zero,qU]) (by rw [eJ];omega)) ?_
 refine an (bb rfl rfl rfl (eZ rfl rfl rfl (ai (bo _ aa rfl) (aX rfl (aj (ay ?_))))))
 refine bq (α:=Nat) (fun k=> k≤d.pend.length) 36 [(1,_),(4,_),(5,_),(11,_),(12,_)] [((4,0),_),((5,0),_)] (fun k=> [(13, .v (.int .i64 (k:Int)))]) (fun k=> [((9,0), .row 3 1 (cw (pb d.cells (kept (d.pend.take k) b))))]) [] [] (fun k=> d.pend.length - k) 0 ?_ (by
  refine Le.mkJ [] [] rfl ?_ ?_ trivial trivial ?_
  ·exact ⟨(iS rfl),(iP rfl),(iP rfl),(iS rfl),(iV rfl),(co ag),trivial⟩
  ·exact ⟨(bF rfl rfl rfl),(bF rfl rfl rfl),(fj rfl rfl rfl ag),trivial⟩
  kernel_rfl) ?_
 ·omega
 intro k hk
 refine am (ai (bl _ _ rfl rfl rfl) (aj (aU fun K6 hK6=> ?_)))
 refine aR rfl (fun hc14=> ?_) (fun hc14=> ?_)
 ·skip
  have hia:=qD d.pend k ab
  have hm:d.pend.getD k (0,0)∈d.pend:=by rw [List.getD_eq_getElem?_getD,List.getElem?_eq_getElem ab];exact List.getElem_mem _
  have q0:=ho _ hm
  have q1:=rO d.pend b k ab
  have q2:=uQ d.pend b k
  have ql:(pb d.cells (kept (d.pend.take k) b)).length=d.cells.length:=gu _ _
  have hap:=jm (pb d.cells (kept (d.pend.take k) b)) [d.pend.getD k (0,0)] (by simp) ab (fun x hx=> by rw [List.mem_singleton.1 hx,ql];exact q0)
  have hap:Spec Tryz.prog 89 (aY [.ref (0,9) 0 d.cells.length, .sl 1 (lG [d.pend.getD k (0,0)])] [((0,9), .row 3 1 (cw (pb d.cells (kept (d.pend.take k) b))))]) (bc (.tup []) [((0,9), .row 3 1 (cw (pb (pb d.cells (kept (d.pend.take k) b)) [d.pend.getD k (0,0)])))] [(0,9)] [(0,9)]):=by rw [ql] at hap;exact hap
  rw [← ol] at hap
  generalize d.pend.getD k (0,0)=w at hia q0 q1 hap
  refine bs (hK6 _ ?_)
  clear hK6;try clear K6
  refine aq (ay (am (aX rfl (ai (bn _ _ aa rfl rfl _ rfl ab (by (simp only [aO,bg,bj,aO,eJ];omega)) ag) ?_))))
  refine ai (cg _ aa rfl (by exact hia) rfl) ?_
  refine ai (aD (7,0) aa rfl rfl) (be rfl (bG rfl rfl rfl rfl rfl rfl (aj (am (aX rfl (eY rfl (ai (bo _ aa rfl) (ai (bl _ _ rfl rfl rfl) (cE rfl (dw (fun hg22=> ?_) (fun hg22=> ?_)))))))))))
  ·skip
   refine au rfl rfl (aH _ mL) (au rfl rfl (aH _ eg) (au rfl rfl (bn _ _ aa rfl rfl _ rfl ab (by (simp only [aO,bg,bj,aO,eJ];omega)) (by exact Nat.mul_one _)) ?_))
   refine au rfl rfl (bT _ aa rfl (by exact Gm _ _ ab) rfl) ?_
   refine ai (aB _ _ _ rfl bJ) (aj (aR rfl (fun hc27=> ?_) (fun hc27=> ?_)))
   ·skip
    refine aM (σ':=aE 36 [(1,_),(4,_),(5,_),(7,_),(11,_),(12,_),(13,_)] [((4,0),_),((5,0),_),((9,0),_),((7,0),_)] [] []) kp ?_
    refine an (bb rfl rfl rfl (ai (aF _ aa rfl rfl ei) (ai (az _ aa rfl rfl rfl rfl) (ai (bh _ _ aa rfl ag (by simp <;> rfl) ah (by exact (rfl:_=some (lG [w])))) ?_))))
    refine ai (cm aa [((0,9),(9,0))] ar (hap) ob tr ae) ?_
    refine ek (an (ai (aZ _ _ rfl rfl (bD ab)) ?_))
    refine aX rfl (aJ (⟨k+1,?_,?_,?_⟩))
    ·omega
    ·skip
     refine Le.mkJ [] [] rfl ?_ ?_ trivial trivial ?_
     ·exact ⟨(iS rfl),(iP rfl),(iP rfl),(iS rfl),(iV rfl),(co ag),trivial⟩
     ·exact ⟨(bF rfl rfl rfl),(bF rfl rfl rfl),(fj rfl rfl rfl (by (rw [q1 ab,if_pos hc27]))),trivial⟩
     kernel_rfl
    omega
   refine cp ?_
   refine aM (σ':=aE 36 [(1,_),(4,_),(5,_),(11,_),(12,_),(13,_)] [((4,0),_),((5,0),_),((9,0),_)] [] []) kp ?_
   refine an (ai (aZ _ _ rfl rfl (bD ab)) ?_)
   refine aX rfl (aJ (⟨k+1,?_,?_,?_⟩))
   ·omega
   ·skip
    refine Le.mkJ [] [] rfl ?_ ?_ trivial trivial ?_
    ·exact ⟨(iS rfl),(iP rfl),(iP rfl),(iS rfl),(iV rfl),(co ag),trivial⟩
    ·exact ⟨(bF rfl rfl rfl),(bF rfl rfl rfl),(fj rfl rfl rfl (by (rw [q1 ab,if_neg (by rw [hc27];decide),List.append_nil]))),trivial⟩
    kernel_rfl
   omega
  refine aK rfl rfl ah ?_
  refine aK rfl rfl ah ?_
  refine aK rfl rfl ah ?_
  refine aK rfl rfl ah ?_
  refine ai (aB _ _ _ rfl bJ) (aj (aW rfl rfl (cp ?_)))
  refine aM (σ':=aE 36 [(1,_),(4,_),(5,_),(11,_),(12,_),(13,_)] [((4,0),_),((5,0),_),((9,0),_)] [] []) kp ?_
  refine an (ai (aZ _ _ rfl rfl (bD ab)) ?_)
  refine aX rfl (aJ (⟨k+1,?_,?_,?_⟩))
  ·omega
  ·skip
   refine Le.mkJ [] [] rfl ?_ ?_ trivial trivial ?_
   ·exact ⟨(iS rfl),(iP rfl),(iP rfl),(iS rfl),(iV rfl),(co ag),trivial⟩
   ·exact ⟨(bF rfl rfl rfl),(bF rfl rfl rfl),(fj rfl rfl rfl (by (rw [q2 ab]))),trivial⟩
   kernel_rfl
  omega
 refine bB (id (hK3 _ ?_))
 clear hK3;try clear K3
 exact am (bb rfl rfl rfl (bG rfl rfl rfl rfl rfl rfl (aj (am (ai (az _ aa rfl rfl rfl rfl) (bG rfl rfl rfl rfl rfl rfl (aj (aG (bI (.inr rfl) rfl (.cellA aa rfl rfl rfl) (Le.out [] [(9,0)] (.agg rfl (ax (Er rfl rfl hlz.symm (by unfold Dk.crash;rw [List.take_of_length_le ab])) lz)) rfl rfl rfl tr trivial))))))))))

theorem nM (w:World) (cs:Array Value) (j:Nat) (v:Value) (hv:cs[j]? =some v):(part 3 cs j).run Tryz.prog w= .ok v w:=by
 simp [part,isAgg,run_underlying Tryz.underlying3,hv]
theorem BC (n:Nat) (w:World) (a b:Int):(Op.equalIn (n+1) 3 (.int .i64 a) (.int .i64 b)).run Tryz.prog w= .ok (decide (a=b)) w:=by
 rw [run_equalIn_int w n 3 .i64 .i64 a b Tryz.underlying3]
 by_cases h:a=b <;> simp [h]
theorem BD (n:Nat) (w:World) (a b c a' b' c':Int):(Op.equalIn (n+2) 91 (.agg #[.int .i64 a, .int .i64 b, .int .i64 c]) (.agg #[.int .i64 a', .int .i64 b', .int .i64 c'])).run Tryz.prog w= .ok (decide (a=a'∧b=b'∧c=c')) w:=by
 have h:=nM w #[.int .i64 a, .int .i64 b, .int .i64 c]
 have h':=nM w #[.int .i64 a', .int .i64 b', .int .i64 c']
 have e:=BC n w
 show (Op.equalIn (n+1+1) _ _ _).run Tryz.prog w=_
 rw [Op.equalIn]
 simp only [Sem.run_bind,run_underlying Tryz.underlying91,Result.andThen_ok]
 simp [Op.eqFields,h 0 _ rfl,h 1 _ rfl,h 2 _ rfl,h' 0 _ rfl,h' 1 _ rfl,h' 2 _ rfl,e]
 by_cases p1:a=a' <;> by_cases p2:b=b' <;> by_cases p3:c=c' <;> simp [p1,p2,p3]
theorem zP (w:World) (a b c k i a' b' c' k' i':Int):(Op.equal 109 (.agg #[.int .i64 a, .int .i64 b, .int .i64 c, .int .i64 k, .int .i64 i]) (.agg #[.int .i64 a', .int .i64 b', .int .i64 c', .int .i64 k', .int .i64 i'])).run Tryz.prog w= .ok (decide ((a=a'∧b=b'∧c=c')∧k=k'∧i=i')) w:=by
 have h:=nM w #[.int .i64 a, .int .i64 b, .int .i64 c, .int .i64 k, .int .i64 i]
 have h':=nM w #[.int .i64 a', .int .i64 b', .int .i64 c', .int .i64 k', .int .i64 i']
 have hc: ∀ a b c k i:Int,(part 91 #[.int .i64 a, .int .i64 b, .int .i64 c, .int .i64 k, .int .i64 i] 0).run Tryz.prog w= .ok (.agg #[.int .i64 a, .int .i64 b, .int .i64 c]) w:=fun a b c k i=> by
  simp [part,isAgg,sizeOf,run_underlying Tryz.underlying91]
  rfl
 have e:=BC 9998 w
 have ec:=BD 9997 w
 show (Op.equalIn (9999+1) _ _ _).run Tryz.prog w=_
 rw [Op.equalIn]
 simp only [Sem.run_bind,run_underlying Tryz.underlying109,Result.andThen_ok]
 simp [Op.eqFields,hc,h 3 _ rfl,h 4 _ rfl,h' 3 _ rfl,h' 4 _ rfl,e,ec]
 by_cases p1:a=a' <;> by_cases p2:b=b' <;> by_cases p3:c=c' <;> by_cases p4:k=k' <;> by_cases p5:i=i' <;> simp [p1,p2,p3,p4,p5]
section
variable {σ:St} {dd:Option Tmp} {ty:TypeId}
theorem HL {t':TypeId} (x y:Operand) {a b c k i a' b' c' k' i':Int} (hx:σ.eval x= .agg [.v (.int .i64 a), .v (.int .i64 b), .v (.int .i64 c), .v (.int .i64 k), .v (.int .i64 i)]) (hy:σ.eval y= .agg [.v (.int .i64 a'), .v (.int .i64 b'), .v (.int .i64 c'), .v (.int .i64 k'), .v (.int .i64 i')]) {r:Bool} (hr:decide ((a=a'∧b=b'∧c=c')∧k=k'∧i=i')=r):Stp Tryz.prog dd (.binOp .eql 109 x y t') ty σ (σ.put dd (.v (.bool r))):=by
 refine FD [.int .i64 a, .int .i64 b, .int .i64 c, .int .i64 k, .int .i64 i] [.int .i64 a', .int .i64 b', .int .i64 c', .int .i64 k', .int .i64 i'] hx hy fun o ρ w ho hx hy=> ?_
 have:=zP w a b c k i a' b' c' k' i'
 have hg:Tryz.prog.eqGuardType Tryz.prog.depth 109=false:=by kernel_rfl
 rw [hr] at this
 simp [execOp,ho,hx,hy,eqGuard,binOp,hg,this,Sem.run]
end

structure Tl where
 c1:Int
 c2:Int
 c3:Int
 na:Nat
 A:List PV
 np:Nat
 pre:List PV
def rA (t:Tl) (kind idx ar n:Int):List PV:=[.v (.int .i64 t.c1), .v (.int .i64 t.c2), .v (.int .i64 t.c3), .v (.int .i64 kind), .v (.int .i64 idx), .v (.int .i64 ar), .v (.int .i64 n)]
def tI (t:Tl) (ans l:List Int):List PV:=(List.range l.length).flatMap fun (i:Nat)=> rA t 1 (i:Int) (l.getD i 0) (gv ans i (l.getD i 0))
def EP (t:Tl) (ans l:List Int):List PV:=t.pre++tI t ans l
theorem CT (t:Tl) (ans l:List Int) (k:Int):EP t ans l++rA t 1 (l.length:Int) k (gv ans l.length k)=EP t ans (l++[k]):=by
 unfold EP tI
 rw [List.append_assoc]
 congr 1
 rw [List.length_append,List.length_singleton,List.range_succ,List.flatMap_append]
 congr 1
 ·unfold List.flatMap
  congr 1
  apply List.map_congr_left
  intro i hi
  have hi:=List.mem_range.1 hi
  have e:(l++[k]).getD i 0=l.getD i 0:=by rw [List.getD_eq_getElem?_getD,List.getD_eq_getElem?_getD,List.getElem?_append_left hi]
  rw [e]
 have e:(l++[k]).getD l.length 0=k:=by rw [List.getD_eq_getElem?_getD,List.getElem?_append_right (Nat.le_refl _),Nat.sub_self];rfl
 simp [e]
theorem En (t:Tl) (ans l:List Int):(tI t ans l).length=l.length*7:=by
 unfold tI
 rw [iW (fun (i:Nat)=> rA t 1 (i:Int) (l.getD i 0) (gv ans i (l.getD i 0))) 7 (fun _=> rfl),List.length_range]
theorem FT {t:Tl} (h:t.pre.length=t.np*7) (ans l:List Int):(EP t ans l).length=(t.np+l.length)*7:=by
 unfold EP
 rw [List.length_append,En,h,Nat.add_mul]
structure Mk where
 P:Pg
 iv:List Int
 names:List Int
 ans:List Int
 t:Tl
abbrev Mk.nm (M:Mk) (k:Nat):Int:=M.names.getD k 0
abbrev Mk.cx (M:Mk):Cx:=⟨M.P.c,M.P.d,M.names,M.ans⟩
abbrev QF (c:AV) (e:Nat→Int) (d v:Int) (iv:AV) (nm:Nat→Int) (F ov ac:AV) (sp:Int) (sb:Bool) (cv st:AV) (pc dr se:Int) (en:Bool):List AV:=[c, .v (.int .i64 (e 0)), .v (.int .i64 (e 1)), .v (.int .i64 (e 2)), .v (.int .i64 (e 3)), .v (.int .i64 (e 4)), .v (.int .i64 (e 5)), .v (.int .i64 (e 6)), .v (.int .i64 (e 7)), .v (.int .i64 (e 8)), .v (.int .i64 (e 9)), .v (.int .i64 (e 10)), .v (.int .i64 (e 11)), .v (.int .i64 (e 12)), .v (.int .i64 (e 13)), .v (.int .i64 (e 14)), .v (.int .i64 (e 15)), .v (.int .i64 (e 16)), .v (.int .i64 (e 17)), .v (.int .i64 (e 18)), .v (.int .i64 (e 19)), .v (.int .i64 (e 20)), .v (.int .i64 (e 21)), .v (.int .i64 (e 22)), .v (.int .i64 (e 23)), .v (.int .i64 (e 24)), .v (.int .i64 (e 25)), .v (.int .i64 (e 26)), .v (.int .i64 (e 27)), .v (.int .i64 (e 28)), .v (.int .i64 (e 29)), .v (.int .i64 (e 30)), .v (.int .i64 (e 31)), .v (.int .i64 (e 32)), .v (.int .i64 (e 33)), .v (.int .i64 (e 34)), .v (.int .i64 (e 35)), .v (.int .i64 (e 36)), .v (.int .i64 (e 37)), .v (.int .i64 (e 38)), .v (.int .i64 (e 39)), .v (.int .i64 d), .v (.int .i64 v),iv, .v (.int .i64 (nm 0)), .v (.int .i64 (nm 1)), .v (.int .i64 (nm 2)), .v (.int .i64 (nm 3)), .v (.int .i64 (nm 4)), .v (.int .i64 (nm 5)), .v (.int .i64 (nm 6)), .v (.int .i64 (nm 7)), .v (.int .i64 (nm 8)),F,ov,ac, .v (.int .i64 sp), .v (.bool sb),cv,st, .v (.int .i64 pc), .v (.int .i64 dr), .v (.int .i64 se), .v (.bool en)]
abbrev wo (p:aC):AV:= .fn (.func 113) [] [.ptr p 0]
abbrev jL:AV:= .fn (.func 54) [.ptr (4,9) 0] []
abbrev pu (t:Tl) (n:Nat) (L:List PV) (ak:aC):List (aC×Cells):=[((4,9), .box 103 [.v (.int .i64 t.c1), .v (.int .i64 t.c2), .v (.int .i64 t.c3), .sl t.na t.A, .ref ak 0 n]),(ak, .row 111 7 L)]
abbrev zC (t:Tl) (n:Nat) (L:List PV) (ak:aC):List (aC×Cells):=[((4,9), .box 103 [.v (.int .i64 t.c1), .v (.int .i64 t.c2), .v (.int .i64 t.c3), .sl t.na t.A, .ref ak 0 n]),(ak, .row 111 7 L),((6,9), .box 161 [jL])]
abbrev Mh (M:Mk) (s:Ms) (dr se:Int) (ac st:aC):List AV:=QF (.sl M.P.c.length (inl M.P.c)) M.P.e (M.P.d:Int) (M.P.v:Int) (.sl M.iv.length (cw M.iv)) M.nm (wo (6,9)) (.ref (1,9) 0 s.vars.length) (.ref ac 0 s.acts.length) (s.steps:Int) false (.v (.slice none 0 0)) (.ref st 0 s.stack.length) (s.pc:Int) dr se s.fin
abbrev mD (M:Mk) (s:Ms) (dr se:Int) (ac st ak:aC):List (aC×Cells):=[((0,9), .box 171 (Mh M s dr se ac st)),((1,9), .row 3 1 (cw s.vars)),(ac, .row 57 5 (vA s.acts)),(st, .row 3 1 (cw s.stack)),((4,9), .box 103 [.v (.int .i64 M.t.c1), .v (.int .i64 M.t.c2), .v (.int .i64 M.t.c3), .sl M.t.na M.t.A, .ref ak 0 (M.t.np+s.asked.length)]),(ak, .row 111 7 (EP M.t M.ans s.asked)),((6,9), .box 161 [jL])]
abbrev mN (M:Mk) (s:Ms) (dr se:Int):List (aC×Cells):=mD M s dr se (2,9) (3,9) (5,9)
theorem nb (x lo hi:Int):Spec Tryz.prog 188 (ba [.v (.int .i64 x), .v (.int .i64 lo), .v (.int .i64 hi)] []) (aP (.v (.int .i64 (max lo (min x hi)))) []):=by
 refine Spec.ofN Tryz.func188 rfl Tryz.ntmps188 rfl ?_
 refine am (be rfl (aj (am (aX rfl (aX rfl (aX rfl (ai (Cq _ _ rfl rfl rfl) (ai (Co _ _ rfl rfl rfl) (be rfl (aj ?_))))))))))
 exact aG (fv rfl rfl)
theorem zN (l:List Int) (x:Int):cw l++[.v (.int .i64 x)]=cw (l++[x]):=by simp [cw]
theorem zg (l:List Int) (k:Nat):(cw l).take k=cw (l.take k):=by simp [cw]
theorem xS (x:Int):max (-2147483647) (min x 2147483647)=oT x:=rfl
section
variable (M:Mk) (s:Ms) (dr se:Int)
theorem eM (x:Int) (hs:s.stack.length≤100000):
  Spec Tryz.prog 129 (aY [.ptr (0,9) 0, .v (.int .i64 x)] (mN M s dr se)) (bc (.tup []) (mD M { s with stack:=s.stack++[oT x] } dr se (2,9) (3,8) (5,9)) [(0,9),(1,9),(2,9),(3,8),(4,9),(5,9),(6,9)] [(0,9),(1,9),(2,9),(4,9),(5,9),(6,9)]):=by
 have hc:=nb x (-2147483647) 2147483647
 rw [xS] at hc
 have hl:(s.stack++[oT x]).length=s.stack.length+1:=by simp
 refine Spec.ofNI Tryz.func129 rfl Tryz.ntmps129 rfl ?_
 refine aM (Le.incT (12,0) rfl) ?_
 refine gX 9 [4,5,6,7,8,9,10,11,12] [(3,9),(12,0)] [[],[],[],[(3,9)],[(3,9)],[(3,9)],[(3,9)],[(3,9)],[]] ae ae rfl (aL rfl) (rfl:_=[_,_,_,_,_,_,_,_,_]) (rfl:_=[_,_,_]) ?_
 refine ap (_,[]) (fun τ=> aH _ bX) ?_
 refine fP rfl ?_
 refine ap (_,[]) (fun τ=> aH _ bX) ?_
 refine fQ rfl ?_
 refine ap (_,[]) (fun τ=> aS _ rfl rfl) ?_
 refine fU rfl ?_
 refine ap (_,[]) (fun τ=> aA _ aa rfl rfl rfl) ?_
 refine fY rfl ?_
 refine ap (_,[]) (fun τ=> aF _ aa rfl rfl ei) ?_
 refine gz rfl ?_
 refine ap (_,[]) (fun τ=> aH _ eg) ?_
 refine gZ rfl ?_
 refine ap (_,[]) (fun τ=> (aI aa al (hc) rfl rfl)) ?_
 refine jg rfl ?_
 refine ap (_,[]) (fun τ=> bh _ _ aa rfl ag (by (simp <;> rfl)) ah rfl) ?_
 refine ka rfl ?_
 refine ap (_,[((3,9), .gone),((12,0),_)]) (fun τ=> mZ (b:=true) (12,0) _ _ aa rfl (eL rfl (by exact dO) rfl) (by simp) (.sl rfl) ab rfl rfl rfl (zN _ _) hl.symm) ?_
 refine kG rfl (bm ⟨⟨rfl,by kernel_rfl⟩,?_⟩)
 exact ai (aS _ rfl rfl) (bb rfl rfl rfl (bG rfl rfl rfl rfl rfl rfl (aJ (fB (.inl rfl) rfl (Le.outI [((3,8),(12,0))] [] (.tup rfl bf) rfl rfl rfl trivial ob tr rfl)))))
theorem ca (hs:s.stack.length≤100000) (h0:0 < s.stack.length):
  Spec Tryz.prog 131 (aY [.ptr (0,9) 0] (mN M s dr se)) (bc (.v (.int .i64 (s.top 0))) (mD M { s with stack:=s.pop 1 } dr se (2,9) (3,8) (5,9)) [(0,9),(1,9),(2,9),(3,8),(4,9),(5,9),(6,9)] [(0,9),(1,9),(2,9),(4,9),(5,9),(6,9)]):=by
 obtain ⟨m,hm⟩: ∃ m,s.stack.length=m+1:=⟨s.stack.length - 1,by omega⟩
 have ht:s.top 0=s.stack.getD m 0:=by unfold Ms.top;rw [hm];rfl
 have hp:s.pop 1=s.stack.take m:=by unfold Ms.pop;rw [hm];rfl
 have hl:(s.stack.take m).length=m:=by rw [List.length_take];omega
 rw [ht,hp]
 refine Spec.ofNI Tryz.func131 rfl Tryz.ntmps131 rfl ?_
 refine am (be rfl (aj (aq (bO 13 [4,5,6,7,8,9,10,11,12,13,14,15,3] [] ae ae rfl (aL rfl) (rfl:_=[_,_,_,_,_,_,_,_,_,_,_,_,_]) (rfl:_=[]) ?_))))
 refine ap (_,[]) (fun τ=> aH _ bX) ?_
 refine fP rfl ?_
 refine ap (_,[]) (fun τ=> aS _ rfl rfl) ?_
 refine fQ rfl ?_
 refine ap (_,[]) (fun τ=> aA _ aa rfl rfl rfl) ?_
 refine fU rfl ?_
 refine ap (_,[]) (fun τ=> aF _ aa rfl rfl ei) ?_
 refine fY rfl ?_
 refine ap (_,[]) (fun τ=> aH _ bX) ?_
 refine gz rfl ?_
 refine ap (_,[]) (fun τ=> aS _ rfl rfl) ?_
 refine gZ rfl ?_
 refine ap (_,[]) (fun τ=> aA _ aa rfl rfl rfl) ?_
 refine jg rfl ?_
 refine ap (_,[]) (fun τ=> aF _ aa rfl rfl ei) ?_
 refine ka rfl ?_
 refine ap (_,[]) (fun τ=> cV _ aa rfl rfl) ?_
 refine kG rfl ?_
 refine ap (_,[]) (fun τ=> jt (r:=(m:Int)) _ _ rfl rfl ((bD ab).trans ab)) ?_
 refine fW rfl ?_
 refine ap (_,[]) (fun τ=> fh _ _ aa rfl rfl rfl _ rfl ab (by exact (Nat.zero_add _).trans (Nat.mul_one _))) ?_
 refine gL rfl ?_
 refine ap (_,[]) (fun τ=> jX _ aa rfl rfl (by exact eb _ _ ab) rfl) ?_
 refine kP rfl ?_
 refine ap (_,[]) (fun τ=> bp _ eg) ?_
 refine mt rfl (bm ⟨rfl,?_⟩)
 refine aj (aq ?_)
 refine aM (σ':=aE 31 [(0,_),(3,_)] [((0,9),_),((1,9),_),((2,9),_),((3,9),_),((4,9),_),((5,9),_),((6,9),_)] [(0,9),(1,9),(2,9),(3,9),(4,9),(5,9),(6,9)] [(0,9),(1,9),(2,9),(4,9),(5,9),(6,9)]) kp ?_
 refine bO 14 [16,17,18,19,20,21,22,23,24,25,26,27,28,29] [] ae ae rfl (aL rfl) (rfl:_=[_,_,_,_,_,_,_,_,_,_,_,_,_,_]) (rfl:_=[_]) ?_
 refine ap (_,[]) (fun τ=> aH _ bX) ?_
 refine fP rfl ?_
 refine ap (_,[]) (fun τ=> aH _ bX) ?_
 refine fQ rfl ?_
 refine ap (_,[]) (fun τ=> aS _ rfl rfl) ?_
 refine fU rfl ?_
 refine ap (_,[]) (fun τ=> aA _ aa rfl rfl rfl) ?_
 refine fY rfl ?_
 refine ap (_,[]) (fun τ=> aF _ aa rfl rfl ei) ?_
 refine gz rfl ?_
 refine ap (_,[]) (fun τ=> aH _ bX) ?_
 refine gZ rfl ?_
 refine ap (_,[]) (fun τ=> aS _ rfl rfl) ?_
 refine jg rfl ?_
 refine ap (_,[]) (fun τ=> aA _ aa rfl rfl rfl) ?_
 refine ka rfl ?_
 refine ap (_,[]) (fun τ=> aF _ aa rfl rfl ei) ?_
 refine kG rfl ?_
 refine ap (_,[]) (fun τ=> cV _ aa rfl rfl) ?_
 refine fW rfl ?_
 refine ap (_,[]) (fun τ=> jt (r:=(m:Int)) _ _ rfl rfl ((bD ab).trans ab)) ?_
 refine gL rfl ?_
 refine ap (_,[]) (fun τ=> zE _ _ _ aa rfl rfl 0 m .dflt (.lit rfl rfl) ab ab rfl rfl) ?_
 refine kP rfl ?_
 refine ap (_,[]) (fun τ=> aS _ rfl rfl) ?_
 refine mt rfl ?_
 refine ap (_,[]) (fun τ=> aA _ aa rfl rfl rfl) ?_
 refine pw rfl (bm ⟨rfl,?_⟩)
 refine bG rfl rfl rfl rfl rfl rfl (aj (aq ?_))
 refine aM (Le.cutR (3,9) m rfl (zg _ _)) ?_
 exact an (aX rfl (be rfl (aj (aG (bI (.inr rfl) rfl (.tmp lb) (Le.outI [((3,8),(3,9))] [] .v rfl rfl rfl trivial ⟨⟨rfl,⟨_,rfl, .box rfl (ax .sl (zq (zq (zq (zq (ax .v (ax .v (ax .sl (zu (zu (ax .v (ax (.fn rfl bf rfl lz) (ax (cP rfl rfl) (ax (cP rfl rfl) (ax .v (ax .v (ax .v (ax (cP rfl hl) lz))))))))))))))))))⟩,rfl⟩,⟨rfl,⟨_,rfl, .rowE rfl⟩,rfl⟩,⟨rfl,⟨_,rfl, .rowE rfl⟩,rfl⟩,⟨rfl,⟨_,rfl, .rowE rfl⟩,rfl⟩,⟨rfl,⟨_,rfl, .box rfl lz⟩,rfl⟩,⟨rfl,⟨_,rfl, .rowE rfl⟩,rfl⟩,⟨rfl,⟨_,rfl, .box rfl lz⟩,rfl⟩,trivial⟩ tr rfl))))))
theorem gC (k a b c d:Int) (hs:s.acts.length≤100000):
  Spec Tryz.prog 132 (aY [.ptr (0,9) 0, .v (.int .i64 k), .v (.int .i64 a), .v (.int .i64 b), .v (.int .i64 c), .v (.int .i64 d)] (mN M s dr se)) (bc (.tup []) (mD M { s with acts:=s.acts++[{ k:=k,a:=a,b:=b,c:=c,d:=d }] } dr se (2,8) (3,9) (5,9)) [(0,9),(1,9),(2,8),(3,9),(4,9),(5,9),(6,9)] [(0,9),(1,9),(3,9),(4,9),(5,9),(6,9)]):=by
 have hl:(s.acts++[({ k:=k,a:=a,b:=b,c:=c,d:=d }:Ac)]).length=s.acts.length+1:=by simp
 refine Spec.ofNI Tryz.func132 rfl Tryz.ntmps132 rfl ?_
 refine an (bR rfl (bR rfl (ai (aS _ rfl rfl) (bb rfl rfl rfl (bb rfl rfl rfl (ai (aF _ aa rfl rfl ei) (aX rfl (aX rfl (aX rfl (aX rfl ?_))))))))))
 refine aX rfl (ai (aN _ aa rfl (by exact sU)) ?_)
 refine ai (bh _ _ aa rfl ag (by (simp <;> rfl)) ah rfl) ?_
 refine cA (Le.incT (25,0) rfl) ?_
 refine ai (mZ (b:=true) (25,0) _ _ aa rfl rfl (gk _).symm (.sl rfl) ab rfl rfl rfl (Ct _ { k:=k,a:=a,b:=b,c:=c,d:=d }) hl.symm) ?_
 exact ai (aS _ rfl rfl) (bb rfl rfl rfl (bb rfl rfl rfl (bG rfl rfl rfl rfl rfl rfl (aJ (fB (.inl rfl) rfl (Le.outI [((2,8),(25,0))] [] (.tup rfl bf) rfl rfl rfl trivial ob tr rfl))))))
end

section
variable (M:Mk) (s:Ms) (dr se:Int)
theorem FH (n:Int) (hs:s.stack.length≤90000):
  Spec Tryz.prog 127 (aY [.ptr (0,9) 0, .v (.int .i64 n)] (mN M s dr se)) (bc (.tup []) (mD M { s with stack:=s.stack++[oT n] } dr se (2,8) (3,8) (5,8)) [(0,9),(1,9),(2,8),(3,8),(4,9),(5,8),(6,9)] [(0,9),(1,9),(4,9),(6,9)]):=by
 refine Spec.ofNI Tryz.func127 rfl Tryz.ntmps127 rfl ?_
 refine an (bR rfl (aX rfl (cA (Le.incT (6,0) rfl) ?_)))
 refine ai (bi aa [((3,8),(6,0))] ar (eM M s dr se n ab) ob tr tr rfl ae ae) ?_
 exact aJ (fB (.inl rfl) rfl (Le.outI [((2,8),(2,9)),((3,8),(6,0)),((5,8),(5,9))] [] (.tup rfl bf) rfl rfl rfl trivial ob tr rfl))
theorem EJ (k:Nat) (hk:k < s.vars.length) (hs:s.stack.length≤90000):
  Spec Tryz.prog 128 (aY [.ptr (0,9) 0, .v (.int .i64 (k:Int))] (mN M s dr se)) (bc (.tup []) (mD M { s with stack:=s.stack++[oT (s.vars.getD k 0)] } dr se (2,8) (3,8) (5,8)) [(0,9),(1,9),(2,8),(3,8),(4,9),(5,8),(6,9)] [(0,9),(1,9),(4,9),(6,9)]):=by
 refine Spec.ofNI Tryz.func128 rfl Tryz.ntmps128 rfl ?_
 refine an (bR rfl (bR rfl (ai (aS _ rfl rfl) (bb rfl rfl rfl (bb rfl rfl rfl (ai (aF _ aa rfl rfl ei) (aX rfl (ai (fh _ _ aa rfl rfl rfl _ rfl ab (by exact (Nat.zero_add _).trans (Nat.mul_one _))) ?_))))))))
 refine ai (jX _ aa rfl rfl (by exact eb _ _ ab) rfl) ?_
 refine cA (Le.incT (13,0) rfl) ?_
 refine ai (bi aa [((3,8),(13,0))] ar (eM M s dr se (s.vars.getD k 0) ab) ob tr tr rfl ae ae) ?_
 exact aJ (fB (.inl rfl) rfl (Le.outI [((2,8),(2,9)),((3,8),(13,0)),((5,8),(5,9))] [] (.tup rfl bf) rfl rfl rfl trivial ob tr rfl))
theorem Bg (n:Int) (ha:s.acts.length≤90000):
  Spec Tryz.prog 150 (aY [.ptr (0,9) 0, .v (.int .i64 n)] (mN M s dr se)) (bc (.tup []) (mD M { s with acts:=s.acts++[{ k:=4,a:=n }] } dr se (2,8) (3,8) (5,8)) [(0,9),(1,9),(2,8),(3,8),(4,9),(5,8),(6,9)] [(0,9),(1,9),(4,9),(6,9)]):=by
 refine Spec.ofNI Tryz.func150 rfl Tryz.ntmps150 rfl ?_
 refine an (bR rfl (aX rfl (cA (Le.incT (6,0) rfl) ?_)))
 refine ai (bi aa [((2,8),(6,0))] ar (gC M s dr se 4 n 0 0 0 ab) ob tr tr rfl ae ae) ?_
 exact aJ (fB (.inl rfl) rfl (Le.outI [((2,8),(6,0)),((3,8),(3,9)),((5,8),(5,9))] [] (.tup rfl bf) rfl rfl rfl trivial ob tr rfl))
theorem xR (n:Int) (ha:s.acts.length≤90000):
  Spec Tryz.prog 151 (aY [.ptr (0,9) 0, .v (.int .i64 n)] (mN M s dr se)) (bc (.tup []) (mD M { s with acts:=s.acts++[{ k:=5,a:=n }] } dr se (2,8) (3,8) (5,8)) [(0,9),(1,9),(2,8),(3,8),(4,9),(5,8),(6,9)] [(0,9),(1,9),(4,9),(6,9)]):=by
 refine Spec.ofNI Tryz.func151 rfl Tryz.ntmps151 rfl ?_
 refine an (bR rfl (aX rfl (cA (Le.incT (6,0) rfl) ?_)))
 refine ai (bi aa [((2,8),(6,0))] ar (gC M s dr se 5 n 0 0 0 ab) ob tr tr rfl ae ae) ?_
 exact aJ (fB (.inl rfl) rfl (Le.outI [((2,8),(6,0)),((3,8),(3,9)),((5,8),(5,9))] [] (.tup rfl bf) rfl rfl rfl trivial ob tr rfl))
theorem EY (n:Int) (ha:s.acts.length≤90000):
  Spec Tryz.prog 152 (aY [.ptr (0,9) 0, .v (.int .i64 n)] (mN M s dr se)) (bc (.tup []) (mD M { s with acts:=s.acts++[{ k:=2 }] } dr se (2,8) (3,8) (5,8)) [(0,9),(1,9),(2,8),(3,8),(4,9),(5,8),(6,9)] [(0,9),(1,9),(4,9),(6,9)]):=by
 refine Spec.ofNI Tryz.func152 rfl Tryz.ntmps152 rfl ?_
 refine an (bR rfl (cA (Le.incT (5,0) rfl) ?_))
 refine ai (bi aa [((2,8),(5,0))] ar (gC M s dr se 2 0 0 0 0 ab) ob tr tr rfl ae ae) ?_
 exact aJ (fB (.inl rfl) rfl (Le.outI [((2,8),(5,0)),((3,8),(3,9)),((5,8),(5,9))] [] (.tup rfl bf) rfl rfl rfl trivial ob tr rfl))
theorem DM (n:Int):
  Spec Tryz.prog 155 (aY [.ptr (0,9) 0, .v (.int .i64 n)] (mN M s dr se)) (bc (.tup []) (mD M { s with fin:=true } dr se (2,8) (3,8) (5,8)) [(0,9),(1,9),(2,8),(3,8),(4,9),(5,8),(6,9)] [(0,9),(1,9),(4,9),(6,9)]):=by
 refine Spec.ofNI Tryz.func155 rfl Tryz.ntmps155 rfl ?_
 exact an (bR rfl (ai (aS _ rfl rfl) (bb rfl rfl rfl (bG rfl rfl rfl rfl rfl rfl (aJ (fB (.inl rfl) rfl (Le.outI [((2,8),(2,9)),((3,8),(3,9)),((5,8),(5,9))] [] (.tup rfl bf) rfl rfl rfl trivial ob tr rfl)))))))
theorem EL (n:Nat):
  Spec Tryz.prog 147 (aY [.ptr (0,9) 0, .v (.int .i64 (n:Int))] (mN M s dr se)) (bc (.tup []) (mD M { s with pc:=n } dr se (2,8) (3,8) (5,8)) [(0,9),(1,9),(2,8),(3,8),(4,9),(5,8),(6,9)] [(0,9),(1,9),(4,9),(6,9)]):=by
 refine Spec.ofNI Tryz.func147 rfl Tryz.ntmps147 rfl ?_
 exact an (bR rfl (aX rfl (ai (aS _ rfl rfl) (bb rfl rfl rfl (bG rfl rfl rfl rfl rfl rfl (aJ (fB (.inl rfl) rfl (Le.outI [((2,8),(2,9)),((3,8),(3,9)),((5,8),(5,9))] [] (.tup rfl bf) rfl rfl rfl trivial ob tr rfl))))))))
theorem Ea (n:Int) (hs:s.stack.length≤90000) (h0:0 < s.stack.length) (hr:Rg (s.top 0)):
  Spec Tryz.prog 141 (aY [.ptr (0,9) 0, .v (.int .i64 n)] (mN M s dr se)) (bc (.tup []) (mD M { s with stack:=s.pop 1++[oT (-(s.top 0))] } dr se (2,8) (3,8) (5,8)) [(0,9),(1,9),(2,8),(3,8),(4,9),(5,8),(6,9)] [(0,9),(1,9),(4,9),(6,9)]):=by
 unfold Rg at hr
 refine Spec.ofNI Tryz.func141 rfl Tryz.ntmps141 rfl ?_
 refine an (bR rfl (bR rfl (cA (Le.incT (6,0) rfl) ?_)))
 refine ai (bi aa [((3,8),(6,0))] ar (ca M s dr se ab h0) ob tr tr rfl ae ae) ?_
 refine ai (Ar (r:= -(s.top 0)) _ rfl (bD ab)) ?_
 refine cA (Le.incT (8,0) rfl) ?_
 refine ai (bi aa [((3,9),(6,0)),((3,8),(8,0))] ar (eM M { s with stack:=s.pop 1 } dr se (-(s.top 0)) (by have:=cF s 1;simp only;omega)) ob tr tr rfl ae ae) ?_
 exact aJ (fB (.inl rfl) rfl (Le.outI [((2,8),(2,9)),((3,8),(8,0)),((5,8),(5,9))] [] (.tup rfl bf) rfl rfl rfl trivial ob tr rfl))
theorem Ci (n:Int) (hs:s.stack.length≤90000) (ha:s.acts.length≤90000) (h0:0 < s.stack.length):
  Spec Tryz.prog 154 (aY [.ptr (0,9) 0, .v (.int .i64 n)] (mN M s dr se)) (bc (.tup []) (mD M { s with stack:=s.pop 1,acts:=s.acts++[{ k:=7,a:=s.top 0 }] } dr se (2,8) (3,8) (5,8)) [(0,9),(1,9),(2,8),(3,8),(4,9),(5,8),(6,9)] [(0,9),(1,9),(4,9),(6,9)]):=by
 refine Spec.ofNI Tryz.func154 rfl Tryz.ntmps154 rfl ?_
 refine an (bR rfl (bR rfl (cA (Le.incT (6,0) rfl) ?_)))
 refine ai (bi aa [((3,8),(6,0))] ar (ca M s dr se ab h0) ob tr tr rfl ae ae) ?_
 refine cA (Le.incT (7,0) rfl) ?_
 refine ai (bi aa [((3,9),(6,0)),((2,8),(7,0))] ar (gC M { s with stack:=s.pop 1 } dr se 7 (s.top 0) 0 0 0 (by simp only;omega)) ob tr tr rfl ae ae) ?_
 exact aJ (fB (.inl rfl) rfl (Le.outI [((2,8),(7,0)),((3,8),(6,0)),((5,8),(5,9))] [] (.tup rfl bf) rfl rfl rfl trivial ob tr rfl))
end

section
variable (M:Mk) (s:Ms) (dr se:Int)
theorem AG (k:Nat) (hk:k < s.vars.length) (hs:s.stack.length≤90000) (ha:s.acts.length≤90000) (h0:0 < s.stack.length) (hd:k < M.P.d):
  Spec Tryz.prog 130 (aY [.ptr (0,9) 0, .v (.int .i64 (k:Int))] (mN M s dr se)) (bc (.tup []) (mD M { s with vars:=s.vars.set k (s.top 0),stack:=s.pop 1,acts:=s.acts++[{ k:=1,a:=k,b:=s.top 0 }] } dr se (2,8) (3,8) (5,8)) [(0,9),(1,9),(2,8),(3,8),(4,9),(5,8),(6,9)] [(0,9),(1,9),(4,9),(6,9)]):=by
 have hl:(s.vars.set k (s.top 0)).length=s.vars.length:=List.length_set
 have hg:=eb (s.vars.set k (s.top 0)) k (by rw [hl];exact hk)
 rw [List.getD_eq_getElem?_getD,List.getElem?_set_self hk] at hg
 refine Spec.ofNI Tryz.func130 rfl Tryz.ntmps130 rfl ?_
 refine aq ?_
 refine aM (Le.incT (11,0) rfl) ?_
 refine xc (0,9) (fun c=> ∃ xs,c=Slot.obj (.box 171 xs)∧xs[54]? =some (.ref (1,9) 0 s.vars.length)) 8 [4,5,6,7,8,9,10,11] [(0,9),(1,9),(2,9),(11,0),(4,9),(5,9),(6,9),(3,9)] ae ae rfl (aL rfl) (rfl:_=[_,_,_,_,_,_,_,_]) (rfl:_=[_,_]) (⟨_,rfl,rfl⟩) ?_
 refine gb (_,[]) (fun τ hτ=> aH _ bX) ?_
 refine fZ (rfl:_=[_]) ?_
 refine gb (_,[]) (fun τ hτ=> aS _ rfl (by exact hτ.choose_spec.1)) ?_
 refine fZ (rfl:_=[_,_]) ?_
 refine gb (_,[]) (fun τ hτ=> aA _ aa rfl (by exact hτ.choose_spec.1) rfl) ?_
 refine fZ (rfl:_=[_,_,_]) ?_
 refine gb (_,[]) (fun τ hτ=> aA _ aa rfl (by exact hτ.choose_spec.1) rfl) ?_
 refine fZ (rfl:_=[_,_,_,_]) ?_
 refine gb (_,[]) (fun τ hτ=> aF _ aa rfl (by exact hτ.choose_spec.1) (by exact hτ.choose_spec.2)) ?_
 refine fZ (rfl:_=[_,_,_,_,_]) ?_
 refine gb (_,[]) (fun τ hτ=> aH _ eg) ?_
 refine fZ (rfl:_=[_,_,_,_,_,_]) ?_
 refine gb (_,[]) (fun τ hτ=> aH _ bX) ?_
 refine fZ (rfl:_=[_,_,_,_,_,_,_]) ?_
 refine gb (_,[((0,9),_),((1,9),_),((2,9),_),((11,0),_),((4,9),_),((5,9),_),((6,9),_),((3,9), .gone)]) (fun τ hτ=> (bi aa [((3,8),(11,0))] ar (ca M s dr se ab h0) ob tr tr rfl ae ae)) ?_
 refine fZ (rfl:_=[_,_,_,_,_,_,_,_]) ?_
 refine ul ⟨⟨rfl,(by intro r hr c hc;simp only [List.mem_cons,List.not_mem_nil,or_false] at hr;rcases hr with rfl | rfl | rfl | rfl | rfl | rfl | rfl | rfl <;> simp at hc;subst hc;exact ⟨_,rfl,rfl⟩)⟩,?_⟩
 refine ai (fh _ _ aa rfl rfl rfl _ rfl ab (by exact (Nat.zero_add _).trans (Nat.mul_one _))) ?_
 refine ai (oA _ _ aa rfl rfl rfl rfl rfl (by rw [aO];exact hk) (lZ s.vars k (s.top 0) hk)) ?_
 refine aj (am (aX rfl (bR rfl (ai (aS _ rfl rfl) (bb rfl rfl rfl (bb rfl rfl rfl (cf rfl rfl rfl (ai (bl _ _ rfl rfl rfl) (aj (bM rfl (decide_eq_true ab) ?_))))))))))
 refine aM (σ':=aE 31 [(0,_),(1,_)] [((0,9),_),((1,9),_),((2,9),_),((4,9),_),((5,9),_),((6,9),_),((11,0),_)] [(0,9),(1,9),(2,9),(4,9),(5,9),(6,9),(11,0)] [(0,9),(1,9),(4,9),(6,9)]) kp ?_
 refine an (bR rfl (aX rfl (bR rfl (ai (aS _ rfl rfl) (bb rfl rfl rfl (bb rfl rfl rfl (ai (aF _ aa rfl rfl ei) (aX rfl (ai (fh _ _ aa rfl rfl rfl _ rfl ab (by exact (Nat.zero_add _).trans (Nat.mul_one _))) ?_)))))))))
 refine ai (jX _ aa rfl rfl (by exact hg) rfl) ?_
 refine cA (Le.incT (30,0) rfl) ?_
 refine ai (bi aa [((3,9),(11,0)),((2,8),(30,0))] ar (gC M { s with vars:=s.vars.set k (s.top 0),stack:=s.pop 1 } dr se 1 (k:Int) (s.top 0) 0 0 (by simp only;omega)) ⟨⟨rfl,⟨_,rfl, .box ag (ax .sl (zq (zq (zq (zq (ax .v (ax .v (ax .sl (zu (zu (ax .v (ax (.fn rfl bf rfl lz) (ax (cP (id:=(1,9)) (id':=(1,9)) rfl hl) lz)))))))))))))⟩,rfl⟩,⟨rfl,⟨_,rfl, .rowE rfl⟩,rfl⟩,⟨rfl,⟨_,rfl, .rowE rfl⟩,rfl⟩,⟨rfl,⟨_,rfl, .rowE rfl⟩,rfl⟩,⟨rfl,⟨_,rfl, .box ag lz⟩,rfl⟩,⟨rfl,⟨_,rfl, .rowE rfl⟩,rfl⟩,⟨rfl,⟨_,rfl, .box ag lz⟩,rfl⟩,trivial⟩ tr tr rfl ae ae) ?_
 exact aJ (fB (.inl rfl) rfl (Le.outI [((2,8),(30,0)),((3,8),(11,0)),((5,8),(5,9))] [] (.tup rfl bf) rfl rfl rfl trivial ob tr rfl))
theorem Dd (k:Nat) (hk:k < s.vars.length) (hs:s.stack.length≤90000) (h0:0 < s.stack.length) (hd:M.P.d≤k):
  Spec Tryz.prog 130 (aY [.ptr (0,9) 0, .v (.int .i64 (k:Int))] (mN M s dr se)) (bc (.tup []) (mD M { s with vars:=s.vars.set k (s.top 0),stack:=s.pop 1 } dr se (2,8) (3,8) (5,8)) [(0,9),(1,9),(2,8),(3,8),(4,9),(5,8),(6,9)] [(0,9),(1,9),(4,9),(6,9)]):=by
 have hl:(s.vars.set k (s.top 0)).length=s.vars.length:=List.length_set
 have hg:=eb (s.vars.set k (s.top 0)) k (by rw [hl];exact hk)
 rw [List.getD_eq_getElem?_getD,List.getElem?_set_self hk] at hg
 refine Spec.ofNI Tryz.func130 rfl Tryz.ntmps130 rfl ?_
 refine aq ?_
 refine aM (Le.incT (11,0) rfl) ?_
 refine xc (0,9) (fun c=> ∃ xs,c=Slot.obj (.box 171 xs)∧xs[54]? =some (.ref (1,9) 0 s.vars.length)) 8 [4,5,6,7,8,9,10,11] [(0,9),(1,9),(2,9),(11,0),(4,9),(5,9),(6,9),(3,9)] ae ae rfl (aL rfl) (rfl:_=[_,_,_,_,_,_,_,_]) (rfl:_=[_,_]) (⟨_,rfl,rfl⟩) ?_
 refine gb (_,[]) (fun τ hτ=> aH _ bX) ?_
 refine fZ (rfl:_=[_]) ?_
 refine gb (_,[]) (fun τ hτ=> aS _ rfl (by exact hτ.choose_spec.1)) ?_
 refine fZ (rfl:_=[_,_]) ?_
 refine gb (_,[]) (fun τ hτ=> aA _ aa rfl (by exact hτ.choose_spec.1) rfl) ?_
 refine fZ (rfl:_=[_,_,_]) ?_
 refine gb (_,[]) (fun τ hτ=> aA _ aa rfl (by exact hτ.choose_spec.1) rfl) ?_
 refine fZ (rfl:_=[_,_,_,_]) ?_
 refine gb (_,[]) (fun τ hτ=> aF _ aa rfl (by exact hτ.choose_spec.1) (by exact hτ.choose_spec.2)) ?_
 refine fZ (rfl:_=[_,_,_,_,_]) ?_
 refine gb (_,[]) (fun τ hτ=> aH _ eg) ?_
 refine fZ (rfl:_=[_,_,_,_,_,_]) ?_
 refine gb (_,[]) (fun τ hτ=> aH _ bX) ?_
 refine fZ (rfl:_=[_,_,_,_,_,_,_]) ?_
 refine gb (_,[((0,9),_),((1,9),_),((2,9),_),((11,0),_),((4,9),_),((5,9),_),((6,9),_),((3,9), .gone)]) (fun τ hτ=> (bi aa [((3,8),(11,0))] ar (ca M s dr se ab h0) ob tr tr rfl ae ae)) ?_
 refine fZ (rfl:_=[_,_,_,_,_,_,_,_]) ?_
 refine ul ⟨⟨rfl,(by intro r hr c hc;simp only [List.mem_cons,List.not_mem_nil,or_false] at hr;rcases hr with rfl | rfl | rfl | rfl | rfl | rfl | rfl | rfl <;> simp at hc;subst hc;exact ⟨_,rfl,rfl⟩)⟩,?_⟩
 refine ai (fh _ _ aa rfl rfl rfl _ rfl ab (by exact (Nat.zero_add _).trans (Nat.mul_one _))) ?_
 refine ai (oA _ _ aa rfl rfl rfl rfl rfl (by rw [aO];exact hk) (lZ s.vars k (s.top 0) hk)) ?_
 refine aj (am (aX rfl (bR rfl (ai (aS _ rfl rfl) (bb rfl rfl rfl (bb rfl rfl rfl (cf rfl rfl rfl (ai (bl _ _ rfl rfl rfl) (aj (aW rfl (decide_eq_false ab) ?_))))))))))
 exact bs (fB (.inl rfl) rfl (Le.outI [((2,8),(2,9)),((3,8),(11,0)),((5,8),(5,9))] [] (.tup rfl bf) rfl rfl rfl trivial ⟨⟨rfl,⟨_,rfl, .box rfl (ax .sl (zq (zq (zq (zq (ax .v (ax .v (ax .sl (zu (zu (ax .v (ax (.fn rfl bf rfl lz) (ax (cP rfl hl) lz)))))))))))))⟩,rfl⟩,⟨rfl,⟨_,rfl, .rowE rfl⟩,rfl⟩,⟨rfl,⟨_,rfl, .rowE rfl⟩,rfl⟩,⟨rfl,⟨_,rfl, .rowE rfl⟩,rfl⟩,⟨rfl,⟨_,rfl, .box rfl lz⟩,rfl⟩,⟨rfl,⟨_,rfl, .rowE rfl⟩,rfl⟩,⟨rfl,⟨_,rfl, .box rfl lz⟩,rfl⟩,trivial⟩ tr rfl))
end

section
variable (M:Mk) (s:Ms) (dr se:Int)
theorem ID (ac st:aC) (k:Nat) (hk:k < 9):(Mh M s dr se ac st)[44+k]? =some (.v (.int .i64 (M.nm k))):=by
 rcases k with _ | _ | _ | _ | _ | _ | _ | _ | _ | k
 all_goals first | rfl | omega
theorem fK (j k:Nat) (h:j+k < s.stack.length):({ s with stack:=s.pop k }:Ms).top j=s.top (j+k):=by
 unfold Ms.top Ms.pop
 simp only [List.length_take]
 rw [List.getD_eq_getElem?_getD,List.getD_eq_getElem?_getD,List.getElem?_take_of_lt ab]
 congr 2;omega
theorem fG (j k:Nat):({ s with stack:=s.pop k }:Ms).pop j=s.pop (j+k):=by
 unfold Ms.pop
 simp only [List.length_take,List.take_take]
 congr 1;omega
theorem AN (k:Nat) (hk:k < 9) (hs:s.stack.length≤90000):
  Spec Tryz.prog 133 (aY [.ptr (0,9) 0, .v (.int .i64 (k:Int))] (mN M s dr se)) (bc (.tup []) (mD M { s with stack:=s.stack++[oT (M.nm k)] } dr se (2,8) (3,8) (5,8)) [(0,9),(1,9),(2,8),(3,8),(4,9),(5,8),(6,9)] [(0,9),(1,9),(4,9),(6,9)]):=by
 refine Spec.ofNI Tryz.func133 rfl Tryz.ntmps133 rfl ?_
 refine an (bR rfl (bR rfl (aX rfl (ai (aS _ rfl rfl) (bb rfl rfl rfl (bb rfl rfl rfl (ai (da _ _ aa rfl rfl rfl k rfl ab (by exact congrArg (fun z=> 0+43+1+z) (Nat.mul_one k))) ?_)))))))
 refine ai (aF _ aa rfl rfl (by exact (congrArg (fun z=> (Mh M s dr se (2,9) (3,9))[z]?) ab).trans (ID M s dr se (2,9) (3,9) k hk))) ?_
 refine cA (Le.incT (12,0) rfl) ?_
 refine ai (bi aa [((3,8),(12,0))] ar (eM M s dr se (M.nm k) ab) ob tr tr rfl ae ae) ?_
 exact aJ (fB (.inl rfl) rfl (Le.outI [((2,8),(2,9)),((3,8),(12,0)),((5,8),(5,9))] [] (.tup rfl bf) rfl rfl rfl trivial ob tr rfl))
theorem Fm (n:Nat) (hs:s.stack.length≤90000) (h0:0 < s.stack.length) (hc:s.top 0=0):
  Spec Tryz.prog 148 (aY [.ptr (0,9) 0, .v (.int .i64 (n:Int))] (mN M s dr se)) (bc (.tup []) (mD M { s with stack:=s.pop 1,pc:=n } dr se (2,8) (3,8) (5,8)) [(0,9),(1,9),(2,8),(3,8),(4,9),(5,8),(6,9)] [(0,9),(1,9),(4,9),(6,9)]):=by
 refine Spec.ofNI Tryz.func148 rfl Tryz.ntmps148 rfl ?_
 refine am (bR rfl (cA (Le.incT (5,0) rfl) ?_))
 refine ai (bi aa [((3,8),(5,0))] ar (ca M s dr se ab h0) ob tr tr rfl ae ae) ?_
 refine ai (bC _ _ rfl rfl rfl) (aj (bM rfl (decide_eq_true hc) ?_))
 exact an (bR rfl (aX rfl (ai (aS _ rfl rfl) (bb rfl rfl rfl (bG rfl rfl rfl rfl rfl rfl (aJ (fB (.inl rfl) rfl (Le.outI [((2,8),(2,9)),((3,8),(5,0)),((5,8),(5,9))] [] (.tup rfl bf) rfl rfl rfl trivial ob tr rfl))))))))
theorem FC (n:Int) (hs:s.stack.length≤90000) (h0:0 < s.stack.length) (hc:s.top 0=0):
  Spec Tryz.prog 146 (aY [.ptr (0,9) 0, .v (.int .i64 n)] (mN M s dr se)) (bc (.tup []) (mD M { s with stack:=s.pop 1++[1] } dr se (2,8) (3,8) (5,8)) [(0,9),(1,9),(2,8),(3,8),(4,9),(5,8),(6,9)] [(0,9),(1,9),(4,9),(6,9)]):=by
 rw [show (1:Int)=oT 1 from ah]
 refine Spec.ofNI Tryz.func146 rfl Tryz.ntmps146 rfl ?_
 refine am (bR rfl (cA (Le.incT (5,0) rfl) ?_))
 refine ai (bi aa [((3,8),(5,0))] ar (ca M s dr se ab h0) ob tr tr rfl ae ae) ?_
 refine ai (bC _ _ rfl rfl rfl) (aj (bM rfl (decide_eq_true hc) ?_))
 refine an (bR rfl (cA (Le.incT (8,0) rfl) ?_))
 refine ai (bi aa [((3,9),(5,0)),((3,8),(8,0))] ar (eM M { s with stack:=s.pop 1 } dr se 1 (by have:=cF s 1;simp only;omega)) ob tr tr rfl ae ae) ?_
 exact aJ (fB (.inl rfl) rfl (Le.outI [((2,8),(2,9)),((3,8),(8,0)),((5,8),(5,9))] [] (.tup rfl bf) rfl rfl rfl trivial ob tr rfl))
theorem Eu (n:Nat) (hs:s.stack.length≤90000) (h0:0 < s.stack.length) (hc:s.top 0≠0):
  Spec Tryz.prog 148 (aY [.ptr (0,9) 0, .v (.int .i64 (n:Int))] (mN M s dr se)) (bc (.tup []) (mD M { s with stack:=s.pop 1 } dr se (2,8) (3,8) (5,8)) [(0,9),(1,9),(2,8),(3,8),(4,9),(5,8),(6,9)] [(0,9),(1,9),(4,9),(6,9)]):=by
 refine Spec.ofNI Tryz.func148 rfl Tryz.ntmps148 rfl ?_
 refine am (bR rfl (cA (Le.incT (5,0) rfl) ?_))
 refine ai (bi aa [((3,8),(5,0))] ar (ca M s dr se ab h0) ob tr tr rfl ae ae) ?_
 refine ai (bC _ _ rfl rfl rfl) (aj (aW rfl (decide_eq_false hc) ?_))
 exact bs (fB (.inl rfl) rfl (Le.outI [((2,8),(2,9)),((3,8),(5,0)),((5,8),(5,9))] [] (.tup rfl bf) rfl rfl rfl trivial ob tr rfl))
theorem Ge (n:Int) (hs:s.stack.length≤90000) (h0:0 < s.stack.length) (hc:s.top 0≠0):
  Spec Tryz.prog 146 (aY [.ptr (0,9) 0, .v (.int .i64 n)] (mN M s dr se)) (bc (.tup []) (mD M { s with stack:=s.pop 1++[0] } dr se (2,8) (3,8) (5,8)) [(0,9),(1,9),(2,8),(3,8),(4,9),(5,8),(6,9)] [(0,9),(1,9),(4,9),(6,9)]):=by
 rw [show (0:Int)=oT 0 from ah]
 refine Spec.ofNI Tryz.func146 rfl Tryz.ntmps146 rfl ?_
 refine am (bR rfl (cA (Le.incT (5,0) rfl) ?_))
 refine ai (bi aa [((3,8),(5,0))] ar (ca M s dr se ab h0) ob tr tr rfl ae ae) ?_
 refine ai (bC _ _ rfl rfl rfl) (aj (aW rfl (decide_eq_false hc) ?_))
 refine an (bR rfl (cA (Le.incT (10,0) rfl) ?_))
 refine ai (bi aa [((3,9),(5,0)),((3,8),(10,0))] ar (eM M { s with stack:=s.pop 1 } dr se 0 (by have:=cF s 1;simp only;omega)) ob tr tr rfl ae ae) ?_
 exact aJ (fB (.inl rfl) rfl (Le.outI [((2,8),(2,9)),((3,8),(10,0)),((5,8),(5,9))] [] (.tup rfl bf) rfl rfl rfl trivial ob tr rfl))
theorem Av (n:Int) (hs:s.stack.length≤90000) (ha:s.acts.length≤90000) (h2:2≤s.stack.length):
  Spec Tryz.prog 153 (aY [.ptr (0,9) 0, .v (.int .i64 n)] (mN M s dr se)) (bc (.tup []) (mD M { s with stack:=s.pop 2,acts:=s.acts++[{ k:=6,a:=s.top 1,b:=s.top 0 }] } dr se (2,8) (3,8) (5,8)) [(0,9),(1,9),(2,8),(3,8),(4,9),(5,8),(6,9)] [(0,9),(1,9),(4,9),(6,9)]):=by
 have h2x:=ca M { s with stack:=s.pop 1 } dr se (by have:=cF s 1;simp only;omega) (by have:=cF s 1;simp only;omega)
 rw [fK s 0 1 ab,fG] at h2x
 refine Spec.ofNI Tryz.func153 rfl Tryz.ntmps153 rfl ?_
 refine am (bR rfl (cA (Le.incT (6,0) rfl) ?_))
 refine ai (bi aa [((3,8),(6,0))] ar (ca M s dr se ab ab) ob tr tr rfl ae ae) ?_
 refine be rfl (aj (an (bR rfl (bR rfl (cA (Le.incT (9,0) rfl) ?_)))))
 refine ai (bi aa [((3,9),(6,0)),((3,8),(9,0))] ar (h2x) ob tr tr rfl ae ae) ?_
 refine aX rfl (cA (Le.incT (11,0) rfl) ?_)
 refine ai (bi aa [((3,9),(9,0)),((2,8),(11,0))] ar (gC M { s with stack:=s.pop 2 } dr se 6 (s.top 1) (s.top 0) 0 0 (by simp only;omega)) ob tr tr rfl ae ae) ?_
 exact aJ (fB (.inl rfl) rfl (Le.outI [((2,8),(11,0)),((3,8),(9,0)),((5,8),(5,9))] [] (.tup rfl bf) rfl rfl rfl trivial ob tr rfl))
end
end Go.Proofs.YtmjnackchaahbaaGreat
