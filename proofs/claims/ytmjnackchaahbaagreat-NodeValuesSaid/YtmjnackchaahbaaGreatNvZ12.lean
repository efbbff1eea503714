/- part 12 -/
import Derived.Test.YtmjnackchaahbaaGreatNvZ11
set_option linter.unusedSimpArgs false
set_option linter.unusedVariables false
set_option maxHeartbeats 2000000
namespace Go.Proofs.YtmjnackchaahbaaGreat
open Go.RowKit

theorem Ce (m:Nat) (l:List Int) (hm:l.length=m) (h1:m≤4611686018427387904) (k:Nat) (hk:k≤1000):
  Spec Tryz.prog 21 (aI [.sl m (ba l), .v (.int .i64 (k:Int))] []) (aA (.ref (0,8) 0 (min m k)) [((0,8), .row 3 1 (ba (l.take (min m k))))]):=by
 have e1:min (m:Int) (k:Int)=((min m k:Nat):Int):=by omega
 refine Spec.ofN Tryz.func21 rfl Tryz.ntmps21 rfl ?_
 refine aG (aj (aX _ ea) (am (aG (aj (aX _ ea) (am (aG (aj (bZ _ ea) (go 4 ?_))))))))
 refine aj (qu _ _ rfl rfl e1) ?_
 refine aj (gA _ _ _ aa rfl 0 _ .dflt (.lit rfl rfl) ab ab (by exact Ft _ _) (Nat.sub_zero _)) ?_
 refine aj (sL (13,0) _ _ aa rfl (.sl (by rw [aq,List.length_take];omega)) ab rfl) ?_
 exact dZ rfl (am (au (cq (.inr rfl) rfl (.tmp mP) (Le.out [((0,8),(13,0))] [] (ca rfl ag) rfl rfl rfl trivial ob))))
theorem zD (l:List Int) (h1:l.length≤4611686018427387904) (k:Nat) (hk:k≤1000):
  Spec Tryz.prog 21 (aI [.sl l.length (ba l), .v (.int .i64 (k:Int))] []) (aA (.sl (l.take k).length (ba (l.take k))) []):=by
 have e:l.take (min l.length k)=l.take k:=by
  rcases Nat.le_total l.length k with h | h
  ·rw [Nat.min_eq_left h,List.take_of_length_le (Nat.le_refl _),List.take_of_length_le h]
  rw [Nat.min_eq_right h]
 have:=(Ce l.length l rfl h1 k hk).frz (by simp)
 rw [e] at this
 rw [List.length_take,Nat.min_comm];exact this
end Go.Proofs.YtmjnackchaahbaaGreat

set_option maxHeartbeats 2000000
namespace Go.Proofs.YtmjnackchaahbaaGreat
open Go.RowKit

structure Pg where
 c:List et
 e:Nat→Int
 d:Nat
 v:Nat
abbrev Ue (p:Pg):List AV:=Bx p.c.length (inl p.c) p.e (p.d:Int) (p.v:Int)
abbrev fY (p:Pg):AV:= .agg (Ue p)
end Go.Proofs.YtmjnackchaahbaaGreat

set_option maxHeartbeats 2000000
namespace Go.Proofs.YtmjnackchaahbaaGreat

structure Dk where
 cells:List Int
 pend:List (Int×Int):=[]
def ma (c:List Int) (l:List (Int×Int)):List Int:=l.foldl (fun c w=> c.set w.1.toNat w.2) c
@[simp] theorem dq (l:List (Int×Int)): ∀ (c:List Int),(ma c l).length=c.length:=by
 induction l with
 | nil=> intro c;rfl
 | cons w l ih=> intro c;show (ma (c.set _ _) l).length=_;rw [ih,List.length_set]
theorem nn (c:List Int) (l m:List (Int×Int)):ma c (l++m)=ma (ma c l) m:=by simp [ma,List.foldl_append]
def Dk.view (d:Dk):List Int:=ma d.cells d.pend
def Dk.write (d:Dk) (c v:Int):Dk:=
 if c < 0∨(d.cells.length:Int)≤c then d
 else if 4 < d.pend.length+1 then ⟨ma d.cells ((d.pend++[(c,v)]).take 1),(d.pend++[(c,v)]).drop 1⟩
 else ⟨d.cells,d.pend++[(c,v)]⟩
def Dk.sync (d:Dk):Dk:=⟨d.view,[]⟩
def kept:List (Int×Int)→List Bool→List (Int×Int)
 | w::l,true::k=> w::kept l k
 | _::l,false::k=> kept l k
 | _,_=> []
def Dk.crash (d:Dk) (k:List Bool):Dk:=⟨ma d.cells (kept d.pend k),[]⟩
def Dk.resize (d:Dk) (n:Nat):Dk:=⟨(d.view++List.replicate n 0).take n,[]⟩
structure DkOk (n:Nat) (d:Dk):Prop where
 len:d.cells.length=n
 rg: ∀ v∈d.cells,Rg v
 pn:d.pend.length≤4
 pr: ∀ w∈d.pend,0≤w.1∧w.1 < n∧Rg w.2
theorem tw: ∀ (l:List (Int×Int)) {c:List Int},(∀ v∈c,Rg v)→(∀ w∈l,Rg w.2)→ ∀ v∈ma c l,Rg v
 | [],_,h,_=> h
 | w::l,c,h,hw=> tw l (c:=c.set w.1.toNat w.2) (pH h (hw w (by simp))) fun x hx=> hw x (by simp [hx])
theorem DkOk.view {n:Nat} {d:Dk} (h:DkOk n d):d.view.length=n∧ ∀ v∈d.view,Rg v:=⟨by unfold Dk.view;rw [dq,h.len],tw _ h.rg fun w hw=> (h.pr w hw).2.2⟩
theorem DkOk.write {n:Nat} {d:Dk} (h:DkOk n d) {c v:Int} (hv:Rg v):DkOk n (d.write c v):=by
 unfold Dk.write
 split
 ·exact h
 rename_i hc
 have hl:=h.len
 have hp: ∀ w∈d.pend++[(c,v)],0≤w.1∧w.1 < n∧Rg w.2:=fun w hw=> by
  rcases List.mem_append.1 hw with hw | hw
  ·exact h.pr w hw
  simp at hw;subst hw;exact ⟨by simp only;omega,by simp only;omega,hv⟩
 split
 ·have:=h.pn
  refine ⟨by simp only;rw [dq];exact hl,tw _ h.rg fun w hw=> (hp w (List.mem_of_mem_take hw)).2.2,by simp;omega,fun w hw=> hp w (List.mem_of_mem_drop hw)⟩
 exact ⟨hl,h.rg,by simp;omega,hp⟩
theorem DkOk.sync {n:Nat} {d:Dk} (h:DkOk n d):DkOk n d.sync:=⟨h.view.1,h.view.2,by simp [Dk.sync],fun w hw=> by simp [Dk.sync] at hw⟩
theorem nL: ∀ {l:List (Int×Int)} {k:List Bool} {w:Int×Int},w∈kept l k→w∈l
 | [],[],_,h=> by simp [kept] at h
 | [],_::_,_,h=> by simp [kept] at h
 | _::_,[],_,h=> by simp [kept] at h
 | x::l,true::k,w,h=> by
  simp only [kept,List.mem_cons] at h ⊢
  exact h.imp id fun h=> nL h
 | x::l,false::k,w,h=> by
  simp only [kept] at h
  exact List.mem_cons_of_mem _ (nL h)
theorem DkOk.crash {n:Nat} {d:Dk} (h:DkOk n d) (k:List Bool):DkOk n (d.crash k):=
 ⟨by unfold Dk.crash;simp only;rw [dq];exact h.len,tw _ h.rg fun w hw=> (h.pr w (nL hw)).2.2,by simp [Dk.crash],fun w hw=> by simp [Dk.crash] at hw⟩
theorem DkOk.resize {m:Nat} {d:Dk} (h:DkOk m d) (n:Nat):DkOk n (d.resize n):=by
 obtain ⟨h1,h2⟩:=h.view
 refine ⟨by simp [Dk.resize],fun v hv=> ?_,by simp [Dk.resize],fun w hw=> by simp [Dk.resize] at hw⟩
 rcases List.mem_append.1 (List.mem_of_mem_take hv) with hv | hv
 ·exact h2 v hv
 rw [List.mem_replicate] at hv;rw [hv.2];exact oB
theorem wu {n:Nat} {d:Dk} (h:DkOk n d) {c v:Int} (h0:0≤c) (h1:c < n):(d.write c v).view=d.view.set c.toNat v:=by
 unfold Dk.write
 have hl:=h.len
 rw [if_neg ab]
 split
 ·unfold Dk.view
  simp only
  rw [← nn,List.take_append_drop,nn];rfl
 unfold Dk.view
 simp only
 rw [nn];rfl

structure Ns where
 up:Bool:=false
 ver:Int:= -1
 epoch:Int:=0
 clock:Int:=0
 dk:Dk:=⟨[],[]⟩
 vol:List Int:=[]
 timers:List Int:=[]
 counts:List Int:=List.replicate 41 0
 wait:Int:= -1
structure Nr where
 sent:List Ac:=[]
 repl:Bool:=false
 value:Int:=0
 fails:List Int:=[]
def rX (l:List Int) (k:Int) (set:Bool):List Int:=((List.range 8).map fun (i:Nat)=> (i:Int)).filter fun i=> if i=k then set else decide (i∈l)
def dj (q:Ns×Nr) (a:Ac):Ns×Nr:=
 if a.k=1 then ({ q.1 with dk:=q.1.dk.write a.a a.b },q.2)
 else if a.k=2 then ({ q.1 with dk:=q.1.dk.sync },q.2)
 else if a.k=4 then ({ q.1 with timers:=rX q.1.timers a.a true },q.2)
 else if a.k=5 then ({ q.1 with timers:=rX q.1.timers a.a false },q.2)
 else if a.k=3 then (q.1,{ q.2 with sent:=q.2.sent++[a] })
 else if a.k=6 then (if 0≤q.1.wait∧a.a=q.1.wait then ({ q.1 with wait:= -1 },{ q.2 with repl:=true,value:=a.b }) else q)
 else if a.k=7 then (q.1,{ q.2 with fails:=q.2.fails++[a.a] })
 else q
def fT (p:Pg) (h:Nat) (names vars ans:List Int):Ms:=if p.e h < 0 then { vars:=vars,pc:=0 } else jf ⟨p.c,p.d,names,ans⟩ 500 (cQ vars (p.e h).toNat)
def aT (clock drift tick:Int):Int:=clock+1+(if 0 < drift then tick % (drift+1) else 0)
def dt (names:List Int) (self nodes clock:Int):List Int:=((names.set 0 self).set 1 nodes).set 2 clock
def fw (s:Ns) (p:Pg) (h:Nat) (self nodes drift tick:Int) (names ans:List Int):Ms:=fT p h (dt names self nodes (aT s.clock drift tick)) (s.dk.view++s.vol) ans
def cJ (s:Ns) (p:Pg) (h:Nat) (self nodes drift tick:Int) (names ans:List Int):Ns×Nr:=
 (fw s p h self nodes drift tick names ans).acts.foldl dj ({ s with clock:=aT s.clock drift tick,counts:=s.counts.set h (s.counts.getD h 0+1),vol:=(fw s p h self nodes drift tick names ans).vars.drop p.d },{})
def cH (s:Ns) (p:Pg) (v:Int):Ns:={ s with ver:=v,dk:=if s.dk.cells.length=p.d then s.dk else s.dk.resize p.d,vol:=List.replicate p.v 0,timers:=[],wait:= -1,up:=true }
def mJ (s:Ns) (p:Pg) (v self nodes drift tick:Int) (ans:List Int):Ns×Nr:=cJ (cH s p v) p 0 self nodes drift tick (List.replicate 9 0) ans
def fQ (s:Ns) (k:List Bool):Ns:={ s with dk:=s.dk.crash k,counts:=s.counts.set 40 (s.counts.getD 40 0+1),epoch:=s.epoch+1,vol:=List.replicate s.vol.length 0,timers:=[],wait:= -1,up:=false }
theorem rL (q:Ns×Nr) (a:Ac):(dj q a).1.up=q.1.up∧(dj q a).1.ver=q.1.ver∧(dj q a).1.epoch=q.1.epoch∧(dj q a).1.clock=q.1.clock∧(dj q a).1.vol=q.1.vol∧(dj q a).1.counts=q.1.counts:=by
 unfold dj
 split
 ·exact ⟨rfl,rfl,rfl,rfl,rfl,rfl⟩
 split
 ·exact ⟨rfl,rfl,rfl,rfl,rfl,rfl⟩
 split
 ·exact ⟨rfl,rfl,rfl,rfl,rfl,rfl⟩
 split
 ·exact ⟨rfl,rfl,rfl,rfl,rfl,rfl⟩
 split
 ·exact ⟨rfl,rfl,rfl,rfl,rfl,rfl⟩
 split
 ·split <;> exact ⟨rfl,rfl,rfl,rfl,rfl,rfl⟩
 split <;> exact ⟨rfl,rfl,rfl,rfl,rfl,rfl⟩
theorem ow: ∀ (l:List Ac) (q:Ns×Nr),(l.foldl dj q).1.up=q.1.up∧(l.foldl dj q).1.ver=q.1.ver∧(l.foldl dj q).1.epoch=q.1.epoch∧(l.foldl dj q).1.clock=q.1.clock∧(l.foldl dj q).1.vol=q.1.vol∧(l.foldl dj q).1.counts=q.1.counts
 | [],q=> ⟨rfl,rfl,rfl,rfl,rfl,rfl⟩
 | a::l,q=> by
  obtain ⟨a1,a2,a3,a4,a5,a6⟩:=rL q a
  obtain ⟨b1,b2,b3,b4,b5,b6⟩:=ow l (dj q a)
  exact ⟨b1.trans a1,b2.trans a2,b3.trans a3,b4.trans a4,b5.trans a5,b6.trans a6⟩
theorem tR {n:Nat} {q:Ns×Nr} {a:Ac} (h:DkOk n q.1.dk) (ha:Rg a.b):DkOk n (dj q a).1.dk:=by
 unfold dj
 split
 ·exact h.write ha
 split
 ·exact h.sync
 split
 ·exact h
 split
 ·exact h
 split
 ·exact h
 split
 ·split <;> exact h
 split <;> exact h
theorem yf {n:Nat}: ∀ (l:List Ac) {q:Ns×Nr},DkOk n q.1.dk→(∀ a∈l,Rg a.b)→DkOk n (l.foldl dj q).1.dk
 | [],_,h,_=> h
 | a::l,q,h,ha=> yf l (q:=dj q a) (tR h (ha a (by simp))) fun b hb=> ha b (by simp [hb])
end Go.Proofs.YtmjnackchaahbaaGreat

set_option maxHeartbeats 2000000
namespace Go.Proofs.YtmjnackchaahbaaGreat

structure po (p:Pg):Prop where
 ex: ∃ D,Good D (p.d+p.v) 0 (p.c.length - 1) 0 p.c∧ ∀ h,p.e h < 0∨(0≤p.e h∧p.e h < p.c.length∧D (p.e h).toNat=0)
 nv:p.d+p.v≤16
theorem pN {p:Pg} (hp:po p) {h:Nat} {names vars ans:List Int} (hn: ∀ i,Rg (names.getD i 0)) (hv:vars.length=p.d+p.v) (hr: ∀ v∈vars,Rg v):
  IV ⟨p.c,p.d,names,ans⟩ (p.d+p.v) (fT p h names vars ans)∧(fT p h names vars ans).vars.take p.d=vU (vars.take p.d) (fT p h names vars ans).acts∧(fT p h names vars ans).steps≤500:=by
 obtain ⟨D,hg,he⟩:=hp.ex
 unfold fT
 split
 ·exact ⟨⟨hv,hr,fun v hv=> by simp at hv,fun a ha=> by simp at ha,by simp [bL],fun k hk=> by simp at hk⟩,rfl,by simp⟩
 rename_i hne
 rcases he h with he | ⟨e1,e2,e3⟩
 ·exact absurd he hne
 have hK:PG ⟨p.c,p.d,names,ans⟩ D (p.d+p.v):=⟨hg,hp.nv,hn⟩
 have hs:=qa (K:=⟨p.c,p.d,names,ans⟩) (D:=D) hv hr (e:=(p.e h).toNat) (by show _ < p.c.length;omega) e3
 refine ⟨(IR hK hs 500).iv,Gt hK hs 500,?_⟩
 have:=(lR (K:=⟨p.c,p.d,names,ans⟩) 500 (cQ vars (p.e h).toNat)).1
 simpa [cQ] using this
theorem rT {n:Nat}: ∀ (l:List Ac) (q:Ns×Nr),DkOk n q.1.dk→(∀ a∈l,Rg a.b∧(a.k=1→0≤a.a∧a.a < n))→(l.foldl dj q).1.dk.view=vU q.1.dk.view l
 | [],q,_,_=> rfl
 | a::l,q,h,ha=> by
  obtain ⟨h1,h2⟩:=ha a (by simp)
  simp only [List.foldl_cons]
  rw [rT l (dj q a) (tR h h1) fun b hb=> ha b (by simp [hb])]
  show vU _ l=vU (if a.k=1 then q.1.dk.view.set a.a.toNat a.b else q.1.dk.view) l
  congr 1
  unfold dj
  by_cases hk:a.k=1
  ·rw [if_pos hk,if_pos hk]
   exact wu h (h2 hk).1 (h2 hk).2
  rw [if_neg hk,if_neg hk]
  split
  ·rfl
  split
  ·rfl
  split
  ·rfl
  split
  ·rfl
  split
  ·split <;> rfl
  split <;> rfl
def Gd (l:List Int):Prop:=l.Pairwise (· < ·)∧ ∀ x∈l,0≤x∧x < 8
theorem DJ (l:List Int) (k:Int) (b:Bool):Gd (rX l k b):=by
 unfold rX
 refine ⟨List.Pairwise.filter _ (by rw [List.pairwise_map];exact List.pairwise_lt_range.imp fun h=> by omega),fun x hx=> ?_⟩
 obtain ⟨hm,_⟩:=List.mem_filter.1 hx
 obtain ⟨i,hi,rfl⟩:=List.mem_map.1 hm
 have:=List.mem_range.1 hi
 omega
theorem xR: ∀ (l:List Ac) (q:Ns×Nr),Gd q.1.timers→Gd (l.foldl dj q).1.timers
 | [],q,h=> h
 | a::l,q,h=> by
  simp only [List.foldl_cons]
  refine xR l _ ?_
  unfold dj
  split
  ·exact h
  split
  ·exact h
  split
  ·exact DJ _ _ _
  split
  ·exact DJ _ _ _
  split
  ·exact h
  split
  ·split <;> exact h
  split <;> exact h
structure ud (p:Pg) (s:Ns):Prop where
 dk:DkOk p.d s.dk
 vl:s.vol.length=p.v
 vr: ∀ v∈s.vol,Rg v
 tm:Gd s.timers
 ct:s.counts.length=41
theorem oD {names:List Int} {self nodes clock:Int} (h: ∀ i,Rg (names.getD i 0)) (h1:Rg self) (h2:Rg nodes) (h3:Rg clock) (i:Nat):Rg ((dt names self nodes clock).getD i 0):=by
 refine nj (fun v hv=> ?_) i
 have hn: ∀ v∈names,Rg v:=fun v hv=> by
  obtain ⟨j,hj,rfl⟩:=List.getElem_of_mem hv
  have:=h j
  rwa [List.getD_eq_getElem?_getD,List.getElem?_eq_getElem hj] at this
 exact pH (pH (pH hn h1) h2) h3 v hv
theorem qq {p:Pg} (hp:po p) {s:Ns} (hs:ud p s) {h:Nat} {self nodes drift tick:Int} {names ans:List Int} (hn: ∀ i,Rg (names.getD i 0)) (h1:Rg self) (h2:Rg nodes) (h3:Rg (aT s.clock drift tick)):
  ud p (cJ s p h self nodes drift tick names ans).1∧IV ⟨p.c,p.d,dt names self nodes (aT s.clock drift tick),ans⟩ (p.d+p.v) (fw s p h self nodes drift tick names ans)∧
   (cJ s p h self nodes drift tick names ans).1.dk.view++(cJ s p h self nodes drift tick names ans).1.vol=(fw s p h self nodes drift tick names ans).vars∧
   (cJ s p h self nodes drift tick names ans).1.dk.view=vU s.dk.view (fw s p h self nodes drift tick names ans).acts:=by
 obtain ⟨v1,v2⟩:=hs.dk.view
 have hvl:=hs.vl
 obtain ⟨iv,hw,_⟩:=pN hp (h:=h) (names:=dt names self nodes (aT s.clock drift tick)) (vars:=s.dk.view++s.vol) (ans:=ans) (oD hn h1 h2 h3) (by rw [List.length_append,v1,hvl]) (fun v hv=> (List.mem_append.1 hv).elim (v2 v) (hs.vr v))
 have hac: ∀ a∈(fw s p h self nodes drift tick names ans).acts,Rg a.b∧(a.k=1→0≤a.a∧a.a < p.d):=fun a ha=> by
  obtain ⟨⟨_,q1,_,_⟩,_,q2⟩:=iv.ac a ha
  exact ⟨q1,fun e=> ⟨(q2 e).1,(q2 e).2.1⟩⟩
 have hview:=rT (fw s p h self nodes drift tick names ans).acts ({ s with clock:=aT s.clock drift tick,counts:=s.counts.set h (s.counts.getD h 0+1),vol:=(fw s p h self nodes drift tick names ans).vars.drop p.d },{}) hs.dk hac
 have hdk:=yf (n:=p.d) (fw s p h self nodes drift tick names ans).acts (q:=({ s with clock:=aT s.clock drift tick,counts:=s.counts.set h (s.counts.getD h 0+1),vol:=(fw s p h self nodes drift tick names ans).vars.drop p.d },{})) hs.dk fun a ha=> (hac a ha).1
 have htm:=xR (fw s p h self nodes drift tick names ans).acts ({ s with clock:=aT s.clock drift tick,counts:=s.counts.set h (s.counts.getD h 0+1),vol:=(fw s p h self nodes drift tick names ans).vars.drop p.d },{}) hs.tm
 obtain ⟨_,_,_,_,k5,k6⟩:=ow (fw s p h self nodes drift tick names ans).acts ({ s with clock:=aT s.clock drift tick,counts:=s.counts.set h (s.counts.getD h 0+1),vol:=(fw s p h self nodes drift tick names ans).vars.drop p.d },{})
 have hvlen:(fw s p h self nodes drift tick names ans).vars.length=p.d+p.v:=iv.vl
 have hvr: ∀ v∈(fw s p h self nodes drift tick names ans).vars,Rg v:=iv.rv
 refine ⟨⟨hdk,?_,?_,htm,?_⟩,iv,?_,hview⟩
 ·show ((fw s p h self nodes drift tick names ans).acts.foldl dj _).1.vol.length=_
  rw [k5];simp only [List.length_drop];omega
 ·show ∀ v∈((fw s p h self nodes drift tick names ans).acts.foldl dj _).1.vol,_
  rw [k5];exact fun v hv=> hvr v (List.mem_of_mem_drop hv)
 ·show ((fw s p h self nodes drift tick names ans).acts.foldl dj _).1.counts.length=_
  rw [k6];simp only [List.length_set];exact hs.ct
 show ((fw s p h self nodes drift tick names ans).acts.foldl dj _).1.dk.view++((fw s p h self nodes drift tick names ans).acts.foldl dj _).1.vol=_
 rw [hview,k5]
 simp only
 have hw':(fw s p h self nodes drift tick names ans).vars.take p.d=vU s.dk.view (fw s p h self nodes drift tick names ans).acts:=by
  have e:(s.dk.view++s.vol).take p.d=s.dk.view:=by rw [← v1,List.take_left'];rfl
  rw [e] at hw
  exact hw
 rw [← hw']
 exact List.take_append_drop _ _
end Go.Proofs.YtmjnackchaahbaaGreat

set_option maxHeartbeats 2000000
namespace Go.Proofs.YtmjnackchaahbaaGreat

structure Na where
 crash:Bool
 h:Nat
 names:List Int
 wait:Int
 tick:Int
 draws:List Int
 keeps:List Int
structure Qa where
 kind:Int
 idx:Int
 ar:Int
 n:Int
def fC (drift tick:Int) (asked ans:List Int):List Qa:=(if 0 < drift then [⟨2,0,drift+1,tick % (drift+1)⟩] else [])++(List.range asked.length).map fun (i:Nat)=> ⟨1,(i:Int),asked.getD i 0,el ans i (asked.getD i 0)⟩
def kx (k:Nat) (keeps:List Int):List Qa:=(List.range k).map fun (i:Nat)=> ⟨3,(i:Int),2,keeps.getD i 0⟩
def fh (k:Nat) (keeps:List Int):List Bool:=(List.range k).map fun i=> decide (keeps.getD i 0=1)
def bP (p q:Pg) (s:Ns):Pg:=if s.up=true then (if s.ver=1 then q else p) else (if s.epoch % 2=1 then q else p)
def fV (s:Ns):Int:=if s.epoch % 2=1 then 1 else 0
def cg (p q:Pg) (drift:Int) (a:Na) (s:Ns):Ns×Nr:=
 if s.up=false then mJ s (bP p q s) (fV s) 1 3 drift a.tick a.draws
 else if a.crash=true then (fQ s (fh s.dk.pend.length a.keeps),{})
 else cJ { s with wait:=a.wait } (bP p q s) a.h 1 3 drift a.tick a.names a.draws
def dM (p q:Pg) (drift:Int) (a:Na) (s:Ns):List Qa:=
 if s.up=false then fC drift a.tick (fw (cH s (bP p q s) (fV s)) (bP p q s) 0 1 3 drift a.tick (List.replicate 9 0) a.draws).asked a.draws
 else if a.crash=true then kx s.dk.pend.length a.keeps
 else fC drift a.tick (fw { s with wait:=a.wait } (bP p q s) a.h 1 3 drift a.tick a.names a.draws).asked a.draws
structure FL (a:Na):Prop where
 h:a.h < 40
 nm: ∀ i,Rg (a.names.getD i 0)
 wt: -1≤a.wait∧a.wait≤2
 tk:0≤a.tick∧a.tick≤3
structure Sq (p q:Pg) (i:Nat) (s:Ns):Prop where
 up:s.up=true→ud (if s.ver=1 then q else p) s∧(s.ver=0∨s.ver=1)
 dn:s.up=false→(∃ n,DkOk n s.dk)∧s.wait= -1∧s.timers=[]
 ck:0≤s.clock∧s.clock≤4*i
 cl:s.counts.length=41
 ct: ∀ k,0≤s.counts.getD k 0∧s.counts.getD k 0≤i
 ep:0≤s.epoch∧s.epoch≤i
theorem kZ {clock drift tick:Int} (hd:0≤drift∧drift≤3):clock+1≤aT clock drift tick∧aT clock drift tick≤clock+1+drift:=by
 unfold aT
 split
 ·have h1:=Int.emod_nonneg tick (show drift+1≠0 by omega)
  have h2:=Int.emod_lt_of_pos tick (show 0 < drift+1 by omega)
  omega
 omega
theorem wN {l:List Int} {i:Nat} (hl:l.length=41) (h: ∀ k,0≤l.getD k 0∧l.getD k 0≤i) (j:Nat): ∀ k,0≤(l.set j (l.getD j 0+1)).getD k 0∧(l.set j (l.getD j 0+1)).getD k 0≤((i+1:Nat):Int):=by
 intro k
 have h1:=h k
 have h2:=h j
 rw [List.getD_eq_getElem?_getD,List.getElem?_set]
 split
 ·split
  ·simp only [Option.getD_some];omega
  simp only [Option.getD_none];omega
 rw [← List.getD_eq_getElem?_getD];omega
theorem IE (p q:Pg):Sq p q 0 {}:=
 ⟨fun h=> by simp at h,fun _=> ⟨⟨0,rfl,fun v hv=> by simp at hv,by simp,fun w hw=> by simp at hw⟩,rfl,rfl⟩,by simp,by simp,fun k=> by
  rw [List.getD_eq_getElem?_getD,List.getElem?_replicate]
  split <;> simp,by simp⟩
theorem fm (s:Ns) (p:Pg) (h:Nat) (self nodes drift tick:Int) (names ans:List Int):(cJ s p h self nodes drift tick names ans).1.up=s.up∧(cJ s p h self nodes drift tick names ans).1.ver=s.ver∧(cJ s p h self nodes drift tick names ans).1.epoch=s.epoch∧(cJ s p h self nodes drift tick names ans).1.clock=aT s.clock drift tick∧(cJ s p h self nodes drift tick names ans).1.counts=s.counts.set h (s.counts.getD h 0+1):=by
 obtain ⟨a1,a2,a3,a4,_,a6⟩:=ow (fw s p h self nodes drift tick names ans).acts ({ s with clock:=aT s.clock drift tick,counts:=s.counts.set h (s.counts.getD h 0+1),vol:=(fw s p h self nodes drift tick names ans).vars.drop p.d },{})
 exact ⟨a1,a2,a3,a4,a6⟩
theorem cY {n:Int} (h: -1000≤n∧n≤1000):Rg n:=by unfold Rg;omega
theorem yE {p:Pg} {s:Ns} {n:Nat} (h:DkOk n s.dk) (hc:s.counts.length=41) (v:Int):ud p (cH s p v):=by
 refine ⟨?_,by simp [cH],fun x hx=> ?_,⟨List.Pairwise.nil,fun x hx=> by simp [cH] at hx⟩,hc⟩
 ·unfold cH
  simp only
  split
  ·rename_i he;rw [← he,h.len];exact h
  exact h.resize _
 simp only [cH,List.mem_replicate] at hx;rw [hx.2];exact oB
theorem Gg {p q:Pg} (hp:po p) (hq:po q) {drift:Int} (hd:0≤drift∧drift≤3) {a:Na} (ha:FL a) {i:Nat} (hi:i≤100) {s:Ns} (h:Sq p q i s):Sq p q (i+1) (cg p q drift a s).1:=by
 have hck:=h.ck
 have htk:=kZ (clock:=s.clock) (tick:=a.tick) hd
 have hep:=h.ep
 have hct:=wN h.cl h.ct
 have h0: ∀ i,Rg ((List.replicate 9 (0:Int)).getD i 0):=fun i=> by
  rw [List.getD_eq_getElem?_getD,List.getElem?_replicate]
  split <;> exact oB
 unfold cg
 split
 ·rename_i hu
  obtain ⟨⟨n,hdk⟩,_,_⟩:=h.dn hu
  have hpg:bP p q s=if fV s=1 then q else p:=by
   unfold bP fV
   rw [if_neg (by simp [hu])]
   split <;> rfl
  have hver:fV s=0∨fV s=1:=by unfold fV;split <;> simp
  have hok:po (bP p q s):=by rw [hpg];split <;> assumption
  have hb:=yE (p:=bP p q s) hdk h.cl (fV s)
  have ho:=(qq hok hb (h:=0) (self:=1) (nodes:=3) (drift:=drift) (tick:=a.tick) (ans:=a.draws) h0 (cY ab) (cY ab) (cY (by show -1000≤aT s.clock drift a.tick∧aT s.clock drift a.tick≤1000;omega))).1
  obtain ⟨k1,k2,k3,k4,k5⟩:=fm (cH s (bP p q s) (fV s)) (bP p q s) 0 1 3 drift a.tick (List.replicate 9 0) a.draws
  unfold mJ
  have e1:(cJ (cH s (bP p q s) (fV s)) (bP p q s) 0 1 3 drift a.tick (List.replicate 9 0) a.draws).1.ver=fV s:=k2
  refine ⟨fun _=> ⟨by rw [e1,← hpg];exact ho,by rw [e1];exact hver⟩,fun hx=> by rw [k1] at hx;simp [cH] at hx,?_,ho.ct,?_,?_⟩
  ·rw [k4];show 0≤aT s.clock drift a.tick∧aT s.clock drift a.tick≤_;omega
  ·rw [k5];exact hct 0
  rw [k3];show 0≤s.epoch∧s.epoch≤_;omega
 rename_i hu
 have hu:s.up=true:=by simpa using hu
 obtain ⟨hs,hv⟩:=h.up hu
 split
 ·refine ⟨fun hx=> by simp [fQ] at hx,fun _=> ⟨⟨_,hs.dk.crash _⟩,rfl,rfl⟩,?_,?_,hct 40,?_⟩
  ·show 0≤s.clock∧s.clock≤_;omega
  ·show (s.counts.set 40 _).length=41;rw [List.length_set];exact h.cl
  show 0≤s.epoch+1∧s.epoch+1≤_;omega
 have hpg:bP p q s=if s.ver=1 then q else p:=by unfold bP;rw [if_pos hu]
 have hok:po (bP p q s):=by rw [hpg];split <;> assumption
 have hs':ud (bP p q s) { s with wait:=a.wait }:=by rw [hpg];exact ⟨hs.dk,hs.vl,hs.vr,hs.tm,hs.ct⟩
 have ho:=(qq hok hs' (h:=a.h) (self:=1) (nodes:=3) (drift:=drift) (tick:=a.tick) (ans:=a.draws) ha.nm (cY ab) (cY ab) (cY (by show -1000≤aT s.clock drift a.tick∧aT s.clock drift a.tick≤1000;omega))).1
 obtain ⟨k1,k2,k3,k4,k5⟩:=fm { s with wait:=a.wait } (bP p q s) a.h 1 3 drift a.tick a.names a.draws
 have e1:(cJ { s with wait:=a.wait } (bP p q s) a.h 1 3 drift a.tick a.names a.draws).1.ver=s.ver:=k2
 refine ⟨fun _=> ⟨by rw [e1,← hpg];exact ho,by rw [e1];exact hv⟩,fun hx=> by rw [k1] at hx;simp [hu] at hx,?_,ho.ct,?_,?_⟩
 ·rw [k4];show 0≤aT s.clock drift a.tick∧aT s.clock drift a.tick≤_;omega
 ·rw [k5];exact hct a.h
 rw [k3];show 0≤s.epoch∧s.epoch≤_;omega
end Go.Proofs.YtmjnackchaahbaaGreat

set_option maxHeartbeats 2000000
namespace Go.Proofs.YtmjnackchaahbaaGreat
open Go.RowKit

def vW (w:Int×Int):List PV:=[.v (.int .i64 w.1), .v (.int .i64 w.2)]
def eT (l:List (Int×Int)):List PV:=l.flatMap vW
theorem bC (l:List (Int×Int)):(eT l).length=l.length*2:=gB vW 2 (fun _=> rfl) l
theorem kV (l:List (Int×Int)) (k:Nat) (h:k < l.length):PV.ups (((eT l).drop (k*2)).take 2)=[.v (.int .i64 (l.getD k (0,0)).1), .v (.int .i64 (l.getD k (0,0)).2)]:=by
 have e:l.getD k (0,0)=l[k]:=by rw [List.getD_eq_getElem?_getD,List.getElem?_eq_getElem h];rfl
 rw [e,show ((eT l).drop (k*2)).take 2=vW l[k] from ml vW 2 (fun _=> rfl) l k h];rfl
theorem mU (l:List (Int×Int)) (x:Int×Int):eT l++vW x=eT (l++[x]):=jy vW l x
theorem oe (l:List (Int×Int)):(eT l).take (l.length*2)=eT l:=List.take_of_length_le (by rw [bC];exact Nat.le_refl _)
theorem vM (c:List Int) (l:List (Int×Int)) {k:Nat} (h:k < l.length):ma c (l.take (k+1))=(ma c (l.take k)).set (l.getD k (0,0)).1.toNat (l.getD k (0,0)).2:=by
 have e:l.take (k+1)=l.take k++[l.getD k (0,0)]:=by
  rw [List.take_add_one,List.getElem?_eq_getElem h,List.getD_eq_getElem?_getD,List.getElem?_eq_getElem h];rfl
 rw [e,nn];rfl
abbrev TH (d:Dk):List AV:=[.sl d.cells.length (ba d.cells), .sl d.pend.length (eT d.pend)]
abbrev mf (d:Dk):AV:= .agg (TH d)
theorem Jj {ρ:az→az} {σ:St} {F:az→Bool} {id:az} {e:TypeId} {n m:Nat} {l r:List Int} (hid:σ.ob id= .obj (.row e 1 (ba l))) (hF:F id=true) (hm:n=m) (hl:l=r) (hn:m=r.length:=by (rfl)):Lv ρ σ F (.sl m (ba r)) (.ref id 0 n):=by
 subst hm;subst hl
 exact dI hid hF (by rw [aq,Nat.mul_one];exact hn) rfl
theorem gH (d:Dk) (h1:d.cells.length≤1000000) (h2:d.pend.length≤1000000):
  Spec Tryz.prog 88 (aI [mf d] []) (aA (.agg [.ref (0,8) 0 d.cells.length, .ref (1,8) 0 d.pend.length]) [((0,8), .row 3 1 (ba d.cells)),((1,8), .row 126 2 (eT d.pend))]):=by
 refine Spec.ofN Tryz.func88 rfl Tryz.ntmps88 rfl ?_
 refine go 8 ?_
 refine aj (oV (7,0) _ _ aa rfl rfl _ rfl rfl ab rfl rfl) ?_
 refine go 9 ?_
 refine aj (Bz _ _ aa rfl rfl (by simp [jc]) (.sl (by rw [aq,Nat.mul_one])) rfl rfl) ?_
 refine am (aG (KW rfl rfl rfl (aj (bK _ aa rfl rfl (rfl:_=some (AV.v (.slice _ _ _)))) (go 2 ?_))))
 refine aj (sL (18,0) _ _ aa rfl (.sl (by rw [bC])) ab rfl) ?_
 refine go 3 ?_
 refine aE ?_
 refine aB (σ':=an 21 [(2,_),(3,_)] [((2,0),_),((7,0),_),((3,0),_),((18,0),_)] [] []) kp ?_
 refine go 4 ?_
 exact au (cq (.inr rfl) rfl (.cellA aa rfl rfl rfl) (Le.out [((0,8),(7,0)),((1,8),(18,0))] [] (.agg rfl lz) rfl rfl rfl trivial ⟨⟨rfl,⟨_,rfl, .rowE (by rw [List.take_of_length_le (by rw [aq];omega),List.drop_of_length_le (by simp [jc]),List.append_nil])⟩,rfl⟩,⟨rfl,⟨_,rfl, .rowE rfl⟩,rfl⟩,trivial⟩))
theorem iw (c:List Int) (l:List (Int×Int)) (h1:l.length≤1000000) (hc:c.length≤1000000) (ho: ∀ w∈l,0≤w.1∧w.1 < (c.length:Int)):
  Spec Tryz.prog 89 (aL [.ref (0,9) 0 c.length, .sl l.length (eT l)] [((0,9), .row 3 1 (ba c))]) (aO (.tup []) [((0,9), .row 3 1 (ba (ma c l)))] [(0,9)] [(0,9)]):=by
 refine Spec.ofNI Tryz.func89 rfl Tryz.ntmps89 rfl ?_
 refine go 6 ?_
 refine aS (α:=Nat) (fun k=> k≤l.length) 19 [(0,_),(6,_),(7,_)] [] (fun k=> [(8, .v (.int .i64 (k:Int)))]) (fun k=> [((0,9), .row 3 1 (ba (ma c (l.take k))))]) [(0,9)] [(0,9)] (fun k=> l.length - k) 0 ?_ (kj [2] [] []) ?_
 ·omega
 intro k hk
 refine go 3 ?_
 refine aF fun K3 hK3=> ?_
 refine ax rfl (fun hc9=> ?_) (fun hc9=> ?_)
 ·have hia:=kV l k ab
  have hm:l.getD k (0,0)∈l:=by rw [List.getD_eq_getElem?_getD,List.getElem?_eq_getElem ab];exact List.getElem_mem _
  obtain ⟨q1,q2⟩:=ho _ hm
  have q3:=vM c l (k:=k) ab
  generalize l.getD k (0,0)=w at hia q1 q2 q3
  obtain ⟨i,hi⟩:=Int.eq_ofNat_of_zero_le q1
  rw [hi,Int.toNat_natCast] at q3
  have q4:(ma c (l.take k)).length=c.length:=dq _ _
  refine aR (hK3 _ ?_)
  refine aE (aH (aG (aj (aQ _ _ aa rfl rfl _ rfl ab (by (simp only [aq,aJ,aM,aq,bC];omega)) ag) ?_)))
  refine aj (bs _ aa rfl (by exact hia) rfl) ?_
  refine go 9 ?_
  refine aj (bq _ _ aa rfl rfl rfl i hi ab (by exact (Nat.zero_add _).trans (Nat.mul_one _))) ?_
  refine aj (dN _ _ aa rfl rfl rfl rfl rfl (by rw [aq];simp only [List.length_cons,List.length_nil];omega) ((dF _ _ _ ab).trans (congrArg ba q3.symm))) ?_
  refine go 4 ?_
  refine ay (⟨k+1,?_,?_,?_⟩)
  ·omega
  ·exact kj [2] [] []
  omega
 exact aW (id (wj (.inl rfl) rfl (Le.outI [] [] (.tup rfl aK) rfl rfl rfl trivial ⟨⟨rfl,⟨_,rfl, .rowE (by rw [List.take_of_length_le ab])⟩,rfl⟩,trivial⟩ tr rfl)))
theorem xe (d:Dk) (h1:d.cells.length≤1000000) (h2:d.pend.length≤1000000) (ho: ∀ w∈d.pend,0≤w.1∧w.1 < (d.cells.length:Int)):
  Spec Tryz.prog 115 (aI [mf d] []) (aA (mf d.sync) []):=by
 have hd:=gH d h1 h2
 have ha:=iw d.cells d.pend h2 h1 ho
 have hl:d.view.length=d.cells.length:=dq _ _
 have hl2:d.sync.cells.length=d.cells.length:=hl
 refine Spec.ofN Tryz.func115 rfl Tryz.ntmps115 rfl ?_
 refine go 6 ?_
 refine aj (bM aa [((0,8),(5,0)),((1,8),(5,1))] ar (hd.toI) trivial tr ae) ?_
 refine go 3 ?_
 refine aF fun K3 hK3=> ?_
 refine aB (Le.frzB (ys:=eT d.pend) (3,0) 1 rfl rfl rfl rfl (by rw [List.drop_zero,oe]) (by rw [bC];omega)) ?_
 refine go 5 ?_
 refine aj (bM aa [((0,9),(5,0))] ar (ha) ob tr ae) ?_
 refine ay (hK3 _ ?_)
 refine go 8 ?_
 exact au (cq (.inr rfl) rfl (.cellA aa rfl rfl rfl) (Le.out [] [(5,0)] (.agg rfl (ai (Jj rfl rfl hl2.symm rfl) lz)) rfl rfl rfl tr trivial))
theorem we (d:Dk) (h1:d.cells.length≤1000000) (h2:d.pend.length≤1000000) (ho: ∀ w∈d.pend,0≤w.1∧w.1 < (d.cells.length:Int)):
  Spec Tryz.prog 82 (aI [mf d] []) (aA (.sl d.view.length (ba d.view)) []):=by
 have hs:=xe d h1 h2 ho
 refine Spec.ofN Tryz.func82 rfl Tryz.ntmps82 rfl ?_
 refine aG (aj (dX (1,0) _ rfl rfl) (aj (aX _ ea) (go 3 ?_)))
 refine aj (ap aa al (hs) rfl rfl) ?_
 refine go 3 ?_
 exact au (qW rfl rfl)
theorem yH (n:Nat) (h1:n≤1000000):
  Spec Tryz.prog 120 (aI [.v (.int .i64 (n:Int))] []) (aA (.agg [.ref (0,8) 0 n, .v (.slice none 0 0)]) [((0,8), .row 3 1 (ba (List.replicate n 0)))]):=by
 refine Spec.ofN Tryz.func120 rfl Tryz.ntmps120 rfl ?_
 refine go 5 ?_
 refine aj (oV (4,0) _ _ aa rfl rfl _ rfl rfl ab rfl rfl) ?_
 refine go 3 ?_
 exact au (cq (.inr rfl) rfl (.cellA aa rfl rfl rfl) (Le.out [((0,8),(4,0))] [] (.agg rfl lz) rfl rfl rfl trivial ⟨⟨rfl,⟨_,rfl, .rowE (by simp [ba,rep])⟩,rfl⟩,trivial⟩))
theorem FK (v:List Int) (n:Nat):(ba v).take n++(ba (List.replicate n 0)).drop v.length=ba ((v++List.replicate n 0).take n):=by
 simp only [ba,← List.map_take,← List.map_drop,← List.map_append]
 congr 1
 rw [List.take_append,List.take_replicate,List.drop_replicate]
 congr 2
 omega
theorem ta (d:Dk) (n:Nat) (h1:d.cells.length≤1000000) (h2:d.pend.length≤1000000) (hn:n≤1000000) (ho: ∀ w∈d.pend,0≤w.1∧w.1 < (d.cells.length:Int)):
  Spec Tryz.prog 90 (aI [mf d, .v (.int .i64 (n:Int))] []) (aA (mf (d.resize n)) []):=by
 have hv:=we d h1 h2 ho
 have hnw:=yH n hn
 have hl:(d.resize n).cells.length=n:=by simp [Dk.resize]
 refine Spec.ofN Tryz.func90 rfl Tryz.ntmps90 rfl ?_
 refine go 6 ?_
 refine aj (bM aa [((0,8),(7,0))] ar (hnw.toI) trivial tr ae) ?_
 refine go 3 ?_
 refine aE ?_
 refine aB (σ':=an 14 [(2,_),(4,_),(5,_)] [((2,0),_),((4,0),_),((7,0),_),((5,0),_)] [] []) kp ?_
 refine dA 4 [] ?_
 refine go 6 ?_
 refine aC (_,[]) (fun τ=> (ap aa al (hv) rfl rfl)) ?_
 refine go 1 ?_
 refine ci ⟨rfl,?_⟩
 refine aj (Bz _ _ aa rfl rfl (by simp) (.sl (by rw [aq,Nat.mul_one])) (FK _ _) rfl) ?_
 refine go 5 ?_
 exact au (cq (.inr rfl) rfl (.cellA aa rfl rfl rfl) (Le.out [] [(7,0)] (.agg rfl (ai (Jj rfl rfl hl.symm rfl) lz)) rfl rfl rfl tr trivial))
end Go.Proofs.YtmjnackchaahbaaGreat

set_option maxHeartbeats 2000000
namespace Go.Proofs.YtmjnackchaahbaaGreat
open Go.RowKit

abbrev eX (d:Dk):Prop:= ∀ w∈d.pend,0≤w.1∧w.1 < (d.cells.length:Int)
theorem oK: ∀ (l:List (Int×Int)) (b:List Bool) (k:Nat),k < l.length→k < b.length→kept (l.take (k+1)) b=kept (l.take k) b++(if b.getD k false=true then [l.getD k (0,0)] else [])
 | [],_,_,h,_=> by simp at h
 | _::_,[],_,_,h=> by simp at h
 | x::l,y::b,0,_,_=> by cases y <;> simp [kept] <;> cases l <;> simp [kept]
 | x::l,y::b,k+1,h,hb=> by
  have:=oK l b k (by simpa using h) (by simpa using hb)
  cases y <;> simp [kept,this]
theorem ui: ∀ (l:List (Int×Int)) (b:List Bool) (k:Nat),b.length≤k→kept (l.take (k+1)) b=kept (l.take k) b
 | [],_,_,_=> by simp
 | _::_,[],_,_=> by simp [kept]
 | x::l,y::b,0,h=> by simp at h
 | x::l,y::b,k+1,h=> by
  have:=ui l b k (by simpa using h)
  cases y <;> simp [kept,this]
end Go.Proofs.YtmjnackchaahbaaGreat

set_option maxHeartbeats 2000000
namespace Go.Proofs.YtmjnackchaahbaaGreat
open Go.RowKit

theorem jh (w:World) (cs:Array Value) (j:Nat) (v:Value) (hv:cs[j]? =some v):(part 3 cs j).run Tryz.prog w= .ok v w:=by
 simp [part,isAgg,run_underlying Tryz.underlying3,hv]
theorem tB (n:Nat) (w:World) (a b:Int):(Op.equalIn (n+1) 3 (.int .i64 a) (.int .i64 b)).run Tryz.prog w= .ok (decide (a=b)) w:=by
 rw [run_equalIn_int w n 3 .i64 .i64 a b Tryz.underlying3]
 by_cases h:a=b <;> simp [h]
theorem vj (n:Nat) (w:World) (a b c a' b' c':Int):(Op.equalIn (n+2) 91 (.agg #[.int .i64 a, .int .i64 b, .int .i64 c]) (.agg #[.int .i64 a', .int .i64 b', .int .i64 c'])).run Tryz.prog w= .ok (decide (a=a'∧b=b'∧c=c')) w:=by
 have h:=jh w #[.int .i64 a, .int .i64 b, .int .i64 c]
 have h':=jh w #[.int .i64 a', .int .i64 b', .int .i64 c']
 have e:=tB n w
 show (Op.equalIn (n+1+1) _ _ _).run Tryz.prog w=_
 rw [Op.equalIn]
 simp only [Sem.run_bind,run_underlying Tryz.underlying91,Result.andThen_ok]
 simp [Op.eqFields,h 0 _ rfl,h 1 _ rfl,h 2 _ rfl,h' 0 _ rfl,h' 1 _ rfl,h' 2 _ rfl,e]
 by_cases p1:a=a' <;> by_cases p2:b=b' <;> by_cases p3:c=c' <;> simp [p1,p2,p3]
theorem Dy (w:World) (a b c k i a' b' c' k' i':Int):(Op.equal 109 (.agg #[.int .i64 a, .int .i64 b, .int .i64 c, .int .i64 k, .int .i64 i]) (.agg #[.int .i64 a', .int .i64 b', .int .i64 c', .int .i64 k', .int .i64 i'])).run Tryz.prog w= .ok (decide ((a=a'∧b=b'∧c=c')∧k=k'∧i=i')) w:=by
 have h:=jh w #[.int .i64 a, .int .i64 b, .int .i64 c, .int .i64 k, .int .i64 i]
 have h':=jh w #[.int .i64 a', .int .i64 b', .int .i64 c', .int .i64 k', .int .i64 i']
 have hc: ∀ a b c k i:Int,(part 91 #[.int .i64 a, .int .i64 b, .int .i64 c, .int .i64 k, .int .i64 i] 0).run Tryz.prog w= .ok (.agg #[.int .i64 a, .int .i64 b, .int .i64 c]) w:=fun a b c k i=> by
  simp [part,isAgg,sizeOf,run_underlying Tryz.underlying91]
  rfl
 have e:=tB 9998 w
 have ec:=vj 9997 w
 show (Op.equalIn (9999+1) _ _ _).run Tryz.prog w=_
 rw [Op.equalIn]
 simp only [Sem.run_bind,run_underlying Tryz.underlying109,Result.andThen_ok]
 simp [Op.eqFields,hc,h 3 _ rfl,h 4 _ rfl,h' 3 _ rfl,h' 4 _ rfl,e,ec]
 by_cases p1:a=a' <;> by_cases p2:b=b' <;> by_cases p3:c=c' <;> by_cases p4:k=k' <;> by_cases p5:i=i' <;> simp [p1,p2,p3,p4,p5]
section
variable {σ:St} {dd:Option Tmp} {ty:TypeId}
theorem HE {t':TypeId} (x y:Operand) {a b c k i a' b' c' k' i':Int} (hx:σ.eval x= .agg [.v (.int .i64 a), .v (.int .i64 b), .v (.int .i64 c), .v (.int .i64 k), .v (.int .i64 i)]) (hy:σ.eval y= .agg [.v (.int .i64 a'), .v (.int .i64 b'), .v (.int .i64 c'), .v (.int .i64 k'), .v (.int .i64 i')]) {r:Bool} (hr:decide ((a=a'∧b=b'∧c=c')∧k=k'∧i=i')=r):Stp Tryz.prog dd (.binOp .eql 109 x y t') ty σ (σ.put dd (.v (.bool r))):=by
 refine tI [.int .i64 a, .int .i64 b, .int .i64 c, .int .i64 k, .int .i64 i] [.int .i64 a', .int .i64 b', .int .i64 c', .int .i64 k', .int .i64 i'] hx hy fun o ρ w ho hx hy=> ?_
 have:=Dy w a b c k i a' b' c' k' i'
 have hg:Tryz.prog.eqGuardType Tryz.prog.depth 109=false:=by kernel_rfl
 rw [hr] at this
 simp [execOp,ho,hx,hy,eqGuard,binOp,hg,this,Sem.run]
end
end Go.Proofs.YtmjnackchaahbaaGreat

set_option maxHeartbeats 2000000
namespace Go.Proofs.YtmjnackchaahbaaGreat
open Go.RowKit

structure Tl where
 c1:Int
 c2:Int
 c3:Int
 na:Nat
 A:List PV
 np:Nat
 pre:List PV
def vT (t:Tl) (kind idx ar n:Int):List PV:=[.v (.int .i64 t.c1), .v (.int .i64 t.c2), .v (.int .i64 t.c3), .v (.int .i64 kind), .v (.int .i64 idx), .v (.int .i64 ar), .v (.int .i64 n)]
def oP (t:Tl) (ans l:List Int):List PV:=(List.range l.length).flatMap fun (i:Nat)=> vT t 1 (i:Int) (l.getD i 0) (el ans i (l.getD i 0))
def Ff (t:Tl) (ans l:List Int):List PV:=t.pre++oP t ans l
theorem uB (t:Tl) (ans l:List Int) (k:Int):Ff t ans l++vT t 1 (l.length:Int) k (el ans l.length k)=Ff t ans (l++[k]):=by
 unfold Ff oP
 rw [List.append_assoc]
 congr 1
 rw [List.length_append,List.length_singleton,List.range_succ,List.flatMap_append]
 congr 1
 ·unfold List.flatMap
  congr 1
  apply List.map_congr_left
  intro i hi
  have hi:=List.mem_range.1 hi
  have e:(l++[k]).getD i 0=l.getD i 0:=by rw [List.getD_eq_getElem?_getD,List.getD_eq_getElem?_getD,List.getElem?_append_left hi]
  rw [e]
 have e:(l++[k]).getD l.length 0=k:=by rw [List.getD_eq_getElem?_getD,List.getElem?_append_right (Nat.le_refl _),Nat.sub_self];rfl
 simp [e]
theorem yr (t:Tl) (ans l:List Int):(oP t ans l).length=l.length*7:=by
 unfold oP
 rw [gB (fun (i:Nat)=> vT t 1 (i:Int) (l.getD i 0) (el ans i (l.getD i 0))) 7 (fun _=> rfl),List.length_range]
theorem Hc {t:Tl} (h:t.pre.length=t.np*7) (ans l:List Int):(Ff t ans l).length=(t.np+l.length)*7:=by
 unfold Ff
 rw [List.length_append,yr,h,Nat.add_mul]
structure Mk where
 P:Pg
 iv:List Int
 names:List Int
 ans:List Int
 t:Tl
abbrev Mk.nm (M:Mk) (k:Nat):Int:=M.names.getD k 0
abbrev Mk.cx (M:Mk):Cx:=⟨M.P.c,M.P.d,M.names,M.ans⟩
abbrev RZ (c:AV) (e:Nat→Int) (d v:Int) (iv:AV) (nm:Nat→Int) (F ov ac:AV) (sp:Int) (sb:Bool) (cv st:AV) (pc dr se:Int) (en:Bool):List AV:=[c, .v (.int .i64 (e 0)), .v (.int .i64 (e 1)), .v (.int .i64 (e 2)), .v (.int .i64 (e 3)), .v (.int .i64 (e 4)), .v (.int .i64 (e 5)), .v (.int .i64 (e 6)), .v (.int .i64 (e 7)), .v (.int .i64 (e 8)), .v (.int .i64 (e 9)), .v (.int .i64 (e 10)), .v (.int .i64 (e 11)), .v (.int .i64 (e 12)), .v (.int .i64 (e 13)), .v (.int .i64 (e 14)), .v (.int .i64 (e 15)), .v (.int .i64 (e 16)), .v (.int .i64 (e 17)), .v (.int .i64 (e 18)), .v (.int .i64 (e 19)), .v (.int .i64 (e 20)), .v (.int .i64 (e 21)), .v (.int .i64 (e 22)), .v (.int .i64 (e 23)), .v (.int .i64 (e 24)), .v (.int .i64 (e 25)), .v (.int .i64 (e 26)), .v (.int .i64 (e 27)), .v (.int .i64 (e 28)), .v (.int .i64 (e 29)), .v (.int .i64 (e 30)), .v (.int .i64 (e 31)), .v (.int .i64 (e 32)), .v (.int .i64 (e 33)), .v (.int .i64 (e 34)), .v (.int .i64 (e 35)), .v (.int .i64 (e 36)), .v (.int .i64 (e 37)), .v (.int .i64 (e 38)), .v (.int .i64 (e 39)), .v (.int .i64 d), .v (.int .i64 v),iv, .v (.int .i64 (nm 0)), .v (.int .i64 (nm 1)), .v (.int .i64 (nm 2)), .v (.int .i64 (nm 3)), .v (.int .i64 (nm 4)), .v (.int .i64 (nm 5)), .v (.int .i64 (nm 6)), .v (.int .i64 (nm 7)), .v (.int .i64 (nm 8)),F,ov,ac, .v (.int .i64 sp), .v (.bool sb),cv,st, .v (.int .i64 pc), .v (.int .i64 dr), .v (.int .i64 se), .v (.bool en)]
abbrev zX (p:az):AV:= .fn (.func 113) [] [.ptr p 0]
abbrev oO:AV:= .fn (.func 54) [.ptr (4,9) 0] []
abbrev vR (t:Tl) (n:Nat) (L:List PV) (ak:az):List (az×Cells):=[((4,9), .box 103 [.v (.int .i64 t.c1), .v (.int .i64 t.c2), .v (.int .i64 t.c3), .sl t.na t.A, .ref ak 0 n]),(ak, .row 111 7 L)]
abbrev EO (t:Tl) (n:Nat) (L:List PV) (ak:az):List (az×Cells):=[((4,9), .box 103 [.v (.int .i64 t.c1), .v (.int .i64 t.c2), .v (.int .i64 t.c3), .sl t.na t.A, .ref ak 0 n]),(ak, .row 111 7 L),((6,9), .box 161 [oO])]
abbrev Nm (M:Mk) (s:Ms) (dr se:Int) (ac st:az):List AV:=RZ (.sl M.P.c.length (inl M.P.c)) M.P.e (M.P.d:Int) (M.P.v:Int) (.sl M.iv.length (ba M.iv)) M.nm (zX (6,9)) (.ref (1,9) 0 s.vars.length) (.ref ac 0 s.acts.length) (s.steps:Int) false (.v (.slice none 0 0)) (.ref st 0 s.stack.length) (s.pc:Int) dr se s.fin
abbrev mn (M:Mk) (s:Ms) (dr se:Int) (ac st ak:az):List (az×Cells):=[((0,9), .box 171 (Nm M s dr se ac st)),((1,9), .row 3 1 (ba s.vars)),(ac, .row 57 5 (pt s.acts)),(st, .row 3 1 (ba s.stack)),((4,9), .box 103 [.v (.int .i64 M.t.c1), .v (.int .i64 M.t.c2), .v (.int .i64 M.t.c3), .sl M.t.na M.t.A, .ref ak 0 (M.t.np+s.asked.length)]),(ak, .row 111 7 (Ff M.t M.ans s.asked)),((6,9), .box 161 [oO])]
abbrev mN (M:Mk) (s:Ms) (dr se:Int):List (az×Cells):=mn M s dr se (2,9) (3,9) (5,9)
theorem mL (x lo hi:Int):Spec Tryz.prog 188 (aI [.v (.int .i64 x), .v (.int .i64 lo), .v (.int .i64 hi)] []) (aA (.v (.int .i64 (max lo (min x hi)))) []):=by
 refine Spec.ofN Tryz.func188 rfl Tryz.ntmps188 rfl ?_
 refine go 7 ?_
 exact aj (qu _ _ rfl rfl rfl) (aj (qT _ _ rfl rfl rfl) (cp rfl (am (au (eb rfl rfl)))))
theorem gW (l:List Int) (x:Int):ba l++[.v (.int .i64 x)]=ba (l++[x]):=by simp [ba]
theorem cG (l:List Int) (k:Nat):(ba l).take k=ba (l.take k):=by simp [ba]
theorem Ak (x:Int):max (-2147483647) (min x 2147483647)=kR x:=rfl
section
variable (M:Mk) (s:Ms) (dr se:Int)
theorem eh (x:Int) (hs:s.stack.length≤100000):
  Spec Tryz.prog 129 (aL [.ptr (0,9) 0, .v (.int .i64 x)] (mN M s dr se)) (aO (.tup []) (mn M { s with stack:=s.stack++[kR x] } dr se (2,9) (3,8) (5,9)) [(0,9),(1,9),(2,9),(3,8),(4,9),(5,9),(6,9)] [(0,9),(1,9),(2,9),(4,9),(5,9),(6,9)]):=by
 have hc:=mL x (-2147483647) 2147483647
 rw [Ak] at hc
 have hl:(s.stack++[kR x]).length=s.stack.length+1:=by simp
 refine Spec.ofNI Tryz.func129 rfl Tryz.ntmps129 rfl ?_
 refine aB (Le.incT (12,0) rfl) ?_
 refine jD 9 [4,5,6,7,8,9,10,11,12] [(3,9),(12,0)] [[],[],[],[(3,9)],[(3,9)],[(3,9)],[(3,9)],[(3,9)],[]] ae ae rfl (bj rfl) (rfl:_=[_,_,_,_,_,_,_,_,_]) (rfl:_=[_,_,_]) ?_
 refine go 12 ?_
 refine aC (_,[]) (fun τ=> (ap aa al (hc) rfl rfl)) ?_
 refine go 3 ?_
 refine aC (_,[((3,9), .gone),((12,0),_)]) (fun τ=> kA (b:=true) (12,0) _ _ aa rfl (fE rfl (by exact eN) rfl) (by simp) (.sl rfl) ab rfl rfl rfl (gW _ _) hl.symm) ?_
 refine go 5 ?_
 exact ay (mR [((3,8),(12,0))])
theorem bJ (hs:s.stack.length≤100000) (h0:0 < s.stack.length):
  Spec Tryz.prog 131 (aL [.ptr (0,9) 0] (mN M s dr se)) (aO (.v (.int .i64 (s.top 0))) (mn M { s with stack:=s.pop 1 } dr se (2,9) (3,8) (5,9)) [(0,9),(1,9),(2,9),(3,8),(4,9),(5,9),(6,9)] [(0,9),(1,9),(2,9),(4,9),(5,9),(6,9)]):=by
 obtain ⟨m,hm⟩: ∃ m,s.stack.length=m+1:=⟨s.stack.length - 1,by omega⟩
 have ht:s.top 0=s.stack.getD m 0:=by unfold Ms.top;rw [hm];rfl
 have hp:s.pop 1=s.stack.take m:=by unfold Ms.pop;rw [hm];rfl
 have hl:(s.stack.take m).length=m:=by rw [List.length_take];omega
 rw [ht,hp]
 refine Spec.ofNI Tryz.func131 rfl Tryz.ntmps131 rfl ?_
 refine aG (cp rfl (am (aE (dA 13 [] ?_))))
 refine go 18 ?_
 refine aC (_,[]) (fun τ=> bp (r:=(m:Int)) _ _ rfl rfl ((bQ ab).trans ab)) ?_
 refine go 1 ?_
 refine aC (_,[]) (fun τ=> bq _ _ aa rfl rfl rfl _ rfl ab (by exact (Nat.zero_add _).trans (Nat.mul_one _))) ?_
 refine go 1 ?_
 refine aC (_,[]) (fun τ=> cA _ aa rfl rfl (by exact cw _ _ ab) rfl) ?_
 refine go 5 ?_
 refine aE ?_
 refine aB (σ':=an 31 [(0,_),(3,_)] [((0,9),_),((1,9),_),((2,9),_),((3,9),_),((4,9),_),((5,9),_),((6,9),_)] [(0,9),(1,9),(2,9),(3,9),(4,9),(5,9),(6,9)] [(0,9),(1,9),(2,9),(4,9),(5,9),(6,9)]) kp ?_
 refine dA 14 [] ?_
 refine go 20 ?_
 refine aC (_,[]) (fun τ=> bp (r:=(m:Int)) _ _ rfl rfl ((bQ ab).trans ab)) ?_
 refine go 1 ?_
 refine aC (_,[]) (fun τ=> ej _ _ _ aa rfl rfl 0 m .dflt (.lit rfl rfl) ab ab rfl rfl) ?_
 refine go 8 ?_
 refine aE ?_
 refine aB (Le.cutR (3,9) m rfl (cG _ _)) ?_
 exact aD (bV rfl (cp rfl (am (au (cq (.inr rfl) rfl (.tmp kM) (Le.outI [((3,8),(3,9))] [] .v rfl rfl rfl trivial ⟨⟨rfl,⟨_,rfl, .box rfl (ai .sl (so (so (so (so (ai .v (ai .v (ai .sl (xF (xF (ai .v (ai (.fn rfl aK rfl lz) (ai (ca rfl rfl) (ai (ca rfl rfl) (ai .v (ai .v (ai .v (ai (ca rfl hl) lz))))))))))))))))))⟩,rfl⟩,⟨rfl,⟨_,rfl, .rowE rfl⟩,rfl⟩,⟨rfl,⟨_,rfl, .rowE rfl⟩,rfl⟩,⟨rfl,⟨_,rfl, .rowE rfl⟩,rfl⟩,⟨rfl,⟨_,rfl, .box rfl lz⟩,rfl⟩,⟨rfl,⟨_,rfl, .rowE rfl⟩,rfl⟩,⟨rfl,⟨_,rfl, .box rfl lz⟩,rfl⟩,trivial⟩ tr rfl))))))
theorem fO (k a b c d:Int) (hs:s.acts.length≤100000):
  Spec Tryz.prog 132 (aL [.ptr (0,9) 0, .v (.int .i64 k), .v (.int .i64 a), .v (.int .i64 b), .v (.int .i64 c), .v (.int .i64 d)] (mN M s dr se)) (aO (.tup []) (mn M { s with acts:=s.acts++[{ k:=k,a:=a,b:=b,c:=c,d:=d }] } dr se (2,8) (3,9) (5,9)) [(0,9),(1,9),(2,8),(3,9),(4,9),(5,9),(6,9)] [(0,9),(1,9),(3,9),(4,9),(5,9),(6,9)]):=by
 have hl:(s.acts++[({ k:=k,a:=a,b:=b,c:=c,d:=d }:Ac)]).length=s.acts.length+1:=by simp
 refine Spec.ofNI Tryz.func132 rfl Tryz.ntmps132 rfl ?_
 refine go 14 ?_
 refine bA (Le.incT (25,0) rfl) ?_
 refine aj (kA (b:=true) (25,0) _ _ aa rfl rfl (bT _).symm (.sl rfl) ab rfl rfl rfl (gX _ { k:=k,a:=a,b:=b,c:=c,d:=d }) hl.symm) ?_
 refine go 4 ?_
 exact ay (mR [((2,8),(25,0))])
end
end Go.Proofs.YtmjnackchaahbaaGreat

set_option maxHeartbeats 2000000
namespace Go.Proofs.YtmjnackchaahbaaGreat
open Go.RowKit

section
variable (M:Mk) (s:Ms) (dr se:Int)
theorem Fv (n:Int) (hs:s.stack.length≤90000):
  Spec Tryz.prog 127 (aL [.ptr (0,9) 0, .v (.int .i64 n)] (mN M s dr se)) (aO (.tup []) (mn M { s with stack:=s.stack++[kR n] } dr se (2,8) (3,8) (5,8)) [(0,9),(1,9),(2,8),(3,8),(4,9),(5,8),(6,9)] [(0,9),(1,9),(4,9),(6,9)]):=by
 refine Spec.ofNI Tryz.func127 rfl Tryz.ntmps127 rfl ?_
 refine aD (dW rfl (bV rfl (bA (Le.incT (6,0) rfl) ?_)))
 refine aj (aV aa [((3,8),(6,0))] ar (eh M s dr se n ab) ob tr tr rfl ae ae) ?_
 exact ay (mR [((2,8),(2,9)),((3,8),(6,0)),((5,8),(5,9))])
theorem Gx (k:Nat) (hk:k < s.vars.length) (hs:s.stack.length≤90000):
  Spec Tryz.prog 128 (aL [.ptr (0,9) 0, .v (.int .i64 (k:Int))] (mN M s dr se)) (aO (.tup []) (mn M { s with stack:=s.stack++[kR (s.vars.getD k 0)] } dr se (2,8) (3,8) (5,8)) [(0,9),(1,9),(2,8),(3,8),(4,9),(5,8),(6,9)] [(0,9),(1,9),(4,9),(6,9)]):=by
 refine Spec.ofNI Tryz.func128 rfl Tryz.ntmps128 rfl ?_
 refine go 8 ?_
 refine aj (bq _ _ aa rfl rfl rfl _ rfl ab (by exact (Nat.zero_add _).trans (Nat.mul_one _))) ?_
 refine aj (cA _ aa rfl rfl (by exact cw _ _ ab) rfl) ?_
 refine bA (Le.incT (13,0) rfl) ?_
 refine aj (aV aa [((3,8),(13,0))] ar (eh M s dr se (s.vars.getD k 0) ab) ob tr tr rfl ae ae) ?_
 exact ay (mR [((2,8),(2,9)),((3,8),(13,0)),((5,8),(5,9))])
theorem CQ (n:Int) (ha:s.acts.length≤90000):
  Spec Tryz.prog 150 (aL [.ptr (0,9) 0, .v (.int .i64 n)] (mN M s dr se)) (aO (.tup []) (mn M { s with acts:=s.acts++[{ k:=4,a:=n }] } dr se (2,8) (3,8) (5,8)) [(0,9),(1,9),(2,8),(3,8),(4,9),(5,8),(6,9)] [(0,9),(1,9),(4,9),(6,9)]):=by
 refine Spec.ofNI Tryz.func150 rfl Tryz.ntmps150 rfl ?_
 refine aD (dW rfl (bV rfl (bA (Le.incT (6,0) rfl) ?_)))
 refine aj (aV aa [((2,8),(6,0))] ar (fO M s dr se 4 n 0 0 0 ab) ob tr tr rfl ae ae) ?_
 exact ay (mR [((2,8),(6,0)),((3,8),(3,9)),((5,8),(5,9))])
theorem zx (n:Int) (ha:s.acts.length≤90000):
  Spec Tryz.prog 151 (aL [.ptr (0,9) 0, .v (.int .i64 n)] (mN M s dr se)) (aO (.tup []) (mn M { s with acts:=s.acts++[{ k:=5,a:=n }] } dr se (2,8) (3,8) (5,8)) [(0,9),(1,9),(2,8),(3,8),(4,9),(5,8),(6,9)] [(0,9),(1,9),(4,9),(6,9)]):=by
 refine Spec.ofNI Tryz.func151 rfl Tryz.ntmps151 rfl ?_
 refine aD (dW rfl (bV rfl (bA (Le.incT (6,0) rfl) ?_)))
 refine aj (aV aa [((2,8),(6,0))] ar (fO M s dr se 5 n 0 0 0 ab) ob tr tr rfl ae ae) ?_
 exact ay (mR [((2,8),(6,0)),((3,8),(3,9)),((5,8),(5,9))])
theorem FP (n:Int) (ha:s.acts.length≤90000):
  Spec Tryz.prog 152 (aL [.ptr (0,9) 0, .v (.int .i64 n)] (mN M s dr se)) (aO (.tup []) (mn M { s with acts:=s.acts++[{ k:=2 }] } dr se (2,8) (3,8) (5,8)) [(0,9),(1,9),(2,8),(3,8),(4,9),(5,8),(6,9)] [(0,9),(1,9),(4,9),(6,9)]):=by
 refine Spec.ofNI Tryz.func152 rfl Tryz.ntmps152 rfl ?_
 refine aD (dW rfl (bA (Le.incT (5,0) rfl) ?_))
 refine aj (aV aa [((2,8),(5,0))] ar (fO M s dr se 2 0 0 0 0 ab) ob tr tr rfl ae ae) ?_
 exact ay (mR [((2,8),(5,0)),((3,8),(3,9)),((5,8),(5,9))])
theorem GE (n:Int):
  Spec Tryz.prog 155 (aL [.ptr (0,9) 0, .v (.int .i64 n)] (mN M s dr se)) (aO (.tup []) (mn M { s with fin:=true } dr se (2,8) (3,8) (5,8)) [(0,9),(1,9),(2,8),(3,8),(4,9),(5,8),(6,9)] [(0,9),(1,9),(4,9),(6,9)]):=by
 refine Spec.ofNI Tryz.func155 rfl Tryz.ntmps155 rfl ?_
 refine go 5 ?_
 exact ay (mR [((2,8),(2,9)),((3,8),(3,9)),((5,8),(5,9))])
theorem EC (n:Nat):
  Spec Tryz.prog 147 (aL [.ptr (0,9) 0, .v (.int .i64 (n:Int))] (mN M s dr se)) (aO (.tup []) (mn M { s with pc:=n } dr se (2,8) (3,8) (5,8)) [(0,9),(1,9),(2,8),(3,8),(4,9),(5,8),(6,9)] [(0,9),(1,9),(4,9),(6,9)]):=by
 refine Spec.ofNI Tryz.func147 rfl Tryz.ntmps147 rfl ?_
 refine go 6 ?_
 exact ay (mR [((2,8),(2,9)),((3,8),(3,9)),((5,8),(5,9))])
theorem GW (n:Int) (hs:s.stack.length≤90000) (h0:0 < s.stack.length) (hr:Rg (s.top 0)):
  Spec Tryz.prog 141 (aL [.ptr (0,9) 0, .v (.int .i64 n)] (mN M s dr se)) (aO (.tup []) (mn M { s with stack:=s.pop 1++[kR (-(s.top 0))] } dr se (2,8) (3,8) (5,8)) [(0,9),(1,9),(2,8),(3,8),(4,9),(5,8),(6,9)] [(0,9),(1,9),(4,9),(6,9)]):=by
 unfold Rg at hr
 refine Spec.ofNI Tryz.func141 rfl Tryz.ntmps141 rfl ?_
 refine aD (dW rfl (dW rfl (bA (Le.incT (6,0) rfl) ?_)))
 refine aj (aV aa [((3,8),(6,0))] ar (bJ M s dr se ab h0) ob tr tr rfl ae ae) ?_
 refine aj (xf (r:= -(s.top 0)) _ rfl (bQ ab)) ?_
 refine bA (Le.incT (8,0) rfl) ?_
 refine aj (aV aa [((3,9),(6,0)),((3,8),(8,0))] ar (eh M { s with stack:=s.pop 1 } dr se (-(s.top 0)) (by have:=bD s 1;simp only;omega)) ob tr tr rfl ae ae) ?_
 exact ay (mR [((2,8),(2,9)),((3,8),(8,0)),((5,8),(5,9))])
theorem Bu (n:Int) (hs:s.stack.length≤90000) (ha:s.acts.length≤90000) (h0:0 < s.stack.length):
  Spec Tryz.prog 154 (aL [.ptr (0,9) 0, .v (.int .i64 n)] (mN M s dr se)) (aO (.tup []) (mn M { s with stack:=s.pop 1,acts:=s.acts++[{ k:=7,a:=s.top 0 }] } dr se (2,8) (3,8) (5,8)) [(0,9),(1,9),(2,8),(3,8),(4,9),(5,8),(6,9)] [(0,9),(1,9),(4,9),(6,9)]):=by
 refine Spec.ofNI Tryz.func154 rfl Tryz.ntmps154 rfl ?_
 refine aD (dW rfl (dW rfl (bA (Le.incT (6,0) rfl) ?_)))
 refine aj (aV aa [((3,8),(6,0))] ar (bJ M s dr se ab h0) ob tr tr rfl ae ae) ?_
 refine bA (Le.incT (7,0) rfl) ?_
 refine aj (aV aa [((3,9),(6,0)),((2,8),(7,0))] ar (fO M { s with stack:=s.pop 1 } dr se 7 (s.top 0) 0 0 0 (by simp only;omega)) ob tr tr rfl ae ae) ?_
 exact ay (mR [((2,8),(7,0)),((3,8),(6,0)),((5,8),(5,9))])
end
end Go.Proofs.YtmjnackchaahbaaGreat

set_option maxHeartbeats 2000000
namespace Go.Proofs.YtmjnackchaahbaaGreat
open Go.RowKit

section
variable (M:Mk) (s:Ms) (dr se:Int)
theorem Da (k:Nat) (hk:k < s.vars.length) (hs:s.stack.length≤90000) (ha:s.acts.length≤90000) (h0:0 < s.stack.length) (hd:k < M.P.d):
  Spec Tryz.prog 130 (aL [.ptr (0,9) 0, .v (.int .i64 (k:Int))] (mN M s dr se)) (aO (.tup []) (mn M { s with vars:=s.vars.set k (s.top 0),stack:=s.pop 1,acts:=s.acts++[{ k:=1,a:=k,b:=s.top 0 }] } dr se (2,8) (3,8) (5,8)) [(0,9),(1,9),(2,8),(3,8),(4,9),(5,8),(6,9)] [(0,9),(1,9),(4,9),(6,9)]):=by
 have hl:(s.vars.set k (s.top 0)).length=s.vars.length:=List.length_set
 have hg:=cw (s.vars.set k (s.top 0)) k (by rw [hl];exact hk)
 rw [List.getD_eq_getElem?_getD,List.getElem?_set_self hk] at hg
 refine Spec.ofNI Tryz.func130 rfl Tryz.ntmps130 rfl ?_
 refine aE ?_
 refine aB (Le.incT (11,0) rfl) ?_
 refine xV (0,9) (fun c=> ∃ xs,c=Slot.obj (.box 171 xs)∧xs[54]? =some (.ref (1,9) 0 s.vars.length)) 8 [4,5,6,7,8,9,10,11] [(0,9),(1,9),(2,9),(11,0),(4,9),(5,9),(6,9),(3,9)] ae ae rfl (bj rfl) (rfl:_=[_,_,_,_,_,_,_,_]) (rfl:_=[_,_]) (⟨_,rfl,rfl⟩) ?_
 refine fx (_,[]) (fun τ hτ=> bZ _ uM) ?_
 refine fu (rfl:_=[_]) ?_
 refine fx (_,[]) (fun τ hτ=> nK _ rfl (by exact hτ.choose_spec.1)) ?_
 refine fu (rfl:_=[_,_]) ?_
 refine fx (_,[]) (fun τ hτ=> dT _ aa rfl (by exact hτ.choose_spec.1) rfl) ?_
 refine fu (rfl:_=[_,_,_]) ?_
 refine fx (_,[]) (fun τ hτ=> dT _ aa rfl (by exact hτ.choose_spec.1) rfl) ?_
 refine fu (rfl:_=[_,_,_,_]) ?_
 refine fx (_,[]) (fun τ hτ=> bK _ aa rfl (by exact hτ.choose_spec.1) (by exact hτ.choose_spec.2)) ?_
 refine fu (rfl:_=[_,_,_,_,_]) ?_
 refine fx (_,[]) (fun τ hτ=> bZ _ ry) ?_
 refine fu (rfl:_=[_,_,_,_,_,_]) ?_
 refine fx (_,[]) (fun τ hτ=> bZ _ uM) ?_
 refine fu (rfl:_=[_,_,_,_,_,_,_]) ?_
 refine fx (_,[((0,9),_),((1,9),_),((2,9),_),((11,0),_),((4,9),_),((5,9),_),((6,9),_),((3,9), .gone)]) (fun τ hτ=> (aV aa [((3,8),(11,0))] ar (bJ M s dr se ab h0) ob tr tr rfl ae ae)) ?_
 refine fu (rfl:_=[_,_,_,_,_,_,_,_]) ?_
 refine uW ⟨⟨rfl,(by intro r hr c hc;simp only [List.mem_cons,List.not_mem_nil,or_false] at hr;rcases hr with rfl | rfl | rfl | rfl | rfl | rfl | rfl | rfl <;> simp at hc;subst hc;exact ⟨_,rfl,rfl⟩)⟩,?_⟩
 refine aj (bq _ _ aa rfl rfl rfl _ rfl ab (by exact (Nat.zero_add _).trans (Nat.mul_one _))) ?_
 refine aj (dN _ _ aa rfl rfl rfl rfl rfl (by rw [aq];exact hk) (dF s.vars k (s.top 0) hk)) ?_
 refine go 10 ?_
 refine fX rfl (decide_eq_true ab) ?_
 refine aB (σ':=an 31 [(0,_),(1,_)] [((0,9),_),((1,9),_),((2,9),_),((4,9),_),((5,9),_),((6,9),_),((11,0),_)] [(0,9),(1,9),(2,9),(4,9),(5,9),(6,9),(11,0)] [(0,9),(1,9),(4,9),(6,9)]) kp ?_
 refine go 9 ?_
 refine aj (bq _ _ aa rfl rfl rfl _ rfl ab (by exact (Nat.zero_add _).trans (Nat.mul_one _))) ?_
 refine aj (cA _ aa rfl rfl (by exact hg) rfl) ?_
 refine bA (Le.incT (30,0) rfl) ?_
 refine aj (aV aa [((3,9),(11,0)),((2,8),(30,0))] ar (fO M { s with vars:=s.vars.set k (s.top 0),stack:=s.pop 1 } dr se 1 (k:Int) (s.top 0) 0 0 (by simp only;omega)) ⟨⟨rfl,⟨_,rfl, .box ag (ai .sl (so (so (so (so (ai .v (ai .v (ai .sl (xF (xF (ai .v (ai (.fn rfl aK rfl lz) (ai (ca (id:=(1,9)) (id':=(1,9)) rfl hl) lz)))))))))))))⟩,rfl⟩,⟨rfl,⟨_,rfl, .rowE rfl⟩,rfl⟩,⟨rfl,⟨_,rfl, .rowE rfl⟩,rfl⟩,⟨rfl,⟨_,rfl, .rowE rfl⟩,rfl⟩,⟨rfl,⟨_,rfl, .box ag lz⟩,rfl⟩,⟨rfl,⟨_,rfl, .rowE rfl⟩,rfl⟩,⟨rfl,⟨_,rfl, .box ag lz⟩,rfl⟩,trivial⟩ tr tr rfl ae ae) ?_
 exact ay (mR [((2,8),(30,0)),((3,8),(11,0)),((5,8),(5,9))])
theorem Et (k:Nat) (hk:k < s.vars.length) (hs:s.stack.length≤90000) (h0:0 < s.stack.length) (hd:M.P.d≤k):
  Spec Tryz.prog 130 (aL [.ptr (0,9) 0, .v (.int .i64 (k:Int))] (mN M s dr se)) (aO (.tup []) (mn M { s with vars:=s.vars.set k (s.top 0),stack:=s.pop 1 } dr se (2,8) (3,8) (5,8)) [(0,9),(1,9),(2,8),(3,8),(4,9),(5,8),(6,9)] [(0,9),(1,9),(4,9),(6,9)]):=by
 have hl:(s.vars.set k (s.top 0)).length=s.vars.length:=List.length_set
 have hg:=cw (s.vars.set k (s.top 0)) k (by rw [hl];exact hk)
 rw [List.getD_eq_getElem?_getD,List.getElem?_set_self hk] at hg
 refine Spec.ofNI Tryz.func130 rfl Tryz.ntmps130 rfl ?_
 refine aE ?_
 refine aB (Le.incT (11,0) rfl) ?_
 refine xV (0,9) (fun c=> ∃ xs,c=Slot.obj (.box 171 xs)∧xs[54]? =some (.ref (1,9) 0 s.vars.length)) 8 [4,5,6,7,8,9,10,11] [(0,9),(1,9),(2,9),(11,0),(4,9),(5,9),(6,9),(3,9)] ae ae rfl (bj rfl) (rfl:_=[_,_,_,_,_,_,_,_]) (rfl:_=[_,_]) (⟨_,rfl,rfl⟩) ?_
 refine fx (_,[]) (fun τ hτ=> bZ _ uM) ?_
 refine fu (rfl:_=[_]) ?_
 refine fx (_,[]) (fun τ hτ=> nK _ rfl (by exact hτ.choose_spec.1)) ?_
 refine fu (rfl:_=[_,_]) ?_
 refine fx (_,[]) (fun τ hτ=> dT _ aa rfl (by exact hτ.choose_spec.1) rfl) ?_
 refine fu (rfl:_=[_,_,_]) ?_
 refine fx (_,[]) (fun τ hτ=> dT _ aa rfl (by exact hτ.choose_spec.1) rfl) ?_
 refine fu (rfl:_=[_,_,_,_]) ?_
 refine fx (_,[]) (fun τ hτ=> bK _ aa rfl (by exact hτ.choose_spec.1) (by exact hτ.choose_spec.2)) ?_
 refine fu (rfl:_=[_,_,_,_,_]) ?_
 refine fx (_,[]) (fun τ hτ=> bZ _ ry) ?_
 refine fu (rfl:_=[_,_,_,_,_,_]) ?_
 refine fx (_,[]) (fun τ hτ=> bZ _ uM) ?_
 refine fu (rfl:_=[_,_,_,_,_,_,_]) ?_
 refine fx (_,[((0,9),_),((1,9),_),((2,9),_),((11,0),_),((4,9),_),((5,9),_),((6,9),_),((3,9), .gone)]) (fun τ hτ=> (aV aa [((3,8),(11,0))] ar (bJ M s dr se ab h0) ob tr tr rfl ae ae)) ?_
 refine fu (rfl:_=[_,_,_,_,_,_,_,_]) ?_
 refine uW ⟨⟨rfl,(by intro r hr c hc;simp only [List.mem_cons,List.not_mem_nil,or_false] at hr;rcases hr with rfl | rfl | rfl | rfl | rfl | rfl | rfl | rfl <;> simp at hc;subst hc;exact ⟨_,rfl,rfl⟩)⟩,?_⟩
 refine aj (bq _ _ aa rfl rfl rfl _ rfl ab (by exact (Nat.zero_add _).trans (Nat.mul_one _))) ?_
 refine aj (dN _ _ aa rfl rfl rfl rfl rfl (by rw [aq];exact hk) (dF s.vars k (s.top 0) hk)) ?_
 refine go 10 ?_
 refine cP rfl (decide_eq_false ab) ?_
 exact aR (wj (.inl rfl) rfl (Le.outI [((2,8),(2,9)),((3,8),(11,0)),((5,8),(5,9))] [] (.tup rfl aK) rfl rfl rfl trivial ⟨⟨rfl,⟨_,rfl, .box rfl (ai .sl (so (so (so (so (ai .v (ai .v (ai .sl (xF (xF (ai .v (ai (.fn rfl aK rfl lz) (ai (ca rfl hl) lz)))))))))))))⟩,rfl⟩,⟨rfl,⟨_,rfl, .rowE rfl⟩,rfl⟩,⟨rfl,⟨_,rfl, .rowE rfl⟩,rfl⟩,⟨rfl,⟨_,rfl, .rowE rfl⟩,rfl⟩,⟨rfl,⟨_,rfl, .box rfl lz⟩,rfl⟩,⟨rfl,⟨_,rfl, .rowE rfl⟩,rfl⟩,⟨rfl,⟨_,rfl, .box rfl lz⟩,rfl⟩,trivial⟩ tr rfl))
end
end Go.Proofs.YtmjnackchaahbaaGreat

set_option maxHeartbeats 2000000
namespace Go.Proofs.YtmjnackchaahbaaGreat
open Go.RowKit

section
variable (M:Mk) (s:Ms) (dr se:Int)
theorem HK (ac st:az) (k:Nat) (hk:k < 9):(Nm M s dr se ac st)[44+k]? =some (.v (.int .i64 (M.nm k))):=by
 rcases k with _ | _ | _ | _ | _ | _ | _ | _ | _ | k
 all_goals first | rfl | omega
theorem fi (j k:Nat) (h:j+k < s.stack.length):({ s with stack:=s.pop k }:Ms).top j=s.top (j+k):=by
 unfold Ms.top Ms.pop
 simp only [List.length_take]
 rw [List.getD_eq_getElem?_getD,List.getD_eq_getElem?_getD,List.getElem?_take_of_lt ab]
 congr 2;omega
theorem fg (j k:Nat):({ s with stack:=s.pop k }:Ms).pop j=s.pop (j+k):=by
 unfold Ms.pop
 simp only [List.length_take,List.take_take]
 congr 1;omega
theorem BM (k:Nat) (hk:k < 9) (hs:s.stack.length≤90000):
  Spec Tryz.prog 133 (aL [.ptr (0,9) 0, .v (.int .i64 (k:Int))] (mN M s dr se)) (aO (.tup []) (mn M { s with stack:=s.stack++[kR (M.nm k)] } dr se (2,8) (3,8) (5,8)) [(0,9),(1,9),(2,8),(3,8),(4,9),(5,8),(6,9)] [(0,9),(1,9),(4,9),(6,9)]):=by
 refine Spec.ofNI Tryz.func133 rfl Tryz.ntmps133 rfl ?_
 refine go 7 ?_
 refine aj (bO _ _ aa rfl rfl rfl k rfl ab (by exact congrArg (fun z=> 0+43+1+z) (Nat.mul_one k))) ?_
 refine aj (bK _ aa rfl rfl (by exact (congrArg (fun z=> (Nm M s dr se (2,9) (3,9))[z]?) ab).trans (HK M s dr se (2,9) (3,9) k hk))) ?_
 refine bA (Le.incT (12,0) rfl) ?_
 refine aj (aV aa [((3,8),(12,0))] ar (eh M s dr se (M.nm k) ab) ob tr tr rfl ae ae) ?_
 exact ay (mR [((2,8),(2,9)),((3,8),(12,0)),((5,8),(5,9))])
theorem EL (n:Nat) (hs:s.stack.length≤90000) (h0:0 < s.stack.length) (hc:s.top 0=0):
  Spec Tryz.prog 148 (aL [.ptr (0,9) 0, .v (.int .i64 (n:Int))] (mN M s dr se)) (aO (.tup []) (mn M { s with stack:=s.pop 1,pc:=n } dr se (2,8) (3,8) (5,8)) [(0,9),(1,9),(2,8),(3,8),(4,9),(5,8),(6,9)] [(0,9),(1,9),(4,9),(6,9)]):=by
 refine Spec.ofNI Tryz.func148 rfl Tryz.ntmps148 rfl ?_
 refine aG (dW rfl (bA (Le.incT (5,0) rfl) ?_))
 refine aj (aV aa [((3,8),(5,0))] ar (bJ M s dr se ab h0) ob tr tr rfl ae ae) ?_
 refine aj (bb _ _ rfl rfl rfl) (am (fX rfl (decide_eq_true hc) ?_))
 refine go 6 ?_
 exact ay (mR [((2,8),(2,9)),((3,8),(5,0)),((5,8),(5,9))])
theorem Fb (n:Int) (hs:s.stack.length≤90000) (h0:0 < s.stack.length) (hc:s.top 0=0):
  Spec Tryz.prog 146 (aL [.ptr (0,9) 0, .v (.int .i64 n)] (mN M s dr se)) (aO (.tup []) (mn M { s with stack:=s.pop 1++[1] } dr se (2,8) (3,8) (5,8)) [(0,9),(1,9),(2,8),(3,8),(4,9),(5,8),(6,9)] [(0,9),(1,9),(4,9),(6,9)]):=by
 rw [show (1:Int)=kR 1 from ah]
 refine Spec.ofNI Tryz.func146 rfl Tryz.ntmps146 rfl ?_
 refine aG (dW rfl (bA (Le.incT (5,0) rfl) ?_))
 refine aj (aV aa [((3,8),(5,0))] ar (bJ M s dr se ab h0) ob tr tr rfl ae ae) ?_
 refine aj (bb _ _ rfl rfl rfl) (am (fX rfl (decide_eq_true hc) ?_))
 refine aD (dW rfl (bA (Le.incT (8,0) rfl) ?_))
 refine aj (aV aa [((3,9),(5,0)),((3,8),(8,0))] ar (eh M { s with stack:=s.pop 1 } dr se 1 (by have:=bD s 1;simp only;omega)) ob tr tr rfl ae ae) ?_
 exact ay (mR [((2,8),(2,9)),((3,8),(8,0)),((5,8),(5,9))])
theorem FX (n:Nat) (hs:s.stack.length≤90000) (h0:0 < s.stack.length) (hc:s.top 0≠0):
  Spec Tryz.prog 148 (aL [.ptr (0,9) 0, .v (.int .i64 (n:Int))] (mN M s dr se)) (aO (.tup []) (mn M { s with stack:=s.pop 1 } dr se (2,8) (3,8) (5,8)) [(0,9),(1,9),(2,8),(3,8),(4,9),(5,8),(6,9)] [(0,9),(1,9),(4,9),(6,9)]):=by
 refine Spec.ofNI Tryz.func148 rfl Tryz.ntmps148 rfl ?_
 refine aG (dW rfl (bA (Le.incT (5,0) rfl) ?_))
 refine aj (aV aa [((3,8),(5,0))] ar (bJ M s dr se ab h0) ob tr tr rfl ae ae) ?_
 refine aj (bb _ _ rfl rfl rfl) (am (cP rfl (decide_eq_false hc) ?_))
 exact aR (mR [((2,8),(2,9)),((3,8),(5,0)),((5,8),(5,9))])
theorem FH (n:Int) (hs:s.stack.length≤90000) (h0:0 < s.stack.length) (hc:s.top 0≠0):
  Spec Tryz.prog 146 (aL [.ptr (0,9) 0, .v (.int .i64 n)] (mN M s dr se)) (aO (.tup []) (mn M { s with stack:=s.pop 1++[0] } dr se (2,8) (3,8) (5,8)) [(0,9),(1,9),(2,8),(3,8),(4,9),(5,8),(6,9)] [(0,9),(1,9),(4,9),(6,9)]):=by
 rw [show (0:Int)=kR 0 from ah]
 refine Spec.ofNI Tryz.func146 rfl Tryz.ntmps146 rfl ?_
 refine aG (dW rfl (bA (Le.incT (5,0) rfl) ?_))
 refine aj (aV aa [((3,8),(5,0))] ar (bJ M s dr se ab h0) ob tr tr rfl ae ae) ?_
 refine aj (bb _ _ rfl rfl rfl) (am (cP rfl (decide_eq_false hc) ?_))
 refine aD (dW rfl (bA (Le.incT (10,0) rfl) ?_))
 refine aj (aV aa [((3,9),(5,0)),((3,8),(10,0))] ar (eh M { s with stack:=s.pop 1 } dr se 0 (by have:=bD s 1;simp only;omega)) ob tr tr rfl ae ae) ?_
 exact ay (mR [((2,8),(2,9)),((3,8),(10,0)),((5,8),(5,9))])
theorem Ei (n:Int) (hs:s.stack.length≤90000) (ha:s.acts.length≤90000) (h2:2≤s.stack.length):
  Spec Tryz.prog 153 (aL [.ptr (0,9) 0, .v (.int .i64 n)] (mN M s dr se)) (aO (.tup []) (mn M { s with stack:=s.pop 2,acts:=s.acts++[{ k:=6,a:=s.top 1,b:=s.top 0 }] } dr se (2,8) (3,8) (5,8)) [(0,9),(1,9),(2,8),(3,8),(4,9),(5,8),(6,9)] [(0,9),(1,9),(4,9),(6,9)]):=by
 have h2x:=bJ M { s with stack:=s.pop 1 } dr se (by have:=bD s 1;simp only;omega) (by have:=bD s 1;simp only;omega)
 rw [fi s 0 1 ab,fg] at h2x
 refine Spec.ofNI Tryz.func153 rfl Tryz.ntmps153 rfl ?_
 refine aG (dW rfl (bA (Le.incT (6,0) rfl) ?_))
 refine aj (aV aa [((3,8),(6,0))] ar (bJ M s dr se ab ab) ob tr tr rfl ae ae) ?_
 refine go 5 ?_
 refine bA (Le.incT (9,0) rfl) ?_
 refine aj (aV aa [((3,9),(6,0)),((3,8),(9,0))] ar (h2x) ob tr tr rfl ae ae) ?_
 refine bV rfl (bA (Le.incT (11,0) rfl) ?_)
 refine aj (aV aa [((3,9),(9,0)),((2,8),(11,0))] ar (fO M { s with stack:=s.pop 2 } dr se 6 (s.top 1) (s.top 0) 0 0 (by simp only;omega)) ob tr tr rfl ae ae) ?_
 exact ay (mR [((2,8),(11,0)),((3,8),(9,0)),((5,8),(5,9))])
end
end Go.Proofs.YtmjnackchaahbaaGreat

set_option maxHeartbeats 2000000
namespace Go.Proofs.YtmjnackchaahbaaGreat
open Go.RowKit

section
variable (M:Mk) (s:Ms) (dr se:Int)
set_option maxHeartbeats 2000000 in
theorem GZ (n:Int) (hs:s.stack.length≤90000) (ha:s.acts.length≤90000) (h0:3≤s.stack.length) (hse: -100≤se) (h1:0≤s.top 2) (h2:s.top 2 < M.nm 1) (h3:se < 20):
  Spec Tryz.prog 149 (aL [.ptr (0,9) 0, .v (.int .i64 n)] (mN M s dr se)) (aO (.tup []) (mn M { s with stack:=s.pop 3,acts:=s.acts++[{ k:=3,a:=s.top 2,b:=n,c:=s.top 1,d:=s.top 0 }] } dr (se+1) (2,8) (3,8) (5,8)) [(0,9),(1,9),(2,8),(3,8),(4,9),(5,8),(6,9)] [(0,9),(1,9),(4,9),(6,9)]):=by
 have h2x:=bJ M { s with stack:=s.pop 1 } dr se (by have:=bD s 1;simp only;omega) (by have:=bD s 1;simp only;omega)
 rw [fi s 0 1 ab,fg,Nat.zero_add] at h2x
 have h3x:=bJ M { s with stack:=s.pop 2 } dr se (by have:=bD s 2;simp only;omega) (by have:=bD s 2;simp only;omega)
 rw [fi s 0 2 ab,fg,Nat.zero_add] at h3x
 refine Spec.ofNI Tryz.func149 rfl Tryz.ntmps149 rfl ?_
 refine aG (dW rfl (bA (Le.incT (8,0) rfl) ?_))
 refine aj (aV aa [((3,8),(8,0))] ar (bJ M s dr se ab ab) ob tr tr rfl ae ae) ?_
 refine dW rfl (bA (Le.incT (10,0) rfl) ?_)
 refine aj (aV aa [((3,9),(8,0)),((3,8),(10,0))] ar (h2x) ob tr tr rfl ae ae) ?_
 refine dW rfl (bA (Le.incT (12,0) rfl) ?_)
 refine aj (aV aa [((3,9),(10,0)),((3,8),(12,0))] ar (h3x) ob tr tr rfl ae ae) ?_
 refine go 6 ?_
 refine aj (eg (r:=true) _ _ rfl rfl (decide_eq_true ab)) ?_
 refine go 6 ?_
 refine aZ rfl rfl (bO _ _ aa rfl rfl rfl 1 rfl ab ag) ?_
 refine go 1 ?_
 refine aZ rfl rfl (cT (r:=true) _ _ rfl rfl (decide_eq_true ab)) ?_
 refine go 6 ?_
 refine aZ rfl rfl (cT (r:=true) _ _ rfl rfl (decide_eq_true ab)) ?_
 refine go 3 ?_
 refine aE ?_
 refine aB (σ':=an 45 [(0,_),(1,_),(4,_),(5,_),(6,_)] [((0,9),_),((1,9),_),((2,9),_),((4,9),_),((5,9),_),((6,9),_),((12,0),_)] [(0,9),(1,9),(2,9),(4,9),(5,9),(6,9),(12,0)] [(0,9),(1,9),(4,9),(6,9)]) kp ?_
 refine go 5 ?_
 refine aj (eI (r:=se+1) _ _ rfl rfl (bQ ab)) ?_
 refine go 10 ?_
 refine bA (Le.incT (44,0) rfl) ?_
 refine aj (aV aa [((3,9),(12,0)),((2,8),(44,0))] ar (fO M { s with stack:=s.pop 3 } dr (se+1) 3 (s.top 2) n (s.top 1) (s.top 0) (by simp only;omega)) ob tr tr rfl ae ae) ?_
 exact ay (mR [((2,8),(44,0)),((3,8),(12,0)),((5,8),(5,9))])
set_option maxHeartbeats 2000000 in
theorem Az (n:Int) (hs:s.stack.length≤90000) (ha:s.acts.length≤90000) (h0:3≤s.stack.length) (hse: -100≤se) (h1:s.top 2 < 0):
  Spec Tryz.prog 149 (aL [.ptr (0,9) 0, .v (.int .i64 n)] (mN M s dr se)) (aO (.tup []) (mn M { s with stack:=s.pop 3 } dr se (2,8) (3,8) (5,8)) [(0,9),(1,9),(2,8),(3,8),(4,9),(5,8),(6,9)] [(0,9),(1,9),(4,9),(6,9)]):=by
 have h2x:=bJ M { s with stack:=s.pop 1 } dr se (by have:=bD s 1;simp only;omega) (by have:=bD s 1;simp only;omega)
 rw [fi s 0 1 ab,fg,Nat.zero_add] at h2x
 have h3x:=bJ M { s with stack:=s.pop 2 } dr se (by have:=bD s 2;simp only;omega) (by have:=bD s 2;simp only;omega)
 rw [fi s 0 2 ab,fg,Nat.zero_add] at h3x
 refine Spec.ofNI Tryz.func149 rfl Tryz.ntmps149 rfl ?_
 refine aG (dW rfl (bA (Le.incT (8,0) rfl) ?_))
 refine aj (aV aa [((3,8),(8,0))] ar (bJ M s dr se ab ab) ob tr tr rfl ae ae) ?_
 refine dW rfl (bA (Le.incT (10,0) rfl) ?_)
 refine aj (aV aa [((3,9),(8,0)),((3,8),(10,0))] ar (h2x) ob tr tr rfl ae ae) ?_
 refine dW rfl (bA (Le.incT (12,0) rfl) ?_)
 refine aj (aV aa [((3,9),(10,0)),((3,8),(12,0))] ar (h3x) ob tr tr rfl ae ae) ?_
 refine go 6 ?_
 refine aj (eg (r:=false) _ _ rfl rfl (decide_eq_false ab)) ?_
 refine go 19 ?_
 exact aR (mR [((2,8),(2,9)),((3,8),(12,0)),((5,8),(5,9))])
set_option maxHeartbeats 2000000 in
theorem DV (n:Int) (hs:s.stack.length≤90000) (ha:s.acts.length≤90000) (h0:3≤s.stack.length) (hse: -100≤se) (h1:0≤s.top 2) (h2:M.nm 1≤s.top 2):
  Spec Tryz.prog 149 (aL [.ptr (0,9) 0, .v (.int .i64 n)] (mN M s dr se)) (aO (.tup []) (mn M { s with stack:=s.pop 3 } dr se (2,8) (3,8) (5,8)) [(0,9),(1,9),(2,8),(3,8),(4,9),(5,8),(6,9)] [(0,9),(1,9),(4,9),(6,9)]):=by
 have h2x:=bJ M { s with stack:=s.pop 1 } dr se (by have:=bD s 1;simp only;omega) (by have:=bD s 1;simp only;omega)
 rw [fi s 0 1 ab,fg,Nat.zero_add] at h2x
 have h3x:=bJ M { s with stack:=s.pop 2 } dr se (by have:=bD s 2;simp only;omega) (by have:=bD s 2;simp only;omega)
 rw [fi s 0 2 ab,fg,Nat.zero_add] at h3x
 refine Spec.ofNI Tryz.func149 rfl Tryz.ntmps149 rfl ?_
 refine aG (dW rfl (bA (Le.incT (8,0) rfl) ?_))
 refine aj (aV aa [((3,8),(8,0))] ar (bJ M s dr se ab ab) ob tr tr rfl ae ae) ?_
 refine dW rfl (bA (Le.incT (10,0) rfl) ?_)
 refine aj (aV aa [((3,9),(8,0)),((3,8),(10,0))] ar (h2x) ob tr tr rfl ae ae) ?_
 refine dW rfl (bA (Le.incT (12,0) rfl) ?_)
 refine aj (aV aa [((3,9),(10,0)),((3,8),(12,0))] ar (h3x) ob tr tr rfl ae ae) ?_
 refine go 6 ?_
 refine aj (eg (r:=true) _ _ rfl rfl (decide_eq_true ab)) ?_
 refine go 6 ?_
 refine aZ rfl rfl (bO _ _ aa rfl rfl rfl 1 rfl ab ag) ?_
 refine go 1 ?_
 refine aZ rfl rfl (cT (r:=false) _ _ rfl rfl (decide_eq_false ab)) ?_
 refine go 10 ?_
 exact aR (mR [((2,8),(2,9)),((3,8),(12,0)),((5,8),(5,9))])
set_option maxHeartbeats 2000000 in
theorem CR (n:Int) (hs:s.stack.length≤90000) (ha:s.acts.length≤90000) (h0:3≤s.stack.length) (hse: -100≤se) (h1:0≤s.top 2) (h2:s.top 2 < M.nm 1) (h3:20≤se):
  Spec Tryz.prog 149 (aL [.ptr (0,9) 0, .v (.int .i64 n)] (mN M s dr se)) (aO (.tup []) (mn M { s with stack:=s.pop 3 } dr se (2,8) (3,8) (5,8)) [(0,9),(1,9),(2,8),(3,8),(4,9),(5,8),(6,9)] [(0,9),(1,9),(4,9),(6,9)]):=by
 have h2x:=bJ M { s with stack:=s.pop 1 } dr se (by have:=bD s 1;simp only;omega) (by have:=bD s 1;simp only;omega)
 rw [fi s 0 1 ab,fg,Nat.zero_add] at h2x
 have h3x:=bJ M { s with stack:=s.pop 2 } dr se (by have:=bD s 2;simp only;omega) (by have:=bD s 2;simp only;omega)
 rw [fi s 0 2 ab,fg,Nat.zero_add] at h3x
 refine Spec.ofNI Tryz.func149 rfl Tryz.ntmps149 rfl ?_
 refine aG (dW rfl (bA (Le.incT (8,0) rfl) ?_))
 refine aj (aV aa [((3,8),(8,0))] ar (bJ M s dr se ab ab) ob tr tr rfl ae ae) ?_
 refine dW rfl (bA (Le.incT (10,0) rfl) ?_)
 refine aj (aV aa [((3,9),(8,0)),((3,8),(10,0))] ar (h2x) ob tr tr rfl ae ae) ?_
 refine dW rfl (bA (Le.incT (12,0) rfl) ?_)
 refine aj (aV aa [((3,9),(10,0)),((3,8),(12,0))] ar (h3x) ob tr tr rfl ae ae) ?_
 refine go 6 ?_
 refine aj (eg (r:=true) _ _ rfl rfl (decide_eq_true ab)) ?_
 refine go 6 ?_
 refine aZ rfl rfl (bO _ _ aa rfl rfl rfl 1 rfl ab ag) ?_
 refine go 1 ?_
 refine aZ rfl rfl (cT (r:=true) _ _ rfl rfl (decide_eq_true ab)) ?_
 refine go 6 ?_
 refine aZ rfl rfl (cT (r:=false) _ _ rfl rfl (decide_eq_false ab)) ?_
 refine go 3 ?_
 exact aR (mR [((2,8),(2,9)),((3,8),(12,0)),((5,8),(5,9))])
abbrev tg (t:Tl) (kind idx k r:Int):Prop:=Spec Tryz.prog 87 (aI [.sl t.na t.A, .agg [.v (.int .i64 t.c1), .v (.int .i64 t.c2), .v (.int .i64 t.c3), .v (.int .i64 kind), .v (.int .i64 idx)], .v (.int .i64 k)] []) (aA (.v (.int .i64 r)) [])
structure CU (M:Mk):Prop where
 np:M.t.np≤10
 pl:M.t.pre.length=M.t.np*7
 lk: ∀ (i:Nat) (k:Int),i≤100000→2≤k→k≤4→tg M.t 1 (i:Int) k (el M.ans i k)
end
theorem sj (t:Tl) (kind idx k r:Int) (n:Nat) (L:List PV) (hL:L.length=n*7) (hn:n≤200000) (hk:0 < k) (hlk:tg t kind idx k r):
  Spec Tryz.prog 54 (aL [.ptr (4,9) 0, .v (.int .i64 kind), .v (.int .i64 idx), .v (.int .i64 k)] (vR t n L (5,9))) (aO (.v (.int .i64 r)) (vR t (n+1) (L++vT t kind idx k r) (5,8)) [(4,9),(5,8)] [(4,9)]):=by
 refine Spec.ofNI Tryz.func54 rfl Tryz.ntmps54 rfl ?_
 refine go 22 ?_
 refine fX rfl (decide_eq_true ab) ?_
 refine aB (σ':=an 41 [(0,_),(3,_),(9,_)] [((4,9),_),((5,9),_),((9,0),_)] [(4,9),(5,9)] [(4,9)]) kp ?_
 refine dA 8 [] ?_
 refine go 12 ?_
 refine aC (_,[]) (fun τ=> (ap aa al (hlk) rfl rfl)) ?_
 refine go 5 ?_
 refine aE ?_
 refine aB (σ':=an 41 [(0,_),(3,_),(9,_),(10,_)] [((4,9),_),((5,9),_),((9,0),_)] [(4,9),(5,9)] [(4,9)]) kp ?_
 refine aB (Le.incT (37,0) rfl) ?_
 refine jD 11 [27,28,29,30,31,32,33,34,35,36,37] [(5,9),(37,0)] [[],[],[],[(5,9)],[(5,9)],[],[],[],[(5,9)],[(5,9)],[]] ae ae rfl (bj rfl) (rfl:_=[_,_,_,_,_,_,_,_,_,_,_]) (rfl:_=[_,_,_]) ?_
 refine go 20 ?_
 refine aC (_,[((5,9), .gone),((37,0),_)]) (fun τ=> kA (b:=true) (37,0) _ _ aa rfl (fE rfl (by exact eN) rfl) hL.symm (.sl rfl) ab rfl rfl rfl rfl rfl) ?_
 refine go 10 ?_
 exact au (cq (.inr rfl) rfl (.tmp kM) (Le.outI [((5,8),(37,0))] [] .v rfl rfl rfl trivial ob tr rfl))
theorem CP (t:Tl) (idx k r:Int) (n:Nat) (L:List PV) (hL:L.length=n*7) (hn:n≤200000) (hk:0 < k) (hlk:tg t 1 idx k r):
  Spec Tryz.prog 113 (aL [.v (.int .i64 idx), .v (.int .i64 k), .ptr (6,9) 0] (EO t n L (5,9))) (aO (.v (.int .i64 r)) (EO t (n+1) (L++vT t 1 idx k r) (5,8)) [(4,9),(5,8),(6,9)] [(4,9),(6,9)]):=by
 have h:=sj t 1 idx k r n L hL hn hk hlk
 refine Spec.ofNI Tryz.func113 rfl Tryz.ntmps113 rfl ?_
 refine go 7 ?_
 refine bA (Le.incT (9,0) rfl) ?_
 refine aj (kh rfl aa [((5,8),(9,0))] ar (h) ob tr tr rfl ae ae) ?_
 exact cp rfl (am (au (cq (.inr rfl) rfl (.tmp kM) (Le.outI [((5,8),(9,0))] [] .v rfl rfl rfl trivial ob tr rfl))))
end Go.Proofs.YtmjnackchaahbaaGreat

set_option maxHeartbeats 2000000
namespace Go.Proofs.YtmjnackchaahbaaGreat
open Go.RowKit

structure An where
 a:Int
 b:Int
 c:Int
 k:Int
 i:Int
 n:Int
def Ew (x:An):List PV:=[.v (.int .i64 x.a), .v (.int .i64 x.b), .v (.int .i64 x.c), .v (.int .i64 x.k), .v (.int .i64 x.i), .v (.int .i64 x.n)]
def nD (l:List An):List PV:=l.flatMap Ew
def mQ (l:List An) (k:Nat):An:=l.getD k ⟨0,0,0,0,0,0⟩
theorem cX (l:List An):(nD l).length=l.length*6:=gB Ew 6 (fun _=> rfl) l
theorem sO (l:List An) (k:Nat) (h:k < l.length):mQ l k=l[k]:=by unfold mQ;rw [List.getD_eq_getElem?_getD,List.getElem?_eq_getElem h];rfl
theorem Cv (l:List An) (k:Nat) (h:k < l.length):(nD l)[k*6+5]? =some (.v (.int .i64 (mQ l k).n)):=by
 rw [sO l k h];exact jA Ew 6 (fun _=> rfl) l k 5 h ab
theorem yd (l:List An) (k:Nat) (h:k < l.length):((nD l).drop (k*6)).take 6=Ew (mQ l k):=by
 rw [sO l k h];exact ml Ew 6 (fun _=> rfl) l k h
theorem Cm (l:List An) (k:Nat) (h:k < l.length):PV.ups (((nD l).drop (k*6+0)).take 5)=[.v (.int .i64 (mQ l k).a), .v (.int .i64 (mQ l k).b), .v (.int .i64 (mQ l k).c), .v (.int .i64 (mQ l k).k), .v (.int .i64 (mQ l k).i)]:=by
 have e:((nD l).drop (k*6+0)).take 5=(((nD l).drop (k*6)).take 6).take 5:=by rw [List.take_take];rfl
 rw [e,yd l k h];rfl
theorem DW (l:List An) (x:An):nD l++Ew x=nD (l++[x]):=jy Ew l x
def og (l:List An) (a b c k i:Int):Int:=l.foldl (fun n x=> if (x.a=a∧x.b=b∧x.c=c)∧x.k=k∧x.i=i then max x.n 0 else n) 0
theorem yt (l:List An) (a b c k i:Int) {j:Nat} (h:j < l.length):og (l.take (j+1)) a b c k i=if ((mQ l j).a=a∧(mQ l j).b=b∧(mQ l j).c=c)∧(mQ l j).k=k∧(mQ l j).i=i then max (mQ l j).n 0 else og (l.take j) a b c k i:=by
 have e:l.take (j+1)=l.take j++[mQ l j]:=by rw [List.take_add_one,List.getElem?_eq_getElem h,sO l j h];rfl
 rw [e];unfold og;rw [List.foldl_append];rfl
theorem xv (a b c k i:Int): ∀ (l:List An) (n:Int),0≤n→0≤l.foldl (fun n x=> if (x.a=a∧x.b=b∧x.c=c)∧x.k=k∧x.i=i then max x.n 0 else n) n
 | [],_,h=> h
 | x::l,n,h=> xv a b c k i l _ (by simp only;split <;> omega)
theorem nB (l:List An) (hl:l.length≤1000000) (a b c k i:Int):
  Spec Tryz.prog 119 (aI [.sl l.length (nD l), .agg [.v (.int .i64 a), .v (.int .i64 b), .v (.int .i64 c), .v (.int .i64 k), .v (.int .i64 i)]] []) (aA (.v (.int .i64 (og l a b c k i))) []):=by
 refine Spec.ofN Tryz.func119 rfl Tryz.ntmps119 rfl ?_
 refine go 7 ?_
 refine aF fun K3 hK3=> ?_
 refine aG (cp rfl (am (aH ?_)))
 refine aS (α:=Nat) (fun j=> j≤l.length) 27 [(0,_),(3,_)] [((3,0),_)] (fun j=> [(5, .v (.int .i64 (og (l.take j) a b c k i))),(6, .v (.int .i64 (j:Int)))]) (fun j=> []) [] [] (fun j=> l.length - j) 0 ?_ (kj [0] [] []) ?_
 ·omega
 intro j hj
 refine aF fun K5 hK5=> ?_
 refine go 6 ?_
 refine ax rfl (fun hc10=> ?_) (fun hc10=> ?_)
 ·have hq:=Cm l j ab
  have hv:=yt l a b c k i (j:=j) ab
  refine aR (hK5 _ ?_)
  refine aE (aH (aE ?_))
  refine aB (σ':=an 27 [(0,_),(3,_),(5,_),(6,_)] [((3,0),_)] [] []) kp ?_
  refine dA 7 [] ?_
  refine go 4 ?_
  refine aC (_,[]) (fun τ=> aQ _ _ aa rfl rfl _ rfl ab (by (simp only [aq,aJ,aM,aq,cX];omega)) ag) ?_
  refine go 3 ?_
  refine aC (_,[]) (fun τ=> bs _ aa rfl (by exact hq) rfl) ?_
  refine go 3 ?_
  refine aC (_,[]) (fun τ=> HE _ _ rfl rfl rfl) ?_
  refine go 1 ?_
  refine ci ⟨rfl,?_⟩
  refine am (ax rfl (fun hc19=> ?_) (fun hc19=> ?_))
  ·rw [if_pos hc19] at hv
   refine aD (gT rfl (bV rfl (aj (aQ _ _ aa rfl rfl _ rfl ab (by (simp only [aq,aJ,aM,aq,cX];omega)) ag) ?_)))
   refine aj (eJ _ aa rfl rfl) (aj (bl _ aa rfl (by exact Cv _ _ ab) rfl) ?_)
   refine aj (qT _ _ rfl rfl rfl) (go 6 ?_)
   refine ay (⟨j+1,?_,?_,?_⟩)
   ·omega
   ·refine Le.mkJ [] [] rfl ?_ ?_ trivial trivial ?_
    ·exact ⟨(iS rfl),(iP rfl),(aN ab),(aN ag),trivial⟩
    ·exact ⟨(bN rfl rfl rfl),trivial⟩
    kernel_rfl
   omega
  rw [if_neg hc19] at hv
  refine go 5 ?_
  refine ay (⟨j+1,?_,?_,?_⟩)
  ·omega
  ·refine Le.mkJ [] [] rfl ?_ ?_ trivial trivial ?_
   ·exact ⟨(iS rfl),(iP rfl),(aN ab),(aN ag),trivial⟩
   ·exact ⟨(bN rfl rfl rfl),trivial⟩
   kernel_rfl
  omega
 obtain rfl:j=l.length:=by omega
 refine aW (id (hK3 _ ?_))
 exact aG (bV rfl (cp rfl (am (au (cq (.inr rfl) rfl (.tmp ry) (Le.out [] [] (aN (by rw [List.take_length])) rfl rfl rfl trivial trivial))))))
theorem gO (l:List An) (hl:l.length≤1000000) (a b c k i:Int) (q:Int) (hq:0 < q):
  Spec Tryz.prog 87 (aI [.sl l.length (nD l), .agg [.v (.int .i64 a), .v (.int .i64 b), .v (.int .i64 c), .v (.int .i64 k), .v (.int .i64 i)], .v (.int .i64 q)] []) (aA (.v (.int .i64 (og l a b c k i % q))) []):=by
 have hv:=nB l hl a b c k i
 have h0:=xv a b c k i l 0 (Int.le_refl 0)
 refine Spec.ofN Tryz.func87 rfl Tryz.ntmps87 rfl ?_
 refine go 7 ?_
 refine aj (ap aa al (hv) rfl rfl) ?_
 refine bV rfl (aj (de _ _ rfl rfl ab (Int.tmod_eq_emod_of_nonneg h0)) ?_)
 exact cp rfl (am (au (eb rfl rfl)))
def gM (a b c k:Int) (l:List Int):List An:=(List.range l.length).map fun (i:Nat)=> ⟨a,b,c,k,(i:Int),l.getD i 0⟩
def eD (a b c tick:Int) (draws keeps:List Int):List An:=[⟨a,b,c,2,0,tick⟩]++gM a b c 1 draws++gM a b c 3 keeps
theorem ic (a b c k:Int) (l:List Int):(gM a b c k l).length=l.length:=by simp [gM]
theorem jG (a b c tick:Int) (draws keeps:List Int):(eD a b c tick draws keeps).length=1+draws.length+keeps.length:=by simp [eD,ic];omega
theorem oG (a b c k:Int) (l:List Int) {j:Nat} (h:j < l.length):gM a b c k (l.take (j+1))=gM a b c k (l.take j)++[⟨a,b,c,k,(j:Int),l.getD j 0⟩]:=by
 have e1:(l.take (j+1)).length=j+1:=by rw [List.length_take];omega
 have e2:(l.take j).length=j:=by rw [List.length_take];omega
 unfold gM
 rw [e1,e2,List.range_succ,List.map_append]
 congr 1
 ·apply List.map_congr_left
  intro i hi
  have hi:=List.mem_range.1 hi
  have e:(l.take (j+1)).getD i 0=(l.take j).getD i 0:=by
   rw [List.getD_eq_getElem?_getD,List.getD_eq_getElem?_getD,List.getElem?_take_of_lt ab,List.getElem?_take_of_lt hi]
  rw [e]
 have e:(l.take (j+1)).getD j 0=l.getD j 0:=by
  rw [List.getD_eq_getElem?_getD,List.getD_eq_getElem?_getD,List.getElem?_take_of_lt ab]
 simp [e]
theorem kC {a b c k k' i:Int} (hk:k'≠k): ∀ (l:List Int) (n:Int),(gM a b c k' l).foldl (fun n x=> if (x.a=a∧x.b=b∧x.c=c)∧x.k=k∧x.i=i then max x.n 0 else n) n=n:=by
 intro l n
 have: ∀ (L:List An),(∀ x∈L,x.k≠k)→ ∀ n:Int,L.foldl (fun n x=> if (x.a=a∧x.b=b∧x.c=c)∧x.k=k∧x.i=i then max x.n 0 else n) n=n:=by
  intro L
  induction L with
  | nil=> intros;rfl
  | cons x L ih=> intro h n;rw [List.foldl_cons,if_neg (fun e=> h x List.mem_cons_self e.2.1)];exact ih (fun y hy=> h y (List.mem_cons_of_mem _ hy)) n
 refine this _ (fun x hx=> ?_) n
 obtain ⟨j,_,rfl⟩:=List.mem_map.1 hx
 exact hk
theorem ol {a b c k:Int} (l:List Int) (i:Nat): ∀ (m:Nat) (n:Int),m≤l.length→(gM a b c k (l.take m)).foldl (fun n x=> if (x.a=a∧x.b=b∧x.c=c)∧x.k=k∧x.i=(i:Int) then max x.n 0 else n) n=if i < m then max (l.getD i 0) 0 else n
 | 0,n,_=> by simp [gM]
 | m+1,n,h=> by
  rw [oG a b c k l ab,List.foldl_append,ol l i m n ab]
  simp only [List.foldl_cons,List.foldl_nil]
  by_cases e:i=m
  ·subst e;simp
  have e2: ¬ ((m:Int)=(i:Int)):=by omega
  rw [if_neg (fun h=> e2 h.2.2)]
  by_cases h2:i < m
  ·rw [if_pos h2,if_pos ab]
  rw [if_neg h2,if_neg ab]
theorem rB {a b c tick:Int} {draws keeps:List Int} (i:Nat) (hd: ∀ x∈draws,0≤x):og (eD a b c tick draws keeps) a b c 1 (i:Int)=draws.getD i 0:=by
 unfold og eD
 rw [List.foldl_append,List.foldl_append,kC ah]
 have h:=ol (a:=a) (b:=b) (c:=c) (k:=1) draws i draws.length (0:Int) (Nat.le_refl _)
 rw [List.take_length] at h
 simp only [List.foldl_cons,List.foldl_nil]
 rw [if_neg (fun h=> absurd h.2.1 ah),h]
 split
 ·rename_i hi
  have:0≤draws.getD i 0:=by rw [List.getD_eq_getElem?_getD,List.getElem?_eq_getElem hi];exact hd _ (List.getElem_mem hi)
  omega
 rename_i hi
 rw [List.getD_eq_getElem?_getD,List.getElem?_eq_none ab];rfl
theorem Aa {a b c tick:Int} {draws keeps:List Int} (i:Nat) (hd: ∀ x∈keeps,0≤x):og (eD a b c tick draws keeps) a b c 3 (i:Int)=keeps.getD i 0:=by
 unfold og eD
 rw [List.foldl_append,List.foldl_append]
 have h:=fun n:Int=> ol (a:=a) (b:=b) (c:=c) (k:=3) keeps i keeps.length n (Nat.le_refl _)
 rw [List.take_length] at h
 rw [h,kC ah]
 simp only [List.foldl_cons,List.foldl_nil]
 split
 ·rename_i hi
  have:0≤keeps.getD i 0:=by rw [List.getD_eq_getElem?_getD,List.getElem?_eq_getElem hi];exact hd _ (List.getElem_mem hi)
  omega
 rename_i hi
 rw [if_neg (fun h=> absurd h.2.1 ah),List.getD_eq_getElem?_getD,List.getElem?_eq_none ab];rfl
theorem zY {a b c tick:Int} {draws keeps:List Int} (ht:0≤tick):og (eD a b c tick draws keeps) a b c 2 0=tick:=by
 unfold og eD
 rw [List.foldl_append,List.foldl_append,kC ah,kC ah]
 simp only [List.foldl_cons,List.foldl_nil]
 simp only [and_self,if_true];omega
end Go.Proofs.YtmjnackchaahbaaGreat

set_option maxHeartbeats 2000000
namespace Go.Proofs.YtmjnackchaahbaaGreat
open Go.RowKit

theorem Hz (v k:Int) (hk:1≤k): -k < v.tmod k∧v.tmod k < k∧(v.tmod k+k).tmod k=v % k:=by
 have h1:v.tmod k < k:=Int.tmod_lt_of_pos v ab
 have h2: -k < v.tmod k:=by
  have:=Int.tmod_lt_of_pos (-v) (show 0 < k by omega)
  rw [Int.neg_tmod] at this;omega
 refine ⟨h2,h1,?_⟩
 rw [Int.tmod_eq_emod_of_nonneg ab,Int.add_emod_right,Int.tmod_def,Int.sub_mul_emod_self_left]
section
variable (M:Mk) (s:Ms) (dr se:Int)
theorem Jf (hs:s.stack.length≤90000) (h0:0 < s.stack.length) (hk:max 1 (min (s.top 0) 4)=1):
  Spec Tryz.prog 135 (aL [.ptr (0,9) 0] (mN M s (s.asked.length:Int) se)) (aO (.v (.int .i64 0)) (mn M { s with stack:=s.pop 1 } (s.asked.length:Int) se (2,9) (3,8) (5,8)) [(0,9),(1,9),(2,9),(3,8),(4,9),(5,8),(6,9)] [(0,9),(1,9),(2,9),(4,9),(6,9)]):=by
 have hc:=mL (s.top 0) 1 4
 rw [hk] at hc
 refine Spec.ofNI Tryz.func135 rfl Tryz.ntmps135 rfl ?_
 refine aG (cp rfl (am (aG (dW rfl (bA (Le.incT (6,0) rfl) ?_)))))
 refine aj (aV aa [((3,8),(6,0))] ar (bJ M s (s.asked.length:Int) se ab h0) ob tr tr rfl ae ae) ?_
 refine aj (ap aa al (hc) rfl rfl) ?_
 refine go 11 ?_
 exact au (cq (.inr rfl) rfl (.tmp kM) (Le.outI [((3,8),(6,0)),((5,8),(5,9))] [] .v rfl rfl rfl trivial ob tr rfl))
theorem In (hs:s.stack.length≤90000) (h0:0 < s.stack.length) (hq:s.asked.length≤90000) (hn:CU M) {k:Int} (hk:max 1 (min (s.top 0) 4)=k) (hk1:k≠1):
  Spec Tryz.prog 135 (aL [.ptr (0,9) 0] (mN M s (s.asked.length:Int) se)) (aO (.v (.int .i64 (el M.ans s.asked.length k))) (mn M { s with stack:=s.pop 1,asked:=s.asked++[k] } ((s.asked++[k]).length:Int) se (2,9) (3,8) (5,8)) [(0,9),(1,9),(2,9),(3,8),(4,9),(5,8),(6,9)] [(0,9),(1,9),(2,9),(4,9),(6,9)]):=by
 have hk2:1≤k∧k≤4:=by omega
 have hc:=mL (s.top 0) 1 4
 rw [hk] at hc
 have hask:=CP M.t (s.asked.length:Int) k (el M.ans s.asked.length k) (M.t.np+s.asked.length) (Ff M.t M.ans s.asked) (Hc hn.pl _ _) (by have:=hn.np;omega) ab (hn.lk s.asked.length k ab ab hk2.2)
 rw [uB,show M.t.np+s.asked.length+1=M.t.np+(s.asked++[k]).length by rw [List.length_append];rfl] at hask
 have htm:=Hz (el M.ans s.asked.length k) k hk2.1
 have htm2:((el M.ans s.asked.length k).tmod k+k).tmod k=el M.ans s.asked.length k:=by rw [htm.2.2];unfold el;rw [Int.emod_emod_of_dvd _ (Int.dvd_refl k)]
 refine Spec.ofNI Tryz.func135 rfl Tryz.ntmps135 rfl ?_
 refine aG (cp rfl (am (aG (dW rfl (bA (Le.incT (6,0) rfl) ?_)))))
 refine aj (aV aa [((3,8),(6,0))] ar (bJ M s (s.asked.length:Int) se ab h0) ob tr tr rfl ae ae) ?_
 refine aj (ap aa al (hc) rfl rfl) ?_
 refine cp rfl (am (aE (aG (bV rfl (Av rfl rfl (beq_eq_false_iff_ne.2 hk1) ?_)))))
 refine am (cP rfl rfl (cO (aF fun K5 hK5=> ?_)))
 refine aB (Le.incT (19,0) rfl) ?_
 refine dA 13 [(4,9),(19,0),(6,9),(5,9)] ?_
 refine go 18 ?_
 refine aC (_,[((4,9),_),((19,0),_),((6,9),_),((5,9), .gone)]) (fun τ=> (kh rfl aa [((5,8),(19,0))] ar (hask) ob tr tr rfl ae ae)) ?_
 refine go 3 ?_
 refine aC (_,[]) (fun τ=> de _ _ rfl rfl ab rfl) ?_
 refine go 4 ?_
 refine ay (hK5 _ ?_)
 refine aE ?_
 refine aB (σ':=an 34 [(0,_),(3,_),(4,_)] [((0,9),_),((1,9),_),((2,9),_),((4,9),_),((6,9),_),((6,0),_),((19,0),_)] [(0,9),(1,9),(2,9),(4,9),(6,9),(6,0),(19,0)] [(0,9),(1,9),(2,9),(4,9),(6,9)]) kp ?_
 refine go 5 ?_
 refine aj (eI (r:=((s.asked++[k]).length:Int)) _ _ rfl rfl ((bQ ab).trans (by simp))) ?_
 refine go 7 ?_
 refine aj (eI (r:=(el M.ans s.asked.length k).tmod k+k) _ _ rfl rfl (bQ ab)) ?_
 refine bV rfl (aj (de (r:=el M.ans s.asked.length k) _ _ rfl rfl ab htm2) ?_)
 exact cp rfl (am (au (cq (.inr rfl) rfl (.tmp kM) (Le.outI [((3,8),(6,0)),((5,8),(19,0))] [] .v rfl rfl rfl trivial ob tr rfl))))
theorem sx (n:Int) (hs:s.stack.length≤90000) (h2:2≤s.stack.length) {g:FuncId} [bU Tryz.prog g] {r:Int} (hg:Spec Tryz.prog g (aI ([.v (.int .i64 (s.top 1)), .v (.int .i64 (s.top 0))]++[]) []) (aA (.v (.int .i64 r)) [])):
  Spec Tryz.prog 189 (aL [.ptr (0,9) 0, .v (.int .i64 n), .fp 0 [.fn (.func g) [] []]] (mN M s dr se)) (aO (.tup []) (mn M { s with stack:=s.pop 2++[kR r] } dr se (2,8) (3,8) (5,8)) [(0,9),(1,9),(2,8),(3,8),(4,9),(5,8),(6,9)] [(0,9),(1,9),(4,9),(6,9)]):=by
 have h2x:=bJ M { s with stack:=s.pop 1 } dr se (by have:=bD s 1;simp only;omega) (by have:=bD s 1;simp only;omega)
 rw [fi s 0 1 ab,fg,Nat.zero_add] at h2x
 refine Spec.ofNI Tryz.func189 rfl Tryz.ntmps189 rfl ?_
 refine aG (dW rfl (bA (Le.incT (7,0) rfl) ?_))
 refine aj (aV aa [((3,8),(7,0))] ar (bJ M s dr se ab ab) ob tr tr rfl ae ae) ?_
 refine cp rfl (am ?_)
 refine aB (Le.incT (11,0) rfl) ?_
 refine dA 6 [(0,9),(1,9),(2,9),(11,0),(4,9),(5,9),(6,9),(7,0)] ?_
 refine go 2 ?_
 refine aC (_,[]) (fun τ=> bl _ aa rfl ag rfl) ?_
 refine go 3 ?_
 refine aC (_,[((0,9),_),((1,9),_),((2,9),_),((11,0),_),((4,9),_),((5,9),_),((6,9),_),((7,0), .gone)]) (fun τ=> (aV aa [((3,9),(7,0)),((3,8),(11,0))] ar (h2x) ob tr tr rfl ae ae)) ?_
 refine go 3 ?_
 refine aC (_,[]) (fun τ=> (lL rfl aa al (hg) rfl rfl)) ?_
 refine go 1 ?_
 refine ci ⟨rfl,?_⟩
 refine bA (Le.incT (14,0) rfl) ?_
 refine aj (aV aa [((3,9),(11,0)),((3,8),(14,0))] ar (eh M { s with stack:=s.pop 2 } dr se r (by have:=bD s 2;simp only;omega)) ob tr tr rfl ae ae) ?_
 exact ay (mR [((2,8),(2,9)),((3,8),(14,0)),((5,8),(5,9))])
theorem wM (n:Int) (hs:s.stack.length≤90000) (h2:2≤s.stack.length) {g:FuncId} [bU Tryz.prog g] {f:FuncId} {r:Int} (hg:Spec Tryz.prog g (aI ([.v (.int .i64 (s.top 1)), .v (.int .i64 (s.top 0))]++[.fp 0 [.fn (.func f) [] []]]) []) (aA (.v (.int .i64 r)) [])):
  Spec Tryz.prog 189 (aL [.ptr (0,9) 0, .v (.int .i64 n), .fp 0 [.fn (.func g) [] [.ptr 0 [.fn (.func f) [] []]]]] (mN M s dr se)) (aO (.tup []) (mn M { s with stack:=s.pop 2++[kR r] } dr se (2,8) (3,8) (5,8)) [(0,9),(1,9),(2,8),(3,8),(4,9),(5,8),(6,9)] [(0,9),(1,9),(4,9),(6,9)]):=by
 have h2x:=bJ M { s with stack:=s.pop 1 } dr se (by have:=bD s 1;simp only;omega) (by have:=bD s 1;simp only;omega)
 rw [fi s 0 1 ab,fg,Nat.zero_add] at h2x
 refine Spec.ofNI Tryz.func189 rfl Tryz.ntmps189 rfl ?_
 refine aG (dW rfl (bA (Le.incT (7,0) rfl) ?_))
 refine aj (aV aa [((3,8),(7,0))] ar (bJ M s dr se ab ab) ob tr tr rfl ae ae) ?_
 refine cp rfl (am ?_)
 refine aB (Le.incT (11,0) rfl) ?_
 refine dA 6 [(0,9),(1,9),(2,9),(11,0),(4,9),(5,9),(6,9),(7,0)] ?_
 refine go 2 ?_
 refine aC (_,[]) (fun τ=> bl _ aa rfl ag rfl) ?_
 refine go 3 ?_
 refine aC (_,[((0,9),_),((1,9),_),((2,9),_),((11,0),_),((4,9),_),((5,9),_),((6,9),_),((7,0), .gone)]) (fun τ=> (aV aa [((3,9),(7,0)),((3,8),(11,0))] ar (h2x) ob tr tr rfl ae ae)) ?_
 refine go 3 ?_
 refine aC (_,[]) (fun τ=> (lL rfl aa al (hg) rfl rfl)) ?_
 refine go 1 ?_
 refine ci ⟨rfl,?_⟩
 refine bA (Le.incT (14,0) rfl) ?_
 refine aj (aV aa [((3,9),(11,0)),((3,8),(14,0))] ar (eh M { s with stack:=s.pop 2 } dr se r (by have:=bD s 2;simp only;omega)) ob tr tr rfl ae ae) ?_
 exact ay (mR [((2,8),(2,9)),((3,8),(14,0)),((5,8),(5,9))])
end
end Go.Proofs.YtmjnackchaahbaaGreat
