/- part 12 -/
import Derived.Test.YtmjnackchaahbaaGreatNpZ11
set_option linter.unusedSimpArgs false
set_option linter.unusedVariables false
set_option maxHeartbeats 2000000
namespace Go.Proofs.YtmjnackchaahbaaGreat
open Go.RowKit

theorem EU (m:Nat) (l:List Int) (hm:l.length=m) (h1:m≤4611686018427387904) (k:Nat) (hk:k≤1000):
  Spec Tryz.prog 21 (aI [.sl m (be l), .v (.int .i64 (k:Int))] []) (aC (.ref (0,8) 0 (min m k)) [((0,8), .row 3 1 (be (l.take (min m k))))]):=by
 have e1:min (m:Int) (k:Int)=((min m k:Nat):Int):=by omega
 refine Spec.ofN Tryz.func21 rfl Tryz.ntmps21 rfl ?_
 refine aG (aj (aX _ eh) (am (aG (aj (aX _ eh) (am (aG (aj (cd _ eh) (go 4 ?_))))))))
 refine aj (qt _ _ rfl rfl e1) ?_
 refine aj (fW _ _ _ aa rfl 0 _ .dflt (.lit rfl rfl) ab ab (by exact Gf _ _) (Nat.sub_zero _)) ?_
 refine aj (tE (13,0) _ _ aa rfl (.sl (by rw [aq,List.length_take];omega)) ab rfl) ?_
 exact eu rfl (am (au (cg (.inr rfl) rfl (.tmp mW) (Le.out [((0,8),(13,0))] [] (cf rfl ag) rfl rfl rfl trivial ob))))
theorem zC (l:List Int) (h1:l.length≤4611686018427387904) (k:Nat) (hk:k≤1000):
  Spec Tryz.prog 21 (aI [.sl l.length (be l), .v (.int .i64 (k:Int))] []) (aC (.sl (l.take k).length (be (l.take k))) []):=by
 have e:l.take (min l.length k)=l.take k:=by
  rcases Nat.le_total l.length k with h | h
  ·rw [Nat.min_eq_left h,List.take_of_length_le (Nat.le_refl _),List.take_of_length_le h]
  rw [Nat.min_eq_right h]
 have:=(EU l.length l rfl h1 k hk).frz (by simp)
 rw [e] at this
 rw [List.length_take,Nat.min_comm];exact this
end Go.Proofs.YtmjnackchaahbaaGreat

set_option maxHeartbeats 2000000
namespace Go.Proofs.YtmjnackchaahbaaGreat
open Go.RowKit

structure Pg where
 c:List eD
 e:Nat→Int
 d:Nat
 v:Nat
abbrev TI (p:Pg):List AV:=CS p.c.length (inl p.c) p.e (p.d:Int) (p.v:Int)
abbrev eU (p:Pg):AV:= .agg (TI p)
end Go.Proofs.YtmjnackchaahbaaGreat

set_option maxHeartbeats 2000000
namespace Go.Proofs.YtmjnackchaahbaaGreat

structure Dk where
 cells:List Int
 pend:List (Int×Int):=[]
def mD (c:List Int) (l:List (Int×Int)):List Int:=l.foldl (fun c w=> c.set w.1.toNat w.2) c
@[simp] theorem dF (l:List (Int×Int)): ∀ (c:List Int),(mD c l).length=c.length:=by
 induction l with
 | nil=> intro c;rfl
 | cons w l ih=> intro c;show (mD (c.set _ _) l).length=_;rw [ih,List.length_set]
theorem nP (c:List Int) (l m:List (Int×Int)):mD c (l++m)=mD (mD c l) m:=by simp [mD,List.foldl_append]
def Dk.view (d:Dk):List Int:=mD d.cells d.pend
def Dk.write (d:Dk) (c v:Int):Dk:=
 if c < 0∨(d.cells.length:Int)≤c then d
 else if 4 < d.pend.length+1 then ⟨mD d.cells ((d.pend++[(c,v)]).take 1),(d.pend++[(c,v)]).drop 1⟩
 else ⟨d.cells,d.pend++[(c,v)]⟩
def Dk.sync (d:Dk):Dk:=⟨d.view,[]⟩
def kept:List (Int×Int)→List Bool→List (Int×Int)
 | w::l,true::k=> w::kept l k
 | _::l,false::k=> kept l k
 | _,_=> []
def Dk.crash (d:Dk) (k:List Bool):Dk:=⟨mD d.cells (kept d.pend k),[]⟩
def Dk.resize (d:Dk) (n:Nat):Dk:=⟨(d.view++List.replicate n 0).take n,[]⟩
structure DkOk (n:Nat) (d:Dk):Prop where
 len:d.cells.length=n
 rg: ∀ v∈d.cells,Rg v
 pn:d.pend.length≤4
 pr: ∀ w∈d.pend,0≤w.1∧w.1 < n∧Rg w.2
theorem tU: ∀ (l:List (Int×Int)) {c:List Int},(∀ v∈c,Rg v)→(∀ w∈l,Rg w.2)→ ∀ v∈mD c l,Rg v
 | [],_,h,_=> h
 | w::l,c,h,hw=> tU l (c:=c.set w.1.toNat w.2) (qq h (hw w (by simp))) fun x hx=> hw x (by simp [hx])
theorem DkOk.view {n:Nat} {d:Dk} (h:DkOk n d):d.view.length=n∧ ∀ v∈d.view,Rg v:=⟨by unfold Dk.view;rw [dF,h.len],tU _ h.rg fun w hw=> (h.pr w hw).2.2⟩
theorem DkOk.write {n:Nat} {d:Dk} (h:DkOk n d) {c v:Int} (hv:Rg v):DkOk n (d.write c v):=by
 unfold Dk.write
 split
 ·exact h
 rename_i hc
 have hl:=h.len
 have hp: ∀ w∈d.pend++[(c,v)],0≤w.1∧w.1 < n∧Rg w.2:=fun w hw=> by
  rcases List.mem_append.1 hw with hw | hw
  ·exact h.pr w hw
  simp at hw;subst hw;exact ⟨by simp only;omega,by simp only;omega,hv⟩
 split
 ·have:=h.pn
  refine ⟨by simp only;rw [dF];exact hl,tU _ h.rg fun w hw=> (hp w (List.mem_of_mem_take hw)).2.2,by simp;omega,fun w hw=> hp w (List.mem_of_mem_drop hw)⟩
 exact ⟨hl,h.rg,by simp;omega,hp⟩
theorem DkOk.sync {n:Nat} {d:Dk} (h:DkOk n d):DkOk n d.sync:=⟨h.view.1,h.view.2,by simp [Dk.sync],fun w hw=> by simp [Dk.sync] at hw⟩
theorem nI: ∀ {l:List (Int×Int)} {k:List Bool} {w:Int×Int},w∈kept l k→w∈l
 | [],[],_,h=> by simp [kept] at h
 | [],_::_,_,h=> by simp [kept] at h
 | _::_,[],_,h=> by simp [kept] at h
 | x::l,true::k,w,h=> by
  simp only [kept,List.mem_cons] at h ⊢
  exact h.imp id fun h=> nI h
 | x::l,false::k,w,h=> by
  simp only [kept] at h
  exact List.mem_cons_of_mem _ (nI h)
theorem DkOk.crash {n:Nat} {d:Dk} (h:DkOk n d) (k:List Bool):DkOk n (d.crash k):=
 ⟨by unfold Dk.crash;simp only;rw [dF];exact h.len,tU _ h.rg fun w hw=> (h.pr w (nI hw)).2.2,by simp [Dk.crash],fun w hw=> by simp [Dk.crash] at hw⟩
theorem DkOk.resize {m:Nat} {d:Dk} (h:DkOk m d) (n:Nat):DkOk n (d.resize n):=by
 obtain ⟨h1,h2⟩:=h.view
 refine ⟨by simp [Dk.resize],fun v hv=> ?_,by simp [Dk.resize],fun w hw=> by simp [Dk.resize] at hw⟩
 rcases List.mem_append.1 (List.mem_of_mem_take hv) with hv | hv
 ·exact h2 v hv
 rw [List.mem_replicate] at hv;rw [hv.2];exact oT
theorem wO {n:Nat} {d:Dk} (h:DkOk n d) {c v:Int} (h0:0≤c) (h1:c < n):(d.write c v).view=d.view.set c.toNat v:=by
 unfold Dk.write
 have hl:=h.len
 rw [if_neg ab]
 split
 ·unfold Dk.view
  simp only
  rw [← nP,List.take_append_drop,nP];rfl
 unfold Dk.view
 simp only
 rw [nP];rfl

structure Ns where
 up:Bool:=false
 ver:Int:= -1
 epoch:Int:=0
 clock:Int:=0
 dk:Dk:=⟨[],[]⟩
 vol:List Int:=[]
 timers:List Int:=[]
 counts:List Int:=List.replicate 41 0
 wait:Int:= -1
structure Nr where
 sent:List Ac:=[]
 repl:Bool:=false
 value:Int:=0
 fails:List Int:=[]
def sF (l:List Int) (k:Int) (set:Bool):List Int:=((List.range 8).map fun (i:Nat)=> (i:Int)).filter fun i=> if i=k then set else decide (i∈l)
def dj (q:Ns×Nr) (a:Ac):Ns×Nr:=
 if a.k=1 then ({ q.1 with dk:=q.1.dk.write a.a a.b },q.2)
 else if a.k=2 then ({ q.1 with dk:=q.1.dk.sync },q.2)
 else if a.k=4 then ({ q.1 with timers:=sF q.1.timers a.a true },q.2)
 else if a.k=5 then ({ q.1 with timers:=sF q.1.timers a.a false },q.2)
 else if a.k=3 then (q.1,{ q.2 with sent:=q.2.sent++[a] })
 else if a.k=6 then (if 0≤q.1.wait∧a.a=q.1.wait then ({ q.1 with wait:= -1 },{ q.2 with repl:=true,value:=a.b }) else q)
 else if a.k=7 then (q.1,{ q.2 with fails:=q.2.fails++[a.a] })
 else q
def fG (p:Pg) (h:Nat) (names vars ans:List Int):Ms:=if p.e h < 0 then { vars:=vars,pc:=0 } else ju ⟨p.c,p.d,names,ans⟩ 500 (cR vars (p.e h).toNat)
def aQ (clock drift tick:Int):Int:=clock+1+(if 0 < drift then tick % (drift+1) else 0)
def cG (names:List Int) (self nodes clock:Int):List Int:=((names.set 0 self).set 1 nodes).set 2 clock
def fH (s:Ns) (p:Pg) (h:Nat) (self nodes drift tick:Int) (names ans:List Int):Ms:=fG p h (cG names self nodes (aQ s.clock drift tick)) (s.dk.view++s.vol) ans
def cw (s:Ns) (p:Pg) (h:Nat) (self nodes drift tick:Int) (names ans:List Int):Ns×Nr:=
 (fH s p h self nodes drift tick names ans).acts.foldl dj ({ s with clock:=aQ s.clock drift tick,counts:=s.counts.set h (s.counts.getD h 0+1),vol:=(fH s p h self nodes drift tick names ans).vars.drop p.d },{})
def bM (s:Ns) (p:Pg) (v:Int):Ns:={ s with ver:=v,dk:=if s.dk.cells.length=p.d then s.dk else s.dk.resize p.d,vol:=List.replicate p.v 0,timers:=[],wait:= -1,up:=true }
def ku (s:Ns) (p:Pg) (v self nodes drift tick:Int) (ans:List Int):Ns×Nr:=cw (bM s p v) p 0 self nodes drift tick (List.replicate 9 0) ans
def gY (s:Ns) (k:List Bool):Ns:={ s with dk:=s.dk.crash k,counts:=s.counts.set 40 (s.counts.getD 40 0+1),epoch:=s.epoch+1,vol:=List.replicate s.vol.length 0,timers:=[],wait:= -1,up:=false }
theorem so (q:Ns×Nr) (a:Ac):(dj q a).1.up=q.1.up∧(dj q a).1.ver=q.1.ver∧(dj q a).1.epoch=q.1.epoch∧(dj q a).1.clock=q.1.clock∧(dj q a).1.vol=q.1.vol∧(dj q a).1.counts=q.1.counts:=by
 unfold dj
 split
 ·exact ⟨rfl,rfl,rfl,rfl,rfl,rfl⟩
 split
 ·exact ⟨rfl,rfl,rfl,rfl,rfl,rfl⟩
 split
 ·exact ⟨rfl,rfl,rfl,rfl,rfl,rfl⟩
 split
 ·exact ⟨rfl,rfl,rfl,rfl,rfl,rfl⟩
 split
 ·exact ⟨rfl,rfl,rfl,rfl,rfl,rfl⟩
 split
 ·split <;> exact ⟨rfl,rfl,rfl,rfl,rfl,rfl⟩
 split <;> exact ⟨rfl,rfl,rfl,rfl,rfl,rfl⟩
theorem oS: ∀ (l:List Ac) (q:Ns×Nr),(l.foldl dj q).1.up=q.1.up∧(l.foldl dj q).1.ver=q.1.ver∧(l.foldl dj q).1.epoch=q.1.epoch∧(l.foldl dj q).1.clock=q.1.clock∧(l.foldl dj q).1.vol=q.1.vol∧(l.foldl dj q).1.counts=q.1.counts
 | [],q=> ⟨rfl,rfl,rfl,rfl,rfl,rfl⟩
 | a::l,q=> by
  obtain ⟨a1,a2,a3,a4,a5,a6⟩:=so q a
  obtain ⟨b1,b2,b3,b4,b5,b6⟩:=oS l (dj q a)
  exact ⟨b1.trans a1,b2.trans a2,b3.trans a3,b4.trans a4,b5.trans a5,b6.trans a6⟩
theorem tb {n:Nat} {q:Ns×Nr} {a:Ac} (h:DkOk n q.1.dk) (ha:Rg a.b):DkOk n (dj q a).1.dk:=by
 unfold dj
 split
 ·exact h.write ha
 split
 ·exact h.sync
 split
 ·exact h
 split
 ·exact h
 split
 ·exact h
 split
 ·split <;> exact h
 split <;> exact h
theorem xU {n:Nat}: ∀ (l:List Ac) {q:Ns×Nr},DkOk n q.1.dk→(∀ a∈l,Rg a.b)→DkOk n (l.foldl dj q).1.dk
 | [],_,h,_=> h
 | a::l,q,h,ha=> xU l (q:=dj q a) (tb h (ha a (by simp))) fun b hb=> ha b (by simp [hb])
end Go.Proofs.YtmjnackchaahbaaGreat

set_option maxHeartbeats 2000000
namespace Go.Proofs.YtmjnackchaahbaaGreat

structure lU (p:Pg):Prop where
 ex: ∃ D,Good D (p.d+p.v) 0 (p.c.length - 1) 0 p.c∧ ∀ h,p.e h < 0∨(0≤p.e h∧p.e h < p.c.length∧D (p.e h).toNat=0)
 nv:p.d+p.v≤16
theorem qx {p:Pg} (hp:lU p) {h:Nat} {names vars ans:List Int} (hn: ∀ i,Rg (names.getD i 0)) (hv:vars.length=p.d+p.v) (hr: ∀ v∈vars,Rg v):
  IV ⟨p.c,p.d,names,ans⟩ (p.d+p.v) (fG p h names vars ans)∧(fG p h names vars ans).vars.take p.d=wp (vars.take p.d) (fG p h names vars ans).acts∧(fG p h names vars ans).steps≤500:=by
 obtain ⟨D,hg,he⟩:=hp.ex
 unfold fG
 split
 ·exact ⟨⟨hv,hr,fun v hv=> by simp at hv,fun a ha=> by simp at ha,by simp [bQ],fun k hk=> by simp at hk⟩,rfl,by simp⟩
 rename_i hne
 rcases he h with he | ⟨e1,e2,e3⟩
 ·exact absurd he hne
 have hK:PG ⟨p.c,p.d,names,ans⟩ D (p.d+p.v):=⟨hg,hp.nv,hn⟩
 have hs:=qC (K:=⟨p.c,p.d,names,ans⟩) (D:=D) hv hr (e:=(p.e h).toNat) (by show _ < p.c.length;omega) e3
 refine ⟨(Jj hK hs 500).iv,FR hK hs 500,?_⟩
 have:=(kr (K:=⟨p.c,p.d,names,ans⟩) 500 (cR vars (p.e h).toNat)).1
 simpa [cR] using this
theorem sk {n:Nat}: ∀ (l:List Ac) (q:Ns×Nr),DkOk n q.1.dk→(∀ a∈l,Rg a.b∧(a.k=1→0≤a.a∧a.a < n))→(l.foldl dj q).1.dk.view=wp q.1.dk.view l
 | [],q,_,_=> rfl
 | a::l,q,h,ha=> by
  obtain ⟨h1,h2⟩:=ha a (by simp)
  simp only [List.foldl_cons]
  rw [sk l (dj q a) (tb h h1) fun b hb=> ha b (by simp [hb])]
  show wp _ l=wp (if a.k=1 then q.1.dk.view.set a.a.toNat a.b else q.1.dk.view) l
  congr 1
  unfold dj
  by_cases hk:a.k=1
  ·rw [if_pos hk,if_pos hk]
   exact wO h (h2 hk).1 (h2 hk).2
  rw [if_neg hk,if_neg hk]
  split
  ·rfl
  split
  ·rfl
  split
  ·rfl
  split
  ·rfl
  split
  ·split <;> rfl
  split <;> rfl
def FO (l:List Int):Prop:=l.Pairwise (· < ·)∧ ∀ x∈l,0≤x∧x < 8
theorem BC (l:List Int) (k:Int) (b:Bool):FO (sF l k b):=by
 unfold sF
 refine ⟨List.Pairwise.filter _ (by rw [List.pairwise_map];exact List.pairwise_lt_range.imp fun h=> by omega),fun x hx=> ?_⟩
 obtain ⟨hm,_⟩:=List.mem_filter.1 hx
 obtain ⟨i,hi,rfl⟩:=List.mem_map.1 hm
 have:=List.mem_range.1 hi
 omega
theorem yR: ∀ (l:List Ac) (q:Ns×Nr),FO q.1.timers→FO (l.foldl dj q).1.timers
 | [],q,h=> h
 | a::l,q,h=> by
  simp only [List.foldl_cons]
  refine yR l _ ?_
  unfold dj
  split
  ·exact h
  split
  ·exact h
  split
  ·exact BC _ _ _
  split
  ·exact BC _ _ _
  split
  ·exact h
  split
  ·split <;> exact h
  split <;> exact h
structure rN (p:Pg) (s:Ns):Prop where
 dk:DkOk p.d s.dk
 vl:s.vol.length=p.v
 vr: ∀ v∈s.vol,Rg v
 tm:FO s.timers
 ct:s.counts.length=41
theorem oX {names:List Int} {self nodes clock:Int} (h: ∀ i,Rg (names.getD i 0)) (h1:Rg self) (h2:Rg nodes) (h3:Rg clock) (i:Nat):Rg ((cG names self nodes clock).getD i 0):=by
 refine nc (fun v hv=> ?_) i
 have hn: ∀ v∈names,Rg v:=fun v hv=> by
  obtain ⟨j,hj,rfl⟩:=List.getElem_of_mem hv
  have:=h j
  rwa [List.getD_eq_getElem?_getD,List.getElem?_eq_getElem hj] at this
 exact qq (qq (qq hn h1) h2) h3 v hv
theorem kD {p:Pg} (hp:lU p) {s:Ns} (hs:rN p s) {h:Nat} {self nodes drift tick:Int} {names ans:List Int} (hn: ∀ i,Rg (names.getD i 0)) (h1:Rg self) (h2:Rg nodes) (h3:Rg (aQ s.clock drift tick)):
  rN p (cw s p h self nodes drift tick names ans).1∧IV ⟨p.c,p.d,cG names self nodes (aQ s.clock drift tick),ans⟩ (p.d+p.v) (fH s p h self nodes drift tick names ans)∧
   (cw s p h self nodes drift tick names ans).1.dk.view++(cw s p h self nodes drift tick names ans).1.vol=(fH s p h self nodes drift tick names ans).vars∧
   (cw s p h self nodes drift tick names ans).1.dk.view=wp s.dk.view (fH s p h self nodes drift tick names ans).acts:=by
 obtain ⟨v1,v2⟩:=hs.dk.view
 have hvl:=hs.vl
 obtain ⟨iv,hw,_⟩:=qx hp (h:=h) (names:=cG names self nodes (aQ s.clock drift tick)) (vars:=s.dk.view++s.vol) (ans:=ans) (oX hn h1 h2 h3) (by rw [List.length_append,v1,hvl]) (fun v hv=> (List.mem_append.1 hv).elim (v2 v) (hs.vr v))
 have hac: ∀ a∈(fH s p h self nodes drift tick names ans).acts,Rg a.b∧(a.k=1→0≤a.a∧a.a < p.d):=fun a ha=> by
  obtain ⟨⟨_,q1,_,_⟩,_,q2⟩:=iv.ac a ha
  exact ⟨q1,fun e=> ⟨(q2 e).1,(q2 e).2.1⟩⟩
 have hview:=sk (fH s p h self nodes drift tick names ans).acts ({ s with clock:=aQ s.clock drift tick,counts:=s.counts.set h (s.counts.getD h 0+1),vol:=(fH s p h self nodes drift tick names ans).vars.drop p.d },{}) hs.dk hac
 have hdk:=xU (n:=p.d) (fH s p h self nodes drift tick names ans).acts (q:=({ s with clock:=aQ s.clock drift tick,counts:=s.counts.set h (s.counts.getD h 0+1),vol:=(fH s p h self nodes drift tick names ans).vars.drop p.d },{})) hs.dk fun a ha=> (hac a ha).1
 have htm:=yR (fH s p h self nodes drift tick names ans).acts ({ s with clock:=aQ s.clock drift tick,counts:=s.counts.set h (s.counts.getD h 0+1),vol:=(fH s p h self nodes drift tick names ans).vars.drop p.d },{}) hs.tm
 obtain ⟨_,_,_,_,k5,k6⟩:=oS (fH s p h self nodes drift tick names ans).acts ({ s with clock:=aQ s.clock drift tick,counts:=s.counts.set h (s.counts.getD h 0+1),vol:=(fH s p h self nodes drift tick names ans).vars.drop p.d },{})
 have hvlen:(fH s p h self nodes drift tick names ans).vars.length=p.d+p.v:=iv.vl
 have hvr: ∀ v∈(fH s p h self nodes drift tick names ans).vars,Rg v:=iv.rv
 refine ⟨⟨hdk,?_,?_,htm,?_⟩,iv,?_,hview⟩
 ·show ((fH s p h self nodes drift tick names ans).acts.foldl dj _).1.vol.length=_
  rw [k5];simp only [List.length_drop];omega
 ·show ∀ v∈((fH s p h self nodes drift tick names ans).acts.foldl dj _).1.vol,_
  rw [k5];exact fun v hv=> hvr v (List.mem_of_mem_drop hv)
 ·show ((fH s p h self nodes drift tick names ans).acts.foldl dj _).1.counts.length=_
  rw [k6];simp only [List.length_set];exact hs.ct
 show ((fH s p h self nodes drift tick names ans).acts.foldl dj _).1.dk.view++((fH s p h self nodes drift tick names ans).acts.foldl dj _).1.vol=_
 rw [hview,k5]
 simp only
 have hw':(fH s p h self nodes drift tick names ans).vars.take p.d=wp s.dk.view (fH s p h self nodes drift tick names ans).acts:=by
  have e:(s.dk.view++s.vol).take p.d=s.dk.view:=by rw [← v1,List.take_left'];rfl
  rw [e] at hw
  exact hw
 rw [← hw']
 exact List.take_append_drop _ _
end Go.Proofs.YtmjnackchaahbaaGreat

set_option maxHeartbeats 2000000
namespace Go.Proofs.YtmjnackchaahbaaGreat

structure Na where
 crash:Bool
 h:Nat
 names:List Int
 wait:Int
 tick:Int
 draws:List Int
 keeps:List Int
structure Qa where
 kind:Int
 idx:Int
 ar:Int
 n:Int
def eE (drift tick:Int) (asked ans:List Int):List Qa:=(if 0 < drift then [⟨2,0,drift+1,tick % (drift+1)⟩] else [])++(List.range asked.length).map fun (i:Nat)=> ⟨1,(i:Int),asked.getD i 0,ee ans i (asked.getD i 0)⟩
def fY (k:Nat) (keeps:List Int):List Qa:=(List.range k).map fun (i:Nat)=> ⟨3,(i:Int),2,keeps.getD i 0⟩
def keepB (k:Nat) (keeps:List Int):List Bool:=(List.range k).map fun i=> decide (keeps.getD i 0=1)
def bf (p q:Pg) (s:Ns):Pg:=if s.up=true then (if s.ver=1 then q else p) else (if s.epoch % 2=1 then q else p)
def fb (s:Ns):Int:=if s.epoch % 2=1 then 1 else 0
def cj (p q:Pg) (drift:Int) (a:Na) (s:Ns):Ns×Nr:=
 if s.up=false then ku s (bf p q s) (fb s) 1 3 drift a.tick a.draws
 else if a.crash=true then (gY s (keepB s.dk.pend.length a.keeps),{})
 else cw { s with wait:=a.wait } (bf p q s) a.h 1 3 drift a.tick a.names a.draws
def dR (p q:Pg) (drift:Int) (a:Na) (s:Ns):List Qa:=
 if s.up=false then eE drift a.tick (fH (bM s (bf p q s) (fb s)) (bf p q s) 0 1 3 drift a.tick (List.replicate 9 0) a.draws).asked a.draws
 else if a.crash=true then fY s.dk.pend.length a.keeps
 else eE drift a.tick (fH { s with wait:=a.wait } (bf p q s) a.h 1 3 drift a.tick a.names a.draws).asked a.draws
structure EB (a:Na):Prop where
 h:a.h < 40
 nm: ∀ i,Rg (a.names.getD i 0)
 wt: -1≤a.wait∧a.wait≤2
 tk:0≤a.tick∧a.tick≤3
structure Sq (p q:Pg) (i:Nat) (s:Ns):Prop where
 up:s.up=true→rN (if s.ver=1 then q else p) s∧(s.ver=0∨s.ver=1)
 dn:s.up=false→(∃ n,DkOk n s.dk)∧s.wait= -1∧s.timers=[]
 ck:0≤s.clock∧s.clock≤4*i
 cl:s.counts.length=41
 ct: ∀ k,0≤s.counts.getD k 0∧s.counts.getD k 0≤i
 ep:0≤s.epoch∧s.epoch≤i
theorem ki {clock drift tick:Int} (hd:0≤drift∧drift≤3):clock+1≤aQ clock drift tick∧aQ clock drift tick≤clock+1+drift:=by
 unfold aQ
 split
 ·have h1:=Int.emod_nonneg tick (show drift+1≠0 by omega)
  have h2:=Int.emod_lt_of_pos tick (show 0 < drift+1 by omega)
  omega
 omega
theorem xh {l:List Int} {i:Nat} (hl:l.length=41) (h: ∀ k,0≤l.getD k 0∧l.getD k 0≤i) (j:Nat): ∀ k,0≤(l.set j (l.getD j 0+1)).getD k 0∧(l.set j (l.getD j 0+1)).getD k 0≤((i+1:Nat):Int):=by
 intro k
 have h1:=h k
 have h2:=h j
 rw [List.getD_eq_getElem?_getD,List.getElem?_set]
 split
 ·split
  ·simp only [Option.getD_some];omega
  simp only [Option.getD_none];omega
 rw [← List.getD_eq_getElem?_getD];omega
theorem Jk (p q:Pg):Sq p q 0 {}:=
 ⟨fun h=> by simp at h,fun _=> ⟨⟨0,rfl,fun v hv=> by simp at hv,by simp,fun w hw=> by simp at hw⟩,rfl,rfl⟩,by simp,by simp,fun k=> by
  rw [List.getD_eq_getElem?_getD,List.getElem?_replicate]
  split <;> simp,by simp⟩
theorem fD (s:Ns) (p:Pg) (h:Nat) (self nodes drift tick:Int) (names ans:List Int):(cw s p h self nodes drift tick names ans).1.up=s.up∧(cw s p h self nodes drift tick names ans).1.ver=s.ver∧(cw s p h self nodes drift tick names ans).1.epoch=s.epoch∧(cw s p h self nodes drift tick names ans).1.clock=aQ s.clock drift tick∧(cw s p h self nodes drift tick names ans).1.counts=s.counts.set h (s.counts.getD h 0+1):=by
 obtain ⟨a1,a2,a3,a4,_,a6⟩:=oS (fH s p h self nodes drift tick names ans).acts ({ s with clock:=aQ s.clock drift tick,counts:=s.counts.set h (s.counts.getD h 0+1),vol:=(fH s p h self nodes drift tick names ans).vars.drop p.d },{})
 exact ⟨a1,a2,a3,a4,a6⟩
theorem cB {n:Int} (h: -1000≤n∧n≤1000):Rg n:=by unfold Rg;omega
theorem sy {p:Pg} {s:Ns} {n:Nat} (h:DkOk n s.dk) (hc:s.counts.length=41) (v:Int):rN p (bM s p v):=by
 refine ⟨?_,by simp [bM],fun x hx=> ?_,⟨List.Pairwise.nil,fun x hx=> by simp [bM] at hx⟩,hc⟩
 ·unfold bM
  simp only
  split
  ·rename_i he;rw [← he,h.len];exact h
  exact h.resize _
 simp only [bM,List.mem_replicate] at hx;rw [hx.2];exact oT
theorem GS {p q:Pg} (hp:lU p) (hq:lU q) {drift:Int} (hd:0≤drift∧drift≤3) {a:Na} (ha:EB a) {i:Nat} (hi:i≤100) {s:Ns} (h:Sq p q i s):Sq p q (i+1) (cj p q drift a s).1:=by
 have hck:=h.ck
 have htk:=ki (clock:=s.clock) (tick:=a.tick) hd
 have hep:=h.ep
 have hct:=xh h.cl h.ct
 have h0: ∀ i,Rg ((List.replicate 9 (0:Int)).getD i 0):=fun i=> by
  rw [List.getD_eq_getElem?_getD,List.getElem?_replicate]
  split <;> exact oT
 unfold cj
 split
 ·rename_i hu
  obtain ⟨⟨n,hdk⟩,_,_⟩:=h.dn hu
  have hpg:bf p q s=if fb s=1 then q else p:=by
   unfold bf fb
   rw [if_neg (by simp [hu])]
   split <;> rfl
  have hver:fb s=0∨fb s=1:=by unfold fb;split <;> simp
  have hok:lU (bf p q s):=by rw [hpg];split <;> assumption
  have hb:=sy (p:=bf p q s) hdk h.cl (fb s)
  have ho:=(kD hok hb (h:=0) (self:=1) (nodes:=3) (drift:=drift) (tick:=a.tick) (ans:=a.draws) h0 (cB ab) (cB ab) (cB (by show -1000≤aQ s.clock drift a.tick∧aQ s.clock drift a.tick≤1000;omega))).1
  obtain ⟨k1,k2,k3,k4,k5⟩:=fD (bM s (bf p q s) (fb s)) (bf p q s) 0 1 3 drift a.tick (List.replicate 9 0) a.draws
  unfold ku
  have e1:(cw (bM s (bf p q s) (fb s)) (bf p q s) 0 1 3 drift a.tick (List.replicate 9 0) a.draws).1.ver=fb s:=k2
  refine ⟨fun _=> ⟨by rw [e1,← hpg];exact ho,by rw [e1];exact hver⟩,fun hx=> by rw [k1] at hx;simp [bM] at hx,?_,ho.ct,?_,?_⟩
  ·rw [k4];show 0≤aQ s.clock drift a.tick∧aQ s.clock drift a.tick≤_;omega
  ·rw [k5];exact hct 0
  rw [k3];show 0≤s.epoch∧s.epoch≤_;omega
 rename_i hu
 have hu:s.up=true:=by simpa using hu
 obtain ⟨hs,hv⟩:=h.up hu
 split
 ·refine ⟨fun hx=> by simp [gY] at hx,fun _=> ⟨⟨_,hs.dk.crash _⟩,rfl,rfl⟩,?_,?_,hct 40,?_⟩
  ·show 0≤s.clock∧s.clock≤_;omega
  ·show (s.counts.set 40 _).length=41;rw [List.length_set];exact h.cl
  show 0≤s.epoch+1∧s.epoch+1≤_;omega
 have hpg:bf p q s=if s.ver=1 then q else p:=by unfold bf;rw [if_pos hu]
 have hok:lU (bf p q s):=by rw [hpg];split <;> assumption
 have hs':rN (bf p q s) { s with wait:=a.wait }:=by rw [hpg];exact ⟨hs.dk,hs.vl,hs.vr,hs.tm,hs.ct⟩
 have ho:=(kD hok hs' (h:=a.h) (self:=1) (nodes:=3) (drift:=drift) (tick:=a.tick) (ans:=a.draws) ha.nm (cB ab) (cB ab) (cB (by show -1000≤aQ s.clock drift a.tick∧aQ s.clock drift a.tick≤1000;omega))).1
 obtain ⟨k1,k2,k3,k4,k5⟩:=fD { s with wait:=a.wait } (bf p q s) a.h 1 3 drift a.tick a.names a.draws
 have e1:(cw { s with wait:=a.wait } (bf p q s) a.h 1 3 drift a.tick a.names a.draws).1.ver=s.ver:=k2
 refine ⟨fun _=> ⟨by rw [e1,← hpg];exact ho,by rw [e1];exact hv⟩,fun hx=> by rw [k1] at hx;simp [hu] at hx,?_,ho.ct,?_,?_⟩
 ·rw [k4];show 0≤aQ s.clock drift a.tick∧aQ s.clock drift a.tick≤_;omega
 ·rw [k5];exact hct a.h
 rw [k3];show 0≤s.epoch∧s.epoch≤_;omega
end Go.Proofs.YtmjnackchaahbaaGreat

set_option maxHeartbeats 2000000
namespace Go.Proofs.YtmjnackchaahbaaGreat
open Go.RowKit

def yu (w:Int×Int):List PV:=[.v (.int .i64 w.1), .v (.int .i64 w.2)]
def iu (l:List (Int×Int)):List PV:=l.flatMap yu
theorem bA (l:List (Int×Int)):(iu l).length=l.length*2:=gQ yu 2 (fun _=> rfl) l
theorem li (l:List (Int×Int)) (k:Nat) (h:k < l.length):PV.ups (((iu l).drop (k*2)).take 2)=[.v (.int .i64 (l.getD k (0,0)).1), .v (.int .i64 (l.getD k (0,0)).2)]:=by
 have e:l.getD k (0,0)=l[k]:=by rw [List.getD_eq_getElem?_getD,List.getElem?_eq_getElem h];rfl
 rw [e,show ((iu l).drop (k*2)).take 2=yu l[k] from kX yu 2 (fun _=> rfl) l k h];rfl
theorem nK (l:List (Int×Int)) (x:Int×Int):iu l++yu x=iu (l++[x]):=jE yu l x
theorem oO (l:List (Int×Int)):(iu l).take (l.length*2)=iu l:=List.take_of_length_le (by rw [bA];exact Nat.le_refl _)
theorem uL (c:List Int) (l:List (Int×Int)) {k:Nat} (h:k < l.length):mD c (l.take (k+1))=(mD c (l.take k)).set (l.getD k (0,0)).1.toNat (l.getD k (0,0)).2:=by
 have e:l.take (k+1)=l.take k++[l.getD k (0,0)]:=by
  rw [List.take_add_one,List.getElem?_eq_getElem h,List.getD_eq_getElem?_getD,List.getElem?_eq_getElem h];rfl
 rw [e,nP];rfl
abbrev SW (d:Dk):List AV:=[.sl d.cells.length (be d.cells), .sl d.pend.length (iu d.pend)]
abbrev lA (d:Dk):AV:= .agg (SW d)
theorem Ba {ρ:aA→aA} {σ:St} {F:aA→Bool} {id:aA} {e:TypeId} {n m:Nat} {l r:List Int} (hid:σ.ob id= .obj (.row e 1 (be l))) (hF:F id=true) (hm:n=m) (hl:l=r) (hn:m=r.length:=by (rfl)):Lv ρ σ F (.sl m (be r)) (.ref id 0 n):=by
 subst hm;subst hl
 exact dH hid hF (by rw [aq,Nat.mul_one];exact hn) rfl
theorem gZ (d:Dk) (h1:d.cells.length≤1000000) (h2:d.pend.length≤1000000):
  Spec Tryz.prog 88 (aI [lA d] []) (aC (.agg [.ref (0,8) 0 d.cells.length, .ref (1,8) 0 d.pend.length]) [((0,8), .row 3 1 (be d.cells)),((1,8), .row 126 2 (iu d.pend))]):=by
 refine Spec.ofN Tryz.func88 rfl Tryz.ntmps88 rfl ?_
 refine go 8 ?_
 refine aj (nX (7,0) _ _ aa rfl rfl _ rfl rfl ab rfl rfl) ?_
 refine go 9 ?_
 refine aj (Br _ _ aa rfl rfl (by simp [jq]) (.sl (by rw [aq,Nat.mul_one])) rfl rfl) ?_
 refine am (aG (IE rfl rfl rfl (aj (bB _ aa rfl rfl (rfl:_=some (AV.v (.slice _ _ _)))) (go 2 ?_))))
 refine aj (tE (18,0) _ _ aa rfl (.sl (by rw [bA])) ab rfl) ?_
 refine go 3 ?_
 refine aE ?_
 refine az (σ':=an 21 [(2,_),(3,_)] [((2,0),_),((7,0),_),((3,0),_),((18,0),_)] [] []) kp ?_
 refine go 4 ?_
 exact au (cg (.inr rfl) rfl (.cellA aa rfl rfl rfl) (Le.out [((0,8),(7,0)),((1,8),(18,0))] [] (.agg rfl lz) rfl rfl rfl trivial ⟨⟨rfl,⟨_,rfl, .rowE (by rw [List.take_of_length_le (by rw [aq];omega),List.drop_of_length_le (by simp [jq]),List.append_nil])⟩,rfl⟩,⟨rfl,⟨_,rfl, .rowE rfl⟩,rfl⟩,trivial⟩))
theorem iQ (c:List Int) (l:List (Int×Int)) (h1:l.length≤1000000) (hc:c.length≤1000000) (ho: ∀ w∈l,0≤w.1∧w.1 < (c.length:Int)):
  Spec Tryz.prog 89 (aL [.ref (0,9) 0 c.length, .sl l.length (iu l)] [((0,9), .row 3 1 (be c))]) (aN (.tup []) [((0,9), .row 3 1 (be (mD c l)))] [(0,9)] [(0,9)]):=by
 refine Spec.ofNI Tryz.func89 rfl Tryz.ntmps89 rfl ?_
 refine go 6 ?_
 refine aT (α:=Nat) (fun k=> k≤l.length) 19 [(0,_),(6,_),(7,_)] [] (fun k=> [(8, .v (.int .i64 (k:Int)))]) (fun k=> [((0,9), .row 3 1 (be (mD c (l.take k))))]) [(0,9)] [(0,9)] (fun k=> l.length - k) 0 ?_ (kj [2] [] []) ?_
 ·omega
 intro k hk
 refine go 3 ?_
 refine aF fun K3 hK3=> ?_
 refine ay rfl (fun hc9=> ?_) (fun hc9=> ?_)
 ·have hia:=li l k ab
  have hm:l.getD k (0,0)∈l:=by rw [List.getD_eq_getElem?_getD,List.getElem?_eq_getElem ab];exact List.getElem_mem _
  obtain ⟨q1,q2⟩:=ho _ hm
  have q3:=uL c l (k:=k) ab
  generalize l.getD k (0,0)=w at hia q1 q2 q3
  obtain ⟨i,hi⟩:=Int.eq_ofNat_of_zero_le q1
  rw [hi,Int.toNat_natCast] at q3
  have q4:(mD c (l.take k)).length=c.length:=dF _ _
  refine aR (hK3 _ ?_)
  refine aE (aH (aG (aj (aO _ _ aa rfl rfl _ rfl ab (by (simp only [aq,aJ,aM,aq,bA];omega)) ag) ?_)))
  refine aj (bn _ aa rfl (by exact hia) rfl) ?_
  refine go 9 ?_
  refine aj (bv _ _ aa rfl rfl rfl i hi ab (by exact (Nat.zero_add _).trans (Nat.mul_one _))) ?_
  refine aj (eR _ _ aa rfl rfl rfl rfl rfl (by rw [aq];simp only [List.length_cons,List.length_nil];omega) ((dN _ _ _ ab).trans (congrArg be q3.symm))) ?_
  refine go 4 ?_
  refine ax (⟨k+1,?_,?_,?_⟩)
  ·omega
  ·exact kj [2] [] []
  omega
 exact aW (id (xa (.inl rfl) rfl (Le.outI [] [] (.tup rfl aK) rfl rfl rfl trivial ⟨⟨rfl,⟨_,rfl, .rowE (by rw [List.take_of_length_le ab])⟩,rfl⟩,trivial⟩ tr rfl)))
theorem ru (d:Dk) (h1:d.cells.length≤1000000) (h2:d.pend.length≤1000000) (ho: ∀ w∈d.pend,0≤w.1∧w.1 < (d.cells.length:Int)):
  Spec Tryz.prog 115 (aI [lA d] []) (aC (lA d.sync) []):=by
 have hd:=gZ d h1 h2
 have ha:=iQ d.cells d.pend h2 h1 ho
 have hl:d.view.length=d.cells.length:=dF _ _
 have hl2:d.sync.cells.length=d.cells.length:=hl
 refine Spec.ofN Tryz.func115 rfl Tryz.ntmps115 rfl ?_
 refine go 6 ?_
 refine aj (bR aa [((0,8),(5,0)),((1,8),(5,1))] ar (hd.toI) trivial tr ae) ?_
 refine go 3 ?_
 refine aF fun K3 hK3=> ?_
 refine az (Le.frzB (ys:=iu d.pend) (3,0) 1 rfl rfl rfl rfl (by rw [List.drop_zero,oO]) (by rw [bA];omega)) ?_
 refine go 5 ?_
 refine aj (bR aa [((0,9),(5,0))] ar (ha) ob tr ae) ?_
 refine ax (hK3 _ ?_)
 refine go 8 ?_
 exact au (cg (.inr rfl) rfl (.cellA aa rfl rfl rfl) (Le.out [] [(5,0)] (.agg rfl (ai (Ba rfl rfl hl2.symm rfl) lz)) rfl rfl rfl tr trivial))
theorem xK (d:Dk) (h1:d.cells.length≤1000000) (h2:d.pend.length≤1000000) (ho: ∀ w∈d.pend,0≤w.1∧w.1 < (d.cells.length:Int)):
  Spec Tryz.prog 82 (aI [lA d] []) (aC (.sl d.view.length (be d.view)) []):=by
 have hs:=ru d h1 h2 ho
 refine Spec.ofN Tryz.func82 rfl Tryz.ntmps82 rfl ?_
 refine aG (aj (dZ (1,0) _ rfl rfl) (aj (aX _ eh) (go 3 ?_)))
 refine aj (ap aa al (hs) rfl rfl) ?_
 refine go 3 ?_
 exact au (pO rfl rfl)
theorem zD (n:Nat) (h1:n≤1000000):
  Spec Tryz.prog 120 (aI [.v (.int .i64 (n:Int))] []) (aC (.agg [.ref (0,8) 0 n, .v (.slice none 0 0)]) [((0,8), .row 3 1 (be (List.replicate n 0)))]):=by
 refine Spec.ofN Tryz.func120 rfl Tryz.ntmps120 rfl ?_
 refine go 5 ?_
 refine aj (nX (4,0) _ _ aa rfl rfl _ rfl rfl ab rfl rfl) ?_
 refine go 3 ?_
 exact au (cg (.inr rfl) rfl (.cellA aa rfl rfl rfl) (Le.out [((0,8),(4,0))] [] (.agg rfl lz) rfl rfl rfl trivial ⟨⟨rfl,⟨_,rfl, .rowE (by simp [be,rep])⟩,rfl⟩,trivial⟩))
theorem Hl (v:List Int) (n:Nat):(be v).take n++(be (List.replicate n 0)).drop v.length=be ((v++List.replicate n 0).take n):=by
 simp only [be,← List.map_take,← List.map_drop,← List.map_append]
 congr 1
 rw [List.take_append,List.take_replicate,List.drop_replicate]
 congr 2
 omega
theorem tV (d:Dk) (n:Nat) (h1:d.cells.length≤1000000) (h2:d.pend.length≤1000000) (hn:n≤1000000) (ho: ∀ w∈d.pend,0≤w.1∧w.1 < (d.cells.length:Int)):
  Spec Tryz.prog 90 (aI [lA d, .v (.int .i64 (n:Int))] []) (aC (lA (d.resize n)) []):=by
 have hv:=xK d h1 h2 ho
 have hnw:=zD n hn
 have hl:(d.resize n).cells.length=n:=by simp [Dk.resize]
 refine Spec.ofN Tryz.func90 rfl Tryz.ntmps90 rfl ?_
 refine go 6 ?_
 refine aj (bR aa [((0,8),(7,0))] ar (hnw.toI) trivial tr ae) ?_
 refine go 3 ?_
 refine aE ?_
 refine az (σ':=an 14 [(2,_),(4,_),(5,_)] [((2,0),_),((4,0),_),((7,0),_),((5,0),_)] [] []) kp ?_
 refine dA 4 [] ?_
 refine go 6 ?_
 refine aB (_,[]) (fun τ=> (ap aa al (hv) rfl rfl)) ?_
 refine go 1 ?_
 refine cq ⟨rfl,?_⟩
 refine aj (Br _ _ aa rfl rfl (by simp) (.sl (by rw [aq,Nat.mul_one])) (Hl _ _) rfl) ?_
 refine go 5 ?_
 exact au (cg (.inr rfl) rfl (.cellA aa rfl rfl rfl) (Le.out [] [(7,0)] (.agg rfl (ai (Ba rfl rfl hl.symm rfl) lz)) rfl rfl rfl tr trivial))
end Go.Proofs.YtmjnackchaahbaaGreat

set_option maxHeartbeats 2000000
namespace Go.Proofs.YtmjnackchaahbaaGreat
open Go.RowKit

abbrev eL (d:Dk):Prop:= ∀ w∈d.pend,0≤w.1∧w.1 < (d.cells.length:Int)
theorem Jh {ρ:aA→aA} {σ:St} {F:aA→Bool} {id:aA} {e:TypeId} {n m:Nat} {l r:List (Int×Int)} (hid:σ.ob id= .obj (.row e 2 (iu l))) (hF:F id=true) (hm:n=m) (hl:l=r) (hn:m=r.length:=by (rfl)):Lv ρ σ F (.sl m (iu r)) (.ref id 0 n):=by
 subst hm;subst hl
 exact dH hid hF (by rw [bA,hn]) rfl
theorem xt (d:Dk) (h1:d.cells.length≤1000000) (h2:d.pend.length≤1000000) (c v:Int) (hc:c < 0):
  Spec Tryz.prog 183 (aI [lA d, .v (.int .i64 c), .v (.int .i64 v)] []) (aC (lA d) []):=by
 have hd:=gZ d h1 h2
 refine Spec.ofN Tryz.func183 rfl Tryz.ntmps183 rfl ?_
 refine go 6 ?_
 refine aj (bR aa [((0,8),(9,0)),((1,8),(9,1))] ar (hd.toI) trivial tr ae) ?_
 refine go 6 ?_
 refine aj (cZ (r:=true) _ _ rfl rfl (decide_eq_true ab)) ?_
 refine go 9 ?_
 refine aE ?_
 refine az (σ':=an 45 [(6,_),(7,_)] [((6,0),_),((9,0),_),((9,1),_),((7,0),_)] [] []) kp ?_
 refine go 4 ?_
 exact au (cg (.inr rfl) rfl (.cellA aa rfl rfl rfl) (Le.out [] [(9,0),(9,1)] (.agg rfl (ai (Ba rfl rfl rfl rfl) (ai (Jh rfl rfl rfl rfl) aK))) rfl rfl rfl tr trivial))
theorem wD (d:Dk) (h1:d.cells.length≤1000000) (h2:d.pend.length≤1000000) (c v:Int) (hc:0≤c) (hb:(d.cells.length:Int)≤c):
  Spec Tryz.prog 183 (aI [lA d, .v (.int .i64 c), .v (.int .i64 v)] []) (aC (lA d) []):=by
 have hd:=gZ d h1 h2
 refine Spec.ofN Tryz.func183 rfl Tryz.ntmps183 rfl ?_
 refine go 6 ?_
 refine aj (bR aa [((0,8),(9,0)),((1,8),(9,1))] ar (hd.toI) trivial tr ae) ?_
 refine go 6 ?_
 refine aj (cZ (r:=false) _ _ rfl rfl (decide_eq_false ab)) ?_
 refine go 5 ?_
 refine aV rfl rfl (ez (r:=true) _ _ rfl rfl (decide_eq_true ab)) ?_
 refine go 3 ?_
 refine aE ?_
 refine az (σ':=an 45 [(6,_),(7,_)] [((6,0),_),((9,0),_),((9,1),_),((7,0),_)] [] []) kp ?_
 refine go 4 ?_
 exact au (cg (.inr rfl) rfl (.cellA aa rfl rfl rfl) (Le.out [] [(9,0),(9,1)] (.agg rfl (ai (Ba rfl rfl rfl rfl) (ai (Jh rfl rfl rfl rfl) aK))) rfl rfl rfl tr trivial))
theorem uP (d:Dk) (h1:d.cells.length≤1000000) (h2:d.pend.length≤1000000) (c v:Int) (hc:0≤c) (hb:c < (d.cells.length:Int)) (hr:d.pend.length+1≤4):
  Spec Tryz.prog 183 (aI [lA d, .v (.int .i64 c), .v (.int .i64 v)] []) (aC (lA ⟨d.cells,d.pend++[(c,v)]⟩) []):=by
 have hd:=gZ d h1 h2
 have hl:(d.pend++[(c,v)]).length=d.pend.length+1:=by simp
 refine Spec.ofN Tryz.func183 rfl Tryz.ntmps183 rfl ?_
 refine go 6 ?_
 refine aj (bR aa [((0,8),(9,0)),((1,8),(9,1))] ar (hd.toI) trivial tr ae) ?_
 refine go 6 ?_
 refine aj (cZ (r:=false) _ _ rfl rfl (decide_eq_false ab)) ?_
 refine go 5 ?_
 refine aV rfl rfl (ez (r:=false) _ _ rfl rfl (decide_eq_false ab)) ?_
 refine go 4 ?_
 refine aE ?_
 refine az (σ':=an 45 [(1,_),(2,_),(6,_),(7,_)] [((6,0),_),((9,0),_),((9,1),_),((7,0),_)] [] []) kp ?_
 refine go 7 ?_
 refine aj (bI (m:=1) (news:=yu (c,v)) (26,0) _ _ aa rfl rfl (by rw [bA]) (.sl rfl) ab rfl (nK _ (c,v)) rfl) ?_
 refine go 10 ?_
 refine cK rfl (decide_eq_false ab) ?_
 refine go 5 ?_
 exact au (cg (.inr rfl) rfl (.cellA aa rfl rfl rfl) (Le.out [] [(9,0),(26,0)] (.agg rfl (ai (Ba rfl rfl rfl rfl) (ai (Jh rfl rfl hl.symm rfl) aK))) rfl rfl rfl tr trivial))
theorem vM (d:Dk) (h1:d.cells.length≤1000000) (h2:d.pend.length≤1000000) (c v:Int) (ho:eL d) (hc:0≤c) (hb:c < (d.cells.length:Int)) (hr:4 < d.pend.length+1):
  Spec Tryz.prog 183 (aI [lA d, .v (.int .i64 c), .v (.int .i64 v)] []) (aC (lA ⟨mD d.cells ((d.pend++[(c,v)]).take 1),(d.pend++[(c,v)]).drop 1⟩) []):=by
 have hd:=gZ d h1 h2
 have hl:(d.pend++[(c,v)]).length=d.pend.length+1:=by simp
 have hia:=li (d.pend++[(c,v)]) 0 ab
 have ht:(d.pend++[(c,v)]).take 1=[(d.pend++[(c,v)]).getD 0 (0,0)]:=by
  cases d.pend with
  | nil=> rfl
  | cons x l=> rfl
 have hw:0≤((d.pend++[(c,v)]).getD 0 (0,0)).1∧((d.pend++[(c,v)]).getD 0 (0,0)).1 < (d.cells.length:Int):=by
  have hm:(d.pend++[(c,v)]).getD 0 (0,0)∈d.pend++[(c,v)]:=by rw [List.getD_eq_getElem?_getD,List.getElem?_eq_getElem ab];exact List.getElem_mem _
  rcases List.mem_append.1 hm with hm | hm
  ·exact ho _ hm
  rw [List.mem_singleton.1 hm];exact ⟨hc,hb⟩
 have hl2:((d.pend++[(c,v)]).drop 1).length=d.pend.length+1 - 1:=by rw [List.length_drop,hl]
 have hl3:(mD d.cells ((d.pend++[(c,v)]).take 1)).length=d.cells.length:=dF _ _
 have hsl:((iu (d.pend++[(c,v)])).drop (1*2)).take ((d.pend.length+1 - 1)*2)=iu ((d.pend++[(c,v)]).drop 1):=by
  have e:(iu (d.pend++[(c,v)])).drop 2=iu ((d.pend++[(c,v)]).drop 1):=by
   cases d.pend with
   | nil=> rfl
   | cons x l=> rfl
  rw [Nat.one_mul,e,← hl2,oO]
 generalize (d.pend++[(c,v)]).getD 0 (0,0)=w at hia ht hw
 have hap:=iQ d.cells [w] (by simp) h1 (fun x hx=> by rw [List.mem_singleton.1 hx];exact hw)
 have hap:Spec Tryz.prog 89 (aL [.ref (0,9) 0 d.cells.length, .sl 1 (iu [w])] [((0,9), .row 3 1 (be d.cells))]) (aN (.tup []) [((0,9), .row 3 1 (be (mD d.cells [w])))] [(0,9)] [(0,9)]):=hap
 refine Spec.ofN Tryz.func183 rfl Tryz.ntmps183 rfl ?_
 refine go 6 ?_
 refine aj (bR aa [((0,8),(9,0)),((1,8),(9,1))] ar (hd.toI) trivial tr ae) ?_
 refine go 6 ?_
 refine aj (cZ (r:=false) _ _ rfl rfl (decide_eq_false ab)) ?_
 refine go 5 ?_
 refine aV rfl rfl (ez (r:=false) _ _ rfl rfl (decide_eq_false ab)) ?_
 refine go 4 ?_
 refine aE ?_
 refine az (σ':=an 45 [(1,_),(2,_),(6,_),(7,_)] [((6,0),_),((9,0),_),((9,1),_),((7,0),_)] [] []) kp ?_
 refine go 7 ?_
 refine aj (bI (m:=1) (news:=yu (c,v)) (26,0) _ _ aa rfl rfl (by rw [bA]) (.sl rfl) ab rfl (nK _ (c,v)) rfl) ?_
 refine go 3 ?_
 refine aF fun K6 hK6=> ?_
 refine go 6 ?_
 refine fR rfl (decide_eq_true ab) ?_
 refine aF fun K8 hK8=> ?_
 refine az (Le.frzB (ys:=iu (d.pend++[(c,v)])) (7,0) 1 rfl rfl rfl rfl (by rw [List.drop_zero,← hl,oO]) (by rw [bA];omega)) ?_
 refine dA 8 [(9,0)] ?_
 refine go 8 ?_
 refine aB (_,[]) (fun τ=> aO _ _ aa rfl rfl 0 rfl ab (by rw [bA];omega) rfl) ?_
 refine go 1 ?_
 refine aB (_,[]) (fun τ=> bn _ aa rfl (by exact hia) rfl) ?_
 refine go 1 ?_
 refine aB (_,[]) (fun τ=> gX _ _ aa rfl ag (by simp <;> rfl) ah (by exact (rfl:_=some (iu [w])))) ?_
 refine go 1 ?_
 refine aB (_,[((9,0),_)]) (fun τ=> (bp aa [((0,9),(9,0))] ar (hap) ob tr tr rfl rfl ae ae)) ?_
 refine go 1 ?_
 refine cq ⟨rfl,?_⟩
 refine ax (hK8 _ ?_)
 refine az (σ':=an 45 [(6,_),(7,_)] [((6,0),_),((9,0),_),((7,0),_)] [] []) kp ?_
 refine go 3 ?_
 refine aj (fW _ _ _ aa rfl 1 (d.pend.length+1) (.lit rfl rfl) .dflt ab ab hsl rfl) ?_
 refine go 2 ?_
 refine ax (hK6 _ ?_)
 refine go 4 ?_
 exact au (cg (.inr rfl) rfl (.cellA aa rfl rfl rfl) (Le.out [] [(9,0)] (.agg rfl (ai (Ba rfl rfl hl3.symm (congrArg (mD d.cells) ht).symm) (ai (de hl2 rfl) aK))) rfl rfl rfl tr trivial))
theorem vY (d:Dk) (h1:d.cells.length≤1000000) (h2:d.pend.length≤1000000) (ho:eL d) (c v:Int):
  Spec Tryz.prog 183 (aI [lA d, .v (.int .i64 c), .v (.int .i64 v)] []) (aC (lA (d.write c v)) []):=by
 unfold Dk.write
 by_cases h0:c < 0
 ·rw [if_pos (.inl h0)];exact xt d h1 h2 c v h0
 by_cases hb:(d.cells.length:Int)≤c
 ·rw [if_pos (.inr hb)];exact wD d h1 h2 c v ab hb
 rw [if_neg ab]
 by_cases hr:4 < d.pend.length+1
 ·rw [if_pos hr];exact vM d h1 h2 c v ho ab ab hr
 rw [if_neg hr];exact uP d h1 h2 c v ab ab ab
theorem oW: ∀ (l:List (Int×Int)) (b:List Bool) (k:Nat),k < l.length→k < b.length→kept (l.take (k+1)) b=kept (l.take k) b++(if b.getD k false=true then [l.getD k (0,0)] else [])
 | [],_,_,h,_=> by simp at h
 | _::_,[],_,_,h=> by simp at h
 | x::l,y::b,0,_,_=> by cases y <;> simp [kept] <;> cases l <;> simp [kept]
 | x::l,y::b,k+1,h,hb=> by
  have:=oW l b k (by simpa using h) (by simpa using hb)
  cases y <;> simp [kept,this]
theorem vh: ∀ (l:List (Int×Int)) (b:List Bool) (k:Nat),b.length≤k→kept (l.take (k+1)) b=kept (l.take k) b
 | [],_,_,_=> by simp
 | _::_,[],_,_=> by simp [kept]
 | x::l,y::b,0,h=> by simp at h
 | x::l,y::b,k+1,h=> by
  have:=vh l b k (by simpa using h)
  cases y <;> simp [kept,this]
set_option maxHeartbeats 1000000 in
theorem uQ (d:Dk) (h1:d.cells.length≤1000000) (h2:d.pend.length≤1000000) (ho:eL d) (b:List Bool) (hb:b.length≤1000000):
  Spec Tryz.prog 55 (aI [lA d, .sl b.length (xu b)] []) (aC (lA (d.crash b)) []):=by
 have hd:=gZ d h1 h2
 have hlz:(d.crash b).cells.length=d.cells.length:=dF _ _
 refine Spec.ofN Tryz.func55 rfl Tryz.ntmps55 rfl ?_
 refine go 6 ?_
 refine aj (bR aa [((0,8),(9,0)),((1,8),(9,1))] ar (hd.toI) trivial tr ae) ?_
 refine go 3 ?_
 refine aF fun K3 hK3=> ?_
 refine aE ?_
 refine az (Le.frzB (ys:=iu d.pend) (5,0) 1 rfl rfl rfl rfl (by rw [List.drop_zero,oO]) (by rw [bA];omega)) ?_
 refine go 7 ?_
 refine aT (α:=Nat) (fun k=> k≤d.pend.length) 36 [(1,_),(4,_),(5,_),(11,_),(12,_)] [((4,0),_),((5,0),_)] (fun k=> [(13, .v (.int .i64 (k:Int)))]) (fun k=> [((9,0), .row 3 1 (be (mD d.cells (kept (d.pend.take k) b))))]) [] [] (fun k=> d.pend.length - k) 0 ?_ (kj [0,0,2] [] []) ?_
 ·omega
 intro k hk
 refine go 3 ?_
 refine aF fun K6 hK6=> ?_
 refine ay rfl (fun hc14=> ?_) (fun hc14=> ?_)
 ·have hia:=li d.pend k ab
  have hm:d.pend.getD k (0,0)∈d.pend:=by rw [List.getD_eq_getElem?_getD,List.getElem?_eq_getElem ab];exact List.getElem_mem _
  have q0:=ho _ hm
  have q1:=oW d.pend b k ab
  have q2:=vh d.pend b k
  have ql:(mD d.cells (kept (d.pend.take k) b)).length=d.cells.length:=dF _ _
  have hap:=iQ (mD d.cells (kept (d.pend.take k) b)) [d.pend.getD k (0,0)] (by simp) ab (fun x hx=> by rw [List.mem_singleton.1 hx,ql];exact q0)
  have hap:Spec Tryz.prog 89 (aL [.ref (0,9) 0 d.cells.length, .sl 1 (iu [d.pend.getD k (0,0)])] [((0,9), .row 3 1 (be (mD d.cells (kept (d.pend.take k) b))))]) (aN (.tup []) [((0,9), .row 3 1 (be (mD (mD d.cells (kept (d.pend.take k) b)) [d.pend.getD k (0,0)])))] [(0,9)] [(0,9)]):=by rw [ql] at hap;exact hap
  rw [← nP] at hap
  generalize d.pend.getD k (0,0)=w at hia q0 q1 hap
  refine aR (hK6 _ ?_)
  refine aE (aH (aG (bW rfl (aj (aO _ _ aa rfl rfl _ rfl ab (by (simp only [aq,aJ,aM,aq,bA];omega)) ag) ?_))))
  refine aj (bn _ aa rfl (by exact hia) rfl) ?_
  refine go 10 ?_
  refine cA (fun hg22=> ?_) (fun hg22=> ?_)
  ·refine go 2 ?_
   refine aV rfl rfl (aO _ _ aa rfl rfl _ rfl ab (by (simp only [aq,aJ,aM,aq,bA];omega)) (by exact Nat.mul_one _)) ?_
   refine aV rfl rfl (bl _ aa rfl (by exact yc _ _ ab) rfl) ?_
   refine go 2 ?_
   refine ay rfl (fun hc27=> ?_) (fun hc27=> ?_)
   ·refine az (σ':=an 36 [(1,_),(4,_),(5,_),(7,_),(11,_),(12,_),(13,_)] [((4,0),_),((5,0),_),((9,0),_),((7,0),_)] [] []) kp ?_
    refine go 4 ?_
    refine aj (gX _ _ aa rfl ag (by simp <;> rfl) ah (by exact (rfl:_=some (iu [w])))) ?_
    refine aj (bR aa [((0,9),(9,0))] ar (hap) ob tr ae) ?_
    refine go 4 ?_
    refine ax (⟨k+1,?_,?_,?_⟩)
    ·omega
    ·refine Le.mkJ [] [] rfl ?_ ?_ trivial trivial ?_
     ·exact ⟨(iS rfl),(iP rfl),(iP rfl),(iS rfl),(iV rfl),(bj ag),trivial⟩
     ·exact ⟨(bU rfl rfl rfl),(bU rfl rfl rfl),(cL rfl rfl rfl (by (rw [q1 ab,if_pos hc27]))),trivial⟩
     kernel_rfl
    omega
   refine kT ?_
   refine az (σ':=an 36 [(1,_),(4,_),(5,_),(11,_),(12,_),(13,_)] [((4,0),_),((5,0),_),((9,0),_)] [] []) kp ?_
   refine go 3 ?_
   refine ax (⟨k+1,?_,?_,?_⟩)
   ·omega
   ·refine Le.mkJ [] [] rfl ?_ ?_ trivial trivial ?_
    ·exact ⟨(iS rfl),(iP rfl),(iP rfl),(iS rfl),(iV rfl),(bj ag),trivial⟩
    ·exact ⟨(bU rfl rfl rfl),(bU rfl rfl rfl),(cL rfl rfl rfl (by (rw [q1 ab,if_neg (by rw [hc27];decide),List.append_nil]))),trivial⟩
    kernel_rfl
   omega
  refine go 8 ?_
  refine az (σ':=an 36 [(1,_),(4,_),(5,_),(11,_),(12,_),(13,_)] [((4,0),_),((5,0),_),((9,0),_)] [] []) kp ?_
  refine go 3 ?_
  refine ax (⟨k+1,?_,?_,?_⟩)
  ·omega
  ·refine Le.mkJ [] [] rfl ?_ ?_ trivial trivial ?_
   ·exact ⟨(iS rfl),(iP rfl),(iP rfl),(iS rfl),(iV rfl),(bj ag),trivial⟩
   ·exact ⟨(bU rfl rfl rfl),(bU rfl rfl rfl),(cL rfl rfl rfl (by (rw [q2 ab]))),trivial⟩
   kernel_rfl
  omega
 refine aW (id (hK3 _ ?_))
 refine go 8 ?_
 exact au (cg (.inr rfl) rfl (.cellA aa rfl rfl rfl) (Le.out [] [(9,0)] (.agg rfl (ai (Ba rfl rfl hlz.symm (by unfold Dk.crash;rw [List.take_of_length_le ab])) lz)) rfl rfl rfl tr trivial))
end Go.Proofs.YtmjnackchaahbaaGreat

set_option maxHeartbeats 2000000
namespace Go.Proofs.YtmjnackchaahbaaGreat
open Go.RowKit

theorem eV (w:World) (cs:Array Value) (j:Nat) (v:Value) (hv:cs[j]? =some v):(part 3 cs j).run Tryz.prog w= .ok v w:=by
 simp [part,isAgg,run_underlying Tryz.underlying3,hv]
theorem kR (n:Nat) (w:World) (a b:Int):(Op.equalIn (n+1) 3 (.int .i64 a) (.int .i64 b)).run Tryz.prog w= .ok (decide (a=b)) w:=by
 rw [run_equalIn_int w n 3 .i64 .i64 a b Tryz.underlying3]
 by_cases h:a=b <;> simp [h]
theorem uD (n:Nat) (w:World) (a b c a' b' c':Int):(Op.equalIn (n+2) 91 (.agg #[.int .i64 a, .int .i64 b, .int .i64 c]) (.agg #[.int .i64 a', .int .i64 b', .int .i64 c'])).run Tryz.prog w= .ok (decide (a=a'∧b=b'∧c=c')) w:=by
 have h:=eV w #[.int .i64 a, .int .i64 b, .int .i64 c]
 have h':=eV w #[.int .i64 a', .int .i64 b', .int .i64 c']
 have e:=kR n w
 show (Op.equalIn (n+1+1) _ _ _).run Tryz.prog w=_
 rw [Op.equalIn]
 simp only [Sem.run_bind,run_underlying Tryz.underlying91,Result.andThen_ok]
 simp [Op.eqFields,h 0 _ rfl,h 1 _ rfl,h 2 _ rfl,h' 0 _ rfl,h' 1 _ rfl,h' 2 _ rfl,e]
 by_cases p1:a=a' <;> by_cases p2:b=b' <;> by_cases p3:c=c' <;> simp [p1,p2,p3]
theorem Ch (w:World) (a b c k i a' b' c' k' i':Int):(Op.equal 109 (.agg #[.int .i64 a, .int .i64 b, .int .i64 c, .int .i64 k, .int .i64 i]) (.agg #[.int .i64 a', .int .i64 b', .int .i64 c', .int .i64 k', .int .i64 i'])).run Tryz.prog w= .ok (decide ((a=a'∧b=b'∧c=c')∧k=k'∧i=i')) w:=by
 have h:=eV w #[.int .i64 a, .int .i64 b, .int .i64 c, .int .i64 k, .int .i64 i]
 have h':=eV w #[.int .i64 a', .int .i64 b', .int .i64 c', .int .i64 k', .int .i64 i']
 have hc: ∀ a b c k i:Int,(part 91 #[.int .i64 a, .int .i64 b, .int .i64 c, .int .i64 k, .int .i64 i] 0).run Tryz.prog w= .ok (.agg #[.int .i64 a, .int .i64 b, .int .i64 c]) w:=fun a b c k i=> by
  simp [part,isAgg,sizeOf,run_underlying Tryz.underlying91]
  rfl
 have e:=kR 9998 w
 have ec:=uD 9997 w
 show (Op.equalIn (9999+1) _ _ _).run Tryz.prog w=_
 rw [Op.equalIn]
 simp only [Sem.run_bind,run_underlying Tryz.underlying109,Result.andThen_ok]
 simp [Op.eqFields,hc,h 3 _ rfl,h 4 _ rfl,h' 3 _ rfl,h' 4 _ rfl,e,ec]
 by_cases p1:a=a' <;> by_cases p2:b=b' <;> by_cases p3:c=c' <;> by_cases p4:k=k' <;> by_cases p5:i=i' <;> simp [p1,p2,p3,p4,p5]
section
variable {σ:St} {dd:Option Tmp} {ty:TypeId}
theorem IZ {t':TypeId} (x y:Operand) {a b c k i a' b' c' k' i':Int} (hx:σ.eval x= .agg [.v (.int .i64 a), .v (.int .i64 b), .v (.int .i64 c), .v (.int .i64 k), .v (.int .i64 i)]) (hy:σ.eval y= .agg [.v (.int .i64 a'), .v (.int .i64 b'), .v (.int .i64 c'), .v (.int .i64 k'), .v (.int .i64 i')]) {r:Bool} (hr:decide ((a=a'∧b=b'∧c=c')∧k=k'∧i=i')=r):Stp Tryz.prog dd (.binOp .eql 109 x y t') ty σ (σ.put dd (.v (.bool r))):=by
 refine ub [.int .i64 a, .int .i64 b, .int .i64 c, .int .i64 k, .int .i64 i] [.int .i64 a', .int .i64 b', .int .i64 c', .int .i64 k', .int .i64 i'] hx hy fun o ρ w ho hx hy=> ?_
 have:=Ch w a b c k i a' b' c' k' i'
 have hg:Tryz.prog.eqGuardType Tryz.prog.depth 109=false:=by kernel_rfl
 rw [hr] at this
 simp [execOp,ho,hx,hy,eqGuard,binOp,hg,this,Sem.run]
end
end Go.Proofs.YtmjnackchaahbaaGreat

set_option maxHeartbeats 2000000
namespace Go.Proofs.YtmjnackchaahbaaGreat
open Go.RowKit

structure Tl where
 c1:Int
 c2:Int
 c3:Int
 na:Nat
 A:List PV
 np:Nat
 pre:List PV
def pZ (t:Tl) (kind idx ar n:Int):List PV:=[.v (.int .i64 t.c1), .v (.int .i64 t.c2), .v (.int .i64 t.c3), .v (.int .i64 kind), .v (.int .i64 idx), .v (.int .i64 ar), .v (.int .i64 n)]
def mw (t:Tl) (ans l:List Int):List PV:=(List.range l.length).flatMap fun (i:Nat)=> pZ t 1 (i:Int) (l.getD i 0) (ee ans i (l.getD i 0))
def Hv (t:Tl) (ans l:List Int):List PV:=t.pre++mw t ans l
theorem uJ (t:Tl) (ans l:List Int) (k:Int):Hv t ans l++pZ t 1 (l.length:Int) k (ee ans l.length k)=Hv t ans (l++[k]):=by
 unfold Hv mw
 rw [List.append_assoc]
 congr 1
 rw [List.length_append,List.length_singleton,List.range_succ,List.flatMap_append]
 congr 1
 ·unfold List.flatMap
  congr 1
  apply List.map_congr_left
  intro i hi
  have hi:=List.mem_range.1 hi
  have e:(l++[k]).getD i 0=l.getD i 0:=by rw [List.getD_eq_getElem?_getD,List.getD_eq_getElem?_getD,List.getElem?_append_left hi]
  rw [e]
 have e:(l++[k]).getD l.length 0=k:=by rw [List.getD_eq_getElem?_getD,List.getElem?_append_right (Nat.le_refl _),Nat.sub_self];rfl
 simp [e]
theorem yn (t:Tl) (ans l:List Int):(mw t ans l).length=l.length*7:=by
 unfold mw
 rw [gQ (fun (i:Nat)=> pZ t 1 (i:Int) (l.getD i 0) (ee ans i (l.getD i 0))) 7 (fun _=> rfl),List.length_range]
theorem Ff {t:Tl} (h:t.pre.length=t.np*7) (ans l:List Int):(Hv t ans l).length=(t.np+l.length)*7:=by
 unfold Hv
 rw [List.length_append,yn,h,Nat.add_mul]
structure Mk where
 P:Pg
 iv:List Int
 names:List Int
 ans:List Int
 t:Tl
abbrev Mk.nm (M:Mk) (k:Nat):Int:=M.names.getD k 0
abbrev Mk.cx (M:Mk):Cx:=⟨M.P.c,M.P.d,M.names,M.ans⟩
abbrev SY (c:AV) (e:Nat→Int) (d v:Int) (iv:AV) (nm:Nat→Int) (F ov ac:AV) (sp:Int) (sb:Bool) (cv st:AV) (pc dr se:Int) (en:Bool):List AV:=[c, .v (.int .i64 (e 0)), .v (.int .i64 (e 1)), .v (.int .i64 (e 2)), .v (.int .i64 (e 3)), .v (.int .i64 (e 4)), .v (.int .i64 (e 5)), .v (.int .i64 (e 6)), .v (.int .i64 (e 7)), .v (.int .i64 (e 8)), .v (.int .i64 (e 9)), .v (.int .i64 (e 10)), .v (.int .i64 (e 11)), .v (.int .i64 (e 12)), .v (.int .i64 (e 13)), .v (.int .i64 (e 14)), .v (.int .i64 (e 15)), .v (.int .i64 (e 16)), .v (.int .i64 (e 17)), .v (.int .i64 (e 18)), .v (.int .i64 (e 19)), .v (.int .i64 (e 20)), .v (.int .i64 (e 21)), .v (.int .i64 (e 22)), .v (.int .i64 (e 23)), .v (.int .i64 (e 24)), .v (.int .i64 (e 25)), .v (.int .i64 (e 26)), .v (.int .i64 (e 27)), .v (.int .i64 (e 28)), .v (.int .i64 (e 29)), .v (.int .i64 (e 30)), .v (.int .i64 (e 31)), .v (.int .i64 (e 32)), .v (.int .i64 (e 33)), .v (.int .i64 (e 34)), .v (.int .i64 (e 35)), .v (.int .i64 (e 36)), .v (.int .i64 (e 37)), .v (.int .i64 (e 38)), .v (.int .i64 (e 39)), .v (.int .i64 d), .v (.int .i64 v),iv, .v (.int .i64 (nm 0)), .v (.int .i64 (nm 1)), .v (.int .i64 (nm 2)), .v (.int .i64 (nm 3)), .v (.int .i64 (nm 4)), .v (.int .i64 (nm 5)), .v (.int .i64 (nm 6)), .v (.int .i64 (nm 7)), .v (.int .i64 (nm 8)),F,ov,ac, .v (.int .i64 sp), .v (.bool sb),cv,st, .v (.int .i64 pc), .v (.int .i64 dr), .v (.int .i64 se), .v (.bool en)]
abbrev wS (p:aA):AV:= .fn (.func 113) [] [.ptr p 0]
abbrev jv:AV:= .fn (.func 54) [.ptr (4,9) 0] []
abbrev pN (t:Tl) (n:Nat) (L:List PV) (ak:aA):List (aA×Cells):=[((4,9), .box 103 [.v (.int .i64 t.c1), .v (.int .i64 t.c2), .v (.int .i64 t.c3), .sl t.na t.A, .ref ak 0 n]),(ak, .row 111 7 L)]
abbrev Bi (t:Tl) (n:Nat) (L:List PV) (ak:aA):List (aA×Cells):=[((4,9), .box 103 [.v (.int .i64 t.c1), .v (.int .i64 t.c2), .v (.int .i64 t.c3), .sl t.na t.A, .ref ak 0 n]),(ak, .row 111 7 L),((6,9), .box 161 [jv])]
abbrev Od (M:Mk) (s:Ms) (dr se:Int) (ac st:aA):List AV:=SY (.sl M.P.c.length (inl M.P.c)) M.P.e (M.P.d:Int) (M.P.v:Int) (.sl M.iv.length (be M.iv)) M.nm (wS (6,9)) (.ref (1,9) 0 s.vars.length) (.ref ac 0 s.acts.length) (s.steps:Int) false (.v (.slice none 0 0)) (.ref st 0 s.stack.length) (s.pc:Int) dr se s.fin
abbrev mo (M:Mk) (s:Ms) (dr se:Int) (ac st ak:aA):List (aA×Cells):=[((0,9), .box 171 (Od M s dr se ac st)),((1,9), .row 3 1 (be s.vars)),(ac, .row 57 5 (oz s.acts)),(st, .row 3 1 (be s.stack)),((4,9), .box 103 [.v (.int .i64 M.t.c1), .v (.int .i64 M.t.c2), .v (.int .i64 M.t.c3), .sl M.t.na M.t.A, .ref ak 0 (M.t.np+s.asked.length)]),(ak, .row 111 7 (Hv M.t M.ans s.asked)),((6,9), .box 161 [jv])]
abbrev mA (M:Mk) (s:Ms) (dr se:Int):List (aA×Cells):=mo M s dr se (2,9) (3,9) (5,9)
theorem mR (x lo hi:Int):Spec Tryz.prog 188 (aI [.v (.int .i64 x), .v (.int .i64 lo), .v (.int .i64 hi)] []) (aC (.v (.int .i64 (max lo (min x hi)))) []):=by
 refine Spec.ofN Tryz.func188 rfl Tryz.ntmps188 rfl ?_
 refine go 7 ?_
 exact aj (qt _ _ rfl rfl rfl) (aj (qv _ _ rfl rfl rfl) (cC rfl (am (au (dU rfl rfl)))))
theorem ie (l:List Int) (x:Int):be l++[.v (.int .i64 x)]=be (l++[x]):=by simp [be]
theorem cQ (l:List Int) (k:Nat):(be l).take k=be (l.take k):=by simp [be]
theorem zh (x:Int):max (-2147483647) (min x 2147483647)=lf x:=rfl
section
variable (M:Mk) (s:Ms) (dr se:Int)
theorem ev (x:Int) (hs:s.stack.length≤100000):
  Spec Tryz.prog 129 (aL [.ptr (0,9) 0, .v (.int .i64 x)] (mA M s dr se)) (aN (.tup []) (mo M { s with stack:=s.stack++[lf x] } dr se (2,9) (3,8) (5,9)) [(0,9),(1,9),(2,9),(3,8),(4,9),(5,9),(6,9)] [(0,9),(1,9),(2,9),(4,9),(5,9),(6,9)]):=by
 have hc:=mR x (-2147483647) 2147483647
 rw [zh] at hc
 have hl:(s.stack++[lf x]).length=s.stack.length+1:=by simp
 refine Spec.ofNI Tryz.func129 rfl Tryz.ntmps129 rfl ?_
 refine az (Le.incT (12,0) rfl) ?_
 refine hG 9 [4,5,6,7,8,9,10,11,12] [(3,9),(12,0)] [[],[],[],[(3,9)],[(3,9)],[(3,9)],[(3,9)],[(3,9)],[]] ae ae rfl (bb rfl) (rfl:_=[_,_,_,_,_,_,_,_,_]) (rfl:_=[_,_,_]) ?_
 refine go 12 ?_
 refine aB (_,[]) (fun τ=> (ap aa al (hc) rfl rfl)) ?_
 refine go 3 ?_
 refine aB (_,[((3,9), .gone),((12,0),_)]) (fun τ=> kJ (b:=true) (12,0) _ _ aa rfl (em rfl (by exact dB) rfl) (by simp) (.sl rfl) ab rfl rfl rfl (ie _ _) hl.symm) ?_
 refine go 5 ?_
 exact ax (mV [((3,8),(12,0))])
theorem bL (hs:s.stack.length≤100000) (h0:0 < s.stack.length):
  Spec Tryz.prog 131 (aL [.ptr (0,9) 0] (mA M s dr se)) (aN (.v (.int .i64 (s.top 0))) (mo M { s with stack:=s.pop 1 } dr se (2,9) (3,8) (5,9)) [(0,9),(1,9),(2,9),(3,8),(4,9),(5,9),(6,9)] [(0,9),(1,9),(2,9),(4,9),(5,9),(6,9)]):=by
 obtain ⟨m,hm⟩: ∃ m,s.stack.length=m+1:=⟨s.stack.length - 1,by omega⟩
 have ht:s.top 0=s.stack.getD m 0:=by unfold Ms.top;rw [hm];rfl
 have hp:s.pop 1=s.stack.take m:=by unfold Ms.pop;rw [hm];rfl
 have hl:(s.stack.take m).length=m:=by rw [List.length_take];omega
 rw [ht,hp]
 refine Spec.ofNI Tryz.func131 rfl Tryz.ntmps131 rfl ?_
 refine aG (cC rfl (am (aE (dA 13 [] ?_))))
 refine go 18 ?_
 refine aB (_,[]) (fun τ=> bq (r:=(m:Int)) _ _ rfl rfl ((bT ab).trans ab)) ?_
 refine go 1 ?_
 refine aB (_,[]) (fun τ=> bv _ _ aa rfl rfl rfl _ rfl ab (by exact (Nat.zero_add _).trans (Nat.mul_one _))) ?_
 refine go 1 ?_
 refine aB (_,[]) (fun τ=> cH _ aa rfl rfl (by exact cI _ _ ab) rfl) ?_
 refine go 5 ?_
 refine aE ?_
 refine az (σ':=an 31 [(0,_),(3,_)] [((0,9),_),((1,9),_),((2,9),_),((3,9),_),((4,9),_),((5,9),_),((6,9),_)] [(0,9),(1,9),(2,9),(3,9),(4,9),(5,9),(6,9)] [(0,9),(1,9),(2,9),(4,9),(5,9),(6,9)]) kp ?_
 refine dA 14 [] ?_
 refine go 20 ?_
 refine aB (_,[]) (fun τ=> bq (r:=(m:Int)) _ _ rfl rfl ((bT ab).trans ab)) ?_
 refine go 1 ?_
 refine aB (_,[]) (fun τ=> eI _ _ _ aa rfl rfl 0 m .dflt (.lit rfl rfl) ab ab rfl rfl) ?_
 refine go 8 ?_
 refine aE ?_
 refine az (Le.cutR (3,9) m rfl (cQ _ _)) ?_
 exact aD (bW rfl (cC rfl (am (au (cg (.inr rfl) rfl (.tmp kU) (Le.outI [((3,8),(3,9))] [] .v rfl rfl rfl trivial ⟨⟨rfl,⟨_,rfl, .box rfl (ai .sl (sM (sM (sM (sM (ai .v (ai .v (ai .sl (wv (wv (ai .v (ai (.fn rfl aK rfl lz) (ai (cf rfl rfl) (ai (cf rfl rfl) (ai .v (ai .v (ai .v (ai (cf rfl hl) lz))))))))))))))))))⟩,rfl⟩,⟨rfl,⟨_,rfl, .rowE rfl⟩,rfl⟩,⟨rfl,⟨_,rfl, .rowE rfl⟩,rfl⟩,⟨rfl,⟨_,rfl, .rowE rfl⟩,rfl⟩,⟨rfl,⟨_,rfl, .box rfl lz⟩,rfl⟩,⟨rfl,⟨_,rfl, .rowE rfl⟩,rfl⟩,⟨rfl,⟨_,rfl, .box rfl lz⟩,rfl⟩,trivial⟩ tr rfl))))))
theorem gg (k a b c d:Int) (hs:s.acts.length≤100000):
  Spec Tryz.prog 132 (aL [.ptr (0,9) 0, .v (.int .i64 k), .v (.int .i64 a), .v (.int .i64 b), .v (.int .i64 c), .v (.int .i64 d)] (mA M s dr se)) (aN (.tup []) (mo M { s with acts:=s.acts++[{ k:=k,a:=a,b:=b,c:=c,d:=d }] } dr se (2,8) (3,9) (5,9)) [(0,9),(1,9),(2,8),(3,9),(4,9),(5,9),(6,9)] [(0,9),(1,9),(3,9),(4,9),(5,9),(6,9)]):=by
 have hl:(s.acts++[({ k:=k,a:=a,b:=b,c:=c,d:=d }:Ac)]).length=s.acts.length+1:=by simp
 refine Spec.ofNI Tryz.func132 rfl Tryz.ntmps132 rfl ?_
 refine go 14 ?_
 refine bu (Le.incT (25,0) rfl) ?_
 refine aj (kJ (b:=true) (25,0) _ _ aa rfl rfl (bN _).symm (.sl rfl) ab rfl rfl rfl (ij _ { k:=k,a:=a,b:=b,c:=c,d:=d }) hl.symm) ?_
 refine go 4 ?_
 exact ax (mV [((2,8),(25,0))])
end
end Go.Proofs.YtmjnackchaahbaaGreat

set_option maxHeartbeats 2000000
namespace Go.Proofs.YtmjnackchaahbaaGreat
open Go.RowKit

section
variable (M:Mk) (s:Ms) (dr se:Int)
theorem Ft (n:Int) (hs:s.stack.length≤90000):
  Spec Tryz.prog 127 (aL [.ptr (0,9) 0, .v (.int .i64 n)] (mA M s dr se)) (aN (.tup []) (mo M { s with stack:=s.stack++[lf n] } dr se (2,8) (3,8) (5,8)) [(0,9),(1,9),(2,8),(3,8),(4,9),(5,8),(6,9)] [(0,9),(1,9),(4,9),(6,9)]):=by
 refine Spec.ofNI Tryz.func127 rfl Tryz.ntmps127 rfl ?_
 refine aD (ef rfl (bW rfl (bu (Le.incT (6,0) rfl) ?_)))
 refine aj (aU aa [((3,8),(6,0))] ar (ev M s dr se n ab) ob tr tr rfl ae ae) ?_
 exact ax (mV [((2,8),(2,9)),((3,8),(6,0)),((5,8),(5,9))])
theorem He (k:Nat) (hk:k < s.vars.length) (hs:s.stack.length≤90000):
  Spec Tryz.prog 128 (aL [.ptr (0,9) 0, .v (.int .i64 (k:Int))] (mA M s dr se)) (aN (.tup []) (mo M { s with stack:=s.stack++[lf (s.vars.getD k 0)] } dr se (2,8) (3,8) (5,8)) [(0,9),(1,9),(2,8),(3,8),(4,9),(5,8),(6,9)] [(0,9),(1,9),(4,9),(6,9)]):=by
 refine Spec.ofNI Tryz.func128 rfl Tryz.ntmps128 rfl ?_
 refine go 8 ?_
 refine aj (bv _ _ aa rfl rfl rfl _ rfl ab (by exact (Nat.zero_add _).trans (Nat.mul_one _))) ?_
 refine aj (cH _ aa rfl rfl (by exact cI _ _ ab) rfl) ?_
 refine bu (Le.incT (13,0) rfl) ?_
 refine aj (aU aa [((3,8),(13,0))] ar (ev M s dr se (s.vars.getD k 0) ab) ob tr tr rfl ae ae) ?_
 exact ax (mV [((2,8),(2,9)),((3,8),(13,0)),((5,8),(5,9))])
theorem Bq (n:Int) (ha:s.acts.length≤90000):
  Spec Tryz.prog 150 (aL [.ptr (0,9) 0, .v (.int .i64 n)] (mA M s dr se)) (aN (.tup []) (mo M { s with acts:=s.acts++[{ k:=4,a:=n }] } dr se (2,8) (3,8) (5,8)) [(0,9),(1,9),(2,8),(3,8),(4,9),(5,8),(6,9)] [(0,9),(1,9),(4,9),(6,9)]):=by
 refine Spec.ofNI Tryz.func150 rfl Tryz.ntmps150 rfl ?_
 refine aD (ef rfl (bW rfl (bu (Le.incT (6,0) rfl) ?_)))
 refine aj (aU aa [((2,8),(6,0))] ar (gg M s dr se 4 n 0 0 0 ab) ob tr tr rfl ae ae) ?_
 exact ax (mV [((2,8),(6,0)),((3,8),(3,9)),((5,8),(5,9))])
theorem AH (n:Int) (ha:s.acts.length≤90000):
  Spec Tryz.prog 151 (aL [.ptr (0,9) 0, .v (.int .i64 n)] (mA M s dr se)) (aN (.tup []) (mo M { s with acts:=s.acts++[{ k:=5,a:=n }] } dr se (2,8) (3,8) (5,8)) [(0,9),(1,9),(2,8),(3,8),(4,9),(5,8),(6,9)] [(0,9),(1,9),(4,9),(6,9)]):=by
 refine Spec.ofNI Tryz.func151 rfl Tryz.ntmps151 rfl ?_
 refine aD (ef rfl (bW rfl (bu (Le.incT (6,0) rfl) ?_)))
 refine aj (aU aa [((2,8),(6,0))] ar (gg M s dr se 5 n 0 0 0 ab) ob tr tr rfl ae ae) ?_
 exact ax (mV [((2,8),(6,0)),((3,8),(3,9)),((5,8),(5,9))])
theorem GI (n:Int) (ha:s.acts.length≤90000):
  Spec Tryz.prog 152 (aL [.ptr (0,9) 0, .v (.int .i64 n)] (mA M s dr se)) (aN (.tup []) (mo M { s with acts:=s.acts++[{ k:=2 }] } dr se (2,8) (3,8) (5,8)) [(0,9),(1,9),(2,8),(3,8),(4,9),(5,8),(6,9)] [(0,9),(1,9),(4,9),(6,9)]):=by
 refine Spec.ofNI Tryz.func152 rfl Tryz.ntmps152 rfl ?_
 refine aD (ef rfl (bu (Le.incT (5,0) rfl) ?_))
 refine aj (aU aa [((2,8),(5,0))] ar (gg M s dr se 2 0 0 0 0 ab) ob tr tr rfl ae ae) ?_
 exact ax (mV [((2,8),(5,0)),((3,8),(3,9)),((5,8),(5,9))])
theorem GF (n:Int):
  Spec Tryz.prog 155 (aL [.ptr (0,9) 0, .v (.int .i64 n)] (mA M s dr se)) (aN (.tup []) (mo M { s with fin:=true } dr se (2,8) (3,8) (5,8)) [(0,9),(1,9),(2,8),(3,8),(4,9),(5,8),(6,9)] [(0,9),(1,9),(4,9),(6,9)]):=by
 refine Spec.ofNI Tryz.func155 rfl Tryz.ntmps155 rfl ?_
 refine go 5 ?_
 exact ax (mV [((2,8),(2,9)),((3,8),(3,9)),((5,8),(5,9))])
theorem FL (n:Nat):
  Spec Tryz.prog 147 (aL [.ptr (0,9) 0, .v (.int .i64 (n:Int))] (mA M s dr se)) (aN (.tup []) (mo M { s with pc:=n } dr se (2,8) (3,8) (5,8)) [(0,9),(1,9),(2,8),(3,8),(4,9),(5,8),(6,9)] [(0,9),(1,9),(4,9),(6,9)]):=by
 refine Spec.ofNI Tryz.func147 rfl Tryz.ntmps147 rfl ?_
 refine go 6 ?_
 exact ax (mV [((2,8),(2,9)),((3,8),(3,9)),((5,8),(5,9))])
theorem Gh (n:Int) (hs:s.stack.length≤90000) (h0:0 < s.stack.length) (hr:Rg (s.top 0)):
  Spec Tryz.prog 141 (aL [.ptr (0,9) 0, .v (.int .i64 n)] (mA M s dr se)) (aN (.tup []) (mo M { s with stack:=s.pop 1++[lf (-(s.top 0))] } dr se (2,8) (3,8) (5,8)) [(0,9),(1,9),(2,8),(3,8),(4,9),(5,8),(6,9)] [(0,9),(1,9),(4,9),(6,9)]):=by
 unfold Rg at hr
 refine Spec.ofNI Tryz.func141 rfl Tryz.ntmps141 rfl ?_
 refine aD (ef rfl (ef rfl (bu (Le.incT (6,0) rfl) ?_)))
 refine aj (aU aa [((3,8),(6,0))] ar (bL M s dr se ab h0) ob tr tr rfl ae ae) ?_
 refine aj (wN (r:= -(s.top 0)) _ rfl (bT ab)) ?_
 refine bu (Le.incT (8,0) rfl) ?_
 refine aj (aU aa [((3,9),(6,0)),((3,8),(8,0))] ar (ev M { s with stack:=s.pop 1 } dr se (-(s.top 0)) (by have:=bE s 1;simp only;omega)) ob tr tr rfl ae ae) ?_
 exact ax (mV [((2,8),(2,9)),((3,8),(8,0)),((5,8),(5,9))])
theorem Co (n:Int) (hs:s.stack.length≤90000) (ha:s.acts.length≤90000) (h0:0 < s.stack.length):
  Spec Tryz.prog 154 (aL [.ptr (0,9) 0, .v (.int .i64 n)] (mA M s dr se)) (aN (.tup []) (mo M { s with stack:=s.pop 1,acts:=s.acts++[{ k:=7,a:=s.top 0 }] } dr se (2,8) (3,8) (5,8)) [(0,9),(1,9),(2,8),(3,8),(4,9),(5,8),(6,9)] [(0,9),(1,9),(4,9),(6,9)]):=by
 refine Spec.ofNI Tryz.func154 rfl Tryz.ntmps154 rfl ?_
 refine aD (ef rfl (ef rfl (bu (Le.incT (6,0) rfl) ?_)))
 refine aj (aU aa [((3,8),(6,0))] ar (bL M s dr se ab h0) ob tr tr rfl ae ae) ?_
 refine bu (Le.incT (7,0) rfl) ?_
 refine aj (aU aa [((3,9),(6,0)),((2,8),(7,0))] ar (gg M { s with stack:=s.pop 1 } dr se 7 (s.top 0) 0 0 0 (by simp only;omega)) ob tr tr rfl ae ae) ?_
 exact ax (mV [((2,8),(7,0)),((3,8),(6,0)),((5,8),(5,9))])
end
end Go.Proofs.YtmjnackchaahbaaGreat

set_option maxHeartbeats 2000000
namespace Go.Proofs.YtmjnackchaahbaaGreat
open Go.RowKit

section
variable (M:Mk) (s:Ms) (dr se:Int)
theorem Bp (k:Nat) (hk:k < s.vars.length) (hs:s.stack.length≤90000) (ha:s.acts.length≤90000) (h0:0 < s.stack.length) (hd:k < M.P.d):
  Spec Tryz.prog 130 (aL [.ptr (0,9) 0, .v (.int .i64 (k:Int))] (mA M s dr se)) (aN (.tup []) (mo M { s with vars:=s.vars.set k (s.top 0),stack:=s.pop 1,acts:=s.acts++[{ k:=1,a:=k,b:=s.top 0 }] } dr se (2,8) (3,8) (5,8)) [(0,9),(1,9),(2,8),(3,8),(4,9),(5,8),(6,9)] [(0,9),(1,9),(4,9),(6,9)]):=by
 have hl:(s.vars.set k (s.top 0)).length=s.vars.length:=List.length_set
 have hg:=cI (s.vars.set k (s.top 0)) k (by rw [hl];exact hk)
 rw [List.getD_eq_getElem?_getD,List.getElem?_set_self hk] at hg
 refine Spec.ofNI Tryz.func130 rfl Tryz.ntmps130 rfl ?_
 refine aE ?_
 refine az (Le.incT (11,0) rfl) ?_
 refine xZ (0,9) (fun c=> ∃ xs,c=Slot.obj (.box 171 xs)∧xs[54]? =some (.ref (1,9) 0 s.vars.length)) 8 [4,5,6,7,8,9,10,11] [(0,9),(1,9),(2,9),(11,0),(4,9),(5,9),(6,9),(3,9)] ae ae rfl (bb rfl) (rfl:_=[_,_,_,_,_,_,_,_]) (rfl:_=[_,_]) (⟨_,rfl,rfl⟩) ?_
 refine fL (_,[]) (fun τ hτ=> cd _ tz) ?_
 refine fM (rfl:_=[_]) ?_
 refine fL (_,[]) (fun τ hτ=> nB _ rfl (by exact hτ.choose_spec.1)) ?_
 refine fM (rfl:_=[_,_]) ?_
 refine fL (_,[]) (fun τ hτ=> di _ aa rfl (by exact hτ.choose_spec.1) rfl) ?_
 refine fM (rfl:_=[_,_,_]) ?_
 refine fL (_,[]) (fun τ hτ=> di _ aa rfl (by exact hτ.choose_spec.1) rfl) ?_
 refine fM (rfl:_=[_,_,_,_]) ?_
 refine fL (_,[]) (fun τ hτ=> bB _ aa rfl (by exact hτ.choose_spec.1) (by exact hτ.choose_spec.2)) ?_
 refine fM (rfl:_=[_,_,_,_,_]) ?_
 refine fL (_,[]) (fun τ hτ=> cd _ rC) ?_
 refine fM (rfl:_=[_,_,_,_,_,_]) ?_
 refine fL (_,[]) (fun τ hτ=> cd _ tz) ?_
 refine fM (rfl:_=[_,_,_,_,_,_,_]) ?_
 refine fL (_,[((0,9),_),((1,9),_),((2,9),_),((11,0),_),((4,9),_),((5,9),_),((6,9),_),((3,9), .gone)]) (fun τ hτ=> (aU aa [((3,8),(11,0))] ar (bL M s dr se ab h0) ob tr tr rfl ae ae)) ?_
 refine fM (rfl:_=[_,_,_,_,_,_,_,_]) ?_
 refine vV ⟨⟨rfl,(by intro r hr c hc;simp only [List.mem_cons,List.not_mem_nil,or_false] at hr;rcases hr with rfl | rfl | rfl | rfl | rfl | rfl | rfl | rfl <;> simp at hc;subst hc;exact ⟨_,rfl,rfl⟩)⟩,?_⟩
 refine aj (bv _ _ aa rfl rfl rfl _ rfl ab (by exact (Nat.zero_add _).trans (Nat.mul_one _))) ?_
 refine aj (eR _ _ aa rfl rfl rfl rfl rfl (by rw [aq];exact hk) (dN s.vars k (s.top 0) hk)) ?_
 refine go 10 ?_
 refine fR rfl (decide_eq_true ab) ?_
 refine az (σ':=an 31 [(0,_),(1,_)] [((0,9),_),((1,9),_),((2,9),_),((4,9),_),((5,9),_),((6,9),_),((11,0),_)] [(0,9),(1,9),(2,9),(4,9),(5,9),(6,9),(11,0)] [(0,9),(1,9),(4,9),(6,9)]) kp ?_
 refine go 9 ?_
 refine aj (bv _ _ aa rfl rfl rfl _ rfl ab (by exact (Nat.zero_add _).trans (Nat.mul_one _))) ?_
 refine aj (cH _ aa rfl rfl (by exact hg) rfl) ?_
 refine bu (Le.incT (30,0) rfl) ?_
 refine aj (aU aa [((3,9),(11,0)),((2,8),(30,0))] ar (gg M { s with vars:=s.vars.set k (s.top 0),stack:=s.pop 1 } dr se 1 (k:Int) (s.top 0) 0 0 (by simp only;omega)) ⟨⟨rfl,⟨_,rfl, .box ag (ai .sl (sM (sM (sM (sM (ai .v (ai .v (ai .sl (wv (wv (ai .v (ai (.fn rfl aK rfl lz) (ai (cf (id:=(1,9)) (id':=(1,9)) rfl hl) lz)))))))))))))⟩,rfl⟩,⟨rfl,⟨_,rfl, .rowE rfl⟩,rfl⟩,⟨rfl,⟨_,rfl, .rowE rfl⟩,rfl⟩,⟨rfl,⟨_,rfl, .rowE rfl⟩,rfl⟩,⟨rfl,⟨_,rfl, .box ag lz⟩,rfl⟩,⟨rfl,⟨_,rfl, .rowE rfl⟩,rfl⟩,⟨rfl,⟨_,rfl, .box ag lz⟩,rfl⟩,trivial⟩ tr tr rfl ae ae) ?_
 exact ax (mV [((2,8),(30,0)),((3,8),(11,0)),((5,8),(5,9))])
theorem Es (k:Nat) (hk:k < s.vars.length) (hs:s.stack.length≤90000) (h0:0 < s.stack.length) (hd:M.P.d≤k):
  Spec Tryz.prog 130 (aL [.ptr (0,9) 0, .v (.int .i64 (k:Int))] (mA M s dr se)) (aN (.tup []) (mo M { s with vars:=s.vars.set k (s.top 0),stack:=s.pop 1 } dr se (2,8) (3,8) (5,8)) [(0,9),(1,9),(2,8),(3,8),(4,9),(5,8),(6,9)] [(0,9),(1,9),(4,9),(6,9)]):=by
 have hl:(s.vars.set k (s.top 0)).length=s.vars.length:=List.length_set
 have hg:=cI (s.vars.set k (s.top 0)) k (by rw [hl];exact hk)
 rw [List.getD_eq_getElem?_getD,List.getElem?_set_self hk] at hg
 refine Spec.ofNI Tryz.func130 rfl Tryz.ntmps130 rfl ?_
 refine aE ?_
 refine az (Le.incT (11,0) rfl) ?_
 refine xZ (0,9) (fun c=> ∃ xs,c=Slot.obj (.box 171 xs)∧xs[54]? =some (.ref (1,9) 0 s.vars.length)) 8 [4,5,6,7,8,9,10,11] [(0,9),(1,9),(2,9),(11,0),(4,9),(5,9),(6,9),(3,9)] ae ae rfl (bb rfl) (rfl:_=[_,_,_,_,_,_,_,_]) (rfl:_=[_,_]) (⟨_,rfl,rfl⟩) ?_
 refine fL (_,[]) (fun τ hτ=> cd _ tz) ?_
 refine fM (rfl:_=[_]) ?_
 refine fL (_,[]) (fun τ hτ=> nB _ rfl (by exact hτ.choose_spec.1)) ?_
 refine fM (rfl:_=[_,_]) ?_
 refine fL (_,[]) (fun τ hτ=> di _ aa rfl (by exact hτ.choose_spec.1) rfl) ?_
 refine fM (rfl:_=[_,_,_]) ?_
 refine fL (_,[]) (fun τ hτ=> di _ aa rfl (by exact hτ.choose_spec.1) rfl) ?_
 refine fM (rfl:_=[_,_,_,_]) ?_
 refine fL (_,[]) (fun τ hτ=> bB _ aa rfl (by exact hτ.choose_spec.1) (by exact hτ.choose_spec.2)) ?_
 refine fM (rfl:_=[_,_,_,_,_]) ?_
 refine fL (_,[]) (fun τ hτ=> cd _ rC) ?_
 refine fM (rfl:_=[_,_,_,_,_,_]) ?_
 refine fL (_,[]) (fun τ hτ=> cd _ tz) ?_
 refine fM (rfl:_=[_,_,_,_,_,_,_]) ?_
 refine fL (_,[((0,9),_),((1,9),_),((2,9),_),((11,0),_),((4,9),_),((5,9),_),((6,9),_),((3,9), .gone)]) (fun τ hτ=> (aU aa [((3,8),(11,0))] ar (bL M s dr se ab h0) ob tr tr rfl ae ae)) ?_
 refine fM (rfl:_=[_,_,_,_,_,_,_,_]) ?_
 refine vV ⟨⟨rfl,(by intro r hr c hc;simp only [List.mem_cons,List.not_mem_nil,or_false] at hr;rcases hr with rfl | rfl | rfl | rfl | rfl | rfl | rfl | rfl <;> simp at hc;subst hc;exact ⟨_,rfl,rfl⟩)⟩,?_⟩
 refine aj (bv _ _ aa rfl rfl rfl _ rfl ab (by exact (Nat.zero_add _).trans (Nat.mul_one _))) ?_
 refine aj (eR _ _ aa rfl rfl rfl rfl rfl (by rw [aq];exact hk) (dN s.vars k (s.top 0) hk)) ?_
 refine go 10 ?_
 refine cK rfl (decide_eq_false ab) ?_
 exact aR (xa (.inl rfl) rfl (Le.outI [((2,8),(2,9)),((3,8),(11,0)),((5,8),(5,9))] [] (.tup rfl aK) rfl rfl rfl trivial ⟨⟨rfl,⟨_,rfl, .box rfl (ai .sl (sM (sM (sM (sM (ai .v (ai .v (ai .sl (wv (wv (ai .v (ai (.fn rfl aK rfl lz) (ai (cf rfl hl) lz)))))))))))))⟩,rfl⟩,⟨rfl,⟨_,rfl, .rowE rfl⟩,rfl⟩,⟨rfl,⟨_,rfl, .rowE rfl⟩,rfl⟩,⟨rfl,⟨_,rfl, .rowE rfl⟩,rfl⟩,⟨rfl,⟨_,rfl, .box rfl lz⟩,rfl⟩,⟨rfl,⟨_,rfl, .rowE rfl⟩,rfl⟩,⟨rfl,⟨_,rfl, .box rfl lz⟩,rfl⟩,trivial⟩ tr rfl))
end
end Go.Proofs.YtmjnackchaahbaaGreat

set_option maxHeartbeats 2000000
namespace Go.Proofs.YtmjnackchaahbaaGreat
open Go.RowKit

section
variable (M:Mk) (s:Ms) (dr se:Int)
theorem JL (ac st:aA) (k:Nat) (hk:k < 9):(Od M s dr se ac st)[44+k]? =some (.v (.int .i64 (M.nm k))):=by
 rcases k with _ | _ | _ | _ | _ | _ | _ | _ | _ | k
 all_goals first | rfl | omega
theorem fv (j k:Nat) (h:j+k < s.stack.length):({ s with stack:=s.pop k }:Ms).top j=s.top (j+k):=by
 unfold Ms.top Ms.pop
 simp only [List.length_take]
 rw [List.getD_eq_getElem?_getD,List.getD_eq_getElem?_getD,List.getElem?_take_of_lt ab]
 congr 2;omega
theorem fl (j k:Nat):({ s with stack:=s.pop k }:Ms).pop j=s.pop (j+k):=by
 unfold Ms.pop
 simp only [List.length_take,List.take_take]
 congr 1;omega
theorem CY (k:Nat) (hk:k < 9) (hs:s.stack.length≤90000):
  Spec Tryz.prog 133 (aL [.ptr (0,9) 0, .v (.int .i64 (k:Int))] (mA M s dr se)) (aN (.tup []) (mo M { s with stack:=s.stack++[lf (M.nm k)] } dr se (2,8) (3,8) (5,8)) [(0,9),(1,9),(2,8),(3,8),(4,9),(5,8),(6,9)] [(0,9),(1,9),(4,9),(6,9)]):=by
 refine Spec.ofNI Tryz.func133 rfl Tryz.ntmps133 rfl ?_
 refine go 7 ?_
 refine aj (bJ _ _ aa rfl rfl rfl k rfl ab (by exact congrArg (fun z=> 0+43+1+z) (Nat.mul_one k))) ?_
 refine aj (bB _ aa rfl rfl (by exact (congrArg (fun z=> (Od M s dr se (2,9) (3,9))[z]?) ab).trans (JL M s dr se (2,9) (3,9) k hk))) ?_
 refine bu (Le.incT (12,0) rfl) ?_
 refine aj (aU aa [((3,8),(12,0))] ar (ev M s dr se (M.nm k) ab) ob tr tr rfl ae ae) ?_
 exact ax (mV [((2,8),(2,9)),((3,8),(12,0)),((5,8),(5,9))])
theorem GO (n:Nat) (hs:s.stack.length≤90000) (h0:0 < s.stack.length) (hc:s.top 0=0):
  Spec Tryz.prog 148 (aL [.ptr (0,9) 0, .v (.int .i64 (n:Int))] (mA M s dr se)) (aN (.tup []) (mo M { s with stack:=s.pop 1,pc:=n } dr se (2,8) (3,8) (5,8)) [(0,9),(1,9),(2,8),(3,8),(4,9),(5,8),(6,9)] [(0,9),(1,9),(4,9),(6,9)]):=by
 refine Spec.ofNI Tryz.func148 rfl Tryz.ntmps148 rfl ?_
 refine aG (ef rfl (bu (Le.incT (5,0) rfl) ?_))
 refine aj (aU aa [((3,8),(5,0))] ar (bL M s dr se ab h0) ob tr tr rfl ae ae) ?_
 refine aj (ba _ _ rfl rfl rfl) (am (fR rfl (decide_eq_true hc) ?_))
 refine go 6 ?_
 exact ax (mV [((2,8),(2,9)),((3,8),(5,0)),((5,8),(5,9))])
theorem FA (n:Int) (hs:s.stack.length≤90000) (h0:0 < s.stack.length) (hc:s.top 0=0):
  Spec Tryz.prog 146 (aL [.ptr (0,9) 0, .v (.int .i64 n)] (mA M s dr se)) (aN (.tup []) (mo M { s with stack:=s.pop 1++[1] } dr se (2,8) (3,8) (5,8)) [(0,9),(1,9),(2,8),(3,8),(4,9),(5,8),(6,9)] [(0,9),(1,9),(4,9),(6,9)]):=by
 rw [show (1:Int)=lf 1 from ah]
 refine Spec.ofNI Tryz.func146 rfl Tryz.ntmps146 rfl ?_
 refine aG (ef rfl (bu (Le.incT (5,0) rfl) ?_))
 refine aj (aU aa [((3,8),(5,0))] ar (bL M s dr se ab h0) ob tr tr rfl ae ae) ?_
 refine aj (ba _ _ rfl rfl rfl) (am (fR rfl (decide_eq_true hc) ?_))
 refine aD (ef rfl (bu (Le.incT (8,0) rfl) ?_))
 refine aj (aU aa [((3,9),(5,0)),((3,8),(8,0))] ar (ev M { s with stack:=s.pop 1 } dr se 1 (by have:=bE s 1;simp only;omega)) ob tr tr rfl ae ae) ?_
 exact ax (mV [((2,8),(2,9)),((3,8),(8,0)),((5,8),(5,9))])
theorem HD (n:Nat) (hs:s.stack.length≤90000) (h0:0 < s.stack.length) (hc:s.top 0≠0):
  Spec Tryz.prog 148 (aL [.ptr (0,9) 0, .v (.int .i64 (n:Int))] (mA M s dr se)) (aN (.tup []) (mo M { s with stack:=s.pop 1 } dr se (2,8) (3,8) (5,8)) [(0,9),(1,9),(2,8),(3,8),(4,9),(5,8),(6,9)] [(0,9),(1,9),(4,9),(6,9)]):=by
 refine Spec.ofNI Tryz.func148 rfl Tryz.ntmps148 rfl ?_
 refine aG (ef rfl (bu (Le.incT (5,0) rfl) ?_))
 refine aj (aU aa [((3,8),(5,0))] ar (bL M s dr se ab h0) ob tr tr rfl ae ae) ?_
 refine aj (ba _ _ rfl rfl rfl) (am (cK rfl (decide_eq_false hc) ?_))
 exact aR (mV [((2,8),(2,9)),((3,8),(5,0)),((5,8),(5,9))])
theorem Gm (n:Int) (hs:s.stack.length≤90000) (h0:0 < s.stack.length) (hc:s.top 0≠0):
  Spec Tryz.prog 146 (aL [.ptr (0,9) 0, .v (.int .i64 n)] (mA M s dr se)) (aN (.tup []) (mo M { s with stack:=s.pop 1++[0] } dr se (2,8) (3,8) (5,8)) [(0,9),(1,9),(2,8),(3,8),(4,9),(5,8),(6,9)] [(0,9),(1,9),(4,9),(6,9)]):=by
 rw [show (0:Int)=lf 0 from ah]
 refine Spec.ofNI Tryz.func146 rfl Tryz.ntmps146 rfl ?_
 refine aG (ef rfl (bu (Le.incT (5,0) rfl) ?_))
 refine aj (aU aa [((3,8),(5,0))] ar (bL M s dr se ab h0) ob tr tr rfl ae ae) ?_
 refine aj (ba _ _ rfl rfl rfl) (am (cK rfl (decide_eq_false hc) ?_))
 refine aD (ef rfl (bu (Le.incT (10,0) rfl) ?_))
 refine aj (aU aa [((3,9),(5,0)),((3,8),(10,0))] ar (ev M { s with stack:=s.pop 1 } dr se 0 (by have:=bE s 1;simp only;omega)) ob tr tr rfl ae ae) ?_
 exact ax (mV [((2,8),(2,9)),((3,8),(10,0)),((5,8),(5,9))])
theorem Dr (n:Int) (hs:s.stack.length≤90000) (ha:s.acts.length≤90000) (h2:2≤s.stack.length):
  Spec Tryz.prog 153 (aL [.ptr (0,9) 0, .v (.int .i64 n)] (mA M s dr se)) (aN (.tup []) (mo M { s with stack:=s.pop 2,acts:=s.acts++[{ k:=6,a:=s.top 1,b:=s.top 0 }] } dr se (2,8) (3,8) (5,8)) [(0,9),(1,9),(2,8),(3,8),(4,9),(5,8),(6,9)] [(0,9),(1,9),(4,9),(6,9)]):=by
 have h2x:=bL M { s with stack:=s.pop 1 } dr se (by have:=bE s 1;simp only;omega) (by have:=bE s 1;simp only;omega)
 rw [fv s 0 1 ab,fl] at h2x
 refine Spec.ofNI Tryz.func153 rfl Tryz.ntmps153 rfl ?_
 refine aG (ef rfl (bu (Le.incT (6,0) rfl) ?_))
 refine aj (aU aa [((3,8),(6,0))] ar (bL M s dr se ab ab) ob tr tr rfl ae ae) ?_
 refine go 5 ?_
 refine bu (Le.incT (9,0) rfl) ?_
 refine aj (aU aa [((3,9),(6,0)),((3,8),(9,0))] ar (h2x) ob tr tr rfl ae ae) ?_
 refine bW rfl (bu (Le.incT (11,0) rfl) ?_)
 refine aj (aU aa [((3,9),(9,0)),((2,8),(11,0))] ar (gg M { s with stack:=s.pop 2 } dr se 6 (s.top 1) (s.top 0) 0 0 (by simp only;omega)) ob tr tr rfl ae ae) ?_
 exact ax (mV [((2,8),(11,0)),((3,8),(9,0)),((5,8),(5,9))])
end
end Go.Proofs.YtmjnackchaahbaaGreat

set_option maxHeartbeats 2000000
namespace Go.Proofs.YtmjnackchaahbaaGreat
open Go.RowKit

section
variable (M:Mk) (s:Ms) (dr se:Int)
set_option maxHeartbeats 2000000 in
theorem Fq (n:Int) (hs:s.stack.length≤90000) (ha:s.acts.length≤90000) (h0:3≤s.stack.length) (hse: -100≤se) (h1:0≤s.top 2) (h2:s.top 2 < M.nm 1) (h3:se < 20):
  Spec Tryz.prog 149 (aL [.ptr (0,9) 0, .v (.int .i64 n)] (mA M s dr se)) (aN (.tup []) (mo M { s with stack:=s.pop 3,acts:=s.acts++[{ k:=3,a:=s.top 2,b:=n,c:=s.top 1,d:=s.top 0 }] } dr (se+1) (2,8) (3,8) (5,8)) [(0,9),(1,9),(2,8),(3,8),(4,9),(5,8),(6,9)] [(0,9),(1,9),(4,9),(6,9)]):=by
 have h2x:=bL M { s with stack:=s.pop 1 } dr se (by have:=bE s 1;simp only;omega) (by have:=bE s 1;simp only;omega)
 rw [fv s 0 1 ab,fl,Nat.zero_add] at h2x
 have h3x:=bL M { s with stack:=s.pop 2 } dr se (by have:=bE s 2;simp only;omega) (by have:=bE s 2;simp only;omega)
 rw [fv s 0 2 ab,fl,Nat.zero_add] at h3x
 refine Spec.ofNI Tryz.func149 rfl Tryz.ntmps149 rfl ?_
 refine aG (ef rfl (bu (Le.incT (8,0) rfl) ?_))
 refine aj (aU aa [((3,8),(8,0))] ar (bL M s dr se ab ab) ob tr tr rfl ae ae) ?_
 refine ef rfl (bu (Le.incT (10,0) rfl) ?_)
 refine aj (aU aa [((3,9),(8,0)),((3,8),(10,0))] ar (h2x) ob tr tr rfl ae ae) ?_
 refine ef rfl (bu (Le.incT (12,0) rfl) ?_)
 refine aj (aU aa [((3,9),(10,0)),((3,8),(12,0))] ar (h3x) ob tr tr rfl ae ae) ?_
 refine go 6 ?_
 refine aj (ez (r:=true) _ _ rfl rfl (decide_eq_true ab)) ?_
 refine go 6 ?_
 refine aV rfl rfl (bJ _ _ aa rfl rfl rfl 1 rfl ab ag) ?_
 refine go 1 ?_
 refine aV rfl rfl (cZ (r:=true) _ _ rfl rfl (decide_eq_true ab)) ?_
 refine go 6 ?_
 refine aV rfl rfl (cZ (r:=true) _ _ rfl rfl (decide_eq_true ab)) ?_
 refine go 3 ?_
 refine aE ?_
 refine az (σ':=an 45 [(0,_),(1,_),(4,_),(5,_),(6,_)] [((0,9),_),((1,9),_),((2,9),_),((4,9),_),((5,9),_),((6,9),_),((12,0),_)] [(0,9),(1,9),(2,9),(4,9),(5,9),(6,9),(12,0)] [(0,9),(1,9),(4,9),(6,9)]) kp ?_
 refine go 5 ?_
 refine aj (eT (r:=se+1) _ _ rfl rfl (bT ab)) ?_
 refine go 10 ?_
 refine bu (Le.incT (44,0) rfl) ?_
 refine aj (aU aa [((3,9),(12,0)),((2,8),(44,0))] ar (gg M { s with stack:=s.pop 3 } dr (se+1) 3 (s.top 2) n (s.top 1) (s.top 0) (by simp only;omega)) ob tr tr rfl ae ae) ?_
 exact ax (mV [((2,8),(44,0)),((3,8),(12,0)),((5,8),(5,9))])
set_option maxHeartbeats 2000000 in
theorem BU (n:Int) (hs:s.stack.length≤90000) (ha:s.acts.length≤90000) (h0:3≤s.stack.length) (hse: -100≤se) (h1:s.top 2 < 0):
  Spec Tryz.prog 149 (aL [.ptr (0,9) 0, .v (.int .i64 n)] (mA M s dr se)) (aN (.tup []) (mo M { s with stack:=s.pop 3 } dr se (2,8) (3,8) (5,8)) [(0,9),(1,9),(2,8),(3,8),(4,9),(5,8),(6,9)] [(0,9),(1,9),(4,9),(6,9)]):=by
 have h2x:=bL M { s with stack:=s.pop 1 } dr se (by have:=bE s 1;simp only;omega) (by have:=bE s 1;simp only;omega)
 rw [fv s 0 1 ab,fl,Nat.zero_add] at h2x
 have h3x:=bL M { s with stack:=s.pop 2 } dr se (by have:=bE s 2;simp only;omega) (by have:=bE s 2;simp only;omega)
 rw [fv s 0 2 ab,fl,Nat.zero_add] at h3x
 refine Spec.ofNI Tryz.func149 rfl Tryz.ntmps149 rfl ?_
 refine aG (ef rfl (bu (Le.incT (8,0) rfl) ?_))
 refine aj (aU aa [((3,8),(8,0))] ar (bL M s dr se ab ab) ob tr tr rfl ae ae) ?_
 refine ef rfl (bu (Le.incT (10,0) rfl) ?_)
 refine aj (aU aa [((3,9),(8,0)),((3,8),(10,0))] ar (h2x) ob tr tr rfl ae ae) ?_
 refine ef rfl (bu (Le.incT (12,0) rfl) ?_)
 refine aj (aU aa [((3,9),(10,0)),((3,8),(12,0))] ar (h3x) ob tr tr rfl ae ae) ?_
 refine go 6 ?_
 refine aj (ez (r:=false) _ _ rfl rfl (decide_eq_false ab)) ?_
 refine go 19 ?_
 exact aR (mV [((2,8),(2,9)),((3,8),(12,0)),((5,8),(5,9))])
set_option maxHeartbeats 2000000 in
theorem Di (n:Int) (hs:s.stack.length≤90000) (ha:s.acts.length≤90000) (h0:3≤s.stack.length) (hse: -100≤se) (h1:0≤s.top 2) (h2:M.nm 1≤s.top 2):
  Spec Tryz.prog 149 (aL [.ptr (0,9) 0, .v (.int .i64 n)] (mA M s dr se)) (aN (.tup []) (mo M { s with stack:=s.pop 3 } dr se (2,8) (3,8) (5,8)) [(0,9),(1,9),(2,8),(3,8),(4,9),(5,8),(6,9)] [(0,9),(1,9),(4,9),(6,9)]):=by
 have h2x:=bL M { s with stack:=s.pop 1 } dr se (by have:=bE s 1;simp only;omega) (by have:=bE s 1;simp only;omega)
 rw [fv s 0 1 ab,fl,Nat.zero_add] at h2x
 have h3x:=bL M { s with stack:=s.pop 2 } dr se (by have:=bE s 2;simp only;omega) (by have:=bE s 2;simp only;omega)
 rw [fv s 0 2 ab,fl,Nat.zero_add] at h3x
 refine Spec.ofNI Tryz.func149 rfl Tryz.ntmps149 rfl ?_
 refine aG (ef rfl (bu (Le.incT (8,0) rfl) ?_))
 refine aj (aU aa [((3,8),(8,0))] ar (bL M s dr se ab ab) ob tr tr rfl ae ae) ?_
 refine ef rfl (bu (Le.incT (10,0) rfl) ?_)
 refine aj (aU aa [((3,9),(8,0)),((3,8),(10,0))] ar (h2x) ob tr tr rfl ae ae) ?_
 refine ef rfl (bu (Le.incT (12,0) rfl) ?_)
 refine aj (aU aa [((3,9),(10,0)),((3,8),(12,0))] ar (h3x) ob tr tr rfl ae ae) ?_
 refine go 6 ?_
 refine aj (ez (r:=true) _ _ rfl rfl (decide_eq_true ab)) ?_
 refine go 6 ?_
 refine aV rfl rfl (bJ _ _ aa rfl rfl rfl 1 rfl ab ag) ?_
 refine go 1 ?_
 refine aV rfl rfl (cZ (r:=false) _ _ rfl rfl (decide_eq_false ab)) ?_
 refine go 10 ?_
 exact aR (mV [((2,8),(2,9)),((3,8),(12,0)),((5,8),(5,9))])
set_option maxHeartbeats 2000000 in
theorem EO (n:Int) (hs:s.stack.length≤90000) (ha:s.acts.length≤90000) (h0:3≤s.stack.length) (hse: -100≤se) (h1:0≤s.top 2) (h2:s.top 2 < M.nm 1) (h3:20≤se):
  Spec Tryz.prog 149 (aL [.ptr (0,9) 0, .v (.int .i64 n)] (mA M s dr se)) (aN (.tup []) (mo M { s with stack:=s.pop 3 } dr se (2,8) (3,8) (5,8)) [(0,9),(1,9),(2,8),(3,8),(4,9),(5,8),(6,9)] [(0,9),(1,9),(4,9),(6,9)]):=by
 have h2x:=bL M { s with stack:=s.pop 1 } dr se (by have:=bE s 1;simp only;omega) (by have:=bE s 1;simp only;omega)
 rw [fv s 0 1 ab,fl,Nat.zero_add] at h2x
 have h3x:=bL M { s with stack:=s.pop 2 } dr se (by have:=bE s 2;simp only;omega) (by have:=bE s 2;simp only;omega)
 rw [fv s 0 2 ab,fl,Nat.zero_add] at h3x
 refine Spec.ofNI Tryz.func149 rfl Tryz.ntmps149 rfl ?_
 refine aG (ef rfl (bu (Le.incT (8,0) rfl) ?_))
 refine aj (aU aa [((3,8),(8,0))] ar (bL M s dr se ab ab) ob tr tr rfl ae ae) ?_
 refine ef rfl (bu (Le.incT (10,0) rfl) ?_)
 refine aj (aU aa [((3,9),(8,0)),((3,8),(10,0))] ar (h2x) ob tr tr rfl ae ae) ?_
 refine ef rfl (bu (Le.incT (12,0) rfl) ?_)
 refine aj (aU aa [((3,9),(10,0)),((3,8),(12,0))] ar (h3x) ob tr tr rfl ae ae) ?_
 refine go 6 ?_
 refine aj (ez (r:=true) _ _ rfl rfl (decide_eq_true ab)) ?_
 refine go 6 ?_
 refine aV rfl rfl (bJ _ _ aa rfl rfl rfl 1 rfl ab ag) ?_
 refine go 1 ?_
 refine aV rfl rfl (cZ (r:=true) _ _ rfl rfl (decide_eq_true ab)) ?_
 refine go 6 ?_
 refine aV rfl rfl (cZ (r:=false) _ _ rfl rfl (decide_eq_false ab)) ?_
 refine go 3 ?_
 exact aR (mV [((2,8),(2,9)),((3,8),(12,0)),((5,8),(5,9))])
abbrev pB (t:Tl) (kind idx k r:Int):Prop:=Spec Tryz.prog 87 (aI [.sl t.na t.A, .agg [.v (.int .i64 t.c1), .v (.int .i64 t.c2), .v (.int .i64 t.c3), .v (.int .i64 kind), .v (.int .i64 idx)], .v (.int .i64 k)] []) (aC (.v (.int .i64 r)) [])
structure Ao (M:Mk):Prop where
 np:M.t.np≤10
 pl:M.t.pre.length=M.t.np*7
 lk: ∀ (i:Nat) (k:Int),i≤100000→2≤k→k≤4→pB M.t 1 (i:Int) k (ee M.ans i k)
end
theorem oI (t:Tl) (kind idx k r:Int) (n:Nat) (L:List PV) (hL:L.length=n*7) (hn:n≤200000) (hk:0 < k) (hlk:pB t kind idx k r):
  Spec Tryz.prog 54 (aL [.ptr (4,9) 0, .v (.int .i64 kind), .v (.int .i64 idx), .v (.int .i64 k)] (pN t n L (5,9))) (aN (.v (.int .i64 r)) (pN t (n+1) (L++pZ t kind idx k r) (5,8)) [(4,9),(5,8)] [(4,9)]):=by
 refine Spec.ofNI Tryz.func54 rfl Tryz.ntmps54 rfl ?_
 refine go 22 ?_
 refine fR rfl (decide_eq_true ab) ?_
 refine az (σ':=an 41 [(0,_),(3,_),(9,_)] [((4,9),_),((5,9),_),((9,0),_)] [(4,9),(5,9)] [(4,9)]) kp ?_
 refine dA 8 [] ?_
 refine go 12 ?_
 refine aB (_,[]) (fun τ=> (ap aa al (hlk) rfl rfl)) ?_
 refine go 5 ?_
 refine aE ?_
 refine az (σ':=an 41 [(0,_),(3,_),(9,_),(10,_)] [((4,9),_),((5,9),_),((9,0),_)] [(4,9),(5,9)] [(4,9)]) kp ?_
 refine az (Le.incT (37,0) rfl) ?_
 refine hG 11 [27,28,29,30,31,32,33,34,35,36,37] [(5,9),(37,0)] [[],[],[],[(5,9)],[(5,9)],[],[],[],[(5,9)],[(5,9)],[]] ae ae rfl (bb rfl) (rfl:_=[_,_,_,_,_,_,_,_,_,_,_]) (rfl:_=[_,_,_]) ?_
 refine go 20 ?_
 refine aB (_,[((5,9), .gone),((37,0),_)]) (fun τ=> kJ (b:=true) (37,0) _ _ aa rfl (em rfl (by exact dB) rfl) hL.symm (.sl rfl) ab rfl rfl rfl rfl rfl) ?_
 refine go 10 ?_
 exact au (cg (.inr rfl) rfl (.tmp kU) (Le.outI [((5,8),(37,0))] [] .v rfl rfl rfl trivial ob tr rfl))
theorem BZ (t:Tl) (idx k r:Int) (n:Nat) (L:List PV) (hL:L.length=n*7) (hn:n≤200000) (hk:0 < k) (hlk:pB t 1 idx k r):
  Spec Tryz.prog 113 (aL [.v (.int .i64 idx), .v (.int .i64 k), .ptr (6,9) 0] (Bi t n L (5,9))) (aN (.v (.int .i64 r)) (Bi t (n+1) (L++pZ t 1 idx k r) (5,8)) [(4,9),(5,8),(6,9)] [(4,9),(6,9)]):=by
 have h:=oI t 1 idx k r n L hL hn hk hlk
 refine Spec.ofNI Tryz.func113 rfl Tryz.ntmps113 rfl ?_
 refine go 7 ?_
 refine bu (Le.incT (9,0) rfl) ?_
 refine aj (jh rfl aa [((5,8),(9,0))] ar (h) ob tr tr rfl ae ae) ?_
 exact cC rfl (am (au (cg (.inr rfl) rfl (.tmp kU) (Le.outI [((5,8),(9,0))] [] .v rfl rfl rfl trivial ob tr rfl))))
end Go.Proofs.YtmjnackchaahbaaGreat

set_option maxHeartbeats 2000000
namespace Go.Proofs.YtmjnackchaahbaaGreat
open Go.RowKit

structure An where
 a:Int
 b:Int
 c:Int
 k:Int
 i:Int
 n:Int
def EY (x:An):List PV:=[.v (.int .i64 x.a), .v (.int .i64 x.b), .v (.int .i64 x.c), .v (.int .i64 x.k), .v (.int .i64 x.i), .v (.int .i64 x.n)]
def ng (l:List An):List PV:=l.flatMap EY
def mY (l:List An) (k:Nat):An:=l.getD k ⟨0,0,0,0,0,0⟩
theorem cJ (l:List An):(ng l).length=l.length*6:=gQ EY 6 (fun _=> rfl) l
theorem tH (l:List An) (k:Nat) (h:k < l.length):mY l k=l[k]:=by unfold mY;rw [List.getD_eq_getElem?_getD,List.getElem?_eq_getElem h];rfl
theorem Bz (l:List An) (k:Nat) (h:k < l.length):(ng l)[k*6+5]? =some (.v (.int .i64 (mY l k).n)):=by
 rw [tH l k h];exact jP EY 6 (fun _=> rfl) l k 5 h ab
theorem yy (l:List An) (k:Nat) (h:k < l.length):((ng l).drop (k*6)).take 6=EY (mY l k):=by
 rw [tH l k h];exact kX EY 6 (fun _=> rfl) l k h
theorem DH (l:List An) (k:Nat) (h:k < l.length):PV.ups (((ng l).drop (k*6+0)).take 5)=[.v (.int .i64 (mY l k).a), .v (.int .i64 (mY l k).b), .v (.int .i64 (mY l k).c), .v (.int .i64 (mY l k).k), .v (.int .i64 (mY l k).i)]:=by
 have e:((ng l).drop (k*6+0)).take 5=(((ng l).drop (k*6)).take 6).take 5:=by rw [List.take_take];rfl
 rw [e,yy l k h];rfl
theorem BH (l:List An) (x:An):ng l++EY x=ng (l++[x]):=jE EY l x
def oU (l:List An) (a b c k i:Int):Int:=l.foldl (fun n x=> if (x.a=a∧x.b=b∧x.c=c)∧x.k=k∧x.i=i then max x.n 0 else n) 0
theorem Ap (l:List An) (a b c k i:Int) {j:Nat} (h:j < l.length):oU (l.take (j+1)) a b c k i=if ((mY l j).a=a∧(mY l j).b=b∧(mY l j).c=c)∧(mY l j).k=k∧(mY l j).i=i then max (mY l j).n 0 else oU (l.take j) a b c k i:=by
 have e:l.take (j+1)=l.take j++[mY l j]:=by rw [List.take_add_one,List.getElem?_eq_getElem h,tH l j h];rfl
 rw [e];unfold oU;rw [List.foldl_append];rfl
theorem yG (a b c k i:Int): ∀ (l:List An) (n:Int),0≤n→0≤l.foldl (fun n x=> if (x.a=a∧x.b=b∧x.c=c)∧x.k=k∧x.i=i then max x.n 0 else n) n
 | [],_,h=> h
 | x::l,n,h=> yG a b c k i l _ (by simp only;split <;> omega)
theorem ox (l:List An) (hl:l.length≤1000000) (a b c k i:Int):
  Spec Tryz.prog 119 (aI [.sl l.length (ng l), .agg [.v (.int .i64 a), .v (.int .i64 b), .v (.int .i64 c), .v (.int .i64 k), .v (.int .i64 i)]] []) (aC (.v (.int .i64 (oU l a b c k i))) []):=by
 refine Spec.ofN Tryz.func119 rfl Tryz.ntmps119 rfl ?_
 refine go 7 ?_
 refine aF fun K3 hK3=> ?_
 refine aG (cC rfl (am (aH ?_)))
 refine aT (α:=Nat) (fun j=> j≤l.length) 27 [(0,_),(3,_)] [((3,0),_)] (fun j=> [(5, .v (.int .i64 (oU (l.take j) a b c k i))),(6, .v (.int .i64 (j:Int)))]) (fun j=> []) [] [] (fun j=> l.length - j) 0 ?_ (kj [0] [] []) ?_
 ·omega
 intro j hj
 refine aF fun K5 hK5=> ?_
 refine go 6 ?_
 refine ay rfl (fun hc10=> ?_) (fun hc10=> ?_)
 ·have hq:=DH l j ab
  have hv:=Ap l a b c k i (j:=j) ab
  refine aR (hK5 _ ?_)
  refine aE (aH (aE ?_))
  refine az (σ':=an 27 [(0,_),(3,_),(5,_),(6,_)] [((3,0),_)] [] []) kp ?_
  refine dA 7 [] ?_
  refine go 4 ?_
  refine aB (_,[]) (fun τ=> aO _ _ aa rfl rfl _ rfl ab (by (simp only [aq,aJ,aM,aq,cJ];omega)) ag) ?_
  refine go 3 ?_
  refine aB (_,[]) (fun τ=> bn _ aa rfl (by exact hq) rfl) ?_
  refine go 3 ?_
  refine aB (_,[]) (fun τ=> IZ _ _ rfl rfl rfl) ?_
  refine go 1 ?_
  refine cq ⟨rfl,?_⟩
  refine am (ay rfl (fun hc19=> ?_) (fun hc19=> ?_))
  ·rw [if_pos hc19] at hv
   refine aD (gR rfl (bW rfl (aj (aO _ _ aa rfl rfl _ rfl ab (by (simp only [aq,aJ,aM,aq,cJ];omega)) ag) ?_)))
   refine aj (ej _ aa rfl rfl) (aj (bl _ aa rfl (by exact Bz _ _ ab) rfl) ?_)
   refine aj (qv _ _ rfl rfl rfl) (go 6 ?_)
   refine ax (⟨j+1,?_,?_,?_⟩)
   ·omega
   ·refine Le.mkJ [] [] rfl ?_ ?_ trivial trivial ?_
    ·exact ⟨(iS rfl),(iP rfl),(bj ab),(bj ag),trivial⟩
    ·exact ⟨(bU rfl rfl rfl),trivial⟩
    kernel_rfl
   omega
  rw [if_neg hc19] at hv
  refine go 5 ?_
  refine ax (⟨j+1,?_,?_,?_⟩)
  ·omega
  ·refine Le.mkJ [] [] rfl ?_ ?_ trivial trivial ?_
   ·exact ⟨(iS rfl),(iP rfl),(bj ab),(bj ag),trivial⟩
   ·exact ⟨(bU rfl rfl rfl),trivial⟩
   kernel_rfl
  omega
 obtain rfl:j=l.length:=by omega
 refine aW (id (hK3 _ ?_))
 exact aG (bW rfl (cC rfl (am (au (cg (.inr rfl) rfl (.tmp rC) (Le.out [] [] (bj (by rw [List.take_length])) rfl rfl rfl trivial trivial))))))
theorem ic (l:List An) (hl:l.length≤1000000) (a b c k i:Int) (q:Int) (hq:0 < q):
  Spec Tryz.prog 87 (aI [.sl l.length (ng l), .agg [.v (.int .i64 a), .v (.int .i64 b), .v (.int .i64 c), .v (.int .i64 k), .v (.int .i64 i)], .v (.int .i64 q)] []) (aC (.v (.int .i64 (oU l a b c k i % q))) []):=by
 have hv:=ox l hl a b c k i
 have h0:=yG a b c k i l 0 (Int.le_refl 0)
 refine Spec.ofN Tryz.func87 rfl Tryz.ntmps87 rfl ?_
 refine go 7 ?_
 refine aj (ap aa al (hv) rfl rfl) ?_
 refine bW rfl (aj (dh _ _ rfl rfl ab (Int.tmod_eq_emod_of_nonneg h0)) ?_)
 exact cC rfl (am (au (dU rfl rfl)))
def gV (a b c k:Int) (l:List Int):List An:=(List.range l.length).map fun (i:Nat)=> ⟨a,b,c,k,(i:Int),l.getD i 0⟩
def eJ (a b c tick:Int) (draws keeps:List Int):List An:=[⟨a,b,c,2,0,tick⟩]++gV a b c 1 draws++gV a b c 3 keeps
theorem ik (a b c k:Int) (l:List Int):(gV a b c k l).length=l.length:=by simp [gV]
theorem km (a b c tick:Int) (draws keeps:List Int):(eJ a b c tick draws keeps).length=1+draws.length+keeps.length:=by simp [eJ,ik];omega
theorem oJ (a b c k:Int) (l:List Int) {j:Nat} (h:j < l.length):gV a b c k (l.take (j+1))=gV a b c k (l.take j)++[⟨a,b,c,k,(j:Int),l.getD j 0⟩]:=by
 have e1:(l.take (j+1)).length=j+1:=by rw [List.length_take];omega
 have e2:(l.take j).length=j:=by rw [List.length_take];omega
 unfold gV
 rw [e1,e2,List.range_succ,List.map_append]
 congr 1
 ·apply List.map_congr_left
  intro i hi
  have hi:=List.mem_range.1 hi
  have e:(l.take (j+1)).getD i 0=(l.take j).getD i 0:=by
   rw [List.getD_eq_getElem?_getD,List.getD_eq_getElem?_getD,List.getElem?_take_of_lt ab,List.getElem?_take_of_lt hi]
  rw [e]
 have e:(l.take (j+1)).getD j 0=l.getD j 0:=by
  rw [List.getD_eq_getElem?_getD,List.getD_eq_getElem?_getD,List.getElem?_take_of_lt ab]
 simp [e]
theorem kM {a b c k k' i:Int} (hk:k'≠k): ∀ (l:List Int) (n:Int),(gV a b c k' l).foldl (fun n x=> if (x.a=a∧x.b=b∧x.c=c)∧x.k=k∧x.i=i then max x.n 0 else n) n=n:=by
 intro l n
 have: ∀ (L:List An),(∀ x∈L,x.k≠k)→ ∀ n:Int,L.foldl (fun n x=> if (x.a=a∧x.b=b∧x.c=c)∧x.k=k∧x.i=i then max x.n 0 else n) n=n:=by
  intro L
  induction L with
  | nil=> intros;rfl
  | cons x L ih=> intro h n;rw [List.foldl_cons,if_neg (fun e=> h x List.mem_cons_self e.2.1)];exact ih (fun y hy=> h y (List.mem_cons_of_mem _ hy)) n
 refine this _ (fun x hx=> ?_) n
 obtain ⟨j,_,rfl⟩:=List.mem_map.1 hx
 exact hk
theorem oD {a b c k:Int} (l:List Int) (i:Nat): ∀ (m:Nat) (n:Int),m≤l.length→(gV a b c k (l.take m)).foldl (fun n x=> if (x.a=a∧x.b=b∧x.c=c)∧x.k=k∧x.i=(i:Int) then max x.n 0 else n) n=if i < m then max (l.getD i 0) 0 else n
 | 0,n,_=> by simp [gV]
 | m+1,n,h=> by
  rw [oJ a b c k l ab,List.foldl_append,oD l i m n ab]
  simp only [List.foldl_cons,List.foldl_nil]
  by_cases e:i=m
  ·subst e;simp
  have e2: ¬ ((m:Int)=(i:Int)):=by omega
  rw [if_neg (fun h=> e2 h.2.2)]
  by_cases h2:i < m
  ·rw [if_pos h2,if_pos ab]
  rw [if_neg h2,if_neg ab]
theorem sx {a b c tick:Int} {draws keeps:List Int} (i:Nat) (hd: ∀ x∈draws,0≤x):oU (eJ a b c tick draws keeps) a b c 1 (i:Int)=draws.getD i 0:=by
 unfold oU eJ
 rw [List.foldl_append,List.foldl_append,kM ah]
 have h:=oD (a:=a) (b:=b) (c:=c) (k:=1) draws i draws.length (0:Int) (Nat.le_refl _)
 rw [List.take_length] at h
 simp only [List.foldl_cons,List.foldl_nil]
 rw [if_neg (fun h=> absurd h.2.1 ah),h]
 split
 ·rename_i hi
  have:0≤draws.getD i 0:=by rw [List.getD_eq_getElem?_getD,List.getElem?_eq_getElem hi];exact hd _ (List.getElem_mem hi)
  omega
 rename_i hi
 rw [List.getD_eq_getElem?_getD,List.getElem?_eq_none ab];rfl
theorem AM {a b c tick:Int} {draws keeps:List Int} (i:Nat) (hd: ∀ x∈keeps,0≤x):oU (eJ a b c tick draws keeps) a b c 3 (i:Int)=keeps.getD i 0:=by
 unfold oU eJ
 rw [List.foldl_append,List.foldl_append]
 have h:=fun n:Int=> oD (a:=a) (b:=b) (c:=c) (k:=3) keeps i keeps.length n (Nat.le_refl _)
 rw [List.take_length] at h
 rw [h,kM ah]
 simp only [List.foldl_cons,List.foldl_nil]
 split
 ·rename_i hi
  have:0≤keeps.getD i 0:=by rw [List.getD_eq_getElem?_getD,List.getElem?_eq_getElem hi];exact hd _ (List.getElem_mem hi)
  omega
 rename_i hi
 rw [if_neg (fun h=> absurd h.2.1 ah),List.getD_eq_getElem?_getD,List.getElem?_eq_none ab];rfl
theorem zf {a b c tick:Int} {draws keeps:List Int} (ht:0≤tick):oU (eJ a b c tick draws keeps) a b c 2 0=tick:=by
 unfold oU eJ
 rw [List.foldl_append,List.foldl_append,kM ah,kM ah]
 simp only [List.foldl_cons,List.foldl_nil]
 simp only [and_self,if_true];omega
end Go.Proofs.YtmjnackchaahbaaGreat
