/- part 6 -/
import Derived.Test.YtmjnackchaahbaaGreatVhZ5
set_option linter.unusedSimpArgs false
set_option linter.unusedVariables false
namespace Go.Proofs.YtmjnackchaahbaaGreat
open Go.RowKit
def cZ:List Res→(Nat→Bool)→Nat→ay→Option Slot
 | [],_,_,_=> none
 | r::rs,L,k,i=> match cZ rs L (k+1) i with
  | some c=> some c
  | none=> bif L k then dT r.2 i else none
theorem kg {L:Nat→Bool} {i:ay} {c:Slot}: ∀ {rs:List Res} {k0 k:Nat} {r:Res},rs[k]? =some r→L (k0+k)=true→dT r.2 i=some c→(∀ m r',k < m→rs[m]? =some r'→L (k0+m)=true→dT r'.2 i=none)→cZ rs L k0 i=some c
 | [],_,_,_,h,_,_,_=> by simp at h
 | r0::rs,k0,k,r,h,hl,hc,hn=> by
  simp only [cZ]
  cases k with
  | zero=>
   simp only [List.getElem?_cons_zero,Option.some.injEq] at h
   subst h
   have:cZ rs L (k0+1) i=none:=by
    have key: ∀ {rs:List Res} {k1:Nat},(∀ m r',rs[m]? =some r'→L (k1+m)=true→dT r'.2 i=none)→cZ rs L k1 i=none:=by
     intro rs
     induction rs with
     | nil=> intros;rfl
     | cons r rs ih=>
      intro k1 h
      simp only [cZ]
      rw [ih (k1:=k1+1) fun m r' hr' hl'=> h (m+1) r' (by simpa using hr') (by rw [show k1+(m+1)=k1+1+m by omega];exact hl')]
      cases hl:L k1 with
      | true=> exact h 0 r rfl hl
      | false=> rfl
    exact key fun m r' hr' hl'=> hn (m+1) r' ab (by simpa using hr') (by rw [show k0+(m+1)=k0+1+m by omega];exact hl')
   rw [this,show L k0=true from hl]
   exact hc
  | succ k=>
   rw [kg (k0:=k0+1) (k:=k) (r:=r) (by simpa using h) (by rw [show k0+1+k=k0+(k+1) by omega];exact hl) hc fun m r' hm hr' hl'=> hn (m+1) r' ab (by simpa using hr') (by rw [show k0+(m+1)=k0+1+m by omega];exact hl')]
theorem nP {L:Nat→Bool} {i:ay}: ∀ {rs:List Res} {k0:Nat},(∀ m r',rs[m]? =some r'→L (k0+m)=true→dT r'.2 i=none)→cZ rs L k0 i=none
 | [],_,_=> rfl
 | r::rs,k0,h=> by
  simp only [cZ]
  rw [nP (k0:=k0+1) fun m r' hr' hl'=> h (m+1) r' (by simpa using hr') (by rw [show k0+(m+1)=k0+1+m by omega];exact hl')]
  cases hl:L k0 with
  | true=> exact h 0 r rfl hl
  | false=> rfl
theorem mR {L L':Nat→Bool} {i:ay}: ∀ {rs:List Res} {k0:Nat},(∀ m r',rs[m]? =some r'→L (k0+m)=L' (k0+m)∨dT r'.2 i=none)→cZ rs L k0 i=cZ rs L' k0 i
 | [],_,_=> rfl
 | r::rs,k0,h=> by
  simp only [cZ]
  rw [mR (L:=L) (L':=L') (k0:=k0+1) fun m r' hr'=> by
   have:=h (m+1) r' (by simpa using hr')
   rwa [show k0+(m+1)=k0+1+m by omega] at this]
  rcases h 0 r rfl with h0 | h0
  ·rw [show L k0=L' k0 from h0]
  rw [h0];cases L k0 <;> cases L' k0 <;> rfl
theorem nj: ∀ {l:List (ay×Slot)} {i:ay} {c:Slot},(i,c)∈l→ ∃ c',dT l i=some c'
 | (k,x)::l,i,c,h=> by
  simp only [dT]
  cases hb:gh i k with
  | true=> exact ⟨x,rfl⟩
  | false=>
   rcases List.mem_cons.1 h with h0 | h
   ·obtain ⟨rfl,rfl⟩:=Prod.mk.inj h0
    rw [dE] at hb;cases hb
   exact nj h
theorem wh (r:Res) (d:Option Tmp) (σ:St) (i:ay) (hn:(r.2.map (·.1)).Nodup):(r.app d σ).ob i=(dT r.2 i).getD (σ.ob i):=by
 cases h:dT r.2 i with
 | some c=> exact nw r d σ hn (gb h)
 | none=> exact ni r d σ fun c hc=> by obtain ⟨c',h'⟩:=nj hc;rw [h] at h';cases h'
theorem tJ {L:Nat→Bool}: ∀ (ops:List Oper) (rs:List Res) (k:Nat) (σ:St) (i:ay),ops.length=rs.length→(∀ (k:Nat) (r:Res),rs[k]? =some r→(r.2.map (·.1)).Nodup)→(cT ops rs L k σ).ob i=(cZ rs L k i).getD (σ.ob i)
 | [],[],_,_,_,_,_=> rfl
 | [],_::_,_,_,_,h,_=> by simp at h
 | _::_,[],_,_,_,h,_=> by simp at h
 | o::ops,r::rs,k,σ,i,h,hn=> by
  simp only [cT,cZ]
  rw [tJ ops rs (k+1) _ i (by simpa using h) fun m r' hr'=> hn (m+1) r' (by simpa using hr')]
  cases hb:cZ rs L (k+1) i with
  | some c=> rfl
  | none=>
   cases hl:L k with
   | true=> exact wh r o.dst σ i (hn 0 r rfl)
   | false=> rfl
def iL:List Res→List Nat→Nat→ay→Option Slot
 | r::rs,dp,k,i=> Nn (iL rs dp (k+1) i) (bif qX k dp then dT r.2 i else none)
 | _,_,_,_=> none
theorem kw: ∀ {rs:List Res} {dp:List Nat} {k0:Nat} {i:ay},iL rs dp k0 i=none→ ∀ {k:Nat} {r:Res},rs[k]? =some r→k0+k∈dp→dT r.2 i=none
 | [],_,_,_,_,_,_,h,_=> by simp at h
 | r0::rs,dp,k0,i,h,k,r,hr,hk=> by
  simp only [iL] at h
  cases hx:iL rs dp (k0+1) i with
  | some x=> rw [hx] at h;cases h
  | none=>
   rw [hx] at h
   cases k with
   | zero=>
    simp only [List.getElem?_cons_zero,Option.some.injEq] at hr
    subst hr
    rw [inL_iff.2 (by simpa using hk)] at h
    exact h
   | succ k=> exact kw hx (k:=k) (by simpa using hr) (by rw [show k0+1+k=k0+(k+1) by omega];exact hk)
theorem nE: ∀ {rs:List Res} {dp:List Nat} {k:Nat} {i:ay} {c:Slot},iL rs dp k i=some c→ ∃ j r,rs[j]? =some r∧k+j∈dp∧dT r.2 i=some c∧ ∀ m r',j < m→rs[m]? =some r'→k+m∈dp→dT r'.2 i=none
 | [],_,_,_,_,h=> by simp [iL] at h
 | r::rs,dp,k,i,c,h=> by
  simp only [iL] at h
  cases hx:iL rs dp (k+1) i with
  | some x=>
   rw [hx] at h
   obtain rfl:=Option.some.inj (show some x=some c from h)
   obtain ⟨j,r',h1,h2,h3,h4⟩:=nE hx
   refine ⟨j+1,r',by simpa using h1,by rw [show k+(j+1)=k+1+j by omega];exact h2,h3,fun m r2 hm hr2 hk2=> ?_⟩
   obtain ⟨m,rfl⟩: ∃ m',m=m'+1:=⟨m - 1,by omega⟩
   exact h4 m r2 ab (by simpa using hr2) (by rw [show k+1+m=k+(m+1) by omega];exact hk2)
  | none=>
   rw [hx] at h
   cases hb:qX k dp with
   | false=> rw [hb] at h;cases h
   | true=>
    rw [hb] at h
    refine ⟨0,r,rfl,by simpa using inL_iff.1 hb,h,fun m r2 hm hr2 hk2=> ?_⟩
    obtain ⟨m,rfl⟩: ∃ m',m=m'+1:=⟨m - 1,by omega⟩
    exact kw hx (k:=m) (by simpa using hr2) (by rw [show k+1+m=k+(m+1) by omega];exact hk2)
def ec (σ:St) (W:List Nat) (I:List ay) (own:List ay) (ops:List Oper) (rs:List Res) (dp:List Nat) (τ:St):St where
 n:=σ.n
 fr t:=match lX ops rs dp 0 t with
  | some a=> a
  | none=> bif qX t W then τ.fr t else σ.fr t
 ob i:=match iL rs dp 0 i with
  | some c=> c
  | none=> bif cj i I && !(cj i own) then τ.ob i else σ.ob i
 inc:=σ.inc
 pin:=σ.pin
inductive rF (P:Program) (all:List Oper) (W:List Nat) (I:List ay) (σ:St) (rs:List Res) (o:Oper):Res→Prop where
 | plain {r:Res} (hg:o.guard=none) (h: ∀ τ,gH P o (ec σ W I (r.2.map (·.1)) all rs (Edge.ons o.after.toList) τ) (r.app o.dst (ec σ W I (r.2.map (·.1)) all rs (Edge.ons o.after.toList) τ))):rF P all W I σ rs o r
 | yes {r:Res} {j d:Nat} {want:Bool} (hg:o.guard=some (j,want)) (hd:(all[j]?).bind (·.dst)=some d) (hv: ∀ τ,(ec σ W I (r.2.map (·.1)) all rs (Edge.ons o.after.toList) τ).eval (.tmp d)= .v (.bool want))
   (h: ∀ τ,gH P o (ec σ W I (r.2.map (·.1)) all rs (Edge.ons o.after.toList) τ) (r.app o.dst (ec σ W I (r.2.map (·.1)) all rs (Edge.ons o.after.toList) τ))):rF P all W I σ rs o r
 | no {j d:Nat} {want:Bool} {y:Value} (hg:o.guard=some (j,want)) (hd:(all[j]?).bind (·.dst)=some d) (hv: ∀ τ,(ec σ W I [] all rs (Edge.ons o.after.toList) τ).eval (.tmp d)= .v y) (hb:y≠ .bool want):rF P all W I σ rs o (.v undef,[])
def AnyOpsC (P:Program) (all:List Oper) (W:List Nat) (I:List ay) (σ:St) (Kont:List Res→Prop):List Oper→List Res→Prop
 | [],rs=> Kont rs
 | o::os,rs=> ∃ r,rF P all W I σ rs o r∧AnyOpsC P all W I σ Kont os (rs++[r])
section
variable {P:Program} {σ:St} {all:List Oper} {W:List Nat} {I:List ay} {Kont:List Res→Prop} {os:List Oper} {rs:List Res} {d:Option Tmp} {op:Op} {ty:TypeId} {p:String} {af:List Edge}
theorem aS (r:Res)
  (hs: ∀ τ,Stp P d op ty (ec σ W I (r.2.map (·.1)) all rs (Edge.ons af) τ) (r.app d (ec σ W I (r.2.map (·.1)) all rs (Edge.ons af) τ))) (h:AnyOpsC P all W I σ Kont os (rs++[r])):AnyOpsC P all W I σ Kont (⟨d,op,ty,p,af.toArray,none⟩::os) rs:=
 ⟨r, .plain rfl fun τ=> hs τ _ rfl rfl rfl,h⟩
theorem jj (h:Kont rs):AnyOpsC P all W I σ Kont [] rs:=h
theorem aT {rs':List Res} (h:rs=rs') (hh:AnyOpsC P all W I σ Kont os rs'):AnyOpsC P all W I σ Kont os rs:=h ▸ hh
end
def Ah (r r':Res):Bool:=r.2.any fun p=> (dT r'.2 p.1).isSome
def chainB (ops:List Oper) (rs:List Res):Bool:=(List.range rs.length).all fun k=> (List.range k).all fun j=> match rs[j]?,rs[k]?,ops[k]? with
 | some r,some r',some o=> !(Ah r r') || (qX j (Edge.ons o.after.toList) && (List.range ops.length).all fun m=> match ops[m]? with | some om=> !(qX j (Edge.ons om.after.toList)) || Nat.beq m k || qX m (Edge.ons o.after.toList) || qX k (Edge.ons om.after.toList) | none=> true)
 | _,_,_=> true
theorem js {ops:List Oper} {rs:List Res} (h:chainB ops rs=true) {j k:Nat} (hjk:j < k) {r r':Res} (hr:rs[j]? =some r) (hr':rs[k]? =some r') {i:ay} {c c':Slot} (hc:dT r.2 i=some c) (hc':dT r'.2 i=some c') {o:Oper} (ho:ops[k]? =some o):
  j∈Edge.ons o.after.toList∧ ∀ m om,ops[m]? =some om→j∈Edge.ons om.after.toList→m=k∨m∈Edge.ons o.after.toList∨k∈Edge.ons om.after.toList:=by
 unfold chainB at h
 have hk:=(List.getElem?_eq_some_iff.1 hr').1
 have h1:=List.all_eq_true.1 (List.all_eq_true.1 h k (List.mem_range.2 hk)) j (List.mem_range.2 hjk)
 rw [hr,hr',ho] at h1
 have hs:Ah r r'=true:=List.any_eq_true.2 ⟨(i,c),gb hc,by rw [hc'];rfl⟩
 simp only [hs,Bool.not_true,Bool.false_or,Bool.and_eq_true,List.all_eq_true] at h1
 refine ⟨inL_iff.1 h1.1,fun m om hm hj=> ?_⟩
 have h2:=h1.2 m (List.mem_range.2 (List.getElem?_eq_some_iff.1 hm).1)
 rw [hm] at h2
 simp only [inL_iff.2 hj,Bool.not_true,Bool.false_or,Bool.or_eq_true] at h2
 rcases h2 with (h2 | h2) | h2
 ·exact .inl (Nat.eq_of_beq_eq_true h2)
 ·exact .inr (.inl (inL_iff.1 h2))
 exact .inr (.inr (inL_iff.1 h2))
def wo (rs:List Res):Bool:=rs.all fun r=> bf (r.2.map (·.1))
theorem yD {rs:List Res} (h:wo rs=true) {k:Nat} {r:Res} (hr:rs[k]? =some r):(r.2.map (·.1)).Nodup:=bD (List.all_eq_true.1 h r (List.mem_of_getElem? hr))
theorem pW {L:Nat→Bool} {i:ay} {c:Slot}: ∀ {rs:List Res} {k:Nat},cZ rs L k i=some c→ ∃ r∈rs,(i,c)∈r.2
 | [],_,h=> by simp [cZ] at h
 | r::rs,k,h=> by
  simp only [cZ] at h
  cases hx:cZ rs L (k+1) i with
  | some x=>
   rw [hx] at h
   obtain rfl:=Option.some.inj h
   obtain ⟨r',h1,h2⟩:=pW hx
   exact ⟨r',List.mem_cons_of_mem _ h1,h2⟩
  | none=>
   rw [hx] at h
   simp only at h
   cases hb:L k with
   | false=> rw [hb] at h;cases h
   | true=> rw [hb] at h;exact ⟨r,List.mem_cons_self,gb h⟩
inductive pv (io:ay) (Φ:Slot→Prop) (P:Program) (all:List Oper) (W:List Nat) (I:List ay) (σ:St) (rs:List Res) (o:Oper):Res→Prop where
 | plain {r:Res} (hg:o.guard=none) (h: ∀ τ:St,Φ (τ.ob io)→gH P o (ec σ W I (r.2.map (·.1)) all rs (Edge.ons o.after.toList) τ) (r.app o.dst (ec σ W I (r.2.map (·.1)) all rs (Edge.ons o.after.toList) τ))):pv io Φ P all W I σ rs o r
 | yes {r:Res} {j d:Nat} {want:Bool} (hg:o.guard=some (j,want)) (hd:(all[j]?).bind (·.dst)=some d) (hv: ∀ τ:St,Φ (τ.ob io)→(ec σ W I (r.2.map (·.1)) all rs (Edge.ons o.after.toList) τ).eval (.tmp d)= .v (.bool want))
   (h: ∀ τ:St,Φ (τ.ob io)→gH P o (ec σ W I (r.2.map (·.1)) all rs (Edge.ons o.after.toList) τ) (r.app o.dst (ec σ W I (r.2.map (·.1)) all rs (Edge.ons o.after.toList) τ))):pv io Φ P all W I σ rs o r
 | no {j d:Nat} {want:Bool} {y:Value} (hg:o.guard=some (j,want)) (hd:(all[j]?).bind (·.dst)=some d) (hv: ∀ τ:St,Φ (τ.ob io)→(ec σ W I [] all rs (Edge.ons o.after.toList) τ).eval (.tmp d)= .v y) (hb:y≠ .bool want):pv io Φ P all W I σ rs o (.v undef,[])
def AnyOpsX (io:ay) (Φ:Slot→Prop) (P:Program) (all:List Oper) (W:List Nat) (I:List ay) (σ:St) (Kont:List Res→Prop):List Oper→List Res→Prop
 | [],rs=> Kont rs
 | o::os,rs=> ∃ r,pv io Φ P all W I σ rs o r∧AnyOpsX io Φ P all W I σ Kont os (rs++[r])
theorem AnyOpsX.get {io:ay} {Φ:Slot→Prop} {P:Program} {all:List Oper} {W:List Nat} {I:List ay} {σ:St} {Kont:List Res→Prop}: ∀ (os:List Oper) (rs0:List Res),AnyOpsX io Φ P all W I σ Kont os rs0→
  ∃ rs,rs.length=rs0.length+os.length∧rs.take rs0.length=rs0∧Kont rs∧ ∀ (j:Nat) (o:Oper) (r:Res),os[j]? =some o→rs[rs0.length+j]? =some r→pv io Φ P all W I σ (rs.take (rs0.length+j)) o r
 | [],rs0,h=> ⟨rs0,by simp,by simp,h,by simp⟩
 | o::os,rs0,⟨r,h1,h2⟩=> by
  obtain ⟨rs,a,b,c,d⟩:=AnyOpsX.get os (rs0++[r]) h2
  simp only [List.length_append,List.length_cons,List.length_nil] at a b d
  have ht:rs.take rs0.length=rs0:=by
   have:=congrArg (fun l=> l.take rs0.length) b
   simpa [List.take_take] using this
  have hr:rs[rs0.length]? =some r:=by
   have:=congrArg (fun l=> l[rs0.length]?) b
   simp only [List.getElem?_take] at this
   rw [if_pos ab] at this
   rw [this];simp
  refine ⟨rs,by simp;omega,ht,c,fun j o' r' ho hr'=> ?_⟩
  cases j with
  | zero=>
   simp at ho;subst ho
   simp only [Nat.add_zero] at hr' ⊢
   rw [hr] at hr'
   obtain rfl:=Option.some.inj hr'
   rw [ht];exact h1
  | succ j=>
   have:=d j o' r' (by simpa using ho) (by rw [← hr'];congr 1;omega)
   rwa [show rs0.length+(0+1)+j=rs0.length+(j+1) by omega] at this
theorem HD (io:ay) (Φ:Slot→Prop) {rb:Bool} {P:Program} {Q:Exit→St→Prop} {σ:St} {id:Nat} {l:List Oper} (n:Nat) (W:List Nat) (I:List ay) (hm:P.follows .mixedOrders=true) (hB:kE l.toArray n=true) (hW:(l.take n).filterMap (·.dst)=W)
  (h0:Φ (σ.ob io)) (h:AnyOpsX io Φ P (l.take n) W I σ (fun rs=> ((fO rs=I∧chainB (l.take n) rs=true∧wo rs=true)∧ ∀ r∈rs,∀ c,(io,c)∈r.2→Φ c)∧DL rb P l.toArray Q (l.drop n) (cT (l.take n) rs (fun _=> true) 0 σ)) (l.take n) []):D rb P (.region id l.toArray true) Q σ:=by
 obtain ⟨rs,hrl,_,⟨⟨⟨hmd,hch,hnd⟩,hΦ⟩,hend⟩,hops⟩:=AnyOpsX.get _ _ h
 simp only [List.length_nil,Nat.zero_add] at hrl hops
 subst hmd;subst hW
 intro K a0 w0 hrd ⟨ι0,S0,R0⟩
 simp only [kE,Bool.and_eq_true,decide_eq_true_eq,Bool.or_eq_true,List.all_eq_true,List.mem_range] at hB
 obtain ⟨⟨⟨⟨hn,hsc⟩,hseq⟩,hedge⟩,hdst⟩:=hB
 have hsz:l.toArray.size=l.length:=by simp
 have htk:(l.take n).length=n:=by rw [List.length_take];omega
 rw [htk] at hrl
 have hgetT: ∀ (j:Nat) (o:Oper),j < n→l.toArray[j]? =some o→(l.take n)[j]? =some o:=by
  intro j o hj ho
  rw [List.getElem?_take,if_pos hj]
  simpa using ho
 have hd: ∀ (j:Nat) (oj:Oper),(l.take n)[j]? =some oj→ ∀ (i:Nat) (oi:Oper),(l.take n)[i]? =some oi→i≠j→ ∀ x,oj.dst=some x→oi.dst≠some x:=by
  intro j oj hj i oi hi hne x hx hx'
  have hjn:=(List.getElem?_eq_some_iff.1 hj).1
  have hin:=(List.getElem?_eq_some_iff.1 hi).1
  rw [htk] at hjn hin
  have h:=hdst i hin j hjn
  rw [List.getElem?_take,if_pos hjn] at hj
  rw [List.getElem?_take,if_pos hin] at hi
  have hi':l.toArray[i]? =some oi:=by simpa using hi
  have hj':l.toArray[j]? =some oj:=by simpa using hj
  rw [hi',hj'] at h
  simp [hne,hx,hx'] at h
 have hlow: ∀ (j:Nat) (oj:Oper),(l.take n)[j]? =some oj→ ∀ m∈Edge.ons oj.after.toList,m < j:=by
  intro j oj hoj m hm'
  have hjn:=(List.getElem?_eq_some_iff.1 hoj).1
  rw [htk] at hjn
  obtain ⟨e,he,heb,rfl⟩:=iE hm'
  have h:=hedge j hjn
  rw [List.getElem?_take,if_pos hjn] at hoj
  rw [show l.toArray[j]? =some oj by simpa using hoj] at h
  have:=List.all_eq_true.1 h e he
  rw [heb] at this
  simpa using this
 have hrt:rs.length=(l.take n).length:=by omega
 have hndr: ∀ {k:Nat} {r:Res},rs[k]? =some r→(r.2.map (·.1)).Nodup:=fun h=> yD hnd h
 have hobs: ∀ (L:Nat→Bool) (i:ay),(cT (l.take n) rs L 0 σ).ob i=(cZ rs L 0 i).getD (σ.ob i):=fun L i=> tJ (l.take n) rs 0 σ i hrt.symm fun k r hr=> hndr hr
 let stL:Array Bool→St:=fun listed=> cT (l.take n) rs (fun k=> listed.getD k false) 0 σ
 have halt: ∀ listed:Array Bool,Φ ((stL listed).ob io):=by
  intro listed
  rw [show (stL listed).ob io=(cZ rs (fun k=> listed.getD k false) 0 io).getD (σ.ob io) from hobs _ io]
  cases hl:cZ rs (fun k=> listed.getD k false) 0 io with
  | none=> exact h0
  | some c=>
   obtain ⟨r,hr,hc⟩:=pW hl
   exact hΦ r hr c hc
 -- the state as the operation j may count on it
 have hmix: ∀ (listed:Array Bool) (j:Nat) (oj:Oper) (rj:Res),HeadInv .any l.toArray n listed→(l.take n)[j]? =some oj→rs[j]? =some rj→listed.getD j false=false→(∀ k∈Edge.ons oj.after.toList,listed.getD k false=true)→
   ∀ own:List ay,(∀ i,i∈own→ ∃ c,(i,c)∈rj.2)→
   ec σ ((l.take n).filterMap (·.dst)) (fO rs) own (l.take n) (rs.take j) (Edge.ons oj.after.toList) (stL listed)=stL listed:=by
  intro listed j oj rj inv hoj hrj hun hdl own hown2
  refine St.eq (Eq.trans (b:=σ.n) rfl (ju _ _ _ _).symm) (fun t=> ?_) (fun i=> ?_) (Eq.trans (b:=σ.inc) rfl (fD _ _ _ _).symm) (Eq.trans (b:=σ.pin) rfl (fF _ _ _ _).symm)
  ·simp only [ec]
   cases hdf:lX (l.take n) (rs.take j) (Edge.ons oj.after.toList) 0 t with
   | some a=>
    obtain ⟨k,o,r,h1,h2,h3,h4,h5⟩:=ln hdf
    rw [List.getElem?_take] at h2
    split at h2
    ·simp only [Nat.zero_add] at h3
     rw [h5]
     exact (fJ _ _ 0 σ k o r h1 h2 (by simpa using hdl k h3) h4 fun i o' ho' hne=> hd k o h1 i o' ho' hne t h4).symm
    cases h2
   | none=>
    simp only
    cases hin:qX t ((l.take n).filterMap (·.dst)) with
    | true=> rfl
    | false=>
     simp only [cond_false]
     refine (eV _ _ 0 σ fun k o r ho hr hl hdo=> ?_).symm
     have:t∈(l.take n).filterMap (·.dst):=List.mem_filterMap.2 ⟨o,List.mem_of_getElem? ho,hdo⟩
     rw [inL_iff.2 this] at hin
     cases hin
  have hcl: ∀ (k m:Nat) (o:Oper),(l.take n)[k]? =some o→listed.getD k false=true→m∈Edge.ons o.after.toList→listed.getD m false=true:=fun k m o ho hl hm=> by
   obtain ⟨e,he,heb,hee⟩:=iE hm
   have ho':l.toArray[k]? =some o:=by
    rw [List.getElem?_take] at ho
    split at ho
    ·simpa using ho
    cases ho
   have h9:=inv.closed k o ho' hl e (by simpa using he) heb
   rwa [hee] at h9
  have hop: ∀ {k:Nat} {r:Res},rs[k]? =some r→ ∃ o,(l.take n)[k]? =some o:=fun hr=> by
   have:=(List.getElem?_eq_some_iff.1 hr).1
   exact ⟨_,List.getElem?_eq_getElem ab⟩
  rw [show (stL listed).ob i=(cZ rs (fun k=> listed.getD k false) 0 i).getD (σ.ob i) from hobs _ i]
  simp only [ec]
  cases hdo:iL (rs.take j) (Edge.ons oj.after.toList) 0 i with
  | some c=>
   obtain ⟨k,r,h2,h3,h4,h5⟩:=nE hdo
   rw [List.getElem?_take] at h2
   split at h2
   ·rename_i hkj
    simp only [Nat.zero_add] at h3
    have hkl:=hdl k h3
    rw [kg (k:=k) (r:=r) h2 (by simpa using hkl) h4 fun m r' hm' hr' hl'=> ?_]
    ·rfl
    cases hlk:dT r'.2 i with
    | none=> rfl
    | some c'=>
     obtain ⟨om,hom⟩:=hop hr'
     obtain ⟨c1,c2⟩:=js hch hm' h2 hr' h4 hlk hom
     simp only [Nat.zero_add] at hl'
     rcases c2 j oj hoj h3 with rfl | c2 | c2
     ·rw [hl'] at hun;cases hun
     ·have:=hcl m j om hom hl' c2
      rw [this] at hun;cases hun
     have hmj:m < j:=hlow j oj hoj m c2
     have:=h5 m r' hm' (by rw [List.getElem?_take,if_pos hmj];exact hr') (by simpa using c2)
     rw [hlk] at this;cases this
   cases h2
  | none=>
   simp only
   cases hc:(cj i (fO rs) && !(cj i own)) with
   | true=> rw [show (stL listed).ob i=(cZ rs (fun k=> listed.getD k false) 0 i).getD (σ.ob i) from hobs _ i];rfl
   | false=>
    simp only [cond_false]
    rw [nP fun m r' hr' hl'=> ?_]
    ·rfl
    cases hlk:dT r'.2 i with
    | none=> rfl
    | some c'=>
     simp only [Nat.zero_add] at hl'
     have hmem:i∈fO rs:=ka hr' (gb hlk)
     rw [inO_iff.2 hmem] at hc
     simp only [Bool.true_and,Bool.not_eq_false'] at hc
     obtain ⟨c2,hc2⟩:=hown2 i (inO_iff.1 hc)
     obtain ⟨c3,hc3⟩:=nj hc2
     rcases Nat.lt_trichotomy m j with hmj | rfl | hmj
     ·obtain ⟨c1,_⟩:=js hch hmj hr' hrj hlk hc3 hoj
      have:=kw hdo (k:=m) (r:=r') (by rw [List.getElem?_take,if_pos hmj];exact hr') (by simpa using c1)
      rw [hlk] at this;cases this
     ·rw [hl'] at hun;cases hun
     obtain ⟨om,hom⟩:=hop hr'
     obtain ⟨c1,_⟩:=js hch hmj hrj hr' hc3 hlk hom
     have:=hcl m j om hom hl' c1
     rw [this] at hun;cases hun
 have hset: ∀ (listed:Array Bool) (j:Nat) (oj:Oper) (rj:Res),HeadInv .any l.toArray n listed→j < listed.size→(l.take n)[j]? =some oj→rs[j]? =some rj→listed.getD j false=false→stL (listed.setIfInBounds j true)=rj.app oj.dst (stL listed):=by
  intro listed j oj rj inv hjs hoj hrj hun
  have hL: ∀ k,(listed.setIfInBounds j true).getD k false=if k=j then true else listed.getD k false:=by
   intro k
   by_cases h:k=j
   ·subst h;simp [hjs]
   rw [if_neg h,getD_set_ne false (Ne.symm h)]
  refine St.eq ((ju _ _ _ _).trans ((yQ _ _ _).trans (ju _ _ _ _)).symm) (fun t=> ?_) (fun i=> ?_) ((fD _ _ _ _).trans ((sg _ _ _).trans (fD _ _ _ _)).symm) ((fF _ _ _ _).trans ((rS _ _ _).trans (fF _ _ _ _)).symm)
  ·by_cases ht:oj.dst=some t
   ·rw [ht,mW]
    exact fJ _ _ 0 σ j oj rj hoj hrj (by simp only [Nat.zero_add,hL,if_true]) ht fun i o' ho' hne=> hd j oj hoj i o' ho' hne t ht
   rw [nl _ _ _ ht]
   by_cases hex: ∃ k o r,(l.take n)[k]? =some o∧rs[k]? =some r∧listed.getD k false=true∧o.dst=some t
   ·obtain ⟨k,o,r,h1,h2,h3,h4⟩:=hex
    have hkj:k≠j:=fun e=> by subst e;rw [h3] at hun;cases hun
    rw [show (stL (listed.setIfInBounds j true)).fr t=r.1 from fJ _ _ 0 σ k o r h1 h2 (by simp only [Nat.zero_add,hL,if_neg hkj];exact h3) h4 fun i o' ho' hne=> hd k o h1 i o' ho' hne t h4]
    exact (fJ _ _ 0 σ k o r h1 h2 (by simpa using h3) h4 fun i o' ho' hne=> hd k o h1 i o' ho' hne t h4).symm
   have hno: ∀ (k:Nat) (o:Oper) (r:Res),(l.take n)[k]? =some o→rs[k]? =some r→listed.getD k false=true→o.dst≠some t:=fun k o r h1 h2 h3 h4=> hex ⟨k,o,r,h1,h2,h3,h4⟩
   rw [show (stL (listed.setIfInBounds j true)).fr t=σ.fr t from eV _ _ 0 σ fun k o r h1 h2 h3 h4=> by
    simp only [Nat.zero_add,hL] at h3
    by_cases hkj:k=j
    ·subst hkj;rw [hoj] at h1;obtain rfl:=Option.some.inj h1;exact ht h4
    rw [if_neg hkj] at h3;exact hno k o r h1 h2 h3 h4]
   exact (eV _ _ 0 σ fun k o r h1 h2 h3=> hno k o r h1 h2 (by simpa using h3)).symm
  have hcl: ∀ (k m:Nat) (o:Oper),(l.take n)[k]? =some o→listed.getD k false=true→m∈Edge.ons o.after.toList→listed.getD m false=true:=fun k m o ho hl hm=> by
   obtain ⟨e,he,heb,hee⟩:=iE hm
   have ho':l.toArray[k]? =some o:=by
    rw [List.getElem?_take] at ho
    split at ho
    ·simpa using ho
    cases ho
   have h9:=inv.closed k o ho' hl e (by simpa using he) heb
   rwa [hee] at h9
  rw [wh _ _ _ _ (hndr hrj),show (stL listed).ob i=(cZ rs (fun k=> listed.getD k false) 0 i).getD (σ.ob i) from hobs _ i,show (stL (listed.setIfInBounds j true)).ob i=(cZ rs (fun k=> (listed.setIfInBounds j true).getD k false) 0 i).getD (σ.ob i) from hobs _ i]
  cases hlj:dT rj.2 i with
  | some c=>
   rw [kg (k:=j) (r:=rj) hrj (by simp only [Nat.zero_add,hL,if_true]) hlj fun m r' hm' hr' hl'=> ?_]
   ·rfl
   cases hlk:dT r'.2 i with
   | none=> rfl
   | some c'=>
    simp only [Nat.zero_add,hL,if_neg (show ¬ m=j by omega)] at hl'
    have hmn:=(List.getElem?_eq_some_iff.1 hr').1
    have hom:(l.take n)[m]? =some ((l.take n)[m]'ab):=List.getElem?_eq_getElem ab
    obtain ⟨c1,_⟩:=js hch hm' hrj hr' hlj hlk hom
    have:=hcl m j _ hom hl' c1
    rw [this] at hun;cases hun
  | none=>
   rw [mR fun m r' hr'=> ?_]
   ·rfl
   by_cases hmj:m=j
   ·subst hmj
    rw [hrj] at hr'
    obtain rfl:=Option.some.inj hr'
    exact .inr hlj
   left;simp only [Nat.zero_add,hL,if_neg hmj]
 refine wpIn_region_any hm ?_
 have key: ∀ (f:Nat) (listed:Array Bool) (a':Act) (w':World),HeadInv .any l.toArray n listed→(((List.range n).filter fun i=> !listed.getD i true).length=f)→
   wb K (stL listed) a' w'→wpAnyIn (WF K.rd) 0 P .any l.toArray (Qr K Q) (f+(l.toArray.size - n)) listed a' w':=by
  intro f
  induction f with
  | zero=>
   intro listed a' w' inv hc hR
   have hall: ∀ i,i < n→listed.getD i true=true:=by
    intro i hi
    have h0:=List.eq_nil_of_length_eq_zero hc
    have:=List.filter_eq_nil_iff.1 h0 i (List.mem_range.2 hi)
    simpa using this
   have hcanon:listed=Array.ofFn (n:=l.toArray.size) fun i=> decide (i.1 < n):=by
    apply Array.ext
    ·simp [inv.size]
    intro i h1 h2
    simp only [Array.getElem_ofFn]
    by_cases hi:i < n
    ·have:=hall i hi
     simp [h1] at this
     simp [this,hi]
    have:=inv.tail i ab (by rw [inv.size] at h1;exact h1)
    simp [h1] at this
    simp [this,hi]
   rw [Nat.zero_add]
   have hfull:stL listed=cT (l.take n) rs (fun _=> true) 0 σ:=by
    have: ∀ (ops:List Oper) (rs:List Res) (k:Nat) (σ:St),k+ops.length≤n→cT ops rs (fun k=> listed.getD k false) k σ=cT ops rs (fun _=> true) k σ:=by
     intro ops
     induction ops with
     | nil=> intros;simp [cT]
     | cons o ops ih=>
      intro rs k σ hk
      cases rs with
      | nil=> simp [cT]
      | cons r rs=>
       simp only [cT]
       have h1:=hall k (by simp at hk;omega)
       have h2:listed.getD k false=true:=by
        have hks:k < listed.size:=by rw [inv.size];simp at hk;omega
        simp [hks] at h1 ⊢;exact h1
       rw [h2]
       exact ih rs (k+1) _ (by simp at hk;omega)
    exact this _ _ 0 _ ab
   rw [hfull] at hR
   have hw:=hend K a' w' hrd hR
   have hdl:(l.drop n).length=l.toArray.size - n:=by simp
   have:=gW (md:= .any) (Q':=Qr K Q) (l.drop n) n listed a' w' (fun j=> by simp [List.getElem?_drop]) (by rw [hdl,hcanon];exact hseq) hw
   rwa [hdl] at this
  | succ f ih=>
   intro listed a' w' inv hc hR
   have hex: ∃ i,i < n∧listed.getD i true=false:=by
    cases hL:(List.range n).filter fun i=> !listed.getD i true with
    | nil=> rw [hL] at hc;simp at hc
    | cons i r=>
     have:i∈(List.range n).filter fun i=> !listed.getD i true:=by rw [hL];exact List.mem_cons_self
     rw [List.mem_filter] at this
     exact ⟨i,List.mem_range.1 this.1,by simpa using this.2⟩
   have hnotail: ∀ t,n≤t→t∉Region.ready .any l.toArray listed:=by
    intro t ht
    rcases hsc with he | ⟨hsk,hch⟩
    ·intro hr
     obtain ⟨_,ot,hot,_⟩:=mem_ready.1 hr
     have:=(Array.getElem?_eq_some_iff.1 hot).1
     omega
    by_cases hlt:n < l.toArray.size
    ·obtain ⟨i,hi,hun⟩:=hex
     exact tail_waits hsk hch hlt inv _ i rfl hi hun t ht
    intro hr
    obtain ⟨_,ot,hot,_⟩:=mem_ready.1 hr
    have:=(Array.getElem?_eq_some_iff.1 hot).1
    omega
   have hfirst: ∀ i,i < n→listed.getD i true=false→ ∃ k,k∈Region.ready .any l.toArray listed:=by
    intro i
    induction i using Nat.strongRecOn with
    | _ i ihi=>
     intro hi hun
     by_cases hp: ∃ k,k < i∧listed.getD k true=false
     ·obtain ⟨k,hk,hku⟩:=hp
      exact ihi k hk ab hku
     have hlt:i < l.toArray.size:=by omega
     refine ⟨i,mem_ready.2 ⟨hun,l.toArray[i],Array.getElem?_eq_getElem hlt,fun e he heb=> ?_⟩⟩
     have h1:=hedge i hi
     rw [Array.getElem?_eq_getElem hlt] at h1
     have h2:=(List.all_eq_true.1 h1) e (by simpa using he)
     rw [heb] at h2
     simp only [Bool.not_true,Bool.false_or,decide_eq_true_eq] at h2
     have h3:listed.getD e.on true=true:=by
      cases hx:listed.getD e.on true with
      | true=> rfl
      | false=> exact absurd ⟨e.on,h2,hx⟩ hp
     have h4:e.on < listed.size:=by rw [inv.size];omega
     simp [h4] at h3 ⊢
     exact h3
   rw [show f+1+(l.toArray.size - n)=(f+(l.toArray.size - n))+1 by omega]
   refine ⟨fun h0=> ?_,fun j hj=> ?_⟩
   ·obtain ⟨i,hi,hun⟩:=hex
    obtain ⟨k,hk⟩:=hfirst i hi hun
    rw [h0] at hk
    cases hk
   have hjn:j < n:=by
    rcases Nat.lt_or_ge j n with h | h
    ·exact h
    exact absurd hj (hnotail j h)
   obtain ⟨hjun,oj,hoj,hall⟩:=mem_ready.1 hj
   have hojT:=hgetT j oj hjn hoj
   have hjs:j < listed.size:=by rw [inv.size];omega
   have hjr:j < rs.length:=by omega
   have hrj:rs[j]? =some rs[j]:=List.getElem?_eq_getElem hjr
   have hunf:listed.getD j false=false:=getD_both hjun
   have hO:=hops j oj rs[j] hojT hrj
   have hons: ∀ k∈Edge.ons oj.after.toList,listed.getD k false=true:=by
    intro k hk
    obtain ⟨e,he,heb,rfl⟩:=iE hk
    exact hall e (by simpa using he) heb
   have hcnt:((List.range n).filter fun i=> !(listed.setIfInBounds j true).getD i true).length=f:=by
    have e1:((List.range n).filter fun i=> !(listed.setIfInBounds j true).getD i true)=((List.range n).filter fun i=> !listed.getD i true).filter fun i=> i !=j:=by
     rw [List.filter_filter]
     apply List.filter_congr
     intro i _
     by_cases hij:j=i
     ·subst hij;simp [hjs]
     rw [getD_set_ne true hij];simp [Ne.symm hij]
    rw [e1]
    have hnd:((List.range n).filter fun i=> !listed.getD i true).Nodup:=List.Pairwise.filter _ List.nodup_range
    have hmem:j∈(List.range n).filter fun i=> !listed.getD i true:=by rw [List.mem_filter];exact ⟨List.mem_range.2 hjn,by simpa using hjun⟩
    have:=List.length_erase_of_mem hmem
    rw [hnd.erase_eq_filter] at this
    rw [this,hc]
    rfl
   have hnext: ∀ (v:Value) (w'':World),wb K (rs[j].app oj.dst (stL listed)) (a'.put oj.dst v) w''→
     wpAnyIn (WF K.rd) 0 P .any l.toArray (Qr K Q) (f+(l.toArray.size - n)) (listed.setIfInBounds j true) (a'.put oj.dst v) w'':=by
    intro v w'' hr
    refine ih _ _ w'' (inv.set hj hjn) hcnt ?_
    rw [hset listed j oj rs[j] inv hjs hojT hrj hunf];exact hr
   have hyl: ∀ (g d:Nat),((l.take n)[g]?).bind (·.dst)=some d→(l.toArray[g]?).bind (·.dst)=some d:=by
    intro g d hgd
    rw [List.getElem?_take] at hgd
    split at hgd
    ·simpa using hgd
    cases hgd
   obtain ⟨ι',S',R'⟩:=hR
   have own2: ∀ i,i∈(rs[j]).2.map (·.1)→ ∃ c,(i,c)∈(rs[j]).2:=fun i h=> by
    obtain ⟨⟨i',c⟩,h1,rfl⟩:=List.mem_map.1 h
    exact ⟨c,h1⟩
   have stepR:(∀ τ:St,Φ (τ.ob io)→gH P oj (ec σ ((l.take n).filterMap (·.dst)) (fO rs) ((rs[j]).2.map (·.1)) (l.take n) (rs.take j) (Edge.ons oj.after.toList) τ) ((rs[j]).app oj.dst (ec σ ((l.take n).filterMap (·.dst)) (fO rs) ((rs[j]).2.map (·.1)) (l.take n) (rs.take j) (Edge.ons oj.after.toList) τ)))→
     fl P oj a'.eval w' fun v w''=> wb K (rs[j].app oj.dst (stL listed)) (a'.put oj.dst v) w'':=by
    intro hst
    have:=hst (stL listed) (halt listed)
    rw [hmix listed j oj rs[j] inv hojT hrj hunf hons _ own2] at this
    exact this K ι' S' a' w' R'
   unfold wpOpIn
   simp only [hoj]
   generalize hrs:rs[j]=rj at hO
   cases hO with
   | plain hg hst=>
    rw [if_pos (by simp [Region.wanted,hg])]
    subst hrs
    exact dt (stepR hst) fun v w'' hp=> hnext v w'' hp
   | yes hg hgd hv hst=>
    subst hrs
    have hv':=hv (stL listed) (halt listed)
    rw [hmix listed j oj rs[j] inv hojT hrj hunf hons _ own2] at hv'
    rw [if_pos (by simp [Region.wanted,hg,lJ R' (hyl _ _ hgd) hv'])]
    exact dt (stepR hst) fun v w'' hp=> hnext v w'' hp
   | no hg hgd hv hb=>
    have hv':=hv (stL listed) (halt listed)
    rw [hmix listed j oj rs[j] inv hojT hrj hunf hons [] (fun i h=> by cases h)] at hv'
    rw [if_neg (by simp [Region.wanted,hg,kt R' (hyl _ _ hgd) hv' hb])]
    refine ⟨fun _ _=> trivial,hnext _ _ ?_⟩
    rw [hrs]
    exact ⟨ι',S',R'.put oj.dst (av:= .v undef) .v fun i hi=> by cases hi⟩
 have inv0:HeadInv .any l.toArray n (Array.replicate l.toArray.size false):=
  ⟨by simp,fun j oj _ hl=> (by rw [getD_replicate_false] at hl;cases hl),fun t _ ht=> getD_in (by simpa using ht) (getD_replicate_false _ _)⟩
 have hcnt0:((List.range n).filter fun i=> !(Array.replicate l.toArray.size false).getD i true).length=n:=by
  have:((List.range n).filter fun i=> !(Array.replicate l.toArray.size false).getD i true)=List.range n:=by
   apply List.filter_eq_self.2
   intro i hi
   have:i < l.toArray.size:=by have:=List.mem_range.1 hi;omega
   simp only [getD_in (listed:=Array.replicate l.toArray.size false) (i:=i) (by simpa using this) (getD_replicate_false _ _)];rfl
  rw [this];simp
 have hst0:stL (Array.replicate l.toArray.size false)=σ:=by
  refine St.eq (ju _ _ _ _) (fun t=> eV _ _ _ _ fun j o r _ _ hl=> ?_) (fun i=> gu _ _ _ _ fun j o r _ _ hl=> ?_) (fD _ _ _ _) (fF _ _ _ _)
  ·simp only [getD_replicate_false] at hl;cases hl
  simp only [getD_replicate_false] at hl;cases hl
 have:=key n _ a0 w0.drew inv0 hcnt0 (by rw [hst0];exact ⟨ι0,S0,R0.drew⟩)
 rw [show n+(l.toArray.size - n)=l.toArray.size by omega] at this
 exact this

theorem AnyOpsC.toX {P:Program} {all:List Oper} {W:List Nat} {I:List ay} {σ:St} {K K':List Res→Prop} (hk: ∀ rs,K rs→K' rs): ∀ {os:List Oper} {rs:List Res},AnyOpsC P all W I σ K os rs→AnyOpsX (0,0) (fun _=> True) P all W I σ K' os rs
 | [],_,h=> hk _ h
 | o::os,rs,⟨r,h1,h2⟩=> ⟨r,(match h1 with
  | .plain hg h=> .plain hg fun τ _=> h τ
  | .yes hg hd hv h=> .yes hg hd (fun τ _=> hv τ) fun τ _=> h τ
  | .no hg hd hv hb=> .no hg hd (fun τ _=> hv τ) hb),AnyOpsC.toX hk h2⟩
theorem Gr {rb:Bool} {P:Program} {Q:Exit→St→Prop} {σ:St} {id:Nat} {l:List Oper} (n:Nat) (W:List Nat) (I:List ay) (hm:P.follows .mixedOrders=true) (hB:kE l.toArray n=true) (hW:(l.take n).filterMap (·.dst)=W)
  (h:AnyOpsC P (l.take n) W I σ (fun rs=> (fO rs=I∧chainB (l.take n) rs=true∧wo rs=true)∧DL rb P l.toArray Q (l.drop n) (cT (l.take n) rs (fun _=> true) 0 σ)) (l.take n) []):D rb P (.region id l.toArray true) Q σ:=HD (0,0) (fun _=> True) n W I hm hB hW trivial (AnyOpsC.toX (fun _ h=> ⟨⟨h.1,fun _ _ _ _=> trivial⟩,h.2⟩) h)
theorem kT {rb:Bool} {P:Program} {Q:Exit→St→Prop} {σ:St} {id:Nat} {l hd tl:List Oper} (n:Nat) (W:List Nat) (I:List ay) (hm:P.follows .mixedOrders=true) (hB:kE l.toArray n=true) (hW:(l.take n).filterMap (·.dst)=W)
  (e1:l.take n=hd) (e2:l.drop n=tl) (h:AnyOpsC P hd W I σ (fun rs=> (fO rs=I∧chainB hd rs=true∧wo rs=true)∧DL rb P l.toArray Q tl (cT hd rs (fun _=> true) 0 σ)) hd []):D rb P (.region id l.toArray true) Q σ:=by
 subst e1;subst e2
 exact Gr n W I hm hB hW h
abbrev bt (l:List UInt8):Value:= .string ⟨⟨l⟩⟩
theorem vi (l:List UInt8) (i j:Nat):(ByteArray.mk ⟨l⟩).extract i j=⟨⟨(l.drop i).take (j - i)⟩⟩:=by
 apply ByteArray.ext
 rw [ByteArray.data_extract]
 apply Array.ext'
 simp [List.extract_eq_take_drop]
theorem toList_mk (l:List UInt8):(ByteArray.mk ⟨l⟩).toList=l:=ByteArray.toList_mk l
instance KM (l m:List UInt8):iW (l==m) (l=m) (l≠m):=⟨fun e=> by simpa using e,fun e=> by simpa using e⟩
instance Ly (l m:List UInt8):iW (l !=m) (l≠m) (l=m):=⟨fun e=> by simpa using e,fun e=> by simpa using e⟩
section
variable {P:Program} {σ:St} {dd:Option Tmp} {ty t t':TypeId}
theorem DW (x:Operand) (ht:P.underlying t=some .string) {l:List UInt8} (hx:σ.eval x= .v (bt l)):Stp P dd (.call { callee:= .builtin .len,args:= #[x],argTypes:= #[t] }) ty σ (σ.put dd (.v (.int .i64 (l.length:Int)))):=
 Bx hx fun o ρ w ho hx=> by simp [execOp,ho,resolve,invoke,builtin,Builtin.len_,run_underlying ht,hx,goInt];rfl
theorem kJ (x i:Operand) (ht:P.underlying t=some .string) {l:List UInt8} (hx:σ.eval x= .v (bt l)) {k:IntKind} {n:Nat} (hi:σ.eval i= .v (.int k (n:Int))) {b:UInt8} (hb:l[n]? =some b):Stp P dd (.index t x i) ty σ (σ.put dd (.v (.int .u8 (b.toNat:Int)))):=by
 intro o hd ho ht'
 subst hd
 refine bs fun _ _ _ a w R=> ⟨_,?_, .v,fun _=> eU⟩
 have h1:=Rep.evV R hx
 have h2:=Rep.evV R hi
 have hb':(ByteArray.mk ⟨l⟩)[n]? =some b:=by
  obtain ⟨h,e⟩:=List.getElem?_eq_some_iff.1 hb
  rw [getElem?_pos (ByteArray.mk ⟨l⟩) n (show n < (ByteArray.mk ⟨l⟩).size from h)]
  exact congrArg some e
 generalize a.eval=ρ at h1 h2 ⊢
 simp [execOp,ho,h1,h2,Instr.index,run_underlying ht,go_sem,hb']
theorem bJ (x y:Operand) (ht:P.underlying t=some .string) {l m:List UInt8} (hx:σ.eval x= .v (bt l)) (hy:σ.eval y= .v (bt m)) {r:Bool} (hr:(l==m)=r):Stp P dd (.binOp .eql t x y t') ty σ (σ.put dd (.v (.bool r))):=
 sL hx hy fun o ρ w ho hx hy=> by subst hr;simp [execOp,ho,hx,hy,eqGuard,go_sem,ht,Op.stringOp,toList_mk]
theorem sk (x y:Operand) (ht:P.underlying t=some .string) {l m:List UInt8} (hx:σ.eval x= .v (bt l)) (hy:σ.eval y= .v (bt m)) {r:Bool} (hr:(l !=m)=r):Stp P dd (.binOp .neq t x y t') ty σ (σ.put dd (.v (.bool r))):=
 sL hx hy fun o ρ w ho hx hy=> by subst hr;simp [execOp,ho,hx,hy,eqGuard,go_sem,ht,Op.stringOp,toList_mk,bne]
theorem kr (x:Operand) (lo hi:Option Operand) (ht:P.underlying t=some .string) {l:List UInt8} (hx:σ.eval x= .v (bt l)) (lv hv:Nat) (hl:Bnd σ 0 lo lv) (hh:Bnd σ l.length hi hv) (h1:lv≤hv) (h2:hv≤l.length) {m:List UInt8} (hm:(l.drop lv).take (hv - lv)=m):Stp P dd (.slice t x lo hi none) ty σ (σ.put dd (.v (bt m))):=by
 intro o hd ho ht'
 subst hd;subst hm
 refine bs fun _ _ _ a w R=> ⟨_,?_, .v,fun _=> eU⟩
 have h3:=Rep.evV R hx
 have h4:=hl.real R
 have h5:=hh.real R
 have hsz:(ByteArray.mk ⟨l⟩).size=l.length:=rfl
 have hex:=vi l lv hv
 generalize a.eval=ρ at h3 h4 h5 ⊢
 rcases h4 with ⟨rfl,rfl⟩ | ⟨p,k,L,rfl,h6,rfl⟩ <;> rcases h5 with ⟨rfl,rfl⟩ | ⟨q,k',L',rfl,h8,rfl⟩ <;>
  simp_all [execOp,Instr.slice,Instr.sliceBounds,Instr.sliceBound,run_underlying ht,go_sem] <;> (try omega)
end

theorem ww {ρ:ay→ay} {ins I:List ay} {any:Bool} {inc:ay→Bool} {c:ay}: ∀ {l:List (ay×Cells)},(∀ x∈l,cj x.1 ins=true)→jT ρ ins I any inc l c=inc c
 | [],_=> rfl
 | x::l,h=> by
  have h1:cj x.1 ins=true:=h x List.mem_cons_self
  have h2:=ww (ρ:=ρ) (I:=I) (any:=any) (inc:=inc) (c:=c) fun y hy=> h y (List.mem_cons_of_mem _ hy)
  show (bif gh c (ρ x.1) then (bif cj x.1 ins then inc c else bif cj x.1 I then any else false) else jT ρ ins I any inc l c)=inc c
  rw [h1,h2]
  cases gh c (ρ x.1) <;> rfl
theorem nR {σ:St} {ρ:ay→ay} {I:List ay}: ∀ {l:List (ay×Cells)},(∀ x∈l,cj x.1 I=true)→dz σ ρ I l
 | [],_=> trivial
 | x::l,h=> ⟨by rw [h x List.mem_cons_self];rfl,nR fun y hy=> h y (List.mem_cons_of_mem _ hy)⟩
theorem ue {σ:St} {outs:List (ay×Cells)} {ins I:List ay} (hi:outs.map (·.1)=ins) (hn:(outs.map (·.1)).Nodup):σ.afterP (aR []) outs ins I=St.setObs (outs.map fun p=> (p.1,Slot.obj p.2)) σ:=by
 have hin: ∀ x∈outs,cj x.1 ins=true:=fun x hx=> inO_iff.2 (hi ▸ List.mem_map_of_mem (f:=(·.1)) hx)
 have hids:(outs.map fun p=> (p.1,Slot.obj p.2)).map (·.1)=outs.map (·.1):=by rw [List.map_map];rfl
 have hmm:(outs.map (·.1)).map (aR [])=outs.map (·.1):=by rw [eE,List.map_id']
 refine St.eq ?_ (fun t=> ?_) (fun i=> ?_) (funext fun c=> ?_) ?_
 ·rw [ko];rfl
 ·rw [jl];rfl
 ·show cV (aR []) outs ins σ.ob i=_
  by_cases h:i∈outs.map (·.1)
  ·obtain ⟨⟨i',o⟩,hm,rfl⟩:=List.mem_map.1 h
   rw [fW _ _ (by rw [hids];exact hn) (List.mem_map.2 ⟨(i',o),hm,rfl⟩)]
   have:=cE (ρ:=aR []) (ins:=ins) (ob:=σ.ob) (by rw [hmm];exact hn) hm
   rw [eE] at this ⊢
   rw [this,ui]
  rw [gO _ _ (by rw [hids];exact h),dj (by rw [hmm];exact h),eE,List.map_id',← hi]
  cases hb:cj i (outs.map (·.1)) with
  | true=> exact absurd (inO_iff.1 hb) h
  | false=> rfl
 ·rw [ie]
  exact ww hin
 rw [il];rfl
def sq (σ:St) (ρ:ay→ay) (ins:List ay):List (ay×Cells)→Prop
 | []=> True
 | x::l=> (bif cj x.1 ins then false else σ.inc (ρ x.1))=false∧sq σ ρ ins l
theorem tD {σ:St} {ρ:ay→ay} {ins I:List ay} {c:ay}: ∀ {l:List (ay×Cells)},sq σ ρ ins l→jT ρ ins I false σ.inc l c=σ.inc c
 | [],_=> rfl
 | x::l,h=> by
  have h2:=tD (I:=I) (c:=c) h.2
  have h1:=h.1
  show (bif gh c (ρ x.1) then (bif cj x.1 ins then σ.inc c else bif cj x.1 I then false else false) else jT ρ ins I false σ.inc l c)=σ.inc c
  rw [h2]
  cases hc:gh c (ρ x.1) with
  | false=> rfl
  | true=>
   cases hi:cj x.1 ins with
   | true=> rfl
   | false=>
    rw [hi] at h1
    have h1:σ.inc (ρ x.1)=false:=h1
    rw [oeq_iff.1 hc,h1]
    cases cj x.1 I <;> rfl
def gA (ρ:ay→ay) (outs:List (ay×Cells)) (ins:List ay):List (ay×Slot):=outs.map (fun p=> (ρ p.1,Slot.obj (p.2.ren ρ)))++(fK outs ins).map fun i=> (ρ i,Slot.gone)
theorem mS {outs:List (ay×Cells)} {i:ay}: ∀ {l:List ay},i∈fK outs l→i∈l∧i∉outs.map (·.1)
 | [],h=> by cases h
 | k::l,h=> by
  simp only [fK] at h
  cases hb:cj k (outs.map (·.1)) with
  | true=>
   rw [hb] at h
   have:=mS (l:=l) h
   exact ⟨List.mem_cons_of_mem _ this.1,this.2⟩
  | false=>
   rw [hb] at h
   rcases List.mem_cons.1 h with rfl | h
   ·exact ⟨List.mem_cons_self,fun hm=> by rw [inO_iff.2 hm] at hb;cases hb⟩
   have:=mS (l:=l) h
   exact ⟨List.mem_cons_of_mem _ this.1,this.2⟩
theorem ql {σ:St} {ρ:ay→ay} {outs:List (ay×Cells)} {ins I:List ay} (hn:((gA ρ outs ins).map (·.1)).Nodup) (hno:((outs.map (·.1)).map ρ).Nodup) (hi:sq σ ρ ins outs) (ha:eB σ ((fK outs ins).map ρ)=false):σ.afterP ρ outs ins I=St.setObs (gA ρ outs ins) σ:=by
 refine St.eq ?_ (fun t=> ?_) (fun c=> ?_) (funext fun c=> ?_) ?_
 ·rw [ko];rfl
 ·rw [jl];rfl
 ·show cV ρ outs ins σ.ob c=_
  by_cases h:c∈(outs.map (·.1)).map ρ
  ·obtain ⟨i,hi,rfl⟩:=List.mem_map.1 h
   obtain ⟨⟨i',o⟩,hm,rfl⟩:=List.mem_map.1 hi
   rw [cE hno hm]
   exact (fW _ _ hn (List.mem_append.2 (.inl (List.mem_map.2 ⟨(i',o),hm,rfl⟩)))).symm
  rw [dj h]
  cases hb:cj c (ins.map ρ) with
  | true=>
   obtain ⟨i,hi,rfl⟩:=List.mem_map.1 (inO_iff.1 hb)
   exact (fW _ _ hn (List.mem_append.2 (.inr (List.mem_map.2 ⟨i,gQ hi fun hm=> h (List.mem_map_of_mem hm),rfl⟩)))).symm
  | false=>
   refine (gO _ _ fun hm=> ?_).symm
   obtain ⟨q,hq,rfl⟩:=List.mem_map.1 hm
   rcases List.mem_append.1 hq with hq | hq
   ·obtain ⟨⟨i,o⟩,hx,rfl⟩:=List.mem_map.1 hq
    exact h (List.mem_map_of_mem (List.mem_map_of_mem (f:=(·.1)) hx))
   obtain ⟨i,hx,rfl⟩:=List.mem_map.1 hq
   have hr:cj (ρ i) (ins.map ρ)=true:=inO_iff.2 (List.mem_map_of_mem (mS hx).1)
   exact absurd (hr.symm.trans hb) ah
 ·rw [ie]
  show jT ρ ins I (eB σ ((fK outs ins).map ρ)) σ.inc outs c=σ.inc c
  rw [ha]
  exact tD hi
 rw [il];rfl
section
variable {P:Program} {σ:St}
theorem db {dd:Option Tmp} {ty:TypeId} {f:FuncId} {xs:Array Operand} {ats:Array TypeId} (C:ce P f) (rn:List (ay×ay)) {args:List AV} {ins outs:List (ay×Cells)} {r:AV} {I Pn:List ay}
  (ha:eP σ rn (xs.toList.map σ.eval) args) (sp:Spec P f (aE args ins) (aP r outs I Pn)) (hins:cY (aR rn) σ (fun _=> false) (ins.map (·.1)) ins) (hfr:dz σ (aR rn) (ins.map (·.1)) outs) (hni:sq σ (aR rn) (ins.map (·.1)) outs)
  (hai:eB σ ((fK outs (ins.map (·.1))).map (aR rn))=false) {obs:List (ay×Slot)} (ho:gA (aR rn) outs (ins.map (·.1))=obs)
  (hb:(AV.withins (ins.map (·.1)) args && aY (ins.map (·.1)) ins && bf ((ins.map (·.1)).map (aR rn)) && bf (ins.map (·.1)) && bf ((outs.map (·.1)).map (aR rn)) && bf (outs.map (·.1)) && fL (ins.map (·.1)) Pn outs && r.within (outs.map (·.1)) && aY (outs.map (·.1)) outs)=true)
  (hb2:bf ((gA (aR rn) outs (ins.map (·.1))).map (·.1))=true):
  Stp P dd (.call { callee:= .value (.func f),args:=xs,argTypes:=ats }) ty σ ((St.setObs obs σ).put dd (r.ren (aR rn))):=by
 subst ho
 have key:=cC (dd:=dd) (ty:=ty) (ats:=ats) C rn ha sp hins hfr hb
 simp only [Bool.and_eq_true] at hb
 rwa [ql (bD hb2) (bD hb.1.1.1.1.2) hni hai] at key
end
section
variable {P:Program} {σ:St}
theorem bR {dd:Option Tmp} {ty:TypeId} {f:FuncId} {xs:Array Operand} {ats:Array TypeId} (C:ce P f) {args:List AV} {ins outs:List (ay×Cells)} {r:AV} {I Pn:List ay}
  (ha:eP σ [] (xs.toList.map σ.eval) args) (sp:Spec P f (aE args ins) (aP r outs I Pn)) (hins:cY (aR []) σ (fun _=> false) (ins.map (·.1)) ins) (hi:outs.map (·.1)=ins.map (·.1)) {obs:List (ay×Slot)} (ho:(outs.map fun p=> (p.1,Slot.obj p.2))=obs)
  (hb:(AV.withins (ins.map (·.1)) args && aY (ins.map (·.1)) ins && bf (ins.map (·.1)) && bf (outs.map (·.1)) && fL (ins.map (·.1)) Pn outs && r.within (outs.map (·.1)) && aY (outs.map (·.1)) outs)=true):
  Stp P dd (.call { callee:= .value (.func f),args:=xs,argTypes:=ats }) ty σ ((St.setObs obs σ).put dd r):=by
 subst ho
 simp only [Bool.and_eq_true] at hb
 obtain ⟨⟨⟨⟨⟨⟨h1,h2⟩,h4⟩,h6⟩,h7⟩,h8⟩,h9⟩:=hb
 have e:(outs.map (·.1)).map (aR [])=outs.map (·.1):=by rw [eE,List.map_id']
 have e':(ins.map (·.1)).map (aR [])=ins.map (·.1):=by rw [eE,List.map_id']
 have key:=cC (dd:=dd) (ty:=ty) (ats:=ats) C [] ha sp hins (nR fun x hx=> inO_iff.2 (hi ▸ List.mem_map_of_mem (f:=(·.1)) hx)) (by simp only [Bool.and_eq_true];exact ⟨⟨⟨⟨⟨⟨⟨⟨h1,h2⟩,by rw [e'];exact h4⟩,h4⟩,by rw [e];exact h6⟩,h6⟩,h7⟩,h8⟩,h9⟩)
 rw [ue hi (bD h6)] at key
 rwa [eE,rO] at key
end
theorem Rep.slLen {ι:ay→Option dX} {S:Nat→Prop} {w:World} {n:Nat} {xs:List PV} {x:Value} (h:Rep ι S w (.sl n xs) x):n≤maxLen:=by
 cases h with
 | sl h=>
  cases h with
  | sl0 a b _=> exact Nat.le_trans a b
  | sl _ a b=> exact Nat.le_trans a b
theorem jt {rb:Bool} {P:Program} {Q:Exit→St→Prop} {c:Code} {σ:St} (t j:Nat) {xs:List AV} {n:Nat} {ys:List PV} (ht:σ.fr t= .agg xs) (hx:xs[j]? =some (.sl n ys)) (hn:Nat.blt t σ.n=true) (h:n≤maxLen→D rb P c Q σ):D rb P c Q σ:=by
 intro K a w hr hR
 obtain ⟨ι,S,R⟩:=hR
 have hf:=R.fr t (by rwa [Nat.blt_eq] at hn)
 rw [ht] at hf
 generalize a.tmps.getD t undef=u at hf
 cases hf with
 | agg h1 h2 h3=> exact h (h3 j _ hx).slLen K a w hr ⟨ι,S,R⟩
theorem GW {rb:Bool} {P:Program} {Q:Exit→St→Prop} {c:Code} {σ:St} (t:Nat) {n:Nat} {ys:List PV} (ht:σ.fr t= .sl n ys) (hn:Nat.blt t σ.n=true) (h:n≤maxLen→D rb P c Q σ):D rb P c Q σ:=by
 intro K a w hr hR
 obtain ⟨ι,S,R⟩:=hR
 have hf:=R.fr t (by rwa [Nat.blt_eq] at hn)
 rw [ht] at hf
 exact h hf.slLen K a w hr ⟨ι,S,R⟩
section
variable {P:Program} {σ:St} {dd:Option Tmp} {ty:TypeId}
theorem DV {t t' t2:TypeId} {a b c:Int} (x y z:Operand) (hx:σ.eval x= .v (.int .i64 a)) (hy:σ.eval y= .v (.int .i64 b)) (hz:σ.eval z= .v (.int .i64 c)) {r:Int} (hr:max (max a b) c=r):Stp P dd (.call { callee:= .builtin .max,args:= #[x,y,z],argTypes:= #[t,t',t2] }) ty σ (σ.put dd (.v (.int .i64 r))):=by
 intro o hd ho ht
 subst hd
 refine bs fun _ _ _ A w R=> ⟨_,?_, .v,fun _=> eU⟩
 have h1:=Rep.evV R hx
 have h2:=Rep.evV R hy
 have h3:=Rep.evV R hz
 generalize A.eval=ρ at h1 h2 h3
 subst hr
 by_cases k1:b > a <;> by_cases k2:c > (if b > a then b else a) <;> simp [execOp,ho,resolve,invoke,builtin,h1,h2,h3,go_sem,Builtin.max_,Builtin.max2,k1] <;> (try simp [k1] at k2) <;> (try simp [k2]) <;> omega
end

theorem Le.cutR {σ:St} (id:ay) (k:Nat) {e:TypeId} {sz:Nat} {xs ys:List PV} (hid:σ.ob id= .obj (.row e sz xs)) (hy:xs.take k=ys):Le (σ.setOb id (.obj (.row e sz ys))) σ:=by
 subst hy
 intro K ι S a w R
 obtain ⟨B,h1,h2,h3⟩:=R.ob id _ hid
 refine ⟨ι,S,R.upd hid h1 (.of_below (gX w)) ⟨B,h1,h2,?_⟩ fun i hi=> hi.elim⟩
 rcases h3 with ⟨a1,a2,a3⟩ | ⟨g,cur,b1,b2,b3,b4,b5⟩
 ·exact .inl ⟨a1,by rw [List.length_take];omega,a3⟩
 refine .inr ⟨g,cur,b1,b2,b3,by rw [List.length_take];omega,fun j hj=> ?_⟩
 rw [List.length_take] at hj
 obtain ⟨u,c1,c2,c3⟩:=b5 j ab
 refine ⟨u,c1,c2,fun p hp=> c3 p ?_⟩
 rw [List.getElem?_take_of_lt ab] at hp
 exact hp

def kO (σ:St) (ρ:ay→ay) (ins I:List ay) (any:Bool):List (ay×Cells)→Prop
 | []=> True
 | x::l=> (bif cj x.1 ins then true else bif cj x.1 I then (any==σ.inc (ρ x.1)) else !(σ.inc (ρ x.1)))=true∧kO σ ρ ins I any l
theorem qr {σ:St} {ρ:ay→ay} {ins I:List ay} {any:Bool} {c:ay}: ∀ {l:List (ay×Cells)},kO σ ρ ins I any l→jT ρ ins I any σ.inc l c=σ.inc c
 | [],_=> rfl
 | x::l,h=> by
  have h2:=qr (c:=c) h.2
  have h1:=h.1
  show (bif gh c (ρ x.1) then (bif cj x.1 ins then σ.inc c else bif cj x.1 I then any else false) else jT ρ ins I any σ.inc l c)=σ.inc c
  rw [h2]
  cases hc:gh c (ρ x.1) with
  | false=> rfl
  | true=>
   rw [oeq_iff.1 hc]
   cases hi:cj x.1 ins with
   | true=> rfl
   | false=>
    rw [hi] at h1
    cases hj:cj x.1 I with
    | true=>
     rw [hj] at h1
     have h1:(any==σ.inc (ρ x.1))=true:=h1
     exact beq_iff_eq.1 h1
    | false=>
     rw [hj] at h1
     have h1:(!(σ.inc (ρ x.1)))=true:=h1
     show false=σ.inc (ρ x.1)
     cases h5:σ.inc (ρ x.1) with
     | true=> rw [h5] at h1;cases h1
     | false=> rfl
theorem gT {σ:St} {ρ:ay→ay} {outs:List (ay×Cells)} {ins I:List ay} (hn:((gA ρ outs ins).map (·.1)).Nodup) (hno:((outs.map (·.1)).map ρ).Nodup) (hi:kO σ ρ ins I (eB σ ((fK outs ins).map ρ)) outs):σ.afterP ρ outs ins I=St.setObs (gA ρ outs ins) σ:=by
 refine St.eq ?_ (fun t=> ?_) (fun c=> ?_) (funext fun c=> ?_) ?_
 ·rw [ko];rfl
 ·rw [jl];rfl
 ·show cV ρ outs ins σ.ob c=_
  by_cases h:c∈(outs.map (·.1)).map ρ
  ·obtain ⟨i,hi,rfl⟩:=List.mem_map.1 h
   obtain ⟨⟨i',o⟩,hm,rfl⟩:=List.mem_map.1 hi
   rw [cE hno hm]
   exact (fW _ _ hn (List.mem_append.2 (.inl (List.mem_map.2 ⟨(i',o),hm,rfl⟩)))).symm
  rw [dj h]
  cases hb:cj c (ins.map ρ) with
  | true=>
   obtain ⟨i,hi,rfl⟩:=List.mem_map.1 (inO_iff.1 hb)
   exact (fW _ _ hn (List.mem_append.2 (.inr (List.mem_map.2 ⟨i,gQ hi fun hm=> h (List.mem_map_of_mem hm),rfl⟩)))).symm
  | false=>
   refine (gO _ _ fun hm=> ?_).symm
   obtain ⟨q,hq,rfl⟩:=List.mem_map.1 hm
   rcases List.mem_append.1 hq with hq | hq
   ·obtain ⟨⟨i,o⟩,hx,rfl⟩:=List.mem_map.1 hq
    exact h (List.mem_map_of_mem (List.mem_map_of_mem (f:=(·.1)) hx))
   obtain ⟨i,hx,rfl⟩:=List.mem_map.1 hq
   have hr:cj (ρ i) (ins.map ρ)=true:=inO_iff.2 (List.mem_map_of_mem (mS hx).1)
   exact absurd (hr.symm.trans hb) ah
 ·rw [ie]
  show jT ρ ins I (eB σ ((fK outs ins).map ρ)) σ.inc outs c=σ.inc c
  exact qr hi
 rw [il];rfl
section
variable {P:Program} {σ:St}
theorem aC {dd:Option Tmp} {ty:TypeId} {f:FuncId} {xs:Array Operand} {ats:Array TypeId} (C:ce P f) (rn:List (ay×ay)) {args:List AV} {ins outs:List (ay×Cells)} {r:AV} {I Pn:List ay}
  (ha:eP σ rn (xs.toList.map σ.eval) args) (sp:Spec P f (aE args ins) (aP r outs I Pn)) (hins:cY (aR rn) σ (fun _=> false) (ins.map (·.1)) ins) (hfr:dz σ (aR rn) (ins.map (·.1)) outs) (hni:kO σ (aR rn) (ins.map (·.1)) I (eB σ ((fK outs (ins.map (·.1))).map (aR rn))) outs) {obs:List (ay×Slot)} (ho:gA (aR rn) outs (ins.map (·.1))=obs)
  (hb:(AV.withins (ins.map (·.1)) args && aY (ins.map (·.1)) ins && bf ((ins.map (·.1)).map (aR rn)) && bf (ins.map (·.1)) && bf ((outs.map (·.1)).map (aR rn)) && bf (outs.map (·.1)) && fL (ins.map (·.1)) Pn outs && r.within (outs.map (·.1)) && aY (outs.map (·.1)) outs)=true)
  (hb2:bf ((gA (aR rn) outs (ins.map (·.1))).map (·.1))=true):
  Stp P dd (.call { callee:= .value (.func f),args:=xs,argTypes:=ats }) ty σ ((St.setObs obs σ).put dd (r.ren (aR rn))):=by
 subst ho
 have key:=cC (dd:=dd) (ty:=ty) (ats:=ats) C rn ha sp hins hfr hb
 simp only [Bool.and_eq_true] at hb
 rwa [gT (bD hb2) (bD hb.1.1.1.1.2) hni] at key
theorem dN {dd:Option Tmp} {ty:TypeId} {f:FuncId} {x0:Operand} {xs:Array Operand} {ats:Array TypeId} {first caps:List AV} (hx:σ.eval x0= .fn (.func f) first caps) (C:ce P f) (rn:List (ay×ay)) {args:List AV} {ins outs:List (ay×Cells)} {r:AV} {I Pn:List ay}
  (ha:eP σ rn (first++xs.toList.map σ.eval++caps) args) (sp:Spec P f (aE args ins) (aP r outs I Pn)) (hins:cY (aR rn) σ (fun _=> false) (ins.map (·.1)) ins) (hfr:dz σ (aR rn) (ins.map (·.1)) outs) (hni:kO σ (aR rn) (ins.map (·.1)) I (eB σ ((fK outs (ins.map (·.1))).map (aR rn))) outs) {obs:List (ay×Slot)} (ho:gA (aR rn) outs (ins.map (·.1))=obs)
  (hb:(AV.withins (ins.map (·.1)) args && aY (ins.map (·.1)) ins && bf ((ins.map (·.1)).map (aR rn)) && bf (ins.map (·.1)) && bf ((outs.map (·.1)).map (aR rn)) && bf (outs.map (·.1)) && fL (ins.map (·.1)) Pn outs && r.within (outs.map (·.1)) && aY (outs.map (·.1)) outs)=true)
  (hb2:bf ((gA (aR rn) outs (ins.map (·.1))).map (·.1))=true):
  Stp P dd (.call { callee:= .value x0,args:=xs,argTypes:=ats }) ty σ ((St.setObs obs σ).put dd (r.ren (aR rn))):=by
 subst ho
 have key:=xI (dd:=dd) (ty:=ty) (ats:=ats) hx C rn ha sp hins hfr hb
 simp only [Bool.and_eq_true] at hb
 rwa [gT (bD hb2) (bD hb.1.1.1.1.2) hni] at key
end

section
variable {P:Program} {σ:St} {io:ay} {Φ:Slot→Prop}
theorem eR {all:List Oper} {W:List Nat} {I:List ay} {AA:List (List ay)} {Kont:List Res→Prop} {os:List Oper} {rs:List Res} {d:Option Tmp} {op:Op} {ty:TypeId} {p:String} {af:List Edge} (r:Res)
  (hs: ∀ τ:St,Φ (τ.ob io)→Stp P d op ty (dO σ W (iK AA I rs.length) (r.2.map (·.1)) all rs (Edge.ons af) τ) (r.app d (dO σ W (iK AA I rs.length) (r.2.map (·.1)) all rs (Edge.ons af) τ))) (h:AnyOpsW io Φ P all W I AA σ Kont os (rs++[r])):AnyOpsW io Φ P all W I AA σ Kont (⟨d,op,ty,p,af.toArray,none⟩::os) rs:=
 ⟨r, .plain rfl fun τ hτ=> hs τ hτ _ rfl rfl rfl,h⟩
theorem tH {all:List Oper} {W:List Nat} {I:List ay} {AA:List (List ay)} {Kont:List Res→Prop} {rs:List Res} (h:Kont rs):AnyOpsW io Φ P all W I AA σ Kont [] rs:=h
theorem eS {all:List Oper} {W:List Nat} {I:List ay} {AA:List (List ay)} {Kont:List Res→Prop} {os:List Oper} {rs rs':List Res} (h:rs=rs') (hh:AnyOpsW io Φ P all W I AA σ Kont os rs'):AnyOpsW io Φ P all W I AA σ Kont os rs:=h ▸ hh
theorem AnyOpsW.imp {all:List Oper} {W:List Nat} {I:List ay} {AA:List (List ay)} {K K':List Res→Prop} (hk: ∀ rs,K rs→K' rs): ∀ {os:List Oper} {rs:List Res},AnyOpsW io Φ P all W I AA σ K os rs→AnyOpsW io Φ P all W I AA σ K' os rs
 | [],rs,h=> hk rs h
 | o::os,rs,⟨r,h1,h2⟩=> ⟨r,h1,AnyOpsW.imp hk h2⟩
theorem wN (io:ay) (Φ:Slot→Prop) {rb:Bool} {Q:Exit→St→Prop} {id:Nat} {l hd tl:List Oper} (n:Nat) (W:List Nat) (I:List ay) (hm:P.follows .mixedOrders=true) (hB:kE l.toArray n=true) (hW:(l.take n).filterMap (·.dst)=W) (hI:I.Nodup)
  (e1:l.take n=hd) (e2:l.drop n=tl) (h0:Φ (σ.ob io)) (h:AnyOpsW io Φ P hd W I [] σ (fun rs=> (fO rs=I∧ ∀ r∈rs,∀ c,(io,c)∈r.2→Φ c)∧DL rb P l.toArray Q tl (cT hd rs (fun _=> true) 0 σ)) hd []):D rb P (.region id l.toArray true) Q σ:=by
 subst e1;subst e2
 exact zP io Φ n W I [] hm hB hW hI h0 (AnyOpsW.imp (fun rs h=> ⟨⟨⟨h.1.1,rfl⟩,h.1.2⟩,h.2⟩) h)
end

def fN (M:List (Int×Value)) (n:Int) (u:Value):List (Int×Value):=if (fX M n).isSome then M else M++[(n,u)]
theorem rz {k:Int}: ∀ {M:List (Int×Value)} {i j:Nat} {v:Value},jg k M i=some (j,v)→ ∃ q,j=i+q∧M[q]? =some (k,v)
 | [],_,_,_,h=> by cases h
 | p::l,i,j,v,h=> by
  unfold jg at h
  by_cases hk:k=p.1
  ·rw [if_pos hk] at h
   cases h
   exact ⟨0,rfl,by rw [hk];rfl⟩
  rw [if_neg hk] at h
  obtain ⟨q,h1,h2⟩:=rz h
  exact ⟨q+1,by omega,by simpa using h2⟩
variable {P:Program} {T k e:TypeId}
theorem BG {w:World} {g:Nat} {M:List (Int×Value)} {x:Int} {v:Value} (hT:P.underlying T=some (.map k e)) (hk:P.underlying k=some (.int .i64)) (hb:w.heap[g]? =some (.map (cM M).toArray M.length)) (hm: ∀ u,fX M x=some u→u=v):
  (Instr.mapUpdate T (.map (some g)) (.int .i64 x) v).run P w= .ok () (w.putObj g (.map (cM (fN M x v)).toArray (fN M x v).length)):=by
 cases hg:fX M x with
 | none=>
  have:fN M x v=M++[(x,v)]:=by unfold fN;rw [hg];rfl
  rw [this]
  exact uc hT hk hb hg
 | some u=>
  have hu:=hm u hg
  subst hu
  have:fN M x u=M:=by unfold fN;rw [hg];rfl
  rw [this]
  unfold fX at hg
  cases hf:jg x M 0 with
  | none=> rw [hf] at hg;cases hg
  | some p=>
   obtain ⟨i,v'⟩:=p
   rw [hf] at hg
   obtain rfl:v'=u:=Option.some.inj hg
   obtain ⟨q,hq,hM⟩:=rz hf
   have hq:i=q:=by omega
   subst hq
   have hes:(cM M)[i]? =some ⟨.int .i64 x,v',i⟩:=by rw [iY,hM];rfl
   have hsame:((cM M).modify i fun e=> { e with key:= .int .i64 x,val:=v' })=cM M:=by
    apply List.ext_getElem?
    intro j
    rw [List.getElem?_modify]
    by_cases hj:i=j
    ·subst hj
     rw [hes];simp
    simp [hj]
   have hsb:Instr.sameBits 10000 (.int .i64 x) (.int .i64 x)=true:=by
    rw [show (10000:Nat)=9999+1 from rfl,Instr.sameBits];simp
   simp only [Instr.mapUpdate,Sem.run_bind,run_underlying hT,Result.andThen_ok,getObj,setObj,Sem.run,hb,Result.andThen,rG hk,mE hk,hf]
   simp [Instr.keyThatStays,hes,hsame,hsb,hb,World.putObj,Sem.run,Result.andThen]
section
variable {σ:St}
theorem Dn {ty:TypeId} (x y v:Operand) (hT:P.underlying T=some (.map k e)) (hk:P.underlying k=some (.int .i64)) {id:ay} {M M':List (Int×Value)} {c c':Nat} (hc:c=M.length) (hx:σ.eval x= .mp id) (hid:σ.ob id= .obj (.mp (cM M) c))
  {n:Int} (hy:σ.eval y= .v (.int .i64 n)) (hv:σ.eval v= .agg []) (hr: ∀ u,fX M n=some u→u= .agg #[]) (hM:fN M n (.agg #[])=M') (hc':M'.length=c'):Stp P none (.mapUpdate T x y v) ty σ ((σ.setOb id (.obj (.mp (cM M') c'))).put none .dead):=by
 intro o hd ho ht
 subst hc;subst hM;subst hc'
 intro K ι S a w R
 obtain ⟨B,g,h1,h2,h3,h4⟩:=R.mapAt hx hid
 have hi:=R.eval y
 rw [hy] at hi
 have hi:=hi.toV
 have hu:=R.eval v
 rw [hv] at hu
 generalize hav:a.eval v=uu at hu
 cases hu with
 | agg a1 a2 a3=>
 rename_i us
 obtain rfl:us= #[]:=Array.size_eq_zero_iff.1 (by simpa using a1)
 obtain ⟨M',hM'⟩: ∃ M',fN M n (.agg #[])=M':=⟨_,rfl⟩
 have hrun:(execOp a.eval o).run P w= .ok .skip (w.putObj g (.map (cM M').toArray M'.length)):=by
  have:=BG hT hk h4 hr
  rw [hM'] at this
  simp only [execOp,ho,h3,hi,hav,this,Sem.run_map,Sem.run_bind,Sem.run_pure,Result.andThen_ok]
 rw [hM']
 have hot: ∀ k,k≠g→(w.putObj g (.map (cM M').toArray M'.length)).heap[k]? =w.heap[k]? :=fun k hk=> World.putObj_heap_other hk
 have hk':Keeps (fun k=> B.g=some k) w (w.putObj g (.map (cM M').toArray M'.length)):=⟨rfl,rfl,rfl,by simp,fun k _ hn=> hot k fun e=> hn (e ▸ h2)⟩
 have R1:=R.upd (o':= .mp (cM M') M'.length) hid h1 hk' ⟨B,g,h1,h2,by
  have:=(Array.getElem?_eq_some_iff.1 h4).1
  simp [World.putObj,this]⟩ (fun i hi=> hi.elim)
 refine gj hrun ⟨ι,S,?_⟩
 rw [hd]
 exact R1.put none .dead fun i hi=> by cases hi
end

section
variable {rb:Bool} {P:Program} {Q:Exit→St→Prop} {σ:St}
theorem aA {x y:Code} (h:D rb P x (gB (D rb P y Q) Q) σ):D rb P (.seq x y) Q σ:=ax fun _ hK=> by
 intro K a w hr R
 refine wpIn_mono (h K a w hr R) ?_
 rintro e a' w' ⟨σ',R',q⟩
 refine ⟨σ',R',?_⟩
 cases e with
 | normal=> exact hK _ q
 | _=> exact q
theorem aH {id:Nat} {l:List Oper} {y:Code} (h:DL rb P l.toArray (gB (D rb P y Q) Q) l σ):D rb P (.seq (.region id l.toArray false) y) Q σ:=aA (an h)
theorem aj {ops:Array Oper} {y:Code} (h:D rb P y Q σ):DL rb P ops (gB (D rb P y Q) Q) [] σ:=am h
theorem cX {y:Code} (h:D rb P y Q σ):D rb P .skip (gB (D rb P y Q) Q) σ:=aU h
theorem qz {ops:Array Oper} {y:Code} {i:Nat} (h:D rb P y Q σ):DL rb P ops (ks i (gB (D rb P y Q) Q)) [] σ:=am h
theorem lk {y:Code} {i:Nat} (h:D rb P y Q σ):D rb P .skip (ks i (gB (D rb P y Q) Q)) σ:=aU h
theorem HQ {ops:Array Oper} {y:Code} {i j:Nat} (h:D rb P y Q σ):DL rb P ops (ks i (ks j (gB (D rb P y Q) Q))) [] σ:=am h
theorem Il {y:Code} {i j:Nat} (h:D rb P y Q σ):D rb P .skip (ks i (ks j (gB (D rb P y Q) Q))) σ:=aU h
end
section
variable {rb:Bool} {P:Program} {Q:Exit→St→Prop} {σ:St} {ops:Array Oper} {rest:List Oper} {d:Option Tmp} {ty:TypeId} {p:String} {af:Array Edge}
theorem HY {x:Operand} {b:Bool} (hx:σ.eval x= .v (.bool b)) (h:DL rb P ops Q rest (σ.put d (.v (.bool b)))):DL rb P ops Q (⟨d, .move x,ty,p,af,none⟩::rest) σ:=ai (br x hx) h
theorem gP {x:Operand} {b:Bool} (hx:σ.eval x= .v (.bool b)) (h:DL rb P ops Q rest (σ.put d (.v (.bool b)))):DL rb P ops Q (⟨d, .assign x,ty,p,af,none⟩::rest) σ:=ai (bg x hx) h
theorem bE {x:Operand} {k:IntKind} {n:Int} (hx:σ.eval x= .v (.int k n)) (h:DL rb P ops Q rest (σ.put d (.v (.int k n)))):DL rb P ops Q (⟨d, .move x,ty,p,af,none⟩::rest) σ:=ai (br x hx) h
theorem bF {x:Operand} {k:IntKind} {n:Int} (hx:σ.eval x= .v (.int k n)) (h:DL rb P ops Q rest (σ.put d (.v (.int k n)))):DL rb P ops Q (⟨d, .assign x,ty,p,af,none⟩::rest) σ:=ai (bg x hx) h
theorem so {x:Operand} {s:ByteArray} (hx:σ.eval x= .v (.string s)) (h:DL rb P ops Q rest (σ.put d (.v (.string s)))):DL rb P ops Q (⟨d, .move x,ty,p,af,none⟩::rest) σ:=ai (br x hx) h
theorem sM {x:Operand} {s:ByteArray} (hx:σ.eval x= .v (.string s)) (h:DL rb P ops Q rest (σ.put d (.v (.string s)))):DL rb P ops Q (⟨d, .assign x,ty,p,af,none⟩::rest) σ:=ai (bg x hx) h
theorem bN {x:Operand} {i:ay} {o:Nat} (hx:σ.eval x= .ptr i o) (h:DL rb P ops Q rest (σ.put d (.ptr i o))):DL rb P ops Q (⟨d, .move x,ty,p,af,none⟩::rest) σ:=ai (br x hx) h
theorem Oe {x:Operand} {i:ay} {o:Nat} (hx:σ.eval x= .ptr i o) (h:DL rb P ops Q rest (σ.put d (.ptr i o))):DL rb P ops Q (⟨d, .assign x,ty,p,af,none⟩::rest) σ:=ai (bg x hx) h
theorem sR {x:Operand} {i:ay} {o n:Nat} (hx:σ.eval x= .ref i o n) (h:DL rb P ops Q rest (σ.put d (.ref i o n))):DL rb P ops Q (⟨d, .move x,ty,p,af,none⟩::rest) σ:=ai (br x hx) h
theorem gF {x:Operand} {i:ay} {o n:Nat} (hx:σ.eval x= .ref i o n) (h:DL rb P ops Q rest (σ.put d (.ref i o n))):DL rb P ops Q (⟨d, .assign x,ty,p,af,none⟩::rest) σ:=ai (bg x hx) h
theorem jV {x:Operand} {n:Nat} {xs:List PV} (hx:σ.eval x= .sl n xs) (h:DL rb P ops Q rest (σ.put d (.sl n xs))):DL rb P ops Q (⟨d, .move x,ty,p,af,none⟩::rest) σ:=ai (br x hx) h
theorem FQ {x:Operand} {n:Nat} {xs:List PV} (hx:σ.eval x= .sl n xs) (h:DL rb P ops Q rest (σ.put d (.sl n xs))):DL rb P ops Q (⟨d, .assign x,ty,p,af,none⟩::rest) σ:=ai (bg x hx) h
theorem LO {t:TypeId} {z:List Value} {x:Operand} [T:Ty P t false z] {i:ay} {off:Nat} {e:TypeId} {ys:List AV} {k:IntKind} {n:Int} (hx:σ.eval x= .ptr i off) (hid:σ.ob i= .obj (.box e ys)) (hv:ys[off]? =some (.v (.int k n))) (h:DL rb P ops Q rest (σ.put d (.v (.int k n)))):DL rb P ops Q (⟨d, .load t x,ty,p,af,none⟩::rest) σ:=ai (bM x T hx hid hv) h
theorem NU {t t':TypeId} {x y:Operand} {k:IntKind} {a b:Int} (hx:σ.eval x= .v (.int k a)) (hy:σ.eval y= .v (.int k b)) (hr:(a==b)=true) (h:DL rb P ops Q rest (σ.put d (.v (.bool true)))):DL rb P ops Q (⟨d, .binOp .eql t x y t',ty,p,af,none⟩::rest) σ:=ai (ca x y hx hy hr) h
theorem AP {t t':TypeId} {x y:Operand} {k:IntKind} {a b:Int} (hx:σ.eval x= .v (.int k a)) (hy:σ.eval y= .v (.int k b)) (hr:(a==b)=false) (h:DL rb P ops Q rest (σ.put d (.v (.bool false)))):DL rb P ops Q (⟨d, .binOp .eql t x y t',ty,p,af,none⟩::rest) σ:=ai (ca x y hx hy hr) h
theorem HG {t:TypeId} {g:Bool} {z:List Value} {x y:Operand} [T:Ty P t g z] {i:ay} {off:Nat} {e:TypeId} {xs vs ys:List AV} (hx:σ.eval x= .ptr i off) (hid:σ.ob i= .obj (.box e xs)) (hv:(σ.eval y).cells=some vs) (hl:vs.length=z.length) (hfit:Nat.ble (off+vs.length) xs.length=true) (hy:ez xs off vs=ys) (h:DL rb P ops Q rest ((σ.setOb i (.obj (.box e ys))).put d .dead)):DL rb P ops Q (⟨d, .store t x y,ty,p,af,none⟩::rest) σ:=ai (fU x y T hx hid hv hl (Nat.le_of_ble_eq_true hfit) hy) h
theorem Ic {id:Nat} {d1 d2:Tmp} {EQ Fj t t':TypeId} {p1 p2:String} {f1 f2:Array Edge} {u v w z:Operand} {x y:Code} {k:IntKind} {a b:Int} (hx:σ.eval u= .v (.int k a)) (hy:σ.eval v= .v (.int k b)) (hr:(a==b)=false) (hw:(σ.put (some d1) (.v (.bool false))).eval w= .v (.bool false)) (hz:((σ.put (some d1) (.v (.bool false))).put (some d2) (.v (.bool false))).eval z= .v (.bool false)) (h:D rb P y Q ((σ.put (some d1) (.v (.bool false))).put (some d2) (.v (.bool false)))):
  D rb P (.seq (.region id #[⟨some d1, .binOp .eql t u v t',EQ,p1,f1,none⟩,⟨some d2, .assign w,Fj,p2,f2,none⟩] false) (.cond z x y)) Q σ:=aH (l:=[⟨some d1, .binOp .eql t u v t',EQ,p1,f1,none⟩,⟨some d2, .assign w,Fj,p2,f2,none⟩]) (ai (ca u v hx hy hr) (ai (bg w hw) (aj (oD hz h))))
end
theorem ar {σ:St} {rn:List (ay×ay)} {xs ys:List AV} (h:eP σ rn xs ys:=by repeat' (first | exact cN | refine cq ?_ ?_ | exact Lv.v | exact eN (by assumption) | exact eN ab | exact Lv.sl | exact Lv.fp | exact Lv.nil | exact eH rfl rfl | exact di rfl | refine Lv.agg rfl ?_ | refine Lv.fn rfl ?_ rfl ?_ | refine Lv.ifc ?_ | exact bz | refine aB ?_ ?_)):eP σ rn xs ys:=h
theorem al {σ:St} {F:ay→Bool} {xs ys:List AV} (h:fY σ F xs ys:=by repeat' (first | exact cL | refine nM ?_ ?_ | exact Lv.v | exact eN ab | exact Lv.sl | exact Lv.fp | exact Lv.nil | refine Lv.agg rfl ?_ | refine Lv.fn rfl ?_ rfl ?_ | exact bz | refine aB ?_ ?_ | exact Lv.z0)):fY σ F xs ys:=h
theorem aw {σ:St} {F:ay→Bool} {xs ys:List AV} (h:fY σ F xs ys:=by repeat' (first | exact cL | refine nM ?_ ?_ | exact Lv.v | exact eN ab | exact Lv.sl | exact Lv.fp | exact Lv.nil | refine Lv.agg rfl ?_ | refine Lv.fn rfl ?_ rfl ?_ | exact bz | refine aB ?_ ?_ | (refine iO rfl rfl ?_ rfl;first | assumption | (simp;done) | (simp;omega) | omega) | exact Lv.frzP rfl rfl rfl)):fY σ F xs ys:=h
theorem kp {σ:St} {n:Nat} {slots:List (Nat×AV)} {obs:List (ay×Cells)} {I Pn:List ay} (h:Le (ap n slots obs I Pn) σ:=by
 refine Le.mkJ [] [] rfl ?_ ?_ trivial ?_ ?_
 ·repeat' (first | exact trivial | exact iV rfl | exact iP rfl | exact iS rfl | exact iR rfl | exact iF rfl | exact iA rfl | exact iN rfl | exact iT rfl | exact iM rfl | exact iZ rfl | exact iD rfl | exact iI rfl | refine ⟨?_,?_⟩)
 ·repeat' (first | exact trivial | exact dc rfl rfl rfl | refine ⟨?_,?_⟩)
 ·repeat' (first | exact trivial | refine ⟨rfl,?_⟩)
 kernel_rfl):Le (ap n slots obs I Pn) σ:=h
theorem Kg {rb:Bool} {P:Program} {Q:Exit→St→Prop} {σ:St} {id:Nat} {d1 d2:Tmp} {EQ Fj t t':TypeId} {p1 p2:String} {f1 f2:Array Edge} {u v w z:Operand} {x y:Code} {k:IntKind} {a b:Int} (hx:σ.eval u= .v (.int k a)) (hy:σ.eval v= .v (.int k b)) (hr:(a==b)=false) (hw:(σ.put (some d1) (.v (.bool false))).eval w= .v (.bool false)) (hz:((σ.put (some d1) (.v (.bool false))).put (some d2) (.v (.bool false))).eval z= .v (.bool false)) (h:D rb P y Q ((σ.put (some d1) (.v (.bool false))).put (some d2) (.v (.bool false)))):
  D rb P (.region id #[⟨some d1, .binOp .eql t u v t',EQ,p1,f1,none⟩,⟨some d2, .assign w,Fj,p2,f2,none⟩] false) (gB (D rb P (.cond z x y) Q) Q) σ:=an (l:=[⟨some d1, .binOp .eql t u v t',EQ,p1,f1,none⟩,⟨some d2, .assign w,Fj,p2,f2,none⟩]) (ai (ca u v hx hy hr) (ai (bg w hw) (aj (oD hz h))))
theorem MT {rb:Bool} {P:Program} {Q:Exit→St→Prop} {σ:St} {id:Nat} {d1 d2:Tmp} {EQ Fj t t':TypeId} {p1 p2:String} {f1 f2:Array Edge} {u v w z:Operand} {x y:Code} {k:IntKind} {a b:Int} (hx:σ.eval u= .v (.int k a)) (hy:σ.eval v= .v (.int k b)) (hr:(a==b)=true) (hw:(σ.put (some d1) (.v (.bool true))).eval w= .v (.bool true)) (hz:((σ.put (some d1) (.v (.bool true))).put (some d2) (.v (.bool true))).eval z= .v (.bool true)) (h:D rb P x Q ((σ.put (some d1) (.v (.bool true))).put (some d2) (.v (.bool true)))):
  D rb P (.region id #[⟨some d1, .binOp .eql t u v t',EQ,p1,f1,none⟩,⟨some d2, .assign w,Fj,p2,f2,none⟩] false) (gB (D rb P (.cond z x y) Q) Q) σ:=an (l:=[⟨some d1, .binOp .eql t u v t',EQ,p1,f1,none⟩,⟨some d2, .assign w,Fj,p2,f2,none⟩]) (ai (ca u v hx hy hr) (ai (bg w hw) (aj (rq hz h))))
theorem aF {P:Program} {σ:St} {dd:Option Tmp} {ty:TypeId} {f:FuncId} {xs:Array Operand} {ats:Array TypeId} [C:ce P f] {args:List AV} {ins outs:List (ay×Cells)} {r:AV} {I Pn:List ay}
  (sp:Spec P f (aE args ins) (aP r outs I Pn)) (ha:eP σ [] (xs.toList.map σ.eval) args:=by repeat' (first | exact cN | refine cq ?_ ?_ | exact Lv.v | exact eN (by assumption) | exact eN ab | exact Lv.sl | exact Lv.fp | exact Lv.nil | exact eH rfl rfl | exact di rfl | refine Lv.agg rfl ?_ | refine Lv.fn rfl ?_ rfl ?_ | refine Lv.ifc ?_ | exact bz | refine aB ?_ ?_))
  (hins:cY (aR []) σ (fun _=> false) (ins.map (·.1)) ins:=by exact ⟨⟨rfl,⟨_,rfl, .box rfl (by repeat' (first | exact bz | refine aB ?_ ?_ | exact Lv.sl | exact Lv.v | exact Lv.nil | exact eH rfl rfl))⟩,rfl⟩,trivial⟩) (hfr:dz σ (aR []) (ins.map (·.1)) outs:=by exact ⟨rfl,trivial⟩)
  (hb:(AV.withins (ins.map (·.1)) args && aY (ins.map (·.1)) ins && bf ((ins.map (·.1)).map (aR [])) && bf (ins.map (·.1)) && bf ((outs.map (·.1)).map (aR [])) && bf (outs.map (·.1)) && fL (ins.map (·.1)) Pn outs && r.within (outs.map (·.1)) && aY (outs.map (·.1)) outs)=true:=by kernel_rfl):
  Stp P dd (.call { callee:= .value (.func f),args:=xs,argTypes:=ats }) ty σ ((σ.afterP (aR []) outs (ins.map (·.1)) I).put dd (r.ren (aR []))):=cC C [] ha sp hins hfr hb
theorem lz {ρ:ay→ay} {σ:St} {F:ay→Bool} {xs ys:List AV} (h: ∀ (j:Nat) (a b:AV),xs[j]? =some a→ys[j]? =some b→Lv ρ σ F a b:=by repeat' (first | exact bz | refine aB ?_ ?_ | exact Lv.v | exact Lv.sl | exact Lv.nil | exact eH rfl rfl | exact di rfl | exact Lv.fp | exact eN rfl | exact qK rfl | exact iu rfl rfl | refine Lv.fn rfl ?_ rfl ?_ | refine Lv.agg rfl ?_ | exact Lv.z)): ∀ (j:Nat) (a b:AV),xs[j]? =some a→ys[j]? =some b→Lv ρ σ F a b:=h
theorem tr {p:Prop} (h:p:=by repeat' (first | exact trivial | refine ⟨rfl,?_⟩)):p:=h
theorem ob {p:Prop} (h:p:=by repeat' (first | exact trivial | exact ⟨rfl,⟨_,rfl, .rowE rfl⟩,rfl⟩ | exact ⟨rfl,⟨_,rfl, .box ag (by repeat' (first | exact bz | refine aB ?_ ?_ | exact Lv.v | exact Lv.sl | exact Lv.nil | exact eH rfl rfl | exact di rfl | exact Lv.fp | exact eN rfl | exact qK rfl | exact iu rfl rfl | refine Lv.fn rfl ?_ rfl ?_ | refine Lv.agg rfl ?_ | exact Lv.z))⟩,rfl⟩ | refine ⟨?_,?_⟩)):p:=h
theorem HF {ρ:ay→ay} {σ:St} {F:ay→Bool} {x0 x1 x2 x3:Value} {xs ys:List AV} (h: ∀ (j:Nat) (a b:AV),xs[j]? =some a→ys[j]? =some b→Lv ρ σ F a b): ∀ (j:Nat) (a b:AV),(.v x0:: .v x1:: .v x2:: .v x3::xs)[j]? =some a→(.v x0:: .v x1:: .v x2:: .v x3::ys)[j]? =some b→Lv ρ σ F a b:=aB .v (aB .v (aB .v (aB .v h)))
theorem yK {ρ:ay→ay} {σ:St} {F:ay→Bool} {x0 x1 x2 x3 x4 x5 x6 x7 x8 x9:Value} {xs ys:List AV} (h: ∀ (j:Nat) (a b:AV),xs[j]? =some a→ys[j]? =some b→Lv ρ σ F a b): ∀ (j:Nat) (a b:AV),(.v x0:: .v x1:: .v x2:: .v x3:: .v x4:: .v x5:: .v x6:: .v x7:: .v x8:: .v x9::xs)[j]? =some a→(.v x0:: .v x1:: .v x2:: .v x3:: .v x4:: .v x5:: .v x6:: .v x7:: .v x8:: .v x9::ys)[j]? =some b→Lv ρ σ F a b:=aB .v (aB .v (aB .v (aB .v (aB .v (aB .v (aB .v (aB .v (aB .v (aB .v h)))))))))
theorem vT {ρ:ay→ay} {σ:St} {F:ay→Bool} {k0:IntKind} {x0 y0:Int} {xs ys:List AV} (h: ∀ (j:Nat) (a b:AV),xs[j]? =some a→ys[j]? =some b→Lv ρ σ F a b) (e0:x0=y0:=by rfl): ∀ (j:Nat) (a b:AV),(.v (.int k0 x0)::xs)[j]? =some a→(.v (.int k0 y0)::ys)[j]? =some b→Lv ρ σ F a b:=aB (eN e0) h
theorem CE {ρ:ay→ay} {σ:St} {F:ay→Bool} {k0 k1 k2 k3:IntKind} {x0 x1 x2 x3 y0 y1 y2 y3:Int} {xs ys:List AV} (h: ∀ (j:Nat) (a b:AV),xs[j]? =some a→ys[j]? =some b→Lv ρ σ F a b) (e0:x0=y0:=by rfl) (e1:x1=y1:=by rfl) (e2:x2=y2:=by rfl) (e3:x3=y3:=by rfl): ∀ (j:Nat) (a b:AV),(.v (.int k0 x0):: .v (.int k1 x1):: .v (.int k2 x2):: .v (.int k3 x3)::xs)[j]? =some a→(.v (.int k0 y0):: .v (.int k1 y1):: .v (.int k2 y2):: .v (.int k3 y3)::ys)[j]? =some b→Lv ρ σ F a b:=aB (eN e0) (aB (eN e1) (aB (eN e2) (aB (eN e3) h)))
theorem tV {ρ:ay→ay} {σ:St} {F:ay→Bool} {k0 k1 k2 k3 k4 k5 k6 k7 k8 k9:IntKind} {x0 x1 x2 x3 x4 x5 x6 x7 x8 x9 y0 y1 y2 y3 y4 y5 y6 y7 y8 y9:Int} {xs ys:List AV} (h: ∀ (j:Nat) (a b:AV),xs[j]? =some a→ys[j]? =some b→Lv ρ σ F a b) (e0:x0=y0:=by rfl) (e1:x1=y1:=by rfl) (e2:x2=y2:=by rfl) (e3:x3=y3:=by rfl) (e4:x4=y4:=by rfl) (e5:x5=y5:=by rfl) (e6:x6=y6:=by rfl) (e7:x7=y7:=by rfl) (e8:x8=y8:=by rfl) (e9:x9=y9:=by rfl): ∀ (j:Nat) (a b:AV),(.v (.int k0 x0):: .v (.int k1 x1):: .v (.int k2 x2):: .v (.int k3 x3):: .v (.int k4 x4):: .v (.int k5 x5):: .v (.int k6 x6):: .v (.int k7 x7):: .v (.int k8 x8):: .v (.int k9 x9)::xs)[j]? =some a→(.v (.int k0 y0):: .v (.int k1 y1):: .v (.int k2 y2):: .v (.int k3 y3):: .v (.int k4 y4):: .v (.int k5 y5):: .v (.int k6 y6):: .v (.int k7 y7):: .v (.int k8 y8):: .v (.int k9 y9)::ys)[j]? =some b→Lv ρ σ F a b:=aB (eN e0) (aB (eN e1) (aB (eN e2) (aB (eN e3) (aB (eN e4) (aB (eN e5) (aB (eN e6) (aB (eN e7) (aB (eN e8) (aB (eN e9) h)))))))))

structure mU (n:Nat) (A:Prop):Prop where
  f:A
structure ML (B:Prop):Prop where
  f:B
theorem Qp {A:Prop} (a:ML A):mU 0 A:=⟨a.f⟩
theorem oX {n:Nat} {A C:Prop} (h:C→A) (k:mU n C):mU (n+1) A:=⟨h k.f⟩
theorem lr {α:Type} {l m:List α} (h:l=m:=by first | exact (rfl:_=[]) | exact (rfl:_=[_]) | exact (rfl:_=[_,_]) | exact (rfl:_=[_,_,_]) | exact (rfl:_=[_,_,_,_]) | exact (rfl:_=[_,_,_,_,_]) | exact (rfl:_=[_,_,_,_,_,_]) | exact (rfl:_=[_,_,_,_,_,_,_]) | exact (rfl:_=[_,_,_,_,_,_,_,_]) | exact (rfl:_=[_,_,_,_,_,_,_,_,_]) | exact (rfl:_=[_,_,_,_,_,_,_,_,_,_]) | exact (rfl:_=[_,_,_,_,_,_,_,_,_,_,_]) | exact (rfl:_=[_,_,_,_,_,_,_,_,_,_,_,_]) | exact (rfl:_=[_,_,_,_,_,_,_,_,_,_,_,_,_]) | exact (rfl:_=[_,_,_,_,_,_,_,_,_,_,_,_,_,_]) | exact (rfl:_=[_,_,_,_,_,_,_,_,_,_,_,_,_,_,_]) | exact (rfl:_=[_,_,_,_,_,_,_,_,_,_,_,_,_,_,_,_]) | exact (rfl:_=[_,_,_,_,_,_,_,_,_,_,_,_,_,_,_,_,_]) | exact (rfl:_=[_,_,_,_,_,_,_,_,_,_,_,_,_,_,_,_,_,_]) | exact (rfl:_=[_,_,_,_,_,_,_,_,_,_,_,_,_,_,_,_,_,_,_]) | exact (rfl:_=[_,_,_,_,_,_,_,_,_,_,_,_,_,_,_,_,_,_,_,_]) | exact (rfl:_=[_,_,_,_,_,_,_,_,_,_,_,_,_,_,_,_,_,_,_,_,_]) | exact (rfl:_=[_,_,_,_,_,_,_,_,_,_,_,_,_,_,_,_,_,_,_,_,_,_]) | exact (rfl:_=[_,_,_,_,_,_,_,_,_,_,_,_,_,_,_,_,_,_,_,_,_,_,_]) | exact (rfl:_=[_,_,_,_,_,_,_,_,_,_,_,_,_,_,_,_,_,_,_,_,_,_,_,_]) | exact (rfl:_=[_,_,_,_,_,_,_,_,_,_,_,_,_,_,_,_,_,_,_,_,_,_,_,_,_]) | exact (rfl:_=[_,_,_,_,_,_,_,_,_,_,_,_,_,_,_,_,_,_,_,_,_,_,_,_,_,_]) | exact (rfl:_=[_,_,_,_,_,_,_,_,_,_,_,_,_,_,_,_,_,_,_,_,_,_,_,_,_,_,_]) | exact (rfl:_=[_,_,_,_,_,_,_,_,_,_,_,_,_,_,_,_,_,_,_,_,_,_,_,_,_,_,_,_]) | exact (rfl:_=[_,_,_,_,_,_,_,_,_,_,_,_,_,_,_,_,_,_,_,_,_,_,_,_,_,_,_,_,_]) | exact (rfl:_=[_,_,_,_,_,_,_,_,_,_,_,_,_,_,_,_,_,_,_,_,_,_,_,_,_,_,_,_,_,_]) | exact (rfl:_=[_,_,_,_,_,_,_,_,_,_,_,_,_,_,_,_,_,_,_,_,_,_,_,_,_,_,_,_,_,_,_,_,_,_,_,_,_,_,_,_,_,_,_]) | exact (rfl:_=[_,_,_,_,_,_,_,_,_,_,_,_,_,_,_,_,_,_,_,_,_,_,_,_,_,_,_,_,_,_,_,_,_,_,_,_,_,_,_,_,_,_,_,_,_,_,_,_,_,_,_,_]) | exact (rfl:_=[_,_,_,_,_,_,_,_,_,_,_,_,_,_,_,_,_,_,_,_,_,_,_,_,_,_,_,_,_,_,_,_,_,_,_,_,_,_,_,_,_,_,_,_,_,_,_,_,_,_,_,_,_,_,_,_,_,_,_,_,_,_,_,_,_,_,_])):l=m:=h
theorem OT {α:Type} {l m:Option (List α)} (h:l=m:=by first | exact (rfl:_=some []) | exact (rfl:_=some [_]) | exact (rfl:_=some [_,_]) | exact (rfl:_=some [_,_,_]) | exact (rfl:_=some [_,_,_,_]) | exact (rfl:_=some [_,_,_,_,_]) | exact (rfl:_=some [_,_,_,_,_,_]) | exact (rfl:_=some [_,_,_,_,_,_,_]) | exact (rfl:_=some [_,_,_,_,_,_,_,_]) | exact (rfl:_=some [_,_,_,_,_,_,_,_,_]) | exact (rfl:_=some [_,_,_,_,_,_,_,_,_,_]) | exact (rfl:_=some [_,_,_,_,_,_,_,_,_,_,_]) | exact (rfl:_=some [_,_,_,_,_,_,_,_,_,_,_,_]) | exact (rfl:_=some [_,_,_,_,_,_,_,_,_,_,_,_,_]) | exact (rfl:_=some [_,_,_,_,_,_,_,_,_,_,_,_,_,_]) | exact (rfl:_=some [_,_,_,_,_,_,_,_,_,_,_,_,_,_,_]) | exact (rfl:_=some [_,_,_,_,_,_,_,_,_,_,_,_,_,_,_,_]) | exact (rfl:_=some [_,_,_,_,_,_,_,_,_,_,_,_,_,_,_,_,_]) | exact (rfl:_=some [_,_,_,_,_,_,_,_,_,_,_,_,_,_,_,_,_,_]) | exact (rfl:_=some [_,_,_,_,_,_,_,_,_,_,_,_,_,_,_,_,_,_,_]) | exact (rfl:_=some [_,_,_,_,_,_,_,_,_,_,_,_,_,_,_,_,_,_,_,_]) | exact (rfl:_=some [_,_,_,_,_,_,_,_,_,_,_,_,_,_,_,_,_,_,_,_,_]) | exact (rfl:_=some [_,_,_,_,_,_,_,_,_,_,_,_,_,_,_,_,_,_,_,_,_,_]) | exact (rfl:_=some [_,_,_,_,_,_,_,_,_,_,_,_,_,_,_,_,_,_,_,_,_,_,_]) | exact (rfl:_=some [_,_,_,_,_,_,_,_,_,_,_,_,_,_,_,_,_,_,_,_,_,_,_,_]) | exact (rfl:_=some [_,_,_,_,_,_,_,_,_,_,_,_,_,_,_,_,_,_,_,_,_,_,_,_,_]) | exact (rfl:_=some [_,_,_,_,_,_,_,_,_,_,_,_,_,_,_,_,_,_,_,_,_,_,_,_,_,_]) | exact (rfl:_=some [_,_,_,_,_,_,_,_,_,_,_,_,_,_,_,_,_,_,_,_,_,_,_,_,_,_,_]) | exact (rfl:_=some [_,_,_,_,_,_,_,_,_,_,_,_,_,_,_,_,_,_,_,_,_,_,_,_,_,_,_,_]) | exact (rfl:_=some [_,_,_,_,_,_,_,_,_,_,_,_,_,_,_,_,_,_,_,_,_,_,_,_,_,_,_,_,_]) | exact (rfl:_=some [_,_,_,_,_,_,_,_,_,_,_,_,_,_,_,_,_,_,_,_,_,_,_,_,_,_,_,_,_,_]) | exact (rfl:_=some [_,_,_,_,_,_,_,_,_,_,_,_,_,_,_,_,_,_,_,_,_,_,_,_,_,_,_,_,_,_,_,_,_,_,_,_,_,_,_,_,_,_,_]) | exact (rfl:_=some [_,_,_,_,_,_,_,_,_,_,_,_,_,_,_,_,_,_,_,_,_,_,_,_,_,_,_,_,_,_,_,_,_,_,_,_,_,_,_,_,_,_,_,_,_,_,_,_,_,_,_,_]) | exact (rfl:_=some [_,_,_,_,_,_,_,_,_,_,_,_,_,_,_,_,_,_,_,_,_,_,_,_,_,_,_,_,_,_,_,_,_,_,_,_,_,_,_,_,_,_,_,_,_,_,_,_,_,_,_,_,_,_,_,_,_,_,_,_,_,_,_,_,_,_,_])):l=m:=h
section
variable {P:Program} {d:Option Tmp} {ty:TypeId} {σ σ':St}
theorem KW {x:Operand} (h:Stp P d (.move x) ty σ σ'):Stp P d (.move x) ty σ σ':=h
theorem Li {x:Operand} (h:Stp P d (.assign x) ty σ σ'):Stp P d (.assign x) ty σ σ':=h
theorem La {T:TypeId} {x:Operand} {f:Nat} (h:Stp P d (.fieldAddr T x f) ty σ σ'):Stp P d (.fieldAddr T x f) ty σ σ':=h
theorem KT {t:TypeId} {x:Operand} (h:Stp P d (.load t x) ty σ σ'):Stp P d (.load t x) ty σ σ':=h
theorem KR {t:TypeId} {x y:Operand} (h:Stp P d (.store t x y) ty σ σ'):Stp P d (.store t x y) ty σ σ':=h
theorem Ko {c x y:Operand} (h:Stp P d (.pick c x y) ty σ σ'):Stp P d (.pick c x y) ty σ σ':=h
theorem Ls {x:Operand} (h:Stp P d (.nilCheck x) ty σ σ'):Stp P d (.nilCheck x) ty σ σ':=h
theorem Ku {b:BinOp} {t t':TypeId} {x y:Operand} (h:Stp P d (.binOp b t x y t') ty σ σ'):Stp P d (.binOp b t x y t') ty σ σ':=h
theorem Lt {b:UnOp} {t:TypeId} {x:Operand} (h:Stp P d (.unOp b t x) ty σ σ'):Stp P d (.unOp b t x) ty σ σ':=h
theorem Lj {t:TypeId} {ps:Array (Nat×Operand)} (h:Stp P d (.build t ps) ty σ σ'):Stp P d (.build t ps) ty σ σ':=h
theorem KF {T:TypeId} {x:Operand} {f:Nat} (h:Stp P d (.field T x f) ty σ σ'):Stp P d (.field T x f) ty σ σ':=h
theorem Lx {x:Operand} {k:Nat} (h:Stp P d (.extract x k) ty σ σ'):Stp P d (.extract x k) ty σ σ':=h
theorem Lz {c:_} (h:Stp P d (.call c) ty σ σ'):Stp P d (.call c) ty σ σ':=h
theorem LA {e:TypeId} {x:Operand} (h:Stp P d (.box e x) ty σ σ'):Stp P d (.box e x) ty σ σ':=h
theorem KP {e:TypeId} (h:Stp P d (.alloc e) ty σ σ'):Stp P d (.alloc e) ty σ σ':=h
theorem KS {t:TypeId} {k:Nat} {ps:Array (Nat×Operand)} (h:Stp P d (.buildSlice t k ps) ty σ σ'):Stp P d (.buildSlice t k ps) ty σ σ':=h
theorem KL {t:Tmp} {e:TypeId} (x:Operand) (hid:σ.ob (t,0)= .free) {xs:List AV} (hx:(σ.eval x).cells=some xs):Stp P (some t) (.box e x) ty σ ((σ.setOb (t,0) (.obj (.box e xs))).put (some t) (.ptr (t,0) 0)):=ed (t,0) x hid hx
theorem Lw {t:Tmp} {e:TypeId} {g:Bool} {z:List Value} (T:Ty P e g z) (hid:σ.ob (t,0)= .free) {xs:List AV} (hx:z.map AV.v=xs):Stp P (some t) (.alloc e) ty σ ((σ.setOb (t,0) (.obj (.box e xs))).put (some t) (.ptr (t,0) 0)):=eX (t,0) T hid hx
theorem LC {op:Op} [Ty P ty false [.int .i64 0]] (h:Stp P d op ty σ σ'):Stp P d op ty σ σ':=h
theorem Pq {t:TypeId} {x:Operand} [Ty P t false [.int .i64 0]] (h:Stp P d (.load t x) ty σ σ'):Stp P d (.load t x) ty σ σ':=h
theorem LG {op:Op} [Ty P ty false [.bool false]] (h:Stp P d op ty σ σ'):Stp P d op ty σ σ':=h
theorem Pp {t:TypeId} {x:Operand} [Ty P t false [.bool false]] (h:Stp P d (.load t x) ty σ σ'):Stp P d (.load t x) ty σ σ':=h
theorem LF {op:Op} [Ty P ty false [.slice none 0 0]] (h:Stp P d op ty σ σ'):Stp P d op ty σ σ':=h
theorem Om {t:TypeId} {x:Operand} [Ty P t false [.slice none 0 0]] (h:Stp P d (.load t x) ty σ σ'):Stp P d (.load t x) ty σ σ':=h
theorem KU {op:Op} [Ty P ty false [.string ByteArray.empty]] (h:Stp P d op ty σ σ'):Stp P d op ty σ σ':=h
theorem OE {t:TypeId} {x:Operand} [Ty P t false [.string ByteArray.empty]] (h:Stp P d (.load t x) ty σ σ'):Stp P d (.load t x) ty σ σ':=h
theorem KO {op:Op} [Ty P ty false [.pointer none]] (h:Stp P d op ty σ σ'):Stp P d op ty σ σ':=h
theorem OL {t:TypeId} {x:Operand} [Ty P t false [.pointer none]] (h:Stp P d (.load t x) ty σ σ'):Stp P d (.load t x) ty σ σ':=h
theorem KY {op:Op} {z:List Value} [Ty P ty true z] (h:Stp P d op ty σ σ'):Stp P d op ty σ σ':=h
theorem On {t:TypeId} {x:Operand} {z:List Value} [Ty P t true z] (h:Stp P d (.load t x) ty σ σ'):Stp P d (.load t x) ty σ σ':=h
end
theorem Jz {P:Program} {d:Option Tmp} {op:Op} {ty:TypeId} {σ σ':St} (h:Stp P d op ty σ σ':=by
  first
  | (apply KW;first | (apply LC;first | exact br _ nV) | (apply LG;first | exact br _ rD) | (apply LF;first | exact br _ qd | exact br _ qj | exact br _ fg | exact br _ iH | exact br _ (rfl:_=AV.z)) | (apply KU;first | exact br _ HE) | (apply KO;first | exact br _ oz | exact br _ (rfl:_=AV.fp _ _) | exact br _ iH) | (apply KY;first | exact br _ (rfl:_=AV.agg _)) | (first | exact br _ nV | exact br _ oz | exact br _ rD | exact br _ qd | exact br _ qj | exact br _ HE | exact br _ (rfl:_=AV.agg _) | exact br _ (rfl:_=AV.fp _ _) | exact br _ Cf | exact br _ Hj | exact br _ (rfl:_=AV.ifc _ _) | exact br _ (rfl:_=AV.mp _) | exact br _ (rfl:_=AV.z) | exact br _ iH))
  | (apply La;first | exact et _ aa rfl rfl rfl | exact dI _ aa rfl rfl)
  | (apply KT;first | (apply Pq;first | exact bM _ aa rfl rfl (rfl:_=some (AV.v (.int _ _)))) | (apply Pp;first | exact bM _ aa rfl rfl qk) | (apply Om;first | exact bM _ aa rfl rfl nn | exact bM _ aa rfl rfl yk | exact bM _ aa rfl rfl (rfl:_=some (AV.v (.slice _ _ _))) | exact bM _ aa rfl rfl (rfl:_=some (AV.v _)) | exact bM _ aa rfl rfl (rfl:_=some (AV.z))) | (apply OE;first | exact bM _ aa rfl rfl (rfl:_=some (AV.v (.string _)))) | (apply OL;first | exact bM _ aa rfl rfl (rfl:_=some (AV.ptr _ _)) | exact bM _ aa rfl rfl (rfl:_=some (AV.fp _ _)) | exact bM _ aa rfl rfl (rfl:_=some (AV.v _))) | (apply On;exact fB _ aa rfl rfl rfl rfl) | (first | exact bM _ aa rfl rfl (rfl:_=some (AV.v (.int _ _))) | exact bM _ aa rfl rfl (rfl:_=some (AV.ptr _ _)) | exact bM _ aa rfl rfl qk | exact bM _ aa rfl rfl nn | exact bM _ aa rfl rfl yk | exact bM _ aa rfl rfl (rfl:_=some (AV.v (.string _))) | exact bM _ aa rfl rfl uV | exact bM _ aa rfl rfl (rfl:_=some (AV.fp _ _)) | exact bM _ aa rfl rfl (rfl:_=some (AV.fn _ _ _)) | exact bM _ aa rfl rfl (rfl:_=some (AV.tup _)) | exact bM _ aa rfl rfl (rfl:_=some (AV.ifc _ _)) | exact bM _ aa rfl rfl (rfl:_=some (AV.mp _)) | exact bM _ aa rfl rfl (rfl:_=some (AV.z)) | exact bM _ aa rfl rfl (rfl:_=some (AV.v _))))
  | (apply Li;first | (apply LC;first | exact bg _ nV) | (apply LG;first | exact bg _ rD) | (apply LF;first | exact bg _ qd | exact bg _ qj | exact bg _ fg | exact bg _ iH | exact bg _ (rfl:_=AV.z)) | (apply KU;first | exact bg _ HE) | (apply KO;first | exact bg _ oz | exact bg _ (rfl:_=AV.fp _ _) | exact bg _ iH) | (apply KY;first | exact bg _ (rfl:_=AV.agg _)) | (first | exact bg _ nV | exact bg _ oz | exact bg _ rD | exact bg _ qd | exact bg _ qj | exact bg _ HE | exact bg _ (rfl:_=AV.agg _) | exact bg _ (rfl:_=AV.fp _ _) | exact bg _ Cf | exact bg _ Hj | exact bg _ (rfl:_=AV.ifc _ _) | exact bg _ (rfl:_=AV.mp _) | exact bg _ (rfl:_=AV.z) | exact bg _ iH))
  | (apply KR;exact fU _ _ aa rfl rfl rfl rfl (Nat.le_of_ble_eq_true rfl) rfl)
  | (apply LA;exact KL _ rfl rfl)
  | (apply KP;exact Lw aa rfl rfl)
  | (apply Ko;first | (apply LC;first | exact cr _ _ _ rfl nV) | (apply LG;first | exact cr _ _ _ rfl rD) | (apply LF;first | exact cr _ _ _ rfl qd | exact cr _ _ _ rfl qj | exact cr _ _ _ rfl fg | exact cr _ _ _ rfl iH | exact cr _ _ _ rfl (rfl:_=AV.z)) | (apply KU;first | exact cr _ _ _ rfl HE) | (apply KO;first | exact cr _ _ _ rfl oz | exact cr _ _ _ rfl (rfl:_=AV.fp _ _) | exact cr _ _ _ rfl iH) | (apply KY;first | exact cr _ _ _ rfl (rfl:_=AV.agg _)) | (first | exact cr _ _ _ rfl nV | exact cr _ _ _ rfl oz | exact cr _ _ _ rfl rD | exact cr _ _ _ rfl qd | exact cr _ _ _ rfl qj | exact cr _ _ _ rfl HE | exact cr _ _ _ rfl (rfl:_=AV.agg _) | exact cr _ _ _ rfl (rfl:_=AV.fp _ _) | exact cr _ _ _ rfl Cf | exact cr _ _ _ rfl Hj | exact cr _ _ _ rfl (rfl:_=AV.ifc _ _) | exact cr _ _ _ rfl (rfl:_=AV.mp _) | exact cr _ _ _ rfl (rfl:_=AV.z) | exact cr _ _ _ rfl iH))
  | (apply Ls;first | exact jz _ rfl rfl | exact EC _ rfl)
  | (apply Ku;first | exact bJ (r:=false) _ _ Tryz.underlying9 rfl rfl rfl | exact bJ (r:=true) _ _ Tryz.underlying9 rfl rfl rfl | exact ca (r:=false) _ _ rfl rfl rfl | exact ca (r:=true) _ _ rfl rfl rfl | exact dv (r:=false) _ _ rfl rfl rfl | exact dv (r:=true) _ _ rfl rfl rfl | exact dg _ _ rfl rfl rfl | exact bn _ _ rfl rfl rfl | exact du _ _ rfl rfl rfl | exact cf _ _ rfl rfl rfl | exact dL _ _ rfl rfl (bT ab) | exact bB _ _ rfl rfl (bT ab))
  | (apply Lt;first | exact lP (r:=false) _ rfl rfl | exact lP (r:=true) _ rfl rfl | exact lP _ rfl rfl)
  | (apply Lj;exact gp _ aa rfl OT)
  | (apply KF;first | exact fE _ aa rfl (rfl:_=some (AV.v (.int _ _))) | exact fE _ aa rfl (rfl:_=some (AV.ptr _ _)) | exact fE _ aa rfl qk | exact fE _ aa rfl nn | exact fE _ aa rfl yk | exact fE _ aa rfl (rfl:_=some (AV.v (.string _))) | exact fE _ aa rfl uV | exact fE _ aa rfl (rfl:_=some (AV.fp _ _)) | exact fE _ aa rfl (rfl:_=some (AV.fn _ _ _)) | exact fE _ aa rfl (rfl:_=some (AV.tup _)) | exact fE _ aa rfl (rfl:_=some (AV.ifc _ _)) | exact fE _ aa rfl (rfl:_=some (AV.mp _)) | exact fE _ aa rfl (rfl:_=some (AV.z)) | exact fE _ aa rfl (rfl:_=some (AV.v _)) | exact Hc _ aa rfl rfl rfl)
  | (apply Lx;first | exact cR _ rfl (rfl:_=some (AV.v (.int _ _))) | exact cR _ rfl (rfl:_=some (AV.ptr _ _)) | exact cR _ rfl qk | exact cR _ rfl nn | exact cR _ rfl yk | exact cR _ rfl (rfl:_=some (AV.v (.string _))) | exact cR _ rfl uV | exact cR _ rfl (rfl:_=some (AV.fp _ _)) | exact cR _ rfl (rfl:_=some (AV.fn _ _ _)) | exact cR _ rfl (rfl:_=some (AV.tup _)) | exact cR _ rfl (rfl:_=some (AV.ifc _ _)) | exact cR _ rfl (rfl:_=some (AV.mp _)) | exact cR _ rfl (rfl:_=some (AV.z)) | exact cR _ rfl (rfl:_=some (AV.v _)))
  | (apply Lz;first | exact Eu _ aa rfl | exact Dg _ aa rfl rfl | exact DW _ Tryz.underlying9 rfl | exact Cp _ aa rfl rfl | exact op_lenZ _ aa rfl | exact Ea _ aa rfl)
  | (apply KS;exact iJ _ _ aa rfl ag (by (simp <;> rfl)) ah rfl)):Stp P d op ty σ σ':=h
section
variable {rb:Bool} {P:Program} {Q:Exit→St→Prop} {σ:St} {ops:Array Oper} {rest:List Oper} {d:Option Tmp} {ty:TypeId} {p:String}
theorem Pt {all:List Oper} {W:List Nat} {I:List ay} {AA:List (List ay)} {Kont:List Res→Prop} {os:List Oper} {r:Res} {rs rs':List Res} (h:rs++[r]=rs') (hh:AnyOps P all W I AA σ Kont os rs'):AnyOps P all W I AA σ Kont os (rs++[r]):=h ▸ hh
end
section
variable {n:Nat} {rb:Bool} {P:Program} {Q:Exit→St→Prop} {σ:St} {ops:Array Oper} {rest:List Oper} {d:Option Tmp} {ty:TypeId} {p:String} {all:List Oper} {W:List Nat} {I:List ay} {AA:List (List ay)} {Kont:List Res→Prop} {os:List Oper} {rs:List Res} {op:Op}
theorem PM {x y:Code} (h:mU n (D rb P (.seq x y) Q σ)):mU n (D rb P (.seq x y) Q σ):=h
theorem OG {id:Nat} {l:Array Oper} (h:mU n (D rb P (.region id l false) Q σ)):mU n (D rb P (.region id l false) Q σ):=h
theorem OV {c:Operand} {x y:Code} (h:mU n (D rb P (.cond c x y) Q σ)):mU n (D rb P (.cond c x y) Q σ):=h
theorem Qc (h:mU n (D rb P .skip Q σ)):mU n (D rb P .skip Q σ):=h
theorem OW {i:Nat} {x:Code} (h:mU n (D rb P (.block i x) Q σ)):mU n (D rb P (.block i x) Q σ):=h
theorem Qj (h:mU n (DL rb P ops Q [] σ)):mU n (DL rb P ops Q [] σ):=h
theorem OD {af:Array Edge} (h:mU n (DL rb P ops Q (⟨d,op,ty,p,af,none⟩::rest) σ)):mU n (DL rb P ops Q (⟨d,op,ty,p,af,none⟩::rest) σ):=h
theorem Qh {af:Array Edge} {g:Nat×Bool} (h:mU n (DL rb P ops Q (⟨d,op,ty,p,af,some g⟩::rest) σ)):mU n (DL rb P ops Q (⟨d,op,ty,p,af,some g⟩::rest) σ):=h
theorem Qk {r:Res} (h:mU n (AnyOps P all W I AA σ Kont os (rs++[r]))):mU n (AnyOps P all W I AA σ Kont os (rs++[r])):=h
theorem Pr (h:mU n (AnyOps P all W I AA σ Kont [] rs)):mU n (AnyOps P all W I AA σ Kont [] rs):=h
theorem Py {af:Array Edge} (h:mU n (AnyOps P all W I AA σ Kont (⟨d,op,ty,p,af,none⟩::os) rs)):mU n (AnyOps P all W I AA σ Kont (⟨d,op,ty,p,af,none⟩::os) rs):=h
theorem Qq {af:Array Edge} {g:Nat×Bool} (h:mU n (AnyOps P all W I AA σ Kont (⟨d,op,ty,p,af,some g⟩::os) rs)):mU n (AnyOps P all W I AA σ Kont (⟨d,op,ty,p,af,some g⟩::os) rs):=h
end
theorem go (n:Nat) {A B:Prop} (b:B) (k:ML B→mU n A:=by
  intro b
  repeat (first
    | exact Qp b
    | (apply OD;first | refine oX (ai Jz) ?_)
    | (apply PM;first | refine oX (aH) ?_ | refine oX (aA) ?_)
    | (apply Qj;first | refine oX (aj) ?_ | refine oX (qz) ?_ | refine oX (HQ) ?_)
    | (apply Qk;first | refine oX (Pt lr) ?_)
    | (apply Py;first | refine oX (aJ (_,[]) (fun τ=> Jz)) ?_)
    | (apply OV;first | refine oX (cd rfl rfl) ?_ | refine oX (dH rfl rfl) ?_)
    | (apply OG;first | refine oX (an) ?_)
    | (apply Qc;first | refine oX (cX) ?_ | refine oX (lk) ?_ | refine oX (Il) ?_)
    | (apply Qh;first | refine oX (Jd rfl rfl ah) ?_ | refine oX (Id rfl rfl) ?_ | refine oX (aZ rfl rfl Jz) ?_)
    | (apply Qq;first | refine oX (Gd rfl (fun τ=> rfl) ah) ?_ | refine oX (Hi rfl (fun τ=> rfl)) ?_ | refine oX (eT (_,[]) rfl (fun τ=> rfl) (fun τ=> Jz)) ?_)
    | (apply Pr;first | refine oX (fun h=> cD ⟨rfl,h⟩) ?_ | refine oX (fun h=> cD ⟨⟨rfl,by kernel_rfl⟩,h⟩) ?_)
    | (apply OW;first | refine oX (aN) ?_))):A:=(k ⟨b⟩).f
theorem dA {rb:Bool} {P:Program} {Q:Exit→St→Prop} {σ:St} {id:Nat} {l hd tl:List Oper} (n:Nat) {W:List Nat} (I:List ay) (h:AnyOps P hd W I [] σ (fun rs=> fO rs=I∧DL rb P l.toArray Q tl (cT hd rs (fun _=> true) 0 σ)) hd []) (hm:P.follows .mixedOrders=true:=by kernel_rfl) (hB:kE l.toArray n=true:=by kernel_rfl) (hW:(l.take n).filterMap (·.dst)=W:=by exact lr) (hI:bf I=true:=by rfl) (e1:l.take n=hd:=by exact lr) (e2:l.drop n=tl:=by exact lr):D rb P (.region id l.toArray true) Q σ:=FM n W I hm hB hW (bD hI) e1 e2 h
structure AC (cs:List Nat) (p:Prop):Prop where
  f:p
section
variable {cs:List Nat} {p q:Prop}
theorem Pe:AC [] True:=⟨trivial⟩
theorem Qe (h:p) (k:AC cs q):AC (0::cs) (p∧q):=⟨h,k.f⟩
theorem OM (h:p) (k:AC cs q):AC (1::cs) (p∧q):=⟨h,k.f⟩
theorem OR (h:p) (k:AC cs q):AC (2::cs) (p∧q):=⟨h,k.f⟩
end
def NR (cs:List Nat) (rn:List (ay×ay)) (Fz:List ay) (a b:St):Prop:=Le a b
theorem Ky {σ:St} {n:Nat} {slots:List (Nat×AV)} {obs:List (ay×Cells)} {I Pn:List ay} {cs:List Nat} {rn:List (ay×ay)} {Fz:List ay} (hn:σ.n=n) (hs:pe (aR rn) σ (fun i=> cj i Fz) slots) (ho:AC cs (cY (aR rn) σ (fun i=> cj i Fz) I obs)) (hi:ft σ Fz) (hp:jG (aR rn) σ Pn) (hb:(eA (obs.map (·.1)) slots && aY (obs.map (·.1)) obs && bf ((obs.map (·.1)).map (aR rn)) && qh Pn (obs.map (·.1)))=true):NR cs rn Fz (ap n slots obs I Pn) σ:=Le.mkJ rn Fz hn hs ho.f hi hp hb
theorem kj (cs:List Nat) (rn:List (ay×ay)) (Fz:List ay) {σ σ':St} (h:NR cs rn Fz σ' σ:=by
  refine Ky rfl ?_ ?_ ?_ ?_ ?_
  · repeat' (first | exact trivial | exact iV rfl | exact iP rfl | exact iS rfl | exact iR rfl | exact eN ag | exact qK ag | exact iu ag ag | exact eH rfl ag | exact iF rfl | exact iA rfl | exact iN rfl | exact iT rfl | exact iM rfl | exact iZ rfl | exact iD rfl | exact iI rfl | refine ⟨?_,?_⟩)
  · repeat (first | exact Pe | (apply Qe; · exact dc rfl rfl rfl) | (apply OM; · exact iq rfl rfl rfl rfl lz) | (apply OR; · exact im rfl rfl rfl ag))
  · repeat' (first | exact trivial | refine ⟨rfl,?_⟩)
  · repeat' (first | exact trivial | refine ⟨rfl,?_⟩)
  kernel_rfl):Le σ' σ:=h
def uW (rn:List (ay×ay)) (P:Program) (fn:Func) (σ':St) (e:Exit) (σ:St):Prop:=jh P fn σ' e σ
section
variable {rn:List (ay×ay)} {P:Program} {fn:Func} {e:Exit} {σ:St} {x:ResultVar} {r r':AV} {obs:List (ay×Cells)} {I Pn:List ay}
theorem Qs (he:e= .normal∨e= .ret) (hr:fn.results= #[x]) (h1:ResV P σ x r) (hl:Lv (aR rn) (eg r σ) (fun i=> cj i []) r' r) (hw1:r'.within (obs.map (·.1))=true) (hw2:aY (obs.map (·.1)) obs=true) (hd:bf ((obs.map (·.1)).map (aR rn))=true) (ho:cY (aR rn) (eg r σ) (fun i=> cj i []) I obs) (hp:jG (aR rn) (eg r σ) Pn) (hsb:qh Pn (obs.map (·.1))=true):uW rn P fn (aP r' obs I Pn) e σ:=dm he hr h1 (Le.outI rn [] hl hw1 hw2 hd trivial ho hp hsb)
theorem MV (he:e= .normal∨e= .ret) (hr:fn.results= #[x]) (h1:ResV P σ x r) (hl:Lv (aR rn) (eg r σ) (fun i=> cj i []) r' r) (hw1:r'.within (obs.map (·.1))=true) (hw2:aY (obs.map (·.1)) obs=true) (hd:bf ((obs.map (·.1)).map (aR rn))=true) (ho:lA (aR rn) (eg r σ) (fun i=> cj i []) obs):uW rn P fn (aG r' obs) e σ:=dm he hr h1 (Le.out rn [] hl hw1 hw2 hd trivial ho)
theorem PF (he:e= .normal∨e= .ret) (hr:fn.results= #[]) (hl:Lv (aR rn) (eg (.tup []) σ) (fun i=> cj i []) r' (.tup [])) (hw1:r'.within (obs.map (·.1))=true) (hw2:aY (obs.map (·.1)) obs=true) (hd:bf ((obs.map (·.1)).map (aR rn))=true) (ho:cY (aR rn) (eg (.tup []) σ) (fun i=> cj i []) I obs) (hp:jG (aR rn) (eg (.tup []) σ) Pn) (hsb:qh Pn (obs.map (·.1))=true):uW rn P fn (aP r' obs I Pn) e σ:=rt he hr (Le.outI rn [] hl hw1 hw2 hd trivial ho hp hsb)
end
theorem dR (rn:List (ay×ay)) {P:Program} {fn:Func} {σ':St} {e:Exit} {σ:St} (h:uW rn P fn σ' e σ:=by exact Qs (.inr rfl) rfl (.cellA aa rfl rfl rfl) (.agg rfl lz) rfl rfl rfl ob tr rfl):jh P fn σ' e σ:=h
theorem NJ (rn:List (ay×ay)) {P:Program} {fn:Func} {σ':St} {e:Exit} {σ:St} (h:uW rn P fn σ' e σ:=by exact MV (.inr rfl) rfl (.cellA aa rfl rfl rfl) (.agg rfl lz) rfl rfl rfl ob):jh P fn σ' e σ:=h
theorem nF (rn:List (ay×ay)) {P:Program} {fn:Func} {σ':St} {e:Exit} {σ:St} (h:uW rn P fn σ' e σ:=by exact MV (.inr rfl) rfl (.tmp qj) (eH rfl rfl) rfl rfl rfl ob):jh P fn σ' e σ:=h
theorem fw (rn:List (ay×ay)) {P:Program} {fn:Func} {σ':St} {e:Exit} {σ:St} (h:uW rn P fn σ' e σ:=by exact PF (.inl rfl) rfl (.tup rfl bz) rfl rfl rfl ob tr rfl):jh P fn σ' e σ:=h
end Go.Proofs.YtmjnackchaahbaaGreat
