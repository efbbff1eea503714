/- part 18 -/
import Derived.Test.YtmjnackchaahbaaGreatNvZ17
set_option linter.unusedSimpArgs false
set_option linter.unusedVariables false
set_option maxHeartbeats 2000000
namespace Go.Proofs.YtmjnackchaahbaaGreat
open Go.RowKit

theorem Fa (c:Cz) (o:Ot) {t:Int} (ht:0≤t∧t < 8) (q:Ns×Nr) (a:Ac) (ha:wR t a) (hq:pE t q.1.timers) (hs:fJ q.1) (ho:eX q.1.dk) (hr:q.2.sent.length≤1000) (hf:q.2.fails.length≤1000) (l:List (Int×Int)) (j:Nat) (hp:lY q.1.dk l j):
  ∃ (l':List (Int×Int)) (j':Nat),lY (dj q a).1.dk l' j'∧mZ c o q.1 q.2 l j a (dj q a).1 (dj q a).2 l' j':=by
 obtain ⟨s,r⟩:=q
 obtain ⟨k,x,y,z,w⟩:=a
 obtain ⟨hk,h4,h5⟩:=ha
 simp only at hk h4 h5 hq hs ho hr hf hp
 have:k=1∨k=2∨k=3∨k=4∨k=5∨k=6∨k=7:=by omega
 rcases this with e | e | e | e | e | e | e <;> subst e
 ·exact wc c o s r l j x y z w hs ho hp
 ·exact ⟨[],0,⟨rfl,rfl⟩,zB c o s r l j x y z w hs ho hp⟩
 ·exact ⟨l,j,hp,zI c o s r l j x y z w hr⟩
 ·obtain rfl:=h4 rfl
  have e:(dj (s,r) ⟨4,x,y,z,w⟩)=({ s with timers:=[x] },r):=by
   show ({ s with timers:=rX s.timers x true },r)=_
   rw [xM ht hq]
  rw [e]
  refine ⟨l,j,hp,?_⟩
  rcases hq with hq | hq
  ·exact vh c o s r l j x y z w hq
  have:=uY c o s r l j x y z w hq
  rwa [Hp hq.symm]
 ·have hx:=h5 rfl
  have e:(dj (s,r) ⟨5,x,y,z,w⟩)=(s,r):=by
   show ({ s with timers:=rX s.timers x false },r)=_
   rw [xq ht hx hq,Hp rfl]
  rw [e]
  refine ⟨l,j,hp,tY c o s r l j x y z w ?_ ?_⟩
  ·rcases hq with hq | hq <;> rw [hq]
   ·exact Nat.zero_le 1
   exact Nat.le_refl 1
  rcases hq with hq | hq <;> rw [hq]
  ·exact fun h=> absurd h.1 (Nat.lt_irrefl _)
  exact fun h=> hx h.2.symm
 ·by_cases h0:0≤s.wait
  ·by_cases h1:x=s.wait
   ·have e:(dj (s,r) ⟨6,x,y,z,w⟩)=({ s with wait:= -1 },{ r with repl:=true,value:=y }):=by
     show (if 0≤s.wait∧x=s.wait then ({ s with wait:= -1 },{ r with repl:=true,value:=y }) else (s,r))=_
     exact if_pos ⟨h0,h1⟩
    rw [e];exact ⟨l,j,hp,xj c o s r l j x y z w h0 h1⟩
   have e:(dj (s,r) ⟨6,x,y,z,w⟩)=(s,r):=by
    show (if 0≤s.wait∧x=s.wait then ({ s with wait:= -1 },{ r with repl:=true,value:=y }) else (s,r))=_
    exact if_neg fun h=> h1 h.2
   rw [e];exact ⟨l,j,hp,ub c o s r l j x y z w h0 h1⟩
  have e:(dj (s,r) ⟨6,x,y,z,w⟩)=(s,r):=by
   show (if 0≤s.wait∧x=s.wait then ({ s with wait:= -1 },{ r with repl:=true,value:=y }) else (s,r))=_
   exact if_neg fun h=> h0 h.1
  rw [e];exact ⟨l,j,hp,vC c o s r l j x y z w ab⟩
 exact ⟨l,j,hp,yF c o s r l j x y z w hf⟩
theorem uv {α:Type} (I:Nat→α→Prop) (T:Nat→α→α→Prop) (x0:α) (h0:I 0 x0): ∀ n:Nat,(∀ i,i < n→ ∀ x,I i x→ ∃ y,I (i+1) y∧T i x y)→ ∃ f:Nat→α,f 0=x0∧(∀ i,i≤n→I i (f i))∧ ∀ i,i < n→T i (f i) (f (i+1))
 | 0,_=> ⟨fun _=> x0,rfl,fun i hi=> (Nat.le_zero.1 hi) ▸ h0,fun i hi=> absurd hi (Nat.not_lt_zero _)⟩
 | n+1,h=> by
  obtain ⟨f,e0,f1,f2⟩:=uv I T x0 h0 n (fun i hi=> h i ab)
  obtain ⟨y,hy1,hy2⟩:=h n (Nat.lt_succ_self _) (f n) (f1 n (Nat.le_refl _))
  refine ⟨fun i=> if i≤n then f i else y,(if_pos (Nat.zero_le n)).trans e0,fun i hi=> ?_,fun i hi=> ?_⟩
  ·by_cases hc:i≤n
   ·show I i (if i≤n then f i else y)
    rw [if_pos hc];exact f1 i hc
   obtain rfl:i=n+1:=by omega
   show I (n+1) (if n+1≤n then f (n+1) else y)
   rw [if_neg hc];exact hy1
  show T i (if i≤n then f i else y) (if i+1≤n then f (i+1) else y)
  by_cases hc:i < n
  ·rw [if_pos ab,if_pos ab];exact f2 i hc
  obtain rfl:i=n:=by omega
  rw [if_pos (Nat.le_refl _),if_neg ab];exact hy2
theorem Io (c:Cz) {s:Ns} {h:Nat} {ck:Int} {P:Pg} {R:Ms} {t:Int} (ht:0≤t∧t < 8) (hac: ∀ a∈R.acts,wR t a∧Rg a.b) (htl:pE t s.timers) (hdk:DkOk P.d s.dk) (hd:P.d≤1000) (hv:R.vars.length≤1000) (hn:R.acts.length≤500):
  ∃ f:Nat→List (Int×Int)×Nat,f 0=(s.dk.pend,0)∧lY (co s h ck P R R.acts.length).1.dk (f R.acts.length).1 (f R.acts.length).2∧ ∀ i,i < R.acts.length→mZ c (JV R) (co s h ck P R i).1 (co s h ck P R i).2 (f i).1 (f i).2 (mm R.acts i) (co s h ck P R (i+1)).1 (co s h ck P R (i+1)).2 (f (i+1)).1 (f (i+1)).2:=by
 obtain ⟨f,e0,f1,f2⟩:=uv (fun i (x:List (Int×Int)×Nat)=> lY (co s h ck P R i).1.dk x.1 x.2) (fun i x y=> mZ c (JV R) (co s h ck P R i).1 (co s h ck P R i).2 x.1 x.2 (mm R.acts i) (co s h ck P R (i+1)).1 (co s h ck P R (i+1)).2 y.1 y.2) (s.dk.pend,0) ⟨rfl,Nat.zero_add _⟩ R.acts.length (fun i hi x hx=> by
  obtain ⟨h1,h2,h3,h4,h5⟩:=ti (h:=h) (ck:=ck) ht hac htl hdk i ab
  rw [pR s h ck P R hi]
  have hp:=h2.pn
  obtain ⟨l',j',g1,g2⟩:=Fa c (JV R) ht _ _ (hac _ (tK hi)).1 h1 ⟨by rw [h2.len];exact hd,by omega,by rw [h3,List.length_drop];omega,by rcases h1 with h1 | h1 <;> rw [h1] <;> simp⟩ (fun w hw=> by
   obtain ⟨b1,b2,_⟩:=h2.pr w hw
   exact ⟨b1,by rw [h2.len];exact b2⟩) ab ab x.1 x.2 hx
  exact ⟨(l',j'),g1,g2⟩)
 exact ⟨f,e0,f1 _ (Nat.le_refl _),f2⟩
theorem tN (P:Pg) (tm:Int) (s:Ns) (hs:HdOk P tm s) (h:Nat) (hh:h < 40) (self nodes drift tick:Int) (names ans:List Int) (me:names.length=9) (hn: ∀ i,Rg (names.getD i 0)) (h1:Rg self) (h2:Rg nodes) (h3:Rg (aT s.clock drift tick)) (hdr:drift=0) (t:Tl)
  (hld: ∀ (i:Nat) (k:Int),i≤100000→2≤k→k≤4→tg t 1 (i:Int) k (el ans i k)) (R:Ms) (hR:R=iq s P h self nodes drift tick names ans):
  ∃ (l:List (Int×Int)) (j:Nat),lY (cJ s P h self nodes drift tick names ans).1.dk l j∧Spec Tryz.prog 81 (aL [ii s,fY P, .v (.int .i64 (h:Int)), .v (.int .i64 self), .v (.int .i64 nodes), .v (.int .i64 drift),KE names,oO] (vR t 0 [] (5,9)))
   (nA ⟨self,(h:Int),s.counts.getD h 0⟩ R (cJ s P h self nodes drift tick names ans) l j t (jW drift+R.asked.length) (jE t drift tick++oP t ans R.asked)):=by
 obtain ⟨hsm,hin⟩:=hs.sm
 have hpn:=hs.pg.nv
 obtain ⟨v1,v2⟩:=hs.ns.dk.view
 have hvl:=hs.ns.vl
 have hiv:(s.dk.view++s.vol).length=P.d+P.v:=by rw [List.length_append,v1,hvl]
 have hir: ∀ v∈s.dk.view++s.vol,Rg v:=fun v hv=> (List.mem_append.1 hv).elim (v2 v) (hs.ns.vr v)
 have rV:=oD hn h1 h2 h3
 obtain ⟨a1,a2,a3⟩:=pw P h (dt names self nodes (aT s.clock drift tick)) (s.dk.view++s.vol) ans
 obtain ⟨iv,_,_⟩:=pN hs.pg (h:=h) (names:=dt names self nodes (aT s.clock drift tick)) (vars:=s.dk.view++s.vol) (ans:=ans) rV hiv hir
 have hRv:R.vars.length=P.d+P.v:=by rw [hR];show (mh _ _ _ _ _).vars.length=_;rw [a2];exact iv.vl
 have hRa:R.acts.length≤500:=by rw [hR];exact ye _ _ _ _ _
 have hac: ∀ a∈R.acts,wR tm a∧Rg a.b:=fun a ha=> by
  rw [hR] at ha
  have ha:a∈(fT P h (dt names self nodes (aT s.clock drift tick)) (s.dk.view++s.vol) ans).acts:=a1 ▸ ha
  obtain ⟨⟨_,q1,_,_⟩,_,_⟩:=iv.ac a ha
  exact ⟨qh hs.tc _ _ _ _ a ha,q1⟩
 obtain ⟨f,f0,f1,hq⟩:=Io ⟨self,(h:Int),s.counts.getD h 0⟩ (h:=h) (ck:=aT s.clock drift tick) (P:=P) (R:=R) (TmC.rg hs.tc) hac hs.tl hs.ns.dk ab ab hRa
 obtain ⟨g0,g1,g2,g3,g4,g5,g6,g7,g8⟩:=qk me self nodes (aT s.clock drift tick)
 have hv:=KN P hs.pg hs.cl h hh (dt names self nodes (aT s.clock drift tick)) (s.dk.view++s.vol) ans rV hiv hir (Rz t 0 []) ⟨Nat.zero_le _,rfl,fun i k x y z=> hld i k x y z⟩ R hR
 rw [g0,g1,g2,g3,g4,g5,g6,g7,g8] at hv
 rw [← pa,← hR]
 rw [vP ab] at hv hq f1 ⊢
 rw [show jE t drift tick=[] from if_neg ab,show jW drift=0 from if_neg ab]
 exact ⟨_,_,f1,Te s hsm hin hs.ns.ct P h hh self nodes drift names t 0 [] ab hs.cb hs.ck R (oP t ans R.asked) hv ab ab hRa f f0 hq⟩
theorem Cy (P:Pg) (tm:Int) (s:Ns) (hs:fJ s) (ho:eX s.dk) (ver:Int) (hb:HdOk P tm (cH s P ver)) (self nodes drift tick:Int) (ans:List Int) (h1:Rg self) (h2:Rg nodes) (h3:Rg (aT s.clock drift tick)) (hdr:drift=0) (t:Tl)
  (hld: ∀ (i:Nat) (k:Int),i≤100000→2≤k→k≤4→tg t 1 (i:Int) k (el ans i k)) (R:Ms) (hR:R=iq (cH s P ver) P 0 self nodes drift tick (List.replicate 9 0) ans):
  ∃ (l:List (Int×Int)) (j:Nat),lY (mJ s P ver self nodes drift tick ans).1.dk l j∧Spec Tryz.prog 56 (aL [ii s,fY P, .v (.int .i64 ver), .v (.int .i64 self), .v (.int .i64 nodes), .v (.int .i64 drift),oO] (vR t 0 [] (5,9)))
   (nA ⟨self,((0:Nat):Int),s.counts.getD 0 0⟩ R (mJ s P ver self nodes drift tick ans) l j t (jW drift+R.asked.length) (jE t drift tick++oP t ans R.asked)):=by
 have hpn:=hb.pg.nv
 obtain ⟨l,j,hp,hH⟩:=tN P tm (cH s P ver) hb 0 ab self nodes drift tick (List.replicate 9 0) ans rfl Jb h1 h2 h3 hdr t hld R hR
 exact ⟨l,j,hp,RQ s hs ho P ver self nodes drift t 0 [] ab ab _ R _ l j _ _ hH⟩
section
variable {P:Pg} {tp:Int} {i:Nat} {s:Ns} {a:Na}
theorem gG:bP P P s=P:=by unfold bP;split <;> split <;> rfl
theorem AQ (hP:lj P tp) (hi:i≤1000) (hs:Sq P P i s) (hsm:fJ s) (hup:s.up=false) (hw:yk a):
  ∃ (l:List (Int×Int)) (j:Nat),lY (cg P P 0 a s).1.dk l j∧Spec Tryz.prog 45 (aI [ii s,fY P,fY P, .v (.int .i64 0),vz a] []) (qe (cg P P 0 a s).1 l j (EJ P P 0 a s) (ft s a (hN a s)) (dM P P 0 a s).length (wz (ft s a (hN a s)) (dM P P 0 a s))):=by
 obtain ⟨⟨m,hdk⟩,_,_⟩:=hs.dn hup
 have hin:eX s.dk:=fun w hw=> by
  obtain ⟨b1,b2,_⟩:=hdk.pr w hw
  have:=hdk.len
  exact ⟨b1,by omega⟩
 have hck:=hs.ck
 have hep:=hs.ep
 have hcb: ∀ k, -1000000≤s.counts.getD k 0∧s.counts.getD k 0≤1000000:=fun k=> by have:=hs.ct k;omega
 have htk:=kZ (clock:=s.clock) (tick:=a.tick) (show (0:Int)≤0∧(0:Int)≤3 by omega)
 have e1:cg P P 0 a s=mJ s P (fV s) 1 3 0 a.tick a.draws:=by unfold cg;rw [if_pos hup,gG]
 have e2:dM P P 0 a s=fC 0 a.tick (fw (cH s P (fV s)) P 0 1 3 0 a.tick (List.replicate 9 0) a.draws).asked a.draws:=by unfold dM;rw [if_pos hup,gG]
 have e3:EJ P P 0 a s=FZ ⟨1,((0:Nat):Int),s.counts.getD 0 0⟩ (cg P P 0 a s).2 (iq (cH s P (fV s)) P 0 1 3 0 a.tick (List.replicate 9 0) a.draws):=by
  have:=show EJ P P 0 a s=_ from if_pos hup
  rwa [gG] at this
 have e4:hN a s=0:=if_pos hup
 rw [e3,e4,e2,← kE,kS,← mC,e1]
 obtain ⟨l,j,hp,hS⟩:=Cy P tp s hsm hin (fV s) (pW hP.pg hP.cl hP.tc hdk hs.cl hcb ab (fV s)) 1 3 0 a.tick a.draws (cY ab) (cY ab) (by unfold Rg;omega) rfl (ft s a 0) (fun j k _ h2 _=> pB s 0 hw j ab) _ rfl
 exact ⟨l,j,hp,JO s hup hep.1 P P P (fV s) (fun he=> ⟨rfl,if_pos he⟩) (fun he=> ⟨rfl,if_neg he⟩) 0 a hw.dl hw.kl _ _ _ l j _ _ hS⟩
theorem AZ (hP:lj P tp) (hi:i≤1000) (hs:Sq P P i s) (hup:s.up=true) (htl:pE tp s.timers) (hw:yk a) (hcr:a.crash=false):
  ∃ (l:List (Int×Int)) (j:Nat),lY (cg P P 0 a s).1.dk l j∧Spec Tryz.prog 45 (aI [ii s,fY P,fY P, .v (.int .i64 0),vz a] []) (qe (cg P P 0 a s).1 l j (EJ P P 0 a s) (ft s a (hN a s)) (dM P P 0 a s).length (wz (ft s a (hN a s)) (dM P P 0 a s))):=by
 obtain ⟨hns,hver⟩:=hs.up hup
 rw [ite_self] at hns
 have hck:=hs.ck
 have hcb: ∀ k, -1000000≤s.counts.getD k 0∧s.counts.getD k 0≤1000000:=fun k=> by have:=hs.ct k;omega
 have htk:=kZ (clock:=s.clock) (tick:=a.tick) (show (0:Int)≤0∧(0:Int)≤3 by omega)
 have hnf: ¬ s.up=false:=by rw [hup];exact fun h=> by cases h
 have hnc: ¬ a.crash=true:=by rw [hcr];exact Bool.false_ne_true
 have hah:=hw.ok.h
 have e1:cg P P 0 a s=cJ { s with wait:=a.wait } P a.h 1 3 0 a.tick a.names a.draws:=by unfold cg;rw [if_neg hnf,if_neg hnc,gG]
 have e2:dM P P 0 a s=fC 0 a.tick (fw { s with wait:=a.wait } P a.h 1 3 0 a.tick a.names a.draws).asked a.draws:=by unfold dM;rw [if_neg hnf,if_neg hnc,gG]
 have e3:EJ P P 0 a s=FZ ⟨1,(a.h:Int),s.counts.getD a.h 0⟩ (cg P P 0 a s).2 (iq { s with wait:=a.wait } P a.h 1 3 0 a.tick a.names a.draws):=by
  have:=show EJ P P 0 a s=_ from (if_neg hnf).trans (if_neg hnc)
  rwa [gG] at this
 have e4:hN a s=a.h:=(if_neg hnf).trans (if_neg hnc)
 rw [e3,e4,e2,← kE,kS,← mC,e1]
 obtain ⟨l,j,hp,hH⟩:=tN P tp { s with wait:=a.wait } ⟨hP.pg,hP.cl,hP.tc,⟨hns.dk,hns.vl,hns.vr,hns.tm,hns.ct⟩,htl,hcb,by show -1000000≤s.clock∧s.clock≤1000000;omega⟩ a.h hah 1 3 0 a.tick a.names a.draws hw.nl hw.ok.nm (cY ab) (cY ab) (by show Rg (aT s.clock 0 a.tick);unfold Rg;omega) rfl (ft s a a.h) (fun j k _ h2 _=> pB s a.h hw j ab) _ rfl
 exact ⟨l,j,hp,KL s hup P P P (fun _=> rfl) (fun _=> rfl) 0 a hcr ab hw.dl hw.kl _ _ _ l j _ _ hH⟩
theorem Df (hi:i≤1000) (hs:Sq P P i s) (hsm:fJ s) (hup:s.up=true) (hw:yk a) (hcr:a.crash=true):
  ∃ (l:List (Int×Int)) (j:Nat),lY (cg P P 0 a s).1.dk l j∧Spec Tryz.prog 45 (aI [ii s,fY P,fY P, .v (.int .i64 0),vz a] []) (qe (cg P P 0 a s).1 l j (EJ P P 0 a s) (ft s a (hN a s)) (dM P P 0 a s).length (wz (ft s a (hN a s)) (dM P P 0 a s))):=by
 obtain ⟨hns,hver⟩:=hs.up hup
 have hep:=hs.ep
 have hcb:=hs.ct 40
 have hnf: ¬ s.up=false:=by rw [hup];exact fun h=> by cases h
 have e1:cg P P 0 a s=(fQ s (fh s.dk.pend.length a.keeps),{}):=by unfold cg;rw [if_neg hnf,if_pos hcr]
 have e2:dM P P 0 a s=kx s.dk.pend.length a.keeps:=by unfold dM;rw [if_neg hnf,if_pos hcr]
 have e3:EJ P P 0 a s=Ls:=(if_neg hnf).trans (if_pos hcr)
 have e4:hN a s=40:=(if_neg hnf).trans (if_pos hcr)
 have hin:eX s.dk:=fun w hw=> by
  obtain ⟨b1,b2,_⟩:=hns.dk.pr w hw
  have:=hns.dk.len
  exact ⟨b1,by omega⟩
 have h:=JS s hup hsm hin hs.cl ab ab P P 0 a hcr hw.dl hw.kl (fun j _=> xt s 40 hw j)
 rw [Nat.zero_add,List.nil_append] at h
 rw [e3,e4,e2,e1,su,show (kx s.dk.pend.length a.keeps).length=s.dk.pend.length by simp [kx]]
 exact ⟨[],0,⟨rfl,rfl⟩,h⟩
theorem Hq (hP:lj P tp) (hi:i≤1000) (hs:SqT P P tp tp i s) (hw:yk a):
  ∃ (l:List (Int×Int)) (j:Nat),lY (cg P P 0 a s).1.dk l j∧Spec Tryz.prog 45 (aI [ii s,fY P,fY P, .v (.int .i64 0),vz a] []) (qe (cg P P 0 a s).1 l j (FZ (JP a s) (cg P P 0 a s).2 (Aw P P 0 a s)) (ft s a (hN a s)) (dM P P 0 a s).length (wz (ft s a (hN a s)) (dM P P 0 a s))):=by
 rw [← IL]
 by_cases hu:s.up=true
 ·by_cases hc:a.crash=true
  ·exact Df hi hs.sq hs.sm hu hw hc
  exact AZ hP hi hs.sq hu (by have:=hs.tl hu;rwa [ite_self] at this) hw (by simpa using hc)
 exact AQ hP hi hs.sq hs.sm (by simpa using hu) hw
end
end Go.Proofs.YtmjnackchaahbaaGreat

set_option maxHeartbeats 2000000
namespace Go.Proofs.YtmjnackchaahbaaGreat
open Go.RowKit

set_option maxHeartbeats 4000000 in
theorem vB (S1 S2 S3:Ns) (r1 r2:Nr) (R1 R2:Ms) (c1 c2:Cz) (P:Pg) (l1 l2:List (Int×Int)) (j1 j2:Nat) (hp1:lY S1.dk l1 j1) (hp2:lY S2.dk l2 j2) (hp3:lY S3.dk [] 0)
  (hp:Spec Tryz.prog 85 (aI [] []) (aA (fY P) []))
  (hS:Spec Tryz.prog 56 (aL [ii {},fY P, .v (.int .i64 0), .v (.int .i64 0), .v (.int .i64 1), .v (.int .i64 0),oO] (vR vg 0 [] (5,9))) (nA c1 R1 (S1,r1) l1 j1 vg 0 []))
  (hH:Spec Tryz.prog 81 (aL [ii S1,fY P, .v (.int .i64 10), .v (.int .i64 0), .v (.int .i64 1), .v (.int .i64 0),KE (List.replicate 9 0),oO] (vR vg 0 [] (5,9))) (nA c2 R2 (S2,r2) l2 j2 vg 0 []))
  (hC:Spec Tryz.prog 53 (aL [ii S2,oO] (vR vg 0 [] (5,9))) (aO (.agg (Hx S3 0 (7,8) (8,8) (9,8) (1,8))) (vR vg 0 [] (5,8)++Jy S3 [] (7,8) (8,8) (9,8) (1,8)) [(4,9),(5,8),(7,8),(8,8),(9,8),(1,8)] [(4,9)]))
  (hw:Spec Tryz.prog 51 (aI [ii S1,fY P,fY P] []) (aA (.v (.bool true)) []))
  (hv2:Spec Tryz.prog 47 (aI [ii S2] []) (aA (.sl 1 (ba [5])) []))
  (hv3:Spec Tryz.prog 47 (aI [ii S3] []) (aA (.sl 1 (ba [0])) []))
  (e1:S1.up=true) (e2:S2.counts.getD 0 0=1) (e3:S2.counts.getD 10 0=1) (e4:S2.clock=2) (e5:S3.epoch=1):
  Spec Tryz.prog 50 (aI [] []) (aA (.v (.bool true)) []):=by
 have hn:=sf
 have hs5:=oy 1 1 [5] [5] rfl rfl ab ab
 have hs0:=oy 1 1 [0] [0] rfl rfl ab ab
 refine Spec.ofN Tryz.func50 rfl Tryz.ntmps50 rfl ?_
 refine go 8 ?_
 refine aE ?_
 refine aB (Le.trans (Le.nilB (5,0) 4 (60,0) 111 7 rfl rfl rfl) (Le.nil0 (5,0) 3 rfl rfl)) ?_
 refine aD (aj (ap aa (by repeat' (exact bR)) (hn) rfl rfl) ?_)
 refine aj (ap aa (by repeat' (exact bR)) (hp) rfl rfl) ?_
 refine dW rfl (aj (lf _ _ (rfl:_=[AV.ptr _ _]) (rfl:_=[])) ?_)
 refine aj (bu aa [((4,9),(5,0)),((5,9),(60,0)),((1,8),(11,0)),((2,8),(11,1)),((3,8),(11,2)),((6,8),(11,3)),((5,8),(11,4)),((7,8),(11,5)),((8,8),(11,6)),((9,8),(11,7))] ar (hS) ob tr tr rfl rfl ae ae) ?_
 refine go 9 ?_
 refine aE ?_
 refine aB (Le.trans (Le.frzB (ys:=ba S1.timers) (2,0) 7 rfl rfl rfl rfl (Fq _) (by rw [aq];omega)) (Le.trans (Le.frzB (ys:=ba S1.vol) (2,0) 6 rfl rfl rfl rfl (Fq _) (by rw [aq];omega)) (Le.trans (Le.frzB (ys:=eT S1.dk.pend) (2,0) 5 rfl rfl rfl rfl (ko hp1.1) (by rw [bC,← hp1.2];omega)) (Le.frzB (ys:=ba S1.dk.cells) (2,0) 4 rfl rfl rfl rfl (Fq _) (by rw [aq];omega))))) ?_
 refine dA 10 [] ?_
 refine go 2 ?_
 refine aC (_,[]) (fun τ=> (ap aa (by repeat' (exact bR)) (hp) rfl rfl)) ?_
 refine go 1 ?_
 refine aC (_,[]) (fun τ=> (ap aa (by repeat' (exact bR)) (hp) rfl rfl)) ?_
 refine go 1 ?_
 refine aC (_,[]) (fun τ=> (ap aa al (hw) rfl rfl)) ?_
 refine go 9 ?_
 refine ew (_,[]) rfl (fun τ=> rfl) (fun τ=> fI (r:=false) _ rfl (by rw [e1];rfl)) ?_
 refine go 7 ?_
 refine aF fun K6 hK6=> ?_
 refine aB (σ':=an 76 [(1,_),(2,_)] [((5,0),_),((11,4),_),((2,0),_)] [] []) kp ?_
 refine jD 10 [25,26,27,28,29,30,24,31,32] [(30,0),(30,1),(30,2),(30,3),(5,0),(30,4),(30,5),(30,6),(30,7),(11,4),(2,0)] [[(2,0)],[(2,0)],[(2,0)],[(2,0)],[(2,0)],[(2,0)],[(2,0)],[(2,0)],[],[]] ae ae rfl (bj rfl) (rfl:_=[_,_,_,_,_,_,_,_,_,_]) (rfl:_=[]) ?_
 refine go 2 ?_
 refine aC (_,[]) (fun τ=> (ap aa (by repeat' (exact bR)) (hp) rfl rfl)) ?_
 refine go 5 ?_
 refine aC (_,[]) (fun τ=> lf _ _ (rfl:_=[AV.ptr _ _]) (rfl:_=[])) ?_
 refine go 1 ?_
 refine aC (_,[((30,0),_),((30,1),_),((30,2),_),((30,3),_),((5,0),_),((30,4),_),((30,5),_),((30,6),_),((30,7),_),((11,4), .gone)]) (fun τ=> (bu aa [((4,9),(5,0)),((5,9),(11,4)),((1,8),(30,0)),((2,8),(30,1)),((3,8),(30,2)),((6,8),(30,3)),((5,8),(30,4)),((7,8),(30,5)),((8,8),(30,6)),((9,8),(30,7))] ar (hH) ob tr tr rfl rfl ae ae)) ?_
 refine go 7 ?_
 refine aC (_,[((2,0),_)]) (fun τ=> dE _ _ aa rfl (fE rfl (by exact eN) rfl) rfl rfl (Nat.le_of_ble_eq_true rfl) rfl) ?_
 refine go 1 ?_
 refine ci ⟨⟨rfl,by kernel_rfl⟩,?_⟩
 refine ay (hK6 _ ?_)
 refine aE (aE ?_)
 refine aB (Le.trans (Le.frzB (ys:=ba S2.timers) (2,0) 7 rfl rfl rfl rfl (Fq _) (by rw [aq];omega)) (Le.trans (Le.frzB (ys:=ba S2.vol) (2,0) 6 rfl rfl rfl rfl (Fq _) (by rw [aq];omega)) (Le.trans (Le.frzB (ys:=eT S2.dk.pend) (2,0) 5 rfl rfl rfl rfl (ko hp2.1) (by rw [bC,← hp2.2];omega)) (Le.frzB (ys:=ba S2.dk.cells) (2,0) 4 rfl rfl rfl rfl (Fq _) (by rw [aq];omega))))) ?_
 refine go 2 ?_
 refine aj (ap aa al (hv2) rfl rfl) ?_
 refine go 1 ?_
 refine aj (ap aa al (hs5) rfl rfl) ?_
 refine go 3 ?_
 refine aZ rfl rfl (bO _ _ aa rfl rfl rfl 0 rfl ab (by exact Nat.zero_add _)) ?_
 refine go 1 ?_
 refine aZ rfl rfl (cV (r:=false) _ _ rfl rfl (by show (S2.counts.getD 0 0 !=1)=false;rw [e2];rfl)) ?_
 refine go 3 ?_
 refine aZ rfl rfl (bO _ _ aa rfl rfl rfl 10 rfl ab ag) ?_
 refine go 1 ?_
 refine aZ rfl rfl (cV (r:=false) _ _ rfl rfl (by show (S2.counts.getD 10 0 !=1)=false;rw [e3];rfl)) ?_
 refine go 4 ?_
 refine aZ rfl rfl (cV (r:=false) _ _ rfl rfl (by rw [e4];rfl)) ?_
 refine go 4 ?_
 refine aF fun K9 hK9=> ?_
 refine aB (σ':=an 76 [(1,_),(2,_)] [((5,0),_),((2,0),_),((30,4),_)] [] []) kp ?_
 refine go 3 ?_
 refine aj (lf _ _ (rfl:_=[AV.ptr _ _]) (rfl:_=[])) ?_
 refine aj (bu aa [((4,9),(5,0)),((5,9),(30,4)),((5,8),(58,0)),((7,8),(58,1)),((8,8),(58,2)),((9,8),(58,3)),((1,8),(58,4))] ar (hC) ob tr tr rfl rfl ae ae) ?_
 refine JB rfl rfl rfl rfl rfl rfl (ay (hK9 _ ?_))
 refine aE ?_
 refine aB (Le.trans (Le.frzB (ys:=ba S3.timers) (2,0) 7 rfl rfl rfl rfl (Fq _) (by rw [aq];omega)) (Le.trans (Le.frzB (ys:=ba S3.vol) (2,0) 6 rfl rfl rfl rfl (Fq _) (by rw [aq];omega)) (Le.trans (Le.frzB (ys:=eT S3.dk.pend) (2,0) 5 rfl rfl rfl rfl (ko hp3.1) (by rw [bC,← hp3.2];omega)) (Le.frzB (ys:=ba S3.dk.cells) (2,0) 4 rfl rfl rfl rfl (Fq _) (by rw [aq];omega))))) ?_
 refine go 2 ?_
 refine aj (ap aa al (hv3) rfl rfl) ?_
 refine go 1 ?_
 refine aj (ap aa al (hs0) rfl rfl) ?_
 refine go 3 ?_
 refine aZ rfl rfl (bb (r:=true) _ _ rfl rfl (by rw [e5];rfl)) ?_
 refine go 7 ?_
 refine aZ rfl rfl (bb _ _ rfl rfl rfl) (go 3 ?_)
 exact au (eb rfl rfl)
theorem Dt:Spec Tryz.prog 50 (aI [] []) (aA (.v (.bool true)) []):=by
 have hsm:fJ {}:=⟨Nat.zero_le _,Nat.zero_le _,Nat.zero_le _,Nat.zero_le _⟩
 have hdi:eX ({}:Ns).dk:=fun w hw=> (by cases hw)
 have hdk:DkOk 0 ({}:Ns).dk:=⟨rfl,fun v hv=> (by cases hv),Nat.zero_le _,fun w hw=> (by cases hw)⟩
 have hb:=pW (s:={}) p13_ok.pg p13_ok.cl p13_ok.tc hdk rfl (fun k=> JD k (List.replicate 41 0) ah) ah 0
 have hld: ∀ (i:Nat) (k:Int),i≤100000→2≤k→k≤4→tg vg 1 (i:Int) k (el [] i k):=fun i k _ h2 _=> by
  have e:el [] i k=0:=Int.zero_emod k
  rw [e];exact Rq _ _ _ ab
 obtain ⟨l1,j1,hp1,hS⟩:=Cy P13 0 {} hsm hdi 0 hb 0 1 0 0 [] (cY ab) (cY ab) (cY ah) rfl vg hld _ rfl
 have q1:mJ {} P13 0 0 1 0 0 []=(EF,{}):=by kernel_rfl
 have a1:(iq (cH {} P13 0) P13 0 0 1 0 0 (List.replicate 9 0) []).asked=[]:=by kernel_rfl
 rw [q1] at hS hp1
 have o1:jW 0+(iq (cH {} P13 0) P13 0 0 1 0 0 (List.replicate 9 0) []).asked.length=0:=by rw [a1];rfl
 have p1:jE vg 0 0++oP vg [] (iq (cH {} P13 0) P13 0 0 1 0 0 (List.replicate 9 0) []).asked=[]:=by rw [a1];rfl
 rw [o1,p1] at hS
 have h1:HdOk P13 0 EF:=⟨p13_ok.pg,p13_ok.cl,p13_ok.tc,⟨hdk,rfl,fun v hv=> (by rw [List.mem_singleton.1 hv];exact oB),⟨List.Pairwise.nil,fun x hx=> (by cases hx)⟩,rfl⟩, .inl rfl,fun k=> JD k _ ah,by decide⟩
 obtain ⟨l2,j2,hp2,hH⟩:=tN P13 0 EF h1 10 ab 0 1 0 0 (List.replicate 9 0) [] rfl Jb (cY ab) (cY ab) (cY ah) rfl vg hld _ rfl
 have q2:cJ EF P13 10 0 1 0 0 (List.replicate 9 0) []=(Kn,{}):=by kernel_rfl
 have a2:(iq EF P13 10 0 1 0 0 (List.replicate 9 0) []).asked=[]:=by kernel_rfl
 rw [q2] at hH hp2
 have o2:jW 0+(iq EF P13 10 0 1 0 0 (List.replicate 9 0) []).asked.length=0:=by rw [a2];rfl
 have p2:jE vg 0 0++oP vg [] (iq EF P13 10 0 1 0 0 (List.replicate 9 0) []).asked=[]:=by rw [a2];rfl
 rw [o2,p2] at hH
 have h2:fJ Kn:=⟨Nat.zero_le _,Nat.zero_le _,ah,Nat.zero_le _⟩
 have hC:=OM Kn h2 hdi rfl ah ah vg 0 [] rfl ab [] (fun i hi=> absurd hi (Nat.not_lt_zero _))
 have hw:=Ia EF rfl ah P13 P13 rfl rfl
 have hv2:=qJ Kn h2 hdi
 have hv3:=qJ PB ⟨Nat.zero_le _,Nat.zero_le _,ah,Nat.zero_le _⟩ hdi
 exact vB EF Kn PB {} {} _ _ _ _ P13 l1 l2 j1 j2 hp1 hp2 ⟨rfl,rfl⟩ DM hS hH hC hw hv2 hv3 rfl rfl rfl rfl rfl
end Go.Proofs.YtmjnackchaahbaaGreat

set_option maxHeartbeats 2000000
namespace Go.Proofs.YtmjnackchaahbaaGreat
open Go.RowKit

def Lq (l:List PV) (n:Nat):Prop:=l.length=n
theorem Lq.put {l:List PV} {n k:Nat} {vs:List PV} (h:Lq l n) (hk:k+vs.length≤n):Lq (eO l k vs) n:=(ff _ _ _ (by have h:l.length=n:=h;omega)).trans h
theorem Lq.fit {l:List PV} {n k:Nat} (h:Lq l n) (hk:k+1≤n):k+1≤l.length:=by have h:l.length=n:=h;omega
theorem Kd {P:Pg} {tp:Int} {i:Nat} {s:Ns} {a:Na} (hP:lj P tp) (hi:i≤1000) (hs:SqT P P tp tp i s) (hw:yk a):
  Spec Tryz.prog 45 (aI [ii s,fY P,fY P, .v (.int .i64 0),vz a] []) (Kl (cg P P 0 a s).1 (FZ (JP a s) (cg P P 0 a s).2 (Aw P P 0 a s)) (ft s a (hN a s)) (dM P P 0 a s).length (wz (ft s a (hN a s)) (dM P P 0 a s))):=by
 obtain ⟨l,j,hp,h⟩:=Hq hP hi hs hw
 exact h.mono (Le.outO (I:=[]) (Pn:=[]) [((4,8),(4,8)),((5,8),(5,8))] [(7,8),(8,8),(9,8),(1,8)] (.tup rfl (ai (.agg rfl (xF (ai (dI rfl rfl (by rw [aq,Nat.mul_one]) rfl) (ai (.frz rfl rfl (ko hp.1) (by rw [bC,← hp.2];omega)) (ai (dI rfl rfl (by rw [aq,Nat.mul_one]) rfl) (ai (dI rfl rfl (by rw [aq,Nat.mul_one]) rfl) lz)))))) lz)) rfl rfl rfl tr ob)
set_option maxHeartbeats 4000000 in
theorem sM (one:Int) (l:List Int) (hone: -9223372036854775808≤one∧one≤9223372036854775807) (hl:l.length≤4611686018427387904) (hr: ∀ x∈l, -9223372036854775808≤x∧x≤9223372036854775807):
  Spec Tryz.prog 19 (aI [.v (.int .i64 one), .sl l.length (ba l)] []) (aA (.v (.bool true)) []):=by
 have hac:=zR l hl hr
 have hnn:=sf
 have hA:=zS l
 have hgt:=HZ (iL (l.take 10))
 have hga:=By (iL (l.take 10))
 obtain ⟨d,hd0⟩: ∃ d:Int,d=0:=⟨_,rfl⟩
 have hd:0≤d∧d≤3:=by omega
 have hP:=Jm one
 have hp:=BN one hone
 generalize NF one=P at hP hp
 generalize PY one=tm at hP
 subst hd0
 have hrn:=Iv
 generalize iL (l.take 10)=A at hac hA hgt hga
 refine Spec.ofN Tryz.func19 rfl Tryz.ntmps19 rfl ?_
 refine aG (gn rfl (am (aG (bV rfl (aj (ap aa al (hp) rfl rfl) ?_)))))
 refine go 5 ?_
 refine aj (ap aa al (hac) rfl rfl) ?_
 refine Ee rfl (am (aG (aj (ap aa (by repeat' (exact bR)) (hnn) rfl rfl) ?_)))
 refine go 4 ?_
 refine aj (ap aa (by repeat' (exact bR)) (hrn) rfl rfl) ?_
 refine go 3 ?_
 refine aF fun K6 hK6=> ?_
 refine aG (cp rfl (am (aH ?_)))
 refine aS (α:=Nat×Ns) (fun z=> z.1≤A.length∧SqT P P tm tm z.1 z.2) 127 [(5,_),(6,_),(7,_),(8,_)] [((5,0),_)] (fun z=> [(9, .v (.int .i64 (z.1:Int)))]) (fun z=> [((7,0), .box 83 [.v (.bool z.2.up), .v (.int .i64 (z.2.ver)), .v (.int .i64 (z.2.epoch)), .v (.int .i64 (z.2.clock)), .sl z.2.dk.cells.length (ba z.2.dk.cells), .sl z.2.dk.pend.length (eT z.2.dk.pend), .sl z.2.vol.length (ba z.2.vol), .sl z.2.timers.length (ba z.2.timers), .v (.int .i64 (aP z.2 0)), .v (.int .i64 (aP z.2 1)), .v (.int .i64 (aP z.2 2)), .v (.int .i64 (aP z.2 3)), .v (.int .i64 (aP z.2 4)), .v (.int .i64 (aP z.2 5)), .v (.int .i64 (aP z.2 6)), .v (.int .i64 (aP z.2 7)), .v (.int .i64 (aP z.2 8)), .v (.int .i64 (aP z.2 9)), .v (.int .i64 (aP z.2 10)), .v (.int .i64 (aP z.2 11)), .v (.int .i64 (aP z.2 12)), .v (.int .i64 (aP z.2 13)), .v (.int .i64 (aP z.2 14)), .v (.int .i64 (aP z.2 15)), .v (.int .i64 (aP z.2 16)), .v (.int .i64 (aP z.2 17)), .v (.int .i64 (aP z.2 18)), .v (.int .i64 (aP z.2 19)), .v (.int .i64 (aP z.2 20)), .v (.int .i64 (aP z.2 21)), .v (.int .i64 (aP z.2 22)), .v (.int .i64 (aP z.2 23)), .v (.int .i64 (aP z.2 24)), .v (.int .i64 (aP z.2 25)), .v (.int .i64 (aP z.2 26)), .v (.int .i64 (aP z.2 27)), .v (.int .i64 (aP z.2 28)), .v (.int .i64 (aP z.2 29)), .v (.int .i64 (aP z.2 30)), .v (.int .i64 (aP z.2 31)), .v (.int .i64 (aP z.2 32)), .v (.int .i64 (aP z.2 33)), .v (.int .i64 (aP z.2 34)), .v (.int .i64 (aP z.2 35)), .v (.int .i64 (aP z.2 36)), .v (.int .i64 (aP z.2 37)), .v (.int .i64 (aP z.2 38)), .v (.int .i64 (aP z.2 39)), .v (.int .i64 (aP z.2 40)), .v (.int .i64 (z.2.wait)), .v (.int .i64 (0)), .v (.int .i64 (0))]),((8,0), .box 83 [.v (.bool z.2.up), .v (.int .i64 (z.2.ver)), .v (.int .i64 (z.2.epoch)), .v (.int .i64 (z.2.clock)), .sl z.2.dk.cells.length (ba z.2.dk.cells), .sl z.2.dk.pend.length (eT z.2.dk.pend), .sl z.2.vol.length (ba z.2.vol), .sl z.2.timers.length (ba z.2.timers), .v (.int .i64 (aP z.2 0)), .v (.int .i64 (aP z.2 1)), .v (.int .i64 (aP z.2 2)), .v (.int .i64 (aP z.2 3)), .v (.int .i64 (aP z.2 4)), .v (.int .i64 (aP z.2 5)), .v (.int .i64 (aP z.2 6)), .v (.int .i64 (aP z.2 7)), .v (.int .i64 (aP z.2 8)), .v (.int .i64 (aP z.2 9)), .v (.int .i64 (aP z.2 10)), .v (.int .i64 (aP z.2 11)), .v (.int .i64 (aP z.2 12)), .v (.int .i64 (aP z.2 13)), .v (.int .i64 (aP z.2 14)), .v (.int .i64 (aP z.2 15)), .v (.int .i64 (aP z.2 16)), .v (.int .i64 (aP z.2 17)), .v (.int .i64 (aP z.2 18)), .v (.int .i64 (aP z.2 19)), .v (.int .i64 (aP z.2 20)), .v (.int .i64 (aP z.2 21)), .v (.int .i64 (aP z.2 22)), .v (.int .i64 (aP z.2 23)), .v (.int .i64 (aP z.2 24)), .v (.int .i64 (aP z.2 25)), .v (.int .i64 (aP z.2 26)), .v (.int .i64 (aP z.2 27)), .v (.int .i64 (aP z.2 28)), .v (.int .i64 (aP z.2 29)), .v (.int .i64 (aP z.2 30)), .v (.int .i64 (aP z.2 31)), .v (.int .i64 (aP z.2 32)), .v (.int .i64 (aP z.2 33)), .v (.int .i64 (aP z.2 34)), .v (.int .i64 (aP z.2 35)), .v (.int .i64 (aP z.2 36)), .v (.int .i64 (aP z.2 37)), .v (.int .i64 (aP z.2 38)), .v (.int .i64 (aP z.2 39)), .v (.int .i64 (aP z.2 40)), .v (.int .i64 (z.2.wait)), .v (.int .i64 (0)), .v (.int .i64 (0))])]) [] [] (fun z=> A.length - z.1) (0,{}) ?_ (kj [0,1,1] [] []) ?_
 ·exact ⟨Nat.zero_le _,HG P P tm tm⟩
 intro z hz
 obtain ⟨k,s⟩:=z
 obtain ⟨hz1,hs⟩:=hz
 simp only at hz1 hs ⊢
 refine aF fun K8 hK8=> ?_
 refine go 6 ?_
 refine ax rfl (fun hc30=> ?_) (fun hc30=> ?_)
 ·obtain ⟨hAk,hk10⟩:=hA k ab
  have ga:=hga k ab
  have gt:=hgt k ab
  rw [hAk] at ga gt
  have hw:=IS l k
  have hnx:=Kd hP ab hs hw
  have hsx:=JQ hP hP hd hw.ok ab hs
  have hrx:=EG hP hP hd ab hs hw (show (FU l k).draws.length≤500 from Nat.le_of_ble_eq_true rfl)
  have hsm:=hsx.sm
  have hs0:=qr s hs.sm
  obtain ⟨lw,jw,hpw,hny⟩:=Hq hP ab hs hw
  generalize FU l k=a at*
  generalize cg P P 0 a s=X at*
  obtain ⟨s',r⟩:=X
  simp only at*
  generalize Hy a s=rr at hrx
  generalize hN a s=h at*
  generalize JP a s=rc at hnx hny
  generalize Aw P P 0 a s=ro at hnx hrx hny
  generalize ft s a h=tl at hnx hrx hny
  generalize dM P P 0 a s=nq at*
  have hsa:=qr s' hsm
  have hp2:=hpw.2
  have hsc:=hsm.c
  have hsv:=hsm.v
  have hst:=hsm.t
  have hsq:=hsm.p
  refine aR (hK8 _ ?_)
  refine aE (aH (aE ?_))
  refine aB (σ':=an 127 [(5,_),(6,_),(7,_),(8,_),(9,_)] [((5,0),_),((7,0),_),((8,0),_)] [] []) kp ?_
  refine dA 9 [(10,0)] ?_
  refine go 10 ?_
  refine aC (_,[]) (fun τ=> aQ _ _ aa rfl rfl _ rfl ab (by (simp only [aq,aJ,aM,aq,bC,dQ,bT,eU,cX];omega)) ag) ?_
  refine go 1 ?_
  refine aC (_,[]) (fun τ=> bs _ aa rfl (by exact ga) rfl) ?_
  refine go 1 ?_
  refine aC (_,[]) (fun τ=> (ap aa al (hrx) rfl rfl)) ?_
  refine go 1 ?_
  refine aC (_,[((10,0),_)]) (fun τ=> eB (10,0) aa rfl rfl) ?_
  refine go 4 ?_
  refine aE ?_
  refine aB (σ':=an 127 [(5,_),(6,_),(7,_),(8,_),(9,_),(10,_)] [((5,0),_),((7,0),_),((8,0),_),((10,0),_)] [] []) kp ?_
  refine lK 16 [42,43,44,45,46,47,48,49,41,50,51,52,11,12] [(49,0),(49,1),(49,2),(49,3),(49,4),(49,5),(11,0),(12,0),(11,0),(12,0)] ae ae rfl (rfl:_=[_,_,_,_,_,_,_,_,_,_,_,_,_,_,_,_]) (rfl:_=[_]) ?_
  refine bn (_,[]) (fun τ=> gd _ aa rfl rfl rfl rfl) ?_
  refine bo (rfl:_=[_]) ?_
  refine bn (_,[]) (fun τ=> gd _ aa rfl rfl rfl rfl) ?_
  refine bo (rfl:_=[_,_]) ?_
  refine bn (_,[]) (fun τ=> gd _ aa rfl rfl rfl rfl) ?_
  refine bo (rfl:_=[_,_,_]) ?_
  refine bn (_,[]) (fun τ=> bZ _ zq) ?_
  refine bo (rfl:_=[_,_,_,_]) ?_
  refine bn (_,[]) (fun τ=> bZ _ ry) ?_
  refine bo (rfl:_=[_,_,_,_,_]) ?_
  refine bn (_,[]) (fun τ=> aQ _ _ aa rfl rfl _ rfl ab (by (simp only [aq,aJ,aM,aq,bC,dQ,bT,eU,cX];omega)) ag) ?_
  refine bo (rfl:_=[_,_,_,_,_,_]) ?_
  refine bn (_,[]) (fun τ=> bs _ aa rfl (by exact ga) rfl) ?_
  refine bo (rfl:_=[_,_,_,_,_,_,_]) ?_
  refine bn (_,[((49,0),_),((49,1),_),((49,2),_),((49,3),_),((49,4),_),((49,5),_)]) (fun τ=> (bu aa [((4,8),(49,0)),((5,8),(49,1)),((7,8),(49,2)),((8,8),(49,3)),((9,8),(49,4)),((1,8),(49,5))] ar (hny.toI) trivial tr tr rfl rfl ae ae)) ?_
  refine bo (rfl:_=[_,_,_,_,_,_,_,_]) ?_
  refine bn (_,[]) (fun τ=> bZ _ (rfl:_=AV.tup _)) ?_
  refine bo (rfl:_=[_,_,_,_,_,_,_,_,_]) ?_
  refine bn (_,[]) (fun τ=> eA _ rfl xa) ?_
  refine bo (rfl:_=[_,_,_,_,_,_,_,_,_,_]) ?_
  refine bn (_,[]) (fun τ=> eA _ rfl xa) ?_
  refine bo (rfl:_=[_,_,_,_,_,_,_,_,_,_,_]) ?_
  refine bn (_,[]) (fun τ=> eA _ rfl zG) ?_
  refine bo (rfl:_=[_,_,_,_,_,_,_,_,_,_,_,_]) ?_
  refine bn (_,[((11,0),_)]) (fun τ=> eB (11,0) aa rfl rfl) ?_
  refine bo (rfl:_=[_,_,_,_,_,_,_,_,_,_,_,_,_]) ?_
  refine bn (_,[((12,0),_)]) (fun τ=> eB (12,0) aa rfl rfl) ?_
  refine bo (rfl:_=[_,_,_,_,_,_,_,_,_,_,_,_,_,_]) ?_
  refine bn (_,[((11,0),_)]) (fun τ=> dE _ _ aa rfl rfl rfl rfl (Nat.le_of_ble_eq_true rfl) rfl) ?_
  refine bo (rfl:_=[_,_,_,_,_,_,_,_,_,_,_,_,_,_,_]) ?_
  refine bn (_,[((12,0),_)]) (fun τ=> dE _ _ aa rfl rfl rfl rfl (Nat.le_of_ble_eq_true rfl) rfl) ?_
  refine bo (rfl:_=[_,_,_,_,_,_,_,_,_,_,_,_,_,_,_,_]) ?_
  refine jM ⟨⟨rfl,by kernel_rfl,by kernel_rfl⟩,?_⟩
  refine Jo rfl (am (aF fun K13 hK13=> ?_))
  refine aE ?_
  refine aB (σ':=an 127 [(5,_),(6,_),(7,_),(8,_),(9,_),(10,_),(11,_)] [((5,0),_),((7,0),_),((8,0),_),((10,0),_),((49,2),_),((49,3),_),((49,4),_),((49,5),_),((11,0),_)] [] []) kp ?_
  refine aD (cp rfl (am (aH ?_)))
  refine aS (α:=Nat×List PV) (fun y=> y.1≤s'.vol.length∧Lq y.2 s'.vol.length) 127 [(5,_),(6,_),(7,_),(8,_),(9,_),(10,_),(11,_)] [((5,0),_),((7,0),_),((8,0),_),((10,0),_),((49,2),_),((49,3),_),((49,5),_),((11,0),_)] (fun y=> [(14, .v (.int .i64 (y.1:Int)))]) (fun y=> [((49,4), .row 3 1 y.2)]) [] [] (fun y=> s'.vol.length - y.1) (0,ba s'.vol) ?_ (kj [0,0,0,0,0,0,0,0,2] [] []) ?_
  ·exact ⟨Nat.zero_le _,aq _⟩
  intro y hy
  obtain ⟨j1,q1⟩:=y
  obtain ⟨hj1,hq1⟩:=hy
  simp only at hj1 hq1 ⊢
  refine aF fun K15 hK15=> ?_
  refine go 7 ?_
  refine ax rfl (fun hc57=> ?_) (fun hc57=> ?_)
  ·refine aR (hK15 _ ?_)
   refine go 6 ?_
   refine aj (bq _ _ aa rfl rfl rfl _ rfl ab (by exact (Nat.zero_add _).trans (Nat.mul_one _))) ?_
   refine aj (dN _ _ aa rfl rfl rfl rfl rfl (by exact hq1.fit (k:=j1) ab) rfl) ?_
   refine go 5 ?_
   refine ay (⟨(j1+1,eO q1 (j1) [PV.v (.int .i64 (-99))]),?_,?_,?_⟩)
   ·exact ⟨by simp only;omega,hq1.put (by simp only [List.length_cons,List.length_nil];omega)⟩
   ·exact kj [0,0,0,0,0,0,0,0,2] [] []
   omega
  refine aW (id (hK13 _ ?_))
  refine aF fun K18 hK18=> ?_
  refine aG (cp rfl (am (aH ?_)))
  refine aS (α:=Nat×List PV) (fun y=> y.1≤s'.timers.length∧Lq y.2 s'.timers.length) 127 [(5,_),(6,_),(7,_),(8,_),(9,_),(10,_),(11,_)] [((5,0),_),((7,0),_),((8,0),_),((10,0),_),((49,2),_),((49,3),_),((11,0),_),((49,4),_)] (fun y=> [(15, .v (.int .i64 (y.1:Int)))]) (fun y=> [((49,5), .row 3 1 y.2)]) [] [] (fun y=> s'.timers.length - y.1) (0,ba s'.timers) ?_ (kj [0,0,0,0,0,0,0,0,2] [] []) ?_
  ·exact ⟨Nat.zero_le _,aq _⟩
  intro y hy
  obtain ⟨j2,q2⟩:=y
  obtain ⟨hj2,hq2⟩:=hy
  simp only at hj2 hq2 ⊢
  refine aF fun K20 hK20=> ?_
  refine go 7 ?_
  refine ax rfl (fun hc68=> ?_) (fun hc68=> ?_)
  ·refine aR (hK20 _ ?_)
   refine go 6 ?_
   refine aj (bq _ _ aa rfl rfl rfl _ rfl ab (by exact (Nat.zero_add _).trans (Nat.mul_one _))) ?_
   refine aj (dN _ _ aa rfl rfl rfl rfl rfl (by exact hq2.fit (k:=j2) ab) rfl) ?_
   refine go 5 ?_
   refine ay (⟨(j2+1,eO q2 (j2) [PV.v (.int .i64 (-99))]),?_,?_,?_⟩)
   ·exact ⟨by simp only;omega,hq2.put (by simp only [List.length_cons,List.length_nil];omega)⟩
   ·exact kj [0,0,0,0,0,0,0,0,2] [] []
   omega
  refine aW (id (hK18 _ ?_))
  refine aF fun K23 hK23=> ?_
  refine aG (cp rfl (am (aH ?_)))
  refine aS (α:=Nat×List PV) (fun y=> y.1≤s'.dk.cells.length∧Lq y.2 s'.dk.cells.length) 127 [(5,_),(6,_),(7,_),(8,_),(9,_),(10,_),(11,_)] [((5,0),_),((7,0),_),((8,0),_),((10,0),_),((49,3),_),((11,0),_),((49,4),_),((49,5),_)] (fun y=> [(16, .v (.int .i64 (y.1:Int)))]) (fun y=> [((49,2), .row 3 1 y.2)]) [] [] (fun y=> s'.dk.cells.length - y.1) (0,ba s'.dk.cells) ?_ (kj [0,0,0,0,0,0,0,0,2] [] []) ?_
  ·exact ⟨Nat.zero_le _,aq _⟩
  intro y hy
  obtain ⟨j3,q3⟩:=y
  obtain ⟨hj3,hq3⟩:=hy
  simp only at hj3 hq3 ⊢
  refine aF fun K25 hK25=> ?_
  refine go 8 ?_
  refine ax rfl (fun hc80=> ?_) (fun hc80=> ?_)
  ·refine aR (hK25 _ ?_)
   refine go 7 ?_
   refine aj (bq _ _ aa rfl rfl rfl _ rfl ab (by exact (Nat.zero_add _).trans (Nat.mul_one _))) ?_
   refine aj (dN _ _ aa rfl rfl rfl rfl rfl (by exact hq3.fit (k:=j3) ab) rfl) ?_
   refine go 5 ?_
   refine ay (⟨(j3+1,eO q3 (j3) [PV.v (.int .i64 (-99))]),?_,?_,?_⟩)
   ·exact ⟨by simp only;omega,hq3.put (by simp only [List.length_cons,List.length_nil];omega)⟩
   ·exact kj [0,0,0,0,0,0,0,0,2] [] []
   omega
  refine aW (id (hK23 _ ?_))
  refine aF fun K28 hK28=> ?_
  refine aG (cp rfl (am (aH ?_)))
  refine aS (α:=Nat×List PV) (fun y=> y.1≤s'.dk.pend.length∧Lq y.2 (lw.length*2)) 127 [(5,_),(6,_),(7,_),(8,_),(9,_),(10,_),(11,_)] [((5,0),_),((7,0),_),((8,0),_),((10,0),_),((11,0),_),((49,4),_),((49,5),_),((49,2),_)] (fun y=> [(17, .v (.int .i64 (y.1:Int)))]) (fun y=> [((49,3), .row 126 2 y.2)]) [] [] (fun y=> s'.dk.pend.length - y.1) (0,eT lw) ?_ (kj [0,0,0,0,0,0,0,0,2] [] []) ?_
  ·exact ⟨Nat.zero_le _,bC _⟩
  intro y hy
  obtain ⟨j4,q4⟩:=y
  obtain ⟨hj4,hq4⟩:=hy
  simp only at hj4 hq4 ⊢
  refine aF fun K30 hK30=> ?_
  refine go 8 ?_
  refine ax rfl (fun hc93=> ?_) (fun hc93=> ?_)
  ·refine aR (hK30 _ ?_)
   refine go 7 ?_
   refine aj (bq _ _ aa rfl rfl rfl _ rfl ab ag) ?_
   refine KW rfl rfl rfl (aj (dN _ _ aa rfl rfl rfl rfl rfl (by exact hq4.fit (k:=jw*2+j4*2+1) ab) rfl) ?_)
   refine go 5 ?_
   refine ay (⟨(j4+1,eO q4 (jw*2+j4*2+1) [PV.v (.int .i64 (-99))]),?_,?_,?_⟩)
   ·exact ⟨by simp only;omega,hq4.put (by simp only [List.length_cons,List.length_nil];omega)⟩
   ·exact kj [0,0,0,0,0,0,0,0,2] [] []
   omega
  refine aW (id (hK28 _ ?_))
  refine go 4 ?_
  refine aj (ap aa al (hs0) rfl rfl) ?_
  refine go 4 ?_
  refine aE ?_
  refine aB (σ':=an 127 [(5,_),(6,_),(7,_),(8,_),(9,_),(10,_)] [((5,0),_),((7,0),_),((8,0),_),((10,0),_)] [] []) kp ?_
  refine lK 16 [107,108,109,110,111,112,113,114,106,115,116,117,18,19] [(114,0),(114,1),(18,0),(19,0),(18,0),(19,0)] ae ae rfl (rfl:_=[_,_,_,_,_,_,_,_,_,_,_,_,_,_,_,_]) (rfl:_=[_]) ?_
  refine bn (_,[]) (fun τ=> gd _ aa rfl rfl rfl rfl) ?_
  refine bo (rfl:_=[_]) ?_
  refine bn (_,[]) (fun τ=> gd _ aa rfl rfl rfl rfl) ?_
  refine bo (rfl:_=[_,_]) ?_
  refine bn (_,[]) (fun τ=> gd _ aa rfl rfl rfl rfl) ?_
  refine bo (rfl:_=[_,_,_]) ?_
  refine bn (_,[]) (fun τ=> bZ _ zq) ?_
  refine bo (rfl:_=[_,_,_,_]) ?_
  refine bn (_,[]) (fun τ=> bZ _ ry) ?_
  refine bo (rfl:_=[_,_,_,_,_]) ?_
  refine bn (_,[]) (fun τ=> aQ _ _ aa rfl rfl _ rfl ab (by (simp only [aq,aJ,aM,aq,bC,dQ,bT,eU,cX];omega)) ag) ?_
  refine bo (rfl:_=[_,_,_,_,_,_]) ?_
  refine bn (_,[]) (fun τ=> bs _ aa rfl (by exact ga) rfl) ?_
  refine bo (rfl:_=[_,_,_,_,_,_,_]) ?_
  refine bn (_,[((114,0),_),((114,1),_)]) (fun τ=> (bu aa [((4,8),(114,0)),((5,8),(114,1))] ar (hnx.toI) trivial tr tr rfl rfl ae ae)) ?_
  refine bo (rfl:_=[_,_,_,_,_,_,_,_]) ?_
  refine bn (_,[]) (fun τ=> bZ _ (rfl:_=AV.tup _)) ?_
  refine bo (rfl:_=[_,_,_,_,_,_,_,_,_]) ?_
  refine bn (_,[]) (fun τ=> eA _ rfl xa) ?_
  refine bo (rfl:_=[_,_,_,_,_,_,_,_,_,_]) ?_
  refine bn (_,[]) (fun τ=> eA _ rfl xa) ?_
  refine bo (rfl:_=[_,_,_,_,_,_,_,_,_,_,_]) ?_
  refine bn (_,[]) (fun τ=> eA _ rfl zG) ?_
  refine bo (rfl:_=[_,_,_,_,_,_,_,_,_,_,_,_]) ?_
  refine bn (_,[((18,0),_)]) (fun τ=> eB (18,0) aa rfl rfl) ?_
  refine bo (rfl:_=[_,_,_,_,_,_,_,_,_,_,_,_,_]) ?_
  refine bn (_,[((19,0),_)]) (fun τ=> eB (19,0) aa rfl rfl) ?_
  refine bo (rfl:_=[_,_,_,_,_,_,_,_,_,_,_,_,_,_]) ?_
  refine bn (_,[((18,0),_)]) (fun τ=> dE _ _ aa rfl rfl rfl rfl (Nat.le_of_ble_eq_true rfl) rfl) ?_
  refine bo (rfl:_=[_,_,_,_,_,_,_,_,_,_,_,_,_,_,_]) ?_
  refine bn (_,[((19,0),_)]) (fun τ=> dE _ _ aa rfl rfl rfl rfl (Nat.le_of_ble_eq_true rfl) rfl) ?_
  refine bo (rfl:_=[_,_,_,_,_,_,_,_,_,_,_,_,_,_,_,_]) ?_
  refine jM ⟨⟨rfl,by kernel_rfl,by kernel_rfl⟩,?_⟩
  refine Jo rfl (am (aE (aE ?_)))
  refine aB (σ':=an 127 [(5,_),(6,_),(7,_),(8,_),(9,_),(10,_),(18,_)] [((5,0),_),((7,0),_),((8,0),_),((10,0),_),((18,0),_)] [] []) kp ?_
  refine go 4 ?_
  refine aj (ap aa al (hsa) rfl rfl) ?_
  refine go 17 ?_
  refine ay (⟨(k+1,s'),?_,?_,?_⟩)
  ·exact ⟨by omega,hsx⟩
  ·exact kj [0,1,1] [] []
  omega
 refine aW (id (hK6 _ ?_))
 refine aG (aj (ap aa (by repeat' (exact bR)) (Dt) rfl rfl) ?_)
 exact gn rfl (am (au (eb rfl rfl)))
theorem qP (one:Int) (hone: -9223372036854775808≤one∧one≤9223372036854775807) (n0:Nat) (l:List Int) (h0:l.length=n0) (g0:n0≤4611686018427387904) (r0:Rng l):
  Spec Tryz.prog 19 (aI [.v (.int .i64 one), .sl n0 (ba l)] []) (aA (.v (.bool true)) []):=by
 subst h0
 exact sM one l hone g0 r0
end Go.Proofs.YtmjnackchaahbaaGreat
