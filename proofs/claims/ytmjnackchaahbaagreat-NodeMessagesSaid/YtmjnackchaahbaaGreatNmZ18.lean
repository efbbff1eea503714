/- Part 18 of the texts that the walk leans on: the machine, the walks, the plain laws. -/
import Derived.Test.YtmjnackchaahbaaGreatNmZ17
set_option linter.unusedSimpArgs false
set_option linter.unusedVariables false
namespace Go.Proofs.YtmjnackchaahbaaGreat
open Go.RowKit

theorem vX {names:List Int} (hl:names.length=9) (self nodes clock:Int):(dW names self nodes clock).getD 0 0=self∧(dW names self nodes clock).getD 1 0=nodes∧(dW names self nodes clock).getD 2 0=clock∧
  (dW names self nodes clock).getD 3 0=names.getD 3 0∧(dW names self nodes clock).getD 4 0=names.getD 4 0∧(dW names self nodes clock).getD 5 0=names.getD 5 0∧(dW names self nodes clock).getD 6 0=names.getD 6 0∧(dW names self nodes clock).getD 7 0=names.getD 7 0∧(dW names self nodes clock).getD 8 0=names.getD 8 0:=by
 match names,hl with
 | [a,b,c,d,e,f,g,h,i],_=> exact ⟨rfl,rfl,rfl,rfl,rfl,rfl,rfl,rfl,rfl⟩
structure HdOk (P:Pg) (tm:Int) (s:Ns):Prop where
 pg:mt P
 cl:P.c.length≤1000000
 tc:TmC P.c tm=true
 ns:re P s
 tl:qV tm s.timers
 cb: ∀ k, -1000000≤s.counts.getD k 0∧s.counts.getD k 0≤1000000
 ck: -1000000≤s.clock∧s.clock≤1000000
theorem HdOk.sm {P:Pg} {tm:Int} {s:Ns} (h:HdOk P tm s):jS s∧jG s.dk:=by
 have h1:=h.ns.dk.len
 have h2:=h.ns.dk.pn
 have h3:=h.ns.vl
 have h4:=h.pg.nv
 refine ⟨⟨by omega,by omega,by omega,?_⟩,fun w hw=> ?_⟩
 ·rcases h.tl with h | h <;> rw [h] <;> simp
 obtain ⟨b1,b2,_⟩:=h.ns.dk.pr w hw
 exact ⟨b1,by omega⟩
abbrev Pe (t:Tl) (np:Nat) (pre:List PV):Tl:={ t with np:=np,pre:=pre }
theorem AR {clock drift tick:Int} (h:drift≤0):cJ clock drift tick=clock+1:=by unfold cJ;rw [if_neg ab,Int.add_zero]
theorem Az {clock drift tick:Int} (h:0 < drift):cJ clock drift tick=clock+1+tick % (drift+1):=by unfold cJ;rw [if_pos h]
abbrev gL (s:Ns) (P:Pg) (h:Nat) (self nodes drift tick:Int) (names ans:List Int):Ms:=qg P h (dW names self nodes (cJ s.clock drift tick)) (s.dk.view++s.vol) ans
theorem ub (s:Ns) (P:Pg) (h:Nat) (self nodes drift tick:Int) (names ans:List Int):cT s h (cJ s.clock drift tick) P (gL s P h self nodes drift tick names ans) (gL s P h self nodes drift tick names ans).acts.length=cU s P h self nodes drift tick names ans:=by
 obtain ⟨h1,h2,_⟩:=sB P h (dW names self nodes (cJ s.clock drift tick)) (s.dk.view++s.vol) ans
 show ((gL s P h self nodes drift tick names ans).acts.take (gL s P h self nodes drift tick names ans).acts.length).foldl ea (Oh s h (cJ s.clock drift tick) ((gL s P h self nodes drift tick names ans).vars.drop P.d),{})=_
 rw [List.take_length]
 unfold cU
 show _=(iU P h (dW names self nodes (cJ s.clock drift tick)) (s.dk.view++s.vol) ans).acts.foldl ea _
 rw [← h1,show (gy s P h self nodes drift tick names ans).vars=(gL s P h self nodes drift tick names ans).vars from h2.symm]
def px (t:Tl) (drift tick:Int):List PV:=if 0 < drift then vC t 2 0 (drift+1) (tick % (drift+1)) else []
def pB (drift:Int):Nat:=if 0 < drift then 1 else 0
theorem rS (P:Pg) (tm:Int) (s:Ns) (hs:HdOk P tm s) (h:Nat) (hh:h < 40) (self nodes drift tick:Int) (names ans:List Int) (mq:names.length=9) (hn: ∀ i,Rg (names.getD i 0)) (h1:Rg self) (h2:Rg nodes) (h3:Rg (cJ s.clock drift tick)) (hdr:0≤drift∧drift≤1000) (t:Tl)
  (hlk:0 < drift→tE t 2 0 (drift+1) (tick % (drift+1))) (hld: ∀ (i:Nat) (k:Int),i≤100000→2≤k→k≤4→tE t 1 (i:Int) k (gH ans i k)) (R:Ms) (hR:R=gL s P h self nodes drift tick names ans) (n0:Nat) (L0:List PV) (hn0:n0≤10) (hL0:L0.length=n0*7) (h00:0 < drift→n0=0∧L0=[]):
  Spec Tryz.prog 81 (aY [jT s,ii P, .v (.int .i64 (h:Int)), .v (.int .i64 self), .v (.int .i64 nodes), .v (.int .i64 drift),DD names,jF] (pu t n0 L0 (5,9)))
   (iW ⟨self,(h:Int),s.counts.getD h 0⟩ R (cU s P h self nodes drift tick names ans) t (n0+pB drift+R.asked.length) (L0++px t drift tick++sF t ans R.asked)):=by
 obtain ⟨hsm,hin⟩:=hs.sm
 have hpn:=hs.pg.nv
 obtain ⟨v1,v2⟩:=hs.ns.dk.view
 have hvl:=hs.ns.vl
 have hiv:(s.dk.view++s.vol).length=P.d+P.v:=by rw [List.length_append,v1,hvl]
 have hir: ∀ v∈s.dk.view++s.vol,Rg v:=fun v hv=> (List.mem_append.1 hv).elim (v2 v) (hs.ns.vr v)
 have wO:=sg hn h1 h2 h3
 obtain ⟨a1,a2,a3⟩:=sB P h (dW names self nodes (cJ s.clock drift tick)) (s.dk.view++s.vol) ans
 obtain ⟨iv,_,_⟩:=ux hs.pg (h:=h) (names:=dW names self nodes (cJ s.clock drift tick)) (vars:=s.dk.view++s.vol) (ans:=ans) wO hiv hir
 have hRv:R.vars.length=P.d+P.v:=by rw [hR];show (qg _ _ _ _ _).vars.length=_;rw [a2];exact iv.vl
 have hRa:R.acts.length≤500:=by rw [hR];exact FF _ _ _ _ _
 have hac: ∀ a∈R.acts,xz tm a∧Rg a.b:=fun a ha=> by
  rw [hR] at ha
  have ha:a∈(iU P h (dW names self nodes (cJ s.clock drift tick)) (s.dk.view++s.vol) ans).acts:=a1 ▸ ha
  obtain ⟨⟨_,q1,_,_⟩,_,_⟩:=iv.ac a ha
  exact ⟨uv hs.tc _ _ _ _ a ha,q1⟩
 have hq:=JI ⟨self,(h:Int),s.counts.getD h 0⟩ (h:=h) (ck:=cJ s.clock drift tick) (P:=P) (R:=R) (TmC.rg hs.tc) hac hs.tl hs.ns.dk ab ab hRa
 obtain ⟨g0,g1,g2,g3,g4,g5,g6,g7,g8⟩:=vX mq self nodes (cJ s.clock drift tick)
 have hrun:=fun (t':Tl) (ht:yU ⟨P,s.dk.view++s.vol,dW names self nodes (cJ s.clock drift tick),ans,t'⟩)=> JT P hs.pg hs.cl h hh (dW names self nodes (cJ s.clock drift tick)) (s.dk.view++s.vol) ans wO hiv hir t' ht R hR
 rw [g0,g1,g2,g3,g4,g5,g6,g7,g8] at hrun
 rw [← ub,← hR]
 by_cases hd:0 < drift
 ·obtain ⟨rfl,rfl⟩:=h00 hd
  have hmod:0≤tick % (drift+1)∧tick % (drift+1) < drift+1:=⟨Int.emod_nonneg _ ab,Int.emod_lt_of_pos _ ab⟩
  have hv:=hrun (Pe t 1 (vC t 2 0 (drift+1) (tick % (drift+1)))) ⟨by show 1≤10;omega,rfl,fun i k x y z=> hld i k x y z⟩
  rw [Az hd] at hv hq ⊢
  rw [show px t drift tick=vC t 2 0 (drift+1) (tick % (drift+1)) from if_pos hd,show pB drift=1 from if_pos hd,Nat.zero_add,List.nil_append]
  exact QM s hsm hin hs.ns.ct P h hh self nodes drift (tick % (drift+1)) names t hd (hlk hd) ⟨hmod.1,by omega⟩ ab hs.cb hs.ck R (sF t ans R.asked) hv ab ab hRa hq
 have hv:=hrun (Pe t n0 L0) ⟨hn0,hL0,fun i k x y z=> hld i k x y z⟩
 rw [AR ab] at hv hq ⊢
 rw [show px t drift tick=[] from if_neg hd,show pB drift=0 from if_neg hd,Nat.add_zero,List.append_nil]
 exact Rk s hsm hin hs.ns.ct P h hh self nodes drift 0 names t n0 L0 ab hs.cb hs.ck R (sF t ans R.asked) hv ab ab hRa hq
theorem ui (P:Pg) (tm:Int) (s:Ns) (hs:HdOk P tm s) (h:Nat) (hh:h < 40) (self nodes drift tick:Int) (names ans:List Int) (mq:names.length=9) (hn: ∀ i,Rg (names.getD i 0)) (h1:Rg self) (h2:Rg nodes) (h3:Rg (cJ s.clock drift tick)) (hdr:0≤drift∧drift≤1000) (t:Tl)
  (hlk:0 < drift→tE t 2 0 (drift+1) (tick % (drift+1))) (hld: ∀ (i:Nat) (k:Int),i≤100000→2≤k→k≤4→tE t 1 (i:Int) k (gH ans i k)) (R:Ms) (hR:R=gL s P h self nodes drift tick names ans):
  Spec Tryz.prog 81 (aY [jT s,ii P, .v (.int .i64 (h:Int)), .v (.int .i64 self), .v (.int .i64 nodes), .v (.int .i64 drift),DD names,jF] (pu t 0 [] (5,9)))
   (iW ⟨self,(h:Int),s.counts.getD h 0⟩ R (cU s P h self nodes drift tick names ans) t (pB drift+R.asked.length) (px t drift tick++sF t ans R.asked)):=by
 have:=rS P tm s hs h hh self nodes drift tick names ans mq hn h1 h2 h3 hdr t hlk hld R hR 0 [] (Nat.zero_le _) rfl (fun _=> ⟨rfl,rfl⟩)
 rwa [Nat.zero_add,List.nil_append] at this

theorem IA (i:Nat):Rg ((List.replicate 9 (0:Int)).getD i 0):=by
 by_cases hi:i < 9
 ·rw [List.getD_eq_getElem?_getD,List.getElem?_replicate,if_pos hi];exact oL
 rw [List.getD_eq_getElem?_getD,List.getElem?_replicate,if_neg hi];exact oL
theorem CW (P:Pg) (tm:Int) (s:Ns) (hs:jS s) (ho:jG s.dk) (ver:Int) (hb:HdOk P tm (cO s P ver)) (self nodes drift tick:Int) (ans:List Int) (h1:Rg self) (h2:Rg nodes) (h3:Rg (cJ s.clock drift tick)) (hdr:0≤drift∧drift≤1000) (t:Tl)
  (hlk:0 < drift→tE t 2 0 (drift+1) (tick % (drift+1))) (hld: ∀ (i:Nat) (k:Int),i≤100000→2≤k→k≤4→tE t 1 (i:Int) k (gH ans i k)) (R:Ms) (hR:R=gL (cO s P ver) P 0 self nodes drift tick (List.replicate 9 0) ans) (n0:Nat) (L0:List PV) (hn0:n0≤10) (hL0:L0.length=n0*7) (h00:0 < drift→n0=0∧L0=[]):
  Spec Tryz.prog 56 (aY [jT s,ii P, .v (.int .i64 ver), .v (.int .i64 self), .v (.int .i64 nodes), .v (.int .i64 drift),jF] (pu t n0 L0 (5,9)))
   (iW ⟨self,((0:Nat):Int),s.counts.getD 0 0⟩ R (lb s P ver self nodes drift tick ans) t (n0+pB drift+R.asked.length) (L0++px t drift tick++sF t ans R.asked)):=by
 have hpn:=hb.pg.nv
 have hH:=rS P tm (cO s P ver) hb 0 ab self nodes drift tick (List.replicate 9 0) ans rfl IA h1 h2 h3 hdr t hlk hld R hR n0 L0 hn0 hL0 h00
 by_cases hd:s.dk.cells.length=P.d
 ·exact RK s hs ho P ver self nodes drift t n0 L0 hd ab ab _ R _ _ _ hH
 exact QN s hs ho P ver self nodes drift t n0 L0 hd ab ab _ R _ _ _ hH
theorem xn (P:Pg) (tm:Int) (s:Ns) (hs:jS s) (ho:jG s.dk) (ver:Int) (hb:HdOk P tm (cO s P ver)) (self nodes drift tick:Int) (ans:List Int) (h1:Rg self) (h2:Rg nodes) (h3:Rg (cJ s.clock drift tick)) (hdr:0≤drift∧drift≤1000) (t:Tl)
  (hlk:0 < drift→tE t 2 0 (drift+1) (tick % (drift+1))) (hld: ∀ (i:Nat) (k:Int),i≤100000→2≤k→k≤4→tE t 1 (i:Int) k (gH ans i k)) (R:Ms) (hR:R=gL (cO s P ver) P 0 self nodes drift tick (List.replicate 9 0) ans):
  Spec Tryz.prog 56 (aY [jT s,ii P, .v (.int .i64 ver), .v (.int .i64 self), .v (.int .i64 nodes), .v (.int .i64 drift),jF] (pu t 0 [] (5,9)))
   (iW ⟨self,((0:Nat):Int),s.counts.getD 0 0⟩ R (lb s P ver self nodes drift tick ans) t (pB drift+R.asked.length) (px t drift tick++sF t ans R.asked)):=by
 have:=CW P tm s hs ho ver hb self nodes drift tick ans h1 h2 h3 hdr t hlk hld R hR 0 [] (Nat.zero_le _) rfl (fun _=> ⟨rfl,rfl⟩)
 rwa [Nat.zero_add,List.nil_append] at this
theorem uE {P:Pg} {tm:Int} {s:Ns} {m:Nat} (hp:mt P) (hc:P.c.length≤1000000) (ht:TmC P.c tm=true) (hd:DkOk m s.dk) (hct:s.counts.length=41) (hcb: ∀ k, -1000000≤s.counts.getD k 0∧s.counts.getD k 0≤1000000) (hck: -1000000≤s.clock∧s.clock≤1000000) (ver:Int):HdOk P tm (cO s P ver) where
 pg:=hp
 cl:=hc
 tc:=ht
 ns:={
  dk:=by
   show DkOk P.d (if s.dk.cells.length=P.d then s.dk else s.dk.resize P.d)
   split
   ·rename_i h
    have:=hd.len
    rwa [← h,this]
   exact hd.resize P.d
  vl:=List.length_replicate
  vr:=fun v hv=> by
   have hv:v∈List.replicate P.v (0:Int):=hv
   rw [List.mem_replicate] at hv;rw [hv.2];exact oL
  tm:=⟨List.Pairwise.nil,fun x hx=> by cases hx⟩
  ct:=hct }
 tl:= .inl rfl
 cb:=hcb
 ck:=hck

abbrev DA (c:Cz) (r:Nr) (o:Ms):AV:= .agg [.v (.int .i64 c.a), .v (.int .i64 c.b), .v (.int .i64 c.c), .sl r.sent.length (ym c r.sent), .v (.bool r.repl), .v (.int .i64 r.value), .sl r.fails.length (cp r.fails), .sl o.vars.length (cp o.vars), .sl o.acts.length (vG o.acts), .v (.int .i64 (o.steps:Int)), .v (.bool (!o.fin)), .sl (fz (kC o.cov)).length (cp (fz (kC o.cov)))]
abbrev fk (s:Ns) (a:Na) (h:Nat):Tl:=⟨1,(h:Int),cQ s h,(ll 1 (h:Int) (cQ s h) a.tick a.draws a.keeps).length,rm (ll 1 (h:Int) (cQ s h) a.tick a.draws a.keeps),0,[]⟩
abbrev nY (s':Ns) (rd:AV) (t:Tl) (n:Nat) (L:List PV):St:=aO (.tup [jT s',rd, .ptr (4,8) 0]) [((4,8), .box 103 [.v (.int .i64 t.c1), .v (.int .i64 t.c2), .v (.int .i64 t.c3), .sl t.na t.A, .ref (5,8) 0 n]),((5,8), .row 111 7 L)]
abbrev KX:AV:= .agg [.v (.int .i64 0), .v (.int .i64 0), .v (.int .i64 0), .sl 0 [], .v (.bool false), .v (.int .i64 0), .sl 0 [], .sl 0 [], .sl 0 [], .v (.int .i64 0), .v (.bool false), .sl 0 []]
set_option maxHeartbeats 4000000 in
theorem QX (s:Ns) (hup:s.up=false) (hep:0≤s.epoch) (he2:s.epoch % 2=0) (P Q:Pg) (drift:Int) (a:Na) (h1:a.draws.length≤1000) (h2:a.keeps.length≤1000) (c:Cz) (R:Ms) (q:Ns×Nr) (n:Nat) (L:List PV)
  (hS:Spec Tryz.prog 56 (aY [jT s,ii P, .v (.int .i64 0), .v (.int .i64 1), .v (.int .i64 3), .v (.int .i64 drift),jF] (pu (fk s a 0) 0 [] (5,9))) (iW c R q (fk s a 0) n L)):
  Spec Tryz.prog 45 (ba [jT s,ii P,ii Q, .v (.int .i64 drift),Be a] []) (nY q.1 (DA c q.2 R) (fk s a 0) n L):=by
 have htl:=iq s a 0 ab h1 h2
 refine Spec.ofN Tryz.func45 rfl Tryz.ntmps45 rfl ?_
 refine am (ai (aQ (5,0) _ rfl rfl) (ai (aQ (6,0) _ rfl rfl) (ai (aQ (7,0) _ rfl rfl) (ai (aQ (9,0) _ rfl rfl) (ai (aC (10,0) aa rfl rfl) (ai (aC (11,0) aa rfl rfl) (ai (bp _ kQ) (aj (aq (am ?_))))))))))
 refine bb rfl rfl rfl (Br rfl rfl rfl (ai (cu (r:=true) _ rfl (by rw [hup];rfl)) ?_))
 refine aj (bK rfl rfl (am (ai (az _ aa rfl rfl rfl rfl) (ai (az _ aa rfl rfl rfl rfl) (ai (bV aa [((4,8),(28,0))] ar (htl.toI) trivial tr tr rfl rfl ae ae) ?_)))))
 refine wq rfl (aj (am (ai (az _ aa rfl rfl rfl rfl) (ai (aC (14,0) aa rfl rfl) (bF rfl rfl rfl rfl rfl rfl (aj (aq ?_)))))))
 refine aM (σ':=aD 90 [(3,_),(5,_),(7,_),(10,_),(11,_),(13,_),(14,_)] [((5,0),_),((7,0),_),((10,0),_),((11,0),_),((28,0),_),((14,0),_)] [] []) kp ?_
 refine an (be rfl (aj (aq (am (bb rfl rfl rfl (cf rfl rfl rfl (ai (dX (r:=0) _ _ rfl rfl ab ((Int.tmod_eq_emod_of_nonneg hep).trans he2)) ?_)))))))
 refine gQ rfl rfl rfl (aj (aW rfl rfl (aS (aU fun K9 hK9=> ?_))))
 refine aM (Le.nilB (28,0) 4 (60,0) 111 7 rfl rfl rfl) ?_
 refine an (ai (az _ aa rfl rfl rfl rfl) (ai (az _ aa rfl rfl rfl rfl) (aX rfl (aX rfl (bP rfl (ai (jP _ _ (rfl:_=[AV.ptr _ _]) (rfl:_=[])) ?_))))))
 refine ai (bV aa [((4,9),(28,0)),((5,9),(60,0)),((1,8),(42,0)),((2,8),(42,1)),((3,8),(42,2)),((6,8),(42,3)),((5,8),(42,4))] ar (hS) ob tr tr rfl rfl ae ae) ?_
 refine ai (aI _ tU) (ai (co _ rfl pI) (ai (co _ rfl pI) (ai (aC (16,0) aa rfl rfl) (ai (aC (17,0) aa rfl rfl) (bF rfl rfl rfl rfl rfl rfl (bF rfl rfl rfl rfl rfl rfl (aJ (hK9 _ ?_))))))))
 clear hK9;try clear K9
 refine aq ?_
 refine aM (σ':=aD 90 [(10,_),(11,_),(13,_),(16,_),(17,_)] [((10,0),_),((11,0),_),((28,0),_),((42,0),_),((42,1),_),((42,2),_),((42,3),_),((42,4),_),((16,0),_),((17,0),_)] [] []) kp ?_
 refine hZ 5 [45,46,47] [(10,0),(11,0)] [[(10,0),(11,0)],[(11,0)],[],[(11,0)],[]] ae ae rfl (aK rfl) (rfl:_=[_,_,_,_,_]) (rfl:_=[_]) ?_
 refine ap (_,[]) (fun τ=> az _ aa rfl rfl rfl rfl) ?_
 refine fP rfl ?_
 refine ap (_,[]) (fun τ=> az _ aa rfl rfl rfl rfl) ?_
 refine fO rfl ?_
 refine ap (_,[]) (fun τ=> aI _ ca) ?_
 refine fN rfl ?_
 refine ap (_,[((10,0),_)]) (fun τ=> dH _ _ aa rfl (eG rfl (by exact dQ) rfl) rfl rfl (Nat.le_of_ble_eq_true rfl) rfl) ?_
 refine fS rfl ?_
 refine ap (_,[((11,0),_)]) (fun τ=> dH _ _ aa rfl (eG rfl (by exact dQ) rfl) rfl rfl (Nat.le_of_ble_eq_true rfl) rfl) ?_
 refine gk rfl (bm ⟨⟨rfl,by kernel_rfl⟩,?_⟩)
 refine wq rfl (aj (aG ?_))
 exact vK (.inr rfl) rfl (.cellA aa rfl rfl rfl) (.cellA aa rfl rfl rfl) (.tmp ca) (Le.out [((4,8),(28,0)),((5,8),(42,4))] [(42,0),(42,1),(42,2),(42,3)] (.tup rfl (au (.agg rfl (zB (au .sl (au .sl (au .sl (au (fg rfl rfl (by rw [aN,Nat.mul_one]) rfl) lz)))))) (au (.agg rfl (au .v (au .v (au .v (au (fg rfl rfl (kS _ _).symm rfl) (au .v (au .v (au (fg rfl rfl (by rw [aN,Nat.mul_one]) rfl) (au .sl (au (fg rfl rfl (gM _).symm rfl) lz)))))))))) lz))) rfl rfl rfl tr ob)
set_option maxHeartbeats 4000000 in
theorem PJ (s:Ns) (hup:s.up=false) (hep:0≤s.epoch) (he2:s.epoch % 2=1) (P Q:Pg) (drift:Int) (a:Na) (h1:a.draws.length≤1000) (h2:a.keeps.length≤1000) (c:Cz) (R:Ms) (q:Ns×Nr) (n:Nat) (L:List PV)
  (hS:Spec Tryz.prog 56 (aY [jT s,ii Q, .v (.int .i64 1), .v (.int .i64 1), .v (.int .i64 3), .v (.int .i64 drift),jF] (pu (fk s a 0) 0 [] (5,9))) (iW c R q (fk s a 0) n L)):
  Spec Tryz.prog 45 (ba [jT s,ii P,ii Q, .v (.int .i64 drift),Be a] []) (nY q.1 (DA c q.2 R) (fk s a 0) n L):=by
 have htl:=iq s a 0 ab h1 h2
 refine Spec.ofN Tryz.func45 rfl Tryz.ntmps45 rfl ?_
 refine am (ai (aQ (5,0) _ rfl rfl) (ai (aQ (6,0) _ rfl rfl) (ai (aQ (7,0) _ rfl rfl) (ai (aQ (9,0) _ rfl rfl) (ai (aC (10,0) aa rfl rfl) (ai (aC (11,0) aa rfl rfl) (ai (bp _ kQ) (aj (aq (am ?_))))))))))
 refine bb rfl rfl rfl (Br rfl rfl rfl (ai (cu (r:=true) _ rfl (by rw [hup];rfl)) ?_))
 refine aj (bK rfl rfl (am (ai (az _ aa rfl rfl rfl rfl) (ai (az _ aa rfl rfl rfl rfl) (ai (bV aa [((4,8),(28,0))] ar (htl.toI) trivial tr tr rfl rfl ae ae) ?_)))))
 refine wq rfl (aj (am (ai (az _ aa rfl rfl rfl rfl) (ai (aC (14,0) aa rfl rfl) (bF rfl rfl rfl rfl rfl rfl (aj (aq ?_)))))))
 refine aM (σ':=aD 90 [(3,_),(5,_),(7,_),(10,_),(11,_),(13,_),(14,_)] [((5,0),_),((7,0),_),((10,0),_),((11,0),_),((28,0),_),((14,0),_)] [] []) kp ?_
 refine an (be rfl (aj (aq (am (bb rfl rfl rfl (cf rfl rfl rfl (ai (dX (r:=1) _ _ rfl rfl ab ((Int.tmod_eq_emod_of_nonneg hep).trans he2)) ?_)))))))
 refine kv rfl rfl rfl (aj (bK rfl rfl (am (ai (az _ aa rfl rfl rfl rfl) (bF rfl rfl rfl rfl rfl rfl (aj (an (be rfl (aj (aU fun K10 hK10=> ?_))))))))))
 refine aM (Le.nilB (28,0) 4 (60,0) 111 7 rfl rfl rfl) ?_
 refine an (ai (az _ aa rfl rfl rfl rfl) (ai (az _ aa rfl rfl rfl rfl) (aX rfl (aX rfl (bP rfl (ai (jP _ _ (rfl:_=[AV.ptr _ _]) (rfl:_=[])) ?_))))))
 refine ai (bV aa [((4,9),(28,0)),((5,9),(60,0)),((1,8),(42,0)),((2,8),(42,1)),((3,8),(42,2)),((6,8),(42,3)),((5,8),(42,4))] ar (hS) ob tr tr rfl rfl ae ae) ?_
 refine ai (aI _ tU) (ai (co _ rfl pI) (ai (co _ rfl pI) (ai (aC (16,0) aa rfl rfl) (ai (aC (17,0) aa rfl rfl) (bF rfl rfl rfl rfl rfl rfl (bF rfl rfl rfl rfl rfl rfl (aJ (hK10 _ ?_))))))))
 clear hK10;try clear K10
 refine aq ?_
 refine aM (σ':=aD 90 [(10,_),(11,_),(13,_),(16,_),(17,_)] [((10,0),_),((11,0),_),((28,0),_),((42,0),_),((42,1),_),((42,2),_),((42,3),_),((42,4),_),((16,0),_),((17,0),_)] [] []) kp ?_
 refine hZ 5 [45,46,47] [(10,0),(11,0)] [[(10,0),(11,0)],[(11,0)],[],[(11,0)],[]] ae ae rfl (aK rfl) (rfl:_=[_,_,_,_,_]) (rfl:_=[_]) ?_
 refine ap (_,[]) (fun τ=> az _ aa rfl rfl rfl rfl) ?_
 refine fP rfl ?_
 refine ap (_,[]) (fun τ=> az _ aa rfl rfl rfl rfl) ?_
 refine fO rfl ?_
 refine ap (_,[]) (fun τ=> aI _ ca) ?_
 refine fN rfl ?_
 refine ap (_,[((10,0),_)]) (fun τ=> dH _ _ aa rfl (eG rfl (by exact dQ) rfl) rfl rfl (Nat.le_of_ble_eq_true rfl) rfl) ?_
 refine fS rfl ?_
 refine ap (_,[((11,0),_)]) (fun τ=> dH _ _ aa rfl (eG rfl (by exact dQ) rfl) rfl rfl (Nat.le_of_ble_eq_true rfl) rfl) ?_
 refine gk rfl (bm ⟨⟨rfl,by kernel_rfl⟩,?_⟩)
 refine wq rfl (aj (aG ?_))
 exact vK (.inr rfl) rfl (.cellA aa rfl rfl rfl) (.cellA aa rfl rfl rfl) (.tmp ca) (Le.out [((4,8),(28,0)),((5,8),(42,4))] [(42,0),(42,1),(42,2),(42,3)] (.tup rfl (au (.agg rfl (zB (au .sl (au .sl (au .sl (au (fg rfl rfl (by rw [aN,Nat.mul_one]) rfl) lz)))))) (au (.agg rfl (au .v (au .v (au .v (au (fg rfl rfl (kS _ _).symm rfl) (au .v (au .v (au (fg rfl rfl (by rw [aN,Nat.mul_one]) rfl) (au .sl (au (fg rfl rfl (gM _).symm rfl) lz)))))))))) lz))) rfl rfl rfl tr ob)
set_option maxHeartbeats 4000000 in
theorem PN (s:Ns) (hup:s.up=true) (hv:s.ver≠1) (P Q:Pg) (drift:Int) (a:Na) (hcr:a.crash=false) (hh:a.h < 41) (h1:a.draws.length≤1000) (h2:a.keeps.length≤1000) (c:Cz) (R:Ms) (q:Ns×Nr) (n:Nat) (L:List PV)
  (hS:Spec Tryz.prog 81 (aY [jT { s with wait:=a.wait },ii P, .v (.int .i64 (a.h:Int)), .v (.int .i64 1), .v (.int .i64 3), .v (.int .i64 drift),DD a.names,jF] (pu (fk s a a.h) 0 [] (5,9))) (iW c R q (fk s a a.h) n L)):
  Spec Tryz.prog 45 (ba [jT s,ii P,ii Q, .v (.int .i64 drift),Be a] []) (nY q.1 (DA c q.2 R) (fk s a a.h) n L):=by
 have htl:=iq { s with wait:=a.wait } a a.h hh h1 h2
 refine Spec.ofN Tryz.func45 rfl Tryz.ntmps45 rfl ?_
 refine am (ai (aQ (5,0) _ rfl rfl) (ai (aQ (6,0) _ rfl rfl) (ai (aQ (7,0) _ rfl rfl) (ai (aQ (9,0) _ rfl rfl) (ai (aC (10,0) aa rfl rfl) (ai (aC (11,0) aa rfl rfl) (ai (bp _ kQ) (aj (aq (am ?_))))))))))
 refine bb rfl rfl rfl (Br rfl rfl rfl (ai (cu (r:=false) _ rfl (by rw [hup];rfl)) ?_))
 refine aj (aW rfl rfl (aS (aq (am (bb rfl rfl rfl (cf rfl rfl rfl (gQ rfl rfl (by rw [if_neg (by rw [hcr];exact Bool.false_ne_true)];rfl) ?_)))))))
 refine aj (aW rfl rfl (aS (am (ai (az _ aa rfl rfl rfl rfl) (ai (aC (19,0) aa rfl rfl) (bF rfl rfl rfl rfl rfl rfl (aj (aq (aq ?_)))))))))
 refine aM (σ':=aD 90 [(3,_),(5,_),(7,_),(9,_),(10,_),(11,_),(19,_)] [((5,0),_),((7,0),_),((9,0),_),((10,0),_),((11,0),_),((19,0),_)] [] []) kp ?_
 refine an (bb rfl rfl rfl (cf rfl rfl rfl (gQ rfl rfl (beq_eq_false_iff_ne.2 hv) ?_)))
 refine aj (aW rfl rfl (aS (am (bb rfl rfl rfl (cf rfl rfl rfl (bb rfl rfl rfl (bF rfl rfl rfl rfl rfl rfl (aj (am (ai (az _ aa rfl rfl rfl rfl) ?_))))))))))
 refine ai (az _ aa rfl rfl rfl rfl) (bb rfl rfl rfl (cf rfl rfl rfl (ai (bV aa [((4,8),(72,0))] ar (htl.toI) trivial tr tr rfl rfl ae ae) ?_)))
 refine wq rfl (aj (aU fun K11 hK11=> ?_))
 refine aM (Le.nilB (72,0) 4 (60,0) 111 7 rfl rfl rfl) ?_
 refine an (ai (az _ aa rfl rfl rfl rfl) (ai (az _ aa rfl rfl rfl rfl) (bb rfl rfl rfl (cf rfl rfl rfl (aX rfl (bb rfl rfl rfl (ai (az _ aa rfl rfl rfl rfl) (ai (aL _ aa rfl (by exact Aa)) ?_))))))))
 refine bP rfl (ai (jP _ _ (rfl:_=[AV.ptr _ _]) (rfl:_=[])) ?_)
 refine ai (bV aa [((4,9),(72,0)),((5,9),(60,0)),((1,8),(84,0)),((2,8),(84,1)),((3,8),(84,2)),((6,8),(84,3)),((5,8),(84,4))] ar (hS) ob tr tr rfl rfl ae ae) ?_
 refine ai (aI _ tU) (ai (co _ rfl pI) (ai (co _ rfl pI) (ai (aC (21,0) aa rfl rfl) (ai (aC (22,0) aa rfl rfl) (bF rfl rfl rfl rfl rfl rfl (bF rfl rfl rfl rfl rfl rfl (aJ (hK11 _ ?_))))))))
 clear hK11;try clear K11
 refine aq ?_
 refine aM (σ':=aD 90 [(10,_),(11,_),(20,_),(21,_),(22,_)] [((10,0),_),((11,0),_),((72,0),_),((84,0),_),((84,1),_),((84,2),_),((84,3),_),((84,4),_),((21,0),_),((22,0),_)] [] []) kp ?_
 refine hZ 5 [87,88,89] [(10,0),(11,0)] [[(10,0),(11,0)],[(11,0)],[],[(11,0)],[]] ae ae rfl (aK rfl) (rfl:_=[_,_,_,_,_]) (rfl:_=[_]) ?_
 refine ap (_,[]) (fun τ=> az _ aa rfl rfl rfl rfl) ?_
 refine fP rfl ?_
 refine ap (_,[]) (fun τ=> az _ aa rfl rfl rfl rfl) ?_
 refine fO rfl ?_
 refine ap (_,[]) (fun τ=> aI _ ca) ?_
 refine fN rfl ?_
 refine ap (_,[((10,0),_)]) (fun τ=> dH _ _ aa rfl (eG rfl (by exact dQ) rfl) rfl rfl (Nat.le_of_ble_eq_true rfl) rfl) ?_
 refine fS rfl ?_
 refine ap (_,[((11,0),_)]) (fun τ=> dH _ _ aa rfl (eG rfl (by exact dQ) rfl) rfl rfl (Nat.le_of_ble_eq_true rfl) rfl) ?_
 refine gk rfl (bm ⟨⟨rfl,by kernel_rfl⟩,?_⟩)
 refine wq rfl (aj (aG ?_))
 exact vK (.inr rfl) rfl (.cellA aa rfl rfl rfl) (.cellA aa rfl rfl rfl) (.tmp ca) (Le.out [((4,8),(72,0)),((5,8),(84,4))] [(84,0),(84,1),(84,2),(84,3)] (.tup rfl (au (.agg rfl (zB (au .sl (au .sl (au .sl (au (fg rfl rfl (by rw [aN,Nat.mul_one]) rfl) lz)))))) (au (.agg rfl (au .v (au .v (au .v (au (fg rfl rfl (kS _ _).symm rfl) (au .v (au .v (au (fg rfl rfl (by rw [aN,Nat.mul_one]) rfl) (au .sl (au (fg rfl rfl (gM _).symm rfl) lz)))))))))) lz))) rfl rfl rfl tr ob)
set_option maxHeartbeats 4000000 in
theorem QQ (s:Ns) (hup:s.up=true) (hv:s.ver=1) (P Q:Pg) (drift:Int) (a:Na) (hcr:a.crash=false) (hh:a.h < 41) (h1:a.draws.length≤1000) (h2:a.keeps.length≤1000) (c:Cz) (R:Ms) (q:Ns×Nr) (n:Nat) (L:List PV)
  (hS:Spec Tryz.prog 81 (aY [jT { s with wait:=a.wait },ii Q, .v (.int .i64 (a.h:Int)), .v (.int .i64 1), .v (.int .i64 3), .v (.int .i64 drift),DD a.names,jF] (pu (fk s a a.h) 0 [] (5,9))) (iW c R q (fk s a a.h) n L)):
  Spec Tryz.prog 45 (ba [jT s,ii P,ii Q, .v (.int .i64 drift),Be a] []) (nY q.1 (DA c q.2 R) (fk s a a.h) n L):=by
 have htl:=iq { s with wait:=a.wait } a a.h hh h1 h2
 refine Spec.ofN Tryz.func45 rfl Tryz.ntmps45 rfl ?_
 refine am (ai (aQ (5,0) _ rfl rfl) (ai (aQ (6,0) _ rfl rfl) (ai (aQ (7,0) _ rfl rfl) (ai (aQ (9,0) _ rfl rfl) (ai (aC (10,0) aa rfl rfl) (ai (aC (11,0) aa rfl rfl) (ai (bp _ kQ) (aj (aq (am ?_))))))))))
 refine bb rfl rfl rfl (Br rfl rfl rfl (ai (cu (r:=false) _ rfl (by rw [hup];rfl)) ?_))
 refine aj (aW rfl rfl (aS (aq (am (bb rfl rfl rfl (cf rfl rfl rfl (gQ rfl rfl (by rw [if_neg (by rw [hcr];exact Bool.false_ne_true)];rfl) ?_)))))))
 refine aj (aW rfl rfl (aS (am (ai (az _ aa rfl rfl rfl rfl) (ai (aC (19,0) aa rfl rfl) (bF rfl rfl rfl rfl rfl rfl (aj (aq (aq ?_)))))))))
 refine aM (σ':=aD 90 [(3,_),(5,_),(7,_),(9,_),(10,_),(11,_),(19,_)] [((5,0),_),((7,0),_),((9,0),_),((10,0),_),((11,0),_),((19,0),_)] [] []) kp ?_
 refine an (bb rfl rfl rfl (cf rfl rfl rfl (kv rfl rfl (by rw [hv];rfl) ?_)))
 refine aj (bK rfl rfl (an (ai (az _ aa rfl rfl rfl rfl) (bF rfl rfl rfl rfl rfl rfl (aj (am (bb rfl rfl rfl (cf rfl rfl rfl (bb rfl rfl rfl (bF rfl rfl rfl rfl rfl rfl ?_))))))))))
 refine aj (am (ai (az _ aa rfl rfl rfl rfl) (ai (az _ aa rfl rfl rfl rfl) (bb rfl rfl rfl (cf rfl rfl rfl (ai (bV aa [((4,8),(72,0))] ar (htl.toI) trivial tr tr rfl rfl ae ae) ?_))))))
 refine wq rfl (aj (aU fun K11 hK11=> ?_))
 refine aM (Le.nilB (72,0) 4 (60,0) 111 7 rfl rfl rfl) ?_
 refine an (ai (az _ aa rfl rfl rfl rfl) (ai (az _ aa rfl rfl rfl rfl) (bb rfl rfl rfl (cf rfl rfl rfl (aX rfl (bb rfl rfl rfl (ai (az _ aa rfl rfl rfl rfl) (ai (aL _ aa rfl (by exact Aa)) ?_))))))))
 refine bP rfl (ai (jP _ _ (rfl:_=[AV.ptr _ _]) (rfl:_=[])) ?_)
 refine ai (bV aa [((4,9),(72,0)),((5,9),(60,0)),((1,8),(84,0)),((2,8),(84,1)),((3,8),(84,2)),((6,8),(84,3)),((5,8),(84,4))] ar (hS) ob tr tr rfl rfl ae ae) ?_
 refine ai (aI _ tU) (ai (co _ rfl pI) (ai (co _ rfl pI) (ai (aC (21,0) aa rfl rfl) (ai (aC (22,0) aa rfl rfl) (bF rfl rfl rfl rfl rfl rfl (bF rfl rfl rfl rfl rfl rfl (aJ (hK11 _ ?_))))))))
 clear hK11;try clear K11
 refine aq ?_
 refine aM (σ':=aD 90 [(10,_),(11,_),(20,_),(21,_),(22,_)] [((10,0),_),((11,0),_),((72,0),_),((84,0),_),((84,1),_),((84,2),_),((84,3),_),((84,4),_),((21,0),_),((22,0),_)] [] []) kp ?_
 refine hZ 5 [87,88,89] [(10,0),(11,0)] [[(10,0),(11,0)],[(11,0)],[],[(11,0)],[]] ae ae rfl (aK rfl) (rfl:_=[_,_,_,_,_]) (rfl:_=[_]) ?_
 refine ap (_,[]) (fun τ=> az _ aa rfl rfl rfl rfl) ?_
 refine fP rfl ?_
 refine ap (_,[]) (fun τ=> az _ aa rfl rfl rfl rfl) ?_
 refine fO rfl ?_
 refine ap (_,[]) (fun τ=> aI _ ca) ?_
 refine fN rfl ?_
 refine ap (_,[((10,0),_)]) (fun τ=> dH _ _ aa rfl (eG rfl (by exact dQ) rfl) rfl rfl (Nat.le_of_ble_eq_true rfl) rfl) ?_
 refine fS rfl ?_
 refine ap (_,[((11,0),_)]) (fun τ=> dH _ _ aa rfl (eG rfl (by exact dQ) rfl) rfl rfl (Nat.le_of_ble_eq_true rfl) rfl) ?_
 refine gk rfl (bm ⟨⟨rfl,by kernel_rfl⟩,?_⟩)
 refine wq rfl (aj (aG ?_))
 exact vK (.inr rfl) rfl (.cellA aa rfl rfl rfl) (.cellA aa rfl rfl rfl) (.tmp ca) (Le.out [((4,8),(72,0)),((5,8),(84,4))] [(84,0),(84,1),(84,2),(84,3)] (.tup rfl (au (.agg rfl (zB (au .sl (au .sl (au .sl (au (fg rfl rfl (by rw [aN,Nat.mul_one]) rfl) lz)))))) (au (.agg rfl (au .v (au .v (au .v (au (fg rfl rfl (kS _ _).symm rfl) (au .v (au .v (au (fg rfl rfl (by rw [aN,Nat.mul_one]) rfl) (au .sl (au (fg rfl rfl (gM _).symm rfl) lz)))))))))) lz))) rfl rfl rfl tr ob)
set_option maxHeartbeats 4000000 in
theorem QY (s:Ns) (hup:s.up=true) (hs:jS s) (ho:jG s.dk) (hc:s.counts.length=41) (hcb: -1000000≤s.counts.getD 40 0∧s.counts.getD 40 0≤1000000) (hep: -1000000≤s.epoch∧s.epoch≤1000000) (P Q:Pg) (drift:Int) (a:Na) (hcr:a.crash=true) (h1:a.draws.length≤1000) (h2:a.keeps.length≤1000)
  (hlk: ∀ i:Nat,i < s.dk.pend.length→tE (fk s a 40) 3 (i:Int) 2 (a.keeps.getD i 0)):
  Spec Tryz.prog 45 (ba [jT s,ii P,ii Q, .v (.int .i64 drift),Be a] []) (nY (la s (keepB s.dk.pend.length a.keeps)) KX (fk s a 40) (0+s.dk.pend.length) ([]++zD (fk s a 40) a.keeps s.dk.pend.length)):=by
 have htl:=iq s a 40 ab h1 h2
 have hcs:=pk s hs ho hc hcb hep (fk s a 40) 0 [] rfl ab a.keeps hlk
 refine Spec.ofN Tryz.func45 rfl Tryz.ntmps45 rfl ?_
 refine am (ai (aQ (5,0) _ rfl rfl) (ai (aQ (6,0) _ rfl rfl) (ai (aQ (7,0) _ rfl rfl) (ai (aQ (9,0) _ rfl rfl) (ai (aC (10,0) aa rfl rfl) (ai (aC (11,0) aa rfl rfl) (ai (bp _ kQ) (aj (aq (am ?_))))))))))
 refine bb rfl rfl rfl (Br rfl rfl rfl (ai (cu (r:=false) _ rfl (by rw [hup];rfl)) ?_))
 refine aj (aW rfl rfl (aS (aq (am (bb rfl rfl rfl (cf rfl rfl rfl (kv rfl rfl (by rw [if_pos hcr];rfl) ?_)))))))
 refine aj (bK rfl rfl (am (ai (az _ aa rfl rfl rfl rfl) (ai (az _ aa rfl rfl rfl rfl) (ai (bV aa [((4,8),(53,0))] ar (htl.toI) trivial tr tr rfl rfl ae ae) ?_)))))
 refine wq rfl (aj (aU fun K7 hK7=> ?_))
 refine aM (Le.nilB (53,0) 4 (60,0) 111 7 rfl rfl rfl) ?_
 refine an (ai (az _ aa rfl rfl rfl rfl) (bP rfl (ai (jP _ _ (rfl:_=[AV.ptr _ _]) (rfl:_=[])) ?_)))
 refine ai (bV aa [((4,9),(53,0)),((5,9),(60,0)),((5,8),(57,0))] ar (hcs) ob tr tr rfl rfl ae ae) ?_
 refine ai (aL _ aa rfl (by exact (rfl:_=some [_,_,_,_,_,_,_,_,_,_,_,_]))) ?_
 refine bP rfl (bF rfl rfl rfl rfl rfl rfl (bF rfl rfl rfl rfl rfl rfl (wq rfl (aJ (hK7 _ ?_)))))
 clear hK7;try clear K7
 exact aG (vK (.inr rfl) rfl (.cellA aa rfl rfl rfl) (.cellA aa rfl rfl rfl) (.tmp ca) (Le.out [((4,8),(53,0)),((5,8),(57,0))] [] (.tup rfl lz) rfl rfl rfl trivial ob))

structure DF (a:Na):Prop where
 ok:Fj a
 nl:a.names.length=9
 d0: ∀ x∈a.draws,0≤x
 k0: ∀ x∈a.keeps,x=0∨x=1
 dl:a.draws.length≤1000
 kl:a.keeps.length≤1000
theorem xf (s:Ns) {a:Na} (h:Nat) (hw:DF a) {q:Int} (hq:0 < q):tE (fk s a h) 2 0 q (a.tick % q):=by
 have hd:=hw.dl
 have hk:=hw.kl
 have:=ip (ll 1 (h:Int) (cQ s h) a.tick a.draws a.keeps) (by rw [nw];omega) 1 (h:Int) (cQ s h) 2 0 q hq
 rwa [yk hw.ok.tk.1] at this
theorem xu (s:Ns) {a:Na} (h:Nat) (hw:DF a) (i:Nat) {q:Int} (hq:0 < q):tE (fk s a h) 1 (i:Int) q (a.draws.getD i 0 % q):=by
 have hd:=hw.dl
 have hk:=hw.kl
 have:=ip (ll 1 (h:Int) (cQ s h) a.tick a.draws a.keeps) (by rw [nw];omega) 1 (h:Int) (cQ s h) 1 (i:Int) q hq
 rwa [yF i hw.d0] at this
theorem Eb (s:Ns) {a:Na} (h:Nat) (hw:DF a) (i:Nat):tE (fk s a h) 3 (i:Int) 2 (a.keeps.getD i 0):=by
 have hd:=hw.dl
 have hk:=hw.kl
 have:=ip (ll 1 (h:Int) (cQ s h) a.tick a.draws a.keeps) (by rw [nw];omega) 1 (h:Int) (cQ s h) 3 (i:Int) 2 ab
 have h0: ∀ x∈a.keeps,0≤x:=fun x hx=> by rcases hw.k0 x hx with h | h <;> omega
 rw [yW i h0] at this
 have h1:a.keeps.getD i 0=0∨a.keeps.getD i 0=1:=by
  by_cases hi:i < a.keeps.length
  ·rw [List.getD_eq_getElem?_getD,List.getElem?_eq_getElem hi];exact hw.k0 _ (List.getElem_mem hi)
  rw [List.getD_eq_getElem?_getD,List.getElem?_eq_none ab];exact .inl rfl
 rwa [show a.keeps.getD i 0 % 2=a.keeps.getD i 0 by omega] at this
def GH (t:Tl) (l:List Qa):List PV:=l.flatMap fun x=> vC t x.kind x.idx x.ar x.n
theorem qU (t:Tl) (drift tick:Int) (asked ans:List Int):px t drift tick++sF t ans asked=GH t (jI drift tick asked ans):=by
 unfold GH jI px sF
 rw [List.flatMap_append]
 congr 1
 ·split
  ·simp
  rfl
 rw [List.flatMap_map]
theorem pq (drift tick:Int) (asked ans:List Int):(jI drift tick asked ans).length=pB drift+asked.length:=by
 unfold jI pB
 rw [List.length_append,List.length_map,List.length_range]
 congr 1
 split <;> rfl

structure ol (P:Pg) (tm:Int):Prop where
 pg:mt P
 cl:P.c.length≤1000000
 tc:TmC P.c tm=true
abbrev hN (a:Na) (s:Ns):Nat:=if s.up=false then 0 else if a.crash=true then 40 else a.h
abbrev He (P Q:Pg) (drift:Int) (a:Na) (s:Ns):AV:=
 if s.up=false then DA ⟨1,((0:Nat):Int),s.counts.getD 0 0⟩ (dt P Q drift a s).2 (gL (cO s (bQ P Q s) (gT s)) (bQ P Q s) 0 1 3 drift a.tick (List.replicate 9 0) a.draws)
 else if a.crash=true then KX
 else DA ⟨1,(a.h:Int),s.counts.getD a.h 0⟩ (dt P Q drift a s).2 (gL { s with wait:=a.wait } (bQ P Q s) a.h 1 3 drift a.tick a.names a.draws)
theorem qQ (s:Ns) (P:Pg) (h:Nat) (self nodes drift tick:Int) (names ans:List Int):(gL s P h self nodes drift tick names ans).asked=(gy s P h self nodes drift tick names ans).asked:=
 (sB P h (dW names self nodes (cJ s.clock drift tick)) (s.dk.view++s.vol) ans).2.2
section
variable {P Q:Pg} {tp tq:Int} {i:Nat} {s:Ns} {drift:Int} {a:Na}
theorem uH (hP:ol P tp) (hQ:ol Q tq) (hi:i≤1000) (hs:Sq P Q i s) (hsm:jS s) (hup:s.up=false) (hdr:0≤drift∧drift≤3) (hw:DF a):
  Spec Tryz.prog 45 (ba [jT s,ii P,ii Q, .v (.int .i64 drift),Be a] []) (nY (dt P Q drift a s).1 (He P Q drift a s) (fk s a (hN a s)) (jC P Q drift a s).length (GH (fk s a (hN a s)) (jC P Q drift a s))):=by
 obtain ⟨⟨m,hdk⟩,_,_⟩:=hs.dn hup
 have hin:jG s.dk:=fun w hw=> by
  obtain ⟨b1,b2,_⟩:=hdk.pr w hw
  have:=hdk.len
  exact ⟨b1,by omega⟩
 have hck:=hs.ck
 have hep:=hs.ep
 have hcb: ∀ k, -1000000≤s.counts.getD k 0∧s.counts.getD k 0≤1000000:=fun k=> by have:=hs.ct k;omega
 have htk:=lq (clock:=s.clock) (tick:=a.tick) hdr
 have e1:dt P Q drift a s=lb s (bQ P Q s) (gT s) 1 3 drift a.tick a.draws:=by unfold dt;rw [if_pos hup]
 have e2:jC P Q drift a s=jI drift a.tick (gy (cO s (bQ P Q s) (gT s)) (bQ P Q s) 0 1 3 drift a.tick (List.replicate 9 0) a.draws).asked a.draws:=by unfold jC;rw [if_pos hup]
 have e3:He P Q drift a s=DA ⟨1,((0:Nat):Int),s.counts.getD 0 0⟩ (dt P Q drift a s).2 (gL (cO s (bQ P Q s) (gT s)) (bQ P Q s) 0 1 3 drift a.tick (List.replicate 9 0) a.draws):=if_pos hup
 have e4:hN a s=0:=if_pos hup
 rw [e3,e4,e2,← qQ,pq,← qU,e1]
 have key: ∀ (X:Pg) (tm:Int) (v:Int),ol X tm→Spec Tryz.prog 56 (aY [jT s,ii X, .v (.int .i64 v), .v (.int .i64 1), .v (.int .i64 3), .v (.int .i64 drift),jF] (pu (fk s a 0) 0 [] (5,9)))
   (iW ⟨1,((0:Nat):Int),s.counts.getD 0 0⟩ (gL (cO s X v) X 0 1 3 drift a.tick (List.replicate 9 0) a.draws) (lb s X v 1 3 drift a.tick a.draws) (fk s a 0) (pB drift+(gL (cO s X v) X 0 1 3 drift a.tick (List.replicate 9 0) a.draws).asked.length) (px (fk s a 0) drift a.tick++sF (fk s a 0) a.draws (gL (cO s X v) X 0 1 3 drift a.tick (List.replicate 9 0) a.draws).asked)):=fun X tm v hX=>
  xn X tm s hsm hin v (uE hX.pg hX.cl hX.tc hdk hs.cl hcb ab v) 1 3 drift a.tick a.draws (dc ab) (dc ab) (by unfold Rg;omega) ab (fk s a 0) (fun h=> xf s 0 hw ab) (fun j k _ h2 _=> xu s 0 hw j ab) _ rfl
 by_cases he:s.epoch % 2=1
 ·have hp:bQ P Q s=Q:=by unfold bQ;rw [if_neg (by rw [hup];exact Bool.false_ne_true),if_pos he]
  have hv:gT s=1:=if_pos he
  rw [hp,hv]
  exact PJ s hup hep.1 he P Q drift a hw.dl hw.kl _ _ _ _ _ (key Q tq 1 hQ)
 have hp:bQ P Q s=P:=by unfold bQ;rw [if_neg (by rw [hup];exact Bool.false_ne_true),if_neg he]
 have hv:gT s=0:=if_neg he
 rw [hp,hv]
 exact QX s hup hep.1 ab P Q drift a hw.dl hw.kl _ _ _ _ _ (key P tp 0 hP)
theorem yi (hP:ol P tp) (hQ:ol Q tq) (hi:i≤1000) (hs:Sq P Q i s) (hup:s.up=true) (htl:qV (if s.ver=1 then tq else tp) s.timers) (hdr:0≤drift∧drift≤3) (hw:DF a) (hcr:a.crash=false):
  Spec Tryz.prog 45 (ba [jT s,ii P,ii Q, .v (.int .i64 drift),Be a] []) (nY (dt P Q drift a s).1 (He P Q drift a s) (fk s a (hN a s)) (jC P Q drift a s).length (GH (fk s a (hN a s)) (jC P Q drift a s))):=by
 obtain ⟨hns,hver⟩:=hs.up hup
 have hck:=hs.ck
 have hcb: ∀ k, -1000000≤s.counts.getD k 0∧s.counts.getD k 0≤1000000:=fun k=> by have:=hs.ct k;omega
 have htk:=lq (clock:=s.clock) (tick:=a.tick) hdr
 have hnf: ¬ s.up=false:=by rw [hup];exact fun h=> by cases h
 have hnc: ¬ a.crash=true:=by rw [hcr];exact Bool.false_ne_true
 have hah:=hw.ok.h
 have e1:dt P Q drift a s=cU { s with wait:=a.wait } (bQ P Q s) a.h 1 3 drift a.tick a.names a.draws:=by unfold dt;rw [if_neg hnf,if_neg hnc]
 have e2:jC P Q drift a s=jI drift a.tick (gy { s with wait:=a.wait } (bQ P Q s) a.h 1 3 drift a.tick a.names a.draws).asked a.draws:=by unfold jC;rw [if_neg hnf,if_neg hnc]
 have e3:He P Q drift a s=DA ⟨1,(a.h:Int),s.counts.getD a.h 0⟩ (dt P Q drift a s).2 (gL { s with wait:=a.wait } (bQ P Q s) a.h 1 3 drift a.tick a.names a.draws):=(if_neg hnf).trans (if_neg hnc)
 have e4:hN a s=a.h:=(if_neg hnf).trans (if_neg hnc)
 rw [e3,e4,e2,← qQ,pq,← qU,e1]
 have key: ∀ (X:Pg) (tm:Int),ol X tm→re X s→qV tm s.timers→Spec Tryz.prog 81 (aY [jT { s with wait:=a.wait },ii X, .v (.int .i64 (a.h:Int)), .v (.int .i64 1), .v (.int .i64 3), .v (.int .i64 drift),DD a.names,jF] (pu (fk s a a.h) 0 [] (5,9)))
   (iW ⟨1,(a.h:Int),s.counts.getD a.h 0⟩ (gL { s with wait:=a.wait } X a.h 1 3 drift a.tick a.names a.draws) (cU { s with wait:=a.wait } X a.h 1 3 drift a.tick a.names a.draws) (fk s a a.h) (pB drift+(gL { s with wait:=a.wait } X a.h 1 3 drift a.tick a.names a.draws).asked.length) (px (fk s a a.h) drift a.tick++sF (fk s a a.h) a.draws (gL { s with wait:=a.wait } X a.h 1 3 drift a.tick a.names a.draws).asked)):=fun X tm hX hN htm=>
  ui X tm { s with wait:=a.wait } ⟨hX.pg,hX.cl,hX.tc,⟨hN.dk,hN.vl,hN.vr,hN.tm,hN.ct⟩,htm,hcb,by show -1000000≤s.clock∧s.clock≤1000000;omega⟩ a.h hah 1 3 drift a.tick a.names a.draws hw.nl hw.ok.nm (dc ab) (dc ab) (by show Rg (cJ s.clock drift a.tick);unfold Rg;omega) ab (fk s a a.h) (fun h=> xf s a.h hw ab) (fun j k _ h2 _=> xu s a.h hw j ab) _ rfl
 by_cases hv:s.ver=1
 ·have hp:bQ P Q s=Q:=by unfold bQ;rw [if_pos hup,if_pos hv]
  rw [if_pos hv] at hns htl
  rw [hp]
  exact QQ s hup hv P Q drift a hcr ab hw.dl hw.kl _ _ _ _ _ (key Q tq hQ hns htl)
 have hp:bQ P Q s=P:=by unfold bQ;rw [if_pos hup,if_neg hv]
 rw [if_neg hv] at hns htl
 rw [hp]
 exact PN s hup hv P Q drift a hcr ab hw.dl hw.kl _ _ _ _ _ (key P tp hP hns htl)
theorem zt (t:Tl) (k:Nat) (keeps:List Int):GH t (oS k keeps)=zD t keeps k:=by
 unfold GH oS zD
 rw [List.flatMap_map]
theorem sG (hi:i≤1000) (hs:Sq P Q i s) (hsm:jS s) (hup:s.up=true) (hw:DF a) (hcr:a.crash=true):
  Spec Tryz.prog 45 (ba [jT s,ii P,ii Q, .v (.int .i64 drift),Be a] []) (nY (dt P Q drift a s).1 (He P Q drift a s) (fk s a (hN a s)) (jC P Q drift a s).length (GH (fk s a (hN a s)) (jC P Q drift a s))):=by
 obtain ⟨hns,hver⟩:=hs.up hup
 have hep:=hs.ep
 have hcb:=hs.ct 40
 have hnf: ¬ s.up=false:=by rw [hup];exact fun h=> by cases h
 have e1:dt P Q drift a s=(la s (keepB s.dk.pend.length a.keeps),{}):=by unfold dt;rw [if_neg hnf,if_pos hcr]
 have e2:jC P Q drift a s=oS s.dk.pend.length a.keeps:=by unfold jC;rw [if_neg hnf,if_pos hcr]
 have e3:He P Q drift a s=KX:=(if_neg hnf).trans (if_pos hcr)
 have e4:hN a s=40:=(if_neg hnf).trans (if_pos hcr)
 have hin:jG s.dk:=fun w hw=> by
  obtain ⟨b1,b2,_⟩:=hns.dk.pr w hw
  have:=hns.dk.len
  exact ⟨b1,by omega⟩
 have h:=QY s hup hsm hin hs.cl ab ab P Q drift a hcr hw.dl hw.kl (fun j _=> Eb s 40 hw j)
 rw [Nat.zero_add,List.nil_append] at h
 rw [e3,e4,e2,e1,zt,show (oS s.dk.pend.length a.keeps).length=s.dk.pend.length by simp [oS]]
 exact h
end
end Go.Proofs.YtmjnackchaahbaaGreat

namespace Go.Proofs.YtmjnackchaahbaaGreat

theorem uq {t:Int} (ht:0≤t∧t < 8): ∀ (l:List Ac) (q:Ns×Nr),(∀ a∈l,xz t a)→qV t q.1.timers→qV t (l.foldl ea q).1.timers
 | [],_,_,h=> h
 | a::l,q,ha,h=> uq ht l (ea q a) (fun b hb=> ha b (List.mem_cons_of_mem _ hb)) (tV ht (ha a List.mem_cons_self) h)
theorem jL {P:Pg} {t:Int} (hc:TmC P.c t=true) (s:Ns) (h:qV t s.timers) (k:Nat) (self nodes drift tick:Int) (names ans:List Int):qV t (cU s P k self nodes drift tick names ans).1.timers:=
 uq (TmC.rg hc) _ _ (fun a ha=> uv hc _ _ _ _ a ha) h
structure Jc (P Q:Pg) (tp tq:Int) (i:Nat) (s:Ns):Prop where
 sq:Sq P Q i s
 sm:jS s
 tl:s.up=true→qV (if s.ver=1 then tq else tp) s.timers
theorem IX (P Q:Pg) (tp tq:Int):Jc P Q tp tq 0 {}:=⟨Im P Q,⟨Nat.zero_le _,Nat.zero_le _,Nat.zero_le _,Nat.zero_le _⟩,fun h=> by simp at h⟩
theorem GG {X:Pg} {t:Int} {s:Ns} (hX:mt X) (h:re X s) (ht:qV t s.timers):jS s:=by
 have h1:=h.dk.len
 have h2:=h.dk.pn
 have h3:=h.vl
 have h4:=hX.nv
 refine ⟨by omega,by omega,by omega,?_⟩
 rcases ht with ht | ht <;> rw [ht] <;> simp
theorem JB {P Q:Pg} {tp tq:Int} (hP:ol P tp) (hQ:ol Q tq) {drift:Int} (hd:0≤drift∧drift≤3) {a:Na} (ha:Fj a) {i:Nat} (hi:i≤100) {s:Ns} (h:Jc P Q tp tq i s):Jc P Q tp tq (i+1) (dt P Q drift a s).1:=by
 have hn:=Gw hP.pg hQ.pg hd ha hi h.sq
 have up:(dt P Q drift a s).1.up=true→qV (if (dt P Q drift a s).1.ver=1 then tq else tp) (dt P Q drift a s).1.timers:=by
  unfold dt
  split
  ·rename_i hup
   intro _
   show qV (if (cU (cO s (bQ P Q s) (gT s)) (bQ P Q s) 0 1 3 drift a.tick (List.replicate 9 0) a.draws).1.ver=1 then tq else tp) (cU (cO s (bQ P Q s) (gT s)) (bQ P Q s) 0 1 3 drift a.tick (List.replicate 9 0) a.draws).1.timers
   rw [(eH (cO s (bQ P Q s) (gT s)) (bQ P Q s) 0 1 3 drift a.tick (List.replicate 9 0) a.draws).2.1]
   show qV (if gT s=1 then tq else tp) _
   have hnt: ¬ s.up=true:=by rw [hup];exact Bool.false_ne_true
   by_cases he:s.epoch % 2=1
   ·rw [show gT s=1 from if_pos he,show bQ P Q s=Q by unfold bQ;rw [if_neg hnt,if_pos he],if_pos rfl]
    exact jL hQ.tc _ (.inl rfl) _ _ _ _ _ _ _
   rw [show gT s=0 from if_neg he,show bQ P Q s=P by unfold bQ;rw [if_neg hnt,if_neg he],if_neg ah]
   exact jL hP.tc _ (.inl rfl) _ _ _ _ _ _ _
  rename_i hup
  split
  ·intro hx;cases hx
  intro _
  have hup:s.up=true:=by simpa using hup
  have htl:=h.tl hup
  rw [(eH { s with wait:=a.wait } (bQ P Q s) a.h 1 3 drift a.tick a.names a.draws).2.1]
  show qV (if s.ver=1 then tq else tp) _
  by_cases hv:s.ver=1
  ·rw [if_pos hv] at htl ⊢
   rw [show bQ P Q s=Q by unfold bQ;rw [if_pos hup,if_pos hv]]
   exact jL hQ.tc { s with wait:=a.wait } htl _ _ _ _ _ _ _
  rw [if_neg hv] at htl ⊢
  rw [show bQ P Q s=P by unfold bQ;rw [if_pos hup,if_neg hv]]
  exact jL hP.tc { s with wait:=a.wait } htl _ _ _ _ _ _ _
 refine ⟨hn,?_,up⟩
 by_cases hu:(dt P Q drift a s).1.up=true
 ·have h1:=(hn.up hu).1
  have h2:=up hu
  by_cases hv:(dt P Q drift a s).1.ver=1
  ·rw [if_pos hv] at h1 h2;exact GG hQ.pg h1 h2
  rw [if_neg hv] at h1 h2;exact GG hP.pg h1 h2
 have hs:=h.sm
 unfold dt at hu ⊢
 split at hu
 ·exact absurd ((eH (cO s (bQ P Q s) (gT s)) (bQ P Q s) 0 1 3 drift a.tick (List.replicate 9 0) a.draws).1) hu
 rename_i hup
 rw [if_neg hup]
 split at hu
 ·rename_i hc
  rw [if_pos hc]
  refine ⟨?_,Nat.zero_le _,?_,Nat.zero_le _⟩
  ·show (pb s.dk.cells _).length≤1000
   rw [gm];exact hs.c
  show (List.replicate s.vol.length (0:Int)).length≤1000
  rw [List.length_replicate];exact hs.v
 exact absurd ((eH { s with wait:=a.wait } (bQ P Q s) a.h 1 3 drift a.tick a.names a.draws).1.trans (show s.up=true by simpa using hup)) hu

theorem FD {n:Int} (h0:0≤n):DF (iC n):=by
 obtain ⟨h1,h2,h3,h4,_,h6⟩:=BU h0
 refine ⟨h1,h6,h4,fun x hx=> ?_,by omega,by omega⟩
 have hx:x∈[n / 2 % 2,n / 4 % 2,n / 8 % 2,n / 16 % 2]:=hx
 simp only [List.mem_cons,List.not_mem_nil,or_false] at hx
 omega
theorem Em (s:Ns) (hup:s.up=false) (P Q:Pg):Spec Tryz.prog 51 (ba [jT s,ii P,ii Q] []) (aO (.v (.bool true)) []):=by
 refine Spec.ofN Tryz.func51 rfl Tryz.ntmps51 rfl ?_
 refine am (ai (aQ (3,0) _ rfl rfl) (ai (aQ (4,0) _ rfl rfl) (ai (aQ (5,0) _ rfl rfl) (cr rfl (aj (aq (am (bb rfl rfl rfl (Br rfl rfl rfl (ai (cu (r:=true) _ rfl (by rw [hup];rfl)) ?_))))))))))
 exact aj (bK rfl rfl (am (cr rfl (aj (aG (fu rfl rfl))))))
theorem BW (s:Ns) (hup:s.up=true) (hv:s.ver≠1) (P Q:Pg) (hd:s.dk.cells.length=P.d) (hl:s.vol.length=P.v):Spec Tryz.prog 51 (ba [jT s,ii P,ii Q] []) (aO (.v (.bool true)) []):=by
 refine Spec.ofN Tryz.func51 rfl Tryz.ntmps51 rfl ?_
 refine am (ai (aQ (3,0) _ rfl rfl) (ai (aQ (4,0) _ rfl rfl) (ai (aQ (5,0) _ rfl rfl) (cr rfl (aj (aq (am (bb rfl rfl rfl (Br rfl rfl rfl (ai (cu (r:=false) _ rfl (by rw [hup];rfl)) ?_))))))))))
 refine aj (aW rfl rfl (aS (am (ai (az _ aa rfl rfl rfl rfl) (ai (aC (7,0) aa rfl rfl) (bF rfl rfl rfl rfl rfl rfl (aj (aq (am (bb rfl rfl rfl ?_))))))))))
 refine cf rfl rfl rfl (gQ rfl rfl (beq_eq_false_iff_ne.2 hv) ?_)
 refine aj (aW rfl rfl (aS (am (bb rfl rfl rfl (bb rfl rfl rfl (eZ rfl rfl rfl (ai (bn _ aa rfl) (bb rfl rfl rfl (cf rfl rfl rfl (kv rfl rfl (by rw [hd];exact beq_self_eq_true _) ?_))))))))))
 refine cL rfl (ax rfl rfl (aA _ aa rfl rfl rfl) (ax rfl rfl (aF _ aa rfl rfl eF) (ax rfl rfl (bn _ aa rfl) (ax rfl rfl (aA _ aa rfl rfl rfl) (ax rfl rfl (aF _ aa rfl rfl ei) (ax rfl rfl (bC (r:=true) _ _ rfl rfl (by rw [hl];exact beq_self_eq_true _)) ?_))))))
 exact ai (aE _ _ _ rfl bR) (cr rfl (aj (aG (fu rfl rfl))))
theorem IR (s:Ns) (hup:s.up=true) (hv:s.ver=1) (P Q:Pg) (hd:s.dk.cells.length=Q.d) (hl:s.vol.length=Q.v):Spec Tryz.prog 51 (ba [jT s,ii P,ii Q] []) (aO (.v (.bool true)) []):=by
 refine Spec.ofN Tryz.func51 rfl Tryz.ntmps51 rfl ?_
 refine am (ai (aQ (3,0) _ rfl rfl) (ai (aQ (4,0) _ rfl rfl) (ai (aQ (5,0) _ rfl rfl) (cr rfl (aj (aq (am (bb rfl rfl rfl (Br rfl rfl rfl (ai (cu (r:=false) _ rfl (by rw [hup];rfl)) ?_))))))))))
 refine aj (aW rfl rfl (aS (am (ai (az _ aa rfl rfl rfl rfl) (ai (aC (7,0) aa rfl rfl) (bF rfl rfl rfl rfl rfl rfl (aj (aq (am (bb rfl rfl rfl ?_))))))))))
 refine cf rfl rfl rfl (kv rfl rfl (by rw [hv];rfl) ?_)
 refine aj (bK rfl rfl (an (ai (az _ aa rfl rfl rfl rfl) (bF rfl rfl rfl rfl rfl rfl (aj (aq ?_))))))
 refine aM (σ':=aD 31 [(3,_),(7,_)] [((3,0),_),((7,0),_)] [] []) kp ?_
 refine an (bb rfl rfl rfl (bb rfl rfl rfl (eZ rfl rfl rfl (ai (bn _ aa rfl) (bb rfl rfl rfl (cf rfl rfl rfl (kv rfl rfl (by rw [hd];exact beq_self_eq_true _) ?_)))))))
 refine cL rfl (ax rfl rfl (aA _ aa rfl rfl rfl) (ax rfl rfl (aF _ aa rfl rfl eF) (ax rfl rfl (bn _ aa rfl) (ax rfl rfl (aA _ aa rfl rfl rfl) (ax rfl rfl (aF _ aa rfl rfl ei) (ax rfl rfl (bC (r:=true) _ _ rfl rfl (by rw [hl];exact beq_self_eq_true _)) ?_))))))
 exact ai (aE _ _ _ rfl bR) (cr rfl (aj (aG (fu rfl rfl))))

abbrev Je (n:Int):Nat:=(dx n 12).toNat
def My (n:Int):Pg:=⟨bS (onss.getD (Je n) []) 0,bY (onss.getD (Je n) []),(durs.getD (Je n) []).length,(vols.getD (Je n) []).length⟩
theorem Dr (n:Int) (h: -9223372036854775808≤n∧n≤9223372036854775807):Spec Tryz.prog 39 (ba [.v (.int .i64 n)] []) (aO (ii (My n)) []):=sQ n h.1 h.2
def NV (n:Int):Int:=if Je n=6 then 1 else 0
theorem Kd {d v:List Tx} {ons:List (Nat×Bk)} (U:UOk d v ons) {tm:Int} (ht:TmC (bS ons 0) tm=true):ol ⟨bS ons 0,bY ons,d.length,v.length⟩ tm where
 pg:=by
  have hl:(d++v).length=d.length+v.length:=List.length_append
  refine ⟨⟨xC ons,by show Good _ (d.length+v.length) _ _ _ _;rw [← hl];exact U.good,fun h=> ?_⟩,by show d.length+v.length≤16;rw [← hl];exact U.len⟩
  rcases wJ ons h with e | ⟨e,_,e2,e3,e4⟩
  ·exact .inl (by show (nU (ko ons 0)).getD h (-1) < 0;omega)
  have e5:bY ons h=(e:Int):=e2
  exact .inr ⟨by show 0≤bY ons h;omega,by show bY ons h < _;rw [e5];exact Int.ofNat_lt.2 e3,by show xC ons (bY ons h).toNat=0;rw [e5,Int.toNat_natCast];exact e4⟩
 cl:=U.c
 tc:=ht
theorem Me (k:Nat) (h:k < 12):TmC (bS (onss.getD k []) 0) (if k=6 then 1 else 0)=true:=by
 rcases (show k=0∨k=1∨k=2∨k=3∨k=4∨k=5∨k=6∨k=7∨k=8∨k=9∨k=10∨k=11 by omega) with rfl | rfl | rfl | rfl | rfl | rfl | rfl | rfl | rfl | rfl | rfl | rfl <;> kernel_rfl
theorem Is (n:Int):ol (My n) (NV n):=by
 have hlo:=gZ n 12 ab
 have hhi:=jj n 12 ab
 have hk:Je n < 12:=by show (dx n 12).toNat < 12;omega
 exact Kd (Jz _ hk).1.toUOk (Me _ hk)
abbrev CM (l:List Int) (k:Nat):Na:=iC (dx (l.getD k 0) 100000000)
theorem HT (l:List Int) (k:Nat):DF (CM l k):=FD (gZ _ _ ab)
def Ju (a:Na) (s:Ns):Cz:=if s.up=false then ⟨1,((0:Nat):Int),s.counts.getD 0 0⟩ else if a.crash=true then ⟨0,0,0⟩ else ⟨1,(a.h:Int),s.counts.getD a.h 0⟩
def KT (P Q:Pg) (dr:Int) (a:Na) (s:Ns):Ms:=if s.up=false then gL (cO s (bQ P Q s) (gT s)) (bQ P Q s) 0 1 3 dr a.tick (List.replicate 9 0) a.draws else if a.crash=true then { vars:=[],pc:=0,fin:=true } else gL { s with wait:=a.wait } (bQ P Q s) a.h 1 3 dr a.tick a.names a.draws
theorem Ih (P Q:Pg) (dr:Int) (a:Na) (s:Ns):He P Q dr a s=DA (Ju a s) (dt P Q dr a s).2 (KT P Q dr a s):=by
 unfold Ju KT
 by_cases hu:s.up=false
 ·rw [if_pos hu,if_pos hu]
  exact if_pos hu
 rw [if_neg hu,if_neg hu]
 by_cases hc:a.crash=true
 ·rw [if_pos hc,if_pos hc]
  refine ((if_neg hu).trans (if_pos hc)).trans ?_
  have e1:dt P Q dr a s=(la s (keepB s.dk.pend.length a.keeps),{}):=by unfold dt;rw [if_neg hu,if_pos hc]
  have e2:fz (kC [])=[]:=by simp [fz,kC]
  rw [e1]
  show KX=AV.agg [.v (.int .i64 0), .v (.int .i64 0), .v (.int .i64 0), .sl 0 (ym ⟨0,0,0⟩ []), .v (.bool false), .v (.int .i64 0), .sl 0 (cp []), .sl 0 (cp []), .sl 0 (vG []), .v (.int .i64 0), .v (.bool false), .sl (fz (kC [])).length (cp (fz (kC [])))]
  rw [e2];rfl
 rw [if_neg hc,if_neg hc]
 exact (if_neg hu).trans (if_neg hc)
theorem ID {P Q:Pg} {tp tq dr:Int} (hP:ol P tp) (hQ:ol Q tq) (hd:0≤dr∧dr≤3) {i:Nat} (hi:i≤1000) {s:Ns} (hs:Jc P Q tp tq i s) {a:Na} (hw:DF a):
  Spec Tryz.prog 45 (ba [jT s,ii P,ii Q, .v (.int .i64 dr),Be a] []) (nY (dt P Q dr a s).1 (DA (Ju a s) (dt P Q dr a s).2 (KT P Q dr a s)) (fk s a (hN a s)) (jC P Q dr a s).length (GH (fk s a (hN a s)) (jC P Q dr a s))):=by
 rw [← Ih]
 by_cases hu:s.up=true
 ·by_cases hc:a.crash=true
  ·exact sG hi hs.sq hs.sm hu hw hc
  exact yi hP hQ hi hs.sq hu (hs.tl hu) hd hw (by simpa using hc)
 exact uH hP hQ hi hs.sq hs.sm (by simpa using hu) hd hw
theorem HH {P Q:Pg} {tp tq:Int} {i:Nat} {s:Ns} (hs:Jc P Q tp tq i s):Spec Tryz.prog 51 (ba [jT s,ii P,ii Q] []) (aO (.v (.bool true)) []):=by
 by_cases hu:s.up=true
 ·obtain ⟨h,_⟩:=hs.sq.up hu
  by_cases hv:s.ver=1
  ·rw [if_pos hv] at h
   exact IR s hu hv P Q h.dk.len h.vl
  rw [if_neg hv] at h
  exact BW s hu hv P Q h.dk.len h.vl
 exact Em s (by simpa using hu) P Q
theorem JS {a:Na} (hah:a.h < 40) (s:Ns):hN a s < 41:=by
 show (if s.up=false then 0 else if a.crash=true then 40 else a.h) < 41
 split
 ·omega
 split <;> omega
theorem Cj (P Q:Pg) {dr:Int} (hd:0≤dr∧dr≤3) (a:Na) (s:Ns) (hah:a.h < 40):(dt P Q dr a s).1.counts=s.counts.set (hN a s) (s.counts.getD (hN a s) 0+1)∧
  (hN a s=40∧(dt P Q dr a s).1.clock=s.clock∨hN a s < 40∧s.clock+1≤(dt P Q dr a s).1.clock∧(dt P Q dr a s).1.clock≤s.clock+1+dr):=by
 have htk:=lq (clock:=s.clock) (tick:=a.tick) hd
 by_cases hu:s.up=false
 ·have e1:dt P Q dr a s=lb s (bQ P Q s) (gT s) 1 3 dr a.tick a.draws:=by unfold dt;rw [if_pos hu]
  rw [e1,show hN a s=0 from if_pos hu]
  obtain ⟨_,_,_,k4,k5⟩:=eH (cO s (bQ P Q s) (gT s)) (bQ P Q s) 0 1 3 dr a.tick (List.replicate 9 0) a.draws
  unfold lb
  rw [k4,k5]
  exact ⟨rfl, .inr ⟨by omega,htk⟩⟩
 by_cases hc:a.crash=true
 ·have e1:dt P Q dr a s=(la s (keepB s.dk.pend.length a.keeps),{}):=by unfold dt;rw [if_neg hu,if_pos hc]
  rw [e1,show hN a s=40 from (if_neg hu).trans (if_pos hc)]
  exact ⟨rfl, .inl ⟨rfl,rfl⟩⟩
 have e1:dt P Q dr a s=cU { s with wait:=a.wait } (bQ P Q s) a.h 1 3 dr a.tick a.names a.draws:=by unfold dt;rw [if_neg hu,if_neg hc]
 rw [e1,show hN a s=a.h from (if_neg hu).trans (if_neg hc)]
 obtain ⟨_,_,_,k4,k5⟩:=eH { s with wait:=a.wait } (bQ P Q s) a.h 1 3 dr a.tick a.names a.draws
 rw [k4,k5]
 exact ⟨rfl, .inr ⟨hah,htk⟩⟩

def eP (h k:Nat):Int:=if k < h then -1 else 0
theorem IW (h:Nat):li (eP h) h (-1)=eP (h+1):=by
 funext k
 unfold li eP
 by_cases h1:k=h
 ·rw [if_pos h1,if_pos ab]
 rw [if_neg h1]
 by_cases h2:k < h
 ·rw [if_pos h2,if_pos ab]
 rw [if_neg h2,if_neg ab]
def P13:Pg:=⟨[{ op:= .push,n:=5 },{ op:= .setVar,n:=0 },{ op:= .stop,n:=0 }],li (eP 40) 10 0,0,1⟩
theorem zZ:Spec Tryz.prog 85 (ba [] []) (aO (ii P13) []):=by
 refine Spec.ofN Tryz.func85 rfl Tryz.ntmps85 rfl ?_
 refine am (ai (aC (0,0) aa rfl rfl) (aj (am (ai (aL _ aa rfl (by exact eS)) ?_))))
 refine ai (aL _ aa rfl (by exact eS)) ?_
 refine ai (aL _ aa rfl (by exact eS)) ?_
 refine ai (bg _ _ aa rfl ag (by (simp <;> rfl)) ah rfl) ?_
 refine ai (aL _ aa rfl (by exact FA)) ?_
 refine ai (aC (1,0) aa rfl rfl) (bF rfl rfl rfl rfl rfl rfl (aj (aU fun K3 hK3=> ?_)))
 refine am (be rfl (aj (ay ?_)))
 refine bq (α:=Nat) (fun q=> q≤40) 18 [(0,_),(1,_)] [((0,0),_)] (fun q=> [(2, .v (.int .i64 (q:Int)))]) (fun q=> [((1,0), .box 26 [.sl 3 (inl P13.c), .v (.int .i64 (eP q 0)), .v (.int .i64 (eP q 1)), .v (.int .i64 (eP q 2)), .v (.int .i64 (eP q 3)), .v (.int .i64 (eP q 4)), .v (.int .i64 (eP q 5)), .v (.int .i64 (eP q 6)), .v (.int .i64 (eP q 7)), .v (.int .i64 (eP q 8)), .v (.int .i64 (eP q 9)), .v (.int .i64 (eP q 10)), .v (.int .i64 (eP q 11)), .v (.int .i64 (eP q 12)), .v (.int .i64 (eP q 13)), .v (.int .i64 (eP q 14)), .v (.int .i64 (eP q 15)), .v (.int .i64 (eP q 16)), .v (.int .i64 (eP q 17)), .v (.int .i64 (eP q 18)), .v (.int .i64 (eP q 19)), .v (.int .i64 (eP q 20)), .v (.int .i64 (eP q 21)), .v (.int .i64 (eP q 22)), .v (.int .i64 (eP q 23)), .v (.int .i64 (eP q 24)), .v (.int .i64 (eP q 25)), .v (.int .i64 (eP q 26)), .v (.int .i64 (eP q 27)), .v (.int .i64 (eP q 28)), .v (.int .i64 (eP q 29)), .v (.int .i64 (eP q 30)), .v (.int .i64 (eP q 31)), .v (.int .i64 (eP q 32)), .v (.int .i64 (eP q 33)), .v (.int .i64 (eP q 34)), .v (.int .i64 (eP q 35)), .v (.int .i64 (eP q 36)), .v (.int .i64 (eP q 37)), .v (.int .i64 (eP q 38)), .v (.int .i64 (eP q 39)), .v (.int .i64 0), .v (.int .i64 1)])]) [] [] (fun q=> 40 - q) 0 ?_ (by
  refine Le.mkJ [] [] rfl ?_ ?_ trivial trivial ?_
  ·exact ⟨(iP rfl),(iP rfl),(cm ag),trivial⟩
  ·exact ⟨(ci rfl rfl rfl),(fi rfl rfl rfl rfl lz),trivial⟩
  kernel_rfl) ?_
 ·omega
 intro q hq
 refine aU fun K5 hK5=> ?_
 refine am (aX rfl (ai (bl _ _ rfl rfl rfl) (aj (aR rfl (fun hc9=> ?_) (fun hc9=> ?_)))))
 ·skip
  refine bs (hK5 _ ?_)
  clear hK5;try clear K5
  refine aq (ay (an (aX rfl (bb rfl rfl rfl (ai (da _ _ aa rfl rfl rfl q rfl ab (by exact congrArg (fun z=> 0+1+z) (Nat.mul_one q))) ?_)))))
  refine ai (dH _ _ aa rfl rfl rfl rfl (show 0+1+q+1≤43 by omega) ((congrArg (fun z=> fW (Hf (.sl 3 (inl P13.c)) (eP q) 0 1) z [.v (.int .i64 (-1))]) ab).trans ((sW _ _ _ _ q ab _).trans (by rw [IW])))) ?_
  refine eg (an (aX rfl (ai (aZ _ _ rfl rfl (bE ab)) ?_)))
  refine be rfl (aJ (⟨q+1,?_,?_,?_⟩))
  ·omega
  ·skip
   refine Le.mkJ [] [] rfl ?_ ?_ trivial trivial ?_
   ·exact ⟨(iP rfl),(iP rfl),(cm ag),trivial⟩
   ·exact ⟨(ci rfl rfl rfl),(fi rfl rfl rfl rfl lz),trivial⟩
   kernel_rfl
  omega
 obtain rfl:q=40:=by omega
 refine bA (id (hK3 _ ?_))
 clear hK3;try clear K3
 refine am (bb rfl rfl rfl (ai (da _ _ aa rfl rfl rfl 10 rfl ab ag) ?_))
 exact bF rfl rfl rfl rfl rfl rfl (aj (am (ai (az _ aa rfl rfl rfl rfl) (bF rfl rfl rfl rfl rfl rfl (aj (aG (bG (.inr rfl) rfl (.cellA aa rfl rfl rfl) (Le.out [] [] (.agg rfl lz) rfl rfl rfl trivial trivial))))))))
theorem p13_ok:ol P13 0 where
 pg:=by
  refine ⟨⟨fun i=> [0,1,0].getD i 0,fun i x hx=> ?_,fun h=> ?_⟩,by show 0+1≤16;omega⟩
  ·rw [Nat.zero_add]
   rcases i with _ | _ | _ | i
   all_goals first | (simp [P13] at hx;done) | (simp only [P13,List.getElem?_cons_zero,List.getElem?_cons_succ,Option.some.injEq] at hx;subst hx)
   all_goals refine ⟨?_,?_,fun j hj=> ?_⟩
   all_goals first | (simp [di,P13,Rg];done) | (simp [Opc.pops];done) | (simp [dU] at hj;done) | (simp [dU] at hj;subst hj;simp [P13,Opc.pops,Opc.puts];done)
  by_cases h1:h=10
  ·subst h1;exact .inr ⟨by decide,by decide,by decide⟩
  by_cases h2:h < 40
  ·refine .inl ?_
   show li (eP 40) 10 0 h < 0
   unfold li eP
   rw [if_neg h1,if_pos h2];omega
  have e:P13.e h=0:=by
   show li (eP 40) 10 0 h=0
   unfold li eP
   rw [if_neg h1,if_neg h2]
  rw [e]
  exact .inr ⟨Int.le_refl _,by decide,rfl⟩
 cl:=by decide
 tc:=by decide
abbrev vS:Tl:=⟨0,0,0,0,[],0,[]⟩
theorem RE (kind idx q:Int) (hq:0 < q):tE vS kind idx q 0:=by
 have h:=ip [] (Nat.zero_le _) 0 0 0 kind idx q hq
 have e:oJ [] 0 0 0 kind idx % q=0:=Int.zero_emod q
 rw [e] at h
 exact h
theorem Nl (l:List Int):((cp l).drop 0).take (l.length*1)=cp l:=by rw [List.drop_zero,Nat.mul_one,List.take_of_length_le (by rw [aN];omega)]
set_option maxHeartbeats 4000000 in
theorem wi (S1 S2 S3:Ns) (r1 r2:Nr) (R1 R2:Ms) (c1 c2:Cz) (P:Pg)
  (hp:Spec Tryz.prog 85 (ba [] []) (aO (ii P) []))
  (hS:Spec Tryz.prog 56 (aY [jT {},ii P, .v (.int .i64 0), .v (.int .i64 0), .v (.int .i64 1), .v (.int .i64 0),jF] (pu vS 0 [] (5,9))) (iW c1 R1 (S1,r1) vS 0 []))
  (hH:Spec Tryz.prog 81 (aY [jT S1,ii P, .v (.int .i64 10), .v (.int .i64 0), .v (.int .i64 1), .v (.int .i64 0),DD (List.replicate 9 0),jF] (pu vS 0 [] (5,9))) (iW c2 R2 (S2,r2) vS 0 []))
  (hC:Spec Tryz.prog 53 (aY [jT S2,jF] (pu vS 0 [] (5,9))) (bc (jT S3) (pu vS 0 [] (5,8)) [(4,9),(5,8)] [(4,9)]))
  (hw:Spec Tryz.prog 51 (ba [jT S1,ii P,ii P] []) (aO (.v (.bool true)) []))
  (hv2:Spec Tryz.prog 47 (ba [jT S2] []) (aO (.sl 1 (cp [5])) []))
  (hv3:Spec Tryz.prog 47 (ba [jT S3] []) (aO (.sl 1 (cp [0])) []))
  (e1:S1.up=true) (e2:S2.counts.getD 0 0=1) (e3:S2.counts.getD 10 0=1) (e4:S2.clock=2) (e5:S3.epoch=1):
  Spec Tryz.prog 50 (ba [] []) (aO (.v (.bool true)) []):=by
 have hn:=rO
 have hs5:=rA 1 1 [5] [5] rfl rfl ab ab
 have hs0:=rA 1 1 [0] [0] rfl rfl ab ab
 refine Spec.ofN Tryz.func50 rfl Tryz.ntmps50 rfl ?_
 refine am (cr rfl (aj (am (ai (aL _ aa rfl (by exact sw)) ?_))))
 refine ai (aQ (5,0) _ rfl rfl) (wq rfl (aj (aq ?_)))
 refine aM (Le.trans (Le.nilB (5,0) 4 (60,0) 111 7 rfl rfl rfl) (Le.nil0 (5,0) 3 rfl rfl)) ?_
 refine an (ai (aH aa (by repeat' (exact cV)) (hn) rfl rfl) ?_)
 refine ai (aH aa (by repeat' (exact cV)) (hp) rfl rfl) ?_
 refine bP rfl (ai (jP _ _ (rfl:_=[AV.ptr _ _]) (rfl:_=[])) ?_)
 refine ai (bV aa [((4,9),(5,0)),((5,9),(60,0)),((1,8),(11,0)),((2,8),(11,1)),((3,8),(11,2)),((6,8),(11,3)),((5,8),(11,4))] ar (hS) ob tr tr rfl rfl ae ae) ?_
 refine ai (aI _ tU) (ai (co _ rfl pI) (ai (co _ rfl pI) (ai (aC (2,0) aa rfl rfl) (ai (aC (3,0) aa rfl rfl) (bF rfl rfl rfl rfl rfl rfl (bF rfl rfl rfl rfl rfl rfl (aj (aq (aq ?_)))))))))
 refine aM (Le.frzB (ys:=cp S1.timers) (2,0) 7 rfl rfl rfl rfl (Nl _) (by rw [aN];omega)) ?_
 refine bJ 10 [14,15,16,17,18,19,20,21,22,23] [] ae ae rfl (aK rfl) (rfl:_=[_,_,_,_,_,_,_,_,_,_]) (rfl:_=[]) ?_
 refine ap (_,[]) (fun τ=> az _ aa rfl rfl rfl rfl) ?_
 refine fP rfl ?_
 refine ap (_,[]) (fun τ=> (aH aa (by repeat' (exact cV)) (hp) rfl rfl)) ?_
 refine fO rfl ?_
 refine ap (_,[]) (fun τ=> (aH aa (by repeat' (exact cV)) (hp) rfl rfl)) ?_
 refine fN rfl ?_
 refine ap (_,[]) (fun τ=> (aH aa al (hw) rfl rfl)) ?_
 refine fS rfl ?_
 refine ap (_,[]) (fun τ=> cu _ rfl rfl) ?_
 refine gk rfl ?_
 refine ap (_,[]) (fun τ=> aI _ bR) ?_
 refine gU rfl ?_
 refine bL (_,[]) rfl (fun τ=> rfl) (fun τ=> aA _ aa rfl rfl rfl) ?_
 refine iL rfl ?_
 refine bL (_,[]) rfl (fun τ=> rfl) (fun τ=> aF _ aa rfl rfl Ct) ?_
 refine jU rfl ?_
 refine bL (_,[]) rfl (fun τ=> rfl) (fun τ=> cu (r:=false) _ rfl (by rw [e1];rfl)) ?_
 refine kD rfl ?_
 refine ap (_,[]) (fun τ=> aE _ _ _ rfl bR) ?_
 refine fV rfl (bm ⟨rfl,?_⟩)
 refine aj (aW rfl rfl (aS (aU fun K6 hK6=> ?_)))
 refine aM (σ':=aD 76 [(1,_),(2,_)] [((5,0),_),((11,4),_),((2,0),_)] [] []) kp ?_
 refine hZ 10 [25,26,27,28,29,30,24,31,32] [(30,0),(30,1),(30,2),(30,3),(5,0),(30,4),(11,4),(2,0)] [[(2,0)],[(2,0)],[(2,0)],[(2,0)],[(2,0)],[(2,0)],[(2,0)],[(2,0)],[],[]] ae ae rfl (aK rfl) (rfl:_=[_,_,_,_,_,_,_,_,_,_]) (rfl:_=[]) ?_
 refine ap (_,[]) (fun τ=> az _ aa rfl rfl rfl rfl) ?_
 refine fP rfl ?_
 refine ap (_,[]) (fun τ=> (aH aa (by repeat' (exact cV)) (hp) rfl rfl)) ?_
 refine fO rfl ?_
 refine ap (_,[]) (fun τ=> aL _ aa rfl (by exact Aa)) ?_
 refine fN rfl ?_
 refine ap (_,[]) (fun τ=> aI _ ca) ?_
 refine fS rfl ?_
 refine ap (_,[]) (fun τ=> jP _ _ (rfl:_=[AV.ptr _ _]) (rfl:_=[])) ?_
 refine gk rfl ?_
 refine ap (_,[((30,0),_),((30,1),_),((30,2),_),((30,3),_),((5,0),_),((30,4),_),((11,4), .gone)]) (fun τ=> (bV aa [((4,9),(5,0)),((5,9),(11,4)),((1,8),(30,0)),((2,8),(30,1)),((3,8),(30,2)),((6,8),(30,3)),((5,8),(30,4))] ar (hH) ob tr tr rfl rfl ae ae)) ?_
 refine gU rfl ?_
 refine ap (_,[]) (fun τ=> aI _ tU) ?_
 refine iL rfl ?_
 refine ap (_,[]) (fun τ=> co _ rfl pI) ?_
 refine jU rfl ?_
 refine ap (_,[]) (fun τ=> co _ rfl pI) ?_
 refine kD rfl ?_
 refine ap (_,[((2,0),_)]) (fun τ=> dH _ _ aa rfl (eG rfl (by exact dQ) rfl) rfl rfl (Nat.le_of_ble_eq_true rfl) rfl) ?_
 refine fV rfl (bm ⟨⟨rfl,by kernel_rfl⟩,?_⟩)
 refine aJ (hK6 _ ?_)
 clear hK6;try clear K6
 refine aq (aq ?_)
 refine aM (Le.frzB (ys:=cp S2.timers) (2,0) 7 rfl rfl rfl rfl (Nl _) (by rw [aN];omega)) ?_
 refine an (ai (az _ aa rfl rfl rfl rfl) (ai (aH aa al (hv2) rfl rfl) ?_))
 refine ai (bg _ _ aa rfl ag (by (simp <;> rfl)) ah rfl) ?_
 refine ai (aH aa al (hs5) rfl rfl) ?_
 refine ai (cu _ rfl rfl) (cL rfl (ax rfl rfl (aA _ aa rfl rfl rfl) (ax rfl rfl (da _ _ aa rfl rfl rfl 0 rfl ab (by exact Nat.zero_add _)) ?_)))
 refine ax rfl rfl (aF _ aa rfl rfl ei) (ax rfl rfl (bX (r:=false) _ _ rfl rfl (by show (S2.counts.getD 0 0 !=1)=false;rw [e2];rfl)) ?_)
 refine ai (aE _ _ _ rfl bR) (cL rfl (ax rfl rfl (aA _ aa rfl rfl rfl) (ax rfl rfl (da _ _ aa rfl rfl rfl 10 rfl ab ag) ?_)))
 refine ax rfl rfl (aF _ aa rfl rfl ei) (ax rfl rfl (bX (r:=false) _ _ rfl rfl (by show (S2.counts.getD 10 0 !=1)=false;rw [e3];rfl)) ?_)
 refine ai (aE _ _ _ rfl bR) (cL rfl (ax rfl rfl (aA _ aa rfl rfl rfl) (ax rfl rfl (aF _ aa rfl rfl ei) (ax rfl rfl (bX (r:=false) _ _ rfl rfl (by rw [e4];rfl)) ?_))))
 refine ai (aE _ _ _ rfl bR) (aj (aW rfl rfl (aS (aU fun K9 hK9=> ?_))))
 refine aM (σ':=aD 76 [(1,_),(2,_)] [((5,0),_),((2,0),_),((30,4),_)] [] []) kp ?_
 refine an (ai (az _ aa rfl rfl rfl rfl) (bP rfl (ai (jP _ _ (rfl:_=[AV.ptr _ _]) (rfl:_=[])) ?_)))
 refine ai (bV aa [((4,9),(5,0)),((5,9),(30,4)),((5,8),(58,0))] ar (hC) ob tr tr rfl rfl ae ae) ?_
 refine bF rfl rfl rfl rfl rfl rfl (aJ (hK9 _ ?_))
 clear hK9;try clear K9
 refine am (ai (az _ aa rfl rfl rfl rfl) (ai (aH aa al (hv3) rfl rfl) ?_))
 refine ai (bg _ _ aa rfl ag (by (simp <;> rfl)) ah rfl) ?_
 refine ai (aH aa al (hs0) rfl rfl) ?_
 refine cL rfl (ax rfl rfl (aA _ aa rfl rfl rfl) (ax rfl rfl (aF _ aa rfl rfl ei) (ax rfl rfl (bC (r:=true) _ _ rfl rfl (by rw [e5];rfl)) ?_)))
 refine ai (aE _ _ _ rfl bR) (cL rfl (ax rfl rfl (aI _ ca) (ax rfl rfl (aT _ rfl rfl) (ax rfl rfl (aA _ aa rfl rfl rfl) (ax rfl rfl (aF _ aa rfl rfl eW) (ax rfl rfl (dh _ aa rfl rfl) (ax rfl rfl (bC _ _ rfl rfl rfl) (ai (aE _ _ _ rfl bR) (cr rfl (aj ?_))))))))))
 exact aG (fu rfl rfl)
abbrev Gx:Ns:={ up:=true,ver:=0,clock:=1,vol:=[0],counts:=(List.replicate 41 0).set 0 1 }
abbrev Ka:Ns:={ up:=true,ver:=0,clock:=2,vol:=[5],counts:=((List.replicate 41 0).set 0 1).set 10 1 }
abbrev Oo:Ns:={ up:=false,ver:=0,clock:=2,vol:=[0],epoch:=1,counts:=(((List.replicate 41 0).set 0 1).set 10 1).set 40 1 }
theorem Jo (k:Nat) (l:List Int) (h: ∀ x∈l,0≤x∧x≤1): -1000000≤l.getD k 0∧l.getD k 0≤1000000:=by
 by_cases hk:k < l.length
 ·rw [List.getD_eq_getElem?_getD,List.getElem?_eq_getElem hk]
  have:=h _ (List.getElem_mem hk)
  simp only [Option.getD_some];omega
 rw [List.getD_eq_getElem?_getD,List.getElem?_eq_none ab];simp
theorem Gv:Spec Tryz.prog 50 (ba [] []) (aO (.v (.bool true)) []):=by
 have hsm:jS {}:=⟨Nat.zero_le _,Nat.zero_le _,Nat.zero_le _,Nat.zero_le _⟩
 have hdi:jG ({}:Ns).dk:=fun w hw=> (by cases hw)
 have hdk:DkOk 0 ({}:Ns).dk:=⟨rfl,fun v hv=> (by cases hv),Nat.zero_le _,fun w hw=> (by cases hw)⟩
 have hb:=uE (s:={}) p13_ok.pg p13_ok.cl p13_ok.tc hdk rfl (fun k=> Jo k (List.replicate 41 0) ah) ah 0
 have hld: ∀ (i:Nat) (k:Int),i≤100000→2≤k→k≤4→tE vS 1 (i:Int) k (gH [] i k):=fun i k _ h2 _=> by
  have e:gH [] i k=0:=Int.zero_emod k
  rw [e];exact RE _ _ _ ab
 have hS:=xn P13 0 {} hsm hdi 0 hb 0 1 0 0 [] (dc ab) (dc ab) (dc ah) ab vS (fun h=> absurd h (Int.lt_irrefl 0)) hld _ rfl
 have q1:lb {} P13 0 0 1 0 0 []=(Gx,{}):=by kernel_rfl
 have a1:(gL (cO {} P13 0) P13 0 0 1 0 0 (List.replicate 9 0) []).asked=[]:=by kernel_rfl
 rw [q1] at hS
 have o1:pB 0+(gL (cO {} P13 0) P13 0 0 1 0 0 (List.replicate 9 0) []).asked.length=0:=by rw [a1];rfl
 have p1:px vS 0 0++sF vS [] (gL (cO {} P13 0) P13 0 0 1 0 0 (List.replicate 9 0) []).asked=[]:=by rw [a1];rfl
 rw [o1,p1] at hS
 have h1:HdOk P13 0 Gx:=⟨p13_ok.pg,p13_ok.cl,p13_ok.tc,⟨hdk,rfl,fun v hv=> (by rw [List.mem_singleton.1 hv];exact oL),⟨List.Pairwise.nil,fun x hx=> (by cases hx)⟩,rfl⟩, .inl rfl,fun k=> Jo k _ ah,by decide⟩
 have hH:=ui P13 0 Gx h1 10 ab 0 1 0 0 (List.replicate 9 0) [] rfl IA (dc ab) (dc ab) (dc ah) ab vS (fun h=> absurd h (Int.lt_irrefl 0)) hld _ rfl
 have q2:cU Gx P13 10 0 1 0 0 (List.replicate 9 0) []=(Ka,{}):=by kernel_rfl
 have a2:(gL Gx P13 10 0 1 0 0 (List.replicate 9 0) []).asked=[]:=by kernel_rfl
 rw [q2] at hH
 have o2:pB 0+(gL Gx P13 10 0 1 0 0 (List.replicate 9 0) []).asked.length=0:=by rw [a2];rfl
 have p2:px vS 0 0++sF vS [] (gL Gx P13 10 0 1 0 0 (List.replicate 9 0) []).asked=[]:=by rw [a2];rfl
 rw [o2,p2] at hH
 have h2:jS Ka:=⟨Nat.zero_le _,Nat.zero_le _,ah,Nat.zero_le _⟩
 have hC:=pk Ka h2 hdi rfl ah ah vS 0 [] rfl ab [] (fun i hi=> absurd hi (Nat.not_lt_zero _))
 have hw:=BW Gx rfl ah P13 P13 rfl rfl
 have hv2:=qS Ka h2 hdi
 have hv3:=qS Oo ⟨Nat.zero_le _,Nat.zero_le _,ah,Nat.zero_le _⟩ hdi
 exact wi Gx Ka Oo {} {} _ _ _ _ P13 zZ hS hH hC hw hv2 hv3 rfl rfl rfl rfl rfl

theorem yB (l:List Int) (k:Nat) (h:k < (js (l.take 10)).length):(js (l.take 10)).getD k Jx=CM l k∧k < 10:=by
 have h1:k < (l.take 10).length:=by rw [lW] at h;exact h
 have h2:k < 10∧k < l.length:=by rw [List.length_take] at h1;omega
 refine ⟨?_,h2.1⟩
 unfold js
 rw [List.getD_eq_getElem?_getD,List.getElem?_map,List.getElem?_eq_getElem h1,List.getElem_take]
 show iC (dx (l[k]) 100000000)=iC (dx (l.getD k 0) 100000000)
 rw [List.getD_eq_getElem?_getD,List.getElem?_eq_getElem h2.2];rfl

theorem Ha (l:List Na) (k:Nat) (h:k < l.length) (j:Nat) (hj:j < 15):(AZ l)[k*15+j]? =(DZ (l.getD k Jx))[j]? :=by
 have e:l.getD k Jx=l[k]:=by rw [List.getD_eq_getElem?_getD,List.getElem?_eq_getElem h];rfl
 rw [e];exact mV DZ 15 (fun _=> rfl) l k j h hj

theorem II (w:World) (a b c k i a' b' c' k' i':Int):(Op.equal 115 (.agg #[.int .i64 a, .int .i64 b, .int .i64 c, .int .i64 k, .int .i64 i]) (.agg #[.int .i64 a', .int .i64 b', .int .i64 c', .int .i64 k', .int .i64 i'])).run Tryz.prog w= .ok (decide ((a=a'∧b=b'∧c=c')∧k=k'∧i=i')) w:=by
 have h:=ky w #[.int .i64 a, .int .i64 b, .int .i64 c, .int .i64 k, .int .i64 i]
 have h':=ky w #[.int .i64 a', .int .i64 b', .int .i64 c', .int .i64 k', .int .i64 i']
 have hc: ∀ a b c k i:Int,(part 91 #[.int .i64 a, .int .i64 b, .int .i64 c, .int .i64 k, .int .i64 i] 0).run Tryz.prog w= .ok (.agg #[.int .i64 a, .int .i64 b, .int .i64 c]) w:=fun a b c k i=> by
  simp [part,isAgg,sizeOf,run_underlying Tryz.underlying91]
  rfl
 have e:=wG 9998 w
 have ec:=qT 9997 w
 show (Op.equalIn (9999+1) _ _ _).run Tryz.prog w=_
 rw [Op.equalIn]
 simp only [Sem.run_bind,run_underlying Tryz.underlying115,Result.andThen_ok]
 simp [Op.eqFields,hc,h 3 _ rfl,h 4 _ rfl,h' 3 _ rfl,h' 4 _ rfl,e,ec]
 by_cases p1:a=a' <;> by_cases p2:b=b' <;> by_cases p3:c=c' <;> by_cases p4:k=k' <;> by_cases p5:i=i' <;> simp [p1,p2,p3,p4,p5]
section
variable {σ:St} {dd:Option Tmp} {ty:TypeId}
theorem HN {t':TypeId} (x y:Operand) {a b c k i a' b' c' k' i':Int} (hx:σ.eval x= .agg [.v (.int .i64 a), .v (.int .i64 b), .v (.int .i64 c), .v (.int .i64 k), .v (.int .i64 i)]) (hy:σ.eval y= .agg [.v (.int .i64 a'), .v (.int .i64 b'), .v (.int .i64 c'), .v (.int .i64 k'), .v (.int .i64 i')]) {r:Bool} (hr:decide ((a=a'∧b=b'∧c=c')∧k=k'∧i=i')=r):Stp Tryz.prog dd (.binOp .eql 115 x y t') ty σ (σ.put dd (.v (.bool r))):=by
 refine ti [.int .i64 a, .int .i64 b, .int .i64 c, .int .i64 k, .int .i64 i] [.int .i64 a', .int .i64 b', .int .i64 c', .int .i64 k', .int .i64 i'] hx hy fun o ρ w ho hx hy=> ?_
 have:=II w a b c k i a' b' c' k' i'
 have hg:Tryz.prog.eqGuardType Tryz.prog.depth 115=false:=by kernel_rfl
 rw [hr] at this
 simp [execOp,ho,hx,hy,eqGuard,binOp,hg,this,Sem.run]
theorem Fx {t':TypeId} (x y:Operand) {a b c:Int} (hx:σ.eval x= .agg [.v (.int .i64 a), .v (.int .i64 b), .v (.int .i64 c)]) (hy:σ.eval y= .agg [.v (.int .i64 a), .v (.int .i64 b), .v (.int .i64 c)]):Stp Tryz.prog dd (.binOp .neq 91 x y t') ty σ (σ.put dd (.v (.bool false))):=by
 refine ti [.int .i64 a, .int .i64 b, .int .i64 c] [.int .i64 a, .int .i64 b, .int .i64 c] hx hy fun o ρ w ho hx hy=> ?_
 have:(Op.equal 91 (.agg #[.int .i64 a, .int .i64 b, .int .i64 c]) (.agg #[.int .i64 a, .int .i64 b, .int .i64 c])).run Tryz.prog w= .ok true w:=by
  have:=qT 9998 w a b c a b c
  rwa [decide_eq_true ⟨rfl,rfl,rfl⟩] at this
 have hg:Tryz.prog.eqGuardType Tryz.prog.depth 91=false:=by kernel_rfl
 simp [execOp,ho,hx,hy,eqGuard,binOp,hg,this,Sem.run]
end
def Ht (m:Mn):List PV:=[.v (.int .i64 1), .v (.int .i64 (m.h:Int)), .v (.int .i64 m.c), .v (.int .i64 (m.i:Int)), .v (.int .i64 0)]
def GC (l:List Mn):List PV:=l.flatMap Ht
theorem su (l:List Mn):(GC l).length=l.length*5:=ic Ht 5 (fun _=> rfl) l
theorem zW (l:List Mn) (k:Nat) (h:k < l.length):PV.ups (((GC l).drop (k*5)).take 5)=[.v (.int .i64 1), .v (.int .i64 (l[k].h:Int)), .v (.int .i64 l[k].c), .v (.int .i64 (l[k].i:Int)), .v (.int .i64 0)]:=by
 rw [show ((GC l).drop (k*5)).take 5=Ht l[k] from lf Ht 5 (fun _=> rfl) l k h];rfl
theorem Bt (l:List Mn) (x:Mn):GC l++Ht x=GC (l++[x]):=jh Ht l x
theorem ud (s:Ns) (h k:Nat):ft s h (k+1)=ft s h k++[⟨h,s.counts.getD h 0,k⟩]:=by unfold ft;rw [List.range_succ,List.map_append];rfl
theorem jx (s:Ns) (h k:Nat):(ft s h k).length=k:=by simp [ft]
theorem HA {all:List Mn} {s:Ns} {h j:Nat} (ho:KP all s.counts) {n:Nat} (hn:n < (all++ft s h j).length): ¬ (((1:Int)=1∧(((all++ft s h j)[n].h:Nat):Int)=(h:Int)∧(all++ft s h j)[n].c=s.counts.getD h 0)∧(((all++ft s h j)[n].i:Nat):Int)=(j:Int)∧(0:Int)=0):=by
 rintro ⟨⟨_,h1,h2⟩,h3,_⟩
 by_cases hl:n < all.length
 ·rw [List.getElem_append_left hl] at h1 h2
  have:=ho _ (List.getElem_mem hl)
  rw [h2,show all[n].h=h by omega] at this
  omega
 rw [List.getElem_append_right ab] at h3
 have hm:n - all.length < j:=by rw [List.length_append,jx] at hn;omega
 have e:(ft s h j)[n - all.length]'(by rw [jx];exact hm)=⟨h,s.counts.getD h 0,n - all.length⟩:=by
  unfold ft;rw [List.getElem_map,List.getElem_range]
 rw [e] at h3
 simp only at h3
 omega
theorem AU (p:Pg) (h:Nat) (names vars ans:List Int):(iU p h names vars ans).acts.length≤500:=by
 unfold iU
 split
 ·exact Nat.zero_le _
 have h1:=jZ (K:=⟨p.c,p.d,names,ans⟩) (I:=Sz) (fun s hs _=> tj hs) 500 (dY vars (p.e h).toNat) ⟨Nat.le_refl _,Nat.le_refl _,Nat.le_refl _⟩
 have h2:=(mh (K:=⟨p.c,p.d,names,ans⟩) 500 (dY vars (p.e h).toNat)).1
 have h3:=h1.ac
 have h4:(dY vars (p.e h).toNat).steps=0:=rfl
 omega
structure Lo (a:Na) (s:Ns) (r:Nr):Prop where
 c:r.sent=[]∨Ju a s=⟨1,(hN a s:Int),s.counts.getD (hN a s) 0⟩
 t: ∀ x∈r.sent,0≤x.a∧x.a < 3
 l:r.sent.length≤500
theorem rp (s:Ns) (p:Pg) (h:Nat) (self nodes drift tick:Int) (names ans:List Int):(cU s p h self nodes drift tick names ans).2.sent.length≤500:=by
 unfold cU
 rw [ou]
 refine Nat.le_trans ?_ (AU p h (dW names self nodes (cJ s.clock drift tick)) (s.dk.view++s.vol) ans)
 simp only [List.nil_append]
 exact List.length_filter_le _ _
theorem Gt {p q:Pg} (hp:mt p) (hq:mt q) {d:Int} (hd:0≤d∧d≤3) {a:Na} (ha:DF a) {i:Nat} (hi:i≤100) {s:Ns} (h:Sq p q i s):Lo a s (dt p q d a s).2:=by
 have hck:=h.ck
 have htk:=lq (clock:=s.clock) (tick:=a.tick) hd
 unfold dt
 by_cases hu:s.up=false
 ·rw [if_pos hu]
  obtain ⟨⟨n,hdk⟩,_,_⟩:=h.dn hu
  have hok:mt (bQ p q s):=by unfold bQ;split <;> split <;> assumption
  have hb:=rR (p:=bQ p q s) hdk h.cl (gT s)
  refine ⟨.inr ?_,fun x hx=> ?_,rp _ _ _ _ _ _ _ _ _⟩
  ·rw [show hN a s=0 from if_pos hu]
   exact if_pos hu
  exact (xq hok hb (h:=0) (self:=1) (nodes:=3) (drift:=d) (tick:=a.tick) (names:=List.replicate 9 0) (ans:=a.draws) rfl IA (dc ab) (dc ab) (dc (by show -1000≤cJ s.clock d a.tick∧cJ s.clock d a.tick≤1000;omega)) x hx).2
 rw [if_neg hu]
 have hu':s.up=true:=by simpa using hu
 obtain ⟨hs,hv⟩:=h.up hu'
 by_cases hc:a.crash=true
 ·rw [if_pos hc]
  exact ⟨.inl rfl,fun x hx=> (by cases hx),Nat.zero_le _⟩
 rw [if_neg hc]
 have hpg:bQ p q s=if s.ver=1 then q else p:=by unfold bQ;rw [if_pos hu']
 have hok:mt (bQ p q s):=by rw [hpg];split <;> assumption
 have hs':re (bQ p q s) { s with wait:=a.wait }:=by rw [hpg];exact ⟨hs.dk,hs.vl,hs.vr,hs.tm,hs.ct⟩
 refine ⟨.inr ?_,fun x hx=> ?_,rp _ _ _ _ _ _ _ _ _⟩
 ·rw [show hN a s=a.h from (if_neg hu).trans (if_neg hc)]
  exact (if_neg hu).trans (if_neg hc)
 exact (xq hok hs' (h:=a.h) (self:=1) (nodes:=3) (drift:=d) (tick:=a.tick) (names:=a.names) (ans:=a.draws) ha.nl ha.ok.nm (dc ab) (dc ab) (dc (by show -1000≤cJ s.clock d a.tick∧cJ s.clock d a.tick≤1000;omega)) x hx).2
theorem Dd (c:Cz) (l:List Ac) (k:Nat) (h:k < l.length):PV.ups (((ym c l).drop (k*9)).take 9)=[.v (.int .i64 c.a), .v (.int .i64 c.b), .v (.int .i64 c.c), .v (.int .i64 (k:Int)), .v (.int .i64 0), .v (.int .i64 (mO l k).a), .v (.int .i64 (mO l k).b), .v (.int .i64 (mO l k).c), .v (.int .i64 (mO l k).d)]:=by
 have h2:k < (List.range l.length).length:=by rw [List.length_range];exact h
 rw [show ((ym c l).drop (k*9)).take 9=Kf c (List.range l.length)[k] (mO l (List.range l.length)[k]) from lf (fun i=> Kf c i (mO l i)) 9 (fun _=> rfl) (List.range l.length) k h2,List.getElem_range];rfl
set_option maxHeartbeats 4000000 in
theorem qF (one:Int) (dr:Int) (l:List Int) (hone: -9223372036854775808≤one∧one≤9223372036854775807) (hdr: -9223372036854775808≤dr∧dr≤9223372036854775807) (hl:l.length≤4611686018427387904) (hr: ∀ x∈l, -9223372036854775808≤x∧x≤9223372036854775807):
  Spec Tryz.prog 14 (ba [.v (.int .i64 one), .v (.int .i64 dr), .sl l.length (cp l)] []) (aO (.v (.bool true)) []):=by
 have hac:=yd l hl hr
 have hnn:=rO
 have hA:=yB l
 have hgt:=Ha (js (l.take 10))
 have hga:=AT (js (l.take 10))
 have ha:=iz dr 4 ab ab hdr.1 hdr.2
 have hd:0≤dx dr 4∧dx dr 4≤3:=⟨gZ dr 4 ab,by have:=jj dr 4 ab;omega⟩
 generalize dx dr 4=d at ha hd
 have hP:=Is one
 have hp:=Dr one hone
 generalize My one=P at hP hp
 generalize NV one=tm at hP
 generalize js (l.take 10)=A at hac hA hgt hga
 refine Spec.ofN Tryz.func14 rfl Tryz.ntmps14 rfl ?_
 refine am (cr rfl (aj (am (aX rfl (ai (aH aa al (hp) rfl rfl) ?_)))))
 refine ai (aC (7,0) aa rfl rfl) (bF rfl rfl rfl rfl rfl rfl (aj (am (aX rfl (ai (aH aa al (ha) rfl rfl) ?_)))))
 refine be rfl (aj (am (eY rfl (ai (aH aa al (hac) rfl rfl) ?_))))
 refine kE rfl (aj (am (ai (aH aa (by repeat' (exact cV)) (hnn) rfl rfl) ?_)))
 refine ai (aC (10,0) aa rfl rfl) (bF rfl rfl rfl rfl rfl rfl (aj (am (ai (bp _ fy) (aj (aU fun K7 hK7=> ?_))))))
 refine aq ?_
 refine aM (σ':=aD 111 [(7,_),(8,_),(9,_),(10,_),(11,_)] [((7,0),_),((10,0),_)] [] []) (by
  refine Le.mkJ [] [] rfl ?_ ?_ trivial trivial ?_
  ·exact ⟨(iP rfl),(iV rfl),(iS rfl),(iP rfl),(by exact iV rfl),trivial⟩
  ·exact ⟨(ci rfl rfl rfl),(ci rfl rfl rfl),trivial⟩
  kernel_rfl) ?_
 refine an (be rfl (aj (ay ?_)))
 refine aM (Le.nilS 11 (60,0) 115 5 rfl rfl) ?_
 refine bq (α:=Nat×Ns×List Mn) (fun z=> z.1≤A.length∧Jc P P tm tm z.1 z.2.1∧KP z.2.2 z.2.1.counts∧z.2.2.length≤500*z.1) 111 [(7,_),(8,_),(9,_),(10,_)] [((7,0),_)] (fun z=> [(12, .v (.int .i64 (z.1:Int))),(11, .ref (60,0) 0 z.2.2.length)]) (fun z=> [((10,0), .box 83 [.v (.bool z.2.1.up), .v (.int .i64 (z.2.1.ver)), .v (.int .i64 (z.2.1.epoch)), .v (.int .i64 (z.2.1.clock)), .sl z.2.1.dk.cells.length (cp z.2.1.dk.cells), .sl z.2.1.dk.pend.length (lO z.2.1.dk.pend), .sl z.2.1.vol.length (cp z.2.1.vol), .sl z.2.1.timers.length (cp z.2.1.timers), .v (.int .i64 (cQ z.2.1 0)), .v (.int .i64 (cQ z.2.1 1)), .v (.int .i64 (cQ z.2.1 2)), .v (.int .i64 (cQ z.2.1 3)), .v (.int .i64 (cQ z.2.1 4)), .v (.int .i64 (cQ z.2.1 5)), .v (.int .i64 (cQ z.2.1 6)), .v (.int .i64 (cQ z.2.1 7)), .v (.int .i64 (cQ z.2.1 8)), .v (.int .i64 (cQ z.2.1 9)), .v (.int .i64 (cQ z.2.1 10)), .v (.int .i64 (cQ z.2.1 11)), .v (.int .i64 (cQ z.2.1 12)), .v (.int .i64 (cQ z.2.1 13)), .v (.int .i64 (cQ z.2.1 14)), .v (.int .i64 (cQ z.2.1 15)), .v (.int .i64 (cQ z.2.1 16)), .v (.int .i64 (cQ z.2.1 17)), .v (.int .i64 (cQ z.2.1 18)), .v (.int .i64 (cQ z.2.1 19)), .v (.int .i64 (cQ z.2.1 20)), .v (.int .i64 (cQ z.2.1 21)), .v (.int .i64 (cQ z.2.1 22)), .v (.int .i64 (cQ z.2.1 23)), .v (.int .i64 (cQ z.2.1 24)), .v (.int .i64 (cQ z.2.1 25)), .v (.int .i64 (cQ z.2.1 26)), .v (.int .i64 (cQ z.2.1 27)), .v (.int .i64 (cQ z.2.1 28)), .v (.int .i64 (cQ z.2.1 29)), .v (.int .i64 (cQ z.2.1 30)), .v (.int .i64 (cQ z.2.1 31)), .v (.int .i64 (cQ z.2.1 32)), .v (.int .i64 (cQ z.2.1 33)), .v (.int .i64 (cQ z.2.1 34)), .v (.int .i64 (cQ z.2.1 35)), .v (.int .i64 (cQ z.2.1 36)), .v (.int .i64 (cQ z.2.1 37)), .v (.int .i64 (cQ z.2.1 38)), .v (.int .i64 (cQ z.2.1 39)), .v (.int .i64 (cQ z.2.1 40)), .v (.int .i64 (z.2.1.wait)), .v (.int .i64 (0)), .v (.int .i64 (0))]),((60,0), .row 115 5 (GC z.2.2))]) [] [] (fun z=> A.length - z.1) (0,{},[]) ?_ (by
  refine Le.mkJ [] [] rfl ?_ ?_ trivial trivial ?_
  ·exact ⟨(iP rfl),(iV rfl),(iS rfl),(iP rfl),(cm ag),(cI rfl ag),trivial⟩
  ·exact ⟨(ci rfl rfl rfl),(fi rfl rfl rfl rfl lz),(eX rfl rfl rfl ag),trivial⟩
  kernel_rfl) ?_
 ·exact ⟨Nat.zero_le _,IX P P tm tm,fun m hm=> (by cases hm),Nat.zero_le _⟩
 intro z hz
 obtain ⟨k,s,all⟩:=z
 obtain ⟨hz1,hs,hold,hall⟩:=hz
 simp only at hz1 hs hold hall ⊢
 refine aU fun K9 hK9=> ?_
 refine am (aX rfl (eY rfl (ai (bn _ aa rfl) (ai (bl _ _ rfl rfl rfl) (aj (aR rfl (fun hc29=> ?_) (fun hc29=> ?_)))))))
 ·skip
  obtain ⟨hAk,hk10⟩:=hA k ab
  have ga:=hga k ab
  have gt:=hgt k ab
  rw [hAk] at ga gt
  have hw:=HT l k
  have hnx:=ID hP hP hd ab hs hw
  have hsx:=JB hP hP hd hw.ok ab hs
  have hwl:=HH hsx
  have hsn:=Gt hP.pg hP.pg hd hw ab hs.sq
  have hcn:=(Cj P P hd (CM l k) s hw.ok.h).1
  have hh41:hN (CM l k) s < 41:=JS hw.ok.h s
  have hcl:=hs.sq.cl
  obtain ⟨sn1,sn2,sn3⟩:=hsn
  generalize CM l k=a at*
  generalize dt P P d a s=X at*
  obtain ⟨s',r⟩:=X
  generalize hN a s=h at*
  generalize Ju a s=rc at*
  generalize KT P P d a s=ro at hnx
  generalize fk s a h=tl at hnx
  generalize jC P P d a s=nq at*
  simp only at*
  refine bs (hK9 _ ?_)
  clear hK9;try clear K9
  refine aq (ay (aq ?_))
  refine aM (σ':=aD 111 [(7,_),(8,_),(9,_),(10,_),(11,_),(12,_)] [((7,0),_),((10,0),_),((60,0),_)] [] []) kp ?_
  refine pP 17 [33,34,35,36,37,38,39,40,41,32,42,43,44,13,14] [(41,0),(41,1),(13,0),(14,0),(13,0),(14,0)] ae ae rfl (rfl:_=[_,_,_,_,_,_,_,_,_,_,_,_,_,_,_,_,_]) (rfl:_=[_]) ?_
  refine cB (_,[]) (fun τ=> az _ aa rfl rfl rfl rfl) ?_
  refine cA (rfl:_=[_]) ?_
  refine cB (_,[]) (fun τ=> az _ aa rfl rfl rfl rfl) ?_
  refine cA (rfl:_=[_,_]) ?_
  refine cB (_,[]) (fun τ=> az _ aa rfl rfl rfl rfl) ?_
  refine cA (rfl:_=[_,_,_]) ?_
  refine cB (_,[]) (fun τ=> aI _ em) ?_
  refine cA (rfl:_=[_,_,_,_]) ?_
  refine cB (_,[]) (fun τ=> aI _ nh) ?_
  refine cA (rfl:_=[_,_,_,_,_]) ?_
  refine cB (_,[]) (fun τ=> aI _ em) ?_
  refine cA (rfl:_=[_,_,_,_,_,_]) ?_
  refine cB (_,[]) (fun τ=> bo _ _ aa rfl rfl _ rfl ab (by (simp only [aN,bh,bk,aN,su,eQ,kS,gM,nL,jc];omega)) ag) ?_
  refine cA (rfl:_=[_,_,_,_,_,_,_]) ?_
  refine cB (_,[]) (fun τ=> cd _ aa rfl (by exact ga) rfl) ?_
  refine cA (rfl:_=[_,_,_,_,_,_,_,_]) ?_
  refine cB (_,[((41,0),_),((41,1),_)]) (fun τ=> (bV aa [((4,8),(41,0)),((5,8),(41,1))] ar (hnx.toI) trivial tr tr rfl rfl ae ae)) ?_
  refine cA (rfl:_=[_,_,_,_,_,_,_,_,_]) ?_
  refine cB (_,[]) (fun τ=> aI _ tU) ?_
  refine cA (rfl:_=[_,_,_,_,_,_,_,_,_,_]) ?_
  refine cB (_,[]) (fun τ=> co _ rfl pI) ?_
  refine cA (rfl:_=[_,_,_,_,_,_,_,_,_,_,_]) ?_
  refine cB (_,[]) (fun τ=> co _ rfl pI) ?_
  refine cA (rfl:_=[_,_,_,_,_,_,_,_,_,_,_,_]) ?_
  refine cB (_,[]) (fun τ=> co _ rfl (rfl:_=some (AV.ptr _ _))) ?_
  refine cA (rfl:_=[_,_,_,_,_,_,_,_,_,_,_,_,_]) ?_
  refine cB (_,[((13,0),_)]) (fun τ=> aC (13,0) aa rfl rfl) ?_
  refine cA (rfl:_=[_,_,_,_,_,_,_,_,_,_,_,_,_,_]) ?_
  refine cB (_,[((14,0),_)]) (fun τ=> aC (14,0) aa rfl rfl) ?_
  refine cA (rfl:_=[_,_,_,_,_,_,_,_,_,_,_,_,_,_,_]) ?_
  refine cB (_,[((13,0),_)]) (fun τ=> dH _ _ aa rfl rfl rfl rfl (Nat.le_of_ble_eq_true rfl) rfl) ?_
  refine cA (rfl:_=[_,_,_,_,_,_,_,_,_,_,_,_,_,_,_,_]) ?_
  refine cB (_,[((14,0),_)]) (fun τ=> dH _ _ aa rfl rfl rfl rfl (Nat.le_of_ble_eq_true rfl) rfl) ?_
  refine cA (rfl:_=[_,_,_,_,_,_,_,_,_,_,_,_,_,_,_,_,_]) ?_
  refine ni ⟨⟨rfl,by kernel_rfl,by kernel_rfl⟩,?_⟩
  refine wq rfl (aj (aq (aq ?_)))
  refine aM (σ':=aD 111 [(7,_),(8,_),(9,_),(10,_),(11,_),(12,_),(13,_),(14,_)] [((7,0),_),((10,0),_),((60,0),_),((13,0),_),((14,0),_)] [] []) kp ?_
  refine an (ai (az _ aa rfl rfl rfl rfl) (ai (az _ aa rfl rfl rfl rfl) (ai (az _ aa rfl rfl rfl rfl) (ai (aH aa al (hwl) rfl rfl) ?_))))
  refine ai (cu _ rfl rfl) (aj (aW rfl rfl (aS (aU fun K15 hK15=> ?_))))
  refine am (be rfl (aj (ay ?_)))
  refine bq (α:=Nat) (fun j=> j≤r.sent.length) 111 [(7,_),(8,_),(9,_),(10,_),(12,_),(13,_),(14,_)] [((7,0),_),((10,0),_),((13,0),_),((14,0),_)] (fun j=> [(16, .v (.int .i64 (j:Int))),(11, .ref (60,0) 0 (all.length+j))]) (fun j=> [((60,0), .row 115 5 (GC (all++ft s h j)))]) [] [] (fun j=> r.sent.length - j) 0 ?_ (by
   refine Le.mkJ [] [] rfl ?_ ?_ trivial trivial ?_
   ·exact ⟨(iP rfl),(iV rfl),(iS rfl),(iP rfl),(iV rfl),(iP rfl),(iP rfl),(cm ag),(cI rfl ag),trivial⟩
   ·exact ⟨(ci rfl rfl rfl),(ci rfl rfl rfl),(ci rfl rfl rfl),(ci rfl rfl rfl),(eX rfl rfl rfl (by simp [ft])),trivial⟩
   kernel_rfl) ?_
  ·omega
  intro j hj
  refine aU fun K17 hK17=> ?_
  refine am (aX rfl (bb rfl rfl rfl (eZ rfl rfl rfl (ai (bn _ aa rfl) (ai (bl _ _ rfl rfl rfl) (aj (aR rfl (fun hc54=> ?_) (fun hc54=> ?_))))))))
  ·skip
   have evg:=Dd rc r.sent j ab
   have hrc:rc=⟨1,(h:Int),s.counts.getD h 0⟩:=sn1.resolve_left (fun e=> by rw [e] at hc54;simp at hc54;omega)
   have hto:=sn2 _ (tJ (l:=r.sent) (k:=j) ab)
   have hla:(all++ft s h j).length=all.length+j:=by rw [List.length_append,jx]
   have q2:=Bt (all++ft s h j) ⟨h,s.counts.getD h 0,j⟩
   rw [List.append_assoc,← ud] at q2
   have q3:(all.length+j)*5=(GC (all++ft s h j)).length:=by rw [su,hla]
   have rc1:rc.a=1:=by rw [hrc]
   have rc2:rc.b=(h:Int):=by rw [hrc]
   have rc3:rc.c=s.counts.getD h 0:=by rw [hrc]
   have rcE:([.v (.int .i64 rc.a), .v (.int .i64 rc.b), .v (.int .i64 rc.c)]:List AV)=[.v (.int .i64 1), .v (.int .i64 (h:Int)), .v (.int .i64 (s.counts.getD h 0))]:=by rw [rc1,rc2,rc3]
   rw [rc1,rc2,rc3] at evg
   generalize mO r.sent j=x at evg hto
   refine bs (hK17 _ ?_)
   clear hK17;try clear K17
   refine aq (ay (am (bb rfl rfl rfl (eZ rfl rfl rfl (aX rfl ?_)))))
   refine ai (bo _ _ aa rfl rfl _ rfl ab (by (simp only [aN,bh,bk,aN,su,eQ,kS,gM,nL,jc];omega)) ag) ?_
   refine ai (cd _ aa rfl (by exact evg) rfl) ?_
   refine ai (aC (17,0) aa rfl rfl) (bF rfl rfl rfl rfl rfl rfl (aj (aq (am (bb rfl rfl rfl (bb rfl rfl rfl (ai (az _ aa rfl rfl rfl rfl) (bb rfl rfl rfl (ai (az _ aa rfl rfl (by exact rcE) rfl) ?_)))))))))
   refine ai (Fx _ _ rfl rfl) (cL rfl (ax rfl rfl (aA _ aa rfl rfl rfl) (ax rfl rfl (aA _ aa rfl rfl rfl) (ax rfl rfl (aF _ aa rfl rfl ei) (ax rfl rfl (aI _ em) (ax rfl rfl (bX (r:=false) _ _ rfl rfl (bne_self_eq_false _)) ?_))))))
   refine ai (aE _ _ _ rfl bR) (cL rfl (ax rfl rfl (aA _ aa rfl rfl rfl) (ax rfl rfl (aA _ aa rfl rfl rfl) (ax rfl rfl (aF _ aa rfl rfl ei) (ax rfl rfl (bX (r:=false) _ _ rfl rfl rfl) (ai (aE _ _ _ rfl bR) (cL rfl (ax rfl rfl (aA _ aa rfl rfl rfl) (ax rfl rfl (aF _ aa rfl rfl ei) (ax rfl rfl (bl (r:=false) _ _ rfl rfl (decide_eq_false ab)) ?_))))))))))
   refine ai (aE _ _ _ rfl bR) (cL rfl (ax rfl rfl (aA _ aa rfl rfl rfl) (ax rfl rfl (aF _ aa rfl rfl ei) (ax rfl rfl (fU (r:=false) _ _ rfl rfl (decide_eq_false ab)) ?_))))
   refine ai (aE _ _ _ rfl bR) (aj (aW rfl rfl (aS (aU fun K23 hK23=> ?_))))
   refine aq ?_
   refine aM (σ':=aD 111 [(7,_),(8,_),(9,_),(10,_),(11,_),(12,_),(13,_),(14,_),(16,_),(17,_)] [((7,0),_),((10,0),_),((13,0),_),((14,0),_),((60,0),_),((17,0),_)] [] []) kp ?_
   refine an (be rfl (aj (ay ?_)))
   refine bq (α:=Nat) (fun n=> n≤all.length+j) 111 [(7,_),(8,_),(9,_),(10,_),(11,_),(12,_),(13,_),(14,_),(16,_),(17,_)] [((7,0),_),((10,0),_),((13,0),_),((14,0),_),((60,0),_),((17,0),_)] (fun n=> [(18, .v (.int .i64 (n:Int)))]) (fun n=> []) [] [] (fun n=> all.length+j - n) 0 ?_ (by
    refine Le.mkJ [] [] rfl ?_ ?_ trivial trivial ?_
    ·exact ⟨(iP rfl),(iV rfl),(iS rfl),(iP rfl),(iR rfl),(iV rfl),(iP rfl),(iP rfl),(iV rfl),(iP rfl),(cm ag),trivial⟩
    ·exact ⟨(ci rfl rfl rfl),(ci rfl rfl rfl),(ci rfl rfl rfl),(ci rfl rfl rfl),(ci rfl rfl rfl),(ci rfl rfl rfl),trivial⟩
    kernel_rfl) ?_
   ·omega
   intro n hn
   refine aU fun K25 hK25=> ?_
   refine am (aX rfl (gw rfl (ai (dh _ aa rfl rfl) (ai (bl _ _ rfl rfl rfl) (aj (aR rfl (fun hc94=> ?_) (fun hc94=> ?_)))))))
   ·skip
    have mg:=zW (all++ft s h j) n ab
    have mn:=HA hold (h:=h) (j:=j) (n:=n) ab
    refine bs (hK25 _ ?_)
    clear hK25;try clear K25
    refine aq (ay (aq ?_))
    refine aM (σ':=aD 111 [(7,_),(8,_),(9,_),(10,_),(11,_),(12,_),(13,_),(14,_),(16,_),(17,_),(18,_)] [((7,0),_),((10,0),_),((13,0),_),((14,0),_),((60,0),_),((17,0),_)] [] []) kp ?_
    refine bJ 7 [97,98,99,100,101,102,103] [] ae ae rfl (aK rfl) (rfl:_=[_,_,_,_,_,_,_]) (rfl:_=[]) ?_
    refine ap (_,[]) (fun τ=> aI _ dR) ?_
    refine fP rfl ?_
    refine ap (_,[]) (fun τ=> aI _ em) ?_
    refine fO rfl ?_
    refine ap (_,[]) (fun τ=> fZ _ _ aa rfl rfl rfl _ rfl ab (by exact Nat.zero_add _)) ?_
    refine fN rfl ?_
    refine ap (_,[]) (fun τ=> tK _ aa rfl rfl (by exact mg) rfl) ?_
    refine fS rfl ?_
    refine ap (_,[]) (fun τ=> aA _ aa rfl rfl rfl) ?_
    refine gk rfl ?_
    refine ap (_,[]) (fun τ=> az _ aa rfl rfl rfl rfl) ?_
    refine gU rfl ?_
    refine ap (_,[]) (fun τ=> HN _ _ rfl rfl (decide_eq_false mn)) ?_
    refine iL rfl (bm ⟨rfl,?_⟩)
    refine aj (aW rfl rfl (cq (an (aX rfl (ai (aZ _ _ rfl rfl (bE ab)) ?_)))))
    refine be rfl (aJ (⟨n+1,?_,?_,?_⟩))
    ·omega
    ·skip
     refine Le.mkJ [] [] rfl ?_ ?_ trivial trivial ?_
     ·exact ⟨(iP rfl),(iV rfl),(iS rfl),(iP rfl),(iR rfl),(iV rfl),(iP rfl),(iP rfl),(iV rfl),(iP rfl),(cm ag),trivial⟩
     ·exact ⟨(ci rfl rfl rfl),(ci rfl rfl rfl),(ci rfl rfl rfl),(ci rfl rfl rfl),(ci rfl rfl rfl),(ci rfl rfl rfl),trivial⟩
     kernel_rfl
    omega
   refine bA (id (hK23 _ ?_))
   clear hK23;try clear K23
   refine an (gw rfl (bb rfl rfl rfl (ai (az _ aa rfl rfl rfl rfl) (ai (bg (xs:=Ht ⟨h,s.counts.getD h 0,j⟩) _ _ aa rfl ag (by simp <;> rfl) ah rfl) ?_))))
   refine ai (dq (108,0) _ _ aa rfl rfl q3 (.sl rfl) ab rfl q2 rfl) ?_
   refine fh rfl (eg (an (aX rfl (ai (aZ _ _ rfl rfl (bE ab)) ?_))))
   refine be rfl (aJ (⟨j+1,?_,?_,?_⟩))
   ·omega
   ·skip
    refine Le.mkJ [((60,0),(108,0))] [] rfl ?_ ?_ trivial trivial ?_
    ·exact ⟨(dz (id:=(7,0)) rfl),(by repeat' (exact Lv.v)),(by repeat' (exact Lv.sl)),(dz (id:=(10,0)) rfl),(by repeat' (exact Lv.v)),(dz (id:=(13,0)) rfl),(dz (id:=(14,0)) rfl),(cm ag),(cI rfl ag),trivial⟩
    ·exact ⟨(fi rfl rfl rfl rfl (by repeat' (first | exact Lv.v | exact Lv.sl | exact bf | refine au ?_ ?_))),(fi rfl rfl rfl rfl (by repeat' (first | exact Lv.v | exact Lv.sl | exact bf | refine au ?_ ?_))),(fi rfl rfl rfl rfl (by repeat' (first | exact Lv.v | exact Lv.sl | exact bf | refine au ?_ ?_))),(fi rfl rfl rfl rfl (by repeat' (first | exact Lv.v | exact Lv.sl | exact bf | refine au ?_ ?_))),(eX rfl rfl rfl ag),trivial⟩
    kernel_rfl
   omega
  obtain rfl:j=r.sent.length:=by omega
  refine bA (id (hK15 _ ?_))
  clear hK15;try clear K15
  refine an (ai (az _ aa rfl rfl rfl rfl) (bF rfl rfl rfl rfl rfl rfl (eg (an (aX rfl (ai (aZ _ _ rfl rfl (bE ab)) ?_))))))
  refine be rfl (aJ (⟨(k+1,s',all++ft s h r.sent.length),?_,?_,?_⟩))
  ·exact ⟨by omega,hsx,by rw [hcn];exact Cm hold ab (fun m hm=> by obtain ⟨i,_,rfl⟩:=List.mem_map.1 hm;exact ⟨rfl,rfl⟩),by rw [List.length_append,jx];omega⟩
  ·skip
   refine Le.mkJ [] [] rfl ?_ ?_ trivial trivial ?_
   ·exact ⟨(iP rfl),(iV rfl),(iS rfl),(iP rfl),(cm ag),(cI rfl (by (rw [List.length_append,jx]))),trivial⟩
   ·exact ⟨(ci rfl rfl rfl),(fi rfl rfl rfl rfl lz),(eX rfl rfl rfl ag),trivial⟩
   kernel_rfl
  omega
 refine bA (id (hK7 _ ?_))
 clear hK7;try clear K7
 refine am (ai (aH aa (by repeat' (exact cV)) (Gv) rfl rfl) ?_)
 exact cr rfl (aj (aG (fu rfl rfl)))
theorem oh (one:Int) (dr:Int) (hone: -9223372036854775808≤one∧one≤9223372036854775807) (hdr: -9223372036854775808≤dr∧dr≤9223372036854775807) (n0:Nat) (l:List Int) (h0:l.length=n0) (g0:n0≤4611686018427387904) (r0:Rng l):
  Spec Tryz.prog 14 (ba [.v (.int .i64 one), .v (.int .i64 dr), .sl n0 (cp l)] []) (aO (.v (.bool true)) []):=by
 subst h0
 exact qF one dr l hone hdr g0 r0
end Go.Proofs.YtmjnackchaahbaaGreat
