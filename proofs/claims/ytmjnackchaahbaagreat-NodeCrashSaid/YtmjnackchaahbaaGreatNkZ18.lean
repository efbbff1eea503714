/- Part 18 of the texts that the walk leans on: the machine, the walks, the plain laws. -/
import Derived.Test.YtmjnackchaahbaaGreatNkZ17
set_option linter.unusedSimpArgs false
set_option linter.unusedVariables false
namespace Go.Proofs.YtmjnackchaahbaaGreat
open Go.RowKit

theorem wr {names:List Int} (hl:names.length=9) (self nodes clock:Int):(eB names self nodes clock).getD 0 0=self∧(eB names self nodes clock).getD 1 0=nodes∧(eB names self nodes clock).getD 2 0=clock∧
  (eB names self nodes clock).getD 3 0=names.getD 3 0∧(eB names self nodes clock).getD 4 0=names.getD 4 0∧(eB names self nodes clock).getD 5 0=names.getD 5 0∧(eB names self nodes clock).getD 6 0=names.getD 6 0∧(eB names self nodes clock).getD 7 0=names.getD 7 0∧(eB names self nodes clock).getD 8 0=names.getD 8 0:=by
 match names,hl with
 | [a,b,c,d,e,f,g,h,i],_=> exact ⟨rfl,rfl,rfl,rfl,rfl,rfl,rfl,rfl,rfl⟩
structure HdOk (P:Pg) (tm:Int) (s:Ns):Prop where
 pg:pQ P
 cl:P.c.length≤1000000
 tc:TmC P.c tm=true
 ns:ug P s
 tl:qx tm s.timers
 cb: ∀ k, -1000000≤s.counts.getD k 0∧s.counts.getD k 0≤1000000
 ck: -1000000≤s.clock∧s.clock≤1000000
theorem HdOk.sm {P:Pg} {tm:Int} {s:Ns} (h:HdOk P tm s):jR s∧jy s.dk:=by
 have h1:=h.ns.dk.len
 have h2:=h.ns.dk.pn
 have h3:=h.ns.vl
 have h4:=h.pg.nv
 refine ⟨⟨by omega,by omega,by omega,?_⟩,fun w hw=> ?_⟩
 ·rcases h.tl with h | h <;> rw [h] <;> simp
 obtain ⟨b1,b2,_⟩:=h.ns.dk.pr w hw
 exact ⟨b1,by omega⟩
abbrev Np (t:Tl) (np:Nat) (pre:List PV):Tl:={ t with np:=np,pre:=pre }
theorem Ai {clock drift tick:Int} (h:drift≤0):de clock drift tick=clock+1:=by unfold de;rw [if_neg ab,Int.add_zero]
theorem Bj {clock drift tick:Int} (h:0 < drift):de clock drift tick=clock+1+tick % (drift+1):=by unfold de;rw [if_pos h]
abbrev gP (s:Ns) (P:Pg) (h:Nat) (self nodes drift tick:Int) (names ans:List Int):Ms:=qI P h (eB names self nodes (de s.clock drift tick)) (s.dk.view++s.vol) ans
theorem uD (s:Ns) (P:Pg) (h:Nat) (self nodes drift tick:Int) (names ans:List Int):cR s h (de s.clock drift tick) P (gP s P h self nodes drift tick names ans) (gP s P h self nodes drift tick names ans).acts.length=dx s P h self nodes drift tick names ans:=by
 obtain ⟨h1,h2,_⟩:=sR P h (eB names self nodes (de s.clock drift tick)) (s.dk.view++s.vol) ans
 show ((gP s P h self nodes drift tick names ans).acts.take (gP s P h self nodes drift tick names ans).acts.length).foldl ei (ON s h (de s.clock drift tick) ((gP s P h self nodes drift tick names ans).vars.drop P.d),{})=_
 rw [List.take_length]
 unfold dx
 show _=(jK P h (eB names self nodes (de s.clock drift tick)) (s.dk.view++s.vol) ans).acts.foldl ei _
 rw [← h1,show (gw s P h self nodes drift tick names ans).vars=(gP s P h self nodes drift tick names ans).vars from h2.symm]
def pq (t:Tl) (drift tick:Int):List PV:=if 0 < drift then vp t 2 0 (drift+1) (tick % (drift+1)) else []
def pv (drift:Int):Nat:=if 0 < drift then 1 else 0
theorem ru (P:Pg) (tm:Int) (s:Ns) (hs:HdOk P tm s) (h:Nat) (hh:h < 40) (self nodes drift tick:Int) (names ans:List Int) (mj:names.length=9) (hn: ∀ i,Rg (names.getD i 0)) (h1:Rg self) (h2:Rg nodes) (h3:Rg (de s.clock drift tick)) (hdr:0≤drift∧drift≤1000) (t:Tl)
  (hlk:0 < drift→tA t 2 0 (drift+1) (tick % (drift+1))) (hld: ∀ (i:Nat) (k:Int),i≤100000→2≤k→k≤4→tA t 1 (i:Int) k (gK ans i k)) (R:Ms) (hR:R=gP s P h self nodes drift tick names ans) (n0:Nat) (L0:List PV) (hn0:n0≤10) (hL0:L0.length=n0*7) (h00:0 < drift→n0=0∧L0=[]):
  Spec Tryz.prog 81 (aY [jT s,ij P, .v (.int .i64 (h:Int)), .v (.int .i64 self), .v (.int .i64 nodes), .v (.int .i64 drift),Dl names,jD] (pw t n0 L0 (5,9)))
   (iW ⟨self,(h:Int),s.counts.getD h 0⟩ R (dx s P h self nodes drift tick names ans) t (n0+pv drift+R.asked.length) (L0++pq t drift tick++tf t ans R.asked)):=by
 obtain ⟨hsm,hin⟩:=hs.sm
 have hpn:=hs.pg.nv
 obtain ⟨v1,v2⟩:=hs.ns.dk.view
 have hvl:=hs.ns.vl
 have hiv:(s.dk.view++s.vol).length=P.d+P.v:=by rw [List.length_append,v1,hvl]
 have hir: ∀ v∈s.dk.view++s.vol,Rg v:=fun v hv=> (List.mem_append.1 hv).elim (v2 v) (hs.ns.vr v)
 have vy:=rM hn h1 h2 h3
 obtain ⟨a1,a2,a3⟩:=sR P h (eB names self nodes (de s.clock drift tick)) (s.dk.view++s.vol) ans
 obtain ⟨iv,_,_⟩:=uW hs.pg (h:=h) (names:=eB names self nodes (de s.clock drift tick)) (vars:=s.dk.view++s.vol) (ans:=ans) vy hiv hir
 have hRv:R.vars.length=P.d+P.v:=by rw [hR];show (qI _ _ _ _ _).vars.length=_;rw [a2];exact iv.vl
 have hRa:R.acts.length≤500:=by rw [hR];exact EN _ _ _ _ _
 have hac: ∀ a∈R.acts,xc tm a∧Rg a.b:=fun a ha=> by
  rw [hR] at ha
  have ha:a∈(jK P h (eB names self nodes (de s.clock drift tick)) (s.dk.view++s.vol) ans).acts:=a1 ▸ ha
  obtain ⟨⟨_,q1,_,_⟩,_,_⟩:=iv.ac a ha
  exact ⟨uS hs.tc _ _ _ _ a ha,q1⟩
 have hq:=Jd ⟨self,(h:Int),s.counts.getD h 0⟩ (h:=h) (ck:=de s.clock drift tick) (P:=P) (R:=R) (TmC.rg hs.tc) hac hs.tl hs.ns.dk ab ab hRa
 obtain ⟨g0,g1,g2,g3,g4,g5,g6,g7,g8⟩:=wr mj self nodes (de s.clock drift tick)
 have hrun:=fun (t':Tl) (ht:xP ⟨P,s.dk.view++s.vol,eB names self nodes (de s.clock drift tick),ans,t'⟩)=> Ja P hs.pg hs.cl h hh (eB names self nodes (de s.clock drift tick)) (s.dk.view++s.vol) ans vy hiv hir t' ht R hR
 rw [g0,g1,g2,g3,g4,g5,g6,g7,g8] at hrun
 rw [← uD,← hR]
 by_cases hd:0 < drift
 ·obtain ⟨rfl,rfl⟩:=h00 hd
  have hmod:0≤tick % (drift+1)∧tick % (drift+1) < drift+1:=⟨Int.emod_nonneg _ ab,Int.emod_lt_of_pos _ ab⟩
  have hv:=hrun (Np t 1 (vp t 2 0 (drift+1) (tick % (drift+1)))) ⟨by show 1≤10;omega,rfl,fun i k x y z=> hld i k x y z⟩
  rw [Bj hd] at hv hq ⊢
  rw [show pq t drift tick=vp t 2 0 (drift+1) (tick % (drift+1)) from if_pos hd,show pv drift=1 from if_pos hd,Nat.zero_add,List.nil_append]
  exact QU s hsm hin hs.ns.ct P h hh self nodes drift (tick % (drift+1)) names t hd (hlk hd) ⟨hmod.1,by omega⟩ ab hs.cb hs.ck R (tf t ans R.asked) hv ab ab hRa hq
 have hv:=hrun (Np t n0 L0) ⟨hn0,hL0,fun i k x y z=> hld i k x y z⟩
 rw [Ai ab] at hv hq ⊢
 rw [show pq t drift tick=[] from if_neg hd,show pv drift=0 from if_neg hd,Nat.add_zero,List.append_nil]
 exact Lt s hsm hin hs.ns.ct P h hh self nodes drift 0 names t n0 L0 ab hs.cb hs.ck R (tf t ans R.asked) hv ab ab hRa hq
theorem uQ (P:Pg) (tm:Int) (s:Ns) (hs:HdOk P tm s) (h:Nat) (hh:h < 40) (self nodes drift tick:Int) (names ans:List Int) (mj:names.length=9) (hn: ∀ i,Rg (names.getD i 0)) (h1:Rg self) (h2:Rg nodes) (h3:Rg (de s.clock drift tick)) (hdr:0≤drift∧drift≤1000) (t:Tl)
  (hlk:0 < drift→tA t 2 0 (drift+1) (tick % (drift+1))) (hld: ∀ (i:Nat) (k:Int),i≤100000→2≤k→k≤4→tA t 1 (i:Int) k (gK ans i k)) (R:Ms) (hR:R=gP s P h self nodes drift tick names ans):
  Spec Tryz.prog 81 (aY [jT s,ij P, .v (.int .i64 (h:Int)), .v (.int .i64 self), .v (.int .i64 nodes), .v (.int .i64 drift),Dl names,jD] (pw t 0 [] (5,9)))
   (iW ⟨self,(h:Int),s.counts.getD h 0⟩ R (dx s P h self nodes drift tick names ans) t (pv drift+R.asked.length) (pq t drift tick++tf t ans R.asked)):=by
 have:=ru P tm s hs h hh self nodes drift tick names ans mj hn h1 h2 h3 hdr t hlk hld R hR 0 [] (Nat.zero_le _) rfl (fun _=> ⟨rfl,rfl⟩)
 rwa [Nat.zero_add,List.nil_append] at this

theorem Ju (i:Nat):Rg ((List.replicate 9 (0:Int)).getD i 0):=by
 by_cases hi:i < 9
 ·rw [List.getD_eq_getElem?_getD,List.getElem?_replicate,if_pos hi];exact oN
 rw [List.getD_eq_getElem?_getD,List.getElem?_replicate,if_neg hi];exact oN
theorem Az (P:Pg) (tm:Int) (s:Ns) (hs:jR s) (ho:jy s.dk) (ver:Int) (hb:HdOk P tm (cP s P ver)) (self nodes drift tick:Int) (ans:List Int) (h1:Rg self) (h2:Rg nodes) (h3:Rg (de s.clock drift tick)) (hdr:0≤drift∧drift≤1000) (t:Tl)
  (hlk:0 < drift→tA t 2 0 (drift+1) (tick % (drift+1))) (hld: ∀ (i:Nat) (k:Int),i≤100000→2≤k→k≤4→tA t 1 (i:Int) k (gK ans i k)) (R:Ms) (hR:R=gP (cP s P ver) P 0 self nodes drift tick (List.replicate 9 0) ans) (n0:Nat) (L0:List PV) (hn0:n0≤10) (hL0:L0.length=n0*7) (h00:0 < drift→n0=0∧L0=[]):
  Spec Tryz.prog 56 (aY [jT s,ij P, .v (.int .i64 ver), .v (.int .i64 self), .v (.int .i64 nodes), .v (.int .i64 drift),jD] (pw t n0 L0 (5,9)))
   (iW ⟨self,((0:Nat):Int),s.counts.getD 0 0⟩ R (mM s P ver self nodes drift tick ans) t (n0+pv drift+R.asked.length) (L0++pq t drift tick++tf t ans R.asked)):=by
 have hpn:=hb.pg.nv
 have hH:=ru P tm (cP s P ver) hb 0 ab self nodes drift tick (List.replicate 9 0) ans rfl Ju h1 h2 h3 hdr t hlk hld R hR n0 L0 hn0 hL0 h00
 by_cases hd:s.dk.cells.length=P.d
 ·exact QC s hs ho P ver self nodes drift t n0 L0 hd ab ab _ R _ _ _ hH
 exact PZ s hs ho P ver self nodes drift t n0 L0 hd ab ab _ R _ _ _ hH
theorem wM (P:Pg) (tm:Int) (s:Ns) (hs:jR s) (ho:jy s.dk) (ver:Int) (hb:HdOk P tm (cP s P ver)) (self nodes drift tick:Int) (ans:List Int) (h1:Rg self) (h2:Rg nodes) (h3:Rg (de s.clock drift tick)) (hdr:0≤drift∧drift≤1000) (t:Tl)
  (hlk:0 < drift→tA t 2 0 (drift+1) (tick % (drift+1))) (hld: ∀ (i:Nat) (k:Int),i≤100000→2≤k→k≤4→tA t 1 (i:Int) k (gK ans i k)) (R:Ms) (hR:R=gP (cP s P ver) P 0 self nodes drift tick (List.replicate 9 0) ans):
  Spec Tryz.prog 56 (aY [jT s,ij P, .v (.int .i64 ver), .v (.int .i64 self), .v (.int .i64 nodes), .v (.int .i64 drift),jD] (pw t 0 [] (5,9)))
   (iW ⟨self,((0:Nat):Int),s.counts.getD 0 0⟩ R (mM s P ver self nodes drift tick ans) t (pv drift+R.asked.length) (pq t drift tick++tf t ans R.asked)):=by
 have:=Az P tm s hs ho ver hb self nodes drift tick ans h1 h2 h3 hdr t hlk hld R hR 0 [] (Nat.zero_le _) rfl (fun _=> ⟨rfl,rfl⟩)
 rwa [Nat.zero_add,List.nil_append] at this
theorem uG {P:Pg} {tm:Int} {s:Ns} {m:Nat} (hp:pQ P) (hc:P.c.length≤1000000) (ht:TmC P.c tm=true) (hd:DkOk m s.dk) (hct:s.counts.length=41) (hcb: ∀ k, -1000000≤s.counts.getD k 0∧s.counts.getD k 0≤1000000) (hck: -1000000≤s.clock∧s.clock≤1000000) (ver:Int):HdOk P tm (cP s P ver) where
 pg:=hp
 cl:=hc
 tc:=ht
 ns:={
  dk:=by
   show DkOk P.d (if s.dk.cells.length=P.d then s.dk else s.dk.resize P.d)
   split
   ·rename_i h
    have:=hd.len
    rwa [← h,this]
   exact hd.resize P.d
  vl:=List.length_replicate
  vr:=fun v hv=> by
   have hv:v∈List.replicate P.v (0:Int):=hv
   rw [List.mem_replicate] at hv;rw [hv.2];exact oN
  tm:=⟨List.Pairwise.nil,fun x hx=> by cases hx⟩
  ct:=hct }
 tl:= .inl rfl
 cb:=hcb
 ck:=hck

abbrev Dm (c:Cz) (r:Nr) (o:Ms):AV:= .agg [.v (.int .i64 c.a), .v (.int .i64 c.b), .v (.int .i64 c.c), .sl r.sent.length (Cl c r.sent), .v (.bool r.repl), .v (.int .i64 r.value), .sl r.fails.length (cm r.fails), .sl o.vars.length (cm o.vars), .sl o.acts.length (vq o.acts), .v (.int .i64 (o.steps:Int)), .v (.bool (!o.fin)), .sl (fx (kC o.cov)).length (cm (fx (kC o.cov)))]
abbrev fh (s:Ns) (a:Na) (h:Nat):Tl:=⟨1,(h:Int),cO s h,(lg 1 (h:Int) (cO s h) a.tick a.draws a.keeps).length,ri (lg 1 (h:Int) (cO s h) a.tick a.draws a.keeps),0,[]⟩
abbrev nh (s':Ns) (rd:AV) (t:Tl) (n:Nat) (L:List PV):St:=aP (.tup [jT s',rd, .ptr (4,8) 0]) [((4,8), .box 103 [.v (.int .i64 t.c1), .v (.int .i64 t.c2), .v (.int .i64 t.c3), .sl t.na t.A, .ref (5,8) 0 n]),((5,8), .row 111 7 L)]
abbrev Kb:AV:= .agg [.v (.int .i64 0), .v (.int .i64 0), .v (.int .i64 0), .sl 0 [], .v (.bool false), .v (.int .i64 0), .sl 0 [], .sl 0 [], .sl 0 [], .v (.int .i64 0), .v (.bool false), .sl 0 []]
set_option maxHeartbeats 4000000 in
theorem QS (s:Ns) (hup:s.up=false) (hep:0≤s.epoch) (he2:s.epoch % 2=0) (P Q:Pg) (drift:Int) (a:Na) (h1:a.draws.length≤1000) (h2:a.keeps.length≤1000) (c:Cz) (R:Ms) (q:Ns×Nr) (n:Nat) (L:List PV)
  (hS:Spec Tryz.prog 56 (aY [jT s,ij P, .v (.int .i64 0), .v (.int .i64 1), .v (.int .i64 3), .v (.int .i64 drift),jD] (pw (fh s a 0) 0 [] (5,9))) (iW c R q (fh s a 0) n L)):
  Spec Tryz.prog 45 (ba [jT s,ij P,ij Q, .v (.int .i64 drift),Cw a] []) (nh q.1 (Dm c q.2 R) (fh s a 0) n L):=by
 have htl:=gE s a 0 ab h1 h2
 refine Spec.ofN Tryz.func45 rfl Tryz.ntmps45 rfl ?_
 refine am (ai (aQ (5,0) _ rfl rfl) (ai (aQ (6,0) _ rfl rfl) (ai (aQ (7,0) _ rfl rfl) (ai (aQ (9,0) _ rfl rfl) (ai (aB (10,0) aa rfl rfl) (ai (aB (11,0) aa rfl rfl) (ai (bp _ kL) (aj (aq (am ?_))))))))))
 refine bc rfl rfl rfl (zn rfl rfl rfl (ai (cq (r:=true) _ rfl (by rw [hup];rfl)) ?_))
 refine aj (bK rfl rfl (am (ai (az _ aa rfl rfl rfl rfl) (ai (az _ aa rfl rfl rfl rfl) (ai (bQ aa [((4,8),(28,0))] ar (htl.toI) trivial tr tr rfl rfl ae ae) ?_)))))
 refine wg rfl (aj (am (ai (az _ aa rfl rfl rfl rfl) (ai (aB (14,0) aa rfl rfl) (bF rfl rfl rfl rfl rfl rfl (aj (aq ?_)))))))
 refine aM (σ':=aE 90 [(3,_),(5,_),(7,_),(10,_),(11,_),(13,_),(14,_)] [((5,0),_),((7,0),_),((10,0),_),((11,0),_),((28,0),_),((14,0),_)] [] []) kp ?_
 refine an (bg rfl (aj (aq (am (bc rfl rfl rfl (cd rfl rfl rfl (ai (dX (r:=0) _ _ rfl rfl ab ((Int.tmod_eq_emod_of_nonneg hep).trans he2)) ?_)))))))
 refine gR rfl rfl rfl (aj (aW rfl rfl (aS (aT fun K9 hK9=> ?_))))
 refine aM (Le.nilB (28,0) 4 (60,0) 111 7 rfl rfl rfl) ?_
 refine an (ai (az _ aa rfl rfl rfl rfl) (ai (az _ aa rfl rfl rfl rfl) (aX rfl (aX rfl (bS rfl (ai (jp _ _ (rfl:_=[AV.ptr _ _]) (rfl:_=[])) ?_))))))
 refine ai (bQ aa [((4,9),(28,0)),((5,9),(60,0)),((1,8),(42,0)),((2,8),(42,1)),((3,8),(42,2)),((6,8),(42,3)),((5,8),(42,4))] ar (hS) ob tr tr rfl rfl ae ae) ?_
 refine ai (aI _ tK) (ai (cp _ rfl px) (ai (cp _ rfl px) (ai (aB (16,0) aa rfl rfl) (ai (aB (17,0) aa rfl rfl) (bF rfl rfl rfl rfl rfl rfl (bF rfl rfl rfl rfl rfl rfl (aJ (hK9 _ ?_))))))))
 clear hK9;try clear K9
 refine aq ?_
 refine aM (σ':=aE 90 [(10,_),(11,_),(13,_),(16,_),(17,_)] [((10,0),_),((11,0),_),((28,0),_),((42,0),_),((42,1),_),((42,2),_),((42,3),_),((42,4),_),((16,0),_),((17,0),_)] [] []) kp ?_
 refine ic 5 [45,46,47] [(10,0),(11,0)] [[(10,0),(11,0)],[(11,0)],[],[(11,0)],[]] ae ae rfl (aK rfl) (rfl:_=[_,_,_,_,_]) (rfl:_=[_]) ?_
 refine ap (_,[]) (fun τ=> az _ aa rfl rfl rfl rfl) ?_
 refine fO rfl ?_
 refine ap (_,[]) (fun τ=> az _ aa rfl rfl rfl rfl) ?_
 refine fN rfl ?_
 refine ap (_,[]) (fun τ=> aI _ bX) ?_
 refine fP rfl ?_
 refine ap (_,[((10,0),_)]) (fun τ=> dG _ _ aa rfl (eF rfl (by exact dO) rfl) rfl rfl (Nat.le_of_ble_eq_true rfl) rfl) ?_
 refine fV rfl ?_
 refine ap (_,[((11,0),_)]) (fun τ=> dG _ _ aa rfl (eF rfl (by exact dO) rfl) rfl rfl (Nat.le_of_ble_eq_true rfl) rfl) ?_
 refine gm rfl (bo ⟨⟨rfl,by kernel_rfl⟩,?_⟩)
 refine wg rfl (aj (aG ?_))
 exact vU (.inr rfl) rfl (.cellA aa rfl rfl rfl) (.cellA aa rfl rfl rfl) (.tmp bX) (Le.out [((4,8),(28,0)),((5,8),(42,4))] [(42,0),(42,1),(42,2),(42,3)] (.tup rfl (ax (.agg rfl (zo (ax .sl (ax .sl (ax .sl (ax (fj rfl rfl (by rw [aL,Nat.mul_one]) rfl) lz)))))) (ax (.agg rfl (ax .v (ax .v (ax .v (ax (fj rfl rfl (gT _ _).symm rfl) (ax .v (ax .v (ax (fj rfl rfl (by rw [aL,Nat.mul_one]) rfl) (ax .sl (ax (fj rfl rfl (fi _).symm rfl) lz)))))))))) lz))) rfl rfl rfl tr ob)
set_option maxHeartbeats 4000000 in
theorem Qi (s:Ns) (hup:s.up=false) (hep:0≤s.epoch) (he2:s.epoch % 2=1) (P Q:Pg) (drift:Int) (a:Na) (h1:a.draws.length≤1000) (h2:a.keeps.length≤1000) (c:Cz) (R:Ms) (q:Ns×Nr) (n:Nat) (L:List PV)
  (hS:Spec Tryz.prog 56 (aY [jT s,ij Q, .v (.int .i64 1), .v (.int .i64 1), .v (.int .i64 3), .v (.int .i64 drift),jD] (pw (fh s a 0) 0 [] (5,9))) (iW c R q (fh s a 0) n L)):
  Spec Tryz.prog 45 (ba [jT s,ij P,ij Q, .v (.int .i64 drift),Cw a] []) (nh q.1 (Dm c q.2 R) (fh s a 0) n L):=by
 have htl:=gE s a 0 ab h1 h2
 refine Spec.ofN Tryz.func45 rfl Tryz.ntmps45 rfl ?_
 refine am (ai (aQ (5,0) _ rfl rfl) (ai (aQ (6,0) _ rfl rfl) (ai (aQ (7,0) _ rfl rfl) (ai (aQ (9,0) _ rfl rfl) (ai (aB (10,0) aa rfl rfl) (ai (aB (11,0) aa rfl rfl) (ai (bp _ kL) (aj (aq (am ?_))))))))))
 refine bc rfl rfl rfl (zn rfl rfl rfl (ai (cq (r:=true) _ rfl (by rw [hup];rfl)) ?_))
 refine aj (bK rfl rfl (am (ai (az _ aa rfl rfl rfl rfl) (ai (az _ aa rfl rfl rfl rfl) (ai (bQ aa [((4,8),(28,0))] ar (htl.toI) trivial tr tr rfl rfl ae ae) ?_)))))
 refine wg rfl (aj (am (ai (az _ aa rfl rfl rfl rfl) (ai (aB (14,0) aa rfl rfl) (bF rfl rfl rfl rfl rfl rfl (aj (aq ?_)))))))
 refine aM (σ':=aE 90 [(3,_),(5,_),(7,_),(10,_),(11,_),(13,_),(14,_)] [((5,0),_),((7,0),_),((10,0),_),((11,0),_),((28,0),_),((14,0),_)] [] []) kp ?_
 refine an (bg rfl (aj (aq (am (bc rfl rfl rfl (cd rfl rfl rfl (ai (dX (r:=1) _ _ rfl rfl ab ((Int.tmod_eq_emod_of_nonneg hep).trans he2)) ?_)))))))
 refine jY rfl rfl rfl (aj (bK rfl rfl (am (ai (az _ aa rfl rfl rfl rfl) (bF rfl rfl rfl rfl rfl rfl (aj (an (bg rfl (aj (aT fun K10 hK10=> ?_))))))))))
 refine aM (Le.nilB (28,0) 4 (60,0) 111 7 rfl rfl rfl) ?_
 refine an (ai (az _ aa rfl rfl rfl rfl) (ai (az _ aa rfl rfl rfl rfl) (aX rfl (aX rfl (bS rfl (ai (jp _ _ (rfl:_=[AV.ptr _ _]) (rfl:_=[])) ?_))))))
 refine ai (bQ aa [((4,9),(28,0)),((5,9),(60,0)),((1,8),(42,0)),((2,8),(42,1)),((3,8),(42,2)),((6,8),(42,3)),((5,8),(42,4))] ar (hS) ob tr tr rfl rfl ae ae) ?_
 refine ai (aI _ tK) (ai (cp _ rfl px) (ai (cp _ rfl px) (ai (aB (16,0) aa rfl rfl) (ai (aB (17,0) aa rfl rfl) (bF rfl rfl rfl rfl rfl rfl (bF rfl rfl rfl rfl rfl rfl (aJ (hK10 _ ?_))))))))
 clear hK10;try clear K10
 refine aq ?_
 refine aM (σ':=aE 90 [(10,_),(11,_),(13,_),(16,_),(17,_)] [((10,0),_),((11,0),_),((28,0),_),((42,0),_),((42,1),_),((42,2),_),((42,3),_),((42,4),_),((16,0),_),((17,0),_)] [] []) kp ?_
 refine ic 5 [45,46,47] [(10,0),(11,0)] [[(10,0),(11,0)],[(11,0)],[],[(11,0)],[]] ae ae rfl (aK rfl) (rfl:_=[_,_,_,_,_]) (rfl:_=[_]) ?_
 refine ap (_,[]) (fun τ=> az _ aa rfl rfl rfl rfl) ?_
 refine fO rfl ?_
 refine ap (_,[]) (fun τ=> az _ aa rfl rfl rfl rfl) ?_
 refine fN rfl ?_
 refine ap (_,[]) (fun τ=> aI _ bX) ?_
 refine fP rfl ?_
 refine ap (_,[((10,0),_)]) (fun τ=> dG _ _ aa rfl (eF rfl (by exact dO) rfl) rfl rfl (Nat.le_of_ble_eq_true rfl) rfl) ?_
 refine fV rfl ?_
 refine ap (_,[((11,0),_)]) (fun τ=> dG _ _ aa rfl (eF rfl (by exact dO) rfl) rfl rfl (Nat.le_of_ble_eq_true rfl) rfl) ?_
 refine gm rfl (bo ⟨⟨rfl,by kernel_rfl⟩,?_⟩)
 refine wg rfl (aj (aG ?_))
 exact vU (.inr rfl) rfl (.cellA aa rfl rfl rfl) (.cellA aa rfl rfl rfl) (.tmp bX) (Le.out [((4,8),(28,0)),((5,8),(42,4))] [(42,0),(42,1),(42,2),(42,3)] (.tup rfl (ax (.agg rfl (zo (ax .sl (ax .sl (ax .sl (ax (fj rfl rfl (by rw [aL,Nat.mul_one]) rfl) lz)))))) (ax (.agg rfl (ax .v (ax .v (ax .v (ax (fj rfl rfl (gT _ _).symm rfl) (ax .v (ax .v (ax (fj rfl rfl (by rw [aL,Nat.mul_one]) rfl) (ax .sl (ax (fj rfl rfl (fi _).symm rfl) lz)))))))))) lz))) rfl rfl rfl tr ob)
set_option maxHeartbeats 4000000 in
theorem Qp (s:Ns) (hup:s.up=true) (hv:s.ver≠1) (P Q:Pg) (drift:Int) (a:Na) (hcr:a.crash=false) (hh:a.h < 41) (h1:a.draws.length≤1000) (h2:a.keeps.length≤1000) (c:Cz) (R:Ms) (q:Ns×Nr) (n:Nat) (L:List PV)
  (hS:Spec Tryz.prog 81 (aY [jT { s with wait:=a.wait },ij P, .v (.int .i64 (a.h:Int)), .v (.int .i64 1), .v (.int .i64 3), .v (.int .i64 drift),Dl a.names,jD] (pw (fh s a a.h) 0 [] (5,9))) (iW c R q (fh s a a.h) n L)):
  Spec Tryz.prog 45 (ba [jT s,ij P,ij Q, .v (.int .i64 drift),Cw a] []) (nh q.1 (Dm c q.2 R) (fh s a a.h) n L):=by
 have htl:=gE { s with wait:=a.wait } a a.h hh h1 h2
 refine Spec.ofN Tryz.func45 rfl Tryz.ntmps45 rfl ?_
 refine am (ai (aQ (5,0) _ rfl rfl) (ai (aQ (6,0) _ rfl rfl) (ai (aQ (7,0) _ rfl rfl) (ai (aQ (9,0) _ rfl rfl) (ai (aB (10,0) aa rfl rfl) (ai (aB (11,0) aa rfl rfl) (ai (bp _ kL) (aj (aq (am ?_))))))))))
 refine bc rfl rfl rfl (zn rfl rfl rfl (ai (cq (r:=false) _ rfl (by rw [hup];rfl)) ?_))
 refine aj (aW rfl rfl (aS (aq (am (bc rfl rfl rfl (cd rfl rfl rfl (gR rfl rfl (by rw [if_neg (by rw [hcr];exact Bool.false_ne_true)];rfl) ?_)))))))
 refine aj (aW rfl rfl (aS (am (ai (az _ aa rfl rfl rfl rfl) (ai (aB (19,0) aa rfl rfl) (bF rfl rfl rfl rfl rfl rfl (aj (aq (aq ?_)))))))))
 refine aM (σ':=aE 90 [(3,_),(5,_),(7,_),(9,_),(10,_),(11,_),(19,_)] [((5,0),_),((7,0),_),((9,0),_),((10,0),_),((11,0),_),((19,0),_)] [] []) kp ?_
 refine an (bc rfl rfl rfl (cd rfl rfl rfl (gR rfl rfl (beq_eq_false_iff_ne.2 hv) ?_)))
 refine aj (aW rfl rfl (aS (am (bc rfl rfl rfl (cd rfl rfl rfl (bc rfl rfl rfl (bF rfl rfl rfl rfl rfl rfl (aj (am (ai (az _ aa rfl rfl rfl rfl) ?_))))))))))
 refine ai (az _ aa rfl rfl rfl rfl) (bc rfl rfl rfl (cd rfl rfl rfl (ai (bQ aa [((4,8),(72,0))] ar (htl.toI) trivial tr tr rfl rfl ae ae) ?_)))
 refine wg rfl (aj (aT fun K11 hK11=> ?_))
 refine aM (Le.nilB (72,0) 4 (60,0) 111 7 rfl rfl rfl) ?_
 refine an (ai (az _ aa rfl rfl rfl rfl) (ai (az _ aa rfl rfl rfl rfl) (bc rfl rfl rfl (cd rfl rfl rfl (aX rfl (bc rfl rfl rfl (ai (az _ aa rfl rfl rfl rfl) (ai (aN _ aa rfl (by exact AD)) ?_))))))))
 refine bS rfl (ai (jp _ _ (rfl:_=[AV.ptr _ _]) (rfl:_=[])) ?_)
 refine ai (bQ aa [((4,9),(72,0)),((5,9),(60,0)),((1,8),(84,0)),((2,8),(84,1)),((3,8),(84,2)),((6,8),(84,3)),((5,8),(84,4))] ar (hS) ob tr tr rfl rfl ae ae) ?_
 refine ai (aI _ tK) (ai (cp _ rfl px) (ai (cp _ rfl px) (ai (aB (21,0) aa rfl rfl) (ai (aB (22,0) aa rfl rfl) (bF rfl rfl rfl rfl rfl rfl (bF rfl rfl rfl rfl rfl rfl (aJ (hK11 _ ?_))))))))
 clear hK11;try clear K11
 refine aq ?_
 refine aM (σ':=aE 90 [(10,_),(11,_),(20,_),(21,_),(22,_)] [((10,0),_),((11,0),_),((72,0),_),((84,0),_),((84,1),_),((84,2),_),((84,3),_),((84,4),_),((21,0),_),((22,0),_)] [] []) kp ?_
 refine ic 5 [87,88,89] [(10,0),(11,0)] [[(10,0),(11,0)],[(11,0)],[],[(11,0)],[]] ae ae rfl (aK rfl) (rfl:_=[_,_,_,_,_]) (rfl:_=[_]) ?_
 refine ap (_,[]) (fun τ=> az _ aa rfl rfl rfl rfl) ?_
 refine fO rfl ?_
 refine ap (_,[]) (fun τ=> az _ aa rfl rfl rfl rfl) ?_
 refine fN rfl ?_
 refine ap (_,[]) (fun τ=> aI _ bX) ?_
 refine fP rfl ?_
 refine ap (_,[((10,0),_)]) (fun τ=> dG _ _ aa rfl (eF rfl (by exact dO) rfl) rfl rfl (Nat.le_of_ble_eq_true rfl) rfl) ?_
 refine fV rfl ?_
 refine ap (_,[((11,0),_)]) (fun τ=> dG _ _ aa rfl (eF rfl (by exact dO) rfl) rfl rfl (Nat.le_of_ble_eq_true rfl) rfl) ?_
 refine gm rfl (bo ⟨⟨rfl,by kernel_rfl⟩,?_⟩)
 refine wg rfl (aj (aG ?_))
 exact vU (.inr rfl) rfl (.cellA aa rfl rfl rfl) (.cellA aa rfl rfl rfl) (.tmp bX) (Le.out [((4,8),(72,0)),((5,8),(84,4))] [(84,0),(84,1),(84,2),(84,3)] (.tup rfl (ax (.agg rfl (zo (ax .sl (ax .sl (ax .sl (ax (fj rfl rfl (by rw [aL,Nat.mul_one]) rfl) lz)))))) (ax (.agg rfl (ax .v (ax .v (ax .v (ax (fj rfl rfl (gT _ _).symm rfl) (ax .v (ax .v (ax (fj rfl rfl (by rw [aL,Nat.mul_one]) rfl) (ax .sl (ax (fj rfl rfl (fi _).symm rfl) lz)))))))))) lz))) rfl rfl rfl tr ob)
set_option maxHeartbeats 4000000 in
theorem Pd (s:Ns) (hup:s.up=true) (hv:s.ver=1) (P Q:Pg) (drift:Int) (a:Na) (hcr:a.crash=false) (hh:a.h < 41) (h1:a.draws.length≤1000) (h2:a.keeps.length≤1000) (c:Cz) (R:Ms) (q:Ns×Nr) (n:Nat) (L:List PV)
  (hS:Spec Tryz.prog 81 (aY [jT { s with wait:=a.wait },ij Q, .v (.int .i64 (a.h:Int)), .v (.int .i64 1), .v (.int .i64 3), .v (.int .i64 drift),Dl a.names,jD] (pw (fh s a a.h) 0 [] (5,9))) (iW c R q (fh s a a.h) n L)):
  Spec Tryz.prog 45 (ba [jT s,ij P,ij Q, .v (.int .i64 drift),Cw a] []) (nh q.1 (Dm c q.2 R) (fh s a a.h) n L):=by
 have htl:=gE { s with wait:=a.wait } a a.h hh h1 h2
 refine Spec.ofN Tryz.func45 rfl Tryz.ntmps45 rfl ?_
 refine am (ai (aQ (5,0) _ rfl rfl) (ai (aQ (6,0) _ rfl rfl) (ai (aQ (7,0) _ rfl rfl) (ai (aQ (9,0) _ rfl rfl) (ai (aB (10,0) aa rfl rfl) (ai (aB (11,0) aa rfl rfl) (ai (bp _ kL) (aj (aq (am ?_))))))))))
 refine bc rfl rfl rfl (zn rfl rfl rfl (ai (cq (r:=false) _ rfl (by rw [hup];rfl)) ?_))
 refine aj (aW rfl rfl (aS (aq (am (bc rfl rfl rfl (cd rfl rfl rfl (gR rfl rfl (by rw [if_neg (by rw [hcr];exact Bool.false_ne_true)];rfl) ?_)))))))
 refine aj (aW rfl rfl (aS (am (ai (az _ aa rfl rfl rfl rfl) (ai (aB (19,0) aa rfl rfl) (bF rfl rfl rfl rfl rfl rfl (aj (aq (aq ?_)))))))))
 refine aM (σ':=aE 90 [(3,_),(5,_),(7,_),(9,_),(10,_),(11,_),(19,_)] [((5,0),_),((7,0),_),((9,0),_),((10,0),_),((11,0),_),((19,0),_)] [] []) kp ?_
 refine an (bc rfl rfl rfl (cd rfl rfl rfl (jY rfl rfl (by rw [hv];rfl) ?_)))
 refine aj (bK rfl rfl (an (ai (az _ aa rfl rfl rfl rfl) (bF rfl rfl rfl rfl rfl rfl (aj (am (bc rfl rfl rfl (cd rfl rfl rfl (bc rfl rfl rfl (bF rfl rfl rfl rfl rfl rfl ?_))))))))))
 refine aj (am (ai (az _ aa rfl rfl rfl rfl) (ai (az _ aa rfl rfl rfl rfl) (bc rfl rfl rfl (cd rfl rfl rfl (ai (bQ aa [((4,8),(72,0))] ar (htl.toI) trivial tr tr rfl rfl ae ae) ?_))))))
 refine wg rfl (aj (aT fun K11 hK11=> ?_))
 refine aM (Le.nilB (72,0) 4 (60,0) 111 7 rfl rfl rfl) ?_
 refine an (ai (az _ aa rfl rfl rfl rfl) (ai (az _ aa rfl rfl rfl rfl) (bc rfl rfl rfl (cd rfl rfl rfl (aX rfl (bc rfl rfl rfl (ai (az _ aa rfl rfl rfl rfl) (ai (aN _ aa rfl (by exact AD)) ?_))))))))
 refine bS rfl (ai (jp _ _ (rfl:_=[AV.ptr _ _]) (rfl:_=[])) ?_)
 refine ai (bQ aa [((4,9),(72,0)),((5,9),(60,0)),((1,8),(84,0)),((2,8),(84,1)),((3,8),(84,2)),((6,8),(84,3)),((5,8),(84,4))] ar (hS) ob tr tr rfl rfl ae ae) ?_
 refine ai (aI _ tK) (ai (cp _ rfl px) (ai (cp _ rfl px) (ai (aB (21,0) aa rfl rfl) (ai (aB (22,0) aa rfl rfl) (bF rfl rfl rfl rfl rfl rfl (bF rfl rfl rfl rfl rfl rfl (aJ (hK11 _ ?_))))))))
 clear hK11;try clear K11
 refine aq ?_
 refine aM (σ':=aE 90 [(10,_),(11,_),(20,_),(21,_),(22,_)] [((10,0),_),((11,0),_),((72,0),_),((84,0),_),((84,1),_),((84,2),_),((84,3),_),((84,4),_),((21,0),_),((22,0),_)] [] []) kp ?_
 refine ic 5 [87,88,89] [(10,0),(11,0)] [[(10,0),(11,0)],[(11,0)],[],[(11,0)],[]] ae ae rfl (aK rfl) (rfl:_=[_,_,_,_,_]) (rfl:_=[_]) ?_
 refine ap (_,[]) (fun τ=> az _ aa rfl rfl rfl rfl) ?_
 refine fO rfl ?_
 refine ap (_,[]) (fun τ=> az _ aa rfl rfl rfl rfl) ?_
 refine fN rfl ?_
 refine ap (_,[]) (fun τ=> aI _ bX) ?_
 refine fP rfl ?_
 refine ap (_,[((10,0),_)]) (fun τ=> dG _ _ aa rfl (eF rfl (by exact dO) rfl) rfl rfl (Nat.le_of_ble_eq_true rfl) rfl) ?_
 refine fV rfl ?_
 refine ap (_,[((11,0),_)]) (fun τ=> dG _ _ aa rfl (eF rfl (by exact dO) rfl) rfl rfl (Nat.le_of_ble_eq_true rfl) rfl) ?_
 refine gm rfl (bo ⟨⟨rfl,by kernel_rfl⟩,?_⟩)
 refine wg rfl (aj (aG ?_))
 exact vU (.inr rfl) rfl (.cellA aa rfl rfl rfl) (.cellA aa rfl rfl rfl) (.tmp bX) (Le.out [((4,8),(72,0)),((5,8),(84,4))] [(84,0),(84,1),(84,2),(84,3)] (.tup rfl (ax (.agg rfl (zo (ax .sl (ax .sl (ax .sl (ax (fj rfl rfl (by rw [aL,Nat.mul_one]) rfl) lz)))))) (ax (.agg rfl (ax .v (ax .v (ax .v (ax (fj rfl rfl (gT _ _).symm rfl) (ax .v (ax .v (ax (fj rfl rfl (by rw [aL,Nat.mul_one]) rfl) (ax .sl (ax (fj rfl rfl (fi _).symm rfl) lz)))))))))) lz))) rfl rfl rfl tr ob)
set_option maxHeartbeats 4000000 in
theorem OZ (s:Ns) (hup:s.up=true) (hs:jR s) (ho:jy s.dk) (hc:s.counts.length=41) (hcb: -1000000≤s.counts.getD 40 0∧s.counts.getD 40 0≤1000000) (hep: -1000000≤s.epoch∧s.epoch≤1000000) (P Q:Pg) (drift:Int) (a:Na) (hcr:a.crash=true) (h1:a.draws.length≤1000) (h2:a.keeps.length≤1000)
  (hlk: ∀ i:Nat,i < s.dk.pend.length→tA (fh s a 40) 3 (i:Int) 2 (a.keeps.getD i 0)):
  Spec Tryz.prog 45 (ba [jT s,ij P,ij Q, .v (.int .i64 drift),Cw a] []) (nh (lQ s (keepB s.dk.pend.length a.keeps)) Kb (fh s a 40) (0+s.dk.pend.length) ([]++zl (fh s a 40) a.keeps s.dk.pend.length)):=by
 have htl:=gE s a 40 ab h1 h2
 have hcs:=lh s hs ho hc hcb hep (fh s a 40) 0 [] rfl ab a.keeps hlk
 refine Spec.ofN Tryz.func45 rfl Tryz.ntmps45 rfl ?_
 refine am (ai (aQ (5,0) _ rfl rfl) (ai (aQ (6,0) _ rfl rfl) (ai (aQ (7,0) _ rfl rfl) (ai (aQ (9,0) _ rfl rfl) (ai (aB (10,0) aa rfl rfl) (ai (aB (11,0) aa rfl rfl) (ai (bp _ kL) (aj (aq (am ?_))))))))))
 refine bc rfl rfl rfl (zn rfl rfl rfl (ai (cq (r:=false) _ rfl (by rw [hup];rfl)) ?_))
 refine aj (aW rfl rfl (aS (aq (am (bc rfl rfl rfl (cd rfl rfl rfl (jY rfl rfl (by rw [if_pos hcr];rfl) ?_)))))))
 refine aj (bK rfl rfl (am (ai (az _ aa rfl rfl rfl rfl) (ai (az _ aa rfl rfl rfl rfl) (ai (bQ aa [((4,8),(53,0))] ar (htl.toI) trivial tr tr rfl rfl ae ae) ?_)))))
 refine wg rfl (aj (aT fun K7 hK7=> ?_))
 refine aM (Le.nilB (53,0) 4 (60,0) 111 7 rfl rfl rfl) ?_
 refine an (ai (az _ aa rfl rfl rfl rfl) (bS rfl (ai (jp _ _ (rfl:_=[AV.ptr _ _]) (rfl:_=[])) ?_)))
 refine ai (bQ aa [((4,9),(53,0)),((5,9),(60,0)),((5,8),(57,0))] ar (hcs) ob tr tr rfl rfl ae ae) ?_
 refine ai (aN _ aa rfl (by exact (rfl:_=some [_,_,_,_,_,_,_,_,_,_,_,_]))) ?_
 refine bS rfl (bF rfl rfl rfl rfl rfl rfl (bF rfl rfl rfl rfl rfl rfl (wg rfl (aJ (hK7 _ ?_)))))
 clear hK7;try clear K7
 exact aG (vU (.inr rfl) rfl (.cellA aa rfl rfl rfl) (.cellA aa rfl rfl rfl) (.tmp bX) (Le.out [((4,8),(53,0)),((5,8),(57,0))] [] (.tup rfl lz) rfl rfl rfl trivial ob))

structure DO (a:Na):Prop where
 ok:FE a
 nl:a.names.length=9
 d0: ∀ x∈a.draws,0≤x
 k0: ∀ x∈a.keeps,x=0∨x=1
 dl:a.draws.length≤1000
 kl:a.keeps.length≤1000
theorem wX (s:Ns) {a:Na} (h:Nat) (hw:DO a) {q:Int} (hq:0 < q):tA (fh s a h) 2 0 q (a.tick % q):=by
 have hd:=hw.dl
 have hk:=hw.kl
 have:=ik (lg 1 (h:Int) (cO s h) a.tick a.draws a.keeps) (by rw [nA];omega) 1 (h:Int) (cO s h) 2 0 q hq
 rwa [yI hw.ok.tk.1] at this
theorem xe (s:Ns) {a:Na} (h:Nat) (hw:DO a) (i:Nat) {q:Int} (hq:0 < q):tA (fh s a h) 1 (i:Int) q (a.draws.getD i 0 % q):=by
 have hd:=hw.dl
 have hk:=hw.kl
 have:=ik (lg 1 (h:Int) (cO s h) a.tick a.draws a.keeps) (by rw [nA];omega) 1 (h:Int) (cO s h) 1 (i:Int) q hq
 rwa [xC i hw.d0] at this
theorem wK (s:Ns) {a:Na} (h:Nat) (hw:DO a) (i:Nat):tA (fh s a h) 3 (i:Int) 2 (a.keeps.getD i 0):=by
 have hd:=hw.dl
 have hk:=hw.kl
 have:=ik (lg 1 (h:Int) (cO s h) a.tick a.draws a.keeps) (by rw [nA];omega) 1 (h:Int) (cO s h) 3 (i:Int) 2 ab
 have h0: ∀ x∈a.keeps,0≤x:=fun x hx=> by rcases hw.k0 x hx with h | h <;> omega
 rw [yF i h0] at this
 have h1:a.keeps.getD i 0=0∨a.keeps.getD i 0=1:=by
  by_cases hi:i < a.keeps.length
  ·rw [List.getD_eq_getElem?_getD,List.getElem?_eq_getElem hi];exact hw.k0 _ (List.getElem_mem hi)
  rw [List.getD_eq_getElem?_getD,List.getElem?_eq_none ab];exact .inl rfl
 rwa [show a.keeps.getD i 0 % 2=a.keeps.getD i 0 by omega] at this
def Gs (t:Tl) (l:List Qa):List PV:=l.flatMap fun x=> vp t x.kind x.idx x.ar x.n
theorem qS (t:Tl) (drift tick:Int) (asked ans:List Int):pq t drift tick++tf t ans asked=Gs t (jM drift tick asked ans):=by
 unfold Gs jM pq tf
 rw [List.flatMap_append]
 congr 1
 ·split
  ·simp
  rfl
 rw [List.flatMap_map]
theorem oT (drift tick:Int) (asked ans:List Int):(jM drift tick asked ans).length=pv drift+asked.length:=by
 unfold jM pv
 rw [List.length_append,List.length_map,List.length_range]
 congr 1
 split <;> rfl

structure oD (P:Pg) (tm:Int):Prop where
 pg:pQ P
 cl:P.c.length≤1000000
 tc:TmC P.c tm=true
abbrev hN (a:Na) (s:Ns):Nat:=if s.up=false then 0 else if a.crash=true then 40 else a.h
abbrev GI (P Q:Pg) (drift:Int) (a:Na) (s:Ns):AV:=
 if s.up=false then Dm ⟨1,((0:Nat):Int),s.counts.getD 0 0⟩ (eJ P Q drift a s).2 (gP (cP s (co P Q s) (iG s)) (co P Q s) 0 1 3 drift a.tick (List.replicate 9 0) a.draws)
 else if a.crash=true then Kb
 else Dm ⟨1,(a.h:Int),s.counts.getD a.h 0⟩ (eJ P Q drift a s).2 (gP { s with wait:=a.wait } (co P Q s) a.h 1 3 drift a.tick a.names a.draws)
theorem pS (s:Ns) (P:Pg) (h:Nat) (self nodes drift tick:Int) (names ans:List Int):(gP s P h self nodes drift tick names ans).asked=(gw s P h self nodes drift tick names ans).asked:=
 (sR P h (eB names self nodes (de s.clock drift tick)) (s.dk.view++s.vol) ans).2.2
section
variable {P Q:Pg} {tp tq:Int} {i:Nat} {s:Ns} {drift:Int} {a:Na}
theorem uH (hP:oD P tp) (hQ:oD Q tq) (hi:i≤1000) (hs:Sq P Q i s) (hsm:jR s) (hup:s.up=false) (hdr:0≤drift∧drift≤3) (hw:DO a):
  Spec Tryz.prog 45 (ba [jT s,ij P,ij Q, .v (.int .i64 drift),Cw a] []) (nh (eJ P Q drift a s).1 (GI P Q drift a s) (fh s a (hN a s)) (jA P Q drift a s).length (Gs (fh s a (hN a s)) (jA P Q drift a s))):=by
 obtain ⟨⟨m,hdk⟩,_,_⟩:=hs.dn hup
 have hin:jy s.dk:=fun w hw=> by
  obtain ⟨b1,b2,_⟩:=hdk.pr w hw
  have:=hdk.len
  exact ⟨b1,by omega⟩
 have hck:=hs.ck
 have hep:=hs.ep
 have hcb: ∀ k, -1000000≤s.counts.getD k 0∧s.counts.getD k 0≤1000000:=fun k=> by have:=hs.ct k;omega
 have htk:=qM (clock:=s.clock) (tick:=a.tick) hdr
 have e1:eJ P Q drift a s=mM s (co P Q s) (iG s) 1 3 drift a.tick a.draws:=by unfold eJ;rw [if_pos hup]
 have e2:jA P Q drift a s=jM drift a.tick (gw (cP s (co P Q s) (iG s)) (co P Q s) 0 1 3 drift a.tick (List.replicate 9 0) a.draws).asked a.draws:=by unfold jA;rw [if_pos hup]
 have e3:GI P Q drift a s=Dm ⟨1,((0:Nat):Int),s.counts.getD 0 0⟩ (eJ P Q drift a s).2 (gP (cP s (co P Q s) (iG s)) (co P Q s) 0 1 3 drift a.tick (List.replicate 9 0) a.draws):=if_pos hup
 have e4:hN a s=0:=if_pos hup
 rw [e3,e4,e2,← pS,oT,← qS,e1]
 have key: ∀ (X:Pg) (tm:Int) (v:Int),oD X tm→Spec Tryz.prog 56 (aY [jT s,ij X, .v (.int .i64 v), .v (.int .i64 1), .v (.int .i64 3), .v (.int .i64 drift),jD] (pw (fh s a 0) 0 [] (5,9)))
   (iW ⟨1,((0:Nat):Int),s.counts.getD 0 0⟩ (gP (cP s X v) X 0 1 3 drift a.tick (List.replicate 9 0) a.draws) (mM s X v 1 3 drift a.tick a.draws) (fh s a 0) (pv drift+(gP (cP s X v) X 0 1 3 drift a.tick (List.replicate 9 0) a.draws).asked.length) (pq (fh s a 0) drift a.tick++tf (fh s a 0) a.draws (gP (cP s X v) X 0 1 3 drift a.tick (List.replicate 9 0) a.draws).asked)):=fun X tm v hX=>
  wM X tm s hsm hin v (uG hX.pg hX.cl hX.tc hdk hs.cl hcb ab v) 1 3 drift a.tick a.draws (dY ab) (dY ab) (by unfold Rg;omega) ab (fh s a 0) (fun h=> wX s 0 hw ab) (fun j k _ h2 _=> xe s 0 hw j ab) _ rfl
 by_cases he:s.epoch % 2=1
 ·have hp:co P Q s=Q:=by unfold co;rw [if_neg (by rw [hup];exact Bool.false_ne_true),if_pos he]
  have hv:iG s=1:=if_pos he
  rw [hp,hv]
  exact Qi s hup hep.1 he P Q drift a hw.dl hw.kl _ _ _ _ _ (key Q tq 1 hQ)
 have hp:co P Q s=P:=by unfold co;rw [if_neg (by rw [hup];exact Bool.false_ne_true),if_neg he]
 have hv:iG s=0:=if_neg he
 rw [hp,hv]
 exact QS s hup hep.1 ab P Q drift a hw.dl hw.kl _ _ _ _ _ (key P tp 0 hP)
theorem yX (hP:oD P tp) (hQ:oD Q tq) (hi:i≤1000) (hs:Sq P Q i s) (hup:s.up=true) (htl:qx (if s.ver=1 then tq else tp) s.timers) (hdr:0≤drift∧drift≤3) (hw:DO a) (hcr:a.crash=false):
  Spec Tryz.prog 45 (ba [jT s,ij P,ij Q, .v (.int .i64 drift),Cw a] []) (nh (eJ P Q drift a s).1 (GI P Q drift a s) (fh s a (hN a s)) (jA P Q drift a s).length (Gs (fh s a (hN a s)) (jA P Q drift a s))):=by
 obtain ⟨hns,hver⟩:=hs.up hup
 have hck:=hs.ck
 have hcb: ∀ k, -1000000≤s.counts.getD k 0∧s.counts.getD k 0≤1000000:=fun k=> by have:=hs.ct k;omega
 have htk:=qM (clock:=s.clock) (tick:=a.tick) hdr
 have hnf: ¬ s.up=false:=by rw [hup];exact fun h=> by cases h
 have hnc: ¬ a.crash=true:=by rw [hcr];exact Bool.false_ne_true
 have hah:=hw.ok.h
 have e1:eJ P Q drift a s=dx { s with wait:=a.wait } (co P Q s) a.h 1 3 drift a.tick a.names a.draws:=by unfold eJ;rw [if_neg hnf,if_neg hnc]
 have e2:jA P Q drift a s=jM drift a.tick (gw { s with wait:=a.wait } (co P Q s) a.h 1 3 drift a.tick a.names a.draws).asked a.draws:=by unfold jA;rw [if_neg hnf,if_neg hnc]
 have e3:GI P Q drift a s=Dm ⟨1,(a.h:Int),s.counts.getD a.h 0⟩ (eJ P Q drift a s).2 (gP { s with wait:=a.wait } (co P Q s) a.h 1 3 drift a.tick a.names a.draws):=(if_neg hnf).trans (if_neg hnc)
 have e4:hN a s=a.h:=(if_neg hnf).trans (if_neg hnc)
 rw [e3,e4,e2,← pS,oT,← qS,e1]
 have key: ∀ (X:Pg) (tm:Int),oD X tm→ug X s→qx tm s.timers→Spec Tryz.prog 81 (aY [jT { s with wait:=a.wait },ij X, .v (.int .i64 (a.h:Int)), .v (.int .i64 1), .v (.int .i64 3), .v (.int .i64 drift),Dl a.names,jD] (pw (fh s a a.h) 0 [] (5,9)))
   (iW ⟨1,(a.h:Int),s.counts.getD a.h 0⟩ (gP { s with wait:=a.wait } X a.h 1 3 drift a.tick a.names a.draws) (dx { s with wait:=a.wait } X a.h 1 3 drift a.tick a.names a.draws) (fh s a a.h) (pv drift+(gP { s with wait:=a.wait } X a.h 1 3 drift a.tick a.names a.draws).asked.length) (pq (fh s a a.h) drift a.tick++tf (fh s a a.h) a.draws (gP { s with wait:=a.wait } X a.h 1 3 drift a.tick a.names a.draws).asked)):=fun X tm hX hN htm=>
  uQ X tm { s with wait:=a.wait } ⟨hX.pg,hX.cl,hX.tc,⟨hN.dk,hN.vl,hN.vr,hN.tm,hN.ct⟩,htm,hcb,by show -1000000≤s.clock∧s.clock≤1000000;omega⟩ a.h hah 1 3 drift a.tick a.names a.draws hw.nl hw.ok.nm (dY ab) (dY ab) (by show Rg (de s.clock drift a.tick);unfold Rg;omega) ab (fh s a a.h) (fun h=> wX s a.h hw ab) (fun j k _ h2 _=> xe s a.h hw j ab) _ rfl
 by_cases hv:s.ver=1
 ·have hp:co P Q s=Q:=by unfold co;rw [if_pos hup,if_pos hv]
  rw [if_pos hv] at hns htl
  rw [hp]
  exact Pd s hup hv P Q drift a hcr ab hw.dl hw.kl _ _ _ _ _ (key Q tq hQ hns htl)
 have hp:co P Q s=P:=by unfold co;rw [if_pos hup,if_neg hv]
 rw [if_neg hv] at hns htl
 rw [hp]
 exact Qp s hup hv P Q drift a hcr ab hw.dl hw.kl _ _ _ _ _ (key P tp hP hns htl)
theorem yh (t:Tl) (k:Nat) (keeps:List Int):Gs t (oE k keeps)=zl t keeps k:=by
 unfold Gs oE zl
 rw [List.flatMap_map]
theorem sj (hi:i≤1000) (hs:Sq P Q i s) (hsm:jR s) (hup:s.up=true) (hw:DO a) (hcr:a.crash=true):
  Spec Tryz.prog 45 (ba [jT s,ij P,ij Q, .v (.int .i64 drift),Cw a] []) (nh (eJ P Q drift a s).1 (GI P Q drift a s) (fh s a (hN a s)) (jA P Q drift a s).length (Gs (fh s a (hN a s)) (jA P Q drift a s))):=by
 obtain ⟨hns,hver⟩:=hs.up hup
 have hep:=hs.ep
 have hcb:=hs.ct 40
 have hnf: ¬ s.up=false:=by rw [hup];exact fun h=> by cases h
 have e1:eJ P Q drift a s=(lQ s (keepB s.dk.pend.length a.keeps),{}):=by unfold eJ;rw [if_neg hnf,if_pos hcr]
 have e2:jA P Q drift a s=oE s.dk.pend.length a.keeps:=by unfold jA;rw [if_neg hnf,if_pos hcr]
 have e3:GI P Q drift a s=Kb:=(if_neg hnf).trans (if_pos hcr)
 have e4:hN a s=40:=(if_neg hnf).trans (if_pos hcr)
 have hin:jy s.dk:=fun w hw=> by
  obtain ⟨b1,b2,_⟩:=hns.dk.pr w hw
  have:=hns.dk.len
  exact ⟨b1,by omega⟩
 have h:=OZ s hup hsm hin hs.cl ab ab P Q drift a hcr hw.dl hw.kl (fun j _=> wK s 40 hw j)
 rw [Nat.zero_add,List.nil_append] at h
 rw [e3,e4,e2,e1,yh,show (oE s.dk.pend.length a.keeps).length=s.dk.pend.length by simp [oE]]
 exact h
end
end Go.Proofs.YtmjnackchaahbaaGreat

namespace Go.Proofs.YtmjnackchaahbaaGreat

theorem vc {t:Int} (ht:0≤t∧t < 8): ∀ (l:List Ac) (q:Ns×Nr),(∀ a∈l,xc t a)→qx t q.1.timers→qx t (l.foldl ei q).1.timers
 | [],_,_,h=> h
 | a::l,q,ha,h=> vc ht l (ei q a) (fun b hb=> ha b (List.mem_cons_of_mem _ hb)) (uj ht (ha a List.mem_cons_self) h)
theorem jQ {P:Pg} {t:Int} (hc:TmC P.c t=true) (s:Ns) (h:qx t s.timers) (k:Nat) (self nodes drift tick:Int) (names ans:List Int):qx t (dx s P k self nodes drift tick names ans).1.timers:=
 vc (TmC.rg hc) _ _ (fun a ha=> uS hc _ _ _ _ a ha) h
structure SqT (P Q:Pg) (tp tq:Int) (i:Nat) (s:Ns):Prop where
 sq:Sq P Q i s
 sm:jR s
 tl:s.up=true→qx (if s.ver=1 then tq else tp) s.timers
theorem Ha (P Q:Pg) (tp tq:Int):SqT P Q tp tq 0 {}:=⟨Hh P Q,⟨Nat.zero_le _,Nat.zero_le _,Nat.zero_le _,Nat.zero_le _⟩,fun h=> by simp at h⟩
theorem Gp {X:Pg} {t:Int} {s:Ns} (hX:pQ X) (h:ug X s) (ht:qx t s.timers):jR s:=by
 have h1:=h.dk.len
 have h2:=h.dk.pn
 have h3:=h.vl
 have h4:=hX.nv
 refine ⟨by omega,by omega,by omega,?_⟩
 rcases ht with ht | ht <;> rw [ht] <;> simp
theorem IY {P Q:Pg} {tp tq:Int} (hP:oD P tp) (hQ:oD Q tq) {drift:Int} (hd:0≤drift∧drift≤3) {a:Na} (ha:FE a) {i:Nat} (hi:i≤100) {s:Ns} (h:SqT P Q tp tq i s):SqT P Q tp tq (i+1) (eJ P Q drift a s).1:=by
 have hn:=Fh hP.pg hQ.pg hd ha hi h.sq
 have up:(eJ P Q drift a s).1.up=true→qx (if (eJ P Q drift a s).1.ver=1 then tq else tp) (eJ P Q drift a s).1.timers:=by
  unfold eJ
  split
  ·rename_i hup
   intro _
   show qx (if (dx (cP s (co P Q s) (iG s)) (co P Q s) 0 1 3 drift a.tick (List.replicate 9 0) a.draws).1.ver=1 then tq else tp) (dx (cP s (co P Q s) (iG s)) (co P Q s) 0 1 3 drift a.tick (List.replicate 9 0) a.draws).1.timers
   rw [(fR (cP s (co P Q s) (iG s)) (co P Q s) 0 1 3 drift a.tick (List.replicate 9 0) a.draws).2.1]
   show qx (if iG s=1 then tq else tp) _
   have hnt: ¬ s.up=true:=by rw [hup];exact Bool.false_ne_true
   by_cases he:s.epoch % 2=1
   ·rw [show iG s=1 from if_pos he,show co P Q s=Q by unfold co;rw [if_neg hnt,if_pos he],if_pos rfl]
    exact jQ hQ.tc _ (.inl rfl) _ _ _ _ _ _ _
   rw [show iG s=0 from if_neg he,show co P Q s=P by unfold co;rw [if_neg hnt,if_neg he],if_neg ah]
   exact jQ hP.tc _ (.inl rfl) _ _ _ _ _ _ _
  rename_i hup
  split
  ·intro hx;cases hx
  intro _
  have hup:s.up=true:=by simpa using hup
  have htl:=h.tl hup
  rw [(fR { s with wait:=a.wait } (co P Q s) a.h 1 3 drift a.tick a.names a.draws).2.1]
  show qx (if s.ver=1 then tq else tp) _
  by_cases hv:s.ver=1
  ·rw [if_pos hv] at htl ⊢
   rw [show co P Q s=Q by unfold co;rw [if_pos hup,if_pos hv]]
   exact jQ hQ.tc { s with wait:=a.wait } htl _ _ _ _ _ _ _
  rw [if_neg hv] at htl ⊢
  rw [show co P Q s=P by unfold co;rw [if_pos hup,if_neg hv]]
  exact jQ hP.tc { s with wait:=a.wait } htl _ _ _ _ _ _ _
 refine ⟨hn,?_,up⟩
 by_cases hu:(eJ P Q drift a s).1.up=true
 ·have h1:=(hn.up hu).1
  have h2:=up hu
  by_cases hv:(eJ P Q drift a s).1.ver=1
  ·rw [if_pos hv] at h1 h2;exact Gp hQ.pg h1 h2
  rw [if_neg hv] at h1 h2;exact Gp hP.pg h1 h2
 have hs:=h.sm
 unfold eJ at hu ⊢
 split at hu
 ·exact absurd ((fR (cP s (co P Q s) (iG s)) (co P Q s) 0 1 3 drift a.tick (List.replicate 9 0) a.draws).1) hu
 rename_i hup
 rw [if_neg hup]
 split at hu
 ·rename_i hc
  rw [if_pos hc]
  refine ⟨?_,Nat.zero_le _,?_,Nat.zero_le _⟩
  ·show (oP s.dk.cells _).length≤1000
   rw [fQ];exact hs.c
  show (List.replicate s.vol.length (0:Int)).length≤1000
  rw [List.length_replicate];exact hs.v
 exact absurd ((fR { s with wait:=a.wait } (co P Q s) a.h 1 3 drift a.tick a.names a.draws).1.trans (show s.up=true by simpa using hup)) hu

theorem DN {n:Int} (h0:0≤n):DO (iy n):=by
 obtain ⟨h1,h2,h3,h4,_,h6⟩:=AK h0
 refine ⟨h1,h6,h4,fun x hx=> ?_,by omega,by omega⟩
 have hx:x∈[n / 2 % 2,n / 4 % 2,n / 8 % 2,n / 16 % 2]:=hx
 simp only [List.mem_cons,List.not_mem_nil,or_false] at hx
 omega
theorem EA (s:Ns) (hup:s.up=false) (P Q:Pg):Spec Tryz.prog 51 (ba [jT s,ij P,ij Q] []) (aP (.v (.bool true)) []):=by
 refine Spec.ofN Tryz.func51 rfl Tryz.ntmps51 rfl ?_
 refine am (ai (aQ (3,0) _ rfl rfl) (ai (aQ (4,0) _ rfl rfl) (ai (aQ (5,0) _ rfl rfl) (cu rfl (aj (aq (am (bc rfl rfl rfl (zn rfl rfl rfl (ai (cq (r:=true) _ rfl (by rw [hup];rfl)) ?_))))))))))
 exact aj (bK rfl rfl (am (cu rfl (aj (aG (fv rfl rfl))))))
theorem Bf (s:Ns) (hup:s.up=true) (hv:s.ver≠1) (P Q:Pg) (hd:s.dk.cells.length=P.d) (hl:s.vol.length=P.v):Spec Tryz.prog 51 (ba [jT s,ij P,ij Q] []) (aP (.v (.bool true)) []):=by
 refine Spec.ofN Tryz.func51 rfl Tryz.ntmps51 rfl ?_
 refine am (ai (aQ (3,0) _ rfl rfl) (ai (aQ (4,0) _ rfl rfl) (ai (aQ (5,0) _ rfl rfl) (cu rfl (aj (aq (am (bc rfl rfl rfl (zn rfl rfl rfl (ai (cq (r:=false) _ rfl (by rw [hup];rfl)) ?_))))))))))
 refine aj (aW rfl rfl (aS (am (ai (az _ aa rfl rfl rfl rfl) (ai (aB (7,0) aa rfl rfl) (bF rfl rfl rfl rfl rfl rfl (aj (aq (am (bc rfl rfl rfl ?_))))))))))
 refine cd rfl rfl rfl (gR rfl rfl (beq_eq_false_iff_ne.2 hv) ?_)
 refine aj (aW rfl rfl (aS (am (bc rfl rfl rfl (bc rfl rfl rfl (eQ rfl rfl rfl (ai (bi _ aa rfl) (bc rfl rfl rfl (cd rfl rfl rfl (jY rfl rfl (by rw [hd];exact beq_self_eq_true _) ?_))))))))))
 refine cI rfl (au rfl rfl (aA _ aa rfl rfl rfl) (au rfl rfl (aF _ aa rfl rfl ed) (au rfl rfl (bi _ aa rfl) (au rfl rfl (aA _ aa rfl rfl rfl) (au rfl rfl (aF _ aa rfl rfl ef) (au rfl rfl (bC (r:=true) _ _ rfl rfl (by rw [hl];exact beq_self_eq_true _)) ?_))))))
 exact ai (aD _ _ _ rfl bT) (cu rfl (aj (aG (fv rfl rfl))))
theorem Hw (s:Ns) (hup:s.up=true) (hv:s.ver=1) (P Q:Pg) (hd:s.dk.cells.length=Q.d) (hl:s.vol.length=Q.v):Spec Tryz.prog 51 (ba [jT s,ij P,ij Q] []) (aP (.v (.bool true)) []):=by
 refine Spec.ofN Tryz.func51 rfl Tryz.ntmps51 rfl ?_
 refine am (ai (aQ (3,0) _ rfl rfl) (ai (aQ (4,0) _ rfl rfl) (ai (aQ (5,0) _ rfl rfl) (cu rfl (aj (aq (am (bc rfl rfl rfl (zn rfl rfl rfl (ai (cq (r:=false) _ rfl (by rw [hup];rfl)) ?_))))))))))
 refine aj (aW rfl rfl (aS (am (ai (az _ aa rfl rfl rfl rfl) (ai (aB (7,0) aa rfl rfl) (bF rfl rfl rfl rfl rfl rfl (aj (aq (am (bc rfl rfl rfl ?_))))))))))
 refine cd rfl rfl rfl (jY rfl rfl (by rw [hv];rfl) ?_)
 refine aj (bK rfl rfl (an (ai (az _ aa rfl rfl rfl rfl) (bF rfl rfl rfl rfl rfl rfl (aj (aq ?_))))))
 refine aM (σ':=aE 31 [(3,_),(7,_)] [((3,0),_),((7,0),_)] [] []) kp ?_
 refine an (bc rfl rfl rfl (bc rfl rfl rfl (eQ rfl rfl rfl (ai (bi _ aa rfl) (bc rfl rfl rfl (cd rfl rfl rfl (jY rfl rfl (by rw [hd];exact beq_self_eq_true _) ?_)))))))
 refine cI rfl (au rfl rfl (aA _ aa rfl rfl rfl) (au rfl rfl (aF _ aa rfl rfl ed) (au rfl rfl (bi _ aa rfl) (au rfl rfl (aA _ aa rfl rfl rfl) (au rfl rfl (aF _ aa rfl rfl ef) (au rfl rfl (bC (r:=true) _ _ rfl rfl (by rw [hl];exact beq_self_eq_true _)) ?_))))))
 exact ai (aD _ _ _ rfl bT) (cu rfl (aj (aG (fv rfl rfl))))

abbrev IM (n:Int):Nat:=(dL n 12).toNat
def Lu (n:Int):Pg:=⟨bV (onss.getD (IM n) []) 0,bY (onss.getD (IM n) []),(durs.getD (IM n) []).length,(vols.getD (IM n) []).length⟩
theorem AI (n:Int) (h: -9223372036854775808≤n∧n≤9223372036854775807):Spec Tryz.prog 39 (ba [.v (.int .i64 n)] []) (aP (ij (Lu n)) []):=sV n h.1 h.2
def Oo (n:Int):Int:=if IM n=6 then 1 else 0
theorem Jo {d v:List Tx} {ons:List (Nat×Bk)} (U:UOk d v ons) {tm:Int} (ht:TmC (bV ons 0) tm=true):oD ⟨bV ons 0,bY ons,d.length,v.length⟩ tm where
 pg:=by
  have hl:(d++v).length=d.length+v.length:=List.length_append
  refine ⟨⟨xw ons,by show Good _ (d.length+v.length) _ _ _ _;rw [← hl];exact U.good,fun h=> ?_⟩,by show d.length+v.length≤16;rw [← hl];exact U.len⟩
  rcases vY ons h with e | ⟨e,_,e2,e3,e4⟩
  ·exact .inl (by show (ny (kj ons 0)).getD h (-1) < 0;omega)
  have e5:bY ons h=(e:Int):=e2
  exact .inr ⟨by show 0≤bY ons h;omega,by show bY ons h < _;rw [e5];exact Int.ofNat_lt.2 e3,by show xw ons (bY ons h).toNat=0;rw [e5,Int.toNat_natCast];exact e4⟩
 cl:=U.c
 tc:=ht
theorem Ls (k:Nat) (h:k < 12):TmC (bV (onss.getD k []) 0) (if k=6 then 1 else 0)=true:=by
 rcases (show k=0∨k=1∨k=2∨k=3∨k=4∨k=5∨k=6∨k=7∨k=8∨k=9∨k=10∨k=11 by omega) with rfl | rfl | rfl | rfl | rfl | rfl | rfl | rfl | rfl | rfl | rfl | rfl <;> kernel_rfl
theorem GK (n:Int):oD (Lu n) (Oo n):=by
 have hlo:=jg n 12 ab
 have hhi:=jW n 12 ab
 have hk:IM n < 12:=by show (dL n 12).toNat < 12;omega
 exact Jo (Jk _ hk).1.toUOk (Ls _ hk)
abbrev GS (l:List Int) (k:Nat):Na:=iy (dL (l.getD k 0) 100000000)
theorem Hp (l:List Int) (k:Nat):DO (GS l k):=DN (jg _ _ ab)
def Kz (a:Na) (s:Ns):Cz:=if s.up=false then ⟨1,((0:Nat):Int),s.counts.getD 0 0⟩ else if a.crash=true then ⟨0,0,0⟩ else ⟨1,(a.h:Int),s.counts.getD a.h 0⟩
def Kc (P Q:Pg) (dr:Int) (a:Na) (s:Ns):Ms:=if s.up=false then gP (cP s (co P Q s) (iG s)) (co P Q s) 0 1 3 dr a.tick (List.replicate 9 0) a.draws else if a.crash=true then { vars:=[],pc:=0,fin:=true } else gP { s with wait:=a.wait } (co P Q s) a.h 1 3 dr a.tick a.names a.draws
theorem Hv (P Q:Pg) (dr:Int) (a:Na) (s:Ns):GI P Q dr a s=Dm (Kz a s) (eJ P Q dr a s).2 (Kc P Q dr a s):=by
 unfold Kz Kc
 by_cases hu:s.up=false
 ·rw [if_pos hu,if_pos hu]
  exact if_pos hu
 rw [if_neg hu,if_neg hu]
 by_cases hc:a.crash=true
 ·rw [if_pos hc,if_pos hc]
  refine ((if_neg hu).trans (if_pos hc)).trans ?_
  have e1:eJ P Q dr a s=(lQ s (keepB s.dk.pend.length a.keeps),{}):=by unfold eJ;rw [if_neg hu,if_pos hc]
  have e2:fx (kC [])=[]:=by simp [fx,kC]
  rw [e1]
  show Kb=AV.agg [.v (.int .i64 0), .v (.int .i64 0), .v (.int .i64 0), .sl 0 (Cl ⟨0,0,0⟩ []), .v (.bool false), .v (.int .i64 0), .sl 0 (cm []), .sl 0 (cm []), .sl 0 (vq []), .v (.int .i64 0), .v (.bool false), .sl (fx (kC [])).length (cm (fx (kC [])))]
  rw [e2];rfl
 rw [if_neg hc,if_neg hc]
 exact (if_neg hu).trans (if_neg hc)
theorem GR {P Q:Pg} {tp tq dr:Int} (hP:oD P tp) (hQ:oD Q tq) (hd:0≤dr∧dr≤3) {i:Nat} (hi:i≤1000) {s:Ns} (hs:SqT P Q tp tq i s) {a:Na} (hw:DO a):
  Spec Tryz.prog 45 (ba [jT s,ij P,ij Q, .v (.int .i64 dr),Cw a] []) (nh (eJ P Q dr a s).1 (Dm (Kz a s) (eJ P Q dr a s).2 (Kc P Q dr a s)) (fh s a (hN a s)) (jA P Q dr a s).length (Gs (fh s a (hN a s)) (jA P Q dr a s))):=by
 rw [← Hv]
 by_cases hu:s.up=true
 ·by_cases hc:a.crash=true
  ·exact sj hi hs.sq hs.sm hu hw hc
  exact yX hP hQ hi hs.sq hu (hs.tl hu) hd hw (by simpa using hc)
 exact uH hP hQ hi hs.sq hs.sm (by simpa using hu) hd hw
theorem Is {P Q:Pg} {tp tq:Int} {i:Nat} {s:Ns} (hs:SqT P Q tp tq i s):Spec Tryz.prog 51 (ba [jT s,ij P,ij Q] []) (aP (.v (.bool true)) []):=by
 by_cases hu:s.up=true
 ·obtain ⟨h,_⟩:=hs.sq.up hu
  by_cases hv:s.ver=1
  ·rw [if_pos hv] at h
   exact Hw s hu hv P Q h.dk.len h.vl
  rw [if_neg hv] at h
  exact Bf s hu hv P Q h.dk.len h.vl
 exact EA s (by simpa using hu) P Q

def eP (h k:Nat):Int:=if k < h then -1 else 0
theorem HY (h:Nat):lc (eP h) h (-1)=eP (h+1):=by
 funext k
 unfold lc eP
 by_cases h1:k=h
 ·rw [if_pos h1,if_pos ab]
 rw [if_neg h1]
 by_cases h2:k < h
 ·rw [if_pos h2,if_pos ab]
 rw [if_neg h2,if_neg ab]
def P13:Pg:=⟨[{ op:= .push,n:=5 },{ op:= .setVar,n:=0 },{ op:= .stop,n:=0 }],lc (eP 40) 10 0,0,1⟩
theorem Cm:Spec Tryz.prog 85 (ba [] []) (aP (ij P13) []):=by
 refine Spec.ofN Tryz.func85 rfl Tryz.ntmps85 rfl ?_
 refine am (ai (aB (0,0) aa rfl rfl) (aj (am (ai (aN _ aa rfl (by exact eX)) ?_))))
 refine ai (aN _ aa rfl (by exact eX)) ?_
 refine ai (aN _ aa rfl (by exact eX)) ?_
 refine ai (bh _ _ aa rfl ag (by (simp <;> rfl)) ah rfl) ?_
 refine ai (aN _ aa rfl (by exact DM)) ?_
 refine ai (aB (1,0) aa rfl rfl) (bF rfl rfl rfl rfl rfl rfl (aj (aT fun K3 hK3=> ?_)))
 refine am (bg rfl (aj (ay ?_)))
 refine bq (α:=Nat) (fun q=> q≤40) 18 [(0,_),(1,_)] [((0,0),_)] (fun q=> [(2, .v (.int .i64 (q:Int)))]) (fun q=> [((1,0), .box 26 [.sl 3 (inl P13.c), .v (.int .i64 (eP q 0)), .v (.int .i64 (eP q 1)), .v (.int .i64 (eP q 2)), .v (.int .i64 (eP q 3)), .v (.int .i64 (eP q 4)), .v (.int .i64 (eP q 5)), .v (.int .i64 (eP q 6)), .v (.int .i64 (eP q 7)), .v (.int .i64 (eP q 8)), .v (.int .i64 (eP q 9)), .v (.int .i64 (eP q 10)), .v (.int .i64 (eP q 11)), .v (.int .i64 (eP q 12)), .v (.int .i64 (eP q 13)), .v (.int .i64 (eP q 14)), .v (.int .i64 (eP q 15)), .v (.int .i64 (eP q 16)), .v (.int .i64 (eP q 17)), .v (.int .i64 (eP q 18)), .v (.int .i64 (eP q 19)), .v (.int .i64 (eP q 20)), .v (.int .i64 (eP q 21)), .v (.int .i64 (eP q 22)), .v (.int .i64 (eP q 23)), .v (.int .i64 (eP q 24)), .v (.int .i64 (eP q 25)), .v (.int .i64 (eP q 26)), .v (.int .i64 (eP q 27)), .v (.int .i64 (eP q 28)), .v (.int .i64 (eP q 29)), .v (.int .i64 (eP q 30)), .v (.int .i64 (eP q 31)), .v (.int .i64 (eP q 32)), .v (.int .i64 (eP q 33)), .v (.int .i64 (eP q 34)), .v (.int .i64 (eP q 35)), .v (.int .i64 (eP q 36)), .v (.int .i64 (eP q 37)), .v (.int .i64 (eP q 38)), .v (.int .i64 (eP q 39)), .v (.int .i64 0), .v (.int .i64 1)])]) [] [] (fun q=> 40 - q) 0 ?_ (by
  refine Le.mkJ [] [] rfl ?_ ?_ trivial trivial ?_
  ·exact ⟨(iP rfl),(iP rfl),(ci ag),trivial⟩
  ·exact ⟨(cj rfl rfl rfl),(eY rfl rfl rfl rfl lz),trivial⟩
  kernel_rfl) ?_
 ·omega
 intro q hq
 refine aT fun K5 hK5=> ?_
 refine am (aX rfl (ai (bm _ _ rfl rfl rfl) (aj (aR rfl (fun hc9=> ?_) (fun hc9=> ?_)))))
 ·skip
  refine br (hK5 _ ?_)
  clear hK5;try clear K5
  refine aq (ay (an (aX rfl (bc rfl rfl rfl (ai (cV _ _ aa rfl rfl rfl q rfl ab (by exact congrArg (fun z=> 0+1+z) (Nat.mul_one q))) ?_)))))
  refine ai (dG _ _ aa rfl rfl rfl rfl (show 0+1+q+1≤43 by omega) ((congrArg (fun z=> fY (HG (.sl 3 (inl P13.c)) (eP q) 0 1) z [.v (.int .i64 (-1))]) ab).trans ((sS _ _ _ _ q ab _).trans (by rw [HY])))) ?_
  refine eh (an (aX rfl (ai (aZ _ _ rfl rfl (bD ab)) ?_)))
  refine bg rfl (aJ (⟨q+1,?_,?_,?_⟩))
  ·omega
  ·skip
   refine Le.mkJ [] [] rfl ?_ ?_ trivial trivial ?_
   ·exact ⟨(iP rfl),(iP rfl),(ci ag),trivial⟩
   ·exact ⟨(cj rfl rfl rfl),(eY rfl rfl rfl rfl lz),trivial⟩
   kernel_rfl
  omega
 obtain rfl:q=40:=by omega
 refine bA (id (hK3 _ ?_))
 clear hK3;try clear K3
 refine am (bc rfl rfl rfl (ai (cV _ _ aa rfl rfl rfl 10 rfl ab ag) ?_))
 exact bF rfl rfl rfl rfl rfl rfl (aj (am (ai (az _ aa rfl rfl rfl rfl) (bF rfl rfl rfl rfl rfl rfl (aj (aG (bH (.inr rfl) rfl (.cellA aa rfl rfl rfl) (Le.out [] [] (.agg rfl lz) rfl rfl rfl trivial trivial))))))))
theorem p13_ok:oD P13 0 where
 pg:=by
  refine ⟨⟨fun i=> [0,1,0].getD i 0,fun i x hx=> ?_,fun h=> ?_⟩,by show 0+1≤16;omega⟩
  ·rw [Nat.zero_add]
   rcases i with _ | _ | _ | i
   all_goals first | (simp [P13] at hx;done) | (simp only [P13,List.getElem?_cons_zero,List.getElem?_cons_succ,Option.some.injEq] at hx;subst hx)
   all_goals refine ⟨?_,?_,fun j hj=> ?_⟩
   all_goals first | (simp [di,P13,Rg];done) | (simp [Opc.pops];done) | (simp [dT] at hj;done) | (simp [dT] at hj;subst hj;simp [P13,Opc.pops,Opc.puts];done)
  by_cases h1:h=10
  ·subst h1;exact .inr ⟨by decide,by decide,by decide⟩
  by_cases h2:h < 40
  ·refine .inl ?_
   show lc (eP 40) 10 0 h < 0
   unfold lc eP
   rw [if_neg h1,if_pos h2];omega
  have e:P13.e h=0:=by
   show lc (eP 40) 10 0 h=0
   unfold lc eP
   rw [if_neg h1,if_neg h2]
  rw [e]
  exact .inr ⟨Int.le_refl _,by decide,rfl⟩
 cl:=by decide
 tc:=by decide
abbrev vL:Tl:=⟨0,0,0,0,[],0,[]⟩
theorem Qx (kind idx q:Int) (hq:0 < q):tA vL kind idx q 0:=by
 have h:=ik [] (Nat.zero_le _) 0 0 0 kind idx q hq
 have e:oo [] 0 0 0 kind idx % q=0:=Int.zero_emod q
 rw [e] at h
 exact h
theorem Oi (l:List Int):((cm l).drop 0).take (l.length*1)=cm l:=by rw [List.drop_zero,Nat.mul_one,List.take_of_length_le (by rw [aL];omega)]
set_option maxHeartbeats 4000000 in
theorem wn (S1 S2 S3:Ns) (r1 r2:Nr) (R1 R2:Ms) (c1 c2:Cz) (P:Pg)
  (hp:Spec Tryz.prog 85 (ba [] []) (aP (ij P) []))
  (hS:Spec Tryz.prog 56 (aY [jT {},ij P, .v (.int .i64 0), .v (.int .i64 0), .v (.int .i64 1), .v (.int .i64 0),jD] (pw vL 0 [] (5,9))) (iW c1 R1 (S1,r1) vL 0 []))
  (hH:Spec Tryz.prog 81 (aY [jT S1,ij P, .v (.int .i64 10), .v (.int .i64 0), .v (.int .i64 1), .v (.int .i64 0),Dl (List.replicate 9 0),jD] (pw vL 0 [] (5,9))) (iW c2 R2 (S2,r2) vL 0 []))
  (hC:Spec Tryz.prog 53 (aY [jT S2,jD] (pw vL 0 [] (5,9))) (be (jT S3) (pw vL 0 [] (5,8)) [(4,9),(5,8)] [(4,9)]))
  (hw:Spec Tryz.prog 51 (ba [jT S1,ij P,ij P] []) (aP (.v (.bool true)) []))
  (hv2:Spec Tryz.prog 47 (ba [jT S2] []) (aP (.sl 1 (cm [5])) []))
  (hv3:Spec Tryz.prog 47 (ba [jT S3] []) (aP (.sl 1 (cm [0])) []))
  (e1:S1.up=true) (e2:S2.counts.getD 0 0=1) (e3:S2.counts.getD 10 0=1) (e4:S2.clock=2) (e5:S3.epoch=1):
  Spec Tryz.prog 50 (ba [] []) (aP (.v (.bool true)) []):=by
 have hn:=rE
 have hs5:=od 1 1 [5] [5] rfl rfl ab ab
 have hs0:=od 1 1 [0] [0] rfl rfl ab ab
 refine Spec.ofN Tryz.func50 rfl Tryz.ntmps50 rfl ?_
 refine am (cu rfl (aj (am (ai (aN _ aa rfl (by exact tH)) ?_))))
 refine ai (aQ (5,0) _ rfl rfl) (wg rfl (aj (aq ?_)))
 refine aM (Le.trans (Le.nilB (5,0) 4 (60,0) 111 7 rfl rfl rfl) (Le.nil0 (5,0) 3 rfl rfl)) ?_
 refine an (ai (aH aa (by repeat' (exact cT)) (hn) rfl rfl) ?_)
 refine ai (aH aa (by repeat' (exact cT)) (hp) rfl rfl) ?_
 refine bS rfl (ai (jp _ _ (rfl:_=[AV.ptr _ _]) (rfl:_=[])) ?_)
 refine ai (bQ aa [((4,9),(5,0)),((5,9),(60,0)),((1,8),(11,0)),((2,8),(11,1)),((3,8),(11,2)),((6,8),(11,3)),((5,8),(11,4))] ar (hS) ob tr tr rfl rfl ae ae) ?_
 refine ai (aI _ tK) (ai (cp _ rfl px) (ai (cp _ rfl px) (ai (aB (2,0) aa rfl rfl) (ai (aB (3,0) aa rfl rfl) (bF rfl rfl rfl rfl rfl rfl (bF rfl rfl rfl rfl rfl rfl (aj (aq (aq ?_)))))))))
 refine aM (Le.frzB (ys:=cm S1.timers) (2,0) 7 rfl rfl rfl rfl (Oi _) (by rw [aL];omega)) ?_
 refine bJ 10 [14,15,16,17,18,19,20,21,22,23] [] ae ae rfl (aK rfl) (rfl:_=[_,_,_,_,_,_,_,_,_,_]) (rfl:_=[]) ?_
 refine ap (_,[]) (fun τ=> az _ aa rfl rfl rfl rfl) ?_
 refine fO rfl ?_
 refine ap (_,[]) (fun τ=> (aH aa (by repeat' (exact cT)) (hp) rfl rfl)) ?_
 refine fN rfl ?_
 refine ap (_,[]) (fun τ=> (aH aa (by repeat' (exact cT)) (hp) rfl rfl)) ?_
 refine fP rfl ?_
 refine ap (_,[]) (fun τ=> (aH aa al (hw) rfl rfl)) ?_
 refine fV rfl ?_
 refine ap (_,[]) (fun τ=> cq _ rfl rfl) ?_
 refine gm rfl ?_
 refine ap (_,[]) (fun τ=> aI _ bT) ?_
 refine gY rfl ?_
 refine bM (_,[]) rfl (fun τ=> rfl) (fun τ=> aA _ aa rfl rfl rfl) ?_
 refine iH rfl ?_
 refine bM (_,[]) rfl (fun τ=> rfl) (fun τ=> aF _ aa rfl rfl CZ) ?_
 refine jU rfl ?_
 refine bM (_,[]) rfl (fun τ=> rfl) (fun τ=> cq (r:=false) _ rfl (by rw [e1];rfl)) ?_
 refine kA rfl ?_
 refine ap (_,[]) (fun τ=> aD _ _ _ rfl bT) ?_
 refine gf rfl (bo ⟨rfl,?_⟩)
 refine aj (aW rfl rfl (aS (aT fun K6 hK6=> ?_)))
 refine aM (σ':=aE 76 [(1,_),(2,_)] [((5,0),_),((11,4),_),((2,0),_)] [] []) kp ?_
 refine ic 10 [25,26,27,28,29,30,24,31,32] [(30,0),(30,1),(30,2),(30,3),(5,0),(30,4),(11,4),(2,0)] [[(2,0)],[(2,0)],[(2,0)],[(2,0)],[(2,0)],[(2,0)],[(2,0)],[(2,0)],[],[]] ae ae rfl (aK rfl) (rfl:_=[_,_,_,_,_,_,_,_,_,_]) (rfl:_=[]) ?_
 refine ap (_,[]) (fun τ=> az _ aa rfl rfl rfl rfl) ?_
 refine fO rfl ?_
 refine ap (_,[]) (fun τ=> (aH aa (by repeat' (exact cT)) (hp) rfl rfl)) ?_
 refine fN rfl ?_
 refine ap (_,[]) (fun τ=> aN _ aa rfl (by exact AD)) ?_
 refine fP rfl ?_
 refine ap (_,[]) (fun τ=> aI _ bX) ?_
 refine fV rfl ?_
 refine ap (_,[]) (fun τ=> jp _ _ (rfl:_=[AV.ptr _ _]) (rfl:_=[])) ?_
 refine gm rfl ?_
 refine ap (_,[((30,0),_),((30,1),_),((30,2),_),((30,3),_),((5,0),_),((30,4),_),((11,4), .gone)]) (fun τ=> (bQ aa [((4,9),(5,0)),((5,9),(11,4)),((1,8),(30,0)),((2,8),(30,1)),((3,8),(30,2)),((6,8),(30,3)),((5,8),(30,4))] ar (hH) ob tr tr rfl rfl ae ae)) ?_
 refine gY rfl ?_
 refine ap (_,[]) (fun τ=> aI _ tK) ?_
 refine iH rfl ?_
 refine ap (_,[]) (fun τ=> cp _ rfl px) ?_
 refine jU rfl ?_
 refine ap (_,[]) (fun τ=> cp _ rfl px) ?_
 refine kA rfl ?_
 refine ap (_,[((2,0),_)]) (fun τ=> dG _ _ aa rfl (eF rfl (by exact dO) rfl) rfl rfl (Nat.le_of_ble_eq_true rfl) rfl) ?_
 refine gf rfl (bo ⟨⟨rfl,by kernel_rfl⟩,?_⟩)
 refine aJ (hK6 _ ?_)
 clear hK6;try clear K6
 refine aq (aq ?_)
 refine aM (Le.frzB (ys:=cm S2.timers) (2,0) 7 rfl rfl rfl rfl (Oi _) (by rw [aL];omega)) ?_
 refine an (ai (az _ aa rfl rfl rfl rfl) (ai (aH aa al (hv2) rfl rfl) ?_))
 refine ai (bh _ _ aa rfl ag (by (simp <;> rfl)) ah rfl) ?_
 refine ai (aH aa al (hs5) rfl rfl) ?_
 refine ai (cq _ rfl rfl) (cI rfl (au rfl rfl (aA _ aa rfl rfl rfl) (au rfl rfl (cV _ _ aa rfl rfl rfl 0 rfl ab (by exact Nat.zero_add _)) ?_)))
 refine au rfl rfl (aF _ aa rfl rfl ef) (au rfl rfl (bN (r:=false) _ _ rfl rfl (by show (S2.counts.getD 0 0 !=1)=false;rw [e2];rfl)) ?_)
 refine ai (aD _ _ _ rfl bT) (cI rfl (au rfl rfl (aA _ aa rfl rfl rfl) (au rfl rfl (cV _ _ aa rfl rfl rfl 10 rfl ab ag) ?_)))
 refine au rfl rfl (aF _ aa rfl rfl ef) (au rfl rfl (bN (r:=false) _ _ rfl rfl (by show (S2.counts.getD 10 0 !=1)=false;rw [e3];rfl)) ?_)
 refine ai (aD _ _ _ rfl bT) (cI rfl (au rfl rfl (aA _ aa rfl rfl rfl) (au rfl rfl (aF _ aa rfl rfl ef) (au rfl rfl (bN (r:=false) _ _ rfl rfl (by rw [e4];rfl)) ?_))))
 refine ai (aD _ _ _ rfl bT) (aj (aW rfl rfl (aS (aT fun K9 hK9=> ?_))))
 refine aM (σ':=aE 76 [(1,_),(2,_)] [((5,0),_),((2,0),_),((30,4),_)] [] []) kp ?_
 refine an (ai (az _ aa rfl rfl rfl rfl) (bS rfl (ai (jp _ _ (rfl:_=[AV.ptr _ _]) (rfl:_=[])) ?_)))
 refine ai (bQ aa [((4,9),(5,0)),((5,9),(30,4)),((5,8),(58,0))] ar (hC) ob tr tr rfl rfl ae ae) ?_
 refine bF rfl rfl rfl rfl rfl rfl (aJ (hK9 _ ?_))
 clear hK9;try clear K9
 refine am (ai (az _ aa rfl rfl rfl rfl) (ai (aH aa al (hv3) rfl rfl) ?_))
 refine ai (bh _ _ aa rfl ag (by (simp <;> rfl)) ah rfl) ?_
 refine ai (aH aa al (hs0) rfl rfl) ?_
 refine cI rfl (au rfl rfl (aA _ aa rfl rfl rfl) (au rfl rfl (aF _ aa rfl rfl ef) (au rfl rfl (bC (r:=true) _ _ rfl rfl (by rw [e5];rfl)) ?_)))
 refine ai (aD _ _ _ rfl bT) (cI rfl (au rfl rfl (aI _ bX) (au rfl rfl (aU _ rfl rfl) (au rfl rfl (aA _ aa rfl rfl rfl) (au rfl rfl (aF _ aa rfl rfl eT) (au rfl rfl (dg _ aa rfl rfl) (au rfl rfl (bC _ _ rfl rfl rfl) (ai (aD _ _ _ rfl bT) (cu rfl (aj ?_))))))))))
 exact aG (fv rfl rfl)
abbrev Fr:Ns:={ up:=true,ver:=0,clock:=1,vol:=[0],counts:=(List.replicate 41 0).set 0 1 }
abbrev JB:Ns:={ up:=true,ver:=0,clock:=2,vol:=[5],counts:=((List.replicate 41 0).set 0 1).set 10 1 }
abbrev No:Ns:={ up:=false,ver:=0,clock:=2,vol:=[0],epoch:=1,counts:=(((List.replicate 41 0).set 0 1).set 10 1).set 40 1 }
theorem Jw (k:Nat) (l:List Int) (h: ∀ x∈l,0≤x∧x≤1): -1000000≤l.getD k 0∧l.getD k 0≤1000000:=by
 by_cases hk:k < l.length
 ·rw [List.getD_eq_getElem?_getD,List.getElem?_eq_getElem hk]
  have:=h _ (List.getElem_mem hk)
  simp only [Option.getD_some];omega
 rw [List.getD_eq_getElem?_getD,List.getElem?_eq_none ab];simp
theorem Fk:Spec Tryz.prog 50 (ba [] []) (aP (.v (.bool true)) []):=by
 have hsm:jR {}:=⟨Nat.zero_le _,Nat.zero_le _,Nat.zero_le _,Nat.zero_le _⟩
 have hdi:jy ({}:Ns).dk:=fun w hw=> (by cases hw)
 have hdk:DkOk 0 ({}:Ns).dk:=⟨rfl,fun v hv=> (by cases hv),Nat.zero_le _,fun w hw=> (by cases hw)⟩
 have hb:=uG (s:={}) p13_ok.pg p13_ok.cl p13_ok.tc hdk rfl (fun k=> Jw k (List.replicate 41 0) ah) ah 0
 have hld: ∀ (i:Nat) (k:Int),i≤100000→2≤k→k≤4→tA vL 1 (i:Int) k (gK [] i k):=fun i k _ h2 _=> by
  have e:gK [] i k=0:=Int.zero_emod k
  rw [e];exact Qx _ _ _ ab
 have hS:=wM P13 0 {} hsm hdi 0 hb 0 1 0 0 [] (dY ab) (dY ab) (dY ah) ab vL (fun h=> absurd h (Int.lt_irrefl 0)) hld _ rfl
 have q1:mM {} P13 0 0 1 0 0 []=(Fr,{}):=by kernel_rfl
 have a1:(gP (cP {} P13 0) P13 0 0 1 0 0 (List.replicate 9 0) []).asked=[]:=by kernel_rfl
 rw [q1] at hS
 have o1:pv 0+(gP (cP {} P13 0) P13 0 0 1 0 0 (List.replicate 9 0) []).asked.length=0:=by rw [a1];rfl
 have p1:pq vL 0 0++tf vL [] (gP (cP {} P13 0) P13 0 0 1 0 0 (List.replicate 9 0) []).asked=[]:=by rw [a1];rfl
 rw [o1,p1] at hS
 have h1:HdOk P13 0 Fr:=⟨p13_ok.pg,p13_ok.cl,p13_ok.tc,⟨hdk,rfl,fun v hv=> (by rw [List.mem_singleton.1 hv];exact oN),⟨List.Pairwise.nil,fun x hx=> (by cases hx)⟩,rfl⟩, .inl rfl,fun k=> Jw k _ ah,by decide⟩
 have hH:=uQ P13 0 Fr h1 10 ab 0 1 0 0 (List.replicate 9 0) [] rfl Ju (dY ab) (dY ab) (dY ah) ab vL (fun h=> absurd h (Int.lt_irrefl 0)) hld _ rfl
 have q2:dx Fr P13 10 0 1 0 0 (List.replicate 9 0) []=(JB,{}):=by kernel_rfl
 have a2:(gP Fr P13 10 0 1 0 0 (List.replicate 9 0) []).asked=[]:=by kernel_rfl
 rw [q2] at hH
 have o2:pv 0+(gP Fr P13 10 0 1 0 0 (List.replicate 9 0) []).asked.length=0:=by rw [a2];rfl
 have p2:pq vL 0 0++tf vL [] (gP Fr P13 10 0 1 0 0 (List.replicate 9 0) []).asked=[]:=by rw [a2];rfl
 rw [o2,p2] at hH
 have h2:jR JB:=⟨Nat.zero_le _,Nat.zero_le _,ah,Nat.zero_le _⟩
 have hC:=lh JB h2 hdi rfl ah ah vL 0 [] rfl ab [] (fun i hi=> absurd hi (Nat.not_lt_zero _))
 have hw:=Bf Fr rfl ah P13 P13 rfl rfl
 have hv2:=pV JB h2 hdi
 have hv3:=pV No ⟨Nat.zero_le _,Nat.zero_le _,ah,Nat.zero_le _⟩ hdi
 exact wn Fr JB No {} {} _ _ _ _ P13 Cm hS hH hC hw hv2 hv3 rfl rfl rfl rfl rfl

theorem yS (l:List Int) (k:Nat) (h:k < (ji (l.take 10)).length):(ji (l.take 10)).getD k IX=GS l k∧k < 10:=by
 have h1:k < (l.take 10).length:=by rw [me] at h;exact h
 have h2:k < 10∧k < l.length:=by rw [List.length_take] at h1;omega
 refine ⟨?_,h2.1⟩
 unfold ji
 rw [List.getD_eq_getElem?_getD,List.getElem?_map,List.getElem?_eq_getElem h1,List.getElem_take]
 show iy (dL (l[k]) 100000000)=iy (dL (l.getD k 0) 100000000)
 rw [List.getD_eq_getElem?_getD,List.getElem?_eq_getElem h2.2];rfl

theorem Iv (l:List Na) (k:Nat) (h:k < l.length) (j:Nat) (hj:j < 15):(Cv l)[k*15+j]? =(FS (l.getD k IX))[j]? :=by
 have e:l.getD k IX=l[k]:=by rw [List.getD_eq_getElem?_getD,List.getElem?_eq_getElem h];rfl
 rw [e];exact mO FS 15 (fun _=> rfl) l k j h hj

theorem Io (xs:List Int) (h:xs.length≤4611686018427387904):Spec Tryz.prog 30 (ba [.sl xs.length (cm xs), .sl xs.length (cm xs)] []) (aP (.v (.bool true)) []):=by
 have:=od xs.length xs.length xs xs rfl rfl h h
 rwa [decide_eq_true rfl] at this
theorem SqT.dk {P Q:Pg} {tp tq:Int} {i:Nat} {s:Ns} (h:SqT P Q tp tq i s): ∃ n,DkOk n s.dk:=by
 by_cases hu:s.up=true
 ·exact ⟨_,(h.sq.up hu).1.dk⟩
 exact (h.sq.dn (by simpa using hu)).1
theorem SqT.din {P Q:Pg} {tp tq:Int} {i:Nat} {s:Ns} (h:SqT P Q tp tq i s):jy s.dk:=fun w hw=> by
 obtain ⟨n,hd⟩:=h.dk
 obtain ⟨b1,b2,_⟩:=hd.pr w hw
 have:=hd.len
 exact ⟨b1,by omega⟩
set_option maxHeartbeats 4000000 in
theorem tw (one:Int) (l:List Int) (hone: -9223372036854775808≤one∧one≤9223372036854775807) (hl:l.length≤4611686018427387904) (hr: ∀ x∈l, -9223372036854775808≤x∧x≤9223372036854775807):
  Spec Tryz.prog 16 (ba [.v (.int .i64 one), .sl l.length (cm l)] []) (aP (.v (.bool true)) []):=by
 have hac:=yM l hl hr
 have hnn:=rE
 have hA:=yS l
 have hgt:=Iv (ji (l.take 10))
 have hga:=Dd (ji (l.take 10))
 obtain ⟨d,Lt⟩: ∃ d:Int,d=0:=⟨_,rfl⟩
 have hd:0≤d∧d≤3:=by omega
 have hP:=GK one
 have hp:=AI one hone
 generalize Lu one=P at hP hp
 generalize Oo one=tm at hP
 generalize ji (l.take 10)=A at hac hA hgt hga
 refine Spec.ofN Tryz.func16 rfl Tryz.ntmps16 rfl ?_
 refine am (cu rfl (aj (am (aX rfl (ai (aH aa al (hp) rfl rfl) ?_)))))
 refine ai (aB (5,0) aa rfl rfl) (bF rfl rfl rfl rfl rfl rfl (aj (am (eO rfl (ai (aH aa al (hac) rfl rfl) ?_)))))
 refine kB rfl (aj (am (ai (aH aa (by repeat' (exact cT)) (hnn) rfl rfl) ?_)))
 refine ai (aB (7,0) aa rfl rfl) (bF rfl rfl rfl rfl rfl rfl (aj (aT fun K5 hK5=> ?_)))
 refine am (bg rfl (aj (ay ?_)))
 refine bq (α:=Nat×Ns) (fun z=> z.1≤A.length∧SqT P P tm tm z.1 z.2) 166 [(5,_),(6,_),(7,_)] [((5,0),_)] (fun z=> [(8, .v (.int .i64 (z.1:Int)))]) (fun z=> [((7,0), .box 83 [.v (.bool z.2.up), .v (.int .i64 (z.2.ver)), .v (.int .i64 (z.2.epoch)), .v (.int .i64 (z.2.clock)), .sl z.2.dk.cells.length (cm z.2.dk.cells), .sl z.2.dk.pend.length (lK z.2.dk.pend), .sl z.2.vol.length (cm z.2.vol), .sl z.2.timers.length (cm z.2.timers), .v (.int .i64 (cO z.2 0)), .v (.int .i64 (cO z.2 1)), .v (.int .i64 (cO z.2 2)), .v (.int .i64 (cO z.2 3)), .v (.int .i64 (cO z.2 4)), .v (.int .i64 (cO z.2 5)), .v (.int .i64 (cO z.2 6)), .v (.int .i64 (cO z.2 7)), .v (.int .i64 (cO z.2 8)), .v (.int .i64 (cO z.2 9)), .v (.int .i64 (cO z.2 10)), .v (.int .i64 (cO z.2 11)), .v (.int .i64 (cO z.2 12)), .v (.int .i64 (cO z.2 13)), .v (.int .i64 (cO z.2 14)), .v (.int .i64 (cO z.2 15)), .v (.int .i64 (cO z.2 16)), .v (.int .i64 (cO z.2 17)), .v (.int .i64 (cO z.2 18)), .v (.int .i64 (cO z.2 19)), .v (.int .i64 (cO z.2 20)), .v (.int .i64 (cO z.2 21)), .v (.int .i64 (cO z.2 22)), .v (.int .i64 (cO z.2 23)), .v (.int .i64 (cO z.2 24)), .v (.int .i64 (cO z.2 25)), .v (.int .i64 (cO z.2 26)), .v (.int .i64 (cO z.2 27)), .v (.int .i64 (cO z.2 28)), .v (.int .i64 (cO z.2 29)), .v (.int .i64 (cO z.2 30)), .v (.int .i64 (cO z.2 31)), .v (.int .i64 (cO z.2 32)), .v (.int .i64 (cO z.2 33)), .v (.int .i64 (cO z.2 34)), .v (.int .i64 (cO z.2 35)), .v (.int .i64 (cO z.2 36)), .v (.int .i64 (cO z.2 37)), .v (.int .i64 (cO z.2 38)), .v (.int .i64 (cO z.2 39)), .v (.int .i64 (cO z.2 40)), .v (.int .i64 (z.2.wait)), .v (.int .i64 (0)), .v (.int .i64 (0))])]) [] [] (fun z=> A.length - z.1) (0,{}) ?_ (by
  refine Le.mkJ [] [] rfl ?_ ?_ trivial trivial ?_
  ·exact ⟨(iP rfl),(iS rfl),(iP rfl),(ci ag),trivial⟩
  ·exact ⟨(cj rfl rfl rfl),(eY rfl rfl rfl rfl lz),trivial⟩
  kernel_rfl) ?_
 ·exact ⟨Nat.zero_le _,Ha P P tm tm⟩
 intro z hz
 obtain ⟨k,s⟩:=z
 obtain ⟨hz1,hs⟩:=hz
 simp only at hz1 hs ⊢
 refine aT fun K7 hK7=> ?_
 refine am (aX rfl (eO rfl (ai (bi _ aa rfl) (ai (bm _ _ rfl rfl rfl) (aj (aR rfl (fun hc26=> ?_) (fun hc26=> ?_)))))))
 ·skip
  obtain ⟨hAk,hk10⟩:=hA k ab
  have ga:=hga k ab
  have gt:=hgt k ab
  rw [hAk] at ga gt
  have hw:=Hp l k
  have hnx:=GR hP hP hd ab hs hw
  have hsx:=IY hP hP hd hw.ok ab hs
  have hwl:=Is hsx
  generalize GS l k=a at*
  generalize eJ P P d a s=X at*
  obtain ⟨s',r⟩:=X
  generalize hN a s=h at*
  generalize Kz a s=rc at hnx
  generalize Kc P P d a s=ro at hnx
  generalize fh s a h=tl at hnx
  generalize jA P P d a s=nq at*
  simp only at*
  rw [Lt] at hnx
  obtain ⟨dn,hdk⟩:=hsx.dk
  have hpn:=hdk.pn
  have hdi:=hsx.din
  have hsm:=hsx.sm
  have hck:=hsx.sq.ck
  have hep:=hsx.sq.ep
  have hct:=hsx.sq.ct 40
  have hcl:=hsx.sq.cl
  have hcs:=hsm.c
  have hcv:=hsm.v
  refine br (hK7 _ ?_)
  clear hK7;try clear K7
  refine aT fun K9 hK9=> ?_
  refine ay (aq ?_)
  refine aM (σ':=aE 166 [(5,_),(6,_),(7,_),(8,_)] [((5,0),_),((7,0),_)] [] []) kp ?_
  refine pJ 16 [30,31,32,33,34,35,36,37,29,38,39,40,9,10] [(37,0),(37,1),(9,0),(10,0),(9,0),(10,0)] ae ae rfl (rfl:_=[_,_,_,_,_,_,_,_,_,_,_,_,_,_,_,_]) (rfl:_=[_]) ?_
  refine cE (_,[]) (fun τ=> az _ aa rfl rfl rfl rfl) ?_
  refine cD (rfl:_=[_]) ?_
  refine cE (_,[]) (fun τ=> az _ aa rfl rfl rfl rfl) ?_
  refine cD (rfl:_=[_,_]) ?_
  refine cE (_,[]) (fun τ=> az _ aa rfl rfl rfl rfl) ?_
  refine cD (rfl:_=[_,_,_]) ?_
  refine cE (_,[]) (fun τ=> aI _ mx) ?_
  refine cD (rfl:_=[_,_,_,_]) ?_
  refine cE (_,[]) (fun τ=> aI _ et) ?_
  refine cD (rfl:_=[_,_,_,_,_]) ?_
  refine cE (_,[]) (fun τ=> bn _ _ aa rfl rfl _ rfl ab (by (simp only [aL,bb,bj,aL,bb,dq,dS,gT,fi,jf,fT];omega)) ag) ?_
  refine cD (rfl:_=[_,_,_,_,_,_]) ?_
  refine cE (_,[]) (fun τ=> ca _ aa rfl (by exact ga) rfl) ?_
  refine cD (rfl:_=[_,_,_,_,_,_,_]) ?_
  refine cE (_,[((37,0),_),((37,1),_)]) (fun τ=> (bQ aa [((4,8),(37,0)),((5,8),(37,1))] ar (hnx.toI) trivial tr tr rfl rfl ae ae)) ?_
  refine cD (rfl:_=[_,_,_,_,_,_,_,_]) ?_
  refine cE (_,[]) (fun τ=> aI _ tK) ?_
  refine cD (rfl:_=[_,_,_,_,_,_,_,_,_]) ?_
  refine cE (_,[]) (fun τ=> cp _ rfl px) ?_
  refine cD (rfl:_=[_,_,_,_,_,_,_,_,_,_]) ?_
  refine cE (_,[]) (fun τ=> cp _ rfl px) ?_
  refine cD (rfl:_=[_,_,_,_,_,_,_,_,_,_,_]) ?_
  refine cE (_,[]) (fun τ=> cp _ rfl (rfl:_=some (AV.ptr _ _))) ?_
  refine cD (rfl:_=[_,_,_,_,_,_,_,_,_,_,_,_]) ?_
  refine cE (_,[((9,0),_)]) (fun τ=> aB (9,0) aa rfl rfl) ?_
  refine cD (rfl:_=[_,_,_,_,_,_,_,_,_,_,_,_,_]) ?_
  refine cE (_,[((10,0),_)]) (fun τ=> aB (10,0) aa rfl rfl) ?_
  refine cD (rfl:_=[_,_,_,_,_,_,_,_,_,_,_,_,_,_]) ?_
  refine cE (_,[((9,0),_)]) (fun τ=> dG _ _ aa rfl rfl rfl rfl (Nat.le_of_ble_eq_true rfl) rfl) ?_
  refine cD (rfl:_=[_,_,_,_,_,_,_,_,_,_,_,_,_,_,_]) ?_
  refine cE (_,[((10,0),_)]) (fun τ=> dG _ _ aa rfl rfl rfl rfl (Nat.le_of_ble_eq_true rfl) rfl) ?_
  refine cD (rfl:_=[_,_,_,_,_,_,_,_,_,_,_,_,_,_,_,_]) ?_
  refine nD ⟨⟨rfl,by kernel_rfl,by kernel_rfl⟩,?_⟩
  refine wg rfl (aj (aq (aq ?_)))
  refine aM (σ':=aE 166 [(5,_),(6,_),(7,_),(8,_),(9,_)] [((5,0),_),((7,0),_),((9,0),_)] [] []) kp ?_
  refine an (ai (az _ aa rfl rfl rfl rfl) (ai (az _ aa rfl rfl rfl rfl) (ai (az _ aa rfl rfl rfl rfl) (ai (aH aa al (hwl) rfl rfl) ?_))))
  refine ai (cq _ rfl rfl) (cI rfl (au rfl rfl (aA _ aa rfl rfl rfl) (au rfl rfl (aA _ aa rfl rfl rfl) (au rfl rfl (aF _ aa rfl rfl ed) (au rfl rfl (bi _ aa rfl) (au rfl rfl (gb (r:=false) _ _ rfl rfl (decide_eq_false ab)) ?_))))))
  refine ai (aD _ _ _ rfl bT) (aj (aW rfl rfl (aS (am (ai (az _ aa rfl rfl rfl rfl) (bF rfl rfl rfl rfl rfl rfl (aj (aT fun K14 hK14=> ?_))))))))
  refine am (bc rfl rfl rfl (zn rfl rfl rfl (ai (cq (r:= !s'.up) _ rfl rfl) ?_)))
  refine aj (aR rfl (fun hc56=> ?_) (fun hc56=> ?_))
  ·skip
   refine bA (id (hK9 _ ?_))
   clear hK9;try clear K9
   refine aM (σ':=aE 166 [(5,_),(6,_),(7,_),(8,_)] [((5,0),_),((7,0),_)] [] []) kp ?_
   refine an (aX rfl (ai (aZ _ _ rfl rfl (bD ab)) ?_))
   refine bg rfl (aJ (⟨(k+1,s'),?_,?_,?_⟩))
   ·exact ⟨by omega,hsx⟩
   ·skip
    refine Le.mkJ [] [] rfl ?_ ?_ trivial trivial ?_
    ·exact ⟨(iP rfl),(iS rfl),(iP rfl),(ci ag),trivial⟩
    ·exact ⟨(cj rfl rfl rfl),(eY rfl rfl rfl rfl lz),trivial⟩
    kernel_rfl
   omega
  have hup:s'.up=true:=by simpa using hc56
  have htl:=gE s' a 40 ab (by have:=hw.dl;omega) (by have:=hw.kl;omega)
  have hcr:=lh s' hsm hdi hcl ab ab (fh s' a 40) 0 [] rfl ab a.keeps (fun j _=> wK s' 40 hw j)
  have hkl:=hw.kl
  refine br (hK14 _ ?_)
  clear hK14;try clear K14
  refine aq ?_
  refine aM (σ':=aE 166 [(5,_),(6,_),(7,_),(8,_)] [((5,0),_),((7,0),_)] [] []) kp ?_
  refine bJ 7 [57,58,59,60,61,62,12] [(62,0)] ae ae rfl (aK rfl) (rfl:_=[_,_,_,_,_,_,_]) (rfl:_=[]) ?_
  refine ap (_,[]) (fun τ=> az _ aa rfl rfl rfl rfl) ?_
  refine fO rfl ?_
  refine ap (_,[]) (fun τ=> aI _ mx) ?_
  refine fN rfl ?_
  refine ap (_,[]) (fun τ=> aI _ et) ?_
  refine fP rfl ?_
  refine ap (_,[]) (fun τ=> bn _ _ aa rfl rfl _ rfl ab (by (simp only [aL,bb,bj,aL,bb,dq,dS,gT,fi,jf,fT];omega)) ag) ?_
  refine fV rfl ?_
  refine ap (_,[]) (fun τ=> ca _ aa rfl (by exact ga) rfl) ?_
  refine gm rfl ?_
  refine ap (_,[((62,0),_)]) (fun τ=> (bQ aa [((4,8),(62,0))] ar (htl.toI) trivial tr tr rfl rfl ae ae)) ?_
  refine gY rfl ?_
  refine ap (_,[]) (fun τ=> bp _ bX) ?_
  refine iH rfl (bo ⟨rfl,?_⟩)
  refine aj (aT fun K17 hK17=> ?_)
  refine aM (Le.nilB (62,0) 4 (61,0) 111 7 rfl rfl rfl) ?_
  refine an (ai (az _ aa rfl rfl rfl rfl) (bS rfl (ai (jp _ _ (rfl:_=[AV.ptr _ _]) (rfl:_=[])) ?_)))
  refine ai (bQ aa [((4,9),(62,0)),((5,9),(61,0)),((5,8),(66,0))] ar (hcr) ob tr tr rfl rfl ae ae) ?_
  refine ai (aB (13,0) aa rfl rfl) (bF rfl rfl rfl rfl rfl rfl (aJ (hK17 _ ?_)))
  clear hK17;try clear K17
  refine am (ai (bp _ fA) (aj (aT fun K19 hK19=> ?_)))
  refine am (bg rfl (aj (ay ?_)))
  refine aM (Le.nilS 14 (63,0) 4 1 rfl rfl) ?_
  refine bq (α:=Nat) (fun j=> j≤s'.dk.pend.length) 166 [(5,_),(6,_),(7,_),(8,_),(13,_)] [((5,0),_),((7,0),_),((13,0),_)] (fun j=> [(14, .ref (63,0) 0 j),(15, .v (.int .i64 (j:Int)))]) (fun j=> [((63,0), .row 4 1 (vO (keepB j a.keeps)))]) [] [] (fun j=> s'.dk.pend.length - j) 0 ?_ (by
   refine Le.mkJ [] [] rfl ?_ ?_ trivial trivial ?_
   ·exact ⟨(iP rfl),(iS rfl),(iP rfl),(iV rfl),(iP rfl),(cJ rfl ag),(ci ag),trivial⟩
   ·exact ⟨(cj rfl rfl rfl),(cj rfl rfl rfl),(cj rfl rfl rfl),(eZ rfl rfl rfl ag),trivial⟩
   kernel_rfl) ?_
  ·omega
  intro j hj
  refine aT fun K21 hK21=> ?_
  refine am (aX rfl (bc rfl rfl rfl (bc rfl rfl rfl (eQ rfl rfl rfl (ai (bi _ aa rfl) (ai (bm _ _ rfl rfl rfl) (aj (aR rfl (fun hc72=> ?_) (fun hc72=> ?_)))))))))
  ·skip
   have hkb:=qK j a.keeps
   have hkb2:a.keeps.length≤j→keepB (j+1) a.keeps=keepB j a.keeps++[false]:=fun h=> by rw [hkb,show a.keeps.getD j 0=0 by rw [List.getD_eq_getElem?_getD,List.getElem?_eq_none h];rfl];rfl
   refine br (hK21 _ ?_)
   clear hK21;try clear K21
   refine aq (ay ?_)
   rcases Nat.lt_or_ge j a.keeps.length with hj2 | hj2
   ·skip
    refine an (gz rfl (aX rfl (eO rfl (aX rfl ?_))))
    refine ai (bn _ _ aa rfl rfl _ rfl ab (by (simp only [aL,bb,bj,aL,bb,dq,dS,gT,fi,jf,fT];omega)) ag) ?_
    refine ai (cX _ aa rfl rfl) (ai (bL _ aa rfl (by exact gt 14 ab) rfl) ?_)
    refine ai (bi _ aa rfl) (ai (bm (r:=true) _ _ rfl rfl (decide_eq_true ab)) ?_)
    refine cI rfl (au rfl rfl (aI _ mx) (au rfl rfl (aI _ et) ?_))
    refine au rfl rfl (bn _ _ aa rfl rfl _ rfl ab (by (simp only [aL,bb,bj,aL,bb,dq,dS,gT,fi,jf,fT];omega)) ag) ?_
    refine au rfl rfl (cX _ aa rfl rfl) (au rfl rfl (bL _ aa rfl (by exact gt 14 ab) rfl) ?_)
    refine au rfl rfl (aI _ et) ?_
    refine au rfl rfl (bn _ _ aa rfl rfl _ rfl ab (by (simp only [aL,bb,bj,aL,bb,dq,dS,gT,fi,jf,fT];omega)) (by exact Nat.mul_one _)) ?_
    refine au rfl rfl (bL _ aa rfl (by exact dI _ _ hj2) rfl) ?_
    refine au rfl rfl (bC (r:=decide (a.keeps.getD j 0=1)) _ _ rfl rfl (by rw [Bool.eq_iff_iff];simp)) ?_
    refine ai (aD _ _ _ rfl bT) (ai (bh (xs:=[.v (.bool (decide (a.keeps.getD j 0=1)))]) _ _ aa rfl ag (by simp <;> rfl) ah rfl) ?_)
    refine ai (dh (96,0) _ _ aa rfl rfl (by rw [bb,dq,Nat.mul_one]) (.sl rfl) ab rfl ((mQ _ _).trans (congrArg vO hkb.symm)) rfl) ?_
    refine fe rfl (eh ?_)
    refine aM (σ':=aE 166 [(5,_),(6,_),(7,_),(8,_),(13,_),(14,_),(15,_)] [((5,0),_),((7,0),_),((13,0),_),((96,0),_)] [] []) kp ?_
    refine an (aX rfl (ai (aZ _ _ rfl rfl (bD ab)) ?_))
    refine bg rfl (aJ (⟨j+1,?_,?_,?_⟩))
    ·omega
    ·skip
     refine Le.mkJ [((63,0),(96,0))] [] rfl ?_ ?_ trivial trivial ?_
     ·exact ⟨(du (id:=(5,0)) rfl),(by repeat' (exact Lv.sl)),(du (id:=(7,0)) rfl),(by repeat' (exact Lv.v)),(du (id:=(13,0)) rfl),(cJ rfl ag),(ci ag),trivial⟩
     ·exact ⟨(eY rfl rfl rfl rfl (by repeat' (first | exact Lv.v | exact Lv.sl | exact bf | refine ax ?_ ?_))),(eY rfl rfl rfl rfl (by repeat' (first | exact Lv.v | exact Lv.sl | exact bf | refine ax ?_ ?_))),(eY rfl rfl rfl rfl (by repeat' (first | exact Lv.v | exact Lv.sl | exact bf | refine ax ?_ ?_))),(eZ rfl rfl rfl ag),trivial⟩
     kernel_rfl
    omega
   refine an (gz rfl (aX rfl (eO rfl (aX rfl ?_))))
   refine ai (bn _ _ aa rfl rfl _ rfl ab (by (simp only [aL,bb,bj,aL,bb,dq,dS,gT,fi,jf,fT];omega)) ag) ?_
   refine ai (cX _ aa rfl rfl) (ai (bL _ aa rfl (by exact gt 14 ab) rfl) ?_)
   refine ai (bi _ aa rfl) (ai (bm (r:=false) _ _ rfl rfl (decide_eq_false ab)) ?_)
   refine cI rfl (aO rfl rfl ah ?_)
   refine aO rfl rfl ah ?_
   refine aO rfl rfl ah ?_
   refine aO rfl rfl ah ?_
   refine aO rfl rfl ah ?_
   refine aO rfl rfl ah ?_
   refine aO rfl rfl ah ?_
   refine aO rfl rfl ah ?_
   refine aO rfl rfl ah ?_
   refine ai (aD _ _ _ rfl bT) (ai (bh (xs:=[.v (.bool false)]) _ _ aa rfl ag (by simp <;> rfl) ah rfl) ?_)
   refine ai (dh (96,0) _ _ aa rfl rfl (by rw [bb,dq,Nat.mul_one]) (.sl rfl) ab rfl ((mQ _ _).trans (congrArg vO (hkb2 hj2).symm)) rfl) ?_
   refine fe rfl (eh ?_)
   refine aM (σ':=aE 166 [(5,_),(6,_),(7,_),(8,_),(13,_),(14,_),(15,_)] [((5,0),_),((7,0),_),((13,0),_),((96,0),_)] [] []) kp ?_
   refine an (aX rfl (ai (aZ _ _ rfl rfl (bD ab)) ?_))
   refine bg rfl (aJ (⟨j+1,?_,?_,?_⟩))
   ·omega
   ·skip
    refine Le.mkJ [((63,0),(96,0))] [] rfl ?_ ?_ trivial trivial ?_
    ·exact ⟨(du (id:=(5,0)) rfl),(by repeat' (exact Lv.sl)),(du (id:=(7,0)) rfl),(by repeat' (exact Lv.v)),(du (id:=(13,0)) rfl),(cJ rfl ag),(ci ag),trivial⟩
    ·exact ⟨(eY rfl rfl rfl rfl (by repeat' (first | exact Lv.v | exact Lv.sl | exact bf | refine ax ?_ ?_))),(eY rfl rfl rfl rfl (by repeat' (first | exact Lv.v | exact Lv.sl | exact bf | refine ax ?_ ?_))),(eY rfl rfl rfl rfl (by repeat' (first | exact Lv.v | exact Lv.sl | exact bf | refine ax ?_ ?_))),(eZ rfl rfl rfl ag),trivial⟩
    kernel_rfl
   omega
  obtain rfl:j=s'.dk.pend.length:=by omega
  have hdc:=oY s'.dk ab ab hdi (keepB s'.dk.pend.length a.keeps) (by rw [dq];omega)
  rw [dq] at hdc
  refine bA (id (hK19 _ ?_))
  clear hK19;try clear K19
  refine aq ?_
  refine aM (Le.frzS (ys:=vO (keepB s'.dk.pend.length a.keeps)) 14 dR rfl rfl (by rw [List.drop_zero,Nat.mul_one,List.take_of_length_le (by rw [bb,dq];omega)]) (by rw [bb,dq];omega)) ?_
  refine an (bc rfl rfl rfl (ai (az _ aa rfl rfl rfl rfl) (eO rfl (ai (aH aa al (hdc) rfl rfl) ?_))))
  refine ai (aB (16,0) aa rfl rfl) (bF rfl rfl rfl rfl rfl rfl (aj (aq (am (bc rfl rfl rfl (ai (aF _ aa rfl rfl (by exact (rfl:_=some (AV.v (.bool false))))) ?_))))))
  refine cI rfl (au rfl rfl (aA _ aa rfl rfl rfl) (au rfl rfl (aF _ aa rfl rfl ef) (au rfl rfl (aA _ aa rfl rfl rfl) (au rfl rfl (aF _ aa rfl rfl ef) (au rfl rfl (aZ (r:=s'.epoch+1) _ _ rfl rfl (bD ab)) ?_)))))
  refine au rfl rfl (bN (r:=false) _ _ rfl rfl (bne_self_eq_false (s'.epoch+1))) ?_
  refine ai (aD _ _ _ rfl bT) (cI rfl (au rfl rfl (aA _ aa rfl rfl rfl) (au rfl rfl (aF _ aa rfl rfl ef) (au rfl rfl (aA _ aa rfl rfl rfl) (au rfl rfl (aF _ aa rfl rfl ef) (au rfl rfl (bN (r:=false) _ _ rfl rfl (bne_self_eq_false s'.clock)) ?_))))))
  refine ai (aD _ _ _ rfl bT) (cI rfl (au rfl rfl (aA _ aa rfl rfl rfl) (au rfl rfl (aF _ aa rfl rfl ef) (au rfl rfl (bN (r:=false) _ _ rfl rfl rfl) (ai (aD _ _ _ rfl bT) (cI rfl (au rfl rfl (aA _ aa rfl rfl rfl) (au rfl rfl (aF _ aa rfl rfl ed) (au rfl rfl (bi _ aa rfl) (au rfl rfl (bN (r:=false) _ _ rfl rfl rfl) ?_))))))))))
  refine ai (aD _ _ _ rfl bT) (cI rfl (au rfl rfl (aA _ aa rfl rfl rfl) (au rfl rfl (aF _ aa rfl rfl ed) (au rfl rfl (bi _ aa rfl) (au rfl rfl (aA _ aa rfl rfl rfl) (au rfl rfl (aF _ aa rfl rfl ed) (au rfl rfl (bi _ aa rfl) (au rfl rfl (bN (r:=false) _ _ rfl rfl (by show ((((List.replicate s'.vol.length (0:Int)).length:Nat):Int) !=_)=false;rw [List.length_replicate];exact bne_self_eq_false _)) ?_))))))))
  refine ai (aD _ _ _ rfl bT) (cI rfl (au rfl rfl (aA _ aa rfl rfl rfl) (au rfl rfl (aA _ aa rfl rfl rfl) (au rfl rfl (aF _ aa rfl rfl ed) (au rfl rfl (bi _ aa rfl) (au rfl rfl (bN (r:=false) _ _ rfl rfl rfl) (ai (aD _ _ _ rfl bT) (aj (aW rfl rfl (aS ?_))))))))))
  refine aT fun K27 hK27=> ?_
  refine aq ?_
  refine aM (σ':=aE 166 [(5,_),(6,_),(7,_),(8,_),(13,_),(16,_)] [((5,0),_),((7,0),_),((13,0),_),((16,0),_)] [] []) kp ?_
  refine an (bg rfl (aj (ay ?_)))
  refine bq (α:=Nat) (fun n=> n≤s'.vol.length) 166 [(5,_),(6,_),(7,_),(8,_),(13,_),(16,_)] [((5,0),_),((7,0),_),((13,0),_),((16,0),_)] (fun n=> [(17, .v (.int .i64 (n:Int)))]) (fun n=> []) [] [] (fun n=> s'.vol.length - n) 0 ?_ (by
   refine Le.mkJ [] [] rfl ?_ ?_ trivial trivial ?_
   ·exact ⟨(iP rfl),(iS rfl),(iP rfl),(iV rfl),(iP rfl),(iP rfl),(ci ag),trivial⟩
   ·exact ⟨(cj rfl rfl rfl),(cj rfl rfl rfl),(cj rfl rfl rfl),(cj rfl rfl rfl),trivial⟩
   kernel_rfl) ?_
  ·omega
  intro n hn
  refine aT fun K29 hK29=> ?_
  refine am (aX rfl (bc rfl rfl rfl (eQ rfl rfl rfl (ai (bi _ aa rfl) (ai (bm (r:=decide ((n:Int) < (s'.vol.length:Int))) _ _ rfl rfl (by show decide ((n:Int) < (((List.replicate s'.vol.length (0:Int)).length:Nat):Int))=_;rw [List.length_replicate])) ?_)))))
  refine aj (aR rfl (fun hc149=> ?_) (fun hc149=> ?_))
  ·skip
   have hvl:n < (List.replicate s'.vol.length (0:Int)).length:=by rw [List.length_replicate];omega
   have hv0:(List.replicate s'.vol.length (0:Int)).getD n 0=0:=by rw [List.getD_eq_getElem?_getD,List.getElem?_replicate];split <;> rfl
   have hvg:=dI (List.replicate s'.vol.length (0:Int)) n hvl
   rw [hv0] at hvg
   refine br (hK29 _ ?_)
   clear hK29;try clear K29
   refine aq (ay (am (bc rfl rfl rfl (eQ rfl rfl rfl (aX rfl (ai (bn _ _ aa rfl rfl n rfl (by exact hvl) (by rw [aL];exact Nat.lt_of_le_of_lt (Nat.zero_le _) hvl) (Nat.mul_one _)) ?_))))))
   refine ai (bL _ aa rfl (by exact hvg) rfl) ?_
   refine ai (bN (r:=false) _ _ rfl rfl rfl) (aj (aW rfl rfl (cr (an (aX rfl (ai (aZ _ _ rfl rfl (bD ab)) ?_))))))
   refine bg rfl (aJ (⟨n+1,?_,?_,?_⟩))
   ·omega
   ·skip
    refine Le.mkJ [] [] rfl ?_ ?_ trivial trivial ?_
    ·exact ⟨(iP rfl),(iS rfl),(iP rfl),(iV rfl),(iP rfl),(iP rfl),(ci ag),trivial⟩
    ·exact ⟨(cj rfl rfl rfl),(cj rfl rfl rfl),(cj rfl rfl rfl),(cj rfl rfl rfl),trivial⟩
    kernel_rfl
   omega
  refine bA (id (hK27 _ ?_))
  clear hK27;try clear K27
  refine am (bc rfl rfl rfl (bc rfl rfl rfl (eQ rfl rfl rfl (bc rfl rfl rfl (eQ rfl rfl rfl (ai (aH aa al (Io (s'.dk.crash (keepB s'.dk.pend.length a.keeps)).cells (by show (oP _ _).length≤_;rw [fQ];omega)) rfl rfl) ?_))))))
  refine ai (cq _ rfl rfl) (aj (aW rfl rfl (br (hK9 _ ?_))))
  clear hK9;try clear K9
  refine an (aX rfl (ai (aZ _ _ rfl rfl (bD ab)) ?_))
  refine bg rfl (aJ (⟨(k+1,s'),?_,?_,?_⟩))
  ·exact ⟨by omega,hsx⟩
  ·skip
   refine Le.mkJ [] [] rfl ?_ ?_ trivial trivial ?_
   ·exact ⟨(iP rfl),(iS rfl),(iP rfl),(ci ag),trivial⟩
   ·exact ⟨(cj rfl rfl rfl),(eY rfl rfl rfl rfl lz),trivial⟩
   kernel_rfl
  omega
 refine bA (id (hK5 _ ?_))
 clear hK5;try clear K5
 refine am (ai (aH aa (by repeat' (exact cT)) (Fk) rfl rfl) ?_)
 exact cu rfl (aj (aG (fv rfl rfl)))
theorem ra (one:Int) (hone: -9223372036854775808≤one∧one≤9223372036854775807) (n0:Nat) (l:List Int) (h0:l.length=n0) (g0:n0≤4611686018427387904) (r0:Rng l):
  Spec Tryz.prog 16 (ba [.v (.int .i64 one), .sl n0 (cm l)] []) (aP (.v (.bool true)) []):=by
 subst h0
 exact tw one l hone g0 r0
end Go.Proofs.YtmjnackchaahbaaGreat
