/- Part 18 of the texts that the walk leans on: the machine, the walks, the plain laws. -/
import Derived.Test.YtmjnackchaahbaaGreatNcZ17
set_option linter.unusedSimpArgs false
set_option linter.unusedVariables false
namespace Go.Proofs.YtmjnackchaahbaaGreat
open Go.RowKit

theorem wk {names:List Int} (hl:names.length=9) (self nodes clock:Int):(eA names self nodes clock).getD 0 0=self∧(eA names self nodes clock).getD 1 0=nodes∧(eA names self nodes clock).getD 2 0=clock∧
  (eA names self nodes clock).getD 3 0=names.getD 3 0∧(eA names self nodes clock).getD 4 0=names.getD 4 0∧(eA names self nodes clock).getD 5 0=names.getD 5 0∧(eA names self nodes clock).getD 6 0=names.getD 6 0∧(eA names self nodes clock).getD 7 0=names.getD 7 0∧(eA names self nodes clock).getD 8 0=names.getD 8 0:=by
 match names,hl with
 | [a,b,c,d,e,f,g,h,i],_=> exact ⟨rfl,rfl,rfl,rfl,rfl,rfl,rfl,rfl,rfl⟩
structure HdOk (P:Pg) (tm:Int) (s:Ns):Prop where
 pg:pV P
 cl:P.c.length≤1000000
 tc:TmC P.c tm=true
 ns:uR P s
 tl:qH tm s.timers
 cb: ∀ k, -1000000≤s.counts.getD k 0∧s.counts.getD k 0≤1000000
 ck: -1000000≤s.clock∧s.clock≤1000000
theorem HdOk.sm {P:Pg} {tm:Int} {s:Ns} (h:HdOk P tm s):jR s∧jC s.dk:=by
 have h1:=h.ns.dk.len
 have h2:=h.ns.dk.pn
 have h3:=h.ns.vl
 have h4:=h.pg.nv
 refine ⟨⟨by omega,by omega,by omega,?_⟩,fun w hw=> ?_⟩
 ·rcases h.tl with h | h <;> rw [h] <;> simp
 obtain ⟨b1,b2,_⟩:=h.ns.dk.pr w hw
 exact ⟨b1,by omega⟩
abbrev OO (t:Tl) (np:Nat) (pre:List PV):Tl:={ t with np:=np,pre:=pre }
theorem BT {clock drift tick:Int} (h:drift≤0):de clock drift tick=clock+1:=by unfold de;rw [if_neg ab,Int.add_zero]
theorem BA {clock drift tick:Int} (h:0 < drift):de clock drift tick=clock+1+tick % (drift+1):=by unfold de;rw [if_pos h]
abbrev gM (s:Ns) (P:Pg) (h:Nat) (self nodes drift tick:Int) (names ans:List Int):Ms:=pT P h (eA names self nodes (de s.clock drift tick)) (s.dk.view++s.vol) ans
theorem tT (s:Ns) (P:Pg) (h:Nat) (self nodes drift tick:Int) (names ans:List Int):cT s h (de s.clock drift tick) P (gM s P h self nodes drift tick names ans) (gM s P h self nodes drift tick names ans).acts.length=dq s P h self nodes drift tick names ans:=by
 obtain ⟨h1,h2,_⟩:=sE P h (eA names self nodes (de s.clock drift tick)) (s.dk.view++s.vol) ans
 show ((gM s P h self nodes drift tick names ans).acts.take (gM s P h self nodes drift tick names ans).acts.length).foldl eg (OD s h (de s.clock drift tick) ((gM s P h self nodes drift tick names ans).vars.drop P.d),{})=_
 rw [List.take_length]
 unfold dq
 show _=(jK P h (eA names self nodes (de s.clock drift tick)) (s.dk.view++s.vol) ans).acts.foldl eg _
 rw [← h1,show (gx s P h self nodes drift tick names ans).vars=(gM s P h self nodes drift tick names ans).vars from h2.symm]
def pv (t:Tl) (drift tick:Int):List PV:=if 0 < drift then vn t 2 0 (drift+1) (tick % (drift+1)) else []
def pq (drift:Int):Nat:=if 0 < drift then 1 else 0
theorem rN (P:Pg) (tm:Int) (s:Ns) (hs:HdOk P tm s) (h:Nat) (hh:h < 40) (self nodes drift tick:Int) (names ans:List Int) (mj:names.length=9) (hn: ∀ i,Rg (names.getD i 0)) (h1:Rg self) (h2:Rg nodes) (h3:Rg (de s.clock drift tick)) (hdr:0≤drift∧drift≤1000) (t:Tl)
  (hlk:0 < drift→sS t 2 0 (drift+1) (tick % (drift+1))) (hld: ∀ (i:Nat) (k:Int),i≤100000→2≤k→k≤4→sS t 1 (i:Int) k (gH ans i k)) (R:Ms) (hR:R=gM s P h self nodes drift tick names ans) (n0:Nat) (L0:List PV) (hn0:n0≤10) (hL0:L0.length=n0*7) (h00:0 < drift→n0=0∧L0=[]):
  Spec Tryz.prog 81 (aY [jQ s,ik P, .v (.int .i64 (h:Int)), .v (.int .i64 self), .v (.int .i64 nodes), .v (.int .i64 drift),Dv names,jD] (pt t n0 L0 (5,9)))
   (iW ⟨self,(h:Int),s.counts.getD h 0⟩ R (dq s P h self nodes drift tick names ans) t (n0+pq drift+R.asked.length) (L0++pv t drift tick++tv t ans R.asked)):=by
 obtain ⟨hsm,hin⟩:=hs.sm
 have hpn:=hs.pg.nv
 obtain ⟨v1,v2⟩:=hs.ns.dk.view
 have hvl:=hs.ns.vl
 have hiv:(s.dk.view++s.vol).length=P.d+P.v:=by rw [List.length_append,v1,hvl]
 have hir: ∀ v∈s.dk.view++s.vol,Rg v:=fun v hv=> (List.mem_append.1 hv).elim (v2 v) (hs.ns.vr v)
 have vL:=rk hn h1 h2 h3
 obtain ⟨a1,a2,a3⟩:=sE P h (eA names self nodes (de s.clock drift tick)) (s.dk.view++s.vol) ans
 obtain ⟨iv,_,_⟩:=tU hs.pg (h:=h) (names:=eA names self nodes (de s.clock drift tick)) (vars:=s.dk.view++s.vol) (ans:=ans) vL hiv hir
 have hRv:R.vars.length=P.d+P.v:=by rw [hR];show (pT _ _ _ _ _).vars.length=_;rw [a2];exact iv.vl
 have hRa:R.acts.length≤500:=by rw [hR];exact Ec _ _ _ _ _
 have hac: ∀ a∈R.acts,xh tm a∧Rg a.b:=fun a ha=> by
  rw [hR] at ha
  have ha:a∈(jK P h (eA names self nodes (de s.clock drift tick)) (s.dk.view++s.vol) ans).acts:=a1 ▸ ha
  obtain ⟨⟨_,q1,_,_⟩,_,_⟩:=iv.ac a ha
  exact ⟨ur hs.tc _ _ _ _ a ha,q1⟩
 have hq:=JL ⟨self,(h:Int),s.counts.getD h 0⟩ (h:=h) (ck:=de s.clock drift tick) (P:=P) (R:=R) (TmC.rg hs.tc) hac hs.tl hs.ns.dk ab ab hRa
 obtain ⟨g0,g1,g2,g3,g4,g5,g6,g7,g8⟩:=wk mj self nodes (de s.clock drift tick)
 have hrun:=fun (t':Tl) (ht:xK ⟨P,s.dk.view++s.vol,eA names self nodes (de s.clock drift tick),ans,t'⟩)=> JH P hs.pg hs.cl h hh (eA names self nodes (de s.clock drift tick)) (s.dk.view++s.vol) ans vL hiv hir t' ht R hR
 rw [g0,g1,g2,g3,g4,g5,g6,g7,g8] at hrun
 rw [← tT,← hR]
 by_cases hd:0 < drift
 ·obtain ⟨rfl,rfl⟩:=h00 hd
  have hmod:0≤tick % (drift+1)∧tick % (drift+1) < drift+1:=⟨Int.emod_nonneg _ ab,Int.emod_lt_of_pos _ ab⟩
  have hv:=hrun (OO t 1 (vn t 2 0 (drift+1) (tick % (drift+1)))) ⟨by show 1≤10;omega,rfl,fun i k x y z=> hld i k x y z⟩
  rw [BA hd] at hv hq ⊢
  rw [show pv t drift tick=vn t 2 0 (drift+1) (tick % (drift+1)) from if_pos hd,show pq drift=1 from if_pos hd,Nat.zero_add,List.nil_append]
  exact Rp s hsm hin hs.ns.ct P h hh self nodes drift (tick % (drift+1)) names t hd (hlk hd) ⟨hmod.1,by omega⟩ ab hs.cb hs.ck R (tv t ans R.asked) hv ab ab hRa hq
 have hv:=hrun (OO t n0 L0) ⟨hn0,hL0,fun i k x y z=> hld i k x y z⟩
 rw [BT ab] at hv hq ⊢
 rw [show pv t drift tick=[] from if_neg hd,show pq drift=0 from if_neg hd,Nat.add_zero,List.append_nil]
 exact Qq s hsm hin hs.ns.ct P h hh self nodes drift 0 names t n0 L0 ab hs.cb hs.ck R (tv t ans R.asked) hv ab ab hRa hq
theorem uL (P:Pg) (tm:Int) (s:Ns) (hs:HdOk P tm s) (h:Nat) (hh:h < 40) (self nodes drift tick:Int) (names ans:List Int) (mj:names.length=9) (hn: ∀ i,Rg (names.getD i 0)) (h1:Rg self) (h2:Rg nodes) (h3:Rg (de s.clock drift tick)) (hdr:0≤drift∧drift≤1000) (t:Tl)
  (hlk:0 < drift→sS t 2 0 (drift+1) (tick % (drift+1))) (hld: ∀ (i:Nat) (k:Int),i≤100000→2≤k→k≤4→sS t 1 (i:Int) k (gH ans i k)) (R:Ms) (hR:R=gM s P h self nodes drift tick names ans):
  Spec Tryz.prog 81 (aY [jQ s,ik P, .v (.int .i64 (h:Int)), .v (.int .i64 self), .v (.int .i64 nodes), .v (.int .i64 drift),Dv names,jD] (pt t 0 [] (5,9)))
   (iW ⟨self,(h:Int),s.counts.getD h 0⟩ R (dq s P h self nodes drift tick names ans) t (pq drift+R.asked.length) (pv t drift tick++tv t ans R.asked)):=by
 have:=rN P tm s hs h hh self nodes drift tick names ans mj hn h1 h2 h3 hdr t hlk hld R hR 0 [] (Nat.zero_le _) rfl (fun _=> ⟨rfl,rfl⟩)
 rwa [Nat.zero_add,List.nil_append] at this

theorem JT (i:Nat):Rg ((List.replicate 9 (0:Int)).getD i 0):=by
 by_cases hi:i < 9
 ·rw [List.getD_eq_getElem?_getD,List.getElem?_replicate,if_pos hi];exact oA
 rw [List.getD_eq_getElem?_getD,List.getElem?_replicate,if_neg hi];exact oA
theorem zM (P:Pg) (tm:Int) (s:Ns) (hs:jR s) (ho:jC s.dk) (ver:Int) (hb:HdOk P tm (cN s P ver)) (self nodes drift tick:Int) (ans:List Int) (h1:Rg self) (h2:Rg nodes) (h3:Rg (de s.clock drift tick)) (hdr:0≤drift∧drift≤1000) (t:Tl)
  (hlk:0 < drift→sS t 2 0 (drift+1) (tick % (drift+1))) (hld: ∀ (i:Nat) (k:Int),i≤100000→2≤k→k≤4→sS t 1 (i:Int) k (gH ans i k)) (R:Ms) (hR:R=gM (cN s P ver) P 0 self nodes drift tick (List.replicate 9 0) ans) (n0:Nat) (L0:List PV) (hn0:n0≤10) (hL0:L0.length=n0*7) (h00:0 < drift→n0=0∧L0=[]):
  Spec Tryz.prog 56 (aY [jQ s,ik P, .v (.int .i64 ver), .v (.int .i64 self), .v (.int .i64 nodes), .v (.int .i64 drift),jD] (pt t n0 L0 (5,9)))
   (iW ⟨self,((0:Nat):Int),s.counts.getD 0 0⟩ R (kU s P ver self nodes drift tick ans) t (n0+pq drift+R.asked.length) (L0++pv t drift tick++tv t ans R.asked)):=by
 have hpn:=hb.pg.nv
 have hH:=rN P tm (cN s P ver) hb 0 ab self nodes drift tick (List.replicate 9 0) ans rfl JT h1 h2 h3 hdr t hlk hld R hR n0 L0 hn0 hL0 h00
 by_cases hd:s.dk.cells.length=P.d
 ·exact Pl s hs ho P ver self nodes drift t n0 L0 hd ab ab _ R _ _ _ hH
 exact PM s hs ho P ver self nodes drift t n0 L0 hd ab ab _ R _ _ _ hH
theorem wP (P:Pg) (tm:Int) (s:Ns) (hs:jR s) (ho:jC s.dk) (ver:Int) (hb:HdOk P tm (cN s P ver)) (self nodes drift tick:Int) (ans:List Int) (h1:Rg self) (h2:Rg nodes) (h3:Rg (de s.clock drift tick)) (hdr:0≤drift∧drift≤1000) (t:Tl)
  (hlk:0 < drift→sS t 2 0 (drift+1) (tick % (drift+1))) (hld: ∀ (i:Nat) (k:Int),i≤100000→2≤k→k≤4→sS t 1 (i:Int) k (gH ans i k)) (R:Ms) (hR:R=gM (cN s P ver) P 0 self nodes drift tick (List.replicate 9 0) ans):
  Spec Tryz.prog 56 (aY [jQ s,ik P, .v (.int .i64 ver), .v (.int .i64 self), .v (.int .i64 nodes), .v (.int .i64 drift),jD] (pt t 0 [] (5,9)))
   (iW ⟨self,((0:Nat):Int),s.counts.getD 0 0⟩ R (kU s P ver self nodes drift tick ans) t (pq drift+R.asked.length) (pv t drift tick++tv t ans R.asked)):=by
 have:=zM P tm s hs ho ver hb self nodes drift tick ans h1 h2 h3 hdr t hlk hld R hR 0 [] (Nat.zero_le _) rfl (fun _=> ⟨rfl,rfl⟩)
 rwa [Nat.zero_add,List.nil_append] at this
theorem tY {P:Pg} {tm:Int} {s:Ns} {m:Nat} (hp:pV P) (hc:P.c.length≤1000000) (ht:TmC P.c tm=true) (hd:DkOk m s.dk) (hct:s.counts.length=41) (hcb: ∀ k, -1000000≤s.counts.getD k 0∧s.counts.getD k 0≤1000000) (hck: -1000000≤s.clock∧s.clock≤1000000) (ver:Int):HdOk P tm (cN s P ver) where
 pg:=hp
 cl:=hc
 tc:=ht
 ns:={
  dk:=by
   show DkOk P.d (if s.dk.cells.length=P.d then s.dk else s.dk.resize P.d)
   split
   ·rename_i h
    have:=hd.len
    rwa [← h,this]
   exact hd.resize P.d
  vl:=List.length_replicate
  vr:=fun v hv=> by
   have hv:v∈List.replicate P.v (0:Int):=hv
   rw [List.mem_replicate] at hv;rw [hv.2];exact oA
  tm:=⟨List.Pairwise.nil,fun x hx=> by cases hx⟩
  ct:=hct }
 tl:= .inl rfl
 cb:=hcb
 ck:=hck

abbrev Dr (c:Cz) (r:Nr) (o:Ms):AV:= .agg [.v (.int .i64 c.a), .v (.int .i64 c.b), .v (.int .i64 c.c), .sl r.sent.length (AR c r.sent), .v (.bool r.repl), .v (.int .i64 r.value), .sl r.fails.length (co r.fails), .sl o.vars.length (co o.vars), .sl o.acts.length (vu o.acts), .v (.int .i64 (o.steps:Int)), .v (.bool (!o.fin)), .sl (fz (kE o.cov)).length (co (fz (kE o.cov)))]
abbrev fm (s:Ns) (a:Na) (h:Nat):Tl:=⟨1,(h:Int),cI s h,(lh 1 (h:Int) (cI s h) a.tick a.draws a.keeps).length,ra (lh 1 (h:Int) (cI s h) a.tick a.draws a.keeps),0,[]⟩
abbrev nE (s':Ns) (rd:AV) (t:Tl) (n:Nat) (L:List PV):St:=aP (.tup [jQ s',rd, .ptr (4,8) 0]) [((4,8), .box 103 [.v (.int .i64 t.c1), .v (.int .i64 t.c2), .v (.int .i64 t.c3), .sl t.na t.A, .ref (5,8) 0 n]),((5,8), .row 111 7 L)]
abbrev KA:AV:= .agg [.v (.int .i64 0), .v (.int .i64 0), .v (.int .i64 0), .sl 0 [], .v (.bool false), .v (.int .i64 0), .sl 0 [], .sl 0 [], .sl 0 [], .v (.int .i64 0), .v (.bool false), .sl 0 []]
set_option maxHeartbeats 4000000 in
theorem QR (s:Ns) (hup:s.up=false) (hep:0≤s.epoch) (he2:s.epoch % 2=0) (P Q:Pg) (drift:Int) (a:Na) (h1:a.draws.length≤1000) (h2:a.keeps.length≤1000) (c:Cz) (R:Ms) (q:Ns×Nr) (n:Nat) (L:List PV)
  (hS:Spec Tryz.prog 56 (aY [jQ s,ik P, .v (.int .i64 0), .v (.int .i64 1), .v (.int .i64 3), .v (.int .i64 drift),jD] (pt (fm s a 0) 0 [] (5,9))) (iW c R q (fm s a 0) n L)):
  Spec Tryz.prog 45 (ba [jQ s,ik P,ik Q, .v (.int .i64 drift),Bh a] []) (nE q.1 (Dr c q.2 R) (fm s a 0) n L):=by
 have htl:=ip s a 0 ab h1 h2
 refine Spec.ofN Tryz.func45 rfl Tryz.ntmps45 rfl ?_
 refine am (ai (aQ (5,0) _ rfl rfl) (ai (aQ (6,0) _ rfl rfl) (ai (aQ (7,0) _ rfl rfl) (ai (aQ (9,0) _ rfl rfl) (ai (aB (10,0) aa rfl rfl) (ai (aB (11,0) aa rfl rfl) (ai (bp _ kH) (aj (aq (am ?_))))))))))
 refine bb rfl rfl rfl (zr rfl rfl rfl (ai (cr (r:=true) _ rfl (by rw [hup];rfl)) ?_))
 refine aj (bJ rfl rfl (am (ai (az _ aa rfl rfl rfl rfl) (ai (az _ aa rfl rfl rfl rfl) (ai (bW aa [((4,8),(28,0))] ar (htl.toI) trivial tr tr rfl rfl ae ae) ?_)))))
 refine vO rfl (aj (am (ai (az _ aa rfl rfl rfl rfl) (ai (aB (14,0) aa rfl rfl) (bF rfl rfl rfl rfl rfl rfl (aj (aq ?_)))))))
 refine aM (σ':=aD 90 [(3,_),(5,_),(7,_),(10,_),(11,_),(13,_),(14,_)] [((5,0),_),((7,0),_),((10,0),_),((11,0),_),((28,0),_),((14,0),_)] [] []) kp ?_
 refine an (be rfl (aj (aq (am (bb rfl rfl rfl (ca rfl rfl rfl (ai (dV (r:=0) _ _ rfl rfl ab ((Int.tmod_eq_emod_of_nonneg hep).trans he2)) ?_)))))))
 refine gL rfl rfl rfl (aj (aW rfl rfl (aS (aU fun K9 hK9=> ?_))))
 refine aM (Le.nilB (28,0) 4 (60,0) 111 7 rfl rfl rfl) ?_
 refine an (ai (az _ aa rfl rfl rfl rfl) (ai (az _ aa rfl rfl rfl rfl) (aX rfl (aX rfl (bR rfl (ai (jE _ _ (rfl:_=[AV.ptr _ _]) (rfl:_=[])) ?_))))))
 refine ai (bW aa [((4,9),(28,0)),((5,9),(60,0)),((1,8),(42,0)),((2,8),(42,1)),((3,8),(42,2)),((6,8),(42,3)),((5,8),(42,4))] ar (hS) ob tr tr rfl rfl ae ae) ?_
 refine ai (aH _ tK) (ai (cm _ rfl pD) (ai (cm _ rfl pD) (ai (aB (16,0) aa rfl rfl) (ai (aB (17,0) aa rfl rfl) (bF rfl rfl rfl rfl rfl rfl (bF rfl rfl rfl rfl rfl rfl (aJ (hK9 _ ?_))))))))
 clear hK9;try clear K9
 refine aq ?_
 refine aM (σ':=aD 90 [(10,_),(11,_),(13,_),(16,_),(17,_)] [((10,0),_),((11,0),_),((28,0),_),((42,0),_),((42,1),_),((42,2),_),((42,3),_),((42,4),_),((16,0),_),((17,0),_)] [] []) kp ?_
 refine hG 5 [45,46,47] [(10,0),(11,0)] [[(10,0),(11,0)],[(11,0)],[],[(11,0)],[]] ae ae rfl (aK rfl) (rfl:_=[_,_,_,_,_]) (rfl:_=[_]) ?_
 refine ap (_,[]) (fun τ=> az _ aa rfl rfl rfl rfl) ?_
 refine fN rfl ?_
 refine ap (_,[]) (fun τ=> az _ aa rfl rfl rfl rfl) ?_
 refine fO rfl ?_
 refine ap (_,[]) (fun τ=> aH _ bZ) ?_
 refine fS rfl ?_
 refine ap (_,[((10,0),_)]) (fun τ=> dz _ _ aa rfl (eE rfl (by exact dN) rfl) rfl rfl (Nat.le_of_ble_eq_true rfl) rfl) ?_
 refine fY rfl ?_
 refine ap (_,[((11,0),_)]) (fun τ=> dz _ _ aa rfl (eE rfl (by exact dN) rfl) rfl rfl (Nat.le_of_ble_eq_true rfl) rfl) ?_
 refine gz rfl (bl ⟨⟨rfl,by kernel_rfl⟩,?_⟩)
 refine vO rfl (aj (aF ?_))
 exact wA (.inr rfl) rfl (.cellA aa rfl rfl rfl) (.cellA aa rfl rfl rfl) (.tmp bZ) (Le.out [((4,8),(28,0)),((5,8),(42,4))] [(42,0),(42,1),(42,2),(42,3)] (.tup rfl (au (.agg rfl (zt (au .sl (au .sl (au .sl (au (fe rfl rfl (by rw [aN,Nat.mul_one]) rfl) lz)))))) (au (.agg rfl (au .v (au .v (au .v (au (fe rfl rfl (jN _ _).symm rfl) (au .v (au .v (au (fe rfl rfl (by rw [aN,Nat.mul_one]) rfl) (au .sl (au (fe rfl rfl (gk _).symm rfl) lz)))))))))) lz))) rfl rfl rfl tr ob)
set_option maxHeartbeats 4000000 in
theorem Rf (s:Ns) (hup:s.up=false) (hep:0≤s.epoch) (he2:s.epoch % 2=1) (P Q:Pg) (drift:Int) (a:Na) (h1:a.draws.length≤1000) (h2:a.keeps.length≤1000) (c:Cz) (R:Ms) (q:Ns×Nr) (n:Nat) (L:List PV)
  (hS:Spec Tryz.prog 56 (aY [jQ s,ik Q, .v (.int .i64 1), .v (.int .i64 1), .v (.int .i64 3), .v (.int .i64 drift),jD] (pt (fm s a 0) 0 [] (5,9))) (iW c R q (fm s a 0) n L)):
  Spec Tryz.prog 45 (ba [jQ s,ik P,ik Q, .v (.int .i64 drift),Bh a] []) (nE q.1 (Dr c q.2 R) (fm s a 0) n L):=by
 have htl:=ip s a 0 ab h1 h2
 refine Spec.ofN Tryz.func45 rfl Tryz.ntmps45 rfl ?_
 refine am (ai (aQ (5,0) _ rfl rfl) (ai (aQ (6,0) _ rfl rfl) (ai (aQ (7,0) _ rfl rfl) (ai (aQ (9,0) _ rfl rfl) (ai (aB (10,0) aa rfl rfl) (ai (aB (11,0) aa rfl rfl) (ai (bp _ kH) (aj (aq (am ?_))))))))))
 refine bb rfl rfl rfl (zr rfl rfl rfl (ai (cr (r:=true) _ rfl (by rw [hup];rfl)) ?_))
 refine aj (bJ rfl rfl (am (ai (az _ aa rfl rfl rfl rfl) (ai (az _ aa rfl rfl rfl rfl) (ai (bW aa [((4,8),(28,0))] ar (htl.toI) trivial tr tr rfl rfl ae ae) ?_)))))
 refine vO rfl (aj (am (ai (az _ aa rfl rfl rfl rfl) (ai (aB (14,0) aa rfl rfl) (bF rfl rfl rfl rfl rfl rfl (aj (aq ?_)))))))
 refine aM (σ':=aD 90 [(3,_),(5,_),(7,_),(10,_),(11,_),(13,_),(14,_)] [((5,0),_),((7,0),_),((10,0),_),((11,0),_),((28,0),_),((14,0),_)] [] []) kp ?_
 refine an (be rfl (aj (aq (am (bb rfl rfl rfl (ca rfl rfl rfl (ai (dV (r:=1) _ _ rfl rfl ab ((Int.tmod_eq_emod_of_nonneg hep).trans he2)) ?_)))))))
 refine kx rfl rfl rfl (aj (bJ rfl rfl (am (ai (az _ aa rfl rfl rfl rfl) (bF rfl rfl rfl rfl rfl rfl (aj (an (be rfl (aj (aU fun K10 hK10=> ?_))))))))))
 refine aM (Le.nilB (28,0) 4 (60,0) 111 7 rfl rfl rfl) ?_
 refine an (ai (az _ aa rfl rfl rfl rfl) (ai (az _ aa rfl rfl rfl rfl) (aX rfl (aX rfl (bR rfl (ai (jE _ _ (rfl:_=[AV.ptr _ _]) (rfl:_=[])) ?_))))))
 refine ai (bW aa [((4,9),(28,0)),((5,9),(60,0)),((1,8),(42,0)),((2,8),(42,1)),((3,8),(42,2)),((6,8),(42,3)),((5,8),(42,4))] ar (hS) ob tr tr rfl rfl ae ae) ?_
 refine ai (aH _ tK) (ai (cm _ rfl pD) (ai (cm _ rfl pD) (ai (aB (16,0) aa rfl rfl) (ai (aB (17,0) aa rfl rfl) (bF rfl rfl rfl rfl rfl rfl (bF rfl rfl rfl rfl rfl rfl (aJ (hK10 _ ?_))))))))
 clear hK10;try clear K10
 refine aq ?_
 refine aM (σ':=aD 90 [(10,_),(11,_),(13,_),(16,_),(17,_)] [((10,0),_),((11,0),_),((28,0),_),((42,0),_),((42,1),_),((42,2),_),((42,3),_),((42,4),_),((16,0),_),((17,0),_)] [] []) kp ?_
 refine hG 5 [45,46,47] [(10,0),(11,0)] [[(10,0),(11,0)],[(11,0)],[],[(11,0)],[]] ae ae rfl (aK rfl) (rfl:_=[_,_,_,_,_]) (rfl:_=[_]) ?_
 refine ap (_,[]) (fun τ=> az _ aa rfl rfl rfl rfl) ?_
 refine fN rfl ?_
 refine ap (_,[]) (fun τ=> az _ aa rfl rfl rfl rfl) ?_
 refine fO rfl ?_
 refine ap (_,[]) (fun τ=> aH _ bZ) ?_
 refine fS rfl ?_
 refine ap (_,[((10,0),_)]) (fun τ=> dz _ _ aa rfl (eE rfl (by exact dN) rfl) rfl rfl (Nat.le_of_ble_eq_true rfl) rfl) ?_
 refine fY rfl ?_
 refine ap (_,[((11,0),_)]) (fun τ=> dz _ _ aa rfl (eE rfl (by exact dN) rfl) rfl rfl (Nat.le_of_ble_eq_true rfl) rfl) ?_
 refine gz rfl (bl ⟨⟨rfl,by kernel_rfl⟩,?_⟩)
 refine vO rfl (aj (aF ?_))
 exact wA (.inr rfl) rfl (.cellA aa rfl rfl rfl) (.cellA aa rfl rfl rfl) (.tmp bZ) (Le.out [((4,8),(28,0)),((5,8),(42,4))] [(42,0),(42,1),(42,2),(42,3)] (.tup rfl (au (.agg rfl (zt (au .sl (au .sl (au .sl (au (fe rfl rfl (by rw [aN,Nat.mul_one]) rfl) lz)))))) (au (.agg rfl (au .v (au .v (au .v (au (fe rfl rfl (jN _ _).symm rfl) (au .v (au .v (au (fe rfl rfl (by rw [aN,Nat.mul_one]) rfl) (au .sl (au (fe rfl rfl (gk _).symm rfl) lz)))))))))) lz))) rfl rfl rfl tr ob)
set_option maxHeartbeats 4000000 in
theorem PW (s:Ns) (hup:s.up=true) (hv:s.ver≠1) (P Q:Pg) (drift:Int) (a:Na) (hcr:a.crash=false) (hh:a.h < 41) (h1:a.draws.length≤1000) (h2:a.keeps.length≤1000) (c:Cz) (R:Ms) (q:Ns×Nr) (n:Nat) (L:List PV)
  (hS:Spec Tryz.prog 81 (aY [jQ { s with wait:=a.wait },ik P, .v (.int .i64 (a.h:Int)), .v (.int .i64 1), .v (.int .i64 3), .v (.int .i64 drift),Dv a.names,jD] (pt (fm s a a.h) 0 [] (5,9))) (iW c R q (fm s a a.h) n L)):
  Spec Tryz.prog 45 (ba [jQ s,ik P,ik Q, .v (.int .i64 drift),Bh a] []) (nE q.1 (Dr c q.2 R) (fm s a a.h) n L):=by
 have htl:=ip { s with wait:=a.wait } a a.h hh h1 h2
 refine Spec.ofN Tryz.func45 rfl Tryz.ntmps45 rfl ?_
 refine am (ai (aQ (5,0) _ rfl rfl) (ai (aQ (6,0) _ rfl rfl) (ai (aQ (7,0) _ rfl rfl) (ai (aQ (9,0) _ rfl rfl) (ai (aB (10,0) aa rfl rfl) (ai (aB (11,0) aa rfl rfl) (ai (bp _ kH) (aj (aq (am ?_))))))))))
 refine bb rfl rfl rfl (zr rfl rfl rfl (ai (cr (r:=false) _ rfl (by rw [hup];rfl)) ?_))
 refine aj (aW rfl rfl (aS (aq (am (bb rfl rfl rfl (ca rfl rfl rfl (gL rfl rfl (by rw [if_neg (by rw [hcr];exact Bool.false_ne_true)];rfl) ?_)))))))
 refine aj (aW rfl rfl (aS (am (ai (az _ aa rfl rfl rfl rfl) (ai (aB (19,0) aa rfl rfl) (bF rfl rfl rfl rfl rfl rfl (aj (aq (aq ?_)))))))))
 refine aM (σ':=aD 90 [(3,_),(5,_),(7,_),(9,_),(10,_),(11,_),(19,_)] [((5,0),_),((7,0),_),((9,0),_),((10,0),_),((11,0),_),((19,0),_)] [] []) kp ?_
 refine an (bb rfl rfl rfl (ca rfl rfl rfl (gL rfl rfl (beq_eq_false_iff_ne.2 hv) ?_)))
 refine aj (aW rfl rfl (aS (am (bb rfl rfl rfl (ca rfl rfl rfl (bb rfl rfl rfl (bF rfl rfl rfl rfl rfl rfl (aj (am (ai (az _ aa rfl rfl rfl rfl) ?_))))))))))
 refine ai (az _ aa rfl rfl rfl rfl) (bb rfl rfl rfl (ca rfl rfl rfl (ai (bW aa [((4,8),(72,0))] ar (htl.toI) trivial tr tr rfl rfl ae ae) ?_)))
 refine vO rfl (aj (aU fun K11 hK11=> ?_))
 refine aM (Le.nilB (72,0) 4 (60,0) 111 7 rfl rfl rfl) ?_
 refine an (ai (az _ aa rfl rfl rfl rfl) (ai (az _ aa rfl rfl rfl rfl) (bb rfl rfl rfl (ca rfl rfl rfl (aX rfl (bb rfl rfl rfl (ai (az _ aa rfl rfl rfl rfl) (ai (aL _ aa rfl (by exact Cy)) ?_))))))))
 refine bR rfl (ai (jE _ _ (rfl:_=[AV.ptr _ _]) (rfl:_=[])) ?_)
 refine ai (bW aa [((4,9),(72,0)),((5,9),(60,0)),((1,8),(84,0)),((2,8),(84,1)),((3,8),(84,2)),((6,8),(84,3)),((5,8),(84,4))] ar (hS) ob tr tr rfl rfl ae ae) ?_
 refine ai (aH _ tK) (ai (cm _ rfl pD) (ai (cm _ rfl pD) (ai (aB (21,0) aa rfl rfl) (ai (aB (22,0) aa rfl rfl) (bF rfl rfl rfl rfl rfl rfl (bF rfl rfl rfl rfl rfl rfl (aJ (hK11 _ ?_))))))))
 clear hK11;try clear K11
 refine aq ?_
 refine aM (σ':=aD 90 [(10,_),(11,_),(20,_),(21,_),(22,_)] [((10,0),_),((11,0),_),((72,0),_),((84,0),_),((84,1),_),((84,2),_),((84,3),_),((84,4),_),((21,0),_),((22,0),_)] [] []) kp ?_
 refine hG 5 [87,88,89] [(10,0),(11,0)] [[(10,0),(11,0)],[(11,0)],[],[(11,0)],[]] ae ae rfl (aK rfl) (rfl:_=[_,_,_,_,_]) (rfl:_=[_]) ?_
 refine ap (_,[]) (fun τ=> az _ aa rfl rfl rfl rfl) ?_
 refine fN rfl ?_
 refine ap (_,[]) (fun τ=> az _ aa rfl rfl rfl rfl) ?_
 refine fO rfl ?_
 refine ap (_,[]) (fun τ=> aH _ bZ) ?_
 refine fS rfl ?_
 refine ap (_,[((10,0),_)]) (fun τ=> dz _ _ aa rfl (eE rfl (by exact dN) rfl) rfl rfl (Nat.le_of_ble_eq_true rfl) rfl) ?_
 refine fY rfl ?_
 refine ap (_,[((11,0),_)]) (fun τ=> dz _ _ aa rfl (eE rfl (by exact dN) rfl) rfl rfl (Nat.le_of_ble_eq_true rfl) rfl) ?_
 refine gz rfl (bl ⟨⟨rfl,by kernel_rfl⟩,?_⟩)
 refine vO rfl (aj (aF ?_))
 exact wA (.inr rfl) rfl (.cellA aa rfl rfl rfl) (.cellA aa rfl rfl rfl) (.tmp bZ) (Le.out [((4,8),(72,0)),((5,8),(84,4))] [(84,0),(84,1),(84,2),(84,3)] (.tup rfl (au (.agg rfl (zt (au .sl (au .sl (au .sl (au (fe rfl rfl (by rw [aN,Nat.mul_one]) rfl) lz)))))) (au (.agg rfl (au .v (au .v (au .v (au (fe rfl rfl (jN _ _).symm rfl) (au .v (au .v (au (fe rfl rfl (by rw [aN,Nat.mul_one]) rfl) (au .sl (au (fe rfl rfl (gk _).symm rfl) lz)))))))))) lz))) rfl rfl rfl tr ob)
set_option maxHeartbeats 4000000 in
theorem Qg (s:Ns) (hup:s.up=true) (hv:s.ver=1) (P Q:Pg) (drift:Int) (a:Na) (hcr:a.crash=false) (hh:a.h < 41) (h1:a.draws.length≤1000) (h2:a.keeps.length≤1000) (c:Cz) (R:Ms) (q:Ns×Nr) (n:Nat) (L:List PV)
  (hS:Spec Tryz.prog 81 (aY [jQ { s with wait:=a.wait },ik Q, .v (.int .i64 (a.h:Int)), .v (.int .i64 1), .v (.int .i64 3), .v (.int .i64 drift),Dv a.names,jD] (pt (fm s a a.h) 0 [] (5,9))) (iW c R q (fm s a a.h) n L)):
  Spec Tryz.prog 45 (ba [jQ s,ik P,ik Q, .v (.int .i64 drift),Bh a] []) (nE q.1 (Dr c q.2 R) (fm s a a.h) n L):=by
 have htl:=ip { s with wait:=a.wait } a a.h hh h1 h2
 refine Spec.ofN Tryz.func45 rfl Tryz.ntmps45 rfl ?_
 refine am (ai (aQ (5,0) _ rfl rfl) (ai (aQ (6,0) _ rfl rfl) (ai (aQ (7,0) _ rfl rfl) (ai (aQ (9,0) _ rfl rfl) (ai (aB (10,0) aa rfl rfl) (ai (aB (11,0) aa rfl rfl) (ai (bp _ kH) (aj (aq (am ?_))))))))))
 refine bb rfl rfl rfl (zr rfl rfl rfl (ai (cr (r:=false) _ rfl (by rw [hup];rfl)) ?_))
 refine aj (aW rfl rfl (aS (aq (am (bb rfl rfl rfl (ca rfl rfl rfl (gL rfl rfl (by rw [if_neg (by rw [hcr];exact Bool.false_ne_true)];rfl) ?_)))))))
 refine aj (aW rfl rfl (aS (am (ai (az _ aa rfl rfl rfl rfl) (ai (aB (19,0) aa rfl rfl) (bF rfl rfl rfl rfl rfl rfl (aj (aq (aq ?_)))))))))
 refine aM (σ':=aD 90 [(3,_),(5,_),(7,_),(9,_),(10,_),(11,_),(19,_)] [((5,0),_),((7,0),_),((9,0),_),((10,0),_),((11,0),_),((19,0),_)] [] []) kp ?_
 refine an (bb rfl rfl rfl (ca rfl rfl rfl (kx rfl rfl (by rw [hv];rfl) ?_)))
 refine aj (bJ rfl rfl (an (ai (az _ aa rfl rfl rfl rfl) (bF rfl rfl rfl rfl rfl rfl (aj (am (bb rfl rfl rfl (ca rfl rfl rfl (bb rfl rfl rfl (bF rfl rfl rfl rfl rfl rfl ?_))))))))))
 refine aj (am (ai (az _ aa rfl rfl rfl rfl) (ai (az _ aa rfl rfl rfl rfl) (bb rfl rfl rfl (ca rfl rfl rfl (ai (bW aa [((4,8),(72,0))] ar (htl.toI) trivial tr tr rfl rfl ae ae) ?_))))))
 refine vO rfl (aj (aU fun K11 hK11=> ?_))
 refine aM (Le.nilB (72,0) 4 (60,0) 111 7 rfl rfl rfl) ?_
 refine an (ai (az _ aa rfl rfl rfl rfl) (ai (az _ aa rfl rfl rfl rfl) (bb rfl rfl rfl (ca rfl rfl rfl (aX rfl (bb rfl rfl rfl (ai (az _ aa rfl rfl rfl rfl) (ai (aL _ aa rfl (by exact Cy)) ?_))))))))
 refine bR rfl (ai (jE _ _ (rfl:_=[AV.ptr _ _]) (rfl:_=[])) ?_)
 refine ai (bW aa [((4,9),(72,0)),((5,9),(60,0)),((1,8),(84,0)),((2,8),(84,1)),((3,8),(84,2)),((6,8),(84,3)),((5,8),(84,4))] ar (hS) ob tr tr rfl rfl ae ae) ?_
 refine ai (aH _ tK) (ai (cm _ rfl pD) (ai (cm _ rfl pD) (ai (aB (21,0) aa rfl rfl) (ai (aB (22,0) aa rfl rfl) (bF rfl rfl rfl rfl rfl rfl (bF rfl rfl rfl rfl rfl rfl (aJ (hK11 _ ?_))))))))
 clear hK11;try clear K11
 refine aq ?_
 refine aM (σ':=aD 90 [(10,_),(11,_),(20,_),(21,_),(22,_)] [((10,0),_),((11,0),_),((72,0),_),((84,0),_),((84,1),_),((84,2),_),((84,3),_),((84,4),_),((21,0),_),((22,0),_)] [] []) kp ?_
 refine hG 5 [87,88,89] [(10,0),(11,0)] [[(10,0),(11,0)],[(11,0)],[],[(11,0)],[]] ae ae rfl (aK rfl) (rfl:_=[_,_,_,_,_]) (rfl:_=[_]) ?_
 refine ap (_,[]) (fun τ=> az _ aa rfl rfl rfl rfl) ?_
 refine fN rfl ?_
 refine ap (_,[]) (fun τ=> az _ aa rfl rfl rfl rfl) ?_
 refine fO rfl ?_
 refine ap (_,[]) (fun τ=> aH _ bZ) ?_
 refine fS rfl ?_
 refine ap (_,[((10,0),_)]) (fun τ=> dz _ _ aa rfl (eE rfl (by exact dN) rfl) rfl rfl (Nat.le_of_ble_eq_true rfl) rfl) ?_
 refine fY rfl ?_
 refine ap (_,[((11,0),_)]) (fun τ=> dz _ _ aa rfl (eE rfl (by exact dN) rfl) rfl rfl (Nat.le_of_ble_eq_true rfl) rfl) ?_
 refine gz rfl (bl ⟨⟨rfl,by kernel_rfl⟩,?_⟩)
 refine vO rfl (aj (aF ?_))
 exact wA (.inr rfl) rfl (.cellA aa rfl rfl rfl) (.cellA aa rfl rfl rfl) (.tmp bZ) (Le.out [((4,8),(72,0)),((5,8),(84,4))] [(84,0),(84,1),(84,2),(84,3)] (.tup rfl (au (.agg rfl (zt (au .sl (au .sl (au .sl (au (fe rfl rfl (by rw [aN,Nat.mul_one]) rfl) lz)))))) (au (.agg rfl (au .v (au .v (au .v (au (fe rfl rfl (jN _ _).symm rfl) (au .v (au .v (au (fe rfl rfl (by rw [aN,Nat.mul_one]) rfl) (au .sl (au (fe rfl rfl (gk _).symm rfl) lz)))))))))) lz))) rfl rfl rfl tr ob)
set_option maxHeartbeats 4000000 in
theorem PP (s:Ns) (hup:s.up=true) (hs:jR s) (ho:jC s.dk) (hc:s.counts.length=41) (hcb: -1000000≤s.counts.getD 40 0∧s.counts.getD 40 0≤1000000) (hep: -1000000≤s.epoch∧s.epoch≤1000000) (P Q:Pg) (drift:Int) (a:Na) (hcr:a.crash=true) (h1:a.draws.length≤1000) (h2:a.keeps.length≤1000)
  (hlk: ∀ i:Nat,i < s.dk.pend.length→sS (fm s a 40) 3 (i:Int) 2 (a.keeps.getD i 0)):
  Spec Tryz.prog 45 (ba [jQ s,ik P,ik Q, .v (.int .i64 drift),Bh a] []) (nE (kK s (keepB s.dk.pend.length a.keeps)) KA (fm s a 40) (0+s.dk.pend.length) ([]++zu (fm s a 40) a.keeps s.dk.pend.length)):=by
 have htl:=ip s a 40 ab h1 h2
 have hcs:=oW s hs ho hc hcb hep (fm s a 40) 0 [] rfl ab a.keeps hlk
 refine Spec.ofN Tryz.func45 rfl Tryz.ntmps45 rfl ?_
 refine am (ai (aQ (5,0) _ rfl rfl) (ai (aQ (6,0) _ rfl rfl) (ai (aQ (7,0) _ rfl rfl) (ai (aQ (9,0) _ rfl rfl) (ai (aB (10,0) aa rfl rfl) (ai (aB (11,0) aa rfl rfl) (ai (bp _ kH) (aj (aq (am ?_))))))))))
 refine bb rfl rfl rfl (zr rfl rfl rfl (ai (cr (r:=false) _ rfl (by rw [hup];rfl)) ?_))
 refine aj (aW rfl rfl (aS (aq (am (bb rfl rfl rfl (ca rfl rfl rfl (kx rfl rfl (by rw [if_pos hcr];rfl) ?_)))))))
 refine aj (bJ rfl rfl (am (ai (az _ aa rfl rfl rfl rfl) (ai (az _ aa rfl rfl rfl rfl) (ai (bW aa [((4,8),(53,0))] ar (htl.toI) trivial tr tr rfl rfl ae ae) ?_)))))
 refine vO rfl (aj (aU fun K7 hK7=> ?_))
 refine aM (Le.nilB (53,0) 4 (60,0) 111 7 rfl rfl rfl) ?_
 refine an (ai (az _ aa rfl rfl rfl rfl) (bR rfl (ai (jE _ _ (rfl:_=[AV.ptr _ _]) (rfl:_=[])) ?_)))
 refine ai (bW aa [((4,9),(53,0)),((5,9),(60,0)),((5,8),(57,0))] ar (hcs) ob tr tr rfl rfl ae ae) ?_
 refine ai (aL _ aa rfl (by exact (rfl:_=some [_,_,_,_,_,_,_,_,_,_,_,_]))) ?_
 refine bR rfl (bF rfl rfl rfl rfl rfl rfl (bF rfl rfl rfl rfl rfl rfl (vO rfl (aJ (hK7 _ ?_)))))
 clear hK7;try clear K7
 exact aF (wA (.inr rfl) rfl (.cellA aa rfl rfl rfl) (.cellA aa rfl rfl rfl) (.tmp bZ) (Le.out [((4,8),(53,0)),((5,8),(57,0))] [] (.tup rfl lz) rfl rfl rfl trivial ob))

structure FI (a:Na):Prop where
 ok:Ff a
 nl:a.names.length=9
 d0: ∀ x∈a.draws,0≤x
 k0: ∀ x∈a.keeps,x=0∨x=1
 dl:a.draws.length≤1000
 kl:a.keeps.length≤1000
theorem wM (s:Ns) {a:Na} (h:Nat) (hw:FI a) {q:Int} (hq:0 < q):sS (fm s a h) 2 0 q (a.tick % q):=by
 have hd:=hw.dl
 have hk:=hw.kl
 have:=ij (lh 1 (h:Int) (cI s h) a.tick a.draws a.keeps) (by rw [nB];omega) 1 (h:Int) (cI s h) 2 0 q hq
 rwa [zd hw.ok.tk.1] at this
theorem xu (s:Ns) {a:Na} (h:Nat) (hw:FI a) (i:Nat) {q:Int} (hq:0 < q):sS (fm s a h) 1 (i:Int) q (a.draws.getD i 0 % q):=by
 have hd:=hw.dl
 have hk:=hw.kl
 have:=ij (lh 1 (h:Int) (cI s h) a.tick a.draws a.keeps) (by rw [nB];omega) 1 (h:Int) (cI s h) 1 (i:Int) q hq
 rwa [yF i hw.d0] at this
theorem DO (s:Ns) {a:Na} (h:Nat) (hw:FI a) (i:Nat):sS (fm s a h) 3 (i:Int) 2 (a.keeps.getD i 0):=by
 have hd:=hw.dl
 have hk:=hw.kl
 have:=ij (lh 1 (h:Int) (cI s h) a.tick a.draws a.keeps) (by rw [nB];omega) 1 (h:Int) (cI s h) 3 (i:Int) 2 ab
 have h0: ∀ x∈a.keeps,0≤x:=fun x hx=> by rcases hw.k0 x hx with h | h <;> omega
 rw [xH i h0] at this
 have h1:a.keeps.getD i 0=0∨a.keeps.getD i 0=1:=by
  by_cases hi:i < a.keeps.length
  ·rw [List.getD_eq_getElem?_getD,List.getElem?_eq_getElem hi];exact hw.k0 _ (List.getElem_mem hi)
  rw [List.getD_eq_getElem?_getD,List.getElem?_eq_none ab];exact .inl rfl
 rwa [show a.keeps.getD i 0 % 2=a.keeps.getD i 0 by omega] at this
def GD (t:Tl) (l:List Qa):List PV:=l.flatMap fun x=> vn t x.kind x.idx x.ar x.n
theorem qa (t:Tl) (drift tick:Int) (asked ans:List Int):pv t drift tick++tv t ans asked=GD t (jG drift tick asked ans):=by
 unfold GD jG pv tv
 rw [List.flatMap_append]
 congr 1
 ·split
  ·simp
  rfl
 rw [List.flatMap_map]
theorem oU (drift tick:Int) (asked ans:List Int):(jG drift tick asked ans).length=pq drift+asked.length:=by
 unfold jG pq
 rw [List.length_append,List.length_map,List.length_range]
 congr 1
 split <;> rfl

structure oK (P:Pg) (tm:Int):Prop where
 pg:pV P
 cl:P.c.length≤1000000
 tc:TmC P.c tm=true
abbrev hN (a:Na) (s:Ns):Nat:=if s.up=false then 0 else if a.crash=true then 40 else a.h
abbrev Hj (P Q:Pg) (drift:Int) (a:Na) (s:Ns):AV:=
 if s.up=false then Dr ⟨1,((0:Nat):Int),s.counts.getD 0 0⟩ (dm P Q drift a s).2 (gM (cN s (cd P Q s) (gZ s)) (cd P Q s) 0 1 3 drift a.tick (List.replicate 9 0) a.draws)
 else if a.crash=true then KA
 else Dr ⟨1,(a.h:Int),s.counts.getD a.h 0⟩ (dm P Q drift a s).2 (gM { s with wait:=a.wait } (cd P Q s) a.h 1 3 drift a.tick a.names a.draws)
theorem qf (s:Ns) (P:Pg) (h:Nat) (self nodes drift tick:Int) (names ans:List Int):(gM s P h self nodes drift tick names ans).asked=(gx s P h self nodes drift tick names ans).asked:=
 (sE P h (eA names self nodes (de s.clock drift tick)) (s.dk.view++s.vol) ans).2.2
section
variable {P Q:Pg} {tp tq:Int} {i:Nat} {s:Ns} {drift:Int} {a:Na}
theorem tL (hP:oK P tp) (hQ:oK Q tq) (hi:i≤1000) (hs:Sq P Q i s) (hsm:jR s) (hup:s.up=false) (hdr:0≤drift∧drift≤3) (hw:FI a):
  Spec Tryz.prog 45 (ba [jQ s,ik P,ik Q, .v (.int .i64 drift),Bh a] []) (nE (dm P Q drift a s).1 (Hj P Q drift a s) (fm s a (hN a s)) (jr P Q drift a s).length (GD (fm s a (hN a s)) (jr P Q drift a s))):=by
 obtain ⟨⟨m,hdk⟩,_,_⟩:=hs.dn hup
 have hin:jC s.dk:=fun w hw=> by
  obtain ⟨b1,b2,_⟩:=hdk.pr w hw
  have:=hdk.len
  exact ⟨b1,by omega⟩
 have hck:=hs.ck
 have hep:=hs.ep
 have hcb: ∀ k, -1000000≤s.counts.getD k 0∧s.counts.getD k 0≤1000000:=fun k=> by have:=hs.ct k;omega
 have htk:=nM (clock:=s.clock) (tick:=a.tick) hdr
 have e1:dm P Q drift a s=kU s (cd P Q s) (gZ s) 1 3 drift a.tick a.draws:=by unfold dm;rw [if_pos hup]
 have e2:jr P Q drift a s=jG drift a.tick (gx (cN s (cd P Q s) (gZ s)) (cd P Q s) 0 1 3 drift a.tick (List.replicate 9 0) a.draws).asked a.draws:=by unfold jr;rw [if_pos hup]
 have e3:Hj P Q drift a s=Dr ⟨1,((0:Nat):Int),s.counts.getD 0 0⟩ (dm P Q drift a s).2 (gM (cN s (cd P Q s) (gZ s)) (cd P Q s) 0 1 3 drift a.tick (List.replicate 9 0) a.draws):=if_pos hup
 have e4:hN a s=0:=if_pos hup
 rw [e3,e4,e2,← qf,oU,← qa,e1]
 have key: ∀ (X:Pg) (tm:Int) (v:Int),oK X tm→Spec Tryz.prog 56 (aY [jQ s,ik X, .v (.int .i64 v), .v (.int .i64 1), .v (.int .i64 3), .v (.int .i64 drift),jD] (pt (fm s a 0) 0 [] (5,9)))
   (iW ⟨1,((0:Nat):Int),s.counts.getD 0 0⟩ (gM (cN s X v) X 0 1 3 drift a.tick (List.replicate 9 0) a.draws) (kU s X v 1 3 drift a.tick a.draws) (fm s a 0) (pq drift+(gM (cN s X v) X 0 1 3 drift a.tick (List.replicate 9 0) a.draws).asked.length) (pv (fm s a 0) drift a.tick++tv (fm s a 0) a.draws (gM (cN s X v) X 0 1 3 drift a.tick (List.replicate 9 0) a.draws).asked)):=fun X tm v hX=>
  wP X tm s hsm hin v (tY hX.pg hX.cl hX.tc hdk hs.cl hcb ab v) 1 3 drift a.tick a.draws (dX ab) (dX ab) (by unfold Rg;omega) ab (fm s a 0) (fun h=> wM s 0 hw ab) (fun j k _ h2 _=> xu s 0 hw j ab) _ rfl
 by_cases he:s.epoch % 2=1
 ·have hp:cd P Q s=Q:=by unfold cd;rw [if_neg (by rw [hup];exact Bool.false_ne_true),if_pos he]
  have hv:gZ s=1:=if_pos he
  rw [hp,hv]
  exact Rf s hup hep.1 he P Q drift a hw.dl hw.kl _ _ _ _ _ (key Q tq 1 hQ)
 have hp:cd P Q s=P:=by unfold cd;rw [if_neg (by rw [hup];exact Bool.false_ne_true),if_neg he]
 have hv:gZ s=0:=if_neg he
 rw [hp,hv]
 exact QR s hup hep.1 ab P Q drift a hw.dl hw.kl _ _ _ _ _ (key P tp 0 hP)
theorem yM (hP:oK P tp) (hQ:oK Q tq) (hi:i≤1000) (hs:Sq P Q i s) (hup:s.up=true) (htl:qH (if s.ver=1 then tq else tp) s.timers) (hdr:0≤drift∧drift≤3) (hw:FI a) (hcr:a.crash=false):
  Spec Tryz.prog 45 (ba [jQ s,ik P,ik Q, .v (.int .i64 drift),Bh a] []) (nE (dm P Q drift a s).1 (Hj P Q drift a s) (fm s a (hN a s)) (jr P Q drift a s).length (GD (fm s a (hN a s)) (jr P Q drift a s))):=by
 obtain ⟨hns,hver⟩:=hs.up hup
 have hck:=hs.ck
 have hcb: ∀ k, -1000000≤s.counts.getD k 0∧s.counts.getD k 0≤1000000:=fun k=> by have:=hs.ct k;omega
 have htk:=nM (clock:=s.clock) (tick:=a.tick) hdr
 have hnf: ¬ s.up=false:=by rw [hup];exact fun h=> by cases h
 have hnc: ¬ a.crash=true:=by rw [hcr];exact Bool.false_ne_true
 have hah:=hw.ok.h
 have e1:dm P Q drift a s=dq { s with wait:=a.wait } (cd P Q s) a.h 1 3 drift a.tick a.names a.draws:=by unfold dm;rw [if_neg hnf,if_neg hnc]
 have e2:jr P Q drift a s=jG drift a.tick (gx { s with wait:=a.wait } (cd P Q s) a.h 1 3 drift a.tick a.names a.draws).asked a.draws:=by unfold jr;rw [if_neg hnf,if_neg hnc]
 have e3:Hj P Q drift a s=Dr ⟨1,(a.h:Int),s.counts.getD a.h 0⟩ (dm P Q drift a s).2 (gM { s with wait:=a.wait } (cd P Q s) a.h 1 3 drift a.tick a.names a.draws):=(if_neg hnf).trans (if_neg hnc)
 have e4:hN a s=a.h:=(if_neg hnf).trans (if_neg hnc)
 rw [e3,e4,e2,← qf,oU,← qa,e1]
 have key: ∀ (X:Pg) (tm:Int),oK X tm→uR X s→qH tm s.timers→Spec Tryz.prog 81 (aY [jQ { s with wait:=a.wait },ik X, .v (.int .i64 (a.h:Int)), .v (.int .i64 1), .v (.int .i64 3), .v (.int .i64 drift),Dv a.names,jD] (pt (fm s a a.h) 0 [] (5,9)))
   (iW ⟨1,(a.h:Int),s.counts.getD a.h 0⟩ (gM { s with wait:=a.wait } X a.h 1 3 drift a.tick a.names a.draws) (dq { s with wait:=a.wait } X a.h 1 3 drift a.tick a.names a.draws) (fm s a a.h) (pq drift+(gM { s with wait:=a.wait } X a.h 1 3 drift a.tick a.names a.draws).asked.length) (pv (fm s a a.h) drift a.tick++tv (fm s a a.h) a.draws (gM { s with wait:=a.wait } X a.h 1 3 drift a.tick a.names a.draws).asked)):=fun X tm hX hN htm=>
  uL X tm { s with wait:=a.wait } ⟨hX.pg,hX.cl,hX.tc,⟨hN.dk,hN.vl,hN.vr,hN.tm,hN.ct⟩,htm,hcb,by show -1000000≤s.clock∧s.clock≤1000000;omega⟩ a.h hah 1 3 drift a.tick a.names a.draws hw.nl hw.ok.nm (dX ab) (dX ab) (by show Rg (de s.clock drift a.tick);unfold Rg;omega) ab (fm s a a.h) (fun h=> wM s a.h hw ab) (fun j k _ h2 _=> xu s a.h hw j ab) _ rfl
 by_cases hv:s.ver=1
 ·have hp:cd P Q s=Q:=by unfold cd;rw [if_pos hup,if_pos hv]
  rw [if_pos hv] at hns htl
  rw [hp]
  exact Qg s hup hv P Q drift a hcr ab hw.dl hw.kl _ _ _ _ _ (key Q tq hQ hns htl)
 have hp:cd P Q s=P:=by unfold cd;rw [if_pos hup,if_neg hv]
 rw [if_neg hv] at hns htl
 rw [hp]
 exact PW s hup hv P Q drift a hcr ab hw.dl hw.kl _ _ _ _ _ (key P tp hP hns htl)
theorem yP (t:Tl) (k:Nat) (keeps:List Int):GD t (od k keeps)=zu t keeps k:=by
 unfold GD od zu
 rw [List.flatMap_map]
theorem th (hi:i≤1000) (hs:Sq P Q i s) (hsm:jR s) (hup:s.up=true) (hw:FI a) (hcr:a.crash=true):
  Spec Tryz.prog 45 (ba [jQ s,ik P,ik Q, .v (.int .i64 drift),Bh a] []) (nE (dm P Q drift a s).1 (Hj P Q drift a s) (fm s a (hN a s)) (jr P Q drift a s).length (GD (fm s a (hN a s)) (jr P Q drift a s))):=by
 obtain ⟨hns,hver⟩:=hs.up hup
 have hep:=hs.ep
 have hcb:=hs.ct 40
 have hnf: ¬ s.up=false:=by rw [hup];exact fun h=> by cases h
 have e1:dm P Q drift a s=(kK s (keepB s.dk.pend.length a.keeps),{}):=by unfold dm;rw [if_neg hnf,if_pos hcr]
 have e2:jr P Q drift a s=od s.dk.pend.length a.keeps:=by unfold jr;rw [if_neg hnf,if_pos hcr]
 have e3:Hj P Q drift a s=KA:=(if_neg hnf).trans (if_pos hcr)
 have e4:hN a s=40:=(if_neg hnf).trans (if_pos hcr)
 have hin:jC s.dk:=fun w hw=> by
  obtain ⟨b1,b2,_⟩:=hns.dk.pr w hw
  have:=hns.dk.len
  exact ⟨b1,by omega⟩
 have h:=PP s hup hsm hin hs.cl ab ab P Q drift a hcr hw.dl hw.kl (fun j _=> DO s 40 hw j)
 rw [Nat.zero_add,List.nil_append] at h
 rw [e3,e4,e2,e1,yP,show (od s.dk.pend.length a.keeps).length=s.dk.pend.length by simp [od]]
 exact h
end
end Go.Proofs.YtmjnackchaahbaaGreat

namespace Go.Proofs.YtmjnackchaahbaaGreat

theorem vi {t:Int} (ht:0≤t∧t < 8): ∀ (l:List Ac) (q:Ns×Nr),(∀ a∈l,xh t a)→qH t q.1.timers→qH t (l.foldl eg q).1.timers
 | [],_,_,h=> h
 | a::l,q,ha,h=> vi ht l (eg q a) (fun b hb=> ha b (List.mem_cons_of_mem _ hb)) (tQ ht (ha a List.mem_cons_self) h)
theorem jH {P:Pg} {t:Int} (hc:TmC P.c t=true) (s:Ns) (h:qH t s.timers) (k:Nat) (self nodes drift tick:Int) (names ans:List Int):qH t (dq s P k self nodes drift tick names ans).1.timers:=
 vi (TmC.rg hc) _ _ (fun a ha=> ur hc _ _ _ _ a ha) h
structure IM (P Q:Pg) (tp tq:Int) (i:Nat) (s:Ns):Prop where
 sq:Sq P Q i s
 sm:jR s
 tl:s.up=true→qH (if s.ver=1 then tq else tp) s.timers
theorem HS (P Q:Pg) (tp tq:Int):IM P Q tp tq 0 {}:=⟨Hx P Q,⟨Nat.zero_le _,Nat.zero_le _,Nat.zero_le _,Nat.zero_le _⟩,fun h=> by simp at h⟩
theorem Gv {X:Pg} {t:Int} {s:Ns} (hX:pV X) (h:uR X s) (ht:qH t s.timers):jR s:=by
 have h1:=h.dk.len
 have h2:=h.dk.pn
 have h3:=h.vl
 have h4:=hX.nv
 refine ⟨by omega,by omega,by omega,?_⟩
 rcases ht with ht | ht <;> rw [ht] <;> simp
theorem Ji {P Q:Pg} {tp tq:Int} (hP:oK P tp) (hQ:oK Q tq) {drift:Int} (hd:0≤drift∧drift≤3) {a:Na} (ha:Ff a) {i:Nat} (hi:i≤100) {s:Ns} (h:IM P Q tp tq i s):IM P Q tp tq (i+1) (dm P Q drift a s).1:=by
 have hn:=FM hP.pg hQ.pg hd ha hi h.sq
 have up:(dm P Q drift a s).1.up=true→qH (if (dm P Q drift a s).1.ver=1 then tq else tp) (dm P Q drift a s).1.timers:=by
  unfold dm
  split
  ·rename_i hup
   intro _
   show qH (if (dq (cN s (cd P Q s) (gZ s)) (cd P Q s) 0 1 3 drift a.tick (List.replicate 9 0) a.draws).1.ver=1 then tq else tp) (dq (cN s (cd P Q s) (gZ s)) (cd P Q s) 0 1 3 drift a.tick (List.replicate 9 0) a.draws).1.timers
   rw [(eI (cN s (cd P Q s) (gZ s)) (cd P Q s) 0 1 3 drift a.tick (List.replicate 9 0) a.draws).2.1]
   show qH (if gZ s=1 then tq else tp) _
   have hnt: ¬ s.up=true:=by rw [hup];exact Bool.false_ne_true
   by_cases he:s.epoch % 2=1
   ·rw [show gZ s=1 from if_pos he,show cd P Q s=Q by unfold cd;rw [if_neg hnt,if_pos he],if_pos rfl]
    exact jH hQ.tc _ (.inl rfl) _ _ _ _ _ _ _
   rw [show gZ s=0 from if_neg he,show cd P Q s=P by unfold cd;rw [if_neg hnt,if_neg he],if_neg ah]
   exact jH hP.tc _ (.inl rfl) _ _ _ _ _ _ _
  rename_i hup
  split
  ·intro hx;cases hx
  intro _
  have hup:s.up=true:=by simpa using hup
  have htl:=h.tl hup
  rw [(eI { s with wait:=a.wait } (cd P Q s) a.h 1 3 drift a.tick a.names a.draws).2.1]
  show qH (if s.ver=1 then tq else tp) _
  by_cases hv:s.ver=1
  ·rw [if_pos hv] at htl ⊢
   rw [show cd P Q s=Q by unfold cd;rw [if_pos hup,if_pos hv]]
   exact jH hQ.tc { s with wait:=a.wait } htl _ _ _ _ _ _ _
  rw [if_neg hv] at htl ⊢
  rw [show cd P Q s=P by unfold cd;rw [if_pos hup,if_neg hv]]
  exact jH hP.tc { s with wait:=a.wait } htl _ _ _ _ _ _ _
 refine ⟨hn,?_,up⟩
 by_cases hu:(dm P Q drift a s).1.up=true
 ·have h1:=(hn.up hu).1
  have h2:=up hu
  by_cases hv:(dm P Q drift a s).1.ver=1
  ·rw [if_pos hv] at h1 h2;exact Gv hQ.pg h1 h2
  rw [if_neg hv] at h1 h2;exact Gv hP.pg h1 h2
 have hs:=h.sm
 unfold dm at hu ⊢
 split at hu
 ·exact absurd ((eI (cN s (cd P Q s) (gZ s)) (cd P Q s) 0 1 3 drift a.tick (List.replicate 9 0) a.draws).1) hu
 rename_i hup
 rw [if_neg hup]
 split at hu
 ·rename_i hc
  rw [if_pos hc]
  refine ⟨?_,Nat.zero_le _,?_,Nat.zero_le _⟩
  ·show (ph s.dk.cells _).length≤1000
   rw [gn];exact hs.c
  show (List.replicate s.vol.length (0:Int)).length≤1000
  rw [List.length_replicate];exact hs.v
 exact absurd ((eI { s with wait:=a.wait } (cd P Q s) a.h 1 3 drift a.tick a.names a.draws).1.trans (show s.up=true by simpa using hup)) hu

theorem DA {n:Int} (h0:0≤n):FI (iz n):=by
 obtain ⟨h1,h2,h3,h4,_,h6⟩:=Ap h0
 refine ⟨h1,h6,h4,fun x hx=> ?_,by omega,by omega⟩
 have hx:x∈[n / 2 % 2,n / 4 % 2,n / 8 % 2,n / 16 % 2]:=hx
 simp only [List.mem_cons,List.not_mem_nil,or_false] at hx
 omega
theorem FL (s:Ns) (hup:s.up=false) (P Q:Pg):Spec Tryz.prog 51 (ba [jQ s,ik P,ik Q] []) (aP (.v (.bool true)) []):=by
 refine Spec.ofN Tryz.func51 rfl Tryz.ntmps51 rfl ?_
 refine am (ai (aQ (3,0) _ rfl rfl) (ai (aQ (4,0) _ rfl rfl) (ai (aQ (5,0) _ rfl rfl) (cq rfl (aj (aq (am (bb rfl rfl rfl (zr rfl rfl rfl (ai (cr (r:=true) _ rfl (by rw [hup];rfl)) ?_))))))))))
 exact aj (bJ rfl rfl (am (cq rfl (aj (aF (fu rfl rfl))))))
theorem BI (s:Ns) (hup:s.up=true) (hv:s.ver≠1) (P Q:Pg) (hd:s.dk.cells.length=P.d) (hl:s.vol.length=P.v):Spec Tryz.prog 51 (ba [jQ s,ik P,ik Q] []) (aP (.v (.bool true)) []):=by
 refine Spec.ofN Tryz.func51 rfl Tryz.ntmps51 rfl ?_
 refine am (ai (aQ (3,0) _ rfl rfl) (ai (aQ (4,0) _ rfl rfl) (ai (aQ (5,0) _ rfl rfl) (cq rfl (aj (aq (am (bb rfl rfl rfl (zr rfl rfl rfl (ai (cr (r:=false) _ rfl (by rw [hup];rfl)) ?_))))))))))
 refine aj (aW rfl rfl (aS (am (ai (az _ aa rfl rfl rfl rfl) (ai (aB (7,0) aa rfl rfl) (bF rfl rfl rfl rfl rfl rfl (aj (aq (am (bb rfl rfl rfl ?_))))))))))
 refine ca rfl rfl rfl (gL rfl rfl (beq_eq_false_iff_ne.2 hv) ?_)
 refine aj (aW rfl rfl (aS (am (bb rfl rfl rfl (bb rfl rfl rfl (fc rfl rfl rfl (ai (bo _ aa rfl) (bb rfl rfl rfl (ca rfl rfl rfl (kx rfl rfl (by rw [hd];exact beq_self_eq_true _) ?_))))))))))
 refine cL rfl (ax rfl rfl (aE _ aa rfl rfl rfl) (ax rfl rfl (aG _ aa rfl rfl eC) (ax rfl rfl (bo _ aa rfl) (ax rfl rfl (aE _ aa rfl rfl rfl) (ax rfl rfl (aG _ aa rfl rfl eo) (ax rfl rfl (bA (r:=true) _ _ rfl rfl (by rw [hl];exact beq_self_eq_true _)) ?_))))))
 exact ai (aC _ _ _ rfl bN) (cq rfl (aj (aF (fu rfl rfl))))
theorem Hc (s:Ns) (hup:s.up=true) (hv:s.ver=1) (P Q:Pg) (hd:s.dk.cells.length=Q.d) (hl:s.vol.length=Q.v):Spec Tryz.prog 51 (ba [jQ s,ik P,ik Q] []) (aP (.v (.bool true)) []):=by
 refine Spec.ofN Tryz.func51 rfl Tryz.ntmps51 rfl ?_
 refine am (ai (aQ (3,0) _ rfl rfl) (ai (aQ (4,0) _ rfl rfl) (ai (aQ (5,0) _ rfl rfl) (cq rfl (aj (aq (am (bb rfl rfl rfl (zr rfl rfl rfl (ai (cr (r:=false) _ rfl (by rw [hup];rfl)) ?_))))))))))
 refine aj (aW rfl rfl (aS (am (ai (az _ aa rfl rfl rfl rfl) (ai (aB (7,0) aa rfl rfl) (bF rfl rfl rfl rfl rfl rfl (aj (aq (am (bb rfl rfl rfl ?_))))))))))
 refine ca rfl rfl rfl (kx rfl rfl (by rw [hv];rfl) ?_)
 refine aj (bJ rfl rfl (an (ai (az _ aa rfl rfl rfl rfl) (bF rfl rfl rfl rfl rfl rfl (aj (aq ?_))))))
 refine aM (σ':=aD 31 [(3,_),(7,_)] [((3,0),_),((7,0),_)] [] []) kp ?_
 refine an (bb rfl rfl rfl (bb rfl rfl rfl (fc rfl rfl rfl (ai (bo _ aa rfl) (bb rfl rfl rfl (ca rfl rfl rfl (kx rfl rfl (by rw [hd];exact beq_self_eq_true _) ?_)))))))
 refine cL rfl (ax rfl rfl (aE _ aa rfl rfl rfl) (ax rfl rfl (aG _ aa rfl rfl eC) (ax rfl rfl (bo _ aa rfl) (ax rfl rfl (aE _ aa rfl rfl rfl) (ax rfl rfl (aG _ aa rfl rfl eo) (ax rfl rfl (bA (r:=true) _ _ rfl rfl (by rw [hl];exact beq_self_eq_true _)) ?_))))))
 exact ai (aC _ _ _ rfl bN) (cq rfl (aj (aF (fu rfl rfl))))

abbrev IR (n:Int):Nat:=(dx n 12).toNat
def LR (n:Int):Pg:=⟨bS (onss.getD (IR n) []) 0,bX (onss.getD (IR n) []),(durs.getD (IR n) []).length,(vols.getD (IR n) []).length⟩
theorem Cp (n:Int) (h: -9223372036854775808≤n∧n≤9223372036854775807):Spec Tryz.prog 39 (ba [.v (.int .i64 n)] []) (aP (ik (LR n)) []):=tn n h.1 h.2
def NA (n:Int):Int:=if IR n=6 then 1 else 0
theorem JY {d v:List Tx} {ons:List (Nat×Bk)} (U:UOk d v ons) {tm:Int} (ht:TmC (bS ons 0) tm=true):oK ⟨bS ons 0,bX ons,d.length,v.length⟩ tm where
 pg:=by
  have hl:(d++v).length=d.length+v.length:=List.length_append
  refine ⟨⟨wS ons,by show Good _ (d.length+v.length) _ _ _ _;rw [← hl];exact U.good,fun h=> ?_⟩,by show d.length+v.length≤16;rw [← hl];exact U.len⟩
  rcases wb ons h with e | ⟨e,_,e2,e3,e4⟩
  ·exact .inl (by show (nA (ku ons 0)).getD h (-1) < 0;omega)
  have e5:bX ons h=(e:Int):=e2
  exact .inr ⟨by show 0≤bX ons h;omega,by show bX ons h < _;rw [e5];exact Int.ofNat_lt.2 e3,by show wS ons (bX ons h).toNat=0;rw [e5,Int.toNat_natCast];exact e4⟩
 cl:=U.c
 tc:=ht
theorem Mg (k:Nat) (h:k < 12):TmC (bS (onss.getD k []) 0) (if k=6 then 1 else 0)=true:=by
 rcases (show k=0∨k=1∨k=2∨k=3∨k=4∨k=5∨k=6∨k=7∨k=8∨k=9∨k=10∨k=11 by omega) with rfl | rfl | rfl | rfl | rfl | rfl | rfl | rfl | rfl | rfl | rfl | rfl <;> kernel_rfl
theorem GZ (n:Int):oK (LR n) (NA n):=by
 have hlo:=gW n 12 ab
 have hhi:=jh n 12 ab
 have hk:IR n < 12:=by show (dx n 12).toNat < 12;omega
 exact JY (Jb _ hk).1.toUOk (Mg _ hk)
abbrev oG (l:List Int) (k:Nat):Na:=iz (dx (l.getD k 0) 100000000)
theorem II (l:List Int) (k:Nat):FI (oG l k):=DA (gW _ _ ab)
def KH (a:Na) (s:Ns):Cz:=if s.up=false then ⟨1,((0:Nat):Int),s.counts.getD 0 0⟩ else if a.crash=true then ⟨0,0,0⟩ else ⟨1,(a.h:Int),s.counts.getD a.h 0⟩
def Km (P Q:Pg) (dr:Int) (a:Na) (s:Ns):Ms:=if s.up=false then gM (cN s (cd P Q s) (gZ s)) (cd P Q s) 0 1 3 dr a.tick (List.replicate 9 0) a.draws else if a.crash=true then { vars:=[],pc:=0,fin:=true } else gM { s with wait:=a.wait } (cd P Q s) a.h 1 3 dr a.tick a.names a.draws
theorem Ir (P Q:Pg) (dr:Int) (a:Na) (s:Ns):Hj P Q dr a s=Dr (KH a s) (dm P Q dr a s).2 (Km P Q dr a s):=by
 unfold KH Km
 by_cases hu:s.up=false
 ·rw [if_pos hu,if_pos hu]
  exact if_pos hu
 rw [if_neg hu,if_neg hu]
 by_cases hc:a.crash=true
 ·rw [if_pos hc,if_pos hc]
  refine ((if_neg hu).trans (if_pos hc)).trans ?_
  have e1:dm P Q dr a s=(kK s (keepB s.dk.pend.length a.keeps),{}):=by unfold dm;rw [if_neg hu,if_pos hc]
  have e2:fz (kE [])=[]:=by simp [fz,kE]
  rw [e1]
  show KA=AV.agg [.v (.int .i64 0), .v (.int .i64 0), .v (.int .i64 0), .sl 0 (AR ⟨0,0,0⟩ []), .v (.bool false), .v (.int .i64 0), .sl 0 (co []), .sl 0 (co []), .sl 0 (vu []), .v (.int .i64 0), .v (.bool false), .sl (fz (kE [])).length (co (fz (kE [])))]
  rw [e2];rfl
 rw [if_neg hc,if_neg hc]
 exact (if_neg hu).trans (if_neg hc)
theorem HD {P Q:Pg} {tp tq dr:Int} (hP:oK P tp) (hQ:oK Q tq) (hd:0≤dr∧dr≤3) {i:Nat} (hi:i≤1000) {s:Ns} (hs:IM P Q tp tq i s) {a:Na} (hw:FI a):
  Spec Tryz.prog 45 (ba [jQ s,ik P,ik Q, .v (.int .i64 dr),Bh a] []) (nE (dm P Q dr a s).1 (Dr (KH a s) (dm P Q dr a s).2 (Km P Q dr a s)) (fm s a (hN a s)) (jr P Q dr a s).length (GD (fm s a (hN a s)) (jr P Q dr a s))):=by
 rw [← Ir]
 by_cases hu:s.up=true
 ·by_cases hc:a.crash=true
  ·exact th hi hs.sq hs.sm hu hw hc
  exact yM hP hQ hi hs.sq hu (hs.tl hu) hd hw (by simpa using hc)
 exact tL hP hQ hi hs.sq hs.sm (by simpa using hu) hd hw
theorem Hh {P Q:Pg} {tp tq:Int} {i:Nat} {s:Ns} (hs:IM P Q tp tq i s):Spec Tryz.prog 51 (ba [jQ s,ik P,ik Q] []) (aP (.v (.bool true)) []):=by
 by_cases hu:s.up=true
 ·obtain ⟨h,_⟩:=hs.sq.up hu
  by_cases hv:s.ver=1
  ·rw [if_pos hv] at h
   exact Hc s hu hv P Q h.dk.len h.vl
  rw [if_neg hv] at h
  exact BI s hu hv P Q h.dk.len h.vl
 exact FL s (by simpa using hu) P Q
theorem Jx {a:Na} (hah:a.h < 40) (s:Ns):hN a s < 41:=by
 show (if s.up=false then 0 else if a.crash=true then 40 else a.h) < 41
 split
 ·omega
 split <;> omega
theorem Bz (P Q:Pg) {dr:Int} (hd:0≤dr∧dr≤3) (a:Na) (s:Ns) (hah:a.h < 40):(dm P Q dr a s).1.counts=s.counts.set (hN a s) (s.counts.getD (hN a s) 0+1)∧
  (hN a s=40∧(dm P Q dr a s).1.clock=s.clock∨hN a s < 40∧s.clock+1≤(dm P Q dr a s).1.clock∧(dm P Q dr a s).1.clock≤s.clock+1+dr):=by
 have htk:=nM (clock:=s.clock) (tick:=a.tick) hd
 by_cases hu:s.up=false
 ·have e1:dm P Q dr a s=kU s (cd P Q s) (gZ s) 1 3 dr a.tick a.draws:=by unfold dm;rw [if_pos hu]
  rw [e1,show hN a s=0 from if_pos hu]
  obtain ⟨_,_,_,k4,k5⟩:=eI (cN s (cd P Q s) (gZ s)) (cd P Q s) 0 1 3 dr a.tick (List.replicate 9 0) a.draws
  unfold kU
  rw [k4,k5]
  exact ⟨rfl, .inr ⟨by omega,htk⟩⟩
 by_cases hc:a.crash=true
 ·have e1:dm P Q dr a s=(kK s (keepB s.dk.pend.length a.keeps),{}):=by unfold dm;rw [if_neg hu,if_pos hc]
  rw [e1,show hN a s=40 from (if_neg hu).trans (if_pos hc)]
  exact ⟨rfl, .inl ⟨rfl,rfl⟩⟩
 have e1:dm P Q dr a s=dq { s with wait:=a.wait } (cd P Q s) a.h 1 3 dr a.tick a.names a.draws:=by unfold dm;rw [if_neg hu,if_neg hc]
 rw [e1,show hN a s=a.h from (if_neg hu).trans (if_neg hc)]
 obtain ⟨_,_,_,k4,k5⟩:=eI { s with wait:=a.wait } (cd P Q s) a.h 1 3 dr a.tick a.names a.draws
 rw [k4,k5]
 exact ⟨rfl, .inr ⟨hah,htk⟩⟩

abbrev Jf (e:Nat→Int):List AV:=[.v (.int .i64 (e 0)), .v (.int .i64 (e 1)), .v (.int .i64 (e 2)), .v (.int .i64 (e 3)), .v (.int .i64 (e 4)), .v (.int .i64 (e 5)), .v (.int .i64 (e 6)), .v (.int .i64 (e 7)), .v (.int .i64 (e 8)), .v (.int .i64 (e 9)), .v (.int .i64 (e 10)), .v (.int .i64 (e 11)), .v (.int .i64 (e 12)), .v (.int .i64 (e 13)), .v (.int .i64 (e 14)), .v (.int .i64 (e 15)), .v (.int .i64 (e 16)), .v (.int .i64 (e 17)), .v (.int .i64 (e 18)), .v (.int .i64 (e 19)), .v (.int .i64 (e 20)), .v (.int .i64 (e 21)), .v (.int .i64 (e 22)), .v (.int .i64 (e 23)), .v (.int .i64 (e 24)), .v (.int .i64 (e 25)), .v (.int .i64 (e 26)), .v (.int .i64 (e 27)), .v (.int .i64 (e 28)), .v (.int .i64 (e 29)), .v (.int .i64 (e 30)), .v (.int .i64 (e 31)), .v (.int .i64 (e 32)), .v (.int .i64 (e 33)), .v (.int .i64 (e 34)), .v (.int .i64 (e 35)), .v (.int .i64 (e 36)), .v (.int .i64 (e 37)), .v (.int .i64 (e 38)), .v (.int .i64 (e 39)), .v (.int .i64 (e 40))]
abbrev Kt (e:Nat→Int):List Value:=[.int .i64 (e 0), .int .i64 (e 1), .int .i64 (e 2), .int .i64 (e 3), .int .i64 (e 4), .int .i64 (e 5), .int .i64 (e 6), .int .i64 (e 7), .int .i64 (e 8), .int .i64 (e 9), .int .i64 (e 10), .int .i64 (e 11), .int .i64 (e 12), .int .i64 (e 13), .int .i64 (e 14), .int .i64 (e 15), .int .i64 (e 16), .int .i64 (e 17), .int .i64 (e 18), .int .i64 (e 19), .int .i64 (e 20), .int .i64 (e 21), .int .i64 (e 22), .int .i64 (e 23), .int .i64 (e 24), .int .i64 (e 25), .int .i64 (e 26), .int .i64 (e 27), .int .i64 (e 28), .int .i64 (e 29), .int .i64 (e 30), .int .i64 (e 31), .int .i64 (e 32), .int .i64 (e 33), .int .i64 (e 34), .int .i64 (e 35), .int .i64 (e 36), .int .i64 (e 37), .int .i64 (e 38), .int .i64 (e 39), .int .i64 (e 40)]
theorem IJ (e:Nat→Int) (h:Nat) (hh:h < 41):(Jf e)[h]? =some (.v (.int .i64 (e h))):=by
 rcases (show h=0∨h=1∨h=2∨h=3∨h=4∨h=5∨h=6∨h=7∨h=8∨h=9∨h=10∨h=11∨h=12∨h=13∨h=14∨h=15∨h=16∨h=17∨h=18∨h=19∨h=20∨h=21∨h=22∨h=23∨h=24∨h=25∨h=26∨h=27∨h=28∨h=29∨h=30∨h=31∨h=32∨h=33∨h=34∨h=35∨h=36∨h=37∨h=38∨h=39∨h=40 by omega) with rfl | rfl | rfl | rfl | rfl | rfl | rfl | rfl | rfl | rfl | rfl | rfl | rfl | rfl | rfl | rfl | rfl | rfl | rfl | rfl | rfl | rfl | rfl | rfl | rfl | rfl | rfl | rfl | rfl | rfl | rfl | rfl | rfl | rfl | rfl | rfl | rfl | rfl | rfl | rfl | rfl <;> rfl
theorem HU (e:Nat→Int) (h:Nat) (hh:h < 41) (x:Int):fQ (Jf e) h [.v (.int .i64 x)]=Jf (kg e h x):=by
 rcases (show h=0∨h=1∨h=2∨h=3∨h=4∨h=5∨h=6∨h=7∨h=8∨h=9∨h=10∨h=11∨h=12∨h=13∨h=14∨h=15∨h=16∨h=17∨h=18∨h=19∨h=20∨h=21∨h=22∨h=23∨h=24∨h=25∨h=26∨h=27∨h=28∨h=29∨h=30∨h=31∨h=32∨h=33∨h=34∨h=35∨h=36∨h=37∨h=38∨h=39∨h=40 by omega) with rfl | rfl | rfl | rfl | rfl | rfl | rfl | rfl | rfl | rfl | rfl | rfl | rfl | rfl | rfl | rfl | rfl | rfl | rfl | rfl | rfl | rfl | rfl | rfl | rfl | rfl | rfl | rfl | rfl | rfl | rfl | rfl | rfl | rfl | rfl | rfl | rfl | rfl | rfl | rfl | rfl <;> rfl
theorem rA (w:World) (cs:Array Value): ∀ (is:List Nat),(∀ j∈is,∃ a,cs[j]? =some (.int .i64 a))→(Op.eqItems 9999 3 1 cs cs is).run Tryz.prog w= .ok true w
 | [],_=> by simp [Op.eqItems]
 | j::is,h=> by
  obtain ⟨a,ha⟩:=h j List.mem_cons_self
  have ih:=rA w cs is fun i hi=> h i (List.mem_cons_of_mem _ hi)
  simp only [Op.eqItems,Sem.run_bind,Nat.mul_one]
  rw [km w cs j _ ha,Result.andThen_ok,km w cs j _ ha,Result.andThen_ok,vS 9998 w a a,Result.andThen_ok]
  simpa using ih
theorem JS (w:World) (e:Nat→Int):(Op.equal 81 (.agg (Kt e).toArray) (.agg (Kt e).toArray)).run Tryz.prog w= .ok true w:=by
 show (Op.equalIn (9999+1) 81 _ _).run Tryz.prog w=_
 obtain ⟨i,hi⟩:=Option.isSome_iff_exists.1 (show (Tryz.prog.info? 3).isSome=true by kernel_rfl)
 rw [run_equalIn_array w 9999 _ _ Tryz.underlying81 hi,show Tryz.prog.cellsOf 3=1 by kernel_rfl]
 refine rA w _ _ fun h hh=> ⟨e h,?_⟩
 have hh:=List.mem_range.1 hh
 rcases (show h=0∨h=1∨h=2∨h=3∨h=4∨h=5∨h=6∨h=7∨h=8∨h=9∨h=10∨h=11∨h=12∨h=13∨h=14∨h=15∨h=16∨h=17∨h=18∨h=19∨h=20∨h=21∨h=22∨h=23∨h=24∨h=25∨h=26∨h=27∨h=28∨h=29∨h=30∨h=31∨h=32∨h=33∨h=34∨h=35∨h=36∨h=37∨h=38∨h=39∨h=40 by omega) with rfl | rfl | rfl | rfl | rfl | rfl | rfl | rfl | rfl | rfl | rfl | rfl | rfl | rfl | rfl | rfl | rfl | rfl | rfl | rfl | rfl | rfl | rfl | rfl | rfl | rfl | rfl | rfl | rfl | rfl | rfl | rfl | rfl | rfl | rfl | rfl | rfl | rfl | rfl | rfl | rfl <;> rfl
section
variable {σ:St} {dd:Option Tmp} {ty:TypeId}
theorem Dn {t':TypeId} (x y:Operand) {e e':Nat→Int} (hx:σ.eval x= .agg (Jf e)) (hy:σ.eval y= .agg (Jf e')) (he:e=e'):Stp Tryz.prog dd (.binOp .neq 81 x y t') ty σ (σ.put dd (.v (.bool false))):=by
 subst he
 refine xx (Kt e) (Kt e) hx hy fun o ρ w ho hx hy=> ?_
 have:=JS w e
 have hg:Tryz.prog.eqGuardType Tryz.prog.depth 81=false:=by kernel_rfl
 simp only [execOp,ho,hx,hy,eqGuard,binOp,hg,this,Sem.run_bind,Sem.run_pure,Result.andThen_ok]
 simp [hg,this,Sem.run]
end

def eP (h k:Nat):Int:=if k < h then -1 else 0
theorem ID (h:Nat):kg (eP h) h (-1)=eP (h+1):=by
 funext k
 unfold kg eP
 by_cases h1:k=h
 ·rw [if_pos h1,if_pos ab]
 rw [if_neg h1]
 by_cases h2:k < h
 ·rw [if_pos h2,if_pos ab]
 rw [if_neg h2,if_neg ab]
def P13:Pg:=⟨[{ op:= .push,n:=5 },{ op:= .setVar,n:=0 },{ op:= .stop,n:=0 }],kg (eP 40) 10 0,0,1⟩
theorem zL:Spec Tryz.prog 85 (ba [] []) (aP (ik P13) []):=by
 refine Spec.ofN Tryz.func85 rfl Tryz.ntmps85 rfl ?_
 refine am (ai (aB (0,0) aa rfl rfl) (aj (am (ai (aL _ aa rfl (by exact eW)) ?_))))
 refine ai (aL _ aa rfl (by exact eW)) ?_
 refine ai (aL _ aa rfl (by exact eW)) ?_
 refine ai (bh _ _ aa rfl ag (by (simp <;> rfl)) ah rfl) ?_
 refine ai (aL _ aa rfl (by exact Gb)) ?_
 refine ai (aB (1,0) aa rfl rfl) (bF rfl rfl rfl rfl rfl rfl (aj (aU fun K3 hK3=> ?_)))
 refine am (be rfl (aj (ay ?_)))
 refine bs (α:=Nat) (fun q=> q≤40) 18 [(0,_),(1,_)] [((0,0),_)] (fun q=> [(2, .v (.int .i64 (q:Int)))]) (fun q=> [((1,0), .box 26 [.sl 3 (inl P13.c), .v (.int .i64 (eP q 0)), .v (.int .i64 (eP q 1)), .v (.int .i64 (eP q 2)), .v (.int .i64 (eP q 3)), .v (.int .i64 (eP q 4)), .v (.int .i64 (eP q 5)), .v (.int .i64 (eP q 6)), .v (.int .i64 (eP q 7)), .v (.int .i64 (eP q 8)), .v (.int .i64 (eP q 9)), .v (.int .i64 (eP q 10)), .v (.int .i64 (eP q 11)), .v (.int .i64 (eP q 12)), .v (.int .i64 (eP q 13)), .v (.int .i64 (eP q 14)), .v (.int .i64 (eP q 15)), .v (.int .i64 (eP q 16)), .v (.int .i64 (eP q 17)), .v (.int .i64 (eP q 18)), .v (.int .i64 (eP q 19)), .v (.int .i64 (eP q 20)), .v (.int .i64 (eP q 21)), .v (.int .i64 (eP q 22)), .v (.int .i64 (eP q 23)), .v (.int .i64 (eP q 24)), .v (.int .i64 (eP q 25)), .v (.int .i64 (eP q 26)), .v (.int .i64 (eP q 27)), .v (.int .i64 (eP q 28)), .v (.int .i64 (eP q 29)), .v (.int .i64 (eP q 30)), .v (.int .i64 (eP q 31)), .v (.int .i64 (eP q 32)), .v (.int .i64 (eP q 33)), .v (.int .i64 (eP q 34)), .v (.int .i64 (eP q 35)), .v (.int .i64 (eP q 36)), .v (.int .i64 (eP q 37)), .v (.int .i64 (eP q 38)), .v (.int .i64 (eP q 39)), .v (.int .i64 0), .v (.int .i64 1)])]) [] [] (fun q=> 40 - q) 0 ?_ (by
  refine Le.mkJ [] [] rfl ?_ ?_ trivial trivial ?_
  ·exact ⟨(iP rfl),(iP rfl),(cj ag),trivial⟩
  ·exact ⟨(cp rfl rfl rfl),(fq rfl rfl rfl rfl lz),trivial⟩
  kernel_rfl) ?_
 ·omega
 intro q hq
 refine aU fun K5 hK5=> ?_
 refine am (aX rfl (ai (bm _ _ rfl rfl rfl) (aj (aR rfl (fun hc9=> ?_) (fun hc9=> ?_)))))
 ·skip
  refine bq (hK5 _ ?_)
  clear hK5;try clear K5
  refine aq (ay (an (aX rfl (bb rfl rfl rfl (ai (cQ _ _ aa rfl rfl rfl q rfl ab (by exact congrArg (fun z=> 0+1+z) (Nat.mul_one q))) ?_)))))
  refine ai (dz _ _ aa rfl rfl rfl rfl (show 0+1+q+1≤43 by omega) ((congrArg (fun z=> fQ (HM (.sl 3 (inl P13.c)) (eP q) 0 1) z [.v (.int .i64 (-1))]) ab).trans ((tD _ _ _ _ q ab _).trans (by rw [ID])))) ?_
  refine ee (an (aX rfl (ai (aZ _ _ rfl rfl (bD ab)) ?_)))
  refine be rfl (aJ (⟨q+1,?_,?_,?_⟩))
  ·omega
  ·skip
   refine Le.mkJ [] [] rfl ?_ ?_ trivial trivial ?_
   ·exact ⟨(iP rfl),(iP rfl),(cj ag),trivial⟩
   ·exact ⟨(cp rfl rfl rfl),(fq rfl rfl rfl rfl lz),trivial⟩
   kernel_rfl
  omega
 obtain rfl:q=40:=by omega
 refine bC (id (hK3 _ ?_))
 clear hK3;try clear K3
 refine am (bb rfl rfl rfl (ai (cQ _ _ aa rfl rfl rfl 10 rfl ab ag) ?_))
 exact bF rfl rfl rfl rfl rfl rfl (aj (am (ai (az _ aa rfl rfl rfl rfl) (bF rfl rfl rfl rfl rfl rfl (aj (aF (bH (.inr rfl) rfl (.cellA aa rfl rfl rfl) (Le.out [] [] (.agg rfl lz) rfl rfl rfl trivial trivial))))))))
theorem p13_ok:oK P13 0 where
 pg:=by
  refine ⟨⟨fun i=> [0,1,0].getD i 0,fun i x hx=> ?_,fun h=> ?_⟩,by show 0+1≤16;omega⟩
  ·rw [Nat.zero_add]
   rcases i with _ | _ | _ | i
   all_goals first | (simp [P13] at hx;done) | (simp only [P13,List.getElem?_cons_zero,List.getElem?_cons_succ,Option.some.injEq] at hx;subst hx)
   all_goals refine ⟨?_,?_,fun j hj=> ?_⟩
   all_goals first | (simp [dh,P13,Rg];done) | (simp [Opc.pops];done) | (simp [dS] at hj;done) | (simp [dS] at hj;subst hj;simp [P13,Opc.pops,Opc.puts];done)
  by_cases h1:h=10
  ·subst h1;exact .inr ⟨by decide,by decide,by decide⟩
  by_cases h2:h < 40
  ·refine .inl ?_
   show kg (eP 40) 10 0 h < 0
   unfold kg eP
   rw [if_neg h1,if_pos h2];omega
  have e:P13.e h=0:=by
   show kg (eP 40) 10 0 h=0
   unfold kg eP
   rw [if_neg h1,if_neg h2]
  rw [e]
  exact .inr ⟨Int.le_refl _,by decide,rfl⟩
 cl:=by decide
 tc:=by decide
abbrev vH:Tl:=⟨0,0,0,0,[],0,[]⟩
theorem Qf (kind idx q:Int) (hq:0 < q):sS vH kind idx q 0:=by
 have h:=ij [] (Nat.zero_le _) 0 0 0 kind idx q hq
 have e:oF [] 0 0 0 kind idx % q=0:=Int.zero_emod q
 rw [e] at h
 exact h
theorem Np (l:List Int):((co l).drop 0).take (l.length*1)=co l:=by rw [List.drop_zero,Nat.mul_one,List.take_of_length_le (by rw [aN];omega)]
set_option maxHeartbeats 4000000 in
theorem wD (S1 S2 S3:Ns) (r1 r2:Nr) (R1 R2:Ms) (c1 c2:Cz) (P:Pg)
  (hp:Spec Tryz.prog 85 (ba [] []) (aP (ik P) []))
  (hS:Spec Tryz.prog 56 (aY [jQ {},ik P, .v (.int .i64 0), .v (.int .i64 0), .v (.int .i64 1), .v (.int .i64 0),jD] (pt vH 0 [] (5,9))) (iW c1 R1 (S1,r1) vH 0 []))
  (hH:Spec Tryz.prog 81 (aY [jQ S1,ik P, .v (.int .i64 10), .v (.int .i64 0), .v (.int .i64 1), .v (.int .i64 0),Dv (List.replicate 9 0),jD] (pt vH 0 [] (5,9))) (iW c2 R2 (S2,r2) vH 0 []))
  (hC:Spec Tryz.prog 53 (aY [jQ S2,jD] (pt vH 0 [] (5,9))) (bc (jQ S3) (pt vH 0 [] (5,8)) [(4,9),(5,8)] [(4,9)]))
  (hw:Spec Tryz.prog 51 (ba [jQ S1,ik P,ik P] []) (aP (.v (.bool true)) []))
  (hv2:Spec Tryz.prog 47 (ba [jQ S2] []) (aP (.sl 1 (co [5])) []))
  (hv3:Spec Tryz.prog 47 (ba [jQ S3] []) (aP (.sl 1 (co [0])) []))
  (e1:S1.up=true) (e2:S2.counts.getD 0 0=1) (e3:S2.counts.getD 10 0=1) (e4:S2.clock=2) (e5:S3.epoch=1):
  Spec Tryz.prog 50 (ba [] []) (aP (.v (.bool true)) []):=by
 have hn:=rS
 have hs5:=rC 1 1 [5] [5] rfl rfl ab ab
 have hs0:=rC 1 1 [0] [0] rfl rfl ab ab
 refine Spec.ofN Tryz.func50 rfl Tryz.ntmps50 rfl ?_
 refine am (cq rfl (aj (am (ai (aL _ aa rfl (by exact sZ)) ?_))))
 refine ai (aQ (5,0) _ rfl rfl) (vO rfl (aj (aq ?_)))
 refine aM (Le.trans (Le.nilB (5,0) 4 (60,0) 111 7 rfl rfl rfl) (Le.nil0 (5,0) 3 rfl rfl)) ?_
 refine an (ai (aI aa (by repeat' (exact cV)) (hn) rfl rfl) ?_)
 refine ai (aI aa (by repeat' (exact cV)) (hp) rfl rfl) ?_
 refine bR rfl (ai (jE _ _ (rfl:_=[AV.ptr _ _]) (rfl:_=[])) ?_)
 refine ai (bW aa [((4,9),(5,0)),((5,9),(60,0)),((1,8),(11,0)),((2,8),(11,1)),((3,8),(11,2)),((6,8),(11,3)),((5,8),(11,4))] ar (hS) ob tr tr rfl rfl ae ae) ?_
 refine ai (aH _ tK) (ai (cm _ rfl pD) (ai (cm _ rfl pD) (ai (aB (2,0) aa rfl rfl) (ai (aB (3,0) aa rfl rfl) (bF rfl rfl rfl rfl rfl rfl (bF rfl rfl rfl rfl rfl rfl (aj (aq (aq ?_)))))))))
 refine aM (Le.frzB (ys:=co S1.timers) (2,0) 7 rfl rfl rfl rfl (Np _) (by rw [aN];omega)) ?_
 refine bL 10 [14,15,16,17,18,19,20,21,22,23] [] ae ae rfl (aK rfl) (rfl:_=[_,_,_,_,_,_,_,_,_,_]) (rfl:_=[]) ?_
 refine ap (_,[]) (fun τ=> az _ aa rfl rfl rfl rfl) ?_
 refine fN rfl ?_
 refine ap (_,[]) (fun τ=> (aI aa (by repeat' (exact cV)) (hp) rfl rfl)) ?_
 refine fO rfl ?_
 refine ap (_,[]) (fun τ=> (aI aa (by repeat' (exact cV)) (hp) rfl rfl)) ?_
 refine fS rfl ?_
 refine ap (_,[]) (fun τ=> (aI aa al (hw) rfl rfl)) ?_
 refine fY rfl ?_
 refine ap (_,[]) (fun τ=> cr _ rfl rfl) ?_
 refine gz rfl ?_
 refine ap (_,[]) (fun τ=> aH _ bN) ?_
 refine hZ rfl ?_
 refine bK (_,[]) rfl (fun τ=> rfl) (fun τ=> aE _ aa rfl rfl rfl) ?_
 refine iX rfl ?_
 refine bK (_,[]) rfl (fun τ=> rfl) (fun τ=> aG _ aa rfl rfl AN) ?_
 refine jU rfl ?_
 refine bK (_,[]) rfl (fun τ=> rfl) (fun τ=> cr (r:=false) _ rfl (by rw [e1];rfl)) ?_
 refine kC rfl ?_
 refine ap (_,[]) (fun τ=> aC _ _ _ rfl bN) ?_
 refine fW rfl (bl ⟨rfl,?_⟩)
 refine aj (aW rfl rfl (aS (aU fun K6 hK6=> ?_)))
 refine aM (σ':=aD 76 [(1,_),(2,_)] [((5,0),_),((11,4),_),((2,0),_)] [] []) kp ?_
 refine hG 10 [25,26,27,28,29,30,24,31,32] [(30,0),(30,1),(30,2),(30,3),(5,0),(30,4),(11,4),(2,0)] [[(2,0)],[(2,0)],[(2,0)],[(2,0)],[(2,0)],[(2,0)],[(2,0)],[(2,0)],[],[]] ae ae rfl (aK rfl) (rfl:_=[_,_,_,_,_,_,_,_,_,_]) (rfl:_=[]) ?_
 refine ap (_,[]) (fun τ=> az _ aa rfl rfl rfl rfl) ?_
 refine fN rfl ?_
 refine ap (_,[]) (fun τ=> (aI aa (by repeat' (exact cV)) (hp) rfl rfl)) ?_
 refine fO rfl ?_
 refine ap (_,[]) (fun τ=> aL _ aa rfl (by exact Cy)) ?_
 refine fS rfl ?_
 refine ap (_,[]) (fun τ=> aH _ bZ) ?_
 refine fY rfl ?_
 refine ap (_,[]) (fun τ=> jE _ _ (rfl:_=[AV.ptr _ _]) (rfl:_=[])) ?_
 refine gz rfl ?_
 refine ap (_,[((30,0),_),((30,1),_),((30,2),_),((30,3),_),((5,0),_),((30,4),_),((11,4), .gone)]) (fun τ=> (bW aa [((4,9),(5,0)),((5,9),(11,4)),((1,8),(30,0)),((2,8),(30,1)),((3,8),(30,2)),((6,8),(30,3)),((5,8),(30,4))] ar (hH) ob tr tr rfl rfl ae ae)) ?_
 refine hZ rfl ?_
 refine ap (_,[]) (fun τ=> aH _ tK) ?_
 refine iX rfl ?_
 refine ap (_,[]) (fun τ=> cm _ rfl pD) ?_
 refine jU rfl ?_
 refine ap (_,[]) (fun τ=> cm _ rfl pD) ?_
 refine kC rfl ?_
 refine ap (_,[((2,0),_)]) (fun τ=> dz _ _ aa rfl (eE rfl (by exact dN) rfl) rfl rfl (Nat.le_of_ble_eq_true rfl) rfl) ?_
 refine fW rfl (bl ⟨⟨rfl,by kernel_rfl⟩,?_⟩)
 refine aJ (hK6 _ ?_)
 clear hK6;try clear K6
 refine aq (aq ?_)
 refine aM (Le.frzB (ys:=co S2.timers) (2,0) 7 rfl rfl rfl rfl (Np _) (by rw [aN];omega)) ?_
 refine an (ai (az _ aa rfl rfl rfl rfl) (ai (aI aa al (hv2) rfl rfl) ?_))
 refine ai (bh _ _ aa rfl ag (by (simp <;> rfl)) ah rfl) ?_
 refine ai (aI aa al (hs5) rfl rfl) ?_
 refine ai (cr _ rfl rfl) (cL rfl (ax rfl rfl (aE _ aa rfl rfl rfl) (ax rfl rfl (cQ _ _ aa rfl rfl rfl 0 rfl ab (by exact Nat.zero_add _)) ?_)))
 refine ax rfl rfl (aG _ aa rfl rfl eo) (ax rfl rfl (bU (r:=false) _ _ rfl rfl (by show (S2.counts.getD 0 0 !=1)=false;rw [e2];rfl)) ?_)
 refine ai (aC _ _ _ rfl bN) (cL rfl (ax rfl rfl (aE _ aa rfl rfl rfl) (ax rfl rfl (cQ _ _ aa rfl rfl rfl 10 rfl ab ag) ?_)))
 refine ax rfl rfl (aG _ aa rfl rfl eo) (ax rfl rfl (bU (r:=false) _ _ rfl rfl (by show (S2.counts.getD 10 0 !=1)=false;rw [e3];rfl)) ?_)
 refine ai (aC _ _ _ rfl bN) (cL rfl (ax rfl rfl (aE _ aa rfl rfl rfl) (ax rfl rfl (aG _ aa rfl rfl eo) (ax rfl rfl (bU (r:=false) _ _ rfl rfl (by rw [e4];rfl)) ?_))))
 refine ai (aC _ _ _ rfl bN) (aj (aW rfl rfl (aS (aU fun K9 hK9=> ?_))))
 refine aM (σ':=aD 76 [(1,_),(2,_)] [((5,0),_),((2,0),_),((30,4),_)] [] []) kp ?_
 refine an (ai (az _ aa rfl rfl rfl rfl) (bR rfl (ai (jE _ _ (rfl:_=[AV.ptr _ _]) (rfl:_=[])) ?_)))
 refine ai (bW aa [((4,9),(5,0)),((5,9),(30,4)),((5,8),(58,0))] ar (hC) ob tr tr rfl rfl ae ae) ?_
 refine bF rfl rfl rfl rfl rfl rfl (aJ (hK9 _ ?_))
 clear hK9;try clear K9
 refine am (ai (az _ aa rfl rfl rfl rfl) (ai (aI aa al (hv3) rfl rfl) ?_))
 refine ai (bh _ _ aa rfl ag (by (simp <;> rfl)) ah rfl) ?_
 refine ai (aI aa al (hs0) rfl rfl) ?_
 refine cL rfl (ax rfl rfl (aE _ aa rfl rfl rfl) (ax rfl rfl (aG _ aa rfl rfl eo) (ax rfl rfl (bA (r:=true) _ _ rfl rfl (by rw [e5];rfl)) ?_)))
 refine ai (aC _ _ _ rfl bN) (cL rfl (ax rfl rfl (aH _ bZ) (ax rfl rfl (aT _ rfl rfl) (ax rfl rfl (aE _ aa rfl rfl rfl) (ax rfl rfl (aG _ aa rfl rfl eS) (ax rfl rfl (dg _ aa rfl rfl) (ax rfl rfl (bA _ _ rfl rfl rfl) (ai (aC _ _ _ rfl bN) (cq rfl (aj ?_))))))))))
 exact aF (fu rfl rfl)
abbrev Fp:Ns:={ up:=true,ver:=0,clock:=1,vol:=[0],counts:=(List.replicate 41 0).set 0 1 }
abbrev Jy:Ns:={ up:=true,ver:=0,clock:=2,vol:=[5],counts:=((List.replicate 41 0).set 0 1).set 10 1 }
abbrev MV:Ns:={ up:=false,ver:=0,clock:=2,vol:=[0],epoch:=1,counts:=(((List.replicate 41 0).set 0 1).set 10 1).set 40 1 }
theorem JE (k:Nat) (l:List Int) (h: ∀ x∈l,0≤x∧x≤1): -1000000≤l.getD k 0∧l.getD k 0≤1000000:=by
 by_cases hk:k < l.length
 ·rw [List.getD_eq_getElem?_getD,List.getElem?_eq_getElem hk]
  have:=h _ (List.getElem_mem hk)
  simp only [Option.getD_some];omega
 rw [List.getD_eq_getElem?_getD,List.getElem?_eq_none ab];simp
theorem Fy:Spec Tryz.prog 50 (ba [] []) (aP (.v (.bool true)) []):=by
 have hsm:jR {}:=⟨Nat.zero_le _,Nat.zero_le _,Nat.zero_le _,Nat.zero_le _⟩
 have hdi:jC ({}:Ns).dk:=fun w hw=> (by cases hw)
 have hdk:DkOk 0 ({}:Ns).dk:=⟨rfl,fun v hv=> (by cases hv),Nat.zero_le _,fun w hw=> (by cases hw)⟩
 have hb:=tY (s:={}) p13_ok.pg p13_ok.cl p13_ok.tc hdk rfl (fun k=> JE k (List.replicate 41 0) ah) ah 0
 have hld: ∀ (i:Nat) (k:Int),i≤100000→2≤k→k≤4→sS vH 1 (i:Int) k (gH [] i k):=fun i k _ h2 _=> by
  have e:gH [] i k=0:=Int.zero_emod k
  rw [e];exact Qf _ _ _ ab
 have hS:=wP P13 0 {} hsm hdi 0 hb 0 1 0 0 [] (dX ab) (dX ab) (dX ah) ab vH (fun h=> absurd h (Int.lt_irrefl 0)) hld _ rfl
 have q1:kU {} P13 0 0 1 0 0 []=(Fp,{}):=by kernel_rfl
 have a1:(gM (cN {} P13 0) P13 0 0 1 0 0 (List.replicate 9 0) []).asked=[]:=by kernel_rfl
 rw [q1] at hS
 have o1:pq 0+(gM (cN {} P13 0) P13 0 0 1 0 0 (List.replicate 9 0) []).asked.length=0:=by rw [a1];rfl
 have p1:pv vH 0 0++tv vH [] (gM (cN {} P13 0) P13 0 0 1 0 0 (List.replicate 9 0) []).asked=[]:=by rw [a1];rfl
 rw [o1,p1] at hS
 have h1:HdOk P13 0 Fp:=⟨p13_ok.pg,p13_ok.cl,p13_ok.tc,⟨hdk,rfl,fun v hv=> (by rw [List.mem_singleton.1 hv];exact oA),⟨List.Pairwise.nil,fun x hx=> (by cases hx)⟩,rfl⟩, .inl rfl,fun k=> JE k _ ah,by decide⟩
 have hH:=uL P13 0 Fp h1 10 ab 0 1 0 0 (List.replicate 9 0) [] rfl JT (dX ab) (dX ab) (dX ah) ab vH (fun h=> absurd h (Int.lt_irrefl 0)) hld _ rfl
 have q2:dq Fp P13 10 0 1 0 0 (List.replicate 9 0) []=(Jy,{}):=by kernel_rfl
 have a2:(gM Fp P13 10 0 1 0 0 (List.replicate 9 0) []).asked=[]:=by kernel_rfl
 rw [q2] at hH
 have o2:pq 0+(gM Fp P13 10 0 1 0 0 (List.replicate 9 0) []).asked.length=0:=by rw [a2];rfl
 have p2:pv vH 0 0++tv vH [] (gM Fp P13 10 0 1 0 0 (List.replicate 9 0) []).asked=[]:=by rw [a2];rfl
 rw [o2,p2] at hH
 have h2:jR Jy:=⟨Nat.zero_le _,Nat.zero_le _,ah,Nat.zero_le _⟩
 have hC:=oW Jy h2 hdi rfl ah ah vH 0 [] rfl ab [] (fun i hi=> absurd hi (Nat.not_lt_zero _))
 have hw:=BI Fp rfl ah P13 P13 rfl rfl
 have hv2:=qT Jy h2 hdi
 have hv3:=qT MV ⟨Nat.zero_le _,Nat.zero_le _,ah,Nat.zero_le _⟩ hdi
 exact wD Fp Jy MV {} {} _ _ _ _ P13 zL hS hH hC hw hv2 hv3 rfl rfl rfl rfl rfl

theorem AW (l:List Na) (k:Nat) (h:k < l.length):(zo l)[k*15+0]? =some (.v (.int .i64 (if (l.getD k Hi).crash=true then 1 else 0))):=by
 have e:l.getD k Hi=l[k]:=by rw [List.getD_eq_getElem?_getD,List.getElem?_eq_getElem h];rfl
 rw [e];exact lF Fr 15 (fun _=> rfl) l k 0 h ab
theorem AH (l:List Na) (k:Nat) (h:k < l.length):(zo l)[k*15+1]? =some (.v (.int .i64 ((l.getD k Hi).h:Int))):=by
 have e:l.getD k Hi=l[k]:=by rw [List.getD_eq_getElem?_getD,List.getElem?_eq_getElem h];rfl
 rw [e];exact lF Fr 15 (fun _=> rfl) l k 1 h ab
theorem xX (l:List Int) (k:Nat) (h:k < (iU (l.take 10)).length):(iU (l.take 10)).getD k Hi=oG l k∧k < 10:=by
 have h1:k < (l.take 10).length:=by rw [lY] at h;exact h
 have h2:k < 10∧k < l.length:=by rw [List.length_take] at h1;omega
 refine ⟨?_,h2.1⟩
 unfold iU
 rw [List.getD_eq_getElem?_getD,List.getElem?_map,List.getElem?_eq_getElem h1,List.getElem_take]
 show iz (dx (l[k]) 100000000)=iz (dx (l.getD k 0) 100000000)
 rw [List.getD_eq_getElem?_getD,List.getElem?_eq_getElem h2.2];rfl
theorem Jk (a:Na) (s:Ns):(s.up=false→hN a s=0)∧(s.up=true→a.crash=true→hN a s=40)∧(s.up=true→a.crash=false→hN a s=a.h):=
 ⟨fun h=> if_pos h,fun h h2=> (if_neg (by rw [h];exact Bool.noConfusion)).trans (if_pos h2),fun h h2=> (if_neg (by rw [h];exact Bool.noConfusion)).trans (if_neg (by rw [h2];exact Bool.noConfusion))⟩
theorem PK (b:Bool):((if b=true then (1:Int) else 0)==1)=b:=by cases b <;> rfl
abbrev Jg:Prop:=Spec Tryz.prog 50 (ba [] []) (aP (.v (.bool true)) [])
set_option maxHeartbeats 4000000 in
theorem ti (hlv:Jg) (one dr:Int) (l:List Int) (h1: -9223372036854775808≤one∧one≤9223372036854775807) (h2: -9223372036854775808≤dr∧dr≤9223372036854775807) (hl:l.length≤4611686018427387904) (hr: ∀ x∈l, -9223372036854775808≤x∧x≤9223372036854775807):
  Spec Tryz.prog 13 (ba [.v (.int .i64 one), .v (.int .i64 dr), .sl l.length (co l)] []) (aP (.v (.bool true)) []):=by
 have ha:=iw dr 4 ab ab h2.1 h2.2
 have hd:0≤dx dr 4∧dx dr 4≤3:=⟨gW dr 4 ab,by have:=jh dr 4 ab;omega⟩
 have hP:=GZ one
 have hp:=Cp one h1
 have hac:=xD l hl hr
 have hnn:=rS
 have hA:=xX l
 have hg0:=AW (iU (l.take 10))
 have hg1:=AH (iU (l.take 10))
 have hga:=zH (iU (l.take 10))
 generalize LR one=P at hP hp
 generalize NA one=tm at hP
 generalize dx dr 4=d at ha hd
 generalize iU (l.take 10)=A at hac hA hg0 hg1 hga
 refine Spec.ofN Tryz.func13 rfl Tryz.ntmps13 rfl ?_
 refine am (cq rfl (aj (am (aX rfl (ai (aI aa al (hp) rfl rfl) ?_)))))
 refine ai (aB (7,0) aa rfl rfl) (bF rfl rfl rfl rfl rfl rfl (aj (am (aX rfl (ai (aI aa al (ha) rfl rfl) ?_)))))
 refine be rfl (aj (am (eQ rfl (ai (aI aa al (hac) rfl rfl) ?_))))
 refine kD rfl (aj (am (ai (aI aa (by repeat' (exact cV)) (hnn) rfl rfl) ?_)))
 refine ai (aB (10,0) aa rfl rfl) (bF rfl rfl rfl rfl rfl rfl (aj (aU fun K6 hK6=> ?_)))
 refine am (be rfl (aj (ay ?_)))
 refine bs (α:=Nat×Ns) (fun z=> z.1≤A.length∧IM P P tm tm z.1 z.2) 103 [(7,_),(8,_),(9,_),(10,_)] [((7,0),_)] (fun z=> [(11, .v (.int .i64 (z.1:Int)))]) (fun z=> [((10,0), .box 83 [.v (.bool z.2.up), .v (.int .i64 (z.2.ver)), .v (.int .i64 (z.2.epoch)), .v (.int .i64 (z.2.clock)), .sl z.2.dk.cells.length (co z.2.dk.cells), .sl z.2.dk.pend.length (lL z.2.dk.pend), .sl z.2.vol.length (co z.2.vol), .sl z.2.timers.length (co z.2.timers), .v (.int .i64 (cI z.2 0)), .v (.int .i64 (cI z.2 1)), .v (.int .i64 (cI z.2 2)), .v (.int .i64 (cI z.2 3)), .v (.int .i64 (cI z.2 4)), .v (.int .i64 (cI z.2 5)), .v (.int .i64 (cI z.2 6)), .v (.int .i64 (cI z.2 7)), .v (.int .i64 (cI z.2 8)), .v (.int .i64 (cI z.2 9)), .v (.int .i64 (cI z.2 10)), .v (.int .i64 (cI z.2 11)), .v (.int .i64 (cI z.2 12)), .v (.int .i64 (cI z.2 13)), .v (.int .i64 (cI z.2 14)), .v (.int .i64 (cI z.2 15)), .v (.int .i64 (cI z.2 16)), .v (.int .i64 (cI z.2 17)), .v (.int .i64 (cI z.2 18)), .v (.int .i64 (cI z.2 19)), .v (.int .i64 (cI z.2 20)), .v (.int .i64 (cI z.2 21)), .v (.int .i64 (cI z.2 22)), .v (.int .i64 (cI z.2 23)), .v (.int .i64 (cI z.2 24)), .v (.int .i64 (cI z.2 25)), .v (.int .i64 (cI z.2 26)), .v (.int .i64 (cI z.2 27)), .v (.int .i64 (cI z.2 28)), .v (.int .i64 (cI z.2 29)), .v (.int .i64 (cI z.2 30)), .v (.int .i64 (cI z.2 31)), .v (.int .i64 (cI z.2 32)), .v (.int .i64 (cI z.2 33)), .v (.int .i64 (cI z.2 34)), .v (.int .i64 (cI z.2 35)), .v (.int .i64 (cI z.2 36)), .v (.int .i64 (cI z.2 37)), .v (.int .i64 (cI z.2 38)), .v (.int .i64 (cI z.2 39)), .v (.int .i64 (cI z.2 40)), .v (.int .i64 (z.2.wait)), .v (.int .i64 (0)), .v (.int .i64 (0))])]) [] [] (fun z=> A.length - z.1) (0,{}) ?_ (by
  refine Le.mkJ [] [] rfl ?_ ?_ trivial trivial ?_
  ·exact ⟨(iP rfl),(iV rfl),(iS rfl),(iP rfl),(cj ag),trivial⟩
  ·exact ⟨(cp rfl rfl rfl),(fq rfl rfl rfl rfl lz),trivial⟩
  kernel_rfl) ?_
 ·exact ⟨Nat.zero_le _,HS P P tm tm⟩
 intro z hz
 obtain ⟨k,s⟩:=z
 obtain ⟨hz1,hs⟩:=hz
 simp only at hz1 hs ⊢
 refine aU fun K8 hK8=> ?_
 refine am (aX rfl (eQ rfl (ai (bo _ aa rfl) (ai (bm _ _ rfl rfl rfl) (aj (aR rfl (fun hc28=> ?_) (fun hc28=> ?_)))))))
 ·skip
  obtain ⟨hAk,hk10⟩:=hA k ab
  have g0:=hg0 k ab
  have g1:=hg1 k ab
  have ga:=hga k ab
  rw [hAk] at g0 g1 ga
  have hw:=II l k
  have hnx:=HD hP hP hd ab hs hw
  have hcn:=Bz P P hd (oG l k) s hw.ok.h
  have hsx:=Ji hP hP hd hw.ok ab hs
  have hwl:=Hh hsx
  have hhn:=Jk (oG l k) s
  have hct:=hs.sq.ct (hN (oG l k) s)
  have hck:=hs.sq.ck
  have hh41:hN (oG l k) s < 41:=Jx hw.ok.h s
  have hcl:=hs.sq.cl
  have hce:cI (dm P P d (oG l k) s).1=kg (cI s) (hN (oG l k) s) (cI s (hN (oG l k) s)+1):=by rw [pI s _ ab];funext j;show (dm P P d (oG l k) s).1.counts.getD j 0=_;rw [hcn.1]
  replace hct:0≤cI s (hN (oG l k) s)∧cI s (hN (oG l k) s)≤k:=hct
  generalize oG l k=a at*
  generalize dm P P d a s=X at*
  obtain ⟨s',r⟩:=X
  generalize hN a s=h at*
  generalize KH a s=rc at hnx
  generalize Km P P d a s=ro at hnx
  generalize fm s a h=tl at hnx
  generalize jr P P d a s=nq at hnx
  simp only at hnx hcn hsx hwl hce
  refine bq (hK8 _ ?_)
  clear hK8;try clear K8
  refine aq (ay (am (eQ rfl (aX rfl ?_))))
  refine ai (bn _ _ aa rfl rfl _ rfl ab (by (simp only [aN,bg,bj,aN,eD,jN,gk,lX,ii];omega)) ag) ?_
  refine ai (dc _ aa rfl rfl) (ai (bQ _ aa rfl (by exact g1) rfl) ?_)
  refine be rfl (aj ?_)
  refine sQ (α:=Unit) (fun u=> True) 103 [(7,_),(8,_),(9,_),(10,_),(11,_)] [((7,0),_),((10,0),_)] (fun u=> [(12, .v (.int .i64 (h:Int)))]) (fun u=> []) [] []
   (by exact ⟨(iP rfl),(iV rfl),(iS rfl),(iP rfl),(iV rfl),trivial⟩)
   (by exact ⟨(cp rfl rfl rfl),(cp rfl rfl rfl),trivial⟩) ?_ ?_
  ·skip
   refine am (bb rfl rfl rfl (zr rfl rfl rfl (ai (cr (r:= !s.up) _ rfl rfl) ?_)))
   refine aj (aR rfl (fun hc38=> ?_) (fun hc38=> ?_))
   ·skip
    have hup:s.up=false:=by simpa using hc38
    have e0:=hhn.1 hup
    refine an (be rfl (aJ (⟨(),?_,?_⟩)))
    ·trivial
    refine Le.mkJ [] [] rfl ?_ ?_ trivial trivial ?_
    ·exact ⟨(iP rfl),(iV rfl),(iS rfl),(iP rfl),(iV rfl),(cj ab),trivial⟩
    ·exact ⟨(cp rfl rfl rfl),(cp rfl rfl rfl),trivial⟩
    kernel_rfl
   have hup:s.up=true:=by simpa using hc38
   refine am (eQ rfl (aX rfl ?_))
   refine ai (bn _ _ aa rfl rfl _ rfl ab (by (simp only [aN,bg,bj,aN,eD,jN,gk,lX,ii];omega)) ag) ?_
   refine ai (dc _ aa rfl rfl) (ai (bQ _ aa rfl (by exact g0) rfl) ?_)
   refine ai (bA (r:=a.crash) _ _ rfl rfl (PK _)) ?_
   refine aj (aR rfl (fun hc44=> ?_) (fun hc44=> ?_))
   ·skip
    have e0:=hhn.2.1 hup hc44
    refine aM (σ':=aD 103 [(7,_),(8,_),(9,_),(10,_),(11,_)] [((7,0),_),((10,0),_)] [] []) kp ?_
    refine an (be rfl (aJ (⟨(),?_,?_⟩)))
    ·trivial
    refine Le.mkJ [] [] rfl ?_ ?_ trivial trivial ?_
    ·exact ⟨(iP rfl),(iV rfl),(iS rfl),(iP rfl),(iV rfl),(cj ab),trivial⟩
    ·exact ⟨(cp rfl rfl rfl),(cp rfl rfl rfl),trivial⟩
    kernel_rfl
   have e0:=hhn.2.2 hup hc44
   refine bq (⟨(),?_,?_⟩)
   ·trivial
   refine Le.mkJ [] [] rfl ?_ ?_ trivial trivial ?_
   ·exact ⟨(iP rfl),(iV rfl),(iS rfl),(iP rfl),(iV rfl),(cj ab),trivial⟩
   ·exact ⟨(cp rfl rfl rfl),(cp rfl rfl rfl),trivial⟩
   kernel_rfl
  intro u hu
  refine aq (pG 17 [46,47,48,49,50,51,52,53,54,45,55,56,57,13,14] [(54,0),(54,1),(13,0),(14,0),(13,0),(14,0)] ae ae rfl (rfl:_=[_,_,_,_,_,_,_,_,_,_,_,_,_,_,_,_,_]) (rfl:_=[_]) ?_)
  refine cA (_,[]) (fun τ=> az _ aa rfl rfl rfl rfl) ?_
  refine cB (rfl:_=[_]) ?_
  refine cA (_,[]) (fun τ=> az _ aa rfl rfl rfl rfl) ?_
  refine cB (rfl:_=[_,_]) ?_
  refine cA (_,[]) (fun τ=> az _ aa rfl rfl rfl rfl) ?_
  refine cB (rfl:_=[_,_,_]) ?_
  refine cA (_,[]) (fun τ=> aH _ ea) ?_
  refine cB (rfl:_=[_,_,_,_]) ?_
  refine cA (_,[]) (fun τ=> aH _ nf) ?_
  refine cB (rfl:_=[_,_,_,_,_]) ?_
  refine cA (_,[]) (fun τ=> aH _ ea) ?_
  refine cB (rfl:_=[_,_,_,_,_,_]) ?_
  refine cA (_,[]) (fun τ=> bn _ _ aa rfl rfl _ rfl ab (by (simp only [aN,bg,bj,aN,eD,jN,gk,lX,ii];omega)) ag) ?_
  refine cB (rfl:_=[_,_,_,_,_,_,_]) ?_
  refine cA (_,[]) (fun τ=> cf _ aa rfl (by exact ga) rfl) ?_
  refine cB (rfl:_=[_,_,_,_,_,_,_,_]) ?_
  refine cA (_,[((54,0),_),((54,1),_)]) (fun τ=> (bW aa [((4,8),(54,0)),((5,8),(54,1))] ar (hnx.toI) trivial tr tr rfl rfl ae ae)) ?_
  refine cB (rfl:_=[_,_,_,_,_,_,_,_,_]) ?_
  refine cA (_,[]) (fun τ=> aH _ tK) ?_
  refine cB (rfl:_=[_,_,_,_,_,_,_,_,_,_]) ?_
  refine cA (_,[]) (fun τ=> cm _ rfl pD) ?_
  refine cB (rfl:_=[_,_,_,_,_,_,_,_,_,_,_]) ?_
  refine cA (_,[]) (fun τ=> cm _ rfl pD) ?_
  refine cB (rfl:_=[_,_,_,_,_,_,_,_,_,_,_,_]) ?_
  refine cA (_,[]) (fun τ=> cm _ rfl (rfl:_=some (AV.ptr _ _))) ?_
  refine cB (rfl:_=[_,_,_,_,_,_,_,_,_,_,_,_,_]) ?_
  refine cA (_,[((13,0),_)]) (fun τ=> aB (13,0) aa rfl rfl) ?_
  refine cB (rfl:_=[_,_,_,_,_,_,_,_,_,_,_,_,_,_]) ?_
  refine cA (_,[((14,0),_)]) (fun τ=> aB (14,0) aa rfl rfl) ?_
  refine cB (rfl:_=[_,_,_,_,_,_,_,_,_,_,_,_,_,_,_]) ?_
  refine cA (_,[((13,0),_)]) (fun τ=> dz _ _ aa rfl rfl rfl rfl (Nat.le_of_ble_eq_true rfl) rfl) ?_
  refine cB (rfl:_=[_,_,_,_,_,_,_,_,_,_,_,_,_,_,_,_]) ?_
  refine cA (_,[((14,0),_)]) (fun τ=> dz _ _ aa rfl rfl rfl rfl (Nat.le_of_ble_eq_true rfl) rfl) ?_
  refine cB (rfl:_=[_,_,_,_,_,_,_,_,_,_,_,_,_,_,_,_,_]) ?_
  refine mV ⟨⟨rfl,by kernel_rfl,by kernel_rfl⟩,?_⟩
  refine vO rfl (aj (aq (aq ?_)))
  refine aM (σ':=aD 103 [(7,_),(8,_),(9,_),(10,_),(11,_),(12,_),(13,_)] [((7,0),_),((10,0),_),((13,0),_)] [] []) kp ?_
  refine an (ai (az _ aa rfl rfl rfl rfl) (ai (az _ aa rfl rfl rfl rfl) (ai (az _ aa rfl rfl rfl rfl) (ai (aI aa al (hwl) rfl rfl) ?_))))
  refine ai (cr _ rfl rfl) (aj (aW rfl rfl (aS (am (bb rfl rfl rfl (ai (az _ aa rfl rfl rfl rfl) (ai (aB (16,0) aa rfl rfl) (bF rfl rfl rfl rfl rfl rfl (aj (am ?_))))))))))
  refine aX rfl (ai (cQ _ _ aa rfl rfl rfl h rfl ab (Nat.zero_add _ |>.trans (Nat.mul_one _))) ?_)
  refine ai (aG _ aa rfl rfl (by exact IJ (cI s) h ab)) ?_
  refine ai (aZ _ _ rfl rfl (bD ab)) ?_
  refine ai (cQ _ _ aa rfl rfl rfl h rfl ab (Nat.zero_add _ |>.trans (Nat.mul_one _))) ?_
  refine ai (dz _ _ aa rfl rfl rfl rfl (by show h+1≤41;omega) (HU (cI s) h ab _)) ?_
  refine aj (aq ?_)
  refine aM (σ':=aD 103 [(7,_),(8,_),(9,_),(10,_),(11,_),(12,_),(13,_),(16,_)] [((7,0),_),((10,0),_),((13,0),_),((16,0),_)] [] []) kp ?_
  refine an (bb rfl rfl rfl (ca rfl rfl rfl (bb rfl rfl rfl (ca rfl rfl rfl (ai (jS _ _ rfl rfl (bD ab)) ?_)))))
  refine be rfl (aj (aU fun K20 hK20=> ?_))
  refine aU fun K21 hK21=> ?_
  rcases hcn.2 with ⟨h40,hck1⟩ | ⟨h40,hck1,hck2⟩
  ·skip
   refine an (bb rfl rfl rfl (ai (az _ aa rfl rfl rfl rfl) (ai (az _ aa rfl rfl rfl rfl) (ai (Dn _ _ rfl rfl hce) ?_))))
   refine cL rfl (ax rfl rfl (aH _ ea) (ax rfl rfl (bA (r:=true) _ _ rfl rfl (beq_iff_eq.2 ab)) ?_))
   refine ax rfl rfl (aH _ bN) (ax rfl rfl (aH _ ea) (ax rfl rfl (bU (r:=false) _ _ rfl rfl (by rw [show s'.clock - s.clock=0 by omega];rfl)) ?_))
   refine ax rfl rfl (aC _ _ _ rfl bN) (ai (aC _ _ _ rfl bN) (cL rfl (ax rfl rfl (aH _ ea) (ax rfl rfl (bU (r:=false) _ _ rfl rfl (by rw [show (h:Int)=40 by omega];rfl)) ?_))))
   refine ax rfl rfl (aH _ bN) (aO rfl rfl ah ?_)
   refine aO rfl rfl ah ?_
   refine aO rfl rfl ah ?_
   refine fE rfl rfl (fE rfl rfl (fE rfl rfl (fE rfl rfl (aO rfl rfl ah ?_))))
   refine ax rfl rfl (aC _ _ _ rfl bN) (ai (aC _ _ _ rfl bN) (aJ (hK21 _ ?_)))
   clear hK21;try clear K21
   refine aW rfl rfl (bq (hK20 _ ?_))
   clear hK20;try clear K20
   refine aM (σ':=aD 103 [(7,_),(8,_),(9,_),(10,_),(11,_),(13,_)] [((7,0),_),((10,0),_),((13,0),_)] [] []) kp ?_
   refine an (ai (az _ aa rfl rfl rfl rfl) (bF rfl rfl rfl rfl rfl rfl (ee (an (aX rfl (ai (aZ _ _ rfl rfl (bD ab)) ?_))))))
   refine be rfl (aJ (⟨(k+1,s'),?_,?_,?_⟩))
   ·exact ⟨by omega,hsx⟩
   ·skip
    refine Le.mkJ [] [] rfl ?_ ?_ trivial trivial ?_
    ·exact ⟨(iP rfl),(iV rfl),(iS rfl),(iP rfl),(cj ag),trivial⟩
    ·exact ⟨(cp rfl rfl rfl),(fq rfl rfl rfl rfl lz),trivial⟩
    kernel_rfl
   omega
  refine an (bb rfl rfl rfl (ai (az _ aa rfl rfl rfl rfl) (ai (az _ aa rfl rfl rfl rfl) (ai (Dn _ _ rfl rfl hce) ?_))))
  refine cL rfl (ax rfl rfl (aH _ ea) (ax rfl rfl (bA (r:=false) _ _ rfl rfl (beq_eq_false_iff_ne.2 ab)) ?_))
  refine ax rfl rfl (aH _ bN) (aO rfl rfl ah ?_)
  refine aO rfl rfl ah ?_
  refine ax rfl rfl (aC _ _ _ rfl bN) (ai (aC _ _ _ rfl bN) (cL rfl (ax rfl rfl (aH _ ea) (ax rfl rfl (bU (r:=true) _ _ rfl rfl (bne_iff_ne.2 ab)) ?_))))
  refine ax rfl rfl (aH _ bN) (ax rfl rfl (aH _ ea) (ax rfl rfl (bm (r:=false) _ _ rfl rfl (decide_eq_false ab)) ?_))
  refine ax rfl rfl (aH _ bN) (ax rfl rfl (aH _ ea) (ax rfl rfl (aH _ ea) (ax rfl rfl (aZ _ _ rfl rfl (bD ab)) ?_)))
  refine ax rfl rfl (fU (r:=false) _ _ rfl rfl (decide_eq_false ab)) ?_
  refine ax rfl rfl (aC _ _ _ rfl bN) (ax rfl rfl (aC _ _ _ rfl bN) (ai (aC _ _ _ rfl bN) (aJ (hK21 _ ?_))))
  clear hK21;try clear K21
  refine aW rfl rfl (bq (hK20 _ ?_))
  clear hK20;try clear K20
  refine aM (σ':=aD 103 [(7,_),(8,_),(9,_),(10,_),(11,_),(13,_)] [((7,0),_),((10,0),_),((13,0),_)] [] []) kp ?_
  refine an (ai (az _ aa rfl rfl rfl rfl) (bF rfl rfl rfl rfl rfl rfl (ee (an (aX rfl (ai (aZ _ _ rfl rfl (bD ab)) ?_))))))
  refine be rfl (aJ (⟨(k+1,s'),?_,?_,?_⟩))
  ·exact ⟨by omega,hsx⟩
  ·skip
   refine Le.mkJ [] [] rfl ?_ ?_ trivial trivial ?_
   ·exact ⟨(iP rfl),(iV rfl),(iS rfl),(iP rfl),(cj ag),trivial⟩
   ·exact ⟨(cp rfl rfl rfl),(fq rfl rfl rfl rfl lz),trivial⟩
   kernel_rfl
  omega
 refine bC (id (hK6 _ ?_))
 clear hK6;try clear K6
 refine am (ai (aI aa (by repeat' (exact cV)) (hlv) rfl rfl) ?_)
 exact cq rfl (aj (aF (fu rfl rfl)))
theorem qR (one dr:Int) (h1: -9223372036854775808≤one∧one≤9223372036854775807) (h2: -9223372036854775808≤dr∧dr≤9223372036854775807) (n0:Nat) (l:List Int) (h0:l.length=n0) (g0:n0≤4611686018427387904) (r0:Rng l):
  Spec Tryz.prog 13 (ba [.v (.int .i64 one), .v (.int .i64 dr), .sl n0 (co l)] []) (aP (.v (.bool true)) []):=by
 subst h0
 exact ti Fy one dr l h1 h2 g0 r0
end Go.Proofs.YtmjnackchaahbaaGreat
