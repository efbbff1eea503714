/- Part 18 of the texts that the walk leans on: the machine, the walks, the plain laws. -/
import Derived.Test.YtmjnackchaahbaaGreatNrZ17
set_option linter.unusedSimpArgs false
set_option linter.unusedVariables false
namespace Go.Proofs.YtmjnackchaahbaaGreat
open Go.RowKit

theorem wm {names:List Int} (hl:names.length=9) (self nodes clock:Int):(ew names self nodes clock).getD 0 0=self∧(ew names self nodes clock).getD 1 0=nodes∧(ew names self nodes clock).getD 2 0=clock∧
  (ew names self nodes clock).getD 3 0=names.getD 3 0∧(ew names self nodes clock).getD 4 0=names.getD 4 0∧(ew names self nodes clock).getD 5 0=names.getD 5 0∧(ew names self nodes clock).getD 6 0=names.getD 6 0∧(ew names self nodes clock).getD 7 0=names.getD 7 0∧(ew names self nodes clock).getD 8 0=names.getD 8 0:=by
 match names,hl with
 | [a,b,c,d,e,f,g,h,i],_=> exact ⟨rfl,rfl,rfl,rfl,rfl,rfl,rfl,rfl,rfl⟩
structure HdOk (P:Pg) (tm:Int) (s:Ns):Prop where
 pg:qc P
 cl:P.c.length≤1000000
 tc:TmC P.c tm=true
 ns:uE P s
 tl:pP tm s.timers
 cb: ∀ k, -1000000≤s.counts.getD k 0∧s.counts.getD k 0≤1000000
 ck: -1000000≤s.clock∧s.clock≤1000000
theorem HdOk.sm {P:Pg} {tm:Int} {s:Ns} (h:HdOk P tm s):jU s∧jz s.dk:=by
 have h1:=h.ns.dk.len
 have h2:=h.ns.dk.pn
 have h3:=h.ns.vl
 have h4:=h.pg.nv
 refine ⟨⟨by omega,by omega,by omega,?_⟩,fun w hw=> ?_⟩
 ·rcases h.tl with h | h <;> rw [h] <;> simp
 obtain ⟨b1,b2,_⟩:=h.ns.dk.pr w hw
 exact ⟨b1,by omega⟩
abbrev OG (t:Tl) (np:Nat) (pre:List PV):Tl:={ t with np:=np,pre:=pre }
theorem Dj {clock drift tick:Int} (h:drift≤0):cX clock drift tick=clock+1:=by unfold cX;rw [if_neg ab,Int.add_zero]
theorem AX {clock drift tick:Int} (h:0 < drift):cX clock drift tick=clock+1+tick % (drift+1):=by unfold cX;rw [if_pos h]
abbrev gP (s:Ns) (P:Pg) (h:Nat) (self nodes drift tick:Int) (names ans:List Int):Ms:=pU P h (ew names self nodes (cX s.clock drift tick)) (s.dk.view++s.vol) ans
theorem uI (s:Ns) (P:Pg) (h:Nat) (self nodes drift tick:Int) (names ans:List Int):cT s h (cX s.clock drift tick) P (gP s P h self nodes drift tick names ans) (gP s P h self nodes drift tick names ans).acts.length=dq s P h self nodes drift tick names ans:=by
 obtain ⟨h1,h2,_⟩:=tE P h (ew names self nodes (cX s.clock drift tick)) (s.dk.view++s.vol) ans
 show ((gP s P h self nodes drift tick names ans).acts.take (gP s P h self nodes drift tick names ans).acts.length).foldl dJ (MZ s h (cX s.clock drift tick) ((gP s P h self nodes drift tick names ans).vars.drop P.d),{})=_
 rw [List.take_length]
 unfold dq
 show _=(jR P h (ew names self nodes (cX s.clock drift tick)) (s.dk.view++s.vol) ans).acts.foldl dJ _
 rw [← h1,show (fG s P h self nodes drift tick names ans).vars=(gP s P h self nodes drift tick names ans).vars from h2.symm]
def po (t:Tl) (drift tick:Int):List PV:=if 0 < drift then vu t 2 0 (drift+1) (tick % (drift+1)) else []
def pw (drift:Int):Nat:=if 0 < drift then 1 else 0
theorem sf (P:Pg) (tm:Int) (s:Ns) (hs:HdOk P tm s) (h:Nat) (hh:h < 40) (self nodes drift tick:Int) (names ans:List Int) (mj:names.length=9) (hn: ∀ i,Rg (names.getD i 0)) (h1:Rg self) (h2:Rg nodes) (h3:Rg (cX s.clock drift tick)) (hdr:0≤drift∧drift≤1000) (t:Tl)
  (hlk:0 < drift→tw t 2 0 (drift+1) (tick % (drift+1))) (hld: ∀ (i:Nat) (k:Int),i≤100000→2≤k→k≤4→tw t 1 (i:Int) k (gJ ans i k)) (R:Ms) (hR:R=gP s P h self nodes drift tick names ans) (n0:Nat) (L0:List PV) (hn0:n0≤10) (hL0:L0.length=n0*7) (h00:0 < drift→n0=0∧L0=[]):
  Spec Tryz.prog 81 (aY [jS s,ii P, .v (.int .i64 (h:Int)), .v (.int .i64 self), .v (.int .i64 nodes), .v (.int .i64 drift),Dz names,jA] (pv t n0 L0 (5,9)))
   (iU ⟨self,(h:Int),s.counts.getD h 0⟩ R (dq s P h self nodes drift tick names ans) t (n0+pw drift+R.asked.length) (L0++po t drift tick++sj t ans R.asked)):=by
 obtain ⟨hsm,hin⟩:=hs.sm
 have hpn:=hs.pg.nv
 obtain ⟨v1,v2⟩:=hs.ns.dk.view
 have hvl:=hs.ns.vl
 have hiv:(s.dk.view++s.vol).length=P.d+P.v:=by rw [List.length_append,v1,hvl]
 have hir: ∀ v∈s.dk.view++s.vol,Rg v:=fun v hv=> (List.mem_append.1 hv).elim (v2 v) (hs.ns.vr v)
 have wF:=rI hn h1 h2 h3
 obtain ⟨a1,a2,a3⟩:=tE P h (ew names self nodes (cX s.clock drift tick)) (s.dk.view++s.vol) ans
 obtain ⟨iv,_,_⟩:=uT hs.pg (h:=h) (names:=ew names self nodes (cX s.clock drift tick)) (vars:=s.dk.view++s.vol) (ans:=ans) wF hiv hir
 have hRv:R.vars.length=P.d+P.v:=by rw [hR];show (pU _ _ _ _ _).vars.length=_;rw [a2];exact iv.vl
 have hRa:R.acts.length≤500:=by rw [hR];exact Fa _ _ _ _ _
 have hac: ∀ a∈R.acts,wU tm a∧Rg a.b:=fun a ha=> by
  rw [hR] at ha
  have ha:a∈(jR P h (ew names self nodes (cX s.clock drift tick)) (s.dk.view++s.vol) ans).acts:=a1 ▸ ha
  obtain ⟨⟨_,q1,_,_⟩,_,_⟩:=iv.ac a ha
  exact ⟨uX hs.tc _ _ _ _ a ha,q1⟩
 have hq:=JE ⟨self,(h:Int),s.counts.getD h 0⟩ (h:=h) (ck:=cX s.clock drift tick) (P:=P) (R:=R) (TmC.rg hs.tc) hac hs.tl hs.ns.dk ab ab hRa
 obtain ⟨g0,g1,g2,g3,g4,g5,g6,g7,g8⟩:=wm mj self nodes (cX s.clock drift tick)
 have hrun:=fun (t':Tl) (ht:yf ⟨P,s.dk.view++s.vol,ew names self nodes (cX s.clock drift tick),ans,t'⟩)=> JP P hs.pg hs.cl h hh (ew names self nodes (cX s.clock drift tick)) (s.dk.view++s.vol) ans wF hiv hir t' ht R hR
 rw [g0,g1,g2,g3,g4,g5,g6,g7,g8] at hrun
 rw [← uI,← hR]
 by_cases hd:0 < drift
 ·obtain ⟨rfl,rfl⟩:=h00 hd
  have hmod:0≤tick % (drift+1)∧tick % (drift+1) < drift+1:=⟨Int.emod_nonneg _ ab,Int.emod_lt_of_pos _ ab⟩
  have hv:=hrun (OG t 1 (vu t 2 0 (drift+1) (tick % (drift+1)))) ⟨by show 1≤10;omega,rfl,fun i k x y z=> hld i k x y z⟩
  rw [AX hd] at hv hq ⊢
  rw [show po t drift tick=vu t 2 0 (drift+1) (tick % (drift+1)) from if_pos hd,show pw drift=1 from if_pos hd,Nat.zero_add,List.nil_append]
  exact Qo s hsm hin hs.ns.ct P h hh self nodes drift (tick % (drift+1)) names t hd (hlk hd) ⟨hmod.1,by omega⟩ ab hs.cb hs.ck R (sj t ans R.asked) hv ab ab hRa hq
 have hv:=hrun (OG t n0 L0) ⟨hn0,hL0,fun i k x y z=> hld i k x y z⟩
 rw [Dj ab] at hv hq ⊢
 rw [show po t drift tick=[] from if_neg hd,show pw drift=0 from if_neg hd,Nat.add_zero,List.append_nil]
 exact Lj s hsm hin hs.ns.ct P h hh self nodes drift 0 names t n0 L0 ab hs.cb hs.ck R (sj t ans R.asked) hv ab ab hRa hq
theorem vq (P:Pg) (tm:Int) (s:Ns) (hs:HdOk P tm s) (h:Nat) (hh:h < 40) (self nodes drift tick:Int) (names ans:List Int) (mj:names.length=9) (hn: ∀ i,Rg (names.getD i 0)) (h1:Rg self) (h2:Rg nodes) (h3:Rg (cX s.clock drift tick)) (hdr:0≤drift∧drift≤1000) (t:Tl)
  (hlk:0 < drift→tw t 2 0 (drift+1) (tick % (drift+1))) (hld: ∀ (i:Nat) (k:Int),i≤100000→2≤k→k≤4→tw t 1 (i:Int) k (gJ ans i k)) (R:Ms) (hR:R=gP s P h self nodes drift tick names ans):
  Spec Tryz.prog 81 (aY [jS s,ii P, .v (.int .i64 (h:Int)), .v (.int .i64 self), .v (.int .i64 nodes), .v (.int .i64 drift),Dz names,jA] (pv t 0 [] (5,9)))
   (iU ⟨self,(h:Int),s.counts.getD h 0⟩ R (dq s P h self nodes drift tick names ans) t (pw drift+R.asked.length) (po t drift tick++sj t ans R.asked)):=by
 have:=sf P tm s hs h hh self nodes drift tick names ans mj hn h1 h2 h3 hdr t hlk hld R hR 0 [] (Nat.zero_le _) rfl (fun _=> ⟨rfl,rfl⟩)
 rwa [Nat.zero_add,List.nil_append] at this

theorem Jc (i:Nat):Rg ((List.replicate 9 (0:Int)).getD i 0):=by
 by_cases hi:i < 9
 ·rw [List.getD_eq_getElem?_getD,List.getElem?_replicate,if_pos hi];exact ol
 rw [List.getD_eq_getElem?_getD,List.getElem?_replicate,if_neg hi];exact ol
theorem Av (P:Pg) (tm:Int) (s:Ns) (hs:jU s) (ho:jz s.dk) (ver:Int) (hb:HdOk P tm (cI s P ver)) (self nodes drift tick:Int) (ans:List Int) (h1:Rg self) (h2:Rg nodes) (h3:Rg (cX s.clock drift tick)) (hdr:0≤drift∧drift≤1000) (t:Tl)
  (hlk:0 < drift→tw t 2 0 (drift+1) (tick % (drift+1))) (hld: ∀ (i:Nat) (k:Int),i≤100000→2≤k→k≤4→tw t 1 (i:Int) k (gJ ans i k)) (R:Ms) (hR:R=gP (cI s P ver) P 0 self nodes drift tick (List.replicate 9 0) ans) (n0:Nat) (L0:List PV) (hn0:n0≤10) (hL0:L0.length=n0*7) (h00:0 < drift→n0=0∧L0=[]):
  Spec Tryz.prog 56 (aY [jS s,ii P, .v (.int .i64 ver), .v (.int .i64 self), .v (.int .i64 nodes), .v (.int .i64 drift),jA] (pv t n0 L0 (5,9)))
   (iU ⟨self,((0:Nat):Int),s.counts.getD 0 0⟩ R (gS s P ver self nodes drift tick ans) t (n0+pw drift+R.asked.length) (L0++po t drift tick++sj t ans R.asked)):=by
 have hpn:=hb.pg.nv
 have hH:=sf P tm (cI s P ver) hb 0 ab self nodes drift tick (List.replicate 9 0) ans rfl Jc h1 h2 h3 hdr t hlk hld R hR n0 L0 hn0 hL0 h00
 by_cases hd:s.dk.cells.length=P.d
 ·exact Ri s hs ho P ver self nodes drift t n0 L0 hd ab ab _ R _ _ _ hH
 exact Qe s hs ho P ver self nodes drift t n0 L0 hd ab ab _ R _ _ _ hH
theorem xx (P:Pg) (tm:Int) (s:Ns) (hs:jU s) (ho:jz s.dk) (ver:Int) (hb:HdOk P tm (cI s P ver)) (self nodes drift tick:Int) (ans:List Int) (h1:Rg self) (h2:Rg nodes) (h3:Rg (cX s.clock drift tick)) (hdr:0≤drift∧drift≤1000) (t:Tl)
  (hlk:0 < drift→tw t 2 0 (drift+1) (tick % (drift+1))) (hld: ∀ (i:Nat) (k:Int),i≤100000→2≤k→k≤4→tw t 1 (i:Int) k (gJ ans i k)) (R:Ms) (hR:R=gP (cI s P ver) P 0 self nodes drift tick (List.replicate 9 0) ans):
  Spec Tryz.prog 56 (aY [jS s,ii P, .v (.int .i64 ver), .v (.int .i64 self), .v (.int .i64 nodes), .v (.int .i64 drift),jA] (pv t 0 [] (5,9)))
   (iU ⟨self,((0:Nat):Int),s.counts.getD 0 0⟩ R (gS s P ver self nodes drift tick ans) t (pw drift+R.asked.length) (po t drift tick++sj t ans R.asked)):=by
 have:=Av P tm s hs ho ver hb self nodes drift tick ans h1 h2 h3 hdr t hlk hld R hR 0 [] (Nat.zero_le _) rfl (fun _=> ⟨rfl,rfl⟩)
 rwa [Nat.zero_add,List.nil_append] at this
theorem uY {P:Pg} {tm:Int} {s:Ns} {m:Nat} (hp:qc P) (hc:P.c.length≤1000000) (ht:TmC P.c tm=true) (hd:DkOk m s.dk) (hct:s.counts.length=41) (hcb: ∀ k, -1000000≤s.counts.getD k 0∧s.counts.getD k 0≤1000000) (hck: -1000000≤s.clock∧s.clock≤1000000) (ver:Int):HdOk P tm (cI s P ver) where
 pg:=hp
 cl:=hc
 tc:=ht
 ns:={
  dk:=by
   show DkOk P.d (if s.dk.cells.length=P.d then s.dk else s.dk.resize P.d)
   split
   ·rename_i h
    have:=hd.len
    rwa [← h,this]
   exact hd.resize P.d
  vl:=List.length_replicate
  vr:=fun v hv=> by
   have hv:v∈List.replicate P.v (0:Int):=hv
   rw [List.mem_replicate] at hv;rw [hv.2];exact ol
  tm:=⟨List.Pairwise.nil,fun x hx=> by cases hx⟩
  ct:=hct }
 tl:= .inl rfl
 cb:=hcb
 ck:=hck

abbrev DA (c:Cz) (r:Nr) (o:Ms):AV:= .agg [.v (.int .i64 c.a), .v (.int .i64 c.b), .v (.int .i64 c.c), .sl r.sent.length (AM c r.sent), .v (.bool r.repl), .v (.int .i64 r.value), .sl r.fails.length (cu r.fails), .sl o.vars.length (cu o.vars), .sl o.acts.length (vB o.acts), .v (.int .i64 (o.steps:Int)), .v (.bool (!o.fin)), .sl (fw (kD o.cov)).length (cu (fw (kD o.cov)))]
abbrev fk (s:Ns) (a:Na) (h:Nat):Tl:=⟨1,(h:Int),cQ s h,(lf 1 (h:Int) (cQ s h) a.tick a.draws a.keeps).length,re (lf 1 (h:Int) (cQ s h) a.tick a.draws a.keeps),0,[]⟩
abbrev nP (s':Ns) (rd:AV) (t:Tl) (n:Nat) (L:List PV):St:=aP (.tup [jS s',rd, .ptr (4,8) 0]) [((4,8), .box 103 [.v (.int .i64 t.c1), .v (.int .i64 t.c2), .v (.int .i64 t.c3), .sl t.na t.A, .ref (5,8) 0 n]),((5,8), .row 111 7 L)]
abbrev Ks:AV:= .agg [.v (.int .i64 0), .v (.int .i64 0), .v (.int .i64 0), .sl 0 [], .v (.bool false), .v (.int .i64 0), .sl 0 [], .sl 0 [], .sl 0 [], .v (.int .i64 0), .v (.bool false), .sl 0 []]
set_option maxHeartbeats 4000000 in
theorem Qf (s:Ns) (hup:s.up=false) (hep:0≤s.epoch) (he2:s.epoch % 2=0) (P Q:Pg) (drift:Int) (a:Na) (h1:a.draws.length≤1000) (h2:a.keeps.length≤1000) (c:Cz) (R:Ms) (q:Ns×Nr) (n:Nat) (L:List PV)
  (hS:Spec Tryz.prog 56 (aY [jS s,ii P, .v (.int .i64 0), .v (.int .i64 1), .v (.int .i64 3), .v (.int .i64 drift),jA] (pv (fk s a 0) 0 [] (5,9))) (iU c R q (fk s a 0) n L)):
  Spec Tryz.prog 45 (ba [jS s,ii P,ii Q, .v (.int .i64 drift),AY a] []) (nP q.1 (DA c q.2 R) (fk s a 0) n L):=by
 have htl:=ir s a 0 ab h1 h2
 refine Spec.ofN Tryz.func45 rfl Tryz.ntmps45 rfl ?_
 refine am (ai (aQ (5,0) _ rfl rfl) (ai (aQ (6,0) _ rfl rfl) (ai (aQ (7,0) _ rfl rfl) (ai (aQ (9,0) _ rfl rfl) (ai (aD (10,0) aa rfl rfl) (ai (aD (11,0) aa rfl rfl) (ai (bq _ kN) (aj (aq (am ?_))))))))))
 refine bb rfl rfl rfl (zK rfl rfl rfl (ai (co (r:=true) _ rfl (by rw [hup];rfl)) ?_))
 refine aj (bL rfl rfl (am (ai (az _ aa rfl rfl rfl rfl) (ai (az _ aa rfl rfl rfl rfl) (ai (bY aa [((4,8),(28,0))] ar (htl.toI) trivial tr tr rfl rfl ae ae) ?_)))))
 refine vM rfl (aj (am (ai (az _ aa rfl rfl rfl rfl) (ai (aD (14,0) aa rfl rfl) (bG rfl rfl rfl rfl rfl rfl (aj (aq ?_)))))))
 refine aN (σ':=aE 90 [(3,_),(5,_),(7,_),(10,_),(11,_),(13,_),(14,_)] [((5,0),_),((7,0),_),((10,0),_),((11,0),_),((28,0),_),((14,0),_)] [] []) kp ?_
 refine an (be rfl (aj (aq (am (bb rfl rfl rfl (cf rfl rfl rfl (ai (dW (r:=0) _ _ rfl rfl ab ((Int.tmod_eq_emod_of_nonneg hep).trans he2)) ?_)))))))
 refine gO rfl rfl rfl (aj (aW rfl rfl (aS (aU fun K9 hK9=> ?_))))
 refine aN (Le.nilB (28,0) 4 (60,0) 111 7 rfl rfl rfl) ?_
 refine an (ai (az _ aa rfl rfl rfl rfl) (ai (az _ aa rfl rfl rfl rfl) (aX rfl (aX rfl (bS rfl (ai (jI _ _ (rfl:_=[AV.ptr _ _]) (rfl:_=[])) ?_))))))
 refine ai (bY aa [((4,9),(28,0)),((5,9),(60,0)),((1,8),(42,0)),((2,8),(42,1)),((3,8),(42,2)),((6,8),(42,3)),((5,8),(42,4))] ar (hS) ob tr tr rfl rfl ae ae) ?_
 refine ai (aH _ tN) (ai (cq _ rfl pE) (ai (cq _ rfl pE) (ai (aD (16,0) aa rfl rfl) (ai (aD (17,0) aa rfl rfl) (bG rfl rfl rfl rfl rfl rfl (bG rfl rfl rfl rfl rfl rfl (aJ (hK9 _ ?_))))))))
 clear hK9;try clear K9
 refine aq ?_
 refine aN (σ':=aE 90 [(10,_),(11,_),(13,_),(16,_),(17,_)] [((10,0),_),((11,0),_),((28,0),_),((42,0),_),((42,1),_),((42,2),_),((42,3),_),((42,4),_),((16,0),_),((17,0),_)] [] []) kp ?_
 refine hU 5 [45,46,47] [(10,0),(11,0)] [[(10,0),(11,0)],[(11,0)],[],[(11,0)],[]] ae ae rfl (aK rfl) (rfl:_=[_,_,_,_,_]) (rfl:_=[_]) ?_
 refine ap (_,[]) (fun τ=> az _ aa rfl rfl rfl rfl) ?_
 refine fB rfl ?_
 refine ap (_,[]) (fun τ=> az _ aa rfl rfl rfl rfl) ?_
 refine fH rfl ?_
 refine ap (_,[]) (fun τ=> aH _ cd) ?_
 refine fQ rfl ?_
 refine ap (_,[((10,0),_)]) (fun τ=> dF _ _ aa rfl (eJ rfl (by exact dP) rfl) rfl rfl (Nat.le_of_ble_eq_true rfl) rfl) ?_
 refine fV rfl ?_
 refine ap (_,[((11,0),_)]) (fun τ=> dF _ _ aa rfl (eJ rfl (by exact dP) rfl) rfl rfl (Nat.le_of_ble_eq_true rfl) rfl) ?_
 refine gd rfl (bl ⟨⟨rfl,by kernel_rfl⟩,?_⟩)
 refine vM rfl (aj (aG ?_))
 exact wr (.inr rfl) rfl (.cellA aa rfl rfl rfl) (.cellA aa rfl rfl rfl) (.tmp cd) (Le.out [((4,8),(28,0)),((5,8),(42,4))] [(42,0),(42,1),(42,2),(42,3)] (.tup rfl (au (.agg rfl (zD (au .sl (au .sl (au .sl (au (fe rfl rfl (by rw [aL,Nat.mul_one]) rfl) lz)))))) (au (.agg rfl (au .v (au .v (au .v (au (fe rfl rfl (ig _ _).symm rfl) (au .v (au .v (au (fe rfl rfl (by rw [aL,Nat.mul_one]) rfl) (au .sl (au (fe rfl rfl (fu _).symm rfl) lz)))))))))) lz))) rfl rfl rfl tr ob)
set_option maxHeartbeats 4000000 in
theorem PM (s:Ns) (hup:s.up=false) (hep:0≤s.epoch) (he2:s.epoch % 2=1) (P Q:Pg) (drift:Int) (a:Na) (h1:a.draws.length≤1000) (h2:a.keeps.length≤1000) (c:Cz) (R:Ms) (q:Ns×Nr) (n:Nat) (L:List PV)
  (hS:Spec Tryz.prog 56 (aY [jS s,ii Q, .v (.int .i64 1), .v (.int .i64 1), .v (.int .i64 3), .v (.int .i64 drift),jA] (pv (fk s a 0) 0 [] (5,9))) (iU c R q (fk s a 0) n L)):
  Spec Tryz.prog 45 (ba [jS s,ii P,ii Q, .v (.int .i64 drift),AY a] []) (nP q.1 (DA c q.2 R) (fk s a 0) n L):=by
 have htl:=ir s a 0 ab h1 h2
 refine Spec.ofN Tryz.func45 rfl Tryz.ntmps45 rfl ?_
 refine am (ai (aQ (5,0) _ rfl rfl) (ai (aQ (6,0) _ rfl rfl) (ai (aQ (7,0) _ rfl rfl) (ai (aQ (9,0) _ rfl rfl) (ai (aD (10,0) aa rfl rfl) (ai (aD (11,0) aa rfl rfl) (ai (bq _ kN) (aj (aq (am ?_))))))))))
 refine bb rfl rfl rfl (zK rfl rfl rfl (ai (co (r:=true) _ rfl (by rw [hup];rfl)) ?_))
 refine aj (bL rfl rfl (am (ai (az _ aa rfl rfl rfl rfl) (ai (az _ aa rfl rfl rfl rfl) (ai (bY aa [((4,8),(28,0))] ar (htl.toI) trivial tr tr rfl rfl ae ae) ?_)))))
 refine vM rfl (aj (am (ai (az _ aa rfl rfl rfl rfl) (ai (aD (14,0) aa rfl rfl) (bG rfl rfl rfl rfl rfl rfl (aj (aq ?_)))))))
 refine aN (σ':=aE 90 [(3,_),(5,_),(7,_),(10,_),(11,_),(13,_),(14,_)] [((5,0),_),((7,0),_),((10,0),_),((11,0),_),((28,0),_),((14,0),_)] [] []) kp ?_
 refine an (be rfl (aj (aq (am (bb rfl rfl rfl (cf rfl rfl rfl (ai (dW (r:=1) _ _ rfl rfl ab ((Int.tmod_eq_emod_of_nonneg hep).trans he2)) ?_)))))))
 refine kg rfl rfl rfl (aj (bL rfl rfl (am (ai (az _ aa rfl rfl rfl rfl) (bG rfl rfl rfl rfl rfl rfl (aj (an (be rfl (aj (aU fun K10 hK10=> ?_))))))))))
 refine aN (Le.nilB (28,0) 4 (60,0) 111 7 rfl rfl rfl) ?_
 refine an (ai (az _ aa rfl rfl rfl rfl) (ai (az _ aa rfl rfl rfl rfl) (aX rfl (aX rfl (bS rfl (ai (jI _ _ (rfl:_=[AV.ptr _ _]) (rfl:_=[])) ?_))))))
 refine ai (bY aa [((4,9),(28,0)),((5,9),(60,0)),((1,8),(42,0)),((2,8),(42,1)),((3,8),(42,2)),((6,8),(42,3)),((5,8),(42,4))] ar (hS) ob tr tr rfl rfl ae ae) ?_
 refine ai (aH _ tN) (ai (cq _ rfl pE) (ai (cq _ rfl pE) (ai (aD (16,0) aa rfl rfl) (ai (aD (17,0) aa rfl rfl) (bG rfl rfl rfl rfl rfl rfl (bG rfl rfl rfl rfl rfl rfl (aJ (hK10 _ ?_))))))))
 clear hK10;try clear K10
 refine aq ?_
 refine aN (σ':=aE 90 [(10,_),(11,_),(13,_),(16,_),(17,_)] [((10,0),_),((11,0),_),((28,0),_),((42,0),_),((42,1),_),((42,2),_),((42,3),_),((42,4),_),((16,0),_),((17,0),_)] [] []) kp ?_
 refine hU 5 [45,46,47] [(10,0),(11,0)] [[(10,0),(11,0)],[(11,0)],[],[(11,0)],[]] ae ae rfl (aK rfl) (rfl:_=[_,_,_,_,_]) (rfl:_=[_]) ?_
 refine ap (_,[]) (fun τ=> az _ aa rfl rfl rfl rfl) ?_
 refine fB rfl ?_
 refine ap (_,[]) (fun τ=> az _ aa rfl rfl rfl rfl) ?_
 refine fH rfl ?_
 refine ap (_,[]) (fun τ=> aH _ cd) ?_
 refine fQ rfl ?_
 refine ap (_,[((10,0),_)]) (fun τ=> dF _ _ aa rfl (eJ rfl (by exact dP) rfl) rfl rfl (Nat.le_of_ble_eq_true rfl) rfl) ?_
 refine fV rfl ?_
 refine ap (_,[((11,0),_)]) (fun τ=> dF _ _ aa rfl (eJ rfl (by exact dP) rfl) rfl rfl (Nat.le_of_ble_eq_true rfl) rfl) ?_
 refine gd rfl (bl ⟨⟨rfl,by kernel_rfl⟩,?_⟩)
 refine vM rfl (aj (aG ?_))
 exact wr (.inr rfl) rfl (.cellA aa rfl rfl rfl) (.cellA aa rfl rfl rfl) (.tmp cd) (Le.out [((4,8),(28,0)),((5,8),(42,4))] [(42,0),(42,1),(42,2),(42,3)] (.tup rfl (au (.agg rfl (zD (au .sl (au .sl (au .sl (au (fe rfl rfl (by rw [aL,Nat.mul_one]) rfl) lz)))))) (au (.agg rfl (au .v (au .v (au .v (au (fe rfl rfl (ig _ _).symm rfl) (au .v (au .v (au (fe rfl rfl (by rw [aL,Nat.mul_one]) rfl) (au .sl (au (fe rfl rfl (fu _).symm rfl) lz)))))))))) lz))) rfl rfl rfl tr ob)
set_option maxHeartbeats 4000000 in
theorem QK (s:Ns) (hup:s.up=true) (hv:s.ver≠1) (P Q:Pg) (drift:Int) (a:Na) (hcr:a.crash=false) (hh:a.h < 41) (h1:a.draws.length≤1000) (h2:a.keeps.length≤1000) (c:Cz) (R:Ms) (q:Ns×Nr) (n:Nat) (L:List PV)
  (hS:Spec Tryz.prog 81 (aY [jS { s with wait:=a.wait },ii P, .v (.int .i64 (a.h:Int)), .v (.int .i64 1), .v (.int .i64 3), .v (.int .i64 drift),Dz a.names,jA] (pv (fk s a a.h) 0 [] (5,9))) (iU c R q (fk s a a.h) n L)):
  Spec Tryz.prog 45 (ba [jS s,ii P,ii Q, .v (.int .i64 drift),AY a] []) (nP q.1 (DA c q.2 R) (fk s a a.h) n L):=by
 have htl:=ir { s with wait:=a.wait } a a.h hh h1 h2
 refine Spec.ofN Tryz.func45 rfl Tryz.ntmps45 rfl ?_
 refine am (ai (aQ (5,0) _ rfl rfl) (ai (aQ (6,0) _ rfl rfl) (ai (aQ (7,0) _ rfl rfl) (ai (aQ (9,0) _ rfl rfl) (ai (aD (10,0) aa rfl rfl) (ai (aD (11,0) aa rfl rfl) (ai (bq _ kN) (aj (aq (am ?_))))))))))
 refine bb rfl rfl rfl (zK rfl rfl rfl (ai (co (r:=false) _ rfl (by rw [hup];rfl)) ?_))
 refine aj (aW rfl rfl (aS (aq (am (bb rfl rfl rfl (cf rfl rfl rfl (gO rfl rfl (by rw [if_neg (by rw [hcr];exact Bool.false_ne_true)];rfl) ?_)))))))
 refine aj (aW rfl rfl (aS (am (ai (az _ aa rfl rfl rfl rfl) (ai (aD (19,0) aa rfl rfl) (bG rfl rfl rfl rfl rfl rfl (aj (aq (aq ?_)))))))))
 refine aN (σ':=aE 90 [(3,_),(5,_),(7,_),(9,_),(10,_),(11,_),(19,_)] [((5,0),_),((7,0),_),((9,0),_),((10,0),_),((11,0),_),((19,0),_)] [] []) kp ?_
 refine an (bb rfl rfl rfl (cf rfl rfl rfl (gO rfl rfl (beq_eq_false_iff_ne.2 hv) ?_)))
 refine aj (aW rfl rfl (aS (am (bb rfl rfl rfl (cf rfl rfl rfl (bb rfl rfl rfl (bG rfl rfl rfl rfl rfl rfl (aj (am (ai (az _ aa rfl rfl rfl rfl) ?_))))))))))
 refine ai (az _ aa rfl rfl rfl rfl) (bb rfl rfl rfl (cf rfl rfl rfl (ai (bY aa [((4,8),(72,0))] ar (htl.toI) trivial tr tr rfl rfl ae ae) ?_)))
 refine vM rfl (aj (aU fun K11 hK11=> ?_))
 refine aN (Le.nilB (72,0) 4 (60,0) 111 7 rfl rfl rfl) ?_
 refine an (ai (az _ aa rfl rfl rfl rfl) (ai (az _ aa rfl rfl rfl rfl) (bb rfl rfl rfl (cf rfl rfl rfl (aX rfl (bb rfl rfl rfl (ai (az _ aa rfl rfl rfl rfl) (ai (aM _ aa rfl (by exact Cl)) ?_))))))))
 refine bS rfl (ai (jI _ _ (rfl:_=[AV.ptr _ _]) (rfl:_=[])) ?_)
 refine ai (bY aa [((4,9),(72,0)),((5,9),(60,0)),((1,8),(84,0)),((2,8),(84,1)),((3,8),(84,2)),((6,8),(84,3)),((5,8),(84,4))] ar (hS) ob tr tr rfl rfl ae ae) ?_
 refine ai (aH _ tN) (ai (cq _ rfl pE) (ai (cq _ rfl pE) (ai (aD (21,0) aa rfl rfl) (ai (aD (22,0) aa rfl rfl) (bG rfl rfl rfl rfl rfl rfl (bG rfl rfl rfl rfl rfl rfl (aJ (hK11 _ ?_))))))))
 clear hK11;try clear K11
 refine aq ?_
 refine aN (σ':=aE 90 [(10,_),(11,_),(20,_),(21,_),(22,_)] [((10,0),_),((11,0),_),((72,0),_),((84,0),_),((84,1),_),((84,2),_),((84,3),_),((84,4),_),((21,0),_),((22,0),_)] [] []) kp ?_
 refine hU 5 [87,88,89] [(10,0),(11,0)] [[(10,0),(11,0)],[(11,0)],[],[(11,0)],[]] ae ae rfl (aK rfl) (rfl:_=[_,_,_,_,_]) (rfl:_=[_]) ?_
 refine ap (_,[]) (fun τ=> az _ aa rfl rfl rfl rfl) ?_
 refine fB rfl ?_
 refine ap (_,[]) (fun τ=> az _ aa rfl rfl rfl rfl) ?_
 refine fH rfl ?_
 refine ap (_,[]) (fun τ=> aH _ cd) ?_
 refine fQ rfl ?_
 refine ap (_,[((10,0),_)]) (fun τ=> dF _ _ aa rfl (eJ rfl (by exact dP) rfl) rfl rfl (Nat.le_of_ble_eq_true rfl) rfl) ?_
 refine fV rfl ?_
 refine ap (_,[((11,0),_)]) (fun τ=> dF _ _ aa rfl (eJ rfl (by exact dP) rfl) rfl rfl (Nat.le_of_ble_eq_true rfl) rfl) ?_
 refine gd rfl (bl ⟨⟨rfl,by kernel_rfl⟩,?_⟩)
 refine vM rfl (aj (aG ?_))
 exact wr (.inr rfl) rfl (.cellA aa rfl rfl rfl) (.cellA aa rfl rfl rfl) (.tmp cd) (Le.out [((4,8),(72,0)),((5,8),(84,4))] [(84,0),(84,1),(84,2),(84,3)] (.tup rfl (au (.agg rfl (zD (au .sl (au .sl (au .sl (au (fe rfl rfl (by rw [aL,Nat.mul_one]) rfl) lz)))))) (au (.agg rfl (au .v (au .v (au .v (au (fe rfl rfl (ig _ _).symm rfl) (au .v (au .v (au (fe rfl rfl (by rw [aL,Nat.mul_one]) rfl) (au .sl (au (fe rfl rfl (fu _).symm rfl) lz)))))))))) lz))) rfl rfl rfl tr ob)
set_option maxHeartbeats 4000000 in
theorem Ra (s:Ns) (hup:s.up=true) (hv:s.ver=1) (P Q:Pg) (drift:Int) (a:Na) (hcr:a.crash=false) (hh:a.h < 41) (h1:a.draws.length≤1000) (h2:a.keeps.length≤1000) (c:Cz) (R:Ms) (q:Ns×Nr) (n:Nat) (L:List PV)
  (hS:Spec Tryz.prog 81 (aY [jS { s with wait:=a.wait },ii Q, .v (.int .i64 (a.h:Int)), .v (.int .i64 1), .v (.int .i64 3), .v (.int .i64 drift),Dz a.names,jA] (pv (fk s a a.h) 0 [] (5,9))) (iU c R q (fk s a a.h) n L)):
  Spec Tryz.prog 45 (ba [jS s,ii P,ii Q, .v (.int .i64 drift),AY a] []) (nP q.1 (DA c q.2 R) (fk s a a.h) n L):=by
 have htl:=ir { s with wait:=a.wait } a a.h hh h1 h2
 refine Spec.ofN Tryz.func45 rfl Tryz.ntmps45 rfl ?_
 refine am (ai (aQ (5,0) _ rfl rfl) (ai (aQ (6,0) _ rfl rfl) (ai (aQ (7,0) _ rfl rfl) (ai (aQ (9,0) _ rfl rfl) (ai (aD (10,0) aa rfl rfl) (ai (aD (11,0) aa rfl rfl) (ai (bq _ kN) (aj (aq (am ?_))))))))))
 refine bb rfl rfl rfl (zK rfl rfl rfl (ai (co (r:=false) _ rfl (by rw [hup];rfl)) ?_))
 refine aj (aW rfl rfl (aS (aq (am (bb rfl rfl rfl (cf rfl rfl rfl (gO rfl rfl (by rw [if_neg (by rw [hcr];exact Bool.false_ne_true)];rfl) ?_)))))))
 refine aj (aW rfl rfl (aS (am (ai (az _ aa rfl rfl rfl rfl) (ai (aD (19,0) aa rfl rfl) (bG rfl rfl rfl rfl rfl rfl (aj (aq (aq ?_)))))))))
 refine aN (σ':=aE 90 [(3,_),(5,_),(7,_),(9,_),(10,_),(11,_),(19,_)] [((5,0),_),((7,0),_),((9,0),_),((10,0),_),((11,0),_),((19,0),_)] [] []) kp ?_
 refine an (bb rfl rfl rfl (cf rfl rfl rfl (kg rfl rfl (by rw [hv];rfl) ?_)))
 refine aj (bL rfl rfl (an (ai (az _ aa rfl rfl rfl rfl) (bG rfl rfl rfl rfl rfl rfl (aj (am (bb rfl rfl rfl (cf rfl rfl rfl (bb rfl rfl rfl (bG rfl rfl rfl rfl rfl rfl ?_))))))))))
 refine aj (am (ai (az _ aa rfl rfl rfl rfl) (ai (az _ aa rfl rfl rfl rfl) (bb rfl rfl rfl (cf rfl rfl rfl (ai (bY aa [((4,8),(72,0))] ar (htl.toI) trivial tr tr rfl rfl ae ae) ?_))))))
 refine vM rfl (aj (aU fun K11 hK11=> ?_))
 refine aN (Le.nilB (72,0) 4 (60,0) 111 7 rfl rfl rfl) ?_
 refine an (ai (az _ aa rfl rfl rfl rfl) (ai (az _ aa rfl rfl rfl rfl) (bb rfl rfl rfl (cf rfl rfl rfl (aX rfl (bb rfl rfl rfl (ai (az _ aa rfl rfl rfl rfl) (ai (aM _ aa rfl (by exact Cl)) ?_))))))))
 refine bS rfl (ai (jI _ _ (rfl:_=[AV.ptr _ _]) (rfl:_=[])) ?_)
 refine ai (bY aa [((4,9),(72,0)),((5,9),(60,0)),((1,8),(84,0)),((2,8),(84,1)),((3,8),(84,2)),((6,8),(84,3)),((5,8),(84,4))] ar (hS) ob tr tr rfl rfl ae ae) ?_
 refine ai (aH _ tN) (ai (cq _ rfl pE) (ai (cq _ rfl pE) (ai (aD (21,0) aa rfl rfl) (ai (aD (22,0) aa rfl rfl) (bG rfl rfl rfl rfl rfl rfl (bG rfl rfl rfl rfl rfl rfl (aJ (hK11 _ ?_))))))))
 clear hK11;try clear K11
 refine aq ?_
 refine aN (σ':=aE 90 [(10,_),(11,_),(20,_),(21,_),(22,_)] [((10,0),_),((11,0),_),((72,0),_),((84,0),_),((84,1),_),((84,2),_),((84,3),_),((84,4),_),((21,0),_),((22,0),_)] [] []) kp ?_
 refine hU 5 [87,88,89] [(10,0),(11,0)] [[(10,0),(11,0)],[(11,0)],[],[(11,0)],[]] ae ae rfl (aK rfl) (rfl:_=[_,_,_,_,_]) (rfl:_=[_]) ?_
 refine ap (_,[]) (fun τ=> az _ aa rfl rfl rfl rfl) ?_
 refine fB rfl ?_
 refine ap (_,[]) (fun τ=> az _ aa rfl rfl rfl rfl) ?_
 refine fH rfl ?_
 refine ap (_,[]) (fun τ=> aH _ cd) ?_
 refine fQ rfl ?_
 refine ap (_,[((10,0),_)]) (fun τ=> dF _ _ aa rfl (eJ rfl (by exact dP) rfl) rfl rfl (Nat.le_of_ble_eq_true rfl) rfl) ?_
 refine fV rfl ?_
 refine ap (_,[((11,0),_)]) (fun τ=> dF _ _ aa rfl (eJ rfl (by exact dP) rfl) rfl rfl (Nat.le_of_ble_eq_true rfl) rfl) ?_
 refine gd rfl (bl ⟨⟨rfl,by kernel_rfl⟩,?_⟩)
 refine vM rfl (aj (aG ?_))
 exact wr (.inr rfl) rfl (.cellA aa rfl rfl rfl) (.cellA aa rfl rfl rfl) (.tmp cd) (Le.out [((4,8),(72,0)),((5,8),(84,4))] [(84,0),(84,1),(84,2),(84,3)] (.tup rfl (au (.agg rfl (zD (au .sl (au .sl (au .sl (au (fe rfl rfl (by rw [aL,Nat.mul_one]) rfl) lz)))))) (au (.agg rfl (au .v (au .v (au .v (au (fe rfl rfl (ig _ _).symm rfl) (au .v (au .v (au (fe rfl rfl (by rw [aL,Nat.mul_one]) rfl) (au .sl (au (fe rfl rfl (fu _).symm rfl) lz)))))))))) lz))) rfl rfl rfl tr ob)
set_option maxHeartbeats 4000000 in
theorem Qb (s:Ns) (hup:s.up=true) (hs:jU s) (ho:jz s.dk) (hc:s.counts.length=41) (hcb: -1000000≤s.counts.getD 40 0∧s.counts.getD 40 0≤1000000) (hep: -1000000≤s.epoch∧s.epoch≤1000000) (P Q:Pg) (drift:Int) (a:Na) (hcr:a.crash=true) (h1:a.draws.length≤1000) (h2:a.keeps.length≤1000)
  (hlk: ∀ i:Nat,i < s.dk.pend.length→tw (fk s a 40) 3 (i:Int) 2 (a.keeps.getD i 0)):
  Spec Tryz.prog 45 (ba [jS s,ii P,ii Q, .v (.int .i64 drift),AY a] []) (nP (kO s (keepB s.dk.pend.length a.keeps)) Ks (fk s a 40) (0+s.dk.pend.length) ([]++zE (fk s a 40) a.keeps s.dk.pend.length)):=by
 have htl:=ir s a 40 ab h1 h2
 have hcs:=pa s hs ho hc hcb hep (fk s a 40) 0 [] rfl ab a.keeps hlk
 refine Spec.ofN Tryz.func45 rfl Tryz.ntmps45 rfl ?_
 refine am (ai (aQ (5,0) _ rfl rfl) (ai (aQ (6,0) _ rfl rfl) (ai (aQ (7,0) _ rfl rfl) (ai (aQ (9,0) _ rfl rfl) (ai (aD (10,0) aa rfl rfl) (ai (aD (11,0) aa rfl rfl) (ai (bq _ kN) (aj (aq (am ?_))))))))))
 refine bb rfl rfl rfl (zK rfl rfl rfl (ai (co (r:=false) _ rfl (by rw [hup];rfl)) ?_))
 refine aj (aW rfl rfl (aS (aq (am (bb rfl rfl rfl (cf rfl rfl rfl (kg rfl rfl (by rw [if_pos hcr];rfl) ?_)))))))
 refine aj (bL rfl rfl (am (ai (az _ aa rfl rfl rfl rfl) (ai (az _ aa rfl rfl rfl rfl) (ai (bY aa [((4,8),(53,0))] ar (htl.toI) trivial tr tr rfl rfl ae ae) ?_)))))
 refine vM rfl (aj (aU fun K7 hK7=> ?_))
 refine aN (Le.nilB (53,0) 4 (60,0) 111 7 rfl rfl rfl) ?_
 refine an (ai (az _ aa rfl rfl rfl rfl) (bS rfl (ai (jI _ _ (rfl:_=[AV.ptr _ _]) (rfl:_=[])) ?_)))
 refine ai (bY aa [((4,9),(53,0)),((5,9),(60,0)),((5,8),(57,0))] ar (hcs) ob tr tr rfl rfl ae ae) ?_
 refine ai (aM _ aa rfl (by exact (rfl:_=some [_,_,_,_,_,_,_,_,_,_,_,_]))) ?_
 refine bS rfl (bG rfl rfl rfl rfl rfl rfl (bG rfl rfl rfl rfl rfl rfl (vM rfl (aJ (hK7 _ ?_)))))
 clear hK7;try clear K7
 exact aG (wr (.inr rfl) rfl (.cellA aa rfl rfl rfl) (.cellA aa rfl rfl rfl) (.tmp cd) (Le.out [((4,8),(53,0)),((5,8),(57,0))] [] (.tup rfl lz) rfl rfl rfl trivial ob))

structure EH (a:Na):Prop where
 ok:Gf a
 nl:a.names.length=9
 d0: ∀ x∈a.draws,0≤x
 k0: ∀ x∈a.keeps,x=0∨x=1
 dl:a.draws.length≤1000
 kl:a.keeps.length≤1000
theorem xc (s:Ns) {a:Na} (h:Nat) (hw:EH a) {q:Int} (hq:0 < q):tw (fk s a h) 2 0 q (a.tick % q):=by
 have hd:=hw.dl
 have hk:=hw.kl
 have:=ip (lf 1 (h:Int) (cQ s h) a.tick a.draws a.keeps) (by rw [nH];omega) 1 (h:Int) (cQ s h) 2 0 q hq
 rwa [zm hw.ok.tk.1] at this
theorem xj (s:Ns) {a:Na} (h:Nat) (hw:EH a) (i:Nat) {q:Int} (hq:0 < q):tw (fk s a h) 1 (i:Int) q (a.draws.getD i 0 % q):=by
 have hd:=hw.dl
 have hk:=hw.kl
 have:=ip (lf 1 (h:Int) (cQ s h) a.tick a.draws a.keeps) (by rw [nH];omega) 1 (h:Int) (cQ s h) 1 (i:Int) q hq
 rwa [yh i hw.d0] at this
theorem EY (s:Ns) {a:Na} (h:Nat) (hw:EH a) (i:Nat):tw (fk s a h) 3 (i:Int) 2 (a.keeps.getD i 0):=by
 have hd:=hw.dl
 have hk:=hw.kl
 have:=ip (lf 1 (h:Int) (cQ s h) a.tick a.draws a.keeps) (by rw [nH];omega) 1 (h:Int) (cQ s h) 3 (i:Int) 2 ab
 have h0: ∀ x∈a.keeps,0≤x:=fun x hx=> by rcases hw.k0 x hx with h | h <;> omega
 rw [yU i h0] at this
 have h1:a.keeps.getD i 0=0∨a.keeps.getD i 0=1:=by
  by_cases hi:i < a.keeps.length
  ·rw [List.getD_eq_getElem?_getD,List.getElem?_eq_getElem hi];exact hw.k0 _ (List.getElem_mem hi)
  rw [List.getD_eq_getElem?_getD,List.getElem?_eq_none ab];exact .inl rfl
 rwa [show a.keeps.getD i 0 % 2=a.keeps.getD i 0 by omega] at this
def Gz (t:Tl) (l:List Qa):List PV:=l.flatMap fun x=> vu t x.kind x.idx x.ar x.n
theorem pV (t:Tl) (drift tick:Int) (asked ans:List Int):po t drift tick++sj t ans asked=Gz t (jQ drift tick asked ans):=by
 unfold Gz jQ po sj
 rw [List.flatMap_append]
 congr 1
 ·split
  ·simp
  rfl
 rw [List.flatMap_map]
theorem oX (drift tick:Int) (asked ans:List Int):(jQ drift tick asked ans).length=pw drift+asked.length:=by
 unfold jQ pw
 rw [List.length_append,List.length_map,List.length_range]
 congr 1
 split <;> rfl

structure oQ (P:Pg) (tm:Int):Prop where
 pg:qc P
 cl:P.c.length≤1000000
 tc:TmC P.c tm=true
abbrev hN (a:Na) (s:Ns):Nat:=if s.up=false then 0 else if a.crash=true then 40 else a.h
abbrev GH (P Q:Pg) (drift:Int) (a:Na) (s:Ns):AV:=
 if s.up=false then DA ⟨1,((0:Nat):Int),s.counts.getD 0 0⟩ (dm P Q drift a s).2 (gP (cI s (bM P Q s) (fF s)) (bM P Q s) 0 1 3 drift a.tick (List.replicate 9 0) a.draws)
 else if a.crash=true then Ks
 else DA ⟨1,(a.h:Int),s.counts.getD a.h 0⟩ (dm P Q drift a s).2 (gP { s with wait:=a.wait } (bM P Q s) a.h 1 3 drift a.tick a.names a.draws)
theorem qu (s:Ns) (P:Pg) (h:Nat) (self nodes drift tick:Int) (names ans:List Int):(gP s P h self nodes drift tick names ans).asked=(fG s P h self nodes drift tick names ans).asked:=
 (tE P h (ew names self nodes (cX s.clock drift tick)) (s.dk.view++s.vol) ans).2.2
section
variable {P Q:Pg} {tp tq:Int} {i:Nat} {s:Ns} {drift:Int} {a:Na}
theorem uW (hP:oQ P tp) (hQ:oQ Q tq) (hi:i≤1000) (hs:Sq P Q i s) (hsm:jU s) (hup:s.up=false) (hdr:0≤drift∧drift≤3) (hw:EH a):
  Spec Tryz.prog 45 (ba [jS s,ii P,ii Q, .v (.int .i64 drift),AY a] []) (nP (dm P Q drift a s).1 (GH P Q drift a s) (fk s a (hN a s)) (jp P Q drift a s).length (Gz (fk s a (hN a s)) (jp P Q drift a s))):=by
 obtain ⟨⟨m,hdk⟩,_,_⟩:=hs.dn hup
 have hin:jz s.dk:=fun w hw=> by
  obtain ⟨b1,b2,_⟩:=hdk.pr w hw
  have:=hdk.len
  exact ⟨b1,by omega⟩
 have hck:=hs.ck
 have hep:=hs.ep
 have hcb: ∀ k, -1000000≤s.counts.getD k 0∧s.counts.getD k 0≤1000000:=fun k=> by have:=hs.ct k;omega
 have htk:=qM (clock:=s.clock) (tick:=a.tick) hdr
 have e1:dm P Q drift a s=gS s (bM P Q s) (fF s) 1 3 drift a.tick a.draws:=by unfold dm;rw [if_pos hup]
 have e2:jp P Q drift a s=jQ drift a.tick (fG (cI s (bM P Q s) (fF s)) (bM P Q s) 0 1 3 drift a.tick (List.replicate 9 0) a.draws).asked a.draws:=by unfold jp;rw [if_pos hup]
 have e3:GH P Q drift a s=DA ⟨1,((0:Nat):Int),s.counts.getD 0 0⟩ (dm P Q drift a s).2 (gP (cI s (bM P Q s) (fF s)) (bM P Q s) 0 1 3 drift a.tick (List.replicate 9 0) a.draws):=if_pos hup
 have e4:hN a s=0:=if_pos hup
 rw [e3,e4,e2,← qu,oX,← pV,e1]
 have key: ∀ (X:Pg) (tm:Int) (v:Int),oQ X tm→Spec Tryz.prog 56 (aY [jS s,ii X, .v (.int .i64 v), .v (.int .i64 1), .v (.int .i64 3), .v (.int .i64 drift),jA] (pv (fk s a 0) 0 [] (5,9)))
   (iU ⟨1,((0:Nat):Int),s.counts.getD 0 0⟩ (gP (cI s X v) X 0 1 3 drift a.tick (List.replicate 9 0) a.draws) (gS s X v 1 3 drift a.tick a.draws) (fk s a 0) (pw drift+(gP (cI s X v) X 0 1 3 drift a.tick (List.replicate 9 0) a.draws).asked.length) (po (fk s a 0) drift a.tick++sj (fk s a 0) a.draws (gP (cI s X v) X 0 1 3 drift a.tick (List.replicate 9 0) a.draws).asked)):=fun X tm v hX=>
  xx X tm s hsm hin v (uY hX.pg hX.cl hX.tc hdk hs.cl hcb ab v) 1 3 drift a.tick a.draws (dX ab) (dX ab) (by unfold Rg;omega) ab (fk s a 0) (fun h=> xc s 0 hw ab) (fun j k _ h2 _=> xj s 0 hw j ab) _ rfl
 by_cases he:s.epoch % 2=1
 ·have hp:bM P Q s=Q:=by unfold bM;rw [if_neg (by rw [hup];exact Bool.false_ne_true),if_pos he]
  have hv:fF s=1:=if_pos he
  rw [hp,hv]
  exact PM s hup hep.1 he P Q drift a hw.dl hw.kl _ _ _ _ _ (key Q tq 1 hQ)
 have hp:bM P Q s=P:=by unfold bM;rw [if_neg (by rw [hup];exact Bool.false_ne_true),if_neg he]
 have hv:fF s=0:=if_neg he
 rw [hp,hv]
 exact Qf s hup hep.1 ab P Q drift a hw.dl hw.kl _ _ _ _ _ (key P tp 0 hP)
theorem zu (hP:oQ P tp) (hQ:oQ Q tq) (hi:i≤1000) (hs:Sq P Q i s) (hup:s.up=true) (htl:pP (if s.ver=1 then tq else tp) s.timers) (hdr:0≤drift∧drift≤3) (hw:EH a) (hcr:a.crash=false):
  Spec Tryz.prog 45 (ba [jS s,ii P,ii Q, .v (.int .i64 drift),AY a] []) (nP (dm P Q drift a s).1 (GH P Q drift a s) (fk s a (hN a s)) (jp P Q drift a s).length (Gz (fk s a (hN a s)) (jp P Q drift a s))):=by
 obtain ⟨hns,hver⟩:=hs.up hup
 have hck:=hs.ck
 have hcb: ∀ k, -1000000≤s.counts.getD k 0∧s.counts.getD k 0≤1000000:=fun k=> by have:=hs.ct k;omega
 have htk:=qM (clock:=s.clock) (tick:=a.tick) hdr
 have hnf: ¬ s.up=false:=by rw [hup];exact fun h=> by cases h
 have hnc: ¬ a.crash=true:=by rw [hcr];exact Bool.false_ne_true
 have hah:=hw.ok.h
 have e1:dm P Q drift a s=dq { s with wait:=a.wait } (bM P Q s) a.h 1 3 drift a.tick a.names a.draws:=by unfold dm;rw [if_neg hnf,if_neg hnc]
 have e2:jp P Q drift a s=jQ drift a.tick (fG { s with wait:=a.wait } (bM P Q s) a.h 1 3 drift a.tick a.names a.draws).asked a.draws:=by unfold jp;rw [if_neg hnf,if_neg hnc]
 have e3:GH P Q drift a s=DA ⟨1,(a.h:Int),s.counts.getD a.h 0⟩ (dm P Q drift a s).2 (gP { s with wait:=a.wait } (bM P Q s) a.h 1 3 drift a.tick a.names a.draws):=(if_neg hnf).trans (if_neg hnc)
 have e4:hN a s=a.h:=(if_neg hnf).trans (if_neg hnc)
 rw [e3,e4,e2,← qu,oX,← pV,e1]
 have key: ∀ (X:Pg) (tm:Int),oQ X tm→uE X s→pP tm s.timers→Spec Tryz.prog 81 (aY [jS { s with wait:=a.wait },ii X, .v (.int .i64 (a.h:Int)), .v (.int .i64 1), .v (.int .i64 3), .v (.int .i64 drift),Dz a.names,jA] (pv (fk s a a.h) 0 [] (5,9)))
   (iU ⟨1,(a.h:Int),s.counts.getD a.h 0⟩ (gP { s with wait:=a.wait } X a.h 1 3 drift a.tick a.names a.draws) (dq { s with wait:=a.wait } X a.h 1 3 drift a.tick a.names a.draws) (fk s a a.h) (pw drift+(gP { s with wait:=a.wait } X a.h 1 3 drift a.tick a.names a.draws).asked.length) (po (fk s a a.h) drift a.tick++sj (fk s a a.h) a.draws (gP { s with wait:=a.wait } X a.h 1 3 drift a.tick a.names a.draws).asked)):=fun X tm hX hN htm=>
  vq X tm { s with wait:=a.wait } ⟨hX.pg,hX.cl,hX.tc,⟨hN.dk,hN.vl,hN.vr,hN.tm,hN.ct⟩,htm,hcb,by show -1000000≤s.clock∧s.clock≤1000000;omega⟩ a.h hah 1 3 drift a.tick a.names a.draws hw.nl hw.ok.nm (dX ab) (dX ab) (by show Rg (cX s.clock drift a.tick);unfold Rg;omega) ab (fk s a a.h) (fun h=> xc s a.h hw ab) (fun j k _ h2 _=> xj s a.h hw j ab) _ rfl
 by_cases hv:s.ver=1
 ·have hp:bM P Q s=Q:=by unfold bM;rw [if_pos hup,if_pos hv]
  rw [if_pos hv] at hns htl
  rw [hp]
  exact Ra s hup hv P Q drift a hcr ab hw.dl hw.kl _ _ _ _ _ (key Q tq hQ hns htl)
 have hp:bM P Q s=P:=by unfold bM;rw [if_pos hup,if_neg hv]
 rw [if_neg hv] at hns htl
 rw [hp]
 exact QK s hup hv P Q drift a hcr ab hw.dl hw.kl _ _ _ _ _ (key P tp hP hns htl)
theorem zt (t:Tl) (k:Nat) (keeps:List Int):Gz t (oh k keeps)=zE t keeps k:=by
 unfold Gz oh zE
 rw [List.flatMap_map]
theorem sD (hi:i≤1000) (hs:Sq P Q i s) (hsm:jU s) (hup:s.up=true) (hw:EH a) (hcr:a.crash=true):
  Spec Tryz.prog 45 (ba [jS s,ii P,ii Q, .v (.int .i64 drift),AY a] []) (nP (dm P Q drift a s).1 (GH P Q drift a s) (fk s a (hN a s)) (jp P Q drift a s).length (Gz (fk s a (hN a s)) (jp P Q drift a s))):=by
 obtain ⟨hns,hver⟩:=hs.up hup
 have hep:=hs.ep
 have hcb:=hs.ct 40
 have hnf: ¬ s.up=false:=by rw [hup];exact fun h=> by cases h
 have e1:dm P Q drift a s=(kO s (keepB s.dk.pend.length a.keeps),{}):=by unfold dm;rw [if_neg hnf,if_pos hcr]
 have e2:jp P Q drift a s=oh s.dk.pend.length a.keeps:=by unfold jp;rw [if_neg hnf,if_pos hcr]
 have e3:GH P Q drift a s=Ks:=(if_neg hnf).trans (if_pos hcr)
 have e4:hN a s=40:=(if_neg hnf).trans (if_pos hcr)
 have hin:jz s.dk:=fun w hw=> by
  obtain ⟨b1,b2,_⟩:=hns.dk.pr w hw
  have:=hns.dk.len
  exact ⟨b1,by omega⟩
 have h:=Qb s hup hsm hin hs.cl ab ab P Q drift a hcr hw.dl hw.kl (fun j _=> EY s 40 hw j)
 rw [Nat.zero_add,List.nil_append] at h
 rw [e3,e4,e2,e1,zt,show (oh s.dk.pend.length a.keeps).length=s.dk.pend.length by simp [oh]]
 exact h
end
end Go.Proofs.YtmjnackchaahbaaGreat

namespace Go.Proofs.YtmjnackchaahbaaGreat

theorem tW {t:Int} (ht:0≤t∧t < 8): ∀ (l:List Ac) (q:Ns×Nr),(∀ a∈l,wU t a)→pP t q.1.timers→pP t (l.foldl dJ q).1.timers
 | [],_,_,h=> h
 | a::l,q,ha,h=> tW ht l (dJ q a) (fun b hb=> ha b (List.mem_cons_of_mem _ hb)) (ua ht (ha a List.mem_cons_self) h)
theorem jG {P:Pg} {t:Int} (hc:TmC P.c t=true) (s:Ns) (h:pP t s.timers) (k:Nat) (self nodes drift tick:Int) (names ans:List Int):pP t (dq s P k self nodes drift tick names ans).1.timers:=
 tW (TmC.rg hc) _ _ (fun a ha=> uX hc _ _ _ _ a ha) h
structure IQ (P Q:Pg) (tp tq:Int) (i:Nat) (s:Ns):Prop where
 sq:Sq P Q i s
 sm:jU s
 tl:s.up=true→pP (if s.ver=1 then tq else tp) s.timers
theorem GP (P Q:Pg) (tp tq:Int):IQ P Q tp tq 0 {}:=⟨Ib P Q,⟨Nat.zero_le _,Nat.zero_le _,Nat.zero_le _,Nat.zero_le _⟩,fun h=> by simp at h⟩
theorem GA {X:Pg} {t:Int} {s:Ns} (hX:qc X) (h:uE X s) (ht:pP t s.timers):jU s:=by
 have h1:=h.dk.len
 have h2:=h.dk.pn
 have h3:=h.vl
 have h4:=hX.nv
 refine ⟨by omega,by omega,by omega,?_⟩
 rcases ht with ht | ht <;> rw [ht] <;> simp
theorem Jk {P Q:Pg} {tp tq:Int} (hP:oQ P tp) (hQ:oQ Q tq) {drift:Int} (hd:0≤drift∧drift≤3) {a:Na} (ha:Gf a) {i:Nat} (hi:i≤100) {s:Ns} (h:IQ P Q tp tq i s):IQ P Q tp tq (i+1) (dm P Q drift a s).1:=by
 have hn:=Eu hP.pg hQ.pg hd ha hi h.sq
 have up:(dm P Q drift a s).1.up=true→pP (if (dm P Q drift a s).1.ver=1 then tq else tp) (dm P Q drift a s).1.timers:=by
  unfold dm
  split
  ·rename_i hup
   intro _
   show pP (if (dq (cI s (bM P Q s) (fF s)) (bM P Q s) 0 1 3 drift a.tick (List.replicate 9 0) a.draws).1.ver=1 then tq else tp) (dq (cI s (bM P Q s) (fF s)) (bM P Q s) 0 1 3 drift a.tick (List.replicate 9 0) a.draws).1.timers
   rw [(fU (cI s (bM P Q s) (fF s)) (bM P Q s) 0 1 3 drift a.tick (List.replicate 9 0) a.draws).2.1]
   show pP (if fF s=1 then tq else tp) _
   have hnt: ¬ s.up=true:=by rw [hup];exact Bool.false_ne_true
   by_cases he:s.epoch % 2=1
   ·rw [show fF s=1 from if_pos he,show bM P Q s=Q by unfold bM;rw [if_neg hnt,if_pos he],if_pos rfl]
    exact jG hQ.tc _ (.inl rfl) _ _ _ _ _ _ _
   rw [show fF s=0 from if_neg he,show bM P Q s=P by unfold bM;rw [if_neg hnt,if_neg he],if_neg ah]
   exact jG hP.tc _ (.inl rfl) _ _ _ _ _ _ _
  rename_i hup
  split
  ·intro hx;cases hx
  intro _
  have hup:s.up=true:=by simpa using hup
  have htl:=h.tl hup
  rw [(fU { s with wait:=a.wait } (bM P Q s) a.h 1 3 drift a.tick a.names a.draws).2.1]
  show pP (if s.ver=1 then tq else tp) _
  by_cases hv:s.ver=1
  ·rw [if_pos hv] at htl ⊢
   rw [show bM P Q s=Q by unfold bM;rw [if_pos hup,if_pos hv]]
   exact jG hQ.tc { s with wait:=a.wait } htl _ _ _ _ _ _ _
  rw [if_neg hv] at htl ⊢
  rw [show bM P Q s=P by unfold bM;rw [if_pos hup,if_neg hv]]
  exact jG hP.tc { s with wait:=a.wait } htl _ _ _ _ _ _ _
 refine ⟨hn,?_,up⟩
 by_cases hu:(dm P Q drift a s).1.up=true
 ·have h1:=(hn.up hu).1
  have h2:=up hu
  by_cases hv:(dm P Q drift a s).1.ver=1
  ·rw [if_pos hv] at h1 h2;exact GA hQ.pg h1 h2
  rw [if_neg hv] at h1 h2;exact GA hP.pg h1 h2
 have hs:=h.sm
 unfold dm at hu ⊢
 split at hu
 ·exact absurd ((fU (cI s (bM P Q s) (fF s)) (bM P Q s) 0 1 3 drift a.tick (List.replicate 9 0) a.draws).1) hu
 rename_i hup
 rw [if_neg hup]
 split at hu
 ·rename_i hc
  rw [if_pos hc]
  refine ⟨?_,Nat.zero_le _,?_,Nat.zero_le _⟩
  ·show (pb s.dk.cells _).length≤1000
   rw [gq];exact hs.c
  show (List.replicate s.vol.length (0:Int)).length≤1000
  rw [List.length_replicate];exact hs.v
 exact absurd ((fU { s with wait:=a.wait } (bM P Q s) a.h 1 3 drift a.tick a.names a.draws).1.trans (show s.up=true by simpa using hup)) hu

theorem FV {n:Int} (h0:0≤n):EH (iy n):=by
 obtain ⟨h1,h2,h3,h4,_,h6⟩:=Dv h0
 refine ⟨h1,h6,h4,fun x hx=> ?_,by omega,by omega⟩
 have hx:x∈[n / 2 % 2,n / 4 % 2,n / 8 % 2,n / 16 % 2]:=hx
 simp only [List.mem_cons,List.not_mem_nil,or_false] at hx
 omega
theorem DQ (s:Ns) (hup:s.up=false) (P Q:Pg):Spec Tryz.prog 51 (ba [jS s,ii P,ii Q] []) (aP (.v (.bool true)) []):=by
 refine Spec.ofN Tryz.func51 rfl Tryz.ntmps51 rfl ?_
 refine am (ai (aQ (3,0) _ rfl rfl) (ai (aQ (4,0) _ rfl rfl) (ai (aQ (5,0) _ rfl rfl) (cp rfl (aj (aq (am (bb rfl rfl rfl (zK rfl rfl rfl (ai (co (r:=true) _ rfl (by rw [hup];rfl)) ?_))))))))))
 exact aj (bL rfl rfl (am (cp rfl (aj (aG (fq rfl rfl))))))
theorem CB (s:Ns) (hup:s.up=true) (hv:s.ver≠1) (P Q:Pg) (hd:s.dk.cells.length=P.d) (hl:s.vol.length=P.v):Spec Tryz.prog 51 (ba [jS s,ii P,ii Q] []) (aP (.v (.bool true)) []):=by
 refine Spec.ofN Tryz.func51 rfl Tryz.ntmps51 rfl ?_
 refine am (ai (aQ (3,0) _ rfl rfl) (ai (aQ (4,0) _ rfl rfl) (ai (aQ (5,0) _ rfl rfl) (cp rfl (aj (aq (am (bb rfl rfl rfl (zK rfl rfl rfl (ai (co (r:=false) _ rfl (by rw [hup];rfl)) ?_))))))))))
 refine aj (aW rfl rfl (aS (am (ai (az _ aa rfl rfl rfl rfl) (ai (aD (7,0) aa rfl rfl) (bG rfl rfl rfl rfl rfl rfl (aj (aq (am (bb rfl rfl rfl ?_))))))))))
 refine cf rfl rfl rfl (gO rfl rfl (beq_eq_false_iff_ne.2 hv) ?_)
 refine aj (aW rfl rfl (aS (am (bb rfl rfl rfl (bb rfl rfl rfl (fb rfl rfl rfl (ai (bp _ aa rfl) (bb rfl rfl rfl (cf rfl rfl rfl (kg rfl rfl (by rw [hd];exact beq_self_eq_true _) ?_))))))))))
 refine cM rfl (ax rfl rfl (aA _ aa rfl rfl rfl) (ax rfl rfl (aF _ aa rfl rfl eI) (ax rfl rfl (bp _ aa rfl) (ax rfl rfl (aA _ aa rfl rfl rfl) (ax rfl rfl (aF _ aa rfl rfl ei) (ax rfl rfl (bB (r:=true) _ _ rfl rfl (by rw [hl];exact beq_self_eq_true _)) ?_))))))
 exact ai (aC _ _ _ rfl bN) (cp rfl (aj (aG (fq rfl rfl))))
theorem IH (s:Ns) (hup:s.up=true) (hv:s.ver=1) (P Q:Pg) (hd:s.dk.cells.length=Q.d) (hl:s.vol.length=Q.v):Spec Tryz.prog 51 (ba [jS s,ii P,ii Q] []) (aP (.v (.bool true)) []):=by
 refine Spec.ofN Tryz.func51 rfl Tryz.ntmps51 rfl ?_
 refine am (ai (aQ (3,0) _ rfl rfl) (ai (aQ (4,0) _ rfl rfl) (ai (aQ (5,0) _ rfl rfl) (cp rfl (aj (aq (am (bb rfl rfl rfl (zK rfl rfl rfl (ai (co (r:=false) _ rfl (by rw [hup];rfl)) ?_))))))))))
 refine aj (aW rfl rfl (aS (am (ai (az _ aa rfl rfl rfl rfl) (ai (aD (7,0) aa rfl rfl) (bG rfl rfl rfl rfl rfl rfl (aj (aq (am (bb rfl rfl rfl ?_))))))))))
 refine cf rfl rfl rfl (kg rfl rfl (by rw [hv];rfl) ?_)
 refine aj (bL rfl rfl (an (ai (az _ aa rfl rfl rfl rfl) (bG rfl rfl rfl rfl rfl rfl (aj (aq ?_))))))
 refine aN (σ':=aE 31 [(3,_),(7,_)] [((3,0),_),((7,0),_)] [] []) kp ?_
 refine an (bb rfl rfl rfl (bb rfl rfl rfl (fb rfl rfl rfl (ai (bp _ aa rfl) (bb rfl rfl rfl (cf rfl rfl rfl (kg rfl rfl (by rw [hd];exact beq_self_eq_true _) ?_)))))))
 refine cM rfl (ax rfl rfl (aA _ aa rfl rfl rfl) (ax rfl rfl (aF _ aa rfl rfl eI) (ax rfl rfl (bp _ aa rfl) (ax rfl rfl (aA _ aa rfl rfl rfl) (ax rfl rfl (aF _ aa rfl rfl ei) (ax rfl rfl (bB (r:=true) _ _ rfl rfl (by rw [hl];exact beq_self_eq_true _)) ?_))))))
 exact ai (aC _ _ _ rfl bN) (cp rfl (aj (aG (fq rfl rfl))))

abbrev IN (n:Int):Nat:=(dO n 12).toNat
def LW (n:Int):Pg:=⟨bV (onss.getD (IN n) []) 0,bZ (onss.getD (IN n) []),(durs.getD (IN n) []).length,(vols.getD (IN n) []).length⟩
theorem CC (n:Int) (h: -9223372036854775808≤n∧n≤9223372036854775807):Spec Tryz.prog 39 (ba [.v (.int .i64 n)] []) (aP (ii (LW n)) []):=sC n h.1 h.2
def OQ (n:Int):Int:=if IN n=6 then 1 else 0
theorem Jp {d v:List Tx} {ons:List (Nat×Bk)} (U:UOk d v ons) {tm:Int} (ht:TmC (bV ons 0) tm=true):oQ ⟨bV ons 0,bZ ons,d.length,v.length⟩ tm where
 pg:=by
  have hl:(d++v).length=d.length+v.length:=List.length_append
  refine ⟨⟨wS ons,by show Good _ (d.length+v.length) _ _ _ _;rw [← hl];exact U.good,fun h=> ?_⟩,by show d.length+v.length≤16;rw [← hl];exact U.len⟩
  rcases ww ons h with e | ⟨e,_,e2,e3,e4⟩
  ·exact .inl (by show (nn (jY ons 0)).getD h (-1) < 0;omega)
  have e5:bZ ons h=(e:Int):=e2
  exact .inr ⟨by show 0≤bZ ons h;omega,by show bZ ons h < _;rw [e5];exact Int.ofNat_lt.2 e3,by show wS ons (bZ ons h).toNat=0;rw [e5,Int.toNat_natCast];exact e4⟩
 cl:=U.c
 tc:=ht
theorem LH (k:Nat) (h:k < 12):TmC (bV (onss.getD k []) 0) (if k=6 then 1 else 0)=true:=by
 rcases (show k=0∨k=1∨k=2∨k=3∨k=4∨k=5∨k=6∨k=7∨k=8∨k=9∨k=10∨k=11 by omega) with rfl | rfl | rfl | rfl | rfl | rfl | rfl | rfl | rfl | rfl | rfl | rfl <;> kernel_rfl
theorem Ht (n:Int):oQ (LW n) (OQ n):=by
 have hlo:=jf n 12 ab
 have hhi:=jX n 12 ab
 have hk:IN n < 12:=by show (dO n 12).toNat < 12;omega
 exact Jp (Ju _ hk).1.toUOk (LH _ hk)
abbrev DH (l:List Int) (k:Nat):Na:=iy (dO (l.getD k 0) 100000000)
theorem Iv (l:List Int) (k:Nat):EH (DH l k):=FV (jf _ _ ab)
def Kr (a:Na) (s:Ns):Cz:=if s.up=false then ⟨1,((0:Nat):Int),s.counts.getD 0 0⟩ else if a.crash=true then ⟨0,0,0⟩ else ⟨1,(a.h:Int),s.counts.getD a.h 0⟩
def Kk (P Q:Pg) (dr:Int) (a:Na) (s:Ns):Ms:=if s.up=false then gP (cI s (bM P Q s) (fF s)) (bM P Q s) 0 1 3 dr a.tick (List.replicate 9 0) a.draws else if a.crash=true then { vars:=[],pc:=0,fin:=true } else gP { s with wait:=a.wait } (bM P Q s) a.h 1 3 dr a.tick a.names a.draws
theorem Ik (P Q:Pg) (dr:Int) (a:Na) (s:Ns):GH P Q dr a s=DA (Kr a s) (dm P Q dr a s).2 (Kk P Q dr a s):=by
 unfold Kr Kk
 by_cases hu:s.up=false
 ·rw [if_pos hu,if_pos hu]
  exact if_pos hu
 rw [if_neg hu,if_neg hu]
 by_cases hc:a.crash=true
 ·rw [if_pos hc,if_pos hc]
  refine ((if_neg hu).trans (if_pos hc)).trans ?_
  have e1:dm P Q dr a s=(kO s (keepB s.dk.pend.length a.keeps),{}):=by unfold dm;rw [if_neg hu,if_pos hc]
  have e2:fw (kD [])=[]:=by simp [fw,kD]
  rw [e1]
  show Ks=AV.agg [.v (.int .i64 0), .v (.int .i64 0), .v (.int .i64 0), .sl 0 (AM ⟨0,0,0⟩ []), .v (.bool false), .v (.int .i64 0), .sl 0 (cu []), .sl 0 (cu []), .sl 0 (vB []), .v (.int .i64 0), .v (.bool false), .sl (fw (kD [])).length (cu (fw (kD [])))]
  rw [e2];rfl
 rw [if_neg hc,if_neg hc]
 exact (if_neg hu).trans (if_neg hc)
theorem Hg {P Q:Pg} {tp tq dr:Int} (hP:oQ P tp) (hQ:oQ Q tq) (hd:0≤dr∧dr≤3) {i:Nat} (hi:i≤1000) {s:Ns} (hs:IQ P Q tp tq i s) {a:Na} (hw:EH a):
  Spec Tryz.prog 45 (ba [jS s,ii P,ii Q, .v (.int .i64 dr),AY a] []) (nP (dm P Q dr a s).1 (DA (Kr a s) (dm P Q dr a s).2 (Kk P Q dr a s)) (fk s a (hN a s)) (jp P Q dr a s).length (Gz (fk s a (hN a s)) (jp P Q dr a s))):=by
 rw [← Ik]
 by_cases hu:s.up=true
 ·by_cases hc:a.crash=true
  ·exact sD hi hs.sq hs.sm hu hw hc
  exact zu hP hQ hi hs.sq hu (hs.tl hu) hd hw (by simpa using hc)
 exact uW hP hQ hi hs.sq hs.sm (by simpa using hu) hd hw
theorem Hb {P Q:Pg} {tp tq:Int} {i:Nat} {s:Ns} (hs:IQ P Q tp tq i s):Spec Tryz.prog 51 (ba [jS s,ii P,ii Q] []) (aP (.v (.bool true)) []):=by
 by_cases hu:s.up=true
 ·obtain ⟨h,_⟩:=hs.sq.up hu
  by_cases hv:s.ver=1
  ·rw [if_pos hv] at h
   exact IH s hu hv P Q h.dk.len h.vl
  rw [if_neg hv] at h
  exact CB s hu hv P Q h.dk.len h.vl
 exact DQ s (by simpa using hu) P Q

def eP (h k:Nat):Int:=if k < h then -1 else 0
theorem Hf (h:Nat):lg (eP h) h (-1)=eP (h+1):=by
 funext k
 unfold lg eP
 by_cases h1:k=h
 ·rw [if_pos h1,if_pos ab]
 rw [if_neg h1]
 by_cases h2:k < h
 ·rw [if_pos h2,if_pos ab]
 rw [if_neg h2,if_neg ab]
def P13:Pg:=⟨[{ op:= .push,n:=5 },{ op:= .setVar,n:=0 },{ op:= .stop,n:=0 }],lg (eP 40) 10 0,0,1⟩
theorem CG:Spec Tryz.prog 85 (ba [] []) (aP (ii P13) []):=by
 refine Spec.ofN Tryz.func85 rfl Tryz.ntmps85 rfl ?_
 refine am (ai (aD (0,0) aa rfl rfl) (aj (am (ai (aM _ aa rfl (by exact eS)) ?_))))
 refine ai (aM _ aa rfl (by exact eS)) ?_
 refine ai (aM _ aa rfl (by exact eS)) ?_
 refine ai (bi _ _ aa rfl ag (by (simp <;> rfl)) ah rfl) ?_
 refine ai (aM _ aa rfl (by exact Fd)) ?_
 refine ai (aD (1,0) aa rfl rfl) (bG rfl rfl rfl rfl rfl rfl (aj (aU fun K3 hK3=> ?_)))
 refine am (be rfl (aj (ay ?_)))
 refine bu (α:=Nat) (fun q=> q≤40) 18 [(0,_),(1,_)] [((0,0),_)] (fun q=> [(2, .v (.int .i64 (q:Int)))]) (fun q=> [((1,0), .box 26 [.sl 3 (inl P13.c), .v (.int .i64 (eP q 0)), .v (.int .i64 (eP q 1)), .v (.int .i64 (eP q 2)), .v (.int .i64 (eP q 3)), .v (.int .i64 (eP q 4)), .v (.int .i64 (eP q 5)), .v (.int .i64 (eP q 6)), .v (.int .i64 (eP q 7)), .v (.int .i64 (eP q 8)), .v (.int .i64 (eP q 9)), .v (.int .i64 (eP q 10)), .v (.int .i64 (eP q 11)), .v (.int .i64 (eP q 12)), .v (.int .i64 (eP q 13)), .v (.int .i64 (eP q 14)), .v (.int .i64 (eP q 15)), .v (.int .i64 (eP q 16)), .v (.int .i64 (eP q 17)), .v (.int .i64 (eP q 18)), .v (.int .i64 (eP q 19)), .v (.int .i64 (eP q 20)), .v (.int .i64 (eP q 21)), .v (.int .i64 (eP q 22)), .v (.int .i64 (eP q 23)), .v (.int .i64 (eP q 24)), .v (.int .i64 (eP q 25)), .v (.int .i64 (eP q 26)), .v (.int .i64 (eP q 27)), .v (.int .i64 (eP q 28)), .v (.int .i64 (eP q 29)), .v (.int .i64 (eP q 30)), .v (.int .i64 (eP q 31)), .v (.int .i64 (eP q 32)), .v (.int .i64 (eP q 33)), .v (.int .i64 (eP q 34)), .v (.int .i64 (eP q 35)), .v (.int .i64 (eP q 36)), .v (.int .i64 (eP q 37)), .v (.int .i64 (eP q 38)), .v (.int .i64 (eP q 39)), .v (.int .i64 0), .v (.int .i64 1)])]) [] [] (fun q=> 40 - q) 0 ?_ (by
  refine Le.mkJ [] [] rfl ?_ ?_ trivial trivial ?_
  ·exact ⟨(iP rfl),(iP rfl),(cr ag),trivial⟩
  ·exact ⟨(cm rfl rfl rfl),(fi rfl rfl rfl rfl lz),trivial⟩
  kernel_rfl) ?_
 ·omega
 intro q hq
 refine aU fun K5 hK5=> ?_
 refine am (aX rfl (ai (bn _ _ rfl rfl rfl) (aj (aR rfl (fun hc9=> ?_) (fun hc9=> ?_)))))
 ·skip
  refine br (hK5 _ ?_)
  clear hK5;try clear K5
  refine aq (ay (an (aX rfl (bb rfl rfl rfl (ai (cZ _ _ aa rfl rfl rfl q rfl ab (by exact congrArg (fun z=> 0+1+z) (Nat.mul_one q))) ?_)))))
  refine ai (dF _ _ aa rfl rfl rfl rfl (show 0+1+q+1≤43 by omega) ((congrArg (fun z=> fY (GU (.sl 3 (inl P13.c)) (eP q) 0 1) z [.v (.int .i64 (-1))]) ab).trans ((sA _ _ _ _ q ab _).trans (by rw [Hf])))) ?_
  refine dY (an (aX rfl (ai (aZ _ _ rfl rfl (bF ab)) ?_)))
  refine be rfl (aJ (⟨q+1,?_,?_,?_⟩))
  ·omega
  ·skip
   refine Le.mkJ [] [] rfl ?_ ?_ trivial trivial ?_
   ·exact ⟨(iP rfl),(iP rfl),(cr ag),trivial⟩
   ·exact ⟨(cm rfl rfl rfl),(fi rfl rfl rfl rfl lz),trivial⟩
   kernel_rfl
  omega
 obtain rfl:q=40:=by omega
 refine bD (id (hK3 _ ?_))
 clear hK3;try clear K3
 refine am (bb rfl rfl rfl (ai (cZ _ _ aa rfl rfl rfl 10 rfl ab ag) ?_))
 exact bG rfl rfl rfl rfl rfl rfl (aj (am (ai (az _ aa rfl rfl rfl rfl) (bG rfl rfl rfl rfl rfl rfl (aj (aG (bI (.inr rfl) rfl (.cellA aa rfl rfl rfl) (Le.out [] [] (.agg rfl lz) rfl rfl rfl trivial trivial))))))))
theorem p13_ok:oQ P13 0 where
 pg:=by
  refine ⟨⟨fun i=> [0,1,0].getD i 0,fun i x hx=> ?_,fun h=> ?_⟩,by show 0+1≤16;omega⟩
  ·rw [Nat.zero_add]
   rcases i with _ | _ | _ | i
   all_goals first | (simp [P13] at hx;done) | (simp only [P13,List.getElem?_cons_zero,List.getElem?_cons_succ,Option.some.injEq] at hx;subst hx)
   all_goals refine ⟨?_,?_,fun j hj=> ?_⟩
   all_goals first | (simp [dh,P13,Rg];done) | (simp [Opc.pops];done) | (simp [dR] at hj;done) | (simp [dR] at hj;subst hj;simp [P13,Opc.pops,Opc.puts];done)
  by_cases h1:h=10
  ·subst h1;exact .inr ⟨by decide,by decide,by decide⟩
  by_cases h2:h < 40
  ·refine .inl ?_
   show lg (eP 40) 10 0 h < 0
   unfold lg eP
   rw [if_neg h1,if_pos h2];omega
  have e:P13.e h=0:=by
   show lg (eP 40) 10 0 h=0
   unfold lg eP
   rw [if_neg h1,if_neg h2]
  rw [e]
  exact .inr ⟨Int.le_refl _,by decide,rfl⟩
 cl:=by decide
 tc:=by decide
abbrev wB:Tl:=⟨0,0,0,0,[],0,[]⟩
theorem Qi (kind idx q:Int) (hq:0 < q):tw wB kind idx q 0:=by
 have h:=ip [] (Nat.zero_le _) 0 0 0 kind idx q hq
 have e:nY [] 0 0 0 kind idx % q=0:=Int.zero_emod q
 rw [e] at h
 exact h
theorem ME (l:List Int):((cu l).drop 0).take (l.length*1)=cu l:=by rw [List.drop_zero,Nat.mul_one,List.take_of_length_le (by rw [aL];omega)]
set_option maxHeartbeats 4000000 in
theorem wj (S1 S2 S3:Ns) (r1 r2:Nr) (R1 R2:Ms) (c1 c2:Cz) (P:Pg)
  (hp:Spec Tryz.prog 85 (ba [] []) (aP (ii P) []))
  (hS:Spec Tryz.prog 56 (aY [jS {},ii P, .v (.int .i64 0), .v (.int .i64 0), .v (.int .i64 1), .v (.int .i64 0),jA] (pv wB 0 [] (5,9))) (iU c1 R1 (S1,r1) wB 0 []))
  (hH:Spec Tryz.prog 81 (aY [jS S1,ii P, .v (.int .i64 10), .v (.int .i64 0), .v (.int .i64 1), .v (.int .i64 0),Dz (List.replicate 9 0),jA] (pv wB 0 [] (5,9))) (iU c2 R2 (S2,r2) wB 0 []))
  (hC:Spec Tryz.prog 53 (aY [jS S2,jA] (pv wB 0 [] (5,9))) (bc (jS S3) (pv wB 0 [] (5,8)) [(4,9),(5,8)] [(4,9)]))
  (hw:Spec Tryz.prog 51 (ba [jS S1,ii P,ii P] []) (aP (.v (.bool true)) []))
  (hv2:Spec Tryz.prog 47 (ba [jS S2] []) (aP (.sl 1 (cu [5])) []))
  (hv3:Spec Tryz.prog 47 (ba [jS S3] []) (aP (.sl 1 (cu [0])) []))
  (e1:S1.up=true) (e2:S2.counts.getD 0 0=1) (e3:S2.counts.getD 10 0=1) (e4:S2.clock=2) (e5:S3.epoch=1):
  Spec Tryz.prog 50 (ba [] []) (aP (.v (.bool true)) []):=by
 have hn:=rC
 have hs5:=rE 1 1 [5] [5] rfl rfl ab ab
 have hs0:=rE 1 1 [0] [0] rfl rfl ab ab
 refine Spec.ofN Tryz.func50 rfl Tryz.ntmps50 rfl ?_
 refine am (cp rfl (aj (am (ai (aM _ aa rfl (by exact sK)) ?_))))
 refine ai (aQ (5,0) _ rfl rfl) (vM rfl (aj (aq ?_)))
 refine aN (Le.trans (Le.nilB (5,0) 4 (60,0) 111 7 rfl rfl rfl) (Le.nil0 (5,0) 3 rfl rfl)) ?_
 refine an (ai (aI aa (by repeat' (exact cV)) (hn) rfl rfl) ?_)
 refine ai (aI aa (by repeat' (exact cV)) (hp) rfl rfl) ?_
 refine bS rfl (ai (jI _ _ (rfl:_=[AV.ptr _ _]) (rfl:_=[])) ?_)
 refine ai (bY aa [((4,9),(5,0)),((5,9),(60,0)),((1,8),(11,0)),((2,8),(11,1)),((3,8),(11,2)),((6,8),(11,3)),((5,8),(11,4))] ar (hS) ob tr tr rfl rfl ae ae) ?_
 refine ai (aH _ tN) (ai (cq _ rfl pE) (ai (cq _ rfl pE) (ai (aD (2,0) aa rfl rfl) (ai (aD (3,0) aa rfl rfl) (bG rfl rfl rfl rfl rfl rfl (bG rfl rfl rfl rfl rfl rfl (aj (aq (aq ?_)))))))))
 refine aN (Le.frzB (ys:=cu S1.timers) (2,0) 7 rfl rfl rfl rfl (ME _) (by rw [aL];omega)) ?_
 refine bK 10 [14,15,16,17,18,19,20,21,22,23] [] ae ae rfl (aK rfl) (rfl:_=[_,_,_,_,_,_,_,_,_,_]) (rfl:_=[]) ?_
 refine ap (_,[]) (fun τ=> az _ aa rfl rfl rfl rfl) ?_
 refine fB rfl ?_
 refine ap (_,[]) (fun τ=> (aI aa (by repeat' (exact cV)) (hp) rfl rfl)) ?_
 refine fH rfl ?_
 refine ap (_,[]) (fun τ=> (aI aa (by repeat' (exact cV)) (hp) rfl rfl)) ?_
 refine fQ rfl ?_
 refine ap (_,[]) (fun τ=> (aI aa al (hw) rfl rfl)) ?_
 refine fV rfl ?_
 refine ap (_,[]) (fun τ=> co _ rfl rfl) ?_
 refine gd rfl ?_
 refine ap (_,[]) (fun τ=> aH _ bN) ?_
 refine gV rfl ?_
 refine bm (_,[]) rfl (fun τ=> rfl) (fun τ=> aA _ aa rfl rfl rfl) ?_
 refine iG rfl ?_
 refine bm (_,[]) rfl (fun τ=> rfl) (fun τ=> aF _ aa rfl rfl zW) ?_
 refine jO rfl ?_
 refine bm (_,[]) rfl (fun τ=> rfl) (fun τ=> co (r:=false) _ rfl (by rw [e1];rfl)) ?_
 refine jW rfl ?_
 refine ap (_,[]) (fun τ=> aC _ _ _ rfl bN) ?_
 refine fE rfl (bl ⟨rfl,?_⟩)
 refine aj (aW rfl rfl (aS (aU fun K6 hK6=> ?_)))
 refine aN (σ':=aE 76 [(1,_),(2,_)] [((5,0),_),((11,4),_),((2,0),_)] [] []) kp ?_
 refine hU 10 [25,26,27,28,29,30,24,31,32] [(30,0),(30,1),(30,2),(30,3),(5,0),(30,4),(11,4),(2,0)] [[(2,0)],[(2,0)],[(2,0)],[(2,0)],[(2,0)],[(2,0)],[(2,0)],[(2,0)],[],[]] ae ae rfl (aK rfl) (rfl:_=[_,_,_,_,_,_,_,_,_,_]) (rfl:_=[]) ?_
 refine ap (_,[]) (fun τ=> az _ aa rfl rfl rfl rfl) ?_
 refine fB rfl ?_
 refine ap (_,[]) (fun τ=> (aI aa (by repeat' (exact cV)) (hp) rfl rfl)) ?_
 refine fH rfl ?_
 refine ap (_,[]) (fun τ=> aM _ aa rfl (by exact Cl)) ?_
 refine fQ rfl ?_
 refine ap (_,[]) (fun τ=> aH _ cd) ?_
 refine fV rfl ?_
 refine ap (_,[]) (fun τ=> jI _ _ (rfl:_=[AV.ptr _ _]) (rfl:_=[])) ?_
 refine gd rfl ?_
 refine ap (_,[((30,0),_),((30,1),_),((30,2),_),((30,3),_),((5,0),_),((30,4),_),((11,4), .gone)]) (fun τ=> (bY aa [((4,9),(5,0)),((5,9),(11,4)),((1,8),(30,0)),((2,8),(30,1)),((3,8),(30,2)),((6,8),(30,3)),((5,8),(30,4))] ar (hH) ob tr tr rfl rfl ae ae)) ?_
 refine gV rfl ?_
 refine ap (_,[]) (fun τ=> aH _ tN) ?_
 refine iG rfl ?_
 refine ap (_,[]) (fun τ=> cq _ rfl pE) ?_
 refine jO rfl ?_
 refine ap (_,[]) (fun τ=> cq _ rfl pE) ?_
 refine jW rfl ?_
 refine ap (_,[((2,0),_)]) (fun τ=> dF _ _ aa rfl (eJ rfl (by exact dP) rfl) rfl rfl (Nat.le_of_ble_eq_true rfl) rfl) ?_
 refine fE rfl (bl ⟨⟨rfl,by kernel_rfl⟩,?_⟩)
 refine aJ (hK6 _ ?_)
 clear hK6;try clear K6
 refine aq (aq ?_)
 refine aN (Le.frzB (ys:=cu S2.timers) (2,0) 7 rfl rfl rfl rfl (ME _) (by rw [aL];omega)) ?_
 refine an (ai (az _ aa rfl rfl rfl rfl) (ai (aI aa al (hv2) rfl rfl) ?_))
 refine ai (bi _ _ aa rfl ag (by (simp <;> rfl)) ah rfl) ?_
 refine ai (aI aa al (hs5) rfl rfl) ?_
 refine ai (co _ rfl rfl) (cM rfl (ax rfl rfl (aA _ aa rfl rfl rfl) (ax rfl rfl (cZ _ _ aa rfl rfl rfl 0 rfl ab (by exact Nat.zero_add _)) ?_)))
 refine ax rfl rfl (aF _ aa rfl rfl ei) (ax rfl rfl (bT (r:=false) _ _ rfl rfl (by show (S2.counts.getD 0 0 !=1)=false;rw [e2];rfl)) ?_)
 refine ai (aC _ _ _ rfl bN) (cM rfl (ax rfl rfl (aA _ aa rfl rfl rfl) (ax rfl rfl (cZ _ _ aa rfl rfl rfl 10 rfl ab ag) ?_)))
 refine ax rfl rfl (aF _ aa rfl rfl ei) (ax rfl rfl (bT (r:=false) _ _ rfl rfl (by show (S2.counts.getD 10 0 !=1)=false;rw [e3];rfl)) ?_)
 refine ai (aC _ _ _ rfl bN) (cM rfl (ax rfl rfl (aA _ aa rfl rfl rfl) (ax rfl rfl (aF _ aa rfl rfl ei) (ax rfl rfl (bT (r:=false) _ _ rfl rfl (by rw [e4];rfl)) ?_))))
 refine ai (aC _ _ _ rfl bN) (aj (aW rfl rfl (aS (aU fun K9 hK9=> ?_))))
 refine aN (σ':=aE 76 [(1,_),(2,_)] [((5,0),_),((2,0),_),((30,4),_)] [] []) kp ?_
 refine an (ai (az _ aa rfl rfl rfl rfl) (bS rfl (ai (jI _ _ (rfl:_=[AV.ptr _ _]) (rfl:_=[])) ?_)))
 refine ai (bY aa [((4,9),(5,0)),((5,9),(30,4)),((5,8),(58,0))] ar (hC) ob tr tr rfl rfl ae ae) ?_
 refine bG rfl rfl rfl rfl rfl rfl (aJ (hK9 _ ?_))
 clear hK9;try clear K9
 refine am (ai (az _ aa rfl rfl rfl rfl) (ai (aI aa al (hv3) rfl rfl) ?_))
 refine ai (bi _ _ aa rfl ag (by (simp <;> rfl)) ah rfl) ?_
 refine ai (aI aa al (hs0) rfl rfl) ?_
 refine cM rfl (ax rfl rfl (aA _ aa rfl rfl rfl) (ax rfl rfl (aF _ aa rfl rfl ei) (ax rfl rfl (bB (r:=true) _ _ rfl rfl (by rw [e5];rfl)) ?_)))
 refine ai (aC _ _ _ rfl bN) (cM rfl (ax rfl rfl (aH _ cd) (ax rfl rfl (aT _ rfl rfl) (ax rfl rfl (aA _ aa rfl rfl rfl) (ax rfl rfl (aF _ aa rfl rfl eT) (ax rfl rfl (dg _ aa rfl rfl) (ax rfl rfl (bB _ _ rfl rfl rfl) (ai (aC _ _ _ rfl bN) (cp rfl (aj ?_))))))))))
 exact aG (fq rfl rfl)
abbrev DC:Ns:={ up:=true,ver:=0,clock:=1,vol:=[0],counts:=(List.replicate 41 0).set 0 1 }
abbrev IZ:Ns:={ up:=true,ver:=0,clock:=2,vol:=[5],counts:=((List.replicate 41 0).set 0 1).set 10 1 }
abbrev MG:Ns:={ up:=false,ver:=0,clock:=2,vol:=[0],epoch:=1,counts:=(((List.replicate 41 0).set 0 1).set 10 1).set 40 1 }
theorem Jl (k:Nat) (l:List Int) (h: ∀ x∈l,0≤x∧x≤1): -1000000≤l.getD k 0∧l.getD k 0≤1000000:=by
 by_cases hk:k < l.length
 ·rw [List.getD_eq_getElem?_getD,List.getElem?_eq_getElem hk]
  have:=h _ (List.getElem_mem hk)
  simp only [Option.getD_some];omega
 rw [List.getD_eq_getElem?_getD,List.getElem?_eq_none ab];simp
theorem FQ:Spec Tryz.prog 50 (ba [] []) (aP (.v (.bool true)) []):=by
 have hsm:jU {}:=⟨Nat.zero_le _,Nat.zero_le _,Nat.zero_le _,Nat.zero_le _⟩
 have hdi:jz ({}:Ns).dk:=fun w hw=> (by cases hw)
 have hdk:DkOk 0 ({}:Ns).dk:=⟨rfl,fun v hv=> (by cases hv),Nat.zero_le _,fun w hw=> (by cases hw)⟩
 have hb:=uY (s:={}) p13_ok.pg p13_ok.cl p13_ok.tc hdk rfl (fun k=> Jl k (List.replicate 41 0) ah) ah 0
 have hld: ∀ (i:Nat) (k:Int),i≤100000→2≤k→k≤4→tw wB 1 (i:Int) k (gJ [] i k):=fun i k _ h2 _=> by
  have e:gJ [] i k=0:=Int.zero_emod k
  rw [e];exact Qi _ _ _ ab
 have hS:=xx P13 0 {} hsm hdi 0 hb 0 1 0 0 [] (dX ab) (dX ab) (dX ah) ab wB (fun h=> absurd h (Int.lt_irrefl 0)) hld _ rfl
 have q1:gS {} P13 0 0 1 0 0 []=(DC,{}):=by kernel_rfl
 have a1:(gP (cI {} P13 0) P13 0 0 1 0 0 (List.replicate 9 0) []).asked=[]:=by kernel_rfl
 rw [q1] at hS
 have o1:pw 0+(gP (cI {} P13 0) P13 0 0 1 0 0 (List.replicate 9 0) []).asked.length=0:=by rw [a1];rfl
 have p1:po wB 0 0++sj wB [] (gP (cI {} P13 0) P13 0 0 1 0 0 (List.replicate 9 0) []).asked=[]:=by rw [a1];rfl
 rw [o1,p1] at hS
 have h1:HdOk P13 0 DC:=⟨p13_ok.pg,p13_ok.cl,p13_ok.tc,⟨hdk,rfl,fun v hv=> (by rw [List.mem_singleton.1 hv];exact ol),⟨List.Pairwise.nil,fun x hx=> (by cases hx)⟩,rfl⟩, .inl rfl,fun k=> Jl k _ ah,by decide⟩
 have hH:=vq P13 0 DC h1 10 ab 0 1 0 0 (List.replicate 9 0) [] rfl Jc (dX ab) (dX ab) (dX ah) ab wB (fun h=> absurd h (Int.lt_irrefl 0)) hld _ rfl
 have q2:dq DC P13 10 0 1 0 0 (List.replicate 9 0) []=(IZ,{}):=by kernel_rfl
 have a2:(gP DC P13 10 0 1 0 0 (List.replicate 9 0) []).asked=[]:=by kernel_rfl
 rw [q2] at hH
 have o2:pw 0+(gP DC P13 10 0 1 0 0 (List.replicate 9 0) []).asked.length=0:=by rw [a2];rfl
 have p2:po wB 0 0++sj wB [] (gP DC P13 10 0 1 0 0 (List.replicate 9 0) []).asked=[]:=by rw [a2];rfl
 rw [o2,p2] at hH
 have h2:jU IZ:=⟨Nat.zero_le _,Nat.zero_le _,ah,Nat.zero_le _⟩
 have hC:=pa IZ h2 hdi rfl ah ah wB 0 [] rfl ab [] (fun i hi=> absurd hi (Nat.not_lt_zero _))
 have hw:=CB DC rfl ah P13 P13 rfl rfl
 have hv2:=qO IZ h2 hdi
 have hv3:=qO MG ⟨Nat.zero_le _,Nat.zero_le _,ah,Nat.zero_le _⟩ hdi
 exact wj DC IZ MG {} {} _ _ _ _ P13 CG hS hH hC hw hv2 hv3 rfl rfl rfl rfl rfl

theorem xF (l:List Int) (k:Nat) (h:k < (jl (l.take 10)).length):(jl (l.take 10)).getD k JL=DH l k∧k < 10:=by
 have h1:k < (l.take 10).length:=by rw [lU] at h;exact h
 have h2:k < 10∧k < l.length:=by rw [List.length_take] at h1;omega
 refine ⟨?_,h2.1⟩
 unfold jl
 rw [List.getD_eq_getElem?_getD,List.getElem?_map,List.getElem?_eq_getElem h1,List.getElem_take]
 show iy (dO (l[k]) 100000000)=iy (dO (l.getD k 0) 100000000)
 rw [List.getD_eq_getElem?_getD,List.getElem?_eq_getElem h2.2];rfl

theorem IE (l:List Na) (k:Nat) (h:k < l.length) (j:Nat) (hj:j < 15):(Bn l)[k*15+j]? =(FU (l.getD k JL))[j]? :=by
 have e:l.getD k JL=l[k]:=by rw [List.getD_eq_getElem?_getD,List.getElem?_eq_getElem h];rfl
 rw [e];exact mO FU 15 (fun _=> rfl) l k j h hj
theorem yR (P Q:Pg) (dr:Int) (a:Na) (s:Ns):((s.up && !a.crash)=true→((dm P Q dr a s).2.repl=true→0≤a.wait∧(dm P Q dr a s).1.wait= -1)∧((dm P Q dr a s).2.repl=false→(dm P Q dr a s).1.wait=a.wait∧(dm P Q dr a s).2.value=0))∧((s.up && !a.crash)=false→(dm P Q dr a s).1.wait= -1):=by
 by_cases hu:s.up=false
 ·have e1:dm P Q dr a s=gS s (bM P Q s) (fF s) 1 3 dr a.tick a.draws:=by unfold dm;rw [if_pos hu]
  have hb:(s.up && !a.crash)=false:=by rw [hu];rfl
  rw [e1,hb]
  refine ⟨fun h=> (by cases h),fun _=> ?_⟩
  have h:=nZ (-1) (fG (cI s (bM P Q s) (fF s)) (bM P Q s) 0 1 3 dr a.tick (List.replicate 9 0) a.draws).acts ({ cI s (bM P Q s) (fF s) with clock:=cX s.clock dr a.tick,counts:=s.counts.set 0 (s.counts.getD 0 0+1),vol:=(fG (cI s (bM P Q s) (fF s)) (bM P Q s) 0 1 3 dr a.tick (List.replicate 9 0) a.draws).vars.drop (bM P Q s).d },{}) ⟨fun _=> ⟨rfl,rfl⟩,fun h=> by cases h⟩
  have h:((gS s (bM P Q s) (fF s) 1 3 dr a.tick a.draws).2.repl=false→(gS s (bM P Q s) (fF s) 1 3 dr a.tick a.draws).1.wait= -1∧(gS s (bM P Q s) (fF s) 1 3 dr a.tick a.draws).2.value=0)∧((gS s (bM P Q s) (fF s) 1 3 dr a.tick a.draws).2.repl=true→(gS s (bM P Q s) (fF s) 1 3 dr a.tick a.draws).1.wait= -1∧(0:Int)≤ -1):=h
  cases hr:(gS s (bM P Q s) (fF s) 1 3 dr a.tick a.draws).2.repl with
  | false=> exact (h.1 hr).1
  | true=> exact (h.2 hr).1
 have hu':s.up=true:=by simpa using hu
 by_cases hc:a.crash=true
 ·have e1:dm P Q dr a s=(kO s (keepB s.dk.pend.length a.keeps),{}):=by unfold dm;rw [if_neg hu,if_pos hc]
  have hb:(s.up && !a.crash)=false:=by rw [hu',hc];rfl
  rw [e1,hb]
  exact ⟨fun h=> (by cases h),fun _=> rfl⟩
 have hc':a.crash=false:=by simpa using hc
 have e1:dm P Q dr a s=dq { s with wait:=a.wait } (bM P Q s) a.h 1 3 dr a.tick a.names a.draws:=by unfold dm;rw [if_neg hu,if_neg hc]
 have hb:(s.up && !a.crash)=true:=by rw [hu',hc'];rfl
 rw [e1,hb]
 refine ⟨fun _=> ?_,fun h=> (by cases h)⟩
 have h:=nZ a.wait (fG { s with wait:=a.wait } (bM P Q s) a.h 1 3 dr a.tick a.names a.draws).acts ({ s with wait:=a.wait,clock:=cX s.clock dr a.tick,counts:=s.counts.set a.h (s.counts.getD a.h 0+1),vol:=(fG { s with wait:=a.wait } (bM P Q s) a.h 1 3 dr a.tick a.names a.draws).vars.drop (bM P Q s).d },{}) ⟨fun _=> ⟨rfl,rfl⟩,fun h=> by cases h⟩
 exact ⟨fun hr=> ⟨(h.2 hr).2,(h.2 hr).1⟩,fun hr=> h.1 hr⟩
set_option maxHeartbeats 4000000 in
theorem qZ (one:Int) (l:List Int) (hone: -9223372036854775808≤one∧one≤9223372036854775807) (hl:l.length≤4611686018427387904) (hr: ∀ x∈l, -9223372036854775808≤x∧x≤9223372036854775807):
  Spec Tryz.prog 15 (ba [.v (.int .i64 one), .sl l.length (cu l)] []) (aP (.v (.bool true)) []):=by
 have hac:=yH l hl hr
 have hnn:=rC
 have hA:=xF l
 have hgt:=IE (jl (l.take 10))
 have hga:=Dq (jl (l.take 10))
 obtain ⟨d,Lj⟩: ∃ d:Int,d=0:=⟨_,rfl⟩
 have hd:0≤d∧d≤3:=by omega
 have hP:=Ht one
 have hp:=CC one hone
 generalize LW one=P at hP hp
 generalize OQ one=tm at hP
 generalize jl (l.take 10)=A at hac hA hgt hga
 refine Spec.ofN Tryz.func15 rfl Tryz.ntmps15 rfl ?_
 refine am (cp rfl (aj (am (aX rfl (ai (aI aa al (hp) rfl rfl) ?_)))))
 refine ai (aD (5,0) aa rfl rfl) (bG rfl rfl rfl rfl rfl rfl (aj (am (eV rfl (ai (aI aa al (hac) rfl rfl) ?_)))))
 refine kE rfl (aj (am (ai (aI aa (by repeat' (exact cV)) (hnn) rfl rfl) ?_)))
 refine ai (aD (7,0) aa rfl rfl) (bG rfl rfl rfl rfl rfl rfl (aj (aU fun K5 hK5=> ?_)))
 refine am (be rfl (aj (ay ?_)))
 refine bu (α:=Nat×Ns) (fun z=> z.1≤A.length∧IQ P P tm tm z.1 z.2) 92 [(5,_),(6,_),(7,_)] [((5,0),_)] (fun z=> [(8, .v (.int .i64 (z.1:Int)))]) (fun z=> [((7,0), .box 83 [.v (.bool z.2.up), .v (.int .i64 (z.2.ver)), .v (.int .i64 (z.2.epoch)), .v (.int .i64 (z.2.clock)), .sl z.2.dk.cells.length (cu z.2.dk.cells), .sl z.2.dk.pend.length (lA z.2.dk.pend), .sl z.2.vol.length (cu z.2.vol), .sl z.2.timers.length (cu z.2.timers), .v (.int .i64 (cQ z.2 0)), .v (.int .i64 (cQ z.2 1)), .v (.int .i64 (cQ z.2 2)), .v (.int .i64 (cQ z.2 3)), .v (.int .i64 (cQ z.2 4)), .v (.int .i64 (cQ z.2 5)), .v (.int .i64 (cQ z.2 6)), .v (.int .i64 (cQ z.2 7)), .v (.int .i64 (cQ z.2 8)), .v (.int .i64 (cQ z.2 9)), .v (.int .i64 (cQ z.2 10)), .v (.int .i64 (cQ z.2 11)), .v (.int .i64 (cQ z.2 12)), .v (.int .i64 (cQ z.2 13)), .v (.int .i64 (cQ z.2 14)), .v (.int .i64 (cQ z.2 15)), .v (.int .i64 (cQ z.2 16)), .v (.int .i64 (cQ z.2 17)), .v (.int .i64 (cQ z.2 18)), .v (.int .i64 (cQ z.2 19)), .v (.int .i64 (cQ z.2 20)), .v (.int .i64 (cQ z.2 21)), .v (.int .i64 (cQ z.2 22)), .v (.int .i64 (cQ z.2 23)), .v (.int .i64 (cQ z.2 24)), .v (.int .i64 (cQ z.2 25)), .v (.int .i64 (cQ z.2 26)), .v (.int .i64 (cQ z.2 27)), .v (.int .i64 (cQ z.2 28)), .v (.int .i64 (cQ z.2 29)), .v (.int .i64 (cQ z.2 30)), .v (.int .i64 (cQ z.2 31)), .v (.int .i64 (cQ z.2 32)), .v (.int .i64 (cQ z.2 33)), .v (.int .i64 (cQ z.2 34)), .v (.int .i64 (cQ z.2 35)), .v (.int .i64 (cQ z.2 36)), .v (.int .i64 (cQ z.2 37)), .v (.int .i64 (cQ z.2 38)), .v (.int .i64 (cQ z.2 39)), .v (.int .i64 (cQ z.2 40)), .v (.int .i64 (z.2.wait)), .v (.int .i64 (0)), .v (.int .i64 (0))])]) [] [] (fun z=> A.length - z.1) (0,{}) ?_ (by
  refine Le.mkJ [] [] rfl ?_ ?_ trivial trivial ?_
  ·exact ⟨(iP rfl),(iS rfl),(iP rfl),(cr ag),trivial⟩
  ·exact ⟨(cm rfl rfl rfl),(fi rfl rfl rfl rfl lz),trivial⟩
  kernel_rfl) ?_
 ·exact ⟨Nat.zero_le _,GP P P tm tm⟩
 intro z hz
 obtain ⟨k,s⟩:=z
 obtain ⟨hz1,hs⟩:=hz
 simp only at hz1 hs ⊢
 refine aU fun K7 hK7=> ?_
 refine am (aX rfl (eV rfl (ai (bp _ aa rfl) (ai (bn _ _ rfl rfl rfl) (aj (aR rfl (fun hc21=> ?_) (fun hc21=> ?_)))))))
 ·skip
  obtain ⟨hAk,hk10⟩:=hA k ab
  have ga:=hga k ab
  have gt:=hgt k ab
  rw [hAk] at ga gt
  have hw:=Iv l k
  have hnx:=Hg hP hP hd ab hs hw
  have hsx:=Jk hP hP hd hw.ok ab hs
  have hwl:=Hb hsx
  have hnw:=yR P P d (DH l k) s
  generalize DH l k=a at*
  generalize dm P P d a s=X at*
  obtain ⟨s',r⟩:=X
  generalize hN a s=h at*
  generalize Kr a s=rc at hnx
  generalize Kk P P d a s=ro at hnx
  generalize fk s a h=tl at hnx
  generalize jp P P d a s=nq at hnx
  simp only at*
  have hcs:(s.up=true∧a.crash=true)∨(s.up=true∧a.crash=false)∨s.up=false:=by cases s.up <;> cases a.crash <;> simp
  rw [Lj] at hnx
  refine br (hK7 _ ?_)
  clear hK7;try clear K7
  refine aq (ay ?_)
  refine tJ (α:=Unit) (fun u=> True) 92 [(5,_),(6,_),(7,_),(8,_)] [((5,0),_),((7,0),_)] (fun u=> [(9, .v (.bool (s.up && !a.crash)))]) (fun u=> []) [] []
   (by exact ⟨(iP rfl),(iS rfl),(iP rfl),(iV rfl),trivial⟩)
   (by exact ⟨(cm rfl rfl rfl),(cm rfl rfl rfl),trivial⟩) ?_ ?_
  ·skip
   rcases hcs with ⟨hu1,hc1⟩ | ⟨hu1,hc1⟩ | hu1
   ·skip
    refine an (bb rfl rfl rfl (ai (aF _ aa rfl rfl (by exact congrArg (fun b=> some (AV.v (.bool b))) hu1)) ?_))
    refine cM rfl (ax rfl rfl (aH _ mm) (ax rfl rfl (aH _ ek) ?_))
    refine ax rfl rfl (bo _ _ aa rfl rfl _ rfl ab (by (simp only [aL,bf,bh,aL,ee,ig,fu,jF,gn];omega)) ag) ?_
    refine ax rfl rfl (cU _ aa rfl rfl) (ax rfl rfl (bO _ aa rfl (by exact gt 0 ab) rfl) ?_)
    refine ax rfl rfl (bB (r:=false) _ _ rfl rfl (by rw [hc1];rfl)) ?_
    refine ai (aC _ _ _ rfl bN) (cp rfl (aJ (⟨(),?_,?_⟩)))
    ·trivial
    refine Le.mkJ [] [] rfl ?_ ?_ trivial trivial ?_
    ·exact ⟨(iP rfl),(iS rfl),(iP rfl),(iV rfl),(mz (by (rw [hu1,hc1];rfl))),trivial⟩
    ·exact ⟨(cm rfl rfl rfl),(cm rfl rfl rfl),trivial⟩
    kernel_rfl
   ·skip
    refine an (bb rfl rfl rfl (ai (aF _ aa rfl rfl (by exact congrArg (fun b=> some (AV.v (.bool b))) hu1)) ?_))
    refine cM rfl (ax rfl rfl (aH _ mm) (ax rfl rfl (aH _ ek) ?_))
    refine ax rfl rfl (bo _ _ aa rfl rfl _ rfl ab (by (simp only [aL,bf,bh,aL,ee,ig,fu,jF,gn];omega)) ag) ?_
    refine ax rfl rfl (cU _ aa rfl rfl) (ax rfl rfl (bO _ aa rfl (by exact gt 0 ab) rfl) ?_)
    refine ax rfl rfl (bB (r:=true) _ _ rfl rfl (by rw [hc1];rfl)) ?_
    refine ai (aC _ _ _ rfl bN) (cp rfl (aJ (⟨(),?_,?_⟩)))
    ·trivial
    refine Le.mkJ [] [] rfl ?_ ?_ trivial trivial ?_
    ·exact ⟨(iP rfl),(iS rfl),(iP rfl),(iV rfl),(mz (by (rw [hu1,hc1];rfl))),trivial⟩
    ·exact ⟨(cm rfl rfl rfl),(cm rfl rfl rfl),trivial⟩
    kernel_rfl
   refine an (bb rfl rfl rfl (ai (aF _ aa rfl rfl (by exact congrArg (fun b=> some (AV.v (.bool b))) hu1)) ?_))
   refine cM rfl (aO rfl rfl ah ?_)
   refine aO rfl rfl ah ?_
   refine aO rfl rfl ah ?_
   refine aO rfl rfl ah ?_
   refine aO rfl rfl ah ?_
   refine aO rfl rfl ah ?_
   refine ai (aC _ _ _ rfl bN) (cp rfl (aJ (⟨(),?_,?_⟩)))
   ·trivial
   refine Le.mkJ [] [] rfl ?_ ?_ trivial trivial ?_
   ·exact ⟨(iP rfl),(iS rfl),(iP rfl),(iV rfl),(mz (by (rw [hu1];rfl))),trivial⟩
   ·exact ⟨(cm rfl rfl rfl),(cm rfl rfl rfl),trivial⟩
   kernel_rfl
  intro u hu
  generalize (s.up && !a.crash)=hb at*
  refine aq (py 16 [35,36,37,38,39,40,41,42,34,43,44,45,10,11] [(42,0),(42,1),(10,0),(11,0),(10,0),(11,0)] ae ae rfl (rfl:_=[_,_,_,_,_,_,_,_,_,_,_,_,_,_,_,_]) (rfl:_=[_]) ?_)
  refine cF (_,[]) (fun τ=> az _ aa rfl rfl rfl rfl) ?_
  refine cE (rfl:_=[_]) ?_
  refine cF (_,[]) (fun τ=> az _ aa rfl rfl rfl rfl) ?_
  refine cE (rfl:_=[_,_]) ?_
  refine cF (_,[]) (fun τ=> az _ aa rfl rfl rfl rfl) ?_
  refine cE (rfl:_=[_,_,_]) ?_
  refine cF (_,[]) (fun τ=> aH _ mm) ?_
  refine cE (rfl:_=[_,_,_,_]) ?_
  refine cF (_,[]) (fun τ=> aH _ ek) ?_
  refine cE (rfl:_=[_,_,_,_,_]) ?_
  refine cF (_,[]) (fun τ=> bo _ _ aa rfl rfl _ rfl ab (by (simp only [aL,bf,bh,aL,ee,ig,fu,jF,gn];omega)) ag) ?_
  refine cE (rfl:_=[_,_,_,_,_,_]) ?_
  refine cF (_,[]) (fun τ=> cg _ aa rfl (by exact ga) rfl) ?_
  refine cE (rfl:_=[_,_,_,_,_,_,_]) ?_
  refine cF (_,[((42,0),_),((42,1),_)]) (fun τ=> (bY aa [((4,8),(42,0)),((5,8),(42,1))] ar (hnx.toI) trivial tr tr rfl rfl ae ae)) ?_
  refine cE (rfl:_=[_,_,_,_,_,_,_,_]) ?_
  refine cF (_,[]) (fun τ=> aH _ tN) ?_
  refine cE (rfl:_=[_,_,_,_,_,_,_,_,_]) ?_
  refine cF (_,[]) (fun τ=> cq _ rfl pE) ?_
  refine cE (rfl:_=[_,_,_,_,_,_,_,_,_,_]) ?_
  refine cF (_,[]) (fun τ=> cq _ rfl pE) ?_
  refine cE (rfl:_=[_,_,_,_,_,_,_,_,_,_,_]) ?_
  refine cF (_,[]) (fun τ=> cq _ rfl (rfl:_=some (AV.ptr _ _))) ?_
  refine cE (rfl:_=[_,_,_,_,_,_,_,_,_,_,_,_]) ?_
  refine cF (_,[((10,0),_)]) (fun τ=> aD (10,0) aa rfl rfl) ?_
  refine cE (rfl:_=[_,_,_,_,_,_,_,_,_,_,_,_,_]) ?_
  refine cF (_,[((11,0),_)]) (fun τ=> aD (11,0) aa rfl rfl) ?_
  refine cE (rfl:_=[_,_,_,_,_,_,_,_,_,_,_,_,_,_]) ?_
  refine cF (_,[((10,0),_)]) (fun τ=> dF _ _ aa rfl rfl rfl rfl (Nat.le_of_ble_eq_true rfl) rfl) ?_
  refine cE (rfl:_=[_,_,_,_,_,_,_,_,_,_,_,_,_,_,_]) ?_
  refine cF (_,[((11,0),_)]) (fun τ=> dF _ _ aa rfl rfl rfl rfl (Nat.le_of_ble_eq_true rfl) rfl) ?_
  refine cE (rfl:_=[_,_,_,_,_,_,_,_,_,_,_,_,_,_,_,_]) ?_
  refine nQ ⟨⟨rfl,by kernel_rfl,by kernel_rfl⟩,?_⟩
  refine vM rfl (aj (aq (aq ?_)))
  refine aN (σ':=aE 92 [(5,_),(6,_),(7,_),(8,_),(9,_),(10,_),(11,_)] [((5,0),_),((7,0),_),((10,0),_),((11,0),_)] [] []) (by
   refine Le.mkJ [] [] rfl ?_ ?_ trivial trivial ?_
   ·exact ⟨(iP rfl),(iS rfl),(iP rfl),(iV rfl),(by exact iV rfl),(iP rfl),(iP rfl),trivial⟩
   ·exact ⟨(cm rfl rfl rfl),(cm rfl rfl rfl),(cm rfl rfl rfl),(cm rfl rfl rfl),trivial⟩
   kernel_rfl) ?_
  refine an (ai (az _ aa rfl rfl rfl rfl) (ai (az _ aa rfl rfl rfl rfl) (ai (az _ aa rfl rfl rfl rfl) (ai (aI aa al (hwl) rfl rfl) ?_))))
  refine ai (co _ rfl rfl) (aj (aW rfl rfl (aS (aU fun K13 hK13=> ?_))))
  refine am (cM rfl (aj (aR rfl (fun hc51=> ?_) (fun hc51=> ?_))))
  ·skip
   obtain ⟨hw1,hw2⟩:=hnw.1 hc51
   refine aq ?_
   rcases Bool.eq_false_or_eq_true r.repl with hrp | hrp
   ·skip
    refine aN (σ':=aE 92 [(5,_),(6,_),(7,_),(8,_),(10,_),(11,_)] [((5,0),_),((7,0),_),((10,0),_),((11,0),_)] [] []) kp ?_
    refine bK 35 [52,53,54,55,56,57,58,59,60,61,62,63,64,65,66,67,68,69,70,71,72,73,74,75,76,77,78,79,80,81,82,83,84,85,86] [] ae ae rfl (aK rfl) (rfl:_=[_,_,_,_,_,_,_,_,_,_,_,_,_,_,_,_,_,_,_,_,_,_,_,_,_,_,_,_,_,_,_,_,_,_,_]) (rfl:_=[]) ?_
    refine ap (_,[]) (fun τ=> aA _ aa rfl rfl rfl) ?_
    refine fB rfl ?_
    refine ap (_,[]) (fun τ=> aF _ aa rfl rfl (by exact congrArg (fun b=> some (AV.v (.bool b))) hrp)) ?_
    refine fH rfl ?_
    refine ap (_,[]) (fun τ=> aH _ bN) ?_
    refine fQ rfl ?_
    refine bm (_,[]) rfl (fun τ=> rfl) (fun τ=> aH _ mm) ?_
    refine fV rfl ?_
    refine bm (_,[]) rfl (fun τ=> rfl) (fun τ=> aH _ ek) ?_
    refine gd rfl ?_
    refine bm (_,[]) rfl (fun τ=> rfl) (fun τ=> bo _ _ aa rfl rfl _ rfl ab (by (simp only [aL,bf,bh,aL,ee,ig,fu,jF,gn];omega)) ag) ?_
    refine gV rfl ?_
    refine bm (_,[]) rfl (fun τ=> rfl) (fun τ=> cU _ aa rfl rfl) ?_
    refine iG rfl ?_
    refine bm (_,[]) rfl (fun τ=> rfl) (fun τ=> bO _ aa rfl (by exact gt 11 ab) rfl) ?_
    refine jO rfl ?_
    refine bm (_,[]) rfl (fun τ=> rfl) (fun τ=> bn (r:=false) _ _ rfl rfl (decide_eq_false (by have:=(hw1 hrp).1;omega))) ?_
    refine jW rfl ?_
    refine bm (_,[]) rfl (fun τ=> rfl) (fun τ=> aH _ bN) ?_
    refine fE rfl ?_
    refine bm (_,[]) rfl (fun τ=> rfl) (fun τ=> aA _ aa rfl rfl rfl) ?_
    refine gf rfl ?_
    refine bm (_,[]) rfl (fun τ=> rfl) (fun τ=> aF _ aa rfl rfl ei) ?_
    refine jV rfl ?_
    refine bm (_,[]) rfl (fun τ=> rfl) (fun τ=> bT (r:=false) _ _ rfl rfl (by rw [(hw1 hrp).2];rfl)) ?_
    refine li rfl ?_
    refine bm (_,[]) rfl (fun τ=> rfl) (fun τ=> aC _ _ _ rfl bN) ?_
    refine nR rfl ?_
    refine ap (_,[]) (fun τ=> aC _ _ _ rfl bN) ?_
    refine sP rfl ?_
    refine ap (_,[]) (fun τ=> aH _ bN) ?_
    refine sy rfl ?_
    refine bm (_,[]) rfl (fun τ=> rfl) (fun τ=> aA _ aa rfl rfl rfl) ?_
    refine ut rfl ?_
    refine bm (_,[]) rfl (fun τ=> rfl) (fun τ=> aF _ aa rfl rfl (by exact congrArg (fun b=> some (AV.v (.bool b))) hrp)) ?_
    refine vL rfl ?_
    refine bm (_,[]) rfl (fun τ=> rfl) (fun τ=> co _ rfl rfl) ?_
    refine vW rfl ?_
    refine bm (_,[]) rfl (fun τ=> rfl) (fun τ=> aH _ bN) ?_
    refine yp rfl ?_
    refine bW rfl (fun τ=> rfl) ah ?_
    refine yd rfl ?_
    refine bW rfl (fun τ=> rfl) ah ?_
    refine xY rfl ?_
    refine bW rfl (fun τ=> rfl) ah ?_
    refine yy rfl ?_
    refine bW rfl (fun τ=> rfl) ah ?_
    refine zi rfl ?_
    refine bW rfl (fun τ=> rfl) ah ?_
    refine zr rfl ?_
    refine bW rfl (fun τ=> rfl) ah ?_
    refine yg rfl ?_
    refine bW rfl (fun τ=> rfl) ah ?_
    refine yV rfl ?_
    refine bW rfl (fun τ=> rfl) ah ?_
    refine yQ rfl ?_
    refine bW rfl (fun τ=> rfl) ah ?_
    refine Jt rfl ?_
    refine oz rfl (fun τ=> rfl) ?_
    refine Jo rfl ?_
    refine oz rfl (fun τ=> rfl) ?_
    refine mq (rfl:_=[_,_,_,_,_,_,_,_,_,_,_,_,_,_,_,_,_,_,_,_,_,_,_,_,_,_,_,_,_,_,_]) ?_
    refine oz rfl (fun τ=> rfl) ?_
    refine mq (rfl:_=[_,_,_,_,_,_,_,_,_,_,_,_,_,_,_,_,_,_,_,_,_,_,_,_,_,_,_,_,_,_,_,_]) ?_
    refine bW rfl (fun τ=> rfl) ah ?_
    refine mq (rfl:_=[_,_,_,_,_,_,_,_,_,_,_,_,_,_,_,_,_,_,_,_,_,_,_,_,_,_,_,_,_,_,_,_,_]) ?_
    refine bm (_,[]) rfl (fun τ=> rfl) (fun τ=> aC _ _ _ rfl bN) ?_
    refine mq (rfl:_=[_,_,_,_,_,_,_,_,_,_,_,_,_,_,_,_,_,_,_,_,_,_,_,_,_,_,_,_,_,_,_,_,_,_]) ?_
    refine ap (_,[]) (fun τ=> aC _ _ _ rfl bN) ?_
    refine mq (rfl:_=[_,_,_,_,_,_,_,_,_,_,_,_,_,_,_,_,_,_,_,_,_,_,_,_,_,_,_,_,_,_,_,_,_,_,_]) ?_
    refine bl ⟨rfl,?_⟩
    refine aj (aW rfl rfl (br (hK13 _ ?_)))
    clear hK13;try clear K13
    refine aN (σ':=aE 92 [(5,_),(6,_),(7,_),(8,_),(10,_)] [((5,0),_),((7,0),_),((10,0),_)] [] []) kp ?_
    refine an (ai (az _ aa rfl rfl rfl rfl) (bG rfl rfl rfl rfl rfl rfl (dY (an (aX rfl (ai (aZ _ _ rfl rfl (bF ab)) ?_))))))
    refine be rfl (aJ (⟨(k+1,s'),?_,?_,?_⟩))
    ·exact ⟨by omega,hsx⟩
    ·skip
     refine Le.mkJ [] [] rfl ?_ ?_ trivial trivial ?_
     ·exact ⟨(iP rfl),(iS rfl),(iP rfl),(cr ag),trivial⟩
     ·exact ⟨(cm rfl rfl rfl),(fi rfl rfl rfl rfl lz),trivial⟩
     kernel_rfl
    omega
   refine aN (σ':=aE 92 [(5,_),(6,_),(7,_),(8,_),(10,_),(11,_)] [((5,0),_),((7,0),_),((10,0),_),((11,0),_)] [] []) kp ?_
   refine bK 35 [52,53,54,55,56,57,58,59,60,61,62,63,64,65,66,67,68,69,70,71,72,73,74,75,76,77,78,79,80,81,82,83,84,85,86] [] ae ae rfl (aK rfl) (rfl:_=[_,_,_,_,_,_,_,_,_,_,_,_,_,_,_,_,_,_,_,_,_,_,_,_,_,_,_,_,_,_,_,_,_,_,_]) (rfl:_=[]) ?_
   refine ap (_,[]) (fun τ=> aA _ aa rfl rfl rfl) ?_
   refine fB rfl ?_
   refine ap (_,[]) (fun τ=> aF _ aa rfl rfl (by exact congrArg (fun b=> some (AV.v (.bool b))) hrp)) ?_
   refine fH rfl ?_
   refine ap (_,[]) (fun τ=> aH _ bN) ?_
   refine fQ rfl ?_
   refine bW rfl (fun τ=> rfl) ah ?_
   refine fV rfl ?_
   refine bW rfl (fun τ=> rfl) ah ?_
   refine gd rfl ?_
   refine bW rfl (fun τ=> rfl) ah ?_
   refine gV rfl ?_
   refine bW rfl (fun τ=> rfl) ah ?_
   refine iG rfl ?_
   refine bW rfl (fun τ=> rfl) ah ?_
   refine jO rfl ?_
   refine bW rfl (fun τ=> rfl) ah ?_
   refine jW rfl ?_
   refine bW rfl (fun τ=> rfl) ah ?_
   refine fE rfl ?_
   refine oz rfl (fun τ=> rfl) ?_
   refine gf rfl ?_
   refine oz rfl (fun τ=> rfl) ?_
   refine jV rfl ?_
   refine oz rfl (fun τ=> rfl) ?_
   refine li rfl ?_
   refine bW rfl (fun τ=> rfl) ah ?_
   refine nR rfl ?_
   refine ap (_,[]) (fun τ=> aC _ _ _ rfl bN) ?_
   refine sP rfl ?_
   refine ap (_,[]) (fun τ=> aH _ bN) ?_
   refine sy rfl ?_
   refine bm (_,[]) rfl (fun τ=> rfl) (fun τ=> aA _ aa rfl rfl rfl) ?_
   refine ut rfl ?_
   refine bm (_,[]) rfl (fun τ=> rfl) (fun τ=> aF _ aa rfl rfl (by exact congrArg (fun b=> some (AV.v (.bool b))) hrp)) ?_
   refine vL rfl ?_
   refine bm (_,[]) rfl (fun τ=> rfl) (fun τ=> co _ rfl rfl) ?_
   refine vW rfl ?_
   refine bm (_,[]) rfl (fun τ=> rfl) (fun τ=> aH _ bN) ?_
   refine yp rfl ?_
   refine bm (_,[]) rfl (fun τ=> rfl) (fun τ=> aA _ aa rfl rfl rfl) ?_
   refine yd rfl ?_
   refine bm (_,[]) rfl (fun τ=> rfl) (fun τ=> aF _ aa rfl rfl ei) ?_
   refine xY rfl ?_
   refine bm (_,[]) rfl (fun τ=> rfl) (fun τ=> aH _ mm) ?_
   refine yy rfl ?_
   refine bm (_,[]) rfl (fun τ=> rfl) (fun τ=> aH _ ek) ?_
   refine zi rfl ?_
   refine bm (_,[]) rfl (fun τ=> rfl) (fun τ=> bo _ _ aa rfl rfl _ rfl ab (by (simp only [aL,bf,bh,aL,ee,ig,fu,jF,gn];omega)) ag) ?_
   refine zr rfl ?_
   refine bm (_,[]) rfl (fun τ=> rfl) (fun τ=> cU _ aa rfl rfl) ?_
   refine yg rfl ?_
   refine bm (_,[]) rfl (fun τ=> rfl) (fun τ=> bO _ aa rfl (by exact gt 11 ab) rfl) ?_
   refine yV rfl ?_
   refine bm (_,[]) rfl (fun τ=> rfl) (fun τ=> bT (r:=false) _ _ rfl rfl (by rw [(hw2 hrp).1];exact bne_self_eq_false _)) ?_
   refine yQ rfl ?_
   refine bm (_,[]) rfl (fun τ=> rfl) (fun τ=> aH _ bN) ?_
   refine Jt rfl ?_
   refine bm (_,[]) rfl (fun τ=> rfl) (fun τ=> aA _ aa rfl rfl rfl) ?_
   refine Jo rfl ?_
   refine bm (_,[]) rfl (fun τ=> rfl) (fun τ=> aF _ aa rfl rfl ei) ?_
   refine mq (rfl:_=[_,_,_,_,_,_,_,_,_,_,_,_,_,_,_,_,_,_,_,_,_,_,_,_,_,_,_,_,_,_,_]) ?_
   refine bm (_,[]) rfl (fun τ=> rfl) (fun τ=> bT (r:=false) _ _ rfl rfl (by rw [(hw2 hrp).2];rfl)) ?_
   refine mq (rfl:_=[_,_,_,_,_,_,_,_,_,_,_,_,_,_,_,_,_,_,_,_,_,_,_,_,_,_,_,_,_,_,_,_]) ?_
   refine bm (_,[]) rfl (fun τ=> rfl) (fun τ=> aC _ _ _ rfl bN) ?_
   refine mq (rfl:_=[_,_,_,_,_,_,_,_,_,_,_,_,_,_,_,_,_,_,_,_,_,_,_,_,_,_,_,_,_,_,_,_,_]) ?_
   refine bm (_,[]) rfl (fun τ=> rfl) (fun τ=> aC _ _ _ rfl bN) ?_
   refine mq (rfl:_=[_,_,_,_,_,_,_,_,_,_,_,_,_,_,_,_,_,_,_,_,_,_,_,_,_,_,_,_,_,_,_,_,_,_]) ?_
   refine ap (_,[]) (fun τ=> aC _ _ _ rfl bN) ?_
   refine mq (rfl:_=[_,_,_,_,_,_,_,_,_,_,_,_,_,_,_,_,_,_,_,_,_,_,_,_,_,_,_,_,_,_,_,_,_,_,_]) ?_
   refine bl ⟨rfl,?_⟩
   refine aj (aW rfl rfl (br (hK13 _ ?_)))
   clear hK13;try clear K13
   refine aN (σ':=aE 92 [(5,_),(6,_),(7,_),(8,_),(10,_)] [((5,0),_),((7,0),_),((10,0),_)] [] []) kp ?_
   refine an (ai (az _ aa rfl rfl rfl rfl) (bG rfl rfl rfl rfl rfl rfl (dY (an (aX rfl (ai (aZ _ _ rfl rfl (bF ab)) ?_))))))
   refine be rfl (aJ (⟨(k+1,s'),?_,?_,?_⟩))
   ·exact ⟨by omega,hsx⟩
   ·skip
    refine Le.mkJ [] [] rfl ?_ ?_ trivial trivial ?_
    ·exact ⟨(iP rfl),(iS rfl),(iP rfl),(cr ag),trivial⟩
    ·exact ⟨(cm rfl rfl rfl),(fi rfl rfl rfl rfl lz),trivial⟩
    kernel_rfl
   omega
  have hw3:=hnw.2 hc51
  refine am (bb rfl rfl rfl (cf rfl rfl rfl (ai (bT (r:=false) _ _ rfl rfl (by rw [hw3];rfl)) ?_)))
  refine aj (aW rfl rfl (br (hK13 _ ?_)))
  clear hK13;try clear K13
  refine an (ai (az _ aa rfl rfl rfl rfl) (bG rfl rfl rfl rfl rfl rfl (dY (an (aX rfl (ai (aZ _ _ rfl rfl (bF ab)) ?_))))))
  refine be rfl (aJ (⟨(k+1,s'),?_,?_,?_⟩))
  ·exact ⟨by omega,hsx⟩
  ·skip
   refine Le.mkJ [] [] rfl ?_ ?_ trivial trivial ?_
   ·exact ⟨(iP rfl),(iS rfl),(iP rfl),(cr ag),trivial⟩
   ·exact ⟨(cm rfl rfl rfl),(fi rfl rfl rfl rfl lz),trivial⟩
   kernel_rfl
  omega
 refine bD (id (hK5 _ ?_))
 clear hK5;try clear K5
 refine am (ai (aI aa (by repeat' (exact cV)) (FQ) rfl rfl) ?_)
 exact cp rfl (aj (aG (fq rfl rfl)))
theorem px (one:Int) (hone: -9223372036854775808≤one∧one≤9223372036854775807) (n0:Nat) (l:List Int) (h0:l.length=n0) (g0:n0≤4611686018427387904) (r0:Rng l):
  Spec Tryz.prog 15 (ba [.v (.int .i64 one), .sl n0 (cu l)] []) (aP (.v (.bool true)) []):=by
 subst h0
 exact qZ one l hone g0 r0
end Go.Proofs.YtmjnackchaahbaaGreat
