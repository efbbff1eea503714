/- part 18 -/
import Derived.Test.YtmjnackchaahbaaGreatNsZ17
set_option linter.unusedSimpArgs false
set_option linter.unusedVariables false
namespace Go.Proofs.YtmjnackchaahbaaGreat
open Go.RowKit

theorem ww {names:List Int} (hl:names.length=9) (self nodes clock:Int):(eu names self nodes clock).getD 0 0=self∧(eu names self nodes clock).getD 1 0=nodes∧(eu names self nodes clock).getD 2 0=clock∧
  (eu names self nodes clock).getD 3 0=names.getD 3 0∧(eu names self nodes clock).getD 4 0=names.getD 4 0∧(eu names self nodes clock).getD 5 0=names.getD 5 0∧(eu names self nodes clock).getD 6 0=names.getD 6 0∧(eu names self nodes clock).getD 7 0=names.getD 7 0∧(eu names self nodes clock).getD 8 0=names.getD 8 0:=by
 match names,hl with
 | [a,b,c,d,e,f,g,h,i],_=> exact ⟨rfl,rfl,rfl,rfl,rfl,rfl,rfl,rfl,rfl⟩
structure HdOk (P:Pg) (tm:Int) (s:Ns):Prop where
 pg:pB P
 cl:P.c.length≤1000000
 tc:TmC P.c tm=true
 ns:rz P s
 tl:pM tm s.timers
 cb: ∀ k, -1000000≤s.counts.getD k 0∧s.counts.getD k 0≤1000000
 ck: -1000000≤s.clock∧s.clock≤1000000
theorem HdOk.sm {P:Pg} {tm:Int} {s:Ns} (h:HdOk P tm s):js s∧iJ s.dk:=by
 have h1:=h.ns.dk.len
 have h2:=h.ns.dk.pn
 have h3:=h.ns.vl
 have h4:=h.pg.nv
 refine ⟨⟨by omega,by omega,by omega,?_⟩,fun w hw=> ?_⟩
 ·rcases h.tl with h | h <;> rw [h] <;> simp
 obtain ⟨b1,b2,_⟩:=h.ns.dk.pr w hw
 exact ⟨b1,by omega⟩
abbrev NG (t:Tl) (np:Nat) (pre:List PV):Tl:={ t with np:=np,pre:=pre }
theorem Bd {clock drift tick:Int} (h:drift≤0):cX clock drift tick=clock+1:=by unfold cX;rw [if_neg ab,Int.add_zero]
theorem Aa {clock drift tick:Int} (h:0 < drift):cX clock drift tick=clock+1+tick % (drift+1):=by unfold cX;rw [if_pos h]
abbrev gI (s:Ns) (P:Pg) (h:Nat) (self nodes drift tick:Int) (names ans:List Int):Ms:=pz P h (eu names self nodes (cX s.clock drift tick)) (s.dk.view++s.vol) ans
theorem ux (s:Ns) (P:Pg) (h:Nat) (self nodes drift tick:Int) (names ans:List Int):cT s h (cX s.clock drift tick) P (gI s P h self nodes drift tick names ans) (gI s P h self nodes drift tick names ans).acts.length=dw s P h self nodes drift tick names ans:=by
 obtain ⟨h1,h2,_⟩:=pN P h (eu names self nodes (cX s.clock drift tick)) (s.dk.view++s.vol) ans
 show ((gI s P h self nodes drift tick names ans).acts.take (gI s P h self nodes drift tick names ans).acts.length).foldl eg (On s h (cX s.clock drift tick) ((gI s P h self nodes drift tick names ans).vars.drop P.d),{})=_
 rw [List.take_length]
 unfold dw
 show _=(jP P h (eu names self nodes (cX s.clock drift tick)) (s.dk.view++s.vol) ans).acts.foldl eg _
 rw [← h1,show (gl s P h self nodes drift tick names ans).vars=(gI s P h self nodes drift tick names ans).vars from h2.symm]
def pv (t:Tl) (drift tick:Int):List PV:=if 0 < drift then vI t 2 0 (drift+1) (tick % (drift+1)) else []
def pu (drift:Int):Nat:=if 0 < drift then 1 else 0
theorem rL (P:Pg) (tm:Int) (s:Ns) (hs:HdOk P tm s) (h:Nat) (hh:h < 40) (self nodes drift tick:Int) (names ans:List Int) (mq:names.length=9) (hn: ∀ i,Rg (names.getD i 0)) (h1:Rg self) (h2:Rg nodes) (h3:Rg (cX s.clock drift tick)) (hdr:0≤drift∧drift≤1000) (t:Tl)
  (hlk:0 < drift→rE t 2 0 (drift+1) (tick % (drift+1))) (hld: ∀ (i:Nat) (k:Int),i≤100000→2≤k→k≤4→rE t 1 (i:Int) k (gi ans i k)) (R:Ms) (hR:R=gI s P h self nodes drift tick names ans) (n0:Nat) (L0:List PV) (hn0:n0≤10) (hL0:L0.length=n0*7) (h00:0 < drift→n0=0∧L0=[]):
  Spec Tryz.prog 81 (aY [jC s,hG P, .v (.int .i64 (h:Int)), .v (.int .i64 self), .v (.int .i64 nodes), .v (.int .i64 drift),DN names,jb] (oh t n0 L0 (5,9)))
   (iB ⟨self,(h:Int),s.counts.getD h 0⟩ R (dw s P h self nodes drift tick names ans) t (n0+pu drift+R.asked.length) (L0++pv t drift tick++tS t ans R.asked)):=by
 obtain ⟨hsm,hin⟩:=hs.sm
 have hpn:=hs.pg.nv
 obtain ⟨v1,v2⟩:=hs.ns.dk.view
 have hvl:=hs.ns.vl
 have hiv:(s.dk.view++s.vol).length=P.d+P.v:=by rw [List.length_append,v1,hvl]
 have hir: ∀ v∈s.dk.view++s.vol,Rg v:=fun v hv=> (List.mem_append.1 hv).elim (v2 v) (hs.ns.vr v)
 have wN:=rG hn h1 h2 h3
 obtain ⟨a1,a2,a3⟩:=pN P h (eu names self nodes (cX s.clock drift tick)) (s.dk.view++s.vol) ans
 obtain ⟨iv,_,_⟩:=tX hs.pg (h:=h) (names:=eu names self nodes (cX s.clock drift tick)) (vars:=s.dk.view++s.vol) (ans:=ans) wN hiv hir
 have hRv:R.vars.length=P.d+P.v:=by rw [hR];show (pz _ _ _ _ _).vars.length=_;rw [a2];exact iv.vl
 have hRa:R.acts.length≤500:=by rw [hR];exact xJ _ _ _ _ _
 have hac: ∀ a∈R.acts,wY tm a∧Rg a.b:=fun a ha=> by
  rw [hR] at ha
  have ha:a∈(jP P h (eu names self nodes (cX s.clock drift tick)) (s.dk.view++s.vol) ans).acts:=a1 ▸ ha
  obtain ⟨⟨_,q1,_,_⟩,_,_⟩:=iv.ac a ha
  exact ⟨uQ hs.tc _ _ _ _ a ha,q1⟩
 have hq:=Jp ⟨self,(h:Int),s.counts.getD h 0⟩ (h:=h) (ck:=cX s.clock drift tick) (P:=P) (R:=R) (TmC.rg hs.tc) hac hs.tl hs.ns.dk ab ab hRa
 obtain ⟨g0,g1,g2,g3,g4,g5,g6,g7,g8⟩:=ww mq self nodes (cX s.clock drift tick)
 have hrun:=fun (t':Tl) (ht:yU ⟨P,s.dk.view++s.vol,eu names self nodes (cX s.clock drift tick),ans,t'⟩)=> Ka P hs.pg hs.cl h hh (eu names self nodes (cX s.clock drift tick)) (s.dk.view++s.vol) ans wN hiv hir t' ht R hR
 rw [g0,g1,g2,g3,g4,g5,g6,g7,g8] at hrun
 rw [← ux,← hR]
 by_cases hd:0 < drift
 ·obtain ⟨rfl,rfl⟩:=h00 hd
  have hmod:0≤tick % (drift+1)∧tick % (drift+1) < drift+1:=⟨Int.emod_nonneg _ ab,Int.emod_lt_of_pos _ ab⟩
  have hv:=hrun (NG t 1 (vI t 2 0 (drift+1) (tick % (drift+1)))) ⟨by show 1≤10;omega,rfl,fun i k x y z=> hld i k x y z⟩
  rw [Aa hd] at hv hq ⊢
  rw [show pv t drift tick=vI t 2 0 (drift+1) (tick % (drift+1)) from if_pos hd,show pu drift=1 from if_pos hd,Nat.zero_add,List.nil_append]
  exact Ri s hsm hin hs.ns.ct P h hh self nodes drift (tick % (drift+1)) names t hd (hlk hd) ⟨hmod.1,by omega⟩ ab hs.cb hs.ck R (tS t ans R.asked) hv ab ab hRa hq
 have hv:=hrun (NG t n0 L0) ⟨hn0,hL0,fun i k x y z=> hld i k x y z⟩
 rw [Bd ab] at hv hq ⊢
 rw [show pv t drift tick=[] from if_neg hd,show pu drift=0 from if_neg hd,Nat.add_zero,List.append_nil]
 exact KZ s hsm hin hs.ns.ct P h hh self nodes drift 0 names t n0 L0 ab hs.cb hs.ck R (tS t ans R.asked) hv ab ab hRa hq
theorem uV (P:Pg) (tm:Int) (s:Ns) (hs:HdOk P tm s) (h:Nat) (hh:h < 40) (self nodes drift tick:Int) (names ans:List Int) (mq:names.length=9) (hn: ∀ i,Rg (names.getD i 0)) (h1:Rg self) (h2:Rg nodes) (h3:Rg (cX s.clock drift tick)) (hdr:0≤drift∧drift≤1000) (t:Tl)
  (hlk:0 < drift→rE t 2 0 (drift+1) (tick % (drift+1))) (hld: ∀ (i:Nat) (k:Int),i≤100000→2≤k→k≤4→rE t 1 (i:Int) k (gi ans i k)) (R:Ms) (hR:R=gI s P h self nodes drift tick names ans):
  Spec Tryz.prog 81 (aY [jC s,hG P, .v (.int .i64 (h:Int)), .v (.int .i64 self), .v (.int .i64 nodes), .v (.int .i64 drift),DN names,jb] (oh t 0 [] (5,9)))
   (iB ⟨self,(h:Int),s.counts.getD h 0⟩ R (dw s P h self nodes drift tick names ans) t (pu drift+R.asked.length) (pv t drift tick++tS t ans R.asked)):=by
 have:=rL P tm s hs h hh self nodes drift tick names ans mq hn h1 h2 h3 hdr t hlk hld R hR 0 [] (Nat.zero_le _) rfl (fun _=> ⟨rfl,rfl⟩)
 rwa [Nat.zero_add,List.nil_append] at this

theorem Ik (i:Nat):Rg ((List.replicate 9 (0:Int)).getD i 0):=by
 by_cases hi:i < 9
 ·rw [List.getD_eq_getElem?_getD,List.getElem?_replicate,if_pos hi];exact og
 rw [List.getD_eq_getElem?_getD,List.getElem?_replicate,if_neg hi];exact og
theorem uc (P:Pg) (tm:Int) (s:Ns) (hs:js s) (ho:iJ s.dk) (ver:Int) (hb:HdOk P tm (cA s P ver)) (self nodes drift tick:Int) (ans:List Int) (h1:Rg self) (h2:Rg nodes) (h3:Rg (cX s.clock drift tick)) (hdr:0≤drift∧drift≤1000) (t:Tl)
  (hlk:0 < drift→rE t 2 0 (drift+1) (tick % (drift+1))) (hld: ∀ (i:Nat) (k:Int),i≤100000→2≤k→k≤4→rE t 1 (i:Int) k (gi ans i k)) (R:Ms) (hR:R=gI (cA s P ver) P 0 self nodes drift tick (List.replicate 9 0) ans) (n0:Nat) (L0:List PV) (hn0:n0≤10) (hL0:L0.length=n0*7) (h00:0 < drift→n0=0∧L0=[]):
  Spec Tryz.prog 56 (aY [jC s,hG P, .v (.int .i64 ver), .v (.int .i64 self), .v (.int .i64 nodes), .v (.int .i64 drift),jb] (oh t n0 L0 (5,9)))
   (iB ⟨self,((0:Nat):Int),s.counts.getD 0 0⟩ R (gW s P ver self nodes drift tick ans) t (n0+pu drift+R.asked.length) (L0++pv t drift tick++tS t ans R.asked)):=by
 have hpn:=hb.pg.nv
 have hH:=rL P tm (cA s P ver) hb 0 ab self nodes drift tick (List.replicate 9 0) ans rfl Ik h1 h2 h3 hdr t hlk hld R hR n0 L0 hn0 hL0 h00
 by_cases hd:s.dk.cells.length=P.d
 ·exact Ru s hs ho P ver self nodes drift t n0 L0 hd ab ab _ R _ _ _ hH
 exact Pv s hs ho P ver self nodes drift t n0 L0 hd ab ab _ R _ _ _ hH
theorem xr (P:Pg) (tm:Int) (s:Ns) (hs:js s) (ho:iJ s.dk) (ver:Int) (hb:HdOk P tm (cA s P ver)) (self nodes drift tick:Int) (ans:List Int) (h1:Rg self) (h2:Rg nodes) (h3:Rg (cX s.clock drift tick)) (hdr:0≤drift∧drift≤1000) (t:Tl)
  (hlk:0 < drift→rE t 2 0 (drift+1) (tick % (drift+1))) (hld: ∀ (i:Nat) (k:Int),i≤100000→2≤k→k≤4→rE t 1 (i:Int) k (gi ans i k)) (R:Ms) (hR:R=gI (cA s P ver) P 0 self nodes drift tick (List.replicate 9 0) ans):
  Spec Tryz.prog 56 (aY [jC s,hG P, .v (.int .i64 ver), .v (.int .i64 self), .v (.int .i64 nodes), .v (.int .i64 drift),jb] (oh t 0 [] (5,9)))
   (iB ⟨self,((0:Nat):Int),s.counts.getD 0 0⟩ R (gW s P ver self nodes drift tick ans) t (pu drift+R.asked.length) (pv t drift tick++tS t ans R.asked)):=by
 have:=uc P tm s hs ho ver hb self nodes drift tick ans h1 h2 h3 hdr t hlk hld R hR 0 [] (Nat.zero_le _) rfl (fun _=> ⟨rfl,rfl⟩)
 rwa [Nat.zero_add,List.nil_append] at this
theorem qj {P:Pg} {tm:Int} {s:Ns} {m:Nat} (hp:pB P) (hc:P.c.length≤1000000) (ht:TmC P.c tm=true) (hd:DkOk m s.dk) (hct:s.counts.length=41) (hcb: ∀ k, -1000000≤s.counts.getD k 0∧s.counts.getD k 0≤1000000) (hck: -1000000≤s.clock∧s.clock≤1000000) (ver:Int):HdOk P tm (cA s P ver) where
 pg:=hp
 cl:=hc
 tc:=ht
 ns:={
  dk:=by
   show DkOk P.d (if s.dk.cells.length=P.d then s.dk else s.dk.resize P.d)
   split
   ·rename_i h
    have:=hd.len
    rwa [← h,this]
   exact hd.resize P.d
  vl:=List.length_replicate
  vr:=fun v hv=> by
   have hv:v∈List.replicate P.v (0:Int):=hv
   rw [List.mem_replicate] at hv;rw [hv.2];exact og
  tm:=⟨List.Pairwise.nil,fun x hx=> by cases hx⟩
  ct:=hct }
 tl:= .inl rfl
 cb:=hcb
 ck:=hck

abbrev DQ (c:Cz) (r:Nr) (o:Ms):AV:= .agg [.v (.int .i64 c.a), .v (.int .i64 c.b), .v (.int .i64 c.c), .sl r.sent.length (Cm c r.sent), .v (.bool r.repl), .v (.int .i64 r.value), .sl r.fails.length (cw r.fails), .sl o.vars.length (cw o.vars), .sl o.acts.length (ri o.acts), .v (.int .i64 (o.steps:Int)), .v (.bool (!o.fin)), .sl (fC (kC o.cov)).length (cw (fC (kC o.cov)))]
abbrev fl (s:Ns) (a:Na) (h:Nat):Tl:=⟨1,(h:Int),cP s h,(lg 1 (h:Int) (cP s h) a.tick a.draws a.keeps).length,rl (lg 1 (h:Int) (cP s h) a.tick a.draws a.keeps),0,[]⟩
abbrev nS (s':Ns) (rd:AV) (t:Tl) (n:Nat) (L:List PV):St:=aP (.tup [jC s',rd, .ptr (4,8) 0]) [((4,8), .box 103 [.v (.int .i64 t.c1), .v (.int .i64 t.c2), .v (.int .i64 t.c3), .sl t.na t.A, .ref (5,8) 0 n]),((5,8), .row 111 7 L)]
abbrev KE:AV:= .agg [.v (.int .i64 0), .v (.int .i64 0), .v (.int .i64 0), .sl 0 [], .v (.bool false), .v (.int .i64 0), .sl 0 [], .sl 0 [], .sl 0 [], .v (.int .i64 0), .v (.bool false), .sl 0 []]
set_option maxHeartbeats 4000000 in
theorem Ra (s:Ns) (hup:s.up=false) (hep:0≤s.epoch) (he2:s.epoch % 2=0) (P Q:Pg) (drift:Int) (a:Na) (h1:a.draws.length≤1000) (h2:a.keeps.length≤1000) (c:Cz) (R:Ms) (q:Ns×Nr) (n:Nat) (L:List PV)
  (hS:Spec Tryz.prog 56 (aY [jC s,hG P, .v (.int .i64 0), .v (.int .i64 1), .v (.int .i64 3), .v (.int .i64 drift),jb] (oh (fl s a 0) 0 [] (5,9))) (iB c R q (fl s a 0) n L)):
  Spec Tryz.prog 45 (ba [jC s,hG P,hG Q, .v (.int .i64 drift),AS a] []) (nS q.1 (DQ c q.2 R) (fl s a 0) n L):=by
 have htl:=iC s a 0 ab h1 h2
 refine Spec.ofN Tryz.func45 rfl Tryz.ntmps45 rfl ?_
 refine am (ai (aQ (5,0) _ rfl rfl) (ai (aQ (6,0) _ rfl rfl) (ai (aQ (7,0) _ rfl rfl) (ai (aQ (9,0) _ rfl rfl) (ai (aB (10,0) aa rfl rfl) (ai (aB (11,0) aa rfl rfl) (ai (bq _ kL) (aj (aq (am ?_))))))))))
 refine bc rfl rfl rfl (zF rfl rfl rfl (ai (cg (r:=true) _ rfl (by rw [hup];rfl)) ?_))
 refine aj (bL rfl rfl (am (ai (az _ aa rfl rfl rfl rfl) (ai (az _ aa rfl rfl rfl rfl) (ai (bR aa [((4,8),(28,0))] ar (htl.toI) trivial tr tr rfl rfl ae ae) ?_)))))
 refine vH rfl (aj (am (ai (az _ aa rfl rfl rfl rfl) (ai (aB (14,0) aa rfl rfl) (bG rfl rfl rfl rfl rfl rfl (aj (aq ?_)))))))
 refine aL (σ':=aD 90 [(3,_),(5,_),(7,_),(10,_),(11,_),(13,_),(14,_)] [((5,0),_),((7,0),_),((10,0),_),((11,0),_),((28,0),_),((14,0),_)] [] []) kp ?_
 refine an (be rfl (aj (aq (am (bc rfl rfl rfl (cd rfl rfl rfl (ai (dV (r:=0) _ _ rfl rfl ab ((Int.tmod_eq_emod_of_nonneg hep).trans he2)) ?_)))))))
 refine gQ rfl rfl rfl (aj (aW rfl rfl (aS (aU fun K9 hK9=> ?_))))
 refine aL (Le.nilB (28,0) 4 (60,0) 111 7 rfl rfl rfl) ?_
 refine an (ai (az _ aa rfl rfl rfl rfl) (ai (az _ aa rfl rfl rfl rfl) (aX rfl (aX rfl (bS rfl (ai (iX _ _ (rfl:_=[AV.ptr _ _]) (rfl:_=[])) ?_))))))
 refine ai (bR aa [((4,9),(28,0)),((5,9),(60,0)),((1,8),(42,0)),((2,8),(42,1)),((3,8),(42,2)),((6,8),(42,3)),((5,8),(42,4))] ar (hS) ob tr tr rfl rfl ae ae) ?_
 refine ai (aI _ tA) (ai (cm _ rfl oZ) (ai (cm _ rfl oZ) (ai (aB (16,0) aa rfl rfl) (ai (aB (17,0) aa rfl rfl) (bG rfl rfl rfl rfl rfl rfl (bG rfl rfl rfl rfl rfl rfl (aJ (hK9 _ ?_))))))))
 clear hK9;try clear K9
 refine aq ?_
 refine aL (σ':=aD 90 [(10,_),(11,_),(13,_),(16,_),(17,_)] [((10,0),_),((11,0),_),((28,0),_),((42,0),_),((42,1),_),((42,2),_),((42,3),_),((42,4),_),((16,0),_),((17,0),_)] [] []) kp ?_
 refine ia 5 [45,46,47] [(10,0),(11,0)] [[(10,0),(11,0)],[(11,0)],[],[(11,0)],[]] ae ae rfl (aK rfl) (rfl:_=[_,_,_,_,_]) (rfl:_=[_]) ?_
 refine ap (_,[]) (fun τ=> az _ aa rfl rfl rfl rfl) ?_
 refine fD rfl ?_
 refine ap (_,[]) (fun τ=> az _ aa rfl rfl rfl rfl) ?_
 refine fF rfl ?_
 refine ap (_,[]) (fun τ=> aI _ ca) ?_
 refine fE rfl ?_
 refine ap (_,[((10,0),_)]) (fun τ=> dG _ _ aa rfl (eE rfl (by exact dM) rfl) rfl rfl (Nat.le_of_ble_eq_true rfl) rfl) ?_
 refine fS rfl ?_
 refine ap (_,[((11,0),_)]) (fun τ=> dG _ _ aa rfl (eE rfl (by exact dM) rfl) rfl rfl (Nat.le_of_ble_eq_true rfl) rfl) ?_
 refine gf rfl (bj ⟨⟨rfl,by kernel_rfl⟩,?_⟩)
 refine vH rfl (aj (aG ?_))
 exact wD (.inr rfl) rfl (.cellA aa rfl rfl rfl) (.cellA aa rfl rfl rfl) (.tmp ca) (Le.out [((4,8),(28,0)),((5,8),(42,4))] [(42,0),(42,1),(42,2),(42,3)] (.tup rfl (au (.agg rfl (zG (au .sl (au .sl (au .sl (au (fg rfl rfl (by rw [aO,Nat.mul_one]) rfl) lz)))))) (au (.agg rfl (au .v (au .v (au .v (au (fg rfl rfl (mi _ _).symm rfl) (au .v (au .v (au (fg rfl rfl (by rw [aO,Nat.mul_one]) rfl) (au .sl (au (fg rfl rfl (fw _).symm rfl) lz)))))))))) lz))) rfl rfl rfl tr ob)
set_option maxHeartbeats 4000000 in
theorem Re (s:Ns) (hup:s.up=false) (hep:0≤s.epoch) (he2:s.epoch % 2=1) (P Q:Pg) (drift:Int) (a:Na) (h1:a.draws.length≤1000) (h2:a.keeps.length≤1000) (c:Cz) (R:Ms) (q:Ns×Nr) (n:Nat) (L:List PV)
  (hS:Spec Tryz.prog 56 (aY [jC s,hG Q, .v (.int .i64 1), .v (.int .i64 1), .v (.int .i64 3), .v (.int .i64 drift),jb] (oh (fl s a 0) 0 [] (5,9))) (iB c R q (fl s a 0) n L)):
  Spec Tryz.prog 45 (ba [jC s,hG P,hG Q, .v (.int .i64 drift),AS a] []) (nS q.1 (DQ c q.2 R) (fl s a 0) n L):=by
 have htl:=iC s a 0 ab h1 h2
 refine Spec.ofN Tryz.func45 rfl Tryz.ntmps45 rfl ?_
 refine am (ai (aQ (5,0) _ rfl rfl) (ai (aQ (6,0) _ rfl rfl) (ai (aQ (7,0) _ rfl rfl) (ai (aQ (9,0) _ rfl rfl) (ai (aB (10,0) aa rfl rfl) (ai (aB (11,0) aa rfl rfl) (ai (bq _ kL) (aj (aq (am ?_))))))))))
 refine bc rfl rfl rfl (zF rfl rfl rfl (ai (cg (r:=true) _ rfl (by rw [hup];rfl)) ?_))
 refine aj (bL rfl rfl (am (ai (az _ aa rfl rfl rfl rfl) (ai (az _ aa rfl rfl rfl rfl) (ai (bR aa [((4,8),(28,0))] ar (htl.toI) trivial tr tr rfl rfl ae ae) ?_)))))
 refine vH rfl (aj (am (ai (az _ aa rfl rfl rfl rfl) (ai (aB (14,0) aa rfl rfl) (bG rfl rfl rfl rfl rfl rfl (aj (aq ?_)))))))
 refine aL (σ':=aD 90 [(3,_),(5,_),(7,_),(10,_),(11,_),(13,_),(14,_)] [((5,0),_),((7,0),_),((10,0),_),((11,0),_),((28,0),_),((14,0),_)] [] []) kp ?_
 refine an (be rfl (aj (aq (am (bc rfl rfl rfl (cd rfl rfl rfl (ai (dV (r:=1) _ _ rfl rfl ab ((Int.tmod_eq_emod_of_nonneg hep).trans he2)) ?_)))))))
 refine kv rfl rfl rfl (aj (bL rfl rfl (am (ai (az _ aa rfl rfl rfl rfl) (bG rfl rfl rfl rfl rfl rfl (aj (an (be rfl (aj (aU fun K10 hK10=> ?_))))))))))
 refine aL (Le.nilB (28,0) 4 (60,0) 111 7 rfl rfl rfl) ?_
 refine an (ai (az _ aa rfl rfl rfl rfl) (ai (az _ aa rfl rfl rfl rfl) (aX rfl (aX rfl (bS rfl (ai (iX _ _ (rfl:_=[AV.ptr _ _]) (rfl:_=[])) ?_))))))
 refine ai (bR aa [((4,9),(28,0)),((5,9),(60,0)),((1,8),(42,0)),((2,8),(42,1)),((3,8),(42,2)),((6,8),(42,3)),((5,8),(42,4))] ar (hS) ob tr tr rfl rfl ae ae) ?_
 refine ai (aI _ tA) (ai (cm _ rfl oZ) (ai (cm _ rfl oZ) (ai (aB (16,0) aa rfl rfl) (ai (aB (17,0) aa rfl rfl) (bG rfl rfl rfl rfl rfl rfl (bG rfl rfl rfl rfl rfl rfl (aJ (hK10 _ ?_))))))))
 clear hK10;try clear K10
 refine aq ?_
 refine aL (σ':=aD 90 [(10,_),(11,_),(13,_),(16,_),(17,_)] [((10,0),_),((11,0),_),((28,0),_),((42,0),_),((42,1),_),((42,2),_),((42,3),_),((42,4),_),((16,0),_),((17,0),_)] [] []) kp ?_
 refine ia 5 [45,46,47] [(10,0),(11,0)] [[(10,0),(11,0)],[(11,0)],[],[(11,0)],[]] ae ae rfl (aK rfl) (rfl:_=[_,_,_,_,_]) (rfl:_=[_]) ?_
 refine ap (_,[]) (fun τ=> az _ aa rfl rfl rfl rfl) ?_
 refine fD rfl ?_
 refine ap (_,[]) (fun τ=> az _ aa rfl rfl rfl rfl) ?_
 refine fF rfl ?_
 refine ap (_,[]) (fun τ=> aI _ ca) ?_
 refine fE rfl ?_
 refine ap (_,[((10,0),_)]) (fun τ=> dG _ _ aa rfl (eE rfl (by exact dM) rfl) rfl rfl (Nat.le_of_ble_eq_true rfl) rfl) ?_
 refine fS rfl ?_
 refine ap (_,[((11,0),_)]) (fun τ=> dG _ _ aa rfl (eE rfl (by exact dM) rfl) rfl rfl (Nat.le_of_ble_eq_true rfl) rfl) ?_
 refine gf rfl (bj ⟨⟨rfl,by kernel_rfl⟩,?_⟩)
 refine vH rfl (aj (aG ?_))
 exact wD (.inr rfl) rfl (.cellA aa rfl rfl rfl) (.cellA aa rfl rfl rfl) (.tmp ca) (Le.out [((4,8),(28,0)),((5,8),(42,4))] [(42,0),(42,1),(42,2),(42,3)] (.tup rfl (au (.agg rfl (zG (au .sl (au .sl (au .sl (au (fg rfl rfl (by rw [aO,Nat.mul_one]) rfl) lz)))))) (au (.agg rfl (au .v (au .v (au .v (au (fg rfl rfl (mi _ _).symm rfl) (au .v (au .v (au (fg rfl rfl (by rw [aO,Nat.mul_one]) rfl) (au .sl (au (fg rfl rfl (fw _).symm rfl) lz)))))))))) lz))) rfl rfl rfl tr ob)
set_option maxHeartbeats 4000000 in
theorem QW (s:Ns) (hup:s.up=true) (hv:s.ver≠1) (P Q:Pg) (drift:Int) (a:Na) (hcr:a.crash=false) (hh:a.h < 41) (h1:a.draws.length≤1000) (h2:a.keeps.length≤1000) (c:Cz) (R:Ms) (q:Ns×Nr) (n:Nat) (L:List PV)
  (hS:Spec Tryz.prog 81 (aY [jC { s with wait:=a.wait },hG P, .v (.int .i64 (a.h:Int)), .v (.int .i64 1), .v (.int .i64 3), .v (.int .i64 drift),DN a.names,jb] (oh (fl s a a.h) 0 [] (5,9))) (iB c R q (fl s a a.h) n L)):
  Spec Tryz.prog 45 (ba [jC s,hG P,hG Q, .v (.int .i64 drift),AS a] []) (nS q.1 (DQ c q.2 R) (fl s a a.h) n L):=by
 have htl:=iC { s with wait:=a.wait } a a.h hh h1 h2
 refine Spec.ofN Tryz.func45 rfl Tryz.ntmps45 rfl ?_
 refine am (ai (aQ (5,0) _ rfl rfl) (ai (aQ (6,0) _ rfl rfl) (ai (aQ (7,0) _ rfl rfl) (ai (aQ (9,0) _ rfl rfl) (ai (aB (10,0) aa rfl rfl) (ai (aB (11,0) aa rfl rfl) (ai (bq _ kL) (aj (aq (am ?_))))))))))
 refine bc rfl rfl rfl (zF rfl rfl rfl (ai (cg (r:=false) _ rfl (by rw [hup];rfl)) ?_))
 refine aj (aW rfl rfl (aS (aq (am (bc rfl rfl rfl (cd rfl rfl rfl (gQ rfl rfl (by rw [if_neg (by rw [hcr];exact Bool.false_ne_true)];rfl) ?_)))))))
 refine aj (aW rfl rfl (aS (am (ai (az _ aa rfl rfl rfl rfl) (ai (aB (19,0) aa rfl rfl) (bG rfl rfl rfl rfl rfl rfl (aj (aq (aq ?_)))))))))
 refine aL (σ':=aD 90 [(3,_),(5,_),(7,_),(9,_),(10,_),(11,_),(19,_)] [((5,0),_),((7,0),_),((9,0),_),((10,0),_),((11,0),_),((19,0),_)] [] []) kp ?_
 refine an (bc rfl rfl rfl (cd rfl rfl rfl (gQ rfl rfl (beq_eq_false_iff_ne.2 hv) ?_)))
 refine aj (aW rfl rfl (aS (am (bc rfl rfl rfl (cd rfl rfl rfl (bc rfl rfl rfl (bG rfl rfl rfl rfl rfl rfl (aj (am (ai (az _ aa rfl rfl rfl rfl) ?_))))))))))
 refine ai (az _ aa rfl rfl rfl rfl) (bc rfl rfl rfl (cd rfl rfl rfl (ai (bR aa [((4,8),(72,0))] ar (htl.toI) trivial tr tr rfl rfl ae ae) ?_)))
 refine vH rfl (aj (aU fun K11 hK11=> ?_))
 refine aL (Le.nilB (72,0) 4 (60,0) 111 7 rfl rfl rfl) ?_
 refine an (ai (az _ aa rfl rfl rfl rfl) (ai (az _ aa rfl rfl rfl rfl) (bc rfl rfl rfl (cd rfl rfl rfl (aX rfl (bc rfl rfl rfl (ai (az _ aa rfl rfl rfl rfl) (ai (aN _ aa rfl (by exact Ce)) ?_))))))))
 refine bS rfl (ai (iX _ _ (rfl:_=[AV.ptr _ _]) (rfl:_=[])) ?_)
 refine ai (bR aa [((4,9),(72,0)),((5,9),(60,0)),((1,8),(84,0)),((2,8),(84,1)),((3,8),(84,2)),((6,8),(84,3)),((5,8),(84,4))] ar (hS) ob tr tr rfl rfl ae ae) ?_
 refine ai (aI _ tA) (ai (cm _ rfl oZ) (ai (cm _ rfl oZ) (ai (aB (21,0) aa rfl rfl) (ai (aB (22,0) aa rfl rfl) (bG rfl rfl rfl rfl rfl rfl (bG rfl rfl rfl rfl rfl rfl (aJ (hK11 _ ?_))))))))
 clear hK11;try clear K11
 refine aq ?_
 refine aL (σ':=aD 90 [(10,_),(11,_),(20,_),(21,_),(22,_)] [((10,0),_),((11,0),_),((72,0),_),((84,0),_),((84,1),_),((84,2),_),((84,3),_),((84,4),_),((21,0),_),((22,0),_)] [] []) kp ?_
 refine ia 5 [87,88,89] [(10,0),(11,0)] [[(10,0),(11,0)],[(11,0)],[],[(11,0)],[]] ae ae rfl (aK rfl) (rfl:_=[_,_,_,_,_]) (rfl:_=[_]) ?_
 refine ap (_,[]) (fun τ=> az _ aa rfl rfl rfl rfl) ?_
 refine fD rfl ?_
 refine ap (_,[]) (fun τ=> az _ aa rfl rfl rfl rfl) ?_
 refine fF rfl ?_
 refine ap (_,[]) (fun τ=> aI _ ca) ?_
 refine fE rfl ?_
 refine ap (_,[((10,0),_)]) (fun τ=> dG _ _ aa rfl (eE rfl (by exact dM) rfl) rfl rfl (Nat.le_of_ble_eq_true rfl) rfl) ?_
 refine fS rfl ?_
 refine ap (_,[((11,0),_)]) (fun τ=> dG _ _ aa rfl (eE rfl (by exact dM) rfl) rfl rfl (Nat.le_of_ble_eq_true rfl) rfl) ?_
 refine gf rfl (bj ⟨⟨rfl,by kernel_rfl⟩,?_⟩)
 refine vH rfl (aj (aG ?_))
 exact wD (.inr rfl) rfl (.cellA aa rfl rfl rfl) (.cellA aa rfl rfl rfl) (.tmp ca) (Le.out [((4,8),(72,0)),((5,8),(84,4))] [(84,0),(84,1),(84,2),(84,3)] (.tup rfl (au (.agg rfl (zG (au .sl (au .sl (au .sl (au (fg rfl rfl (by rw [aO,Nat.mul_one]) rfl) lz)))))) (au (.agg rfl (au .v (au .v (au .v (au (fg rfl rfl (mi _ _).symm rfl) (au .v (au .v (au (fg rfl rfl (by rw [aO,Nat.mul_one]) rfl) (au .sl (au (fg rfl rfl (fw _).symm rfl) lz)))))))))) lz))) rfl rfl rfl tr ob)
set_option maxHeartbeats 4000000 in
theorem PQ (s:Ns) (hup:s.up=true) (hv:s.ver=1) (P Q:Pg) (drift:Int) (a:Na) (hcr:a.crash=false) (hh:a.h < 41) (h1:a.draws.length≤1000) (h2:a.keeps.length≤1000) (c:Cz) (R:Ms) (q:Ns×Nr) (n:Nat) (L:List PV)
  (hS:Spec Tryz.prog 81 (aY [jC { s with wait:=a.wait },hG Q, .v (.int .i64 (a.h:Int)), .v (.int .i64 1), .v (.int .i64 3), .v (.int .i64 drift),DN a.names,jb] (oh (fl s a a.h) 0 [] (5,9))) (iB c R q (fl s a a.h) n L)):
  Spec Tryz.prog 45 (ba [jC s,hG P,hG Q, .v (.int .i64 drift),AS a] []) (nS q.1 (DQ c q.2 R) (fl s a a.h) n L):=by
 have htl:=iC { s with wait:=a.wait } a a.h hh h1 h2
 refine Spec.ofN Tryz.func45 rfl Tryz.ntmps45 rfl ?_
 refine am (ai (aQ (5,0) _ rfl rfl) (ai (aQ (6,0) _ rfl rfl) (ai (aQ (7,0) _ rfl rfl) (ai (aQ (9,0) _ rfl rfl) (ai (aB (10,0) aa rfl rfl) (ai (aB (11,0) aa rfl rfl) (ai (bq _ kL) (aj (aq (am ?_))))))))))
 refine bc rfl rfl rfl (zF rfl rfl rfl (ai (cg (r:=false) _ rfl (by rw [hup];rfl)) ?_))
 refine aj (aW rfl rfl (aS (aq (am (bc rfl rfl rfl (cd rfl rfl rfl (gQ rfl rfl (by rw [if_neg (by rw [hcr];exact Bool.false_ne_true)];rfl) ?_)))))))
 refine aj (aW rfl rfl (aS (am (ai (az _ aa rfl rfl rfl rfl) (ai (aB (19,0) aa rfl rfl) (bG rfl rfl rfl rfl rfl rfl (aj (aq (aq ?_)))))))))
 refine aL (σ':=aD 90 [(3,_),(5,_),(7,_),(9,_),(10,_),(11,_),(19,_)] [((5,0),_),((7,0),_),((9,0),_),((10,0),_),((11,0),_),((19,0),_)] [] []) kp ?_
 refine an (bc rfl rfl rfl (cd rfl rfl rfl (kv rfl rfl (by rw [hv];rfl) ?_)))
 refine aj (bL rfl rfl (an (ai (az _ aa rfl rfl rfl rfl) (bG rfl rfl rfl rfl rfl rfl (aj (am (bc rfl rfl rfl (cd rfl rfl rfl (bc rfl rfl rfl (bG rfl rfl rfl rfl rfl rfl ?_))))))))))
 refine aj (am (ai (az _ aa rfl rfl rfl rfl) (ai (az _ aa rfl rfl rfl rfl) (bc rfl rfl rfl (cd rfl rfl rfl (ai (bR aa [((4,8),(72,0))] ar (htl.toI) trivial tr tr rfl rfl ae ae) ?_))))))
 refine vH rfl (aj (aU fun K11 hK11=> ?_))
 refine aL (Le.nilB (72,0) 4 (60,0) 111 7 rfl rfl rfl) ?_
 refine an (ai (az _ aa rfl rfl rfl rfl) (ai (az _ aa rfl rfl rfl rfl) (bc rfl rfl rfl (cd rfl rfl rfl (aX rfl (bc rfl rfl rfl (ai (az _ aa rfl rfl rfl rfl) (ai (aN _ aa rfl (by exact Ce)) ?_))))))))
 refine bS rfl (ai (iX _ _ (rfl:_=[AV.ptr _ _]) (rfl:_=[])) ?_)
 refine ai (bR aa [((4,9),(72,0)),((5,9),(60,0)),((1,8),(84,0)),((2,8),(84,1)),((3,8),(84,2)),((6,8),(84,3)),((5,8),(84,4))] ar (hS) ob tr tr rfl rfl ae ae) ?_
 refine ai (aI _ tA) (ai (cm _ rfl oZ) (ai (cm _ rfl oZ) (ai (aB (21,0) aa rfl rfl) (ai (aB (22,0) aa rfl rfl) (bG rfl rfl rfl rfl rfl rfl (bG rfl rfl rfl rfl rfl rfl (aJ (hK11 _ ?_))))))))
 clear hK11;try clear K11
 refine aq ?_
 refine aL (σ':=aD 90 [(10,_),(11,_),(20,_),(21,_),(22,_)] [((10,0),_),((11,0),_),((72,0),_),((84,0),_),((84,1),_),((84,2),_),((84,3),_),((84,4),_),((21,0),_),((22,0),_)] [] []) kp ?_
 refine ia 5 [87,88,89] [(10,0),(11,0)] [[(10,0),(11,0)],[(11,0)],[],[(11,0)],[]] ae ae rfl (aK rfl) (rfl:_=[_,_,_,_,_]) (rfl:_=[_]) ?_
 refine ap (_,[]) (fun τ=> az _ aa rfl rfl rfl rfl) ?_
 refine fD rfl ?_
 refine ap (_,[]) (fun τ=> az _ aa rfl rfl rfl rfl) ?_
 refine fF rfl ?_
 refine ap (_,[]) (fun τ=> aI _ ca) ?_
 refine fE rfl ?_
 refine ap (_,[((10,0),_)]) (fun τ=> dG _ _ aa rfl (eE rfl (by exact dM) rfl) rfl rfl (Nat.le_of_ble_eq_true rfl) rfl) ?_
 refine fS rfl ?_
 refine ap (_,[((11,0),_)]) (fun τ=> dG _ _ aa rfl (eE rfl (by exact dM) rfl) rfl rfl (Nat.le_of_ble_eq_true rfl) rfl) ?_
 refine gf rfl (bj ⟨⟨rfl,by kernel_rfl⟩,?_⟩)
 refine vH rfl (aj (aG ?_))
 exact wD (.inr rfl) rfl (.cellA aa rfl rfl rfl) (.cellA aa rfl rfl rfl) (.tmp ca) (Le.out [((4,8),(72,0)),((5,8),(84,4))] [(84,0),(84,1),(84,2),(84,3)] (.tup rfl (au (.agg rfl (zG (au .sl (au .sl (au .sl (au (fg rfl rfl (by rw [aO,Nat.mul_one]) rfl) lz)))))) (au (.agg rfl (au .v (au .v (au .v (au (fg rfl rfl (mi _ _).symm rfl) (au .v (au .v (au (fg rfl rfl (by rw [aO,Nat.mul_one]) rfl) (au .sl (au (fg rfl rfl (fw _).symm rfl) lz)))))))))) lz))) rfl rfl rfl tr ob)
set_option maxHeartbeats 4000000 in
theorem Rm (s:Ns) (hup:s.up=true) (hs:js s) (ho:iJ s.dk) (hc:s.counts.length=41) (hcb: -1000000≤s.counts.getD 40 0∧s.counts.getD 40 0≤1000000) (hep: -1000000≤s.epoch∧s.epoch≤1000000) (P Q:Pg) (drift:Int) (a:Na) (hcr:a.crash=true) (h1:a.draws.length≤1000) (h2:a.keeps.length≤1000)
  (hlk: ∀ i:Nat,i < s.dk.pend.length→rE (fl s a 40) 3 (i:Int) 2 (a.keeps.getD i 0)):
  Spec Tryz.prog 45 (ba [jC s,hG P,hG Q, .v (.int .i64 drift),AS a] []) (nS (la s (keepB s.dk.pend.length a.keeps)) KE (fl s a 40) (0+s.dk.pend.length) ([]++yD (fl s a 40) a.keeps s.dk.pend.length)):=by
 have htl:=iC s a 40 ab h1 h2
 have hcs:=lU s hs ho hc hcb hep (fl s a 40) 0 [] rfl ab a.keeps hlk
 refine Spec.ofN Tryz.func45 rfl Tryz.ntmps45 rfl ?_
 refine am (ai (aQ (5,0) _ rfl rfl) (ai (aQ (6,0) _ rfl rfl) (ai (aQ (7,0) _ rfl rfl) (ai (aQ (9,0) _ rfl rfl) (ai (aB (10,0) aa rfl rfl) (ai (aB (11,0) aa rfl rfl) (ai (bq _ kL) (aj (aq (am ?_))))))))))
 refine bc rfl rfl rfl (zF rfl rfl rfl (ai (cg (r:=false) _ rfl (by rw [hup];rfl)) ?_))
 refine aj (aW rfl rfl (aS (aq (am (bc rfl rfl rfl (cd rfl rfl rfl (kv rfl rfl (by rw [if_pos hcr];rfl) ?_)))))))
 refine aj (bL rfl rfl (am (ai (az _ aa rfl rfl rfl rfl) (ai (az _ aa rfl rfl rfl rfl) (ai (bR aa [((4,8),(53,0))] ar (htl.toI) trivial tr tr rfl rfl ae ae) ?_)))))
 refine vH rfl (aj (aU fun K7 hK7=> ?_))
 refine aL (Le.nilB (53,0) 4 (60,0) 111 7 rfl rfl rfl) ?_
 refine an (ai (az _ aa rfl rfl rfl rfl) (bS rfl (ai (iX _ _ (rfl:_=[AV.ptr _ _]) (rfl:_=[])) ?_)))
 refine ai (bR aa [((4,9),(53,0)),((5,9),(60,0)),((5,8),(57,0))] ar (hcs) ob tr tr rfl rfl ae ae) ?_
 refine ai (aN _ aa rfl (by exact (rfl:_=some [_,_,_,_,_,_,_,_,_,_,_,_]))) ?_
 refine bS rfl (bG rfl rfl rfl rfl rfl rfl (bG rfl rfl rfl rfl rfl rfl (vH rfl (aJ (hK7 _ ?_)))))
 clear hK7;try clear K7
 exact aG (wD (.inr rfl) rfl (.cellA aa rfl rfl rfl) (.cellA aa rfl rfl rfl) (.tmp ca) (Le.out [((4,8),(53,0)),((5,8),(57,0))] [] (.tup rfl lz) rfl rfl rfl trivial ob))

structure FI (a:Na):Prop where
 ok:EW a
 nl:a.names.length=9
 d0: ∀ x∈a.draws,0≤x
 k0: ∀ x∈a.keeps,x=0∨x=1
 dl:a.draws.length≤1000
 kl:a.keeps.length≤1000
theorem xh (s:Ns) {a:Na} (h:Nat) (hw:FI a) {q:Int} (hq:0 < q):rE (fl s a h) 2 0 q (a.tick % q):=by
 have hd:=hw.dl
 have hk:=hw.kl
 have:=ie (lg 1 (h:Int) (cP s h) a.tick a.draws a.keeps) (by rw [nR];omega) 1 (h:Int) (cP s h) 2 0 q hq
 rwa [yr hw.ok.tk.1] at this
theorem xg (s:Ns) {a:Na} (h:Nat) (hw:FI a) (i:Nat) {q:Int} (hq:0 < q):rE (fl s a h) 1 (i:Int) q (a.draws.getD i 0 % q):=by
 have hd:=hw.dl
 have hk:=hw.kl
 have:=ie (lg 1 (h:Int) (cP s h) a.tick a.draws a.keeps) (by rw [nR];omega) 1 (h:Int) (cP s h) 1 (i:Int) q hq
 rwa [yb i hw.d0] at this
theorem Fs (s:Ns) {a:Na} (h:Nat) (hw:FI a) (i:Nat):rE (fl s a h) 3 (i:Int) 2 (a.keeps.getD i 0):=by
 have hd:=hw.dl
 have hk:=hw.kl
 have:=ie (lg 1 (h:Int) (cP s h) a.tick a.draws a.keeps) (by rw [nR];omega) 1 (h:Int) (cP s h) 3 (i:Int) 2 ab
 have h0: ∀ x∈a.keeps,0≤x:=fun x hx=> by rcases hw.k0 x hx with h | h <;> omega
 rw [yf i h0] at this
 have h1:a.keeps.getD i 0=0∨a.keeps.getD i 0=1:=by
  by_cases hi:i < a.keeps.length
  ·rw [List.getD_eq_getElem?_getD,List.getElem?_eq_getElem hi];exact hw.k0 _ (List.getElem_mem hi)
  rw [List.getD_eq_getElem?_getD,List.getElem?_eq_none ab];exact .inl rfl
 rwa [show a.keeps.getD i 0 % 2=a.keeps.getD i 0 by omega] at this
def GE (t:Tl) (l:List Qa):List PV:=l.flatMap fun x=> vI t x.kind x.idx x.ar x.n
theorem qq (t:Tl) (drift tick:Int) (asked ans:List Int):pv t drift tick++tS t ans asked=GE t (jM drift tick asked ans):=by
 unfold GE jM pv tS
 rw [List.flatMap_append]
 congr 1
 ·split
  ·simp
  rfl
 rw [List.flatMap_map]
theorem pk (drift tick:Int) (asked ans:List Int):(jM drift tick asked ans).length=pu drift+asked.length:=by
 unfold jM pu
 rw [List.length_append,List.length_map,List.length_range]
 congr 1
 split <;> rfl

structure mL (P:Pg) (tm:Int):Prop where
 pg:pB P
 cl:P.c.length≤1000000
 tc:TmC P.c tm=true
abbrev hN (a:Na) (s:Ns):Nat:=if s.up=false then 0 else if a.crash=true then 40 else a.h
abbrev HU (P Q:Pg) (drift:Int) (a:Na) (s:Ns):AV:=
 if s.up=false then DQ ⟨1,((0:Nat):Int),s.counts.getD 0 0⟩ (eG P Q drift a s).2 (gI (cA s (cu P Q s) (iG s)) (cu P Q s) 0 1 3 drift a.tick (List.replicate 9 0) a.draws)
 else if a.crash=true then KE
 else DQ ⟨1,(a.h:Int),s.counts.getD a.h 0⟩ (eG P Q drift a s).2 (gI { s with wait:=a.wait } (cu P Q s) a.h 1 3 drift a.tick a.names a.draws)
theorem qT (s:Ns) (P:Pg) (h:Nat) (self nodes drift tick:Int) (names ans:List Int):(gI s P h self nodes drift tick names ans).asked=(gl s P h self nodes drift tick names ans).asked:=
 (pN P h (eu names self nodes (cX s.clock drift tick)) (s.dk.view++s.vol) ans).2.2
section
variable {P Q:Pg} {tp tq:Int} {i:Nat} {s:Ns} {drift:Int} {a:Na}
theorem vw (hP:mL P tp) (hQ:mL Q tq) (hi:i≤1000) (hs:Sq P Q i s) (hsm:js s) (hup:s.up=false) (hdr:0≤drift∧drift≤3) (hw:FI a):
  Spec Tryz.prog 45 (ba [jC s,hG P,hG Q, .v (.int .i64 drift),AS a] []) (nS (eG P Q drift a s).1 (HU P Q drift a s) (fl s a (hN a s)) (jx P Q drift a s).length (GE (fl s a (hN a s)) (jx P Q drift a s))):=by
 obtain ⟨⟨m,hdk⟩,_,_⟩:=hs.dn hup
 have hin:iJ s.dk:=fun w hw=> by
  obtain ⟨b1,b2,_⟩:=hdk.pr w hw
  have:=hdk.len
  exact ⟨b1,by omega⟩
 have hck:=hs.ck
 have hep:=hs.ep
 have hcb: ∀ k, -1000000≤s.counts.getD k 0∧s.counts.getD k 0≤1000000:=fun k=> by have:=hs.ct k;omega
 have htk:=qO (clock:=s.clock) (tick:=a.tick) hdr
 have e1:eG P Q drift a s=gW s (cu P Q s) (iG s) 1 3 drift a.tick a.draws:=by unfold eG;rw [if_pos hup]
 have e2:jx P Q drift a s=jM drift a.tick (gl (cA s (cu P Q s) (iG s)) (cu P Q s) 0 1 3 drift a.tick (List.replicate 9 0) a.draws).asked a.draws:=by unfold jx;rw [if_pos hup]
 have e3:HU P Q drift a s=DQ ⟨1,((0:Nat):Int),s.counts.getD 0 0⟩ (eG P Q drift a s).2 (gI (cA s (cu P Q s) (iG s)) (cu P Q s) 0 1 3 drift a.tick (List.replicate 9 0) a.draws):=if_pos hup
 have e4:hN a s=0:=if_pos hup
 rw [e3,e4,e2,← qT,pk,← qq,e1]
 have key: ∀ (X:Pg) (tm:Int) (v:Int),mL X tm→Spec Tryz.prog 56 (aY [jC s,hG X, .v (.int .i64 v), .v (.int .i64 1), .v (.int .i64 3), .v (.int .i64 drift),jb] (oh (fl s a 0) 0 [] (5,9)))
   (iB ⟨1,((0:Nat):Int),s.counts.getD 0 0⟩ (gI (cA s X v) X 0 1 3 drift a.tick (List.replicate 9 0) a.draws) (gW s X v 1 3 drift a.tick a.draws) (fl s a 0) (pu drift+(gI (cA s X v) X 0 1 3 drift a.tick (List.replicate 9 0) a.draws).asked.length) (pv (fl s a 0) drift a.tick++tS (fl s a 0) a.draws (gI (cA s X v) X 0 1 3 drift a.tick (List.replicate 9 0) a.draws).asked)):=fun X tm v hX=>
  xr X tm s hsm hin v (qj hX.pg hX.cl hX.tc hdk hs.cl hcb ab v) 1 3 drift a.tick a.draws (cU ab) (cU ab) (by unfold Rg;omega) ab (fl s a 0) (fun h=> xh s 0 hw ab) (fun j k _ h2 _=> xg s 0 hw j ab) _ rfl
 by_cases he:s.epoch % 2=1
 ·have hp:cu P Q s=Q:=by unfold cu;rw [if_neg (by rw [hup];exact Bool.false_ne_true),if_pos he]
  have hv:iG s=1:=if_pos he
  rw [hp,hv]
  exact Re s hup hep.1 he P Q drift a hw.dl hw.kl _ _ _ _ _ (key Q tq 1 hQ)
 have hp:cu P Q s=P:=by unfold cu;rw [if_neg (by rw [hup];exact Bool.false_ne_true),if_neg he]
 have hv:iG s=0:=if_neg he
 rw [hp,hv]
 exact Ra s hup hep.1 ab P Q drift a hw.dl hw.kl _ _ _ _ _ (key P tp 0 hP)
theorem yi (hP:mL P tp) (hQ:mL Q tq) (hi:i≤1000) (hs:Sq P Q i s) (hup:s.up=true) (htl:pM (if s.ver=1 then tq else tp) s.timers) (hdr:0≤drift∧drift≤3) (hw:FI a) (hcr:a.crash=false):
  Spec Tryz.prog 45 (ba [jC s,hG P,hG Q, .v (.int .i64 drift),AS a] []) (nS (eG P Q drift a s).1 (HU P Q drift a s) (fl s a (hN a s)) (jx P Q drift a s).length (GE (fl s a (hN a s)) (jx P Q drift a s))):=by
 obtain ⟨hns,hver⟩:=hs.up hup
 have hck:=hs.ck
 have hcb: ∀ k, -1000000≤s.counts.getD k 0∧s.counts.getD k 0≤1000000:=fun k=> by have:=hs.ct k;omega
 have htk:=qO (clock:=s.clock) (tick:=a.tick) hdr
 have hnf: ¬ s.up=false:=by rw [hup];exact fun h=> by cases h
 have hnc: ¬ a.crash=true:=by rw [hcr];exact Bool.false_ne_true
 have hah:=hw.ok.h
 have e1:eG P Q drift a s=dw { s with wait:=a.wait } (cu P Q s) a.h 1 3 drift a.tick a.names a.draws:=by unfold eG;rw [if_neg hnf,if_neg hnc]
 have e2:jx P Q drift a s=jM drift a.tick (gl { s with wait:=a.wait } (cu P Q s) a.h 1 3 drift a.tick a.names a.draws).asked a.draws:=by unfold jx;rw [if_neg hnf,if_neg hnc]
 have e3:HU P Q drift a s=DQ ⟨1,(a.h:Int),s.counts.getD a.h 0⟩ (eG P Q drift a s).2 (gI { s with wait:=a.wait } (cu P Q s) a.h 1 3 drift a.tick a.names a.draws):=(if_neg hnf).trans (if_neg hnc)
 have e4:hN a s=a.h:=(if_neg hnf).trans (if_neg hnc)
 rw [e3,e4,e2,← qT,pk,← qq,e1]
 have key: ∀ (X:Pg) (tm:Int),mL X tm→rz X s→pM tm s.timers→Spec Tryz.prog 81 (aY [jC { s with wait:=a.wait },hG X, .v (.int .i64 (a.h:Int)), .v (.int .i64 1), .v (.int .i64 3), .v (.int .i64 drift),DN a.names,jb] (oh (fl s a a.h) 0 [] (5,9)))
   (iB ⟨1,(a.h:Int),s.counts.getD a.h 0⟩ (gI { s with wait:=a.wait } X a.h 1 3 drift a.tick a.names a.draws) (dw { s with wait:=a.wait } X a.h 1 3 drift a.tick a.names a.draws) (fl s a a.h) (pu drift+(gI { s with wait:=a.wait } X a.h 1 3 drift a.tick a.names a.draws).asked.length) (pv (fl s a a.h) drift a.tick++tS (fl s a a.h) a.draws (gI { s with wait:=a.wait } X a.h 1 3 drift a.tick a.names a.draws).asked)):=fun X tm hX hN htm=>
  uV X tm { s with wait:=a.wait } ⟨hX.pg,hX.cl,hX.tc,⟨hN.dk,hN.vl,hN.vr,hN.tm,hN.ct⟩,htm,hcb,by show -1000000≤s.clock∧s.clock≤1000000;omega⟩ a.h hah 1 3 drift a.tick a.names a.draws hw.nl hw.ok.nm (cU ab) (cU ab) (by show Rg (cX s.clock drift a.tick);unfold Rg;omega) ab (fl s a a.h) (fun h=> xh s a.h hw ab) (fun j k _ h2 _=> xg s a.h hw j ab) _ rfl
 by_cases hv:s.ver=1
 ·have hp:cu P Q s=Q:=by unfold cu;rw [if_pos hup,if_pos hv]
  rw [if_pos hv] at hns htl
  rw [hp]
  exact PQ s hup hv P Q drift a hcr ab hw.dl hw.kl _ _ _ _ _ (key Q tq hQ hns htl)
 have hp:cu P Q s=P:=by unfold cu;rw [if_pos hup,if_neg hv]
 rw [if_neg hv] at hns htl
 rw [hp]
 exact QW s hup hv P Q drift a hcr ab hw.dl hw.kl _ _ _ _ _ (key P tp hP hns htl)
theorem zd (t:Tl) (k:Nat) (keeps:List Int):GE t (oB k keeps)=yD t keeps k:=by
 unfold GE oB yD
 rw [List.flatMap_map]
theorem tu (hi:i≤1000) (hs:Sq P Q i s) (hsm:js s) (hup:s.up=true) (hw:FI a) (hcr:a.crash=true):
  Spec Tryz.prog 45 (ba [jC s,hG P,hG Q, .v (.int .i64 drift),AS a] []) (nS (eG P Q drift a s).1 (HU P Q drift a s) (fl s a (hN a s)) (jx P Q drift a s).length (GE (fl s a (hN a s)) (jx P Q drift a s))):=by
 obtain ⟨hns,hver⟩:=hs.up hup
 have hep:=hs.ep
 have hcb:=hs.ct 40
 have hnf: ¬ s.up=false:=by rw [hup];exact fun h=> by cases h
 have e1:eG P Q drift a s=(la s (keepB s.dk.pend.length a.keeps),{}):=by unfold eG;rw [if_neg hnf,if_pos hcr]
 have e2:jx P Q drift a s=oB s.dk.pend.length a.keeps:=by unfold jx;rw [if_neg hnf,if_pos hcr]
 have e3:HU P Q drift a s=KE:=(if_neg hnf).trans (if_pos hcr)
 have e4:hN a s=40:=(if_neg hnf).trans (if_pos hcr)
 have hin:iJ s.dk:=fun w hw=> by
  obtain ⟨b1,b2,_⟩:=hns.dk.pr w hw
  have:=hns.dk.len
  exact ⟨b1,by omega⟩
 have h:=Rm s hup hsm hin hs.cl ab ab P Q drift a hcr hw.dl hw.kl (fun j _=> Fs s 40 hw j)
 rw [Nat.zero_add,List.nil_append] at h
 rw [e3,e4,e2,e1,zd,show (oB s.dk.pend.length a.keeps).length=s.dk.pend.length by simp [oB]]
 exact h
end
end Go.Proofs.YtmjnackchaahbaaGreat

namespace Go.Proofs.YtmjnackchaahbaaGreat

theorem vq {t:Int} (ht:0≤t∧t < 8): ∀ (l:List Ac) (q:Ns×Nr),(∀ a∈l,wY t a)→pM t q.1.timers→pM t (l.foldl eg q).1.timers
 | [],_,_,h=> h
 | a::l,q,ha,h=> vq ht l (eg q a) (fun b hb=> ha b (List.mem_cons_of_mem _ hb)) (uz ht (ha a List.mem_cons_self) h)
theorem ip {P:Pg} {t:Int} (hc:TmC P.c t=true) (s:Ns) (h:pM t s.timers) (k:Nat) (self nodes drift tick:Int) (names ans:List Int):pM t (dw s P k self nodes drift tick names ans).1.timers:=
 vq (TmC.rg hc) _ _ (fun a ha=> uQ hc _ _ _ _ a ha) h
structure SqT (P Q:Pg) (tp tq:Int) (i:Nat) (s:Ns):Prop where
 sq:Sq P Q i s
 sm:js s
 tl:s.up=true→pM (if s.ver=1 then tq else tp) s.timers
theorem HQ (P Q:Pg) (tp tq:Int):SqT P Q tp tq 0 {}:=⟨Ip P Q,⟨Nat.zero_le _,Nat.zero_le _,Nat.zero_le _,Nat.zero_le _⟩,fun h=> by simp at h⟩
theorem AT {X:Pg} {t:Int} {s:Ns} (hX:pB X) (h:rz X s) (ht:pM t s.timers):js s:=by
 have h1:=h.dk.len
 have h2:=h.dk.pn
 have h3:=h.vl
 have h4:=hX.nv
 refine ⟨by omega,by omega,by omega,?_⟩
 rcases ht with ht | ht <;> rw [ht] <;> simp
theorem Kd {P Q:Pg} {tp tq:Int} (hP:mL P tp) (hQ:mL Q tq) {drift:Int} (hd:0≤drift∧drift≤3) {a:Na} (ha:EW a) {i:Nat} (hi:i≤100) {s:Ns} (h:SqT P Q tp tq i s):SqT P Q tp tq (i+1) (eG P Q drift a s).1:=by
 have hn:=ED hP.pg hQ.pg hd ha hi h.sq
 have up:(eG P Q drift a s).1.up=true→pM (if (eG P Q drift a s).1.ver=1 then tq else tp) (eG P Q drift a s).1.timers:=by
  unfold eG
  split
  ·rename_i hup
   intro _
   show pM (if (dw (cA s (cu P Q s) (iG s)) (cu P Q s) 0 1 3 drift a.tick (List.replicate 9 0) a.draws).1.ver=1 then tq else tp) (dw (cA s (cu P Q s) (iG s)) (cu P Q s) 0 1 3 drift a.tick (List.replicate 9 0) a.draws).1.timers
   rw [(ff (cA s (cu P Q s) (iG s)) (cu P Q s) 0 1 3 drift a.tick (List.replicate 9 0) a.draws).2.1]
   show pM (if iG s=1 then tq else tp) _
   have hnt: ¬ s.up=true:=by rw [hup];exact Bool.false_ne_true
   by_cases he:s.epoch % 2=1
   ·rw [show iG s=1 from if_pos he,show cu P Q s=Q by unfold cu;rw [if_neg hnt,if_pos he],if_pos rfl]
    exact ip hQ.tc _ (.inl rfl) _ _ _ _ _ _ _
   rw [show iG s=0 from if_neg he,show cu P Q s=P by unfold cu;rw [if_neg hnt,if_neg he],if_neg ah]
   exact ip hP.tc _ (.inl rfl) _ _ _ _ _ _ _
  rename_i hup
  split
  ·intro hx;cases hx
  intro _
  have hup:s.up=true:=by simpa using hup
  have htl:=h.tl hup
  rw [(ff { s with wait:=a.wait } (cu P Q s) a.h 1 3 drift a.tick a.names a.draws).2.1]
  show pM (if s.ver=1 then tq else tp) _
  by_cases hv:s.ver=1
  ·rw [if_pos hv] at htl ⊢
   rw [show cu P Q s=Q by unfold cu;rw [if_pos hup,if_pos hv]]
   exact ip hQ.tc { s with wait:=a.wait } htl _ _ _ _ _ _ _
  rw [if_neg hv] at htl ⊢
  rw [show cu P Q s=P by unfold cu;rw [if_pos hup,if_neg hv]]
  exact ip hP.tc { s with wait:=a.wait } htl _ _ _ _ _ _ _
 refine ⟨hn,?_,up⟩
 by_cases hu:(eG P Q drift a s).1.up=true
 ·have h1:=(hn.up hu).1
  have h2:=up hu
  by_cases hv:(eG P Q drift a s).1.ver=1
  ·rw [if_pos hv] at h1 h2;exact AT hQ.pg h1 h2
  rw [if_neg hv] at h1 h2;exact AT hP.pg h1 h2
 have hs:=h.sm
 unfold eG at hu ⊢
 split at hu
 ·exact absurd ((ff (cA s (cu P Q s) (iG s)) (cu P Q s) 0 1 3 drift a.tick (List.replicate 9 0) a.draws).1) hu
 rename_i hup
 rw [if_neg hup]
 split at hu
 ·rename_i hc
  rw [if_pos hc]
  refine ⟨?_,Nat.zero_le _,?_,Nat.zero_le _⟩
  ·show (oT s.dk.cells _).length≤1000
   rw [fU];exact hs.c
  show (List.replicate s.vol.length (0:Int)).length≤1000
  rw [List.length_replicate];exact hs.v
 exact absurd ((ff { s with wait:=a.wait } (cu P Q s) a.h 1 3 drift a.tick a.names a.draws).1.trans (show s.up=true by simpa using hup)) hu

theorem FK {n:Int} (h0:0≤n):FI (iw n):=by
 obtain ⟨h1,h2,h3,h4,_,h6⟩:=Ba h0
 refine ⟨h1,h6,h4,fun x hx=> ?_,by omega,by omega⟩
 have hx:x∈[n / 2 % 2,n / 4 % 2,n / 8 % 2,n / 16 % 2]:=hx
 simp only [List.mem_cons,List.not_mem_nil,or_false] at hx
 omega
theorem EC (s:Ns) (hup:s.up=false) (P Q:Pg):Spec Tryz.prog 51 (ba [jC s,hG P,hG Q] []) (aP (.v (.bool true)) []):=by
 refine Spec.ofN Tryz.func51 rfl Tryz.ntmps51 rfl ?_
 refine am (ai (aQ (3,0) _ rfl rfl) (ai (aQ (4,0) _ rfl rfl) (ai (aQ (5,0) _ rfl rfl) (cq rfl (aj (aq (am (bc rfl rfl rfl (zF rfl rfl rfl (ai (cg (r:=true) _ rfl (by rw [hup];rfl)) ?_))))))))))
 exact aj (bL rfl rfl (am (cq rfl (aj (aG (fv rfl rfl))))))
theorem BT (s:Ns) (hup:s.up=true) (hv:s.ver≠1) (P Q:Pg) (hd:s.dk.cells.length=P.d) (hl:s.vol.length=P.v):Spec Tryz.prog 51 (ba [jC s,hG P,hG Q] []) (aP (.v (.bool true)) []):=by
 refine Spec.ofN Tryz.func51 rfl Tryz.ntmps51 rfl ?_
 refine am (ai (aQ (3,0) _ rfl rfl) (ai (aQ (4,0) _ rfl rfl) (ai (aQ (5,0) _ rfl rfl) (cq rfl (aj (aq (am (bc rfl rfl rfl (zF rfl rfl rfl (ai (cg (r:=false) _ rfl (by rw [hup];rfl)) ?_))))))))))
 refine aj (aW rfl rfl (aS (am (ai (az _ aa rfl rfl rfl rfl) (ai (aB (7,0) aa rfl rfl) (bG rfl rfl rfl rfl rfl rfl (aj (aq (am (bc rfl rfl rfl ?_))))))))))
 refine cd rfl rfl rfl (gQ rfl rfl (beq_eq_false_iff_ne.2 hv) ?_)
 refine aj (aW rfl rfl (aS (am (bc rfl rfl rfl (bc rfl rfl rfl (eW rfl rfl rfl (ai (bn _ aa rfl) (bc rfl rfl rfl (cd rfl rfl rfl (kv rfl rfl (by rw [hd];exact beq_self_eq_true _) ?_))))))))))
 refine cN rfl (ax rfl rfl (aA _ aa rfl rfl rfl) (ax rfl rfl (aF _ aa rfl rfl ef) (ax rfl rfl (bn _ aa rfl) (ax rfl rfl (aA _ aa rfl rfl rfl) (ax rfl rfl (aF _ aa rfl rfl ee) (ax rfl rfl (bC (r:=true) _ _ rfl rfl (by rw [hl];exact beq_self_eq_true _)) ?_))))))
 exact ai (aE _ _ _ rfl bN) (cq rfl (aj (aG (fv rfl rfl))))
theorem Ds (s:Ns) (hup:s.up=true) (hv:s.ver=1) (P Q:Pg) (hd:s.dk.cells.length=Q.d) (hl:s.vol.length=Q.v):Spec Tryz.prog 51 (ba [jC s,hG P,hG Q] []) (aP (.v (.bool true)) []):=by
 refine Spec.ofN Tryz.func51 rfl Tryz.ntmps51 rfl ?_
 refine am (ai (aQ (3,0) _ rfl rfl) (ai (aQ (4,0) _ rfl rfl) (ai (aQ (5,0) _ rfl rfl) (cq rfl (aj (aq (am (bc rfl rfl rfl (zF rfl rfl rfl (ai (cg (r:=false) _ rfl (by rw [hup];rfl)) ?_))))))))))
 refine aj (aW rfl rfl (aS (am (ai (az _ aa rfl rfl rfl rfl) (ai (aB (7,0) aa rfl rfl) (bG rfl rfl rfl rfl rfl rfl (aj (aq (am (bc rfl rfl rfl ?_))))))))))
 refine cd rfl rfl rfl (kv rfl rfl (by rw [hv];rfl) ?_)
 refine aj (bL rfl rfl (an (ai (az _ aa rfl rfl rfl rfl) (bG rfl rfl rfl rfl rfl rfl (aj (aq ?_))))))
 refine aL (σ':=aD 31 [(3,_),(7,_)] [((3,0),_),((7,0),_)] [] []) kp ?_
 refine an (bc rfl rfl rfl (bc rfl rfl rfl (eW rfl rfl rfl (ai (bn _ aa rfl) (bc rfl rfl rfl (cd rfl rfl rfl (kv rfl rfl (by rw [hd];exact beq_self_eq_true _) ?_)))))))
 refine cN rfl (ax rfl rfl (aA _ aa rfl rfl rfl) (ax rfl rfl (aF _ aa rfl rfl ef) (ax rfl rfl (bn _ aa rfl) (ax rfl rfl (aA _ aa rfl rfl rfl) (ax rfl rfl (aF _ aa rfl rfl ee) (ax rfl rfl (bC (r:=true) _ _ rfl rfl (by rw [hl];exact beq_self_eq_true _)) ?_))))))
 exact ai (aE _ _ _ rfl bN) (cq rfl (aj (aG (fv rfl rfl))))

abbrev IY (n:Int):Nat:=(dL n 12).toNat
def Kw (n:Int):Pg:=⟨bW (onss.getD (IY n) []) 0,bY (onss.getD (IY n) []),(durs.getD (IY n) []).length,(vols.getD (IY n) []).length⟩
theorem vt (n:Int) (h: -9223372036854775808≤n∧n≤9223372036854775807):Spec Tryz.prog 39 (ba [.v (.int .i64 n)] []) (aP (hG (Kw n)) []):=tI n h.1 h.2
def Mx (n:Int):Int:=if IY n=6 then 1 else 0
theorem Jd {d v:List Tx} {ons:List (Nat×Bk)} (U:UOk d v ons) {tm:Int} (ht:TmC (bW ons 0) tm=true):mL ⟨bW ons 0,bY ons,d.length,v.length⟩ tm where
 pg:=by
  have hl:(d++v).length=d.length+v.length:=List.length_append
  refine ⟨⟨xt ons,by show Good _ (d.length+v.length) _ _ _ _;rw [← hl];exact U.good,fun h=> ?_⟩,by show d.length+v.length≤16;rw [← hl];exact U.len⟩
  rcases wC ons h with e | ⟨e,_,e2,e3,e4⟩
  ·exact .inl (by show (nr (kw ons 0)).getD h (-1) < 0;omega)
  have e5:bY ons h=(e:Int):=e2
  exact .inr ⟨by show 0≤bY ons h;omega,by show bY ons h < _;rw [e5];exact Int.ofNat_lt.2 e3,by show xt ons (bY ons h).toNat=0;rw [e5,Int.toNat_natCast];exact e4⟩
 cl:=U.c
 tc:=ht
theorem Mw (k:Nat) (h:k < 12):TmC (bW (onss.getD k []) 0) (if k=6 then 1 else 0)=true:=by
 rcases (show k=0∨k=1∨k=2∨k=3∨k=4∨k=5∨k=6∨k=7∨k=8∨k=9∨k=10∨k=11 by omega) with rfl | rfl | rfl | rfl | rfl | rfl | rfl | rfl | rfl | rfl | rfl | rfl <;> kernel_rfl
theorem BL (n:Int):mL (Kw n) (Mx n):=by
 have hlo:=ji n 12 ab
 have hhi:=jV n 12 ab
 have hk:IY n < 12:=by show (dL n 12).toNat < 12;omega
 exact Jd (JJ _ hk).1.toUOk (Mw _ hk)
abbrev HG (l:List Int) (k:Nat):Na:=iw (dL (l.getD k 0) 100000000)
theorem IG (l:List Int) (k:Nat):FI (HG l k):=FK (ji _ _ ab)
def Ki (a:Na) (s:Ns):Cz:=if s.up=false then ⟨1,((0:Nat):Int),s.counts.getD 0 0⟩ else if a.crash=true then ⟨0,0,0⟩ else ⟨1,(a.h:Int),s.counts.getD a.h 0⟩
def Kp (P Q:Pg) (dr:Int) (a:Na) (s:Ns):Ms:=if s.up=false then gI (cA s (cu P Q s) (iG s)) (cu P Q s) 0 1 3 dr a.tick (List.replicate 9 0) a.draws else if a.crash=true then { vars:=[],pc:=0,fin:=true } else gI { s with wait:=a.wait } (cu P Q s) a.h 1 3 dr a.tick a.names a.draws
theorem GT (P Q:Pg) (dr:Int) (a:Na) (s:Ns):HU P Q dr a s=DQ (Ki a s) (eG P Q dr a s).2 (Kp P Q dr a s):=by
 unfold Ki Kp
 by_cases hu:s.up=false
 ·rw [if_pos hu,if_pos hu]
  exact if_pos hu
 rw [if_neg hu,if_neg hu]
 by_cases hc:a.crash=true
 ·rw [if_pos hc,if_pos hc]
  refine ((if_neg hu).trans (if_pos hc)).trans ?_
  have e1:eG P Q dr a s=(la s (keepB s.dk.pend.length a.keeps),{}):=by unfold eG;rw [if_neg hu,if_pos hc]
  have e2:fC (kC [])=[]:=by simp [fC,kC]
  rw [e1]
  show KE=AV.agg [.v (.int .i64 0), .v (.int .i64 0), .v (.int .i64 0), .sl 0 (Cm ⟨0,0,0⟩ []), .v (.bool false), .v (.int .i64 0), .sl 0 (cw []), .sl 0 (cw []), .sl 0 (ri []), .v (.int .i64 0), .v (.bool false), .sl (fC (kC [])).length (cw (fC (kC [])))]
  rw [e2];rfl
 rw [if_neg hc,if_neg hc]
 exact (if_neg hu).trans (if_neg hc)
theorem HN {P Q:Pg} {tp tq dr:Int} (hP:mL P tp) (hQ:mL Q tq) (hd:0≤dr∧dr≤3) {i:Nat} (hi:i≤1000) {s:Ns} (hs:SqT P Q tp tq i s) {a:Na} (hw:FI a):
  Spec Tryz.prog 45 (ba [jC s,hG P,hG Q, .v (.int .i64 dr),AS a] []) (nS (eG P Q dr a s).1 (DQ (Ki a s) (eG P Q dr a s).2 (Kp P Q dr a s)) (fl s a (hN a s)) (jx P Q dr a s).length (GE (fl s a (hN a s)) (jx P Q dr a s))):=by
 rw [← GT]
 by_cases hu:s.up=true
 ·by_cases hc:a.crash=true
  ·exact tu hi hs.sq hs.sm hu hw hc
  exact yi hP hQ hi hs.sq hu (hs.tl hu) hd hw (by simpa using hc)
 exact vw hP hQ hi hs.sq hs.sm (by simpa using hu) hd hw
theorem Id {P Q:Pg} {tp tq:Int} {i:Nat} {s:Ns} (hs:SqT P Q tp tq i s):Spec Tryz.prog 51 (ba [jC s,hG P,hG Q] []) (aP (.v (.bool true)) []):=by
 by_cases hu:s.up=true
 ·obtain ⟨h,_⟩:=hs.sq.up hu
  by_cases hv:s.ver=1
  ·rw [if_pos hv] at h
   exact Ds s hu hv P Q h.dk.len h.vl
  rw [if_neg hv] at h
  exact BT s hu hv P Q h.dk.len h.vl
 exact EC s (by simpa using hu) P Q

def eP (h k:Nat):Int:=if k < h then -1 else 0
theorem Hj (h:Nat):ll (eP h) h (-1)=eP (h+1):=by
 funext k
 unfold ll eP
 by_cases h1:k=h
 ·rw [if_pos h1,if_pos ab]
 rw [if_neg h1]
 by_cases h2:k < h
 ·rw [if_pos h2,if_pos ab]
 rw [if_neg h2,if_neg ab]
def P13:Pg:=⟨[{ op:= .push,n:=5 },{ op:= .setVar,n:=0 },{ op:= .stop,n:=0 }],ll (eP 40) 10 0,0,1⟩
theorem Bx:Spec Tryz.prog 85 (ba [] []) (aP (hG P13) []):=by
 refine Spec.ofN Tryz.func85 rfl Tryz.ntmps85 rfl ?_
 refine am (ai (aB (0,0) aa rfl rfl) (aj (am (ai (aN _ aa rfl (by exact eR)) ?_))))
 refine ai (aN _ aa rfl (by exact eR)) ?_
 refine ai (aN _ aa rfl (by exact eR)) ?_
 refine ai (bg _ _ aa rfl ag (by (simp <;> rfl)) ah rfl) ?_
 refine ai (aN _ aa rfl (by exact Em)) ?_
 refine ai (aB (1,0) aa rfl rfl) (bG rfl rfl rfl rfl rfl rfl (aj (aU fun K3 hK3=> ?_)))
 refine am (be rfl (aj (ay ?_)))
 refine br (α:=Nat) (fun q=> q≤40) 18 [(0,_),(1,_)] [((0,0),_)] (fun q=> [(2, .v (.int .i64 (q:Int)))]) (fun q=> [((1,0), .box 26 [.sl 3 (inl P13.c), .v (.int .i64 (eP q 0)), .v (.int .i64 (eP q 1)), .v (.int .i64 (eP q 2)), .v (.int .i64 (eP q 3)), .v (.int .i64 (eP q 4)), .v (.int .i64 (eP q 5)), .v (.int .i64 (eP q 6)), .v (.int .i64 (eP q 7)), .v (.int .i64 (eP q 8)), .v (.int .i64 (eP q 9)), .v (.int .i64 (eP q 10)), .v (.int .i64 (eP q 11)), .v (.int .i64 (eP q 12)), .v (.int .i64 (eP q 13)), .v (.int .i64 (eP q 14)), .v (.int .i64 (eP q 15)), .v (.int .i64 (eP q 16)), .v (.int .i64 (eP q 17)), .v (.int .i64 (eP q 18)), .v (.int .i64 (eP q 19)), .v (.int .i64 (eP q 20)), .v (.int .i64 (eP q 21)), .v (.int .i64 (eP q 22)), .v (.int .i64 (eP q 23)), .v (.int .i64 (eP q 24)), .v (.int .i64 (eP q 25)), .v (.int .i64 (eP q 26)), .v (.int .i64 (eP q 27)), .v (.int .i64 (eP q 28)), .v (.int .i64 (eP q 29)), .v (.int .i64 (eP q 30)), .v (.int .i64 (eP q 31)), .v (.int .i64 (eP q 32)), .v (.int .i64 (eP q 33)), .v (.int .i64 (eP q 34)), .v (.int .i64 (eP q 35)), .v (.int .i64 (eP q 36)), .v (.int .i64 (eP q 37)), .v (.int .i64 (eP q 38)), .v (.int .i64 (eP q 39)), .v (.int .i64 0), .v (.int .i64 1)])]) [] [] (fun q=> 40 - q) 0 ?_ (by
  refine Le.mkJ [] [] rfl ?_ ?_ trivial trivial ?_
  ·exact ⟨(iP rfl),(iP rfl),(cp ag),trivial⟩
  ·exact ⟨(bM rfl rfl rfl),(fq rfl rfl rfl rfl lz),trivial⟩
  kernel_rfl) ?_
 ·omega
 intro q hq
 refine aU fun K5 hK5=> ?_
 refine am (aX rfl (ai (bm _ _ rfl rfl rfl) (aj (aR rfl (fun hc9=> ?_) (fun hc9=> ?_)))))
 ·skip
  refine bs (hK5 _ ?_)
  clear hK5;try clear K5
  refine aq (ay (an (aX rfl (bc rfl rfl rfl (ai (cY _ _ aa rfl rfl rfl q rfl ab (by exact congrArg (fun z=> 0+1+z) (Nat.mul_one q))) ?_)))))
  refine ai (dG _ _ aa rfl rfl rfl rfl (show 0+1+q+1≤43 by omega) ((congrArg (fun z=> fX (Hx (.sl 3 (inl P13.c)) (eP q) 0 1) z [.v (.int .i64 (-1))]) ab).trans ((tB _ _ _ _ q ab _).trans (by rw [Hj])))) ?_
  refine dY (an (aX rfl (ai (aZ _ _ rfl rfl (bE ab)) ?_)))
  refine be rfl (aJ (⟨q+1,?_,?_,?_⟩))
  ·omega
  ·skip
   refine Le.mkJ [] [] rfl ?_ ?_ trivial trivial ?_
   ·exact ⟨(iP rfl),(iP rfl),(cp ag),trivial⟩
   ·exact ⟨(bM rfl rfl rfl),(fq rfl rfl rfl rfl lz),trivial⟩
   kernel_rfl
  omega
 obtain rfl:q=40:=by omega
 refine bB (id (hK3 _ ?_))
 clear hK3;try clear K3
 refine am (bc rfl rfl rfl (ai (cY _ _ aa rfl rfl rfl 10 rfl ab ag) ?_))
 exact bG rfl rfl rfl rfl rfl rfl (aj (am (ai (az _ aa rfl rfl rfl rfl) (bG rfl rfl rfl rfl rfl rfl (aj (aG (bH (.inr rfl) rfl (.cellA aa rfl rfl rfl) (Le.out [] [] (.agg rfl lz) rfl rfl rfl trivial trivial))))))))
theorem p13_ok:mL P13 0 where
 pg:=by
  refine ⟨⟨fun i=> [0,1,0].getD i 0,fun i x hx=> ?_,fun h=> ?_⟩,by show 0+1≤16;omega⟩
  ·rw [Nat.zero_add]
   rcases i with _ | _ | _ | i
   all_goals first | (simp [P13] at hx;done) | (simp only [P13,List.getElem?_cons_zero,List.getElem?_cons_succ,Option.some.injEq] at hx;subst hx)
   all_goals refine ⟨?_,?_,fun j hj=> ?_⟩
   all_goals first | (simp [di,P13,Rg];done) | (simp [Opc.pops];done) | (simp [dT] at hj;done) | (simp [dT] at hj;subst hj;simp [P13,Opc.pops,Opc.puts];done)
  by_cases h1:h=10
  ·subst h1;exact .inr ⟨by decide,by decide,by decide⟩
  by_cases h2:h < 40
  ·refine .inl ?_
   show ll (eP 40) 10 0 h < 0
   unfold ll eP
   rw [if_neg h1,if_pos h2];omega
  have e:P13.e h=0:=by
   show ll (eP 40) 10 0 h=0
   unfold ll eP
   rw [if_neg h1,if_neg h2]
  rw [e]
  exact .inr ⟨Int.le_refl _,by decide,rfl⟩
 cl:=by decide
 tc:=by decide
abbrev qn:Tl:=⟨0,0,0,0,[],0,[]⟩
theorem Ml (kind idx q:Int) (hq:0 < q):rE qn kind idx q 0:=by
 have h:=ie [] (Nat.zero_le _) 0 0 0 kind idx q hq
 have e:oK [] 0 0 0 kind idx % q=0:=Int.zero_emod q
 rw [e] at h
 exact h
theorem Mv (l:List Int):((cw l).drop 0).take (l.length*1)=cw l:=by rw [List.drop_zero,Nat.mul_one,List.take_of_length_le (by rw [aO];omega)]
set_option maxHeartbeats 4000000 in
theorem wI (S1 S2 S3:Ns) (r1 r2:Nr) (R1 R2:Ms) (c1 c2:Cz) (P:Pg)
  (hp:Spec Tryz.prog 85 (ba [] []) (aP (hG P) []))
  (hS:Spec Tryz.prog 56 (aY [jC {},hG P, .v (.int .i64 0), .v (.int .i64 0), .v (.int .i64 1), .v (.int .i64 0),jb] (oh qn 0 [] (5,9))) (iB c1 R1 (S1,r1) qn 0 []))
  (hH:Spec Tryz.prog 81 (aY [jC S1,hG P, .v (.int .i64 10), .v (.int .i64 0), .v (.int .i64 1), .v (.int .i64 0),DN (List.replicate 9 0),jb] (oh qn 0 [] (5,9))) (iB c2 R2 (S2,r2) qn 0 []))
  (hC:Spec Tryz.prog 53 (aY [jC S2,jb] (oh qn 0 [] (5,9))) (bb (jC S3) (oh qn 0 [] (5,8)) [(4,9),(5,8)] [(4,9)]))
  (hw:Spec Tryz.prog 51 (ba [jC S1,hG P,hG P] []) (aP (.v (.bool true)) []))
  (hv2:Spec Tryz.prog 47 (ba [jC S2] []) (aP (.sl 1 (cw [5])) []))
  (hv3:Spec Tryz.prog 47 (ba [jC S3] []) (aP (.sl 1 (cw [0])) []))
  (e1:S1.up=true) (e2:S2.counts.getD 0 0=1) (e3:S2.counts.getD 10 0=1) (e4:S2.clock=2) (e5:S3.epoch=1):
  Spec Tryz.prog 50 (ba [] []) (aP (.v (.bool true)) []):=by
 have hn:=su
 have hs5:=sk 1 1 [5] [5] rfl rfl ab ab
 have hs0:=sk 1 1 [0] [0] rfl rfl ab ab
 refine Spec.ofN Tryz.func50 rfl Tryz.ntmps50 rfl ?_
 refine am (cq rfl (aj (am (ai (aN _ aa rfl (by exact rq)) ?_))))
 refine ai (aQ (5,0) _ rfl rfl) (vH rfl (aj (aq ?_)))
 refine aL (Le.trans (Le.nilB (5,0) 4 (60,0) 111 7 rfl rfl rfl) (Le.nil0 (5,0) 3 rfl rfl)) ?_
 refine an (ai (aH aa (by repeat' (exact cW)) (hn) rfl rfl) ?_)
 refine ai (aH aa (by repeat' (exact cW)) (hp) rfl rfl) ?_
 refine bS rfl (ai (iX _ _ (rfl:_=[AV.ptr _ _]) (rfl:_=[])) ?_)
 refine ai (bR aa [((4,9),(5,0)),((5,9),(60,0)),((1,8),(11,0)),((2,8),(11,1)),((3,8),(11,2)),((6,8),(11,3)),((5,8),(11,4))] ar (hS) ob tr tr rfl rfl ae ae) ?_
 refine ai (aI _ tA) (ai (cm _ rfl oZ) (ai (cm _ rfl oZ) (ai (aB (2,0) aa rfl rfl) (ai (aB (3,0) aa rfl rfl) (bG rfl rfl rfl rfl rfl rfl (bG rfl rfl rfl rfl rfl rfl (aj (aq (aq ?_)))))))))
 refine aL (Le.frzB (ys:=cw S1.timers) (2,0) 7 rfl rfl rfl rfl (Mv _) (by rw [aO];omega)) ?_
 refine bJ 10 [14,15,16,17,18,19,20,21,22,23] [] ae ae rfl (aK rfl) (rfl:_=[_,_,_,_,_,_,_,_,_,_]) (rfl:_=[]) ?_
 refine ap (_,[]) (fun τ=> az _ aa rfl rfl rfl rfl) ?_
 refine fD rfl ?_
 refine ap (_,[]) (fun τ=> (aH aa (by repeat' (exact cW)) (hp) rfl rfl)) ?_
 refine fF rfl ?_
 refine ap (_,[]) (fun τ=> (aH aa (by repeat' (exact cW)) (hp) rfl rfl)) ?_
 refine fE rfl ?_
 refine ap (_,[]) (fun τ=> (aH aa al (hw) rfl rfl)) ?_
 refine fS rfl ?_
 refine ap (_,[]) (fun τ=> cg _ rfl rfl) ?_
 refine gf rfl ?_
 refine ap (_,[]) (fun τ=> aI _ bN) ?_
 refine gS rfl ?_
 refine bo (_,[]) rfl (fun τ=> rfl) (fun τ=> aA _ aa rfl rfl rfl) ?_
 refine ir rfl ?_
 refine bo (_,[]) rfl (fun τ=> rfl) (fun τ=> aF _ aa rfl rfl zx) ?_
 refine jE rfl ?_
 refine bo (_,[]) rfl (fun τ=> rfl) (fun τ=> cg (r:=false) _ rfl (by rw [e1];rfl)) ?_
 refine jU rfl ?_
 refine ap (_,[]) (fun τ=> aE _ _ _ rfl bN) ?_
 refine fy rfl (bj ⟨rfl,?_⟩)
 refine aj (aW rfl rfl (aS (aU fun K6 hK6=> ?_)))
 refine aL (σ':=aD 76 [(1,_),(2,_)] [((5,0),_),((11,4),_),((2,0),_)] [] []) kp ?_
 refine ia 10 [25,26,27,28,29,30,24,31,32] [(30,0),(30,1),(30,2),(30,3),(5,0),(30,4),(11,4),(2,0)] [[(2,0)],[(2,0)],[(2,0)],[(2,0)],[(2,0)],[(2,0)],[(2,0)],[(2,0)],[],[]] ae ae rfl (aK rfl) (rfl:_=[_,_,_,_,_,_,_,_,_,_]) (rfl:_=[]) ?_
 refine ap (_,[]) (fun τ=> az _ aa rfl rfl rfl rfl) ?_
 refine fD rfl ?_
 refine ap (_,[]) (fun τ=> (aH aa (by repeat' (exact cW)) (hp) rfl rfl)) ?_
 refine fF rfl ?_
 refine ap (_,[]) (fun τ=> aN _ aa rfl (by exact Ce)) ?_
 refine fE rfl ?_
 refine ap (_,[]) (fun τ=> aI _ ca) ?_
 refine fS rfl ?_
 refine ap (_,[]) (fun τ=> iX _ _ (rfl:_=[AV.ptr _ _]) (rfl:_=[])) ?_
 refine gf rfl ?_
 refine ap (_,[((30,0),_),((30,1),_),((30,2),_),((30,3),_),((5,0),_),((30,4),_),((11,4), .gone)]) (fun τ=> (bR aa [((4,9),(5,0)),((5,9),(11,4)),((1,8),(30,0)),((2,8),(30,1)),((3,8),(30,2)),((6,8),(30,3)),((5,8),(30,4))] ar (hH) ob tr tr rfl rfl ae ae)) ?_
 refine gS rfl ?_
 refine ap (_,[]) (fun τ=> aI _ tA) ?_
 refine ir rfl ?_
 refine ap (_,[]) (fun τ=> cm _ rfl oZ) ?_
 refine jE rfl ?_
 refine ap (_,[]) (fun τ=> cm _ rfl oZ) ?_
 refine jU rfl ?_
 refine ap (_,[((2,0),_)]) (fun τ=> dG _ _ aa rfl (eE rfl (by exact dM) rfl) rfl rfl (Nat.le_of_ble_eq_true rfl) rfl) ?_
 refine fy rfl (bj ⟨⟨rfl,by kernel_rfl⟩,?_⟩)
 refine aJ (hK6 _ ?_)
 clear hK6;try clear K6
 refine aq (aq ?_)
 refine aL (Le.frzB (ys:=cw S2.timers) (2,0) 7 rfl rfl rfl rfl (Mv _) (by rw [aO];omega)) ?_
 refine an (ai (az _ aa rfl rfl rfl rfl) (ai (aH aa al (hv2) rfl rfl) ?_))
 refine ai (bg _ _ aa rfl ag (by (simp <;> rfl)) ah rfl) ?_
 refine ai (aH aa al (hs5) rfl rfl) ?_
 refine ai (cg _ rfl rfl) (cN rfl (ax rfl rfl (aA _ aa rfl rfl rfl) (ax rfl rfl (cY _ _ aa rfl rfl rfl 0 rfl ab (by exact Nat.zero_add _)) ?_)))
 refine ax rfl rfl (aF _ aa rfl rfl ee) (ax rfl rfl (bU (r:=false) _ _ rfl rfl (by show (S2.counts.getD 0 0 !=1)=false;rw [e2];rfl)) ?_)
 refine ai (aE _ _ _ rfl bN) (cN rfl (ax rfl rfl (aA _ aa rfl rfl rfl) (ax rfl rfl (cY _ _ aa rfl rfl rfl 10 rfl ab ag) ?_)))
 refine ax rfl rfl (aF _ aa rfl rfl ee) (ax rfl rfl (bU (r:=false) _ _ rfl rfl (by show (S2.counts.getD 10 0 !=1)=false;rw [e3];rfl)) ?_)
 refine ai (aE _ _ _ rfl bN) (cN rfl (ax rfl rfl (aA _ aa rfl rfl rfl) (ax rfl rfl (aF _ aa rfl rfl ee) (ax rfl rfl (bU (r:=false) _ _ rfl rfl (by rw [e4];rfl)) ?_))))
 refine ai (aE _ _ _ rfl bN) (aj (aW rfl rfl (aS (aU fun K9 hK9=> ?_))))
 refine aL (σ':=aD 76 [(1,_),(2,_)] [((5,0),_),((2,0),_),((30,4),_)] [] []) kp ?_
 refine an (ai (az _ aa rfl rfl rfl rfl) (bS rfl (ai (iX _ _ (rfl:_=[AV.ptr _ _]) (rfl:_=[])) ?_)))
 refine ai (bR aa [((4,9),(5,0)),((5,9),(30,4)),((5,8),(58,0))] ar (hC) ob tr tr rfl rfl ae ae) ?_
 refine bG rfl rfl rfl rfl rfl rfl (aJ (hK9 _ ?_))
 clear hK9;try clear K9
 refine am (ai (az _ aa rfl rfl rfl rfl) (ai (aH aa al (hv3) rfl rfl) ?_))
 refine ai (bg _ _ aa rfl ag (by (simp <;> rfl)) ah rfl) ?_
 refine ai (aH aa al (hs0) rfl rfl) ?_
 refine cN rfl (ax rfl rfl (aA _ aa rfl rfl rfl) (ax rfl rfl (aF _ aa rfl rfl ee) (ax rfl rfl (bC (r:=true) _ _ rfl rfl (by rw [e5];rfl)) ?_)))
 refine ai (aE _ _ _ rfl bN) (cN rfl (ax rfl rfl (aI _ ca) (ax rfl rfl (aT _ rfl rfl) (ax rfl rfl (aA _ aa rfl rfl rfl) (ax rfl rfl (aF _ aa rfl rfl eQ) (ax rfl rfl (dh _ aa rfl rfl) (ax rfl rfl (bC _ _ rfl rfl rfl) (ai (aE _ _ _ rfl bN) (cq rfl (aj ?_))))))))))
 exact aG (fv rfl rfl)
abbrev Ft:Ns:={ up:=true,ver:=0,clock:=1,vol:=[0],counts:=(List.replicate 41 0).set 0 1 }
abbrev Kb:Ns:={ up:=true,ver:=0,clock:=2,vol:=[5],counts:=((List.replicate 41 0).set 0 1).set 10 1 }
abbrev Nu:Ns:={ up:=false,ver:=0,clock:=2,vol:=[0],epoch:=1,counts:=(((List.replicate 41 0).set 0 1).set 10 1).set 40 1 }
theorem JZ (k:Nat) (l:List Int) (h: ∀ x∈l,0≤x∧x≤1): -1000000≤l.getD k 0∧l.getD k 0≤1000000:=by
 by_cases hk:k < l.length
 ·rw [List.getD_eq_getElem?_getD,List.getElem?_eq_getElem hk]
  have:=h _ (List.getElem_mem hk)
  simp only [Option.getD_some];omega
 rw [List.getD_eq_getElem?_getD,List.getElem?_eq_none ab];simp
theorem DY:Spec Tryz.prog 50 (ba [] []) (aP (.v (.bool true)) []):=by
 have hsm:js {}:=⟨Nat.zero_le _,Nat.zero_le _,Nat.zero_le _,Nat.zero_le _⟩
 have hdi:iJ ({}:Ns).dk:=fun w hw=> (by cases hw)
 have hdk:DkOk 0 ({}:Ns).dk:=⟨rfl,fun v hv=> (by cases hv),Nat.zero_le _,fun w hw=> (by cases hw)⟩
 have hb:=qj (s:={}) p13_ok.pg p13_ok.cl p13_ok.tc hdk rfl (fun k=> JZ k (List.replicate 41 0) ah) ah 0
 have hld: ∀ (i:Nat) (k:Int),i≤100000→2≤k→k≤4→rE qn 1 (i:Int) k (gi [] i k):=fun i k _ h2 _=> by
  have e:gi [] i k=0:=Int.zero_emod k
  rw [e];exact Ml _ _ _ ab
 have hS:=xr P13 0 {} hsm hdi 0 hb 0 1 0 0 [] (cU ab) (cU ab) (cU ah) ab qn (fun h=> absurd h (Int.lt_irrefl 0)) hld _ rfl
 have q1:gW {} P13 0 0 1 0 0 []=(Ft,{}):=by kernel_rfl
 have a1:(gI (cA {} P13 0) P13 0 0 1 0 0 (List.replicate 9 0) []).asked=[]:=by kernel_rfl
 rw [q1] at hS
 have o1:pu 0+(gI (cA {} P13 0) P13 0 0 1 0 0 (List.replicate 9 0) []).asked.length=0:=by rw [a1];rfl
 have p1:pv qn 0 0++tS qn [] (gI (cA {} P13 0) P13 0 0 1 0 0 (List.replicate 9 0) []).asked=[]:=by rw [a1];rfl
 rw [o1,p1] at hS
 have h1:HdOk P13 0 Ft:=⟨p13_ok.pg,p13_ok.cl,p13_ok.tc,⟨hdk,rfl,fun v hv=> (by rw [List.mem_singleton.1 hv];exact og),⟨List.Pairwise.nil,fun x hx=> (by cases hx)⟩,rfl⟩, .inl rfl,fun k=> JZ k _ ah,by decide⟩
 have hH:=uV P13 0 Ft h1 10 ab 0 1 0 0 (List.replicate 9 0) [] rfl Ik (cU ab) (cU ab) (cU ah) ab qn (fun h=> absurd h (Int.lt_irrefl 0)) hld _ rfl
 have q2:dw Ft P13 10 0 1 0 0 (List.replicate 9 0) []=(Kb,{}):=by kernel_rfl
 have a2:(gI Ft P13 10 0 1 0 0 (List.replicate 9 0) []).asked=[]:=by kernel_rfl
 rw [q2] at hH
 have o2:pu 0+(gI Ft P13 10 0 1 0 0 (List.replicate 9 0) []).asked.length=0:=by rw [a2];rfl
 have p2:pv qn 0 0++tS qn [] (gI Ft P13 10 0 1 0 0 (List.replicate 9 0) []).asked=[]:=by rw [a2];rfl
 rw [o2,p2] at hH
 have h2:js Kb:=⟨Nat.zero_le _,Nat.zero_le _,ah,Nat.zero_le _⟩
 have hC:=lU Kb h2 hdi rfl ah ah qn 0 [] rfl ab [] (fun i hi=> absurd hi (Nat.not_lt_zero _))
 have hw:=BT Ft rfl ah P13 P13 rfl rfl
 have hv2:=mI Kb h2 hdi
 have hv3:=mI Nu ⟨Nat.zero_le _,Nat.zero_le _,ah,Nat.zero_le _⟩ hdi
 exact wI Ft Kb Nu {} {} _ _ _ _ P13 Bx hS hH hC hw hv2 hv3 rfl rfl rfl rfl rfl

theorem xW (l:List Int) (k:Nat) (h:k < (jv (l.take 10)).length):(jv (l.take 10)).getD k JV=HG l k∧k < 10:=by
 have h1:k < (l.take 10).length:=by rw [mf] at h;exact h
 have h2:k < 10∧k < l.length:=by rw [List.length_take] at h1;omega
 refine ⟨?_,h2.1⟩
 unfold jv
 rw [List.getD_eq_getElem?_getD,List.getElem?_map,List.getElem?_eq_getElem h1,List.getElem_take]
 show iw (dL (l[k]) 100000000)=iw (dL (l.getD k 0) 100000000)
 rw [List.getD_eq_getElem?_getD,List.getElem?_eq_getElem h2.2];rfl

theorem HV (l:List Na) (k:Nat) (h:k < l.length) (j:Nat) (hj:j < 15):(CN l)[k*15+j]? =(Gs (l.getD k JV))[j]? :=by
 have e:l.getD k JV=l[k]:=by rw [List.getD_eq_getElem?_getD,List.getElem?_eq_getElem h];rfl
 rw [e];exact kR Gs 15 (fun _=> rfl) l k j h hj

theorem SqT.dk {P Q:Pg} {tp tq:Int} {i:Nat} {s:Ns} (h:SqT P Q tp tq i s): ∃ n,DkOk n s.dk:=by
 by_cases hu:s.up=true
 ·exact ⟨_,(h.sq.up hu).1.dk⟩
 exact (h.sq.dn (by simpa using hu)).1
theorem SqT.din {P Q:Pg} {tp tq:Int} {i:Nat} {s:Ns} (h:SqT P Q tp tq i s):iJ s.dk:=fun w hw=> by
 obtain ⟨n,hd⟩:=h.dk
 obtain ⟨b1,b2,_⟩:=hd.pr w hw
 have:=hd.len
 exact ⟨b1,by omega⟩
end Go.Proofs.YtmjnackchaahbaaGreat
