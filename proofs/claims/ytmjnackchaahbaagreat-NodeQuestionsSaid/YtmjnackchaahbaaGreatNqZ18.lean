/- part 18 -/
import Derived.Test.YtmjnackchaahbaaGreatNqZ17
set_option linter.unusedSimpArgs false
set_option linter.unusedVariables false
namespace Go.Proofs.YtmjnackchaahbaaGreat
open Go.RowKit

theorem wE {names:List Int} (hl:names.length=9) (self nodes clock:Int):(ew names self nodes clock).getD 0 0=self∧(ew names self nodes clock).getD 1 0=nodes∧(ew names self nodes clock).getD 2 0=clock∧
  (ew names self nodes clock).getD 3 0=names.getD 3 0∧(ew names self nodes clock).getD 4 0=names.getD 4 0∧(ew names self nodes clock).getD 5 0=names.getD 5 0∧(ew names self nodes clock).getD 6 0=names.getD 6 0∧(ew names self nodes clock).getD 7 0=names.getD 7 0∧(ew names self nodes clock).getD 8 0=names.getD 8 0:=by
 match names,hl with
 | [a,b,c,d,e,f,g,h,i],_=> exact ⟨rfl,rfl,rfl,rfl,rfl,rfl,rfl,rfl,rfl⟩
structure HdOk (P:Pg) (tm:Int) (s:Ns):Prop where
 pg:mW P
 cl:P.c.length≤1000000
 tc:TmC P.c tm=true
 ns:tH P s
 tl:qS tm s.timers
 cb: ∀ k, -1000000≤s.counts.getD k 0∧s.counts.getD k 0≤1000000
 ck: -1000000≤s.clock∧s.clock≤1000000
theorem HdOk.sm {P:Pg} {tm:Int} {s:Ns} (h:HdOk P tm s):jY s∧jH s.dk:=by
 have h1:=h.ns.dk.len
 have h2:=h.ns.dk.pn
 have h3:=h.ns.vl
 have h4:=h.pg.nv
 refine ⟨⟨by omega,by omega,by omega,?_⟩,fun w hw=> ?_⟩
 ·rcases h.tl with h | h <;> rw [h] <;> simp
 obtain ⟨b1,b2,_⟩:=h.ns.dk.pr w hw
 exact ⟨b1,by omega⟩
abbrev MN (t:Tl) (np:Nat) (pre:List PV):Tl:={ t with np:=np,pre:=pre }
theorem Ah {clock drift tick:Int} (h:drift≤0):cT clock drift tick=clock+1:=by unfold cT;rw [if_neg ab,Int.add_zero]
theorem BU {clock drift tick:Int} (h:0 < drift):cT clock drift tick=clock+1+tick % (drift+1):=by unfold cT;rw [if_pos h]
abbrev gT (s:Ns) (P:Pg) (h:Nat) (self nodes drift tick:Int) (names ans:List Int):Ms:=qy P h (ew names self nodes (cT s.clock drift tick)) (s.dk.view++s.vol) ans
theorem tR (s:Ns) (P:Pg) (h:Nat) (self nodes drift tick:Int) (names ans:List Int):cU s h (cT s.clock drift tick) P (gT s P h self nodes drift tick names ans) (gT s P h self nodes drift tick names ans).acts.length=dy s P h self nodes drift tick names ans:=by
 obtain ⟨h1,h2,_⟩:=tv P h (ew names self nodes (cT s.clock drift tick)) (s.dk.view++s.vol) ans
 show ((gT s P h self nodes drift tick names ans).acts.take (gT s P h self nodes drift tick names ans).acts.length).foldl eh (Oa s h (cT s.clock drift tick) ((gT s P h self nodes drift tick names ans).vars.drop P.d),{})=_
 rw [List.take_length]
 unfold dy
 show _=(jb P h (ew names self nodes (cT s.clock drift tick)) (s.dk.view++s.vol) ans).acts.foldl eh _
 rw [← h1,show (gE s P h self nodes drift tick names ans).vars=(gT s P h self nodes drift tick names ans).vars from h2.symm]
def pt (t:Tl) (drift tick:Int):List PV:=if 0 < drift then rA t 2 0 (drift+1) (tick % (drift+1)) else []
def hY (drift:Int):Nat:=if 0 < drift then 1 else 0
theorem rQ (P:Pg) (tm:Int) (s:Ns) (hs:HdOk P tm s) (h:Nat) (hh:h < 40) (self nodes drift tick:Int) (names ans:List Int) (mb:names.length=9) (hn: ∀ i,Rg (names.getD i 0)) (h1:Rg self) (h2:Rg nodes) (h3:Rg (cT s.clock drift tick)) (hdr:0≤drift∧drift≤1000) (t:Tl)
  (hlk:0 < drift→sB t 2 0 (drift+1) (tick % (drift+1))) (hld: ∀ (i:Nat) (k:Int),i≤100000→2≤k→k≤4→sB t 1 (i:Int) k (gv ans i k)) (R:Ms) (hR:R=gT s P h self nodes drift tick names ans) (n0:Nat) (L0:List PV) (hn0:n0≤10) (hL0:L0.length=n0*7) (h00:0 < drift→n0=0∧L0=[]):
  Spec Tryz.prog 81 (aY [jZ s,il P, .v (.int .i64 (h:Int)), .v (.int .i64 self), .v (.int .i64 nodes), .v (.int .i64 drift),Dv names,jL] (pu t n0 L0 (5,9)))
   (jc ⟨self,(h:Int),s.counts.getD h 0⟩ R (dy s P h self nodes drift tick names ans) t (n0+hY drift+R.asked.length) (L0++pt t drift tick++tI t ans R.asked)):=by
 obtain ⟨hsm,hin⟩:=hs.sm
 have hpn:=hs.pg.nv
 obtain ⟨v1,v2⟩:=hs.ns.dk.view
 have hvl:=hs.ns.vl
 have hiv:(s.dk.view++s.vol).length=P.d+P.v:=by rw [List.length_append,v1,hvl]
 have hir: ∀ v∈s.dk.view++s.vol,Rg v:=fun v hv=> (List.mem_append.1 hv).elim (v2 v) (hs.ns.vr v)
 have wO:=rz hn h1 h2 h3
 obtain ⟨a1,a2,a3⟩:=tv P h (ew names self nodes (cT s.clock drift tick)) (s.dk.view++s.vol) ans
 obtain ⟨iv,_,_⟩:=uR hs.pg (h:=h) (names:=ew names self nodes (cT s.clock drift tick)) (vars:=s.dk.view++s.vol) (ans:=ans) wO hiv hir
 have hRv:R.vars.length=P.d+P.v:=by rw [hR];show (qy _ _ _ _ _).vars.length=_;rw [a2];exact iv.vl
 have hRa:R.acts.length≤500:=by rw [hR];exact Fe _ _ _ _ _
 have hac: ∀ a∈R.acts,xn tm a∧Rg a.b:=fun a ha=> by
  rw [hR] at ha
  have ha:a∈(jb P h (ew names self nodes (cT s.clock drift tick)) (s.dk.view++s.vol) ans).acts:=a1 ▸ ha
  obtain ⟨⟨_,q1,_,_⟩,_,_⟩:=iv.ac a ha
  exact ⟨vu hs.tc _ _ _ _ a ha,q1⟩
 have hq:=Ja ⟨self,(h:Int),s.counts.getD h 0⟩ (h:=h) (ck:=cT s.clock drift tick) (P:=P) (R:=R) (TmC.rg hs.tc) hac hs.tl hs.ns.dk ab ab hRa
 obtain ⟨g0,g1,g2,g3,g4,g5,g6,g7,g8⟩:=wE mb self nodes (cT s.clock drift tick)
 have hrun:=fun (t':Tl) (ht:yh ⟨P,s.dk.view++s.vol,ew names self nodes (cT s.clock drift tick),ans,t'⟩)=> Jq P hs.pg hs.cl h hh (ew names self nodes (cT s.clock drift tick)) (s.dk.view++s.vol) ans wO hiv hir t' ht R hR
 rw [g0,g1,g2,g3,g4,g5,g6,g7,g8] at hrun
 rw [← tR,← hR]
 by_cases hd:0 < drift
 ·obtain ⟨rfl,rfl⟩:=h00 hd
  have hmod:0≤tick % (drift+1)∧tick % (drift+1) < drift+1:=⟨Int.emod_nonneg _ ab,Int.emod_lt_of_pos _ ab⟩
  have hv:=hrun (MN t 1 (rA t 2 0 (drift+1) (tick % (drift+1)))) ⟨by show 1≤10;omega,rfl,fun i k x y z=> hld i k x y z⟩
  rw [BU hd] at hv hq ⊢
  rw [show pt t drift tick=rA t 2 0 (drift+1) (tick % (drift+1)) from if_pos hd,show hY drift=1 from if_pos hd,Nat.zero_add,List.nil_append]
  exact Pq s hsm hin hs.ns.ct P h hh self nodes drift (tick % (drift+1)) names t hd (hlk hd) ⟨hmod.1,by omega⟩ ab hs.cb hs.ck R (tI t ans R.asked) hv ab ab hRa hq
 have hv:=hrun (MN t n0 L0) ⟨hn0,hL0,fun i k x y z=> hld i k x y z⟩
 rw [Ah ab] at hv hq ⊢
 rw [show pt t drift tick=[] from if_neg hd,show hY drift=0 from if_neg hd,Nat.add_zero,List.append_nil]
 exact Ri s hsm hin hs.ns.ct P h hh self nodes drift 0 names t n0 L0 ab hs.cb hs.ck R (tI t ans R.asked) hv ab ab hRa hq
theorem uI (P:Pg) (tm:Int) (s:Ns) (hs:HdOk P tm s) (h:Nat) (hh:h < 40) (self nodes drift tick:Int) (names ans:List Int) (mb:names.length=9) (hn: ∀ i,Rg (names.getD i 0)) (h1:Rg self) (h2:Rg nodes) (h3:Rg (cT s.clock drift tick)) (hdr:0≤drift∧drift≤1000) (t:Tl)
  (hlk:0 < drift→sB t 2 0 (drift+1) (tick % (drift+1))) (hld: ∀ (i:Nat) (k:Int),i≤100000→2≤k→k≤4→sB t 1 (i:Int) k (gv ans i k)) (R:Ms) (hR:R=gT s P h self nodes drift tick names ans):
  Spec Tryz.prog 81 (aY [jZ s,il P, .v (.int .i64 (h:Int)), .v (.int .i64 self), .v (.int .i64 nodes), .v (.int .i64 drift),Dv names,jL] (pu t 0 [] (5,9)))
   (jc ⟨self,(h:Int),s.counts.getD h 0⟩ R (dy s P h self nodes drift tick names ans) t (hY drift+R.asked.length) (pt t drift tick++tI t ans R.asked)):=by
 have:=rQ P tm s hs h hh self nodes drift tick names ans mb hn h1 h2 h3 hdr t hlk hld R hR 0 [] (Nat.zero_le _) rfl (fun _=> ⟨rfl,rfl⟩)
 rwa [Nat.zero_add,List.nil_append] at this

theorem Iv (i:Nat):Rg ((List.replicate 9 (0:Int)).getD i 0):=by
 by_cases hi:i < 9
 ·rw [List.getD_eq_getElem?_getD,List.getElem?_replicate,if_pos hi];exact oS
 rw [List.getD_eq_getElem?_getD,List.getElem?_replicate,if_neg hi];exact oS
theorem CX (P:Pg) (tm:Int) (s:Ns) (hs:jY s) (ho:jH s.dk) (ver:Int) (hb:HdOk P tm (cQ s P ver)) (self nodes drift tick:Int) (ans:List Int) (h1:Rg self) (h2:Rg nodes) (h3:Rg (cT s.clock drift tick)) (hdr:0≤drift∧drift≤1000) (t:Tl)
  (hlk:0 < drift→sB t 2 0 (drift+1) (tick % (drift+1))) (hld: ∀ (i:Nat) (k:Int),i≤100000→2≤k→k≤4→sB t 1 (i:Int) k (gv ans i k)) (R:Ms) (hR:R=gT (cQ s P ver) P 0 self nodes drift tick (List.replicate 9 0) ans) (n0:Nat) (L0:List PV) (hn0:n0≤10) (hL0:L0.length=n0*7) (h00:0 < drift→n0=0∧L0=[]):
  Spec Tryz.prog 56 (aY [jZ s,il P, .v (.int .i64 ver), .v (.int .i64 self), .v (.int .i64 nodes), .v (.int .i64 drift),jL] (pu t n0 L0 (5,9)))
   (jc ⟨self,((0:Nat):Int),s.counts.getD 0 0⟩ R (mR s P ver self nodes drift tick ans) t (n0+hY drift+R.asked.length) (L0++pt t drift tick++tI t ans R.asked)):=by
 have hpn:=hb.pg.nv
 have hH:=rQ P tm (cQ s P ver) hb 0 ab self nodes drift tick (List.replicate 9 0) ans rfl Iv h1 h2 h3 hdr t hlk hld R hR n0 L0 hn0 hL0 h00
 by_cases hd:s.dk.cells.length=P.d
 ·exact PK s hs ho P ver self nodes drift t n0 L0 hd ab ab _ R _ _ _ hH
 exact QV s hs ho P ver self nodes drift t n0 L0 hd ab ab _ R _ _ _ hH
theorem xB (P:Pg) (tm:Int) (s:Ns) (hs:jY s) (ho:jH s.dk) (ver:Int) (hb:HdOk P tm (cQ s P ver)) (self nodes drift tick:Int) (ans:List Int) (h1:Rg self) (h2:Rg nodes) (h3:Rg (cT s.clock drift tick)) (hdr:0≤drift∧drift≤1000) (t:Tl)
  (hlk:0 < drift→sB t 2 0 (drift+1) (tick % (drift+1))) (hld: ∀ (i:Nat) (k:Int),i≤100000→2≤k→k≤4→sB t 1 (i:Int) k (gv ans i k)) (R:Ms) (hR:R=gT (cQ s P ver) P 0 self nodes drift tick (List.replicate 9 0) ans):
  Spec Tryz.prog 56 (aY [jZ s,il P, .v (.int .i64 ver), .v (.int .i64 self), .v (.int .i64 nodes), .v (.int .i64 drift),jL] (pu t 0 [] (5,9)))
   (jc ⟨self,((0:Nat):Int),s.counts.getD 0 0⟩ R (mR s P ver self nodes drift tick ans) t (hY drift+R.asked.length) (pt t drift tick++tI t ans R.asked)):=by
 have:=CX P tm s hs ho ver hb self nodes drift tick ans h1 h2 h3 hdr t hlk hld R hR 0 [] (Nat.zero_le _) rfl (fun _=> ⟨rfl,rfl⟩)
 rwa [Nat.zero_add,List.nil_append] at this
theorem vn {P:Pg} {tm:Int} {s:Ns} {m:Nat} (hp:mW P) (hc:P.c.length≤1000000) (ht:TmC P.c tm=true) (hd:DkOk m s.dk) (hct:s.counts.length=41) (hcb: ∀ k, -1000000≤s.counts.getD k 0∧s.counts.getD k 0≤1000000) (hck: -1000000≤s.clock∧s.clock≤1000000) (ver:Int):HdOk P tm (cQ s P ver) where
 pg:=hp
 cl:=hc
 tc:=ht
 ns:={
  dk:=by
   show DkOk P.d (if s.dk.cells.length=P.d then s.dk else s.dk.resize P.d)
   split
   ·rename_i h
    have:=hd.len
    rwa [← h,this]
   exact hd.resize P.d
  vl:=List.length_replicate
  vr:=fun v hv=> by
   have hv:v∈List.replicate P.v (0:Int):=hv
   rw [List.mem_replicate] at hv;rw [hv.2];exact oS
  tm:=⟨List.Pairwise.nil,fun x hx=> by cases hx⟩
  ct:=hct }
 tl:= .inl rfl
 cb:=hcb
 ck:=hck

abbrev Dx (c:Cz) (r:Nr) (o:Ms):AV:= .agg [.v (.int .i64 c.a), .v (.int .i64 c.b), .v (.int .i64 c.c), .sl r.sent.length (Al c r.sent), .v (.bool r.repl), .v (.int .i64 r.value), .sl r.fails.length (cw r.fails), .sl o.vars.length (cw o.vars), .sl o.acts.length (vA o.acts), .v (.int .i64 (o.steps:Int)), .v (.bool (!o.fin)), .sl (fz (kI o.cov)).length (cw (fz (kI o.cov)))]
abbrev fm (s:Ns) (a:Na) (h:Nat):Tl:=⟨1,(h:Int),cO s h,(ll 1 (h:Int) (cO s h) a.tick a.draws a.keeps).length,ri (ll 1 (h:Int) (cO s h) a.tick a.draws a.keeps),0,[]⟩
abbrev nG (s':Ns) (rd:AV) (t:Tl) (n:Nat) (L:List PV):St:=aP (.tup [jZ s',rd, .ptr (4,8) 0]) [((4,8), .box 103 [.v (.int .i64 t.c1), .v (.int .i64 t.c2), .v (.int .i64 t.c3), .sl t.na t.A, .ref (5,8) 0 n]),((5,8), .row 111 7 L)]
abbrev Kc:AV:= .agg [.v (.int .i64 0), .v (.int .i64 0), .v (.int .i64 0), .sl 0 [], .v (.bool false), .v (.int .i64 0), .sl 0 [], .sl 0 [], .sl 0 [], .v (.int .i64 0), .v (.bool false), .sl 0 []]
set_option maxHeartbeats 4000000 in
theorem Qz (s:Ns) (hup:s.up=false) (hep:0≤s.epoch) (he2:s.epoch % 2=0) (P Q:Pg) (drift:Int) (a:Na) (h1:a.draws.length≤1000) (h2:a.keeps.length≤1000) (c:Cz) (R:Ms) (q:Ns×Nr) (n:Nat) (L:List PV)
  (hS:Spec Tryz.prog 56 (aY [jZ s,il P, .v (.int .i64 0), .v (.int .i64 1), .v (.int .i64 3), .v (.int .i64 drift),jL] (pu (fm s a 0) 0 [] (5,9))) (jc c R q (fm s a 0) n L)):
  Spec Tryz.prog 45 (ba [jZ s,il P,il Q, .v (.int .i64 drift),Ax a] []) (nG q.1 (Dx c q.2 R) (fm s a 0) n L):=by
 have htl:=ix s a 0 ab h1 h2
 refine Spec.ofN Tryz.func45 rfl Tryz.ntmps45 rfl ?_
 refine am (ai (aQ (5,0) _ rfl rfl) (ai (aQ (6,0) _ rfl rfl) (ai (aQ (7,0) _ rfl rfl) (ai (aQ (9,0) _ rfl rfl) (ai (aD (10,0) aa rfl rfl) (ai (aD (11,0) aa rfl rfl) (ai (bp _ lb) (aj (aq (am ?_))))))))))
 refine bb rfl rfl rfl (Af rfl rfl rfl (ai (cj (r:=true) _ rfl (by rw [hup];rfl)) ?_))
 refine aj (bM rfl rfl (am (ai (az _ aa rfl rfl rfl rfl) (ai (az _ aa rfl rfl rfl rfl) (ai (bW aa [((4,8),(28,0))] ar (htl.toI) trivial tr tr rfl rfl ae ae) ?_)))))
 refine wG rfl (aj (am (ai (az _ aa rfl rfl rfl rfl) (ai (aD (14,0) aa rfl rfl) (bG rfl rfl rfl rfl rfl rfl (aj (aq ?_)))))))
 refine aM (σ':=aE 90 [(3,_),(5,_),(7,_),(10,_),(11,_),(13,_),(14,_)] [((5,0),_),((7,0),_),((10,0),_),((11,0),_),((28,0),_),((14,0),_)] [] []) kp ?_
 refine an (be rfl (aj (aq (am (bb rfl rfl rfl (cf rfl rfl rfl (ai (dX (r:=0) _ _ rfl rfl ab ((Int.tmod_eq_emod_of_nonneg hep).trans he2)) ?_)))))))
 refine gM rfl rfl rfl (aj (aW rfl rfl (aT (aU fun K9 hK9=> ?_))))
 refine aM (Le.nilB (28,0) 4 (60,0) 111 7 rfl rfl rfl) ?_
 refine an (ai (az _ aa rfl rfl rfl rfl) (ai (az _ aa rfl rfl rfl rfl) (aX rfl (aX rfl (bR rfl (ai (jM _ _ (rfl:_=[AV.ptr _ _]) (rfl:_=[])) ?_))))))
 refine ai (bW aa [((4,9),(28,0)),((5,9),(60,0)),((1,8),(42,0)),((2,8),(42,1)),((3,8),(42,2)),((6,8),(42,3)),((5,8),(42,4))] ar (hS) ob tr tr rfl rfl ae ae) ?_
 refine ai (aH _ tQ) (ai (cq _ rfl pF) (ai (cq _ rfl pF) (ai (aD (16,0) aa rfl rfl) (ai (aD (17,0) aa rfl rfl) (bG rfl rfl rfl rfl rfl rfl (bG rfl rfl rfl rfl rfl rfl (aJ (hK9 _ ?_))))))))
 clear hK9;try clear K9
 refine aq ?_
 refine aM (σ':=aE 90 [(10,_),(11,_),(13,_),(16,_),(17,_)] [((10,0),_),((11,0),_),((28,0),_),((42,0),_),((42,1),_),((42,2),_),((42,3),_),((42,4),_),((16,0),_),((17,0),_)] [] []) kp ?_
 refine gX 5 [45,46,47] [(10,0),(11,0)] [[(10,0),(11,0)],[(11,0)],[],[(11,0)],[]] ae ae rfl (aL rfl) (rfl:_=[_,_,_,_,_]) (rfl:_=[_]) ?_
 refine ap (_,[]) (fun τ=> az _ aa rfl rfl rfl rfl) ?_
 refine fP rfl ?_
 refine ap (_,[]) (fun τ=> az _ aa rfl rfl rfl rfl) ?_
 refine fQ rfl ?_
 refine ap (_,[]) (fun τ=> aH _ bX) ?_
 refine fU rfl ?_
 refine ap (_,[((10,0),_)]) (fun τ=> dH _ _ aa rfl (eL rfl (by exact dO) rfl) rfl rfl (Nat.le_of_ble_eq_true rfl) rfl) ?_
 refine fY rfl ?_
 refine ap (_,[((11,0),_)]) (fun τ=> dH _ _ aa rfl (eL rfl (by exact dO) rfl) rfl rfl (Nat.le_of_ble_eq_true rfl) rfl) ?_
 refine gz rfl (bm ⟨⟨rfl,by kernel_rfl⟩,?_⟩)
 refine wG rfl (aj (aG ?_))
 exact vE (.inr rfl) rfl (.cellA aa rfl rfl rfl) (.cellA aa rfl rfl rfl) (.tmp bX) (Le.out [((4,8),(28,0)),((5,8),(42,4))] [(42,0),(42,1),(42,2),(42,3)] (.tup rfl (ax (.agg rfl (zu (ax .sl (ax .sl (ax .sl (ax (fi rfl rfl (by rw [aO,Nat.mul_one]) rfl) lz)))))) (ax (.agg rfl (ax .v (ax .v (ax .v (ax (fi rfl rfl (jP _ _).symm rfl) (ax .v (ax .v (ax (fi rfl rfl (by rw [aO,Nat.mul_one]) rfl) (ax .sl (ax (fi rfl rfl (gk _).symm rfl) lz)))))))))) lz))) rfl rfl rfl tr ob)
set_option maxHeartbeats 4000000 in
theorem Rf (s:Ns) (hup:s.up=false) (hep:0≤s.epoch) (he2:s.epoch % 2=1) (P Q:Pg) (drift:Int) (a:Na) (h1:a.draws.length≤1000) (h2:a.keeps.length≤1000) (c:Cz) (R:Ms) (q:Ns×Nr) (n:Nat) (L:List PV)
  (hS:Spec Tryz.prog 56 (aY [jZ s,il Q, .v (.int .i64 1), .v (.int .i64 1), .v (.int .i64 3), .v (.int .i64 drift),jL] (pu (fm s a 0) 0 [] (5,9))) (jc c R q (fm s a 0) n L)):
  Spec Tryz.prog 45 (ba [jZ s,il P,il Q, .v (.int .i64 drift),Ax a] []) (nG q.1 (Dx c q.2 R) (fm s a 0) n L):=by
 have htl:=ix s a 0 ab h1 h2
 refine Spec.ofN Tryz.func45 rfl Tryz.ntmps45 rfl ?_
 refine am (ai (aQ (5,0) _ rfl rfl) (ai (aQ (6,0) _ rfl rfl) (ai (aQ (7,0) _ rfl rfl) (ai (aQ (9,0) _ rfl rfl) (ai (aD (10,0) aa rfl rfl) (ai (aD (11,0) aa rfl rfl) (ai (bp _ lb) (aj (aq (am ?_))))))))))
 refine bb rfl rfl rfl (Af rfl rfl rfl (ai (cj (r:=true) _ rfl (by rw [hup];rfl)) ?_))
 refine aj (bM rfl rfl (am (ai (az _ aa rfl rfl rfl rfl) (ai (az _ aa rfl rfl rfl rfl) (ai (bW aa [((4,8),(28,0))] ar (htl.toI) trivial tr tr rfl rfl ae ae) ?_)))))
 refine wG rfl (aj (am (ai (az _ aa rfl rfl rfl rfl) (ai (aD (14,0) aa rfl rfl) (bG rfl rfl rfl rfl rfl rfl (aj (aq ?_)))))))
 refine aM (σ':=aE 90 [(3,_),(5,_),(7,_),(10,_),(11,_),(13,_),(14,_)] [((5,0),_),((7,0),_),((10,0),_),((11,0),_),((28,0),_),((14,0),_)] [] []) kp ?_
 refine an (be rfl (aj (aq (am (bb rfl rfl rfl (cf rfl rfl rfl (ai (dX (r:=1) _ _ rfl rfl ab ((Int.tmod_eq_emod_of_nonneg hep).trans he2)) ?_)))))))
 refine kf rfl rfl rfl (aj (bM rfl rfl (am (ai (az _ aa rfl rfl rfl rfl) (bG rfl rfl rfl rfl rfl rfl (aj (an (be rfl (aj (aU fun K10 hK10=> ?_))))))))))
 refine aM (Le.nilB (28,0) 4 (60,0) 111 7 rfl rfl rfl) ?_
 refine an (ai (az _ aa rfl rfl rfl rfl) (ai (az _ aa rfl rfl rfl rfl) (aX rfl (aX rfl (bR rfl (ai (jM _ _ (rfl:_=[AV.ptr _ _]) (rfl:_=[])) ?_))))))
 refine ai (bW aa [((4,9),(28,0)),((5,9),(60,0)),((1,8),(42,0)),((2,8),(42,1)),((3,8),(42,2)),((6,8),(42,3)),((5,8),(42,4))] ar (hS) ob tr tr rfl rfl ae ae) ?_
 refine ai (aH _ tQ) (ai (cq _ rfl pF) (ai (cq _ rfl pF) (ai (aD (16,0) aa rfl rfl) (ai (aD (17,0) aa rfl rfl) (bG rfl rfl rfl rfl rfl rfl (bG rfl rfl rfl rfl rfl rfl (aJ (hK10 _ ?_))))))))
 clear hK10;try clear K10
 refine aq ?_
 refine aM (σ':=aE 90 [(10,_),(11,_),(13,_),(16,_),(17,_)] [((10,0),_),((11,0),_),((28,0),_),((42,0),_),((42,1),_),((42,2),_),((42,3),_),((42,4),_),((16,0),_),((17,0),_)] [] []) kp ?_
 refine gX 5 [45,46,47] [(10,0),(11,0)] [[(10,0),(11,0)],[(11,0)],[],[(11,0)],[]] ae ae rfl (aL rfl) (rfl:_=[_,_,_,_,_]) (rfl:_=[_]) ?_
 refine ap (_,[]) (fun τ=> az _ aa rfl rfl rfl rfl) ?_
 refine fP rfl ?_
 refine ap (_,[]) (fun τ=> az _ aa rfl rfl rfl rfl) ?_
 refine fQ rfl ?_
 refine ap (_,[]) (fun τ=> aH _ bX) ?_
 refine fU rfl ?_
 refine ap (_,[((10,0),_)]) (fun τ=> dH _ _ aa rfl (eL rfl (by exact dO) rfl) rfl rfl (Nat.le_of_ble_eq_true rfl) rfl) ?_
 refine fY rfl ?_
 refine ap (_,[((11,0),_)]) (fun τ=> dH _ _ aa rfl (eL rfl (by exact dO) rfl) rfl rfl (Nat.le_of_ble_eq_true rfl) rfl) ?_
 refine gz rfl (bm ⟨⟨rfl,by kernel_rfl⟩,?_⟩)
 refine wG rfl (aj (aG ?_))
 exact vE (.inr rfl) rfl (.cellA aa rfl rfl rfl) (.cellA aa rfl rfl rfl) (.tmp bX) (Le.out [((4,8),(28,0)),((5,8),(42,4))] [(42,0),(42,1),(42,2),(42,3)] (.tup rfl (ax (.agg rfl (zu (ax .sl (ax .sl (ax .sl (ax (fi rfl rfl (by rw [aO,Nat.mul_one]) rfl) lz)))))) (ax (.agg rfl (ax .v (ax .v (ax .v (ax (fi rfl rfl (jP _ _).symm rfl) (ax .v (ax .v (ax (fi rfl rfl (by rw [aO,Nat.mul_one]) rfl) (ax .sl (ax (fi rfl rfl (gk _).symm rfl) lz)))))))))) lz))) rfl rfl rfl tr ob)
set_option maxHeartbeats 4000000 in
theorem Pz (s:Ns) (hup:s.up=true) (hv:s.ver≠1) (P Q:Pg) (drift:Int) (a:Na) (hcr:a.crash=false) (hh:a.h < 41) (h1:a.draws.length≤1000) (h2:a.keeps.length≤1000) (c:Cz) (R:Ms) (q:Ns×Nr) (n:Nat) (L:List PV)
  (hS:Spec Tryz.prog 81 (aY [jZ { s with wait:=a.wait },il P, .v (.int .i64 (a.h:Int)), .v (.int .i64 1), .v (.int .i64 3), .v (.int .i64 drift),Dv a.names,jL] (pu (fm s a a.h) 0 [] (5,9))) (jc c R q (fm s a a.h) n L)):
  Spec Tryz.prog 45 (ba [jZ s,il P,il Q, .v (.int .i64 drift),Ax a] []) (nG q.1 (Dx c q.2 R) (fm s a a.h) n L):=by
 have htl:=ix { s with wait:=a.wait } a a.h hh h1 h2
 refine Spec.ofN Tryz.func45 rfl Tryz.ntmps45 rfl ?_
 refine am (ai (aQ (5,0) _ rfl rfl) (ai (aQ (6,0) _ rfl rfl) (ai (aQ (7,0) _ rfl rfl) (ai (aQ (9,0) _ rfl rfl) (ai (aD (10,0) aa rfl rfl) (ai (aD (11,0) aa rfl rfl) (ai (bp _ lb) (aj (aq (am ?_))))))))))
 refine bb rfl rfl rfl (Af rfl rfl rfl (ai (cj (r:=false) _ rfl (by rw [hup];rfl)) ?_))
 refine aj (aW rfl rfl (aT (aq (am (bb rfl rfl rfl (cf rfl rfl rfl (gM rfl rfl (by rw [if_neg (by rw [hcr];exact Bool.false_ne_true)];rfl) ?_)))))))
 refine aj (aW rfl rfl (aT (am (ai (az _ aa rfl rfl rfl rfl) (ai (aD (19,0) aa rfl rfl) (bG rfl rfl rfl rfl rfl rfl (aj (aq (aq ?_)))))))))
 refine aM (σ':=aE 90 [(3,_),(5,_),(7,_),(9,_),(10,_),(11,_),(19,_)] [((5,0),_),((7,0),_),((9,0),_),((10,0),_),((11,0),_),((19,0),_)] [] []) kp ?_
 refine an (bb rfl rfl rfl (cf rfl rfl rfl (gM rfl rfl (beq_eq_false_iff_ne.2 hv) ?_)))
 refine aj (aW rfl rfl (aT (am (bb rfl rfl rfl (cf rfl rfl rfl (bb rfl rfl rfl (bG rfl rfl rfl rfl rfl rfl (aj (am (ai (az _ aa rfl rfl rfl rfl) ?_))))))))))
 refine ai (az _ aa rfl rfl rfl rfl) (bb rfl rfl rfl (cf rfl rfl rfl (ai (bW aa [((4,8),(72,0))] ar (htl.toI) trivial tr tr rfl rfl ae ae) ?_)))
 refine wG rfl (aj (aU fun K11 hK11=> ?_))
 refine aM (Le.nilB (72,0) 4 (60,0) 111 7 rfl rfl rfl) ?_
 refine an (ai (az _ aa rfl rfl rfl rfl) (ai (az _ aa rfl rfl rfl rfl) (bb rfl rfl rfl (cf rfl rfl rfl (aX rfl (bb rfl rfl rfl (ai (az _ aa rfl rfl rfl rfl) (ai (aN _ aa rfl (by exact CB)) ?_))))))))
 refine bR rfl (ai (jM _ _ (rfl:_=[AV.ptr _ _]) (rfl:_=[])) ?_)
 refine ai (bW aa [((4,9),(72,0)),((5,9),(60,0)),((1,8),(84,0)),((2,8),(84,1)),((3,8),(84,2)),((6,8),(84,3)),((5,8),(84,4))] ar (hS) ob tr tr rfl rfl ae ae) ?_
 refine ai (aH _ tQ) (ai (cq _ rfl pF) (ai (cq _ rfl pF) (ai (aD (21,0) aa rfl rfl) (ai (aD (22,0) aa rfl rfl) (bG rfl rfl rfl rfl rfl rfl (bG rfl rfl rfl rfl rfl rfl (aJ (hK11 _ ?_))))))))
 clear hK11;try clear K11
 refine aq ?_
 refine aM (σ':=aE 90 [(10,_),(11,_),(20,_),(21,_),(22,_)] [((10,0),_),((11,0),_),((72,0),_),((84,0),_),((84,1),_),((84,2),_),((84,3),_),((84,4),_),((21,0),_),((22,0),_)] [] []) kp ?_
 refine gX 5 [87,88,89] [(10,0),(11,0)] [[(10,0),(11,0)],[(11,0)],[],[(11,0)],[]] ae ae rfl (aL rfl) (rfl:_=[_,_,_,_,_]) (rfl:_=[_]) ?_
 refine ap (_,[]) (fun τ=> az _ aa rfl rfl rfl rfl) ?_
 refine fP rfl ?_
 refine ap (_,[]) (fun τ=> az _ aa rfl rfl rfl rfl) ?_
 refine fQ rfl ?_
 refine ap (_,[]) (fun τ=> aH _ bX) ?_
 refine fU rfl ?_
 refine ap (_,[((10,0),_)]) (fun τ=> dH _ _ aa rfl (eL rfl (by exact dO) rfl) rfl rfl (Nat.le_of_ble_eq_true rfl) rfl) ?_
 refine fY rfl ?_
 refine ap (_,[((11,0),_)]) (fun τ=> dH _ _ aa rfl (eL rfl (by exact dO) rfl) rfl rfl (Nat.le_of_ble_eq_true rfl) rfl) ?_
 refine gz rfl (bm ⟨⟨rfl,by kernel_rfl⟩,?_⟩)
 refine wG rfl (aj (aG ?_))
 exact vE (.inr rfl) rfl (.cellA aa rfl rfl rfl) (.cellA aa rfl rfl rfl) (.tmp bX) (Le.out [((4,8),(72,0)),((5,8),(84,4))] [(84,0),(84,1),(84,2),(84,3)] (.tup rfl (ax (.agg rfl (zu (ax .sl (ax .sl (ax .sl (ax (fi rfl rfl (by rw [aO,Nat.mul_one]) rfl) lz)))))) (ax (.agg rfl (ax .v (ax .v (ax .v (ax (fi rfl rfl (jP _ _).symm rfl) (ax .v (ax .v (ax (fi rfl rfl (by rw [aO,Nat.mul_one]) rfl) (ax .sl (ax (fi rfl rfl (gk _).symm rfl) lz)))))))))) lz))) rfl rfl rfl tr ob)
set_option maxHeartbeats 4000000 in
theorem QY (s:Ns) (hup:s.up=true) (hv:s.ver=1) (P Q:Pg) (drift:Int) (a:Na) (hcr:a.crash=false) (hh:a.h < 41) (h1:a.draws.length≤1000) (h2:a.keeps.length≤1000) (c:Cz) (R:Ms) (q:Ns×Nr) (n:Nat) (L:List PV)
  (hS:Spec Tryz.prog 81 (aY [jZ { s with wait:=a.wait },il Q, .v (.int .i64 (a.h:Int)), .v (.int .i64 1), .v (.int .i64 3), .v (.int .i64 drift),Dv a.names,jL] (pu (fm s a a.h) 0 [] (5,9))) (jc c R q (fm s a a.h) n L)):
  Spec Tryz.prog 45 (ba [jZ s,il P,il Q, .v (.int .i64 drift),Ax a] []) (nG q.1 (Dx c q.2 R) (fm s a a.h) n L):=by
 have htl:=ix { s with wait:=a.wait } a a.h hh h1 h2
 refine Spec.ofN Tryz.func45 rfl Tryz.ntmps45 rfl ?_
 refine am (ai (aQ (5,0) _ rfl rfl) (ai (aQ (6,0) _ rfl rfl) (ai (aQ (7,0) _ rfl rfl) (ai (aQ (9,0) _ rfl rfl) (ai (aD (10,0) aa rfl rfl) (ai (aD (11,0) aa rfl rfl) (ai (bp _ lb) (aj (aq (am ?_))))))))))
 refine bb rfl rfl rfl (Af rfl rfl rfl (ai (cj (r:=false) _ rfl (by rw [hup];rfl)) ?_))
 refine aj (aW rfl rfl (aT (aq (am (bb rfl rfl rfl (cf rfl rfl rfl (gM rfl rfl (by rw [if_neg (by rw [hcr];exact Bool.false_ne_true)];rfl) ?_)))))))
 refine aj (aW rfl rfl (aT (am (ai (az _ aa rfl rfl rfl rfl) (ai (aD (19,0) aa rfl rfl) (bG rfl rfl rfl rfl rfl rfl (aj (aq (aq ?_)))))))))
 refine aM (σ':=aE 90 [(3,_),(5,_),(7,_),(9,_),(10,_),(11,_),(19,_)] [((5,0),_),((7,0),_),((9,0),_),((10,0),_),((11,0),_),((19,0),_)] [] []) kp ?_
 refine an (bb rfl rfl rfl (cf rfl rfl rfl (kf rfl rfl (by rw [hv];rfl) ?_)))
 refine aj (bM rfl rfl (an (ai (az _ aa rfl rfl rfl rfl) (bG rfl rfl rfl rfl rfl rfl (aj (am (bb rfl rfl rfl (cf rfl rfl rfl (bb rfl rfl rfl (bG rfl rfl rfl rfl rfl rfl ?_))))))))))
 refine aj (am (ai (az _ aa rfl rfl rfl rfl) (ai (az _ aa rfl rfl rfl rfl) (bb rfl rfl rfl (cf rfl rfl rfl (ai (bW aa [((4,8),(72,0))] ar (htl.toI) trivial tr tr rfl rfl ae ae) ?_))))))
 refine wG rfl (aj (aU fun K11 hK11=> ?_))
 refine aM (Le.nilB (72,0) 4 (60,0) 111 7 rfl rfl rfl) ?_
 refine an (ai (az _ aa rfl rfl rfl rfl) (ai (az _ aa rfl rfl rfl rfl) (bb rfl rfl rfl (cf rfl rfl rfl (aX rfl (bb rfl rfl rfl (ai (az _ aa rfl rfl rfl rfl) (ai (aN _ aa rfl (by exact CB)) ?_))))))))
 refine bR rfl (ai (jM _ _ (rfl:_=[AV.ptr _ _]) (rfl:_=[])) ?_)
 refine ai (bW aa [((4,9),(72,0)),((5,9),(60,0)),((1,8),(84,0)),((2,8),(84,1)),((3,8),(84,2)),((6,8),(84,3)),((5,8),(84,4))] ar (hS) ob tr tr rfl rfl ae ae) ?_
 refine ai (aH _ tQ) (ai (cq _ rfl pF) (ai (cq _ rfl pF) (ai (aD (21,0) aa rfl rfl) (ai (aD (22,0) aa rfl rfl) (bG rfl rfl rfl rfl rfl rfl (bG rfl rfl rfl rfl rfl rfl (aJ (hK11 _ ?_))))))))
 clear hK11;try clear K11
 refine aq ?_
 refine aM (σ':=aE 90 [(10,_),(11,_),(20,_),(21,_),(22,_)] [((10,0),_),((11,0),_),((72,0),_),((84,0),_),((84,1),_),((84,2),_),((84,3),_),((84,4),_),((21,0),_),((22,0),_)] [] []) kp ?_
 refine gX 5 [87,88,89] [(10,0),(11,0)] [[(10,0),(11,0)],[(11,0)],[],[(11,0)],[]] ae ae rfl (aL rfl) (rfl:_=[_,_,_,_,_]) (rfl:_=[_]) ?_
 refine ap (_,[]) (fun τ=> az _ aa rfl rfl rfl rfl) ?_
 refine fP rfl ?_
 refine ap (_,[]) (fun τ=> az _ aa rfl rfl rfl rfl) ?_
 refine fQ rfl ?_
 refine ap (_,[]) (fun τ=> aH _ bX) ?_
 refine fU rfl ?_
 refine ap (_,[((10,0),_)]) (fun τ=> dH _ _ aa rfl (eL rfl (by exact dO) rfl) rfl rfl (Nat.le_of_ble_eq_true rfl) rfl) ?_
 refine fY rfl ?_
 refine ap (_,[((11,0),_)]) (fun τ=> dH _ _ aa rfl (eL rfl (by exact dO) rfl) rfl rfl (Nat.le_of_ble_eq_true rfl) rfl) ?_
 refine gz rfl (bm ⟨⟨rfl,by kernel_rfl⟩,?_⟩)
 refine wG rfl (aj (aG ?_))
 exact vE (.inr rfl) rfl (.cellA aa rfl rfl rfl) (.cellA aa rfl rfl rfl) (.tmp bX) (Le.out [((4,8),(72,0)),((5,8),(84,4))] [(84,0),(84,1),(84,2),(84,3)] (.tup rfl (ax (.agg rfl (zu (ax .sl (ax .sl (ax .sl (ax (fi rfl rfl (by rw [aO,Nat.mul_one]) rfl) lz)))))) (ax (.agg rfl (ax .v (ax .v (ax .v (ax (fi rfl rfl (jP _ _).symm rfl) (ax .v (ax .v (ax (fi rfl rfl (by rw [aO,Nat.mul_one]) rfl) (ax .sl (ax (fi rfl rfl (gk _).symm rfl) lz)))))))))) lz))) rfl rfl rfl tr ob)
set_option maxHeartbeats 4000000 in
theorem Rn (s:Ns) (hup:s.up=true) (hs:jY s) (ho:jH s.dk) (hc:s.counts.length=41) (hcb: -1000000≤s.counts.getD 40 0∧s.counts.getD 40 0≤1000000) (hep: -1000000≤s.epoch∧s.epoch≤1000000) (P Q:Pg) (drift:Int) (a:Na) (hcr:a.crash=true) (h1:a.draws.length≤1000) (h2:a.keeps.length≤1000)
  (hlk: ∀ i:Nat,i < s.dk.pend.length→sB (fm s a 40) 3 (i:Int) 2 (a.keeps.getD i 0)):
  Spec Tryz.prog 45 (ba [jZ s,il P,il Q, .v (.int .i64 drift),Ax a] []) (nG (lH s (keepB s.dk.pend.length a.keeps)) Kc (fm s a 40) (0+s.dk.pend.length) ([]++zt (fm s a 40) a.keeps s.dk.pend.length)):=by
 have htl:=ix s a 40 ab h1 h2
 have hcs:=ph s hs ho hc hcb hep (fm s a 40) 0 [] rfl ab a.keeps hlk
 refine Spec.ofN Tryz.func45 rfl Tryz.ntmps45 rfl ?_
 refine am (ai (aQ (5,0) _ rfl rfl) (ai (aQ (6,0) _ rfl rfl) (ai (aQ (7,0) _ rfl rfl) (ai (aQ (9,0) _ rfl rfl) (ai (aD (10,0) aa rfl rfl) (ai (aD (11,0) aa rfl rfl) (ai (bp _ lb) (aj (aq (am ?_))))))))))
 refine bb rfl rfl rfl (Af rfl rfl rfl (ai (cj (r:=false) _ rfl (by rw [hup];rfl)) ?_))
 refine aj (aW rfl rfl (aT (aq (am (bb rfl rfl rfl (cf rfl rfl rfl (kf rfl rfl (by rw [if_pos hcr];rfl) ?_)))))))
 refine aj (bM rfl rfl (am (ai (az _ aa rfl rfl rfl rfl) (ai (az _ aa rfl rfl rfl rfl) (ai (bW aa [((4,8),(53,0))] ar (htl.toI) trivial tr tr rfl rfl ae ae) ?_)))))
 refine wG rfl (aj (aU fun K7 hK7=> ?_))
 refine aM (Le.nilB (53,0) 4 (60,0) 111 7 rfl rfl rfl) ?_
 refine an (ai (az _ aa rfl rfl rfl rfl) (bR rfl (ai (jM _ _ (rfl:_=[AV.ptr _ _]) (rfl:_=[])) ?_)))
 refine ai (bW aa [((4,9),(53,0)),((5,9),(60,0)),((5,8),(57,0))] ar (hcs) ob tr tr rfl rfl ae ae) ?_
 refine ai (aN _ aa rfl (by exact (rfl:_=some [_,_,_,_,_,_,_,_,_,_,_,_]))) ?_
 refine bR rfl (bG rfl rfl rfl rfl rfl rfl (bG rfl rfl rfl rfl rfl rfl (wG rfl (aJ (hK7 _ ?_)))))
 clear hK7;try clear K7
 exact aG (vE (.inr rfl) rfl (.cellA aa rfl rfl rfl) (.cellA aa rfl rfl rfl) (.tmp bX) (Le.out [((4,8),(53,0)),((5,8),(57,0))] [] (.tup rfl lz) rfl rfl rfl trivial ob))

structure EG (a:Na):Prop where
 ok:Bp a
 nl:a.names.length=9
 d0: ∀ x∈a.draws,0≤x
 k0: ∀ x∈a.keeps,x=0∨x=1
 dl:a.draws.length≤1000
 kl:a.keeps.length≤1000
theorem xA (s:Ns) {a:Na} (h:Nat) (hw:EG a) {q:Int} (hq:0 < q):sB (fm s a h) 2 0 q (a.tick % q):=by
 have hd:=hw.dl
 have hk:=hw.kl
 have:=iq (ll 1 (h:Int) (cO s h) a.tick a.draws a.keeps) (by rw [nh];omega) 1 (h:Int) (cO s h) 2 0 q hq
 rwa [xY hw.ok.tk.1] at this
theorem xv (s:Ns) {a:Na} (h:Nat) (hw:EG a) (i:Nat) {q:Int} (hq:0 < q):sB (fm s a h) 1 (i:Int) q (a.draws.getD i 0 % q):=by
 have hd:=hw.dl
 have hk:=hw.kl
 have:=iq (ll 1 (h:Int) (cO s h) a.tick a.draws a.keeps) (by rw [nh];omega) 1 (h:Int) (cO s h) 1 (i:Int) q hq
 rwa [yQ i hw.d0] at this
theorem FJ (s:Ns) {a:Na} (h:Nat) (hw:EG a) (i:Nat):sB (fm s a h) 3 (i:Int) 2 (a.keeps.getD i 0):=by
 have hd:=hw.dl
 have hk:=hw.kl
 have:=iq (ll 1 (h:Int) (cO s h) a.tick a.draws a.keeps) (by rw [nh];omega) 1 (h:Int) (cO s h) 3 (i:Int) 2 ab
 have h0: ∀ x∈a.keeps,0≤x:=fun x hx=> by rcases hw.k0 x hx with h | h <;> omega
 rw [ya i h0] at this
 have h1:a.keeps.getD i 0=0∨a.keeps.getD i 0=1:=by
  by_cases hi:i < a.keeps.length
  ·rw [List.getD_eq_getElem?_getD,List.getElem?_eq_getElem hi];exact hw.k0 _ (List.getElem_mem hi)
  rw [List.getD_eq_getElem?_getD,List.getElem?_eq_none ab];exact .inl rfl
 rwa [show a.keeps.getD i 0 % 2=a.keeps.getD i 0 by omega] at this
def Bf (t:Tl) (l:List Qa):List PV:=l.flatMap fun x=> rA t x.kind x.idx x.ar x.n
theorem qv (t:Tl) (drift tick:Int) (asked ans:List Int):pt t drift tick++tI t ans asked=Bf t (gl drift tick asked ans):=by
 unfold Bf gl pt tI
 rw [List.flatMap_append]
 congr 1
 ·split
  ·simp
  rfl
 rw [List.flatMap_map]
theorem iz (drift tick:Int) (asked ans:List Int):(gl drift tick asked ans).length=hY drift+asked.length:=by
 unfold gl hY
 rw [List.length_append,List.length_map,List.length_range]
 congr 1
 split <;> rfl

structure oo (P:Pg) (tm:Int):Prop where
 pg:mW P
 cl:P.c.length≤1000000
 tc:TmC P.c tm=true
abbrev hN (a:Na) (s:Ns):Nat:=if s.up=false then 0 else if a.crash=true then 40 else a.h
abbrev HN (P Q:Pg) (drift:Int) (a:Na) (s:Ns):AV:=
 if s.up=false then Dx ⟨1,((0:Nat):Int),s.counts.getD 0 0⟩ (eF P Q drift a s).2 (gT (cQ s (cd P Q s) (iJ s)) (cd P Q s) 0 1 3 drift a.tick (List.replicate 9 0) a.draws)
 else if a.crash=true then Kc
 else Dx ⟨1,(a.h:Int),s.counts.getD a.h 0⟩ (eF P Q drift a s).2 (gT { s with wait:=a.wait } (cd P Q s) a.h 1 3 drift a.tick a.names a.draws)
theorem qd (s:Ns) (P:Pg) (h:Nat) (self nodes drift tick:Int) (names ans:List Int):(gT s P h self nodes drift tick names ans).asked=(gE s P h self nodes drift tick names ans).asked:=
 (tv P h (ew names self nodes (cT s.clock drift tick)) (s.dk.view++s.vol) ans).2.2
section
variable {P Q:Pg} {tp tq:Int} {i:Nat} {s:Ns} {drift:Int} {a:Na}
theorem uC (hP:oo P tp) (hQ:oo Q tq) (hi:i≤1000) (hs:Sq P Q i s) (hsm:jY s) (hup:s.up=false) (hdr:0≤drift∧drift≤3) (hw:EG a):
  Spec Tryz.prog 45 (ba [jZ s,il P,il Q, .v (.int .i64 drift),Ax a] []) (nG (eF P Q drift a s).1 (HN P Q drift a s) (fm s a (hN a s)) (iL P Q drift a s).length (Bf (fm s a (hN a s)) (iL P Q drift a s))):=by
 obtain ⟨⟨m,hdk⟩,_,_⟩:=hs.dn hup
 have hin:jH s.dk:=fun w hw=> by
  obtain ⟨b1,b2,_⟩:=hdk.pr w hw
  have:=hdk.len
  exact ⟨b1,by omega⟩
 have hck:=hs.ck
 have hep:=hs.ep
 have hcb: ∀ k, -1000000≤s.counts.getD k 0∧s.counts.getD k 0≤1000000:=fun k=> by have:=hs.ct k;omega
 have htk:=nB (clock:=s.clock) (tick:=a.tick) hdr
 have e1:eF P Q drift a s=mR s (cd P Q s) (iJ s) 1 3 drift a.tick a.draws:=by unfold eF;rw [if_pos hup]
 have e2:iL P Q drift a s=gl drift a.tick (gE (cQ s (cd P Q s) (iJ s)) (cd P Q s) 0 1 3 drift a.tick (List.replicate 9 0) a.draws).asked a.draws:=by unfold iL;rw [if_pos hup]
 have e3:HN P Q drift a s=Dx ⟨1,((0:Nat):Int),s.counts.getD 0 0⟩ (eF P Q drift a s).2 (gT (cQ s (cd P Q s) (iJ s)) (cd P Q s) 0 1 3 drift a.tick (List.replicate 9 0) a.draws):=if_pos hup
 have e4:hN a s=0:=if_pos hup
 rw [e3,e4,e2,← qd,iz,← qv,e1]
 have key: ∀ (X:Pg) (tm:Int) (v:Int),oo X tm→Spec Tryz.prog 56 (aY [jZ s,il X, .v (.int .i64 v), .v (.int .i64 1), .v (.int .i64 3), .v (.int .i64 drift),jL] (pu (fm s a 0) 0 [] (5,9)))
   (jc ⟨1,((0:Nat):Int),s.counts.getD 0 0⟩ (gT (cQ s X v) X 0 1 3 drift a.tick (List.replicate 9 0) a.draws) (mR s X v 1 3 drift a.tick a.draws) (fm s a 0) (hY drift+(gT (cQ s X v) X 0 1 3 drift a.tick (List.replicate 9 0) a.draws).asked.length) (pt (fm s a 0) drift a.tick++tI (fm s a 0) a.draws (gT (cQ s X v) X 0 1 3 drift a.tick (List.replicate 9 0) a.draws).asked)):=fun X tm v hX=>
  xB X tm s hsm hin v (vn hX.pg hX.cl hX.tc hdk hs.cl hcb ab v) 1 3 drift a.tick a.draws (de ab) (de ab) (by unfold Rg;omega) ab (fm s a 0) (fun h=> xA s 0 hw ab) (fun j k _ h2 _=> xv s 0 hw j ab) _ rfl
 by_cases he:s.epoch % 2=1
 ·have hp:cd P Q s=Q:=by unfold cd;rw [if_neg (by rw [hup];exact Bool.false_ne_true),if_pos he]
  have hv:iJ s=1:=if_pos he
  rw [hp,hv]
  exact Rf s hup hep.1 he P Q drift a hw.dl hw.kl _ _ _ _ _ (key Q tq 1 hQ)
 have hp:cd P Q s=P:=by unfold cd;rw [if_neg (by rw [hup];exact Bool.false_ne_true),if_neg he]
 have hv:iJ s=0:=if_neg he
 rw [hp,hv]
 exact Qz s hup hep.1 ab P Q drift a hw.dl hw.kl _ _ _ _ _ (key P tp 0 hP)
theorem yP (hP:oo P tp) (hQ:oo Q tq) (hi:i≤1000) (hs:Sq P Q i s) (hup:s.up=true) (htl:qS (if s.ver=1 then tq else tp) s.timers) (hdr:0≤drift∧drift≤3) (hw:EG a) (hcr:a.crash=false):
  Spec Tryz.prog 45 (ba [jZ s,il P,il Q, .v (.int .i64 drift),Ax a] []) (nG (eF P Q drift a s).1 (HN P Q drift a s) (fm s a (hN a s)) (iL P Q drift a s).length (Bf (fm s a (hN a s)) (iL P Q drift a s))):=by
 obtain ⟨hns,hver⟩:=hs.up hup
 have hck:=hs.ck
 have hcb: ∀ k, -1000000≤s.counts.getD k 0∧s.counts.getD k 0≤1000000:=fun k=> by have:=hs.ct k;omega
 have htk:=nB (clock:=s.clock) (tick:=a.tick) hdr
 have hnf: ¬ s.up=false:=by rw [hup];exact fun h=> by cases h
 have hnc: ¬ a.crash=true:=by rw [hcr];exact Bool.false_ne_true
 have hah:=hw.ok.h
 have e1:eF P Q drift a s=dy { s with wait:=a.wait } (cd P Q s) a.h 1 3 drift a.tick a.names a.draws:=by unfold eF;rw [if_neg hnf,if_neg hnc]
 have e2:iL P Q drift a s=gl drift a.tick (gE { s with wait:=a.wait } (cd P Q s) a.h 1 3 drift a.tick a.names a.draws).asked a.draws:=by unfold iL;rw [if_neg hnf,if_neg hnc]
 have e3:HN P Q drift a s=Dx ⟨1,(a.h:Int),s.counts.getD a.h 0⟩ (eF P Q drift a s).2 (gT { s with wait:=a.wait } (cd P Q s) a.h 1 3 drift a.tick a.names a.draws):=(if_neg hnf).trans (if_neg hnc)
 have e4:hN a s=a.h:=(if_neg hnf).trans (if_neg hnc)
 rw [e3,e4,e2,← qd,iz,← qv,e1]
 have key: ∀ (X:Pg) (tm:Int),oo X tm→tH X s→qS tm s.timers→Spec Tryz.prog 81 (aY [jZ { s with wait:=a.wait },il X, .v (.int .i64 (a.h:Int)), .v (.int .i64 1), .v (.int .i64 3), .v (.int .i64 drift),Dv a.names,jL] (pu (fm s a a.h) 0 [] (5,9)))
   (jc ⟨1,(a.h:Int),s.counts.getD a.h 0⟩ (gT { s with wait:=a.wait } X a.h 1 3 drift a.tick a.names a.draws) (dy { s with wait:=a.wait } X a.h 1 3 drift a.tick a.names a.draws) (fm s a a.h) (hY drift+(gT { s with wait:=a.wait } X a.h 1 3 drift a.tick a.names a.draws).asked.length) (pt (fm s a a.h) drift a.tick++tI (fm s a a.h) a.draws (gT { s with wait:=a.wait } X a.h 1 3 drift a.tick a.names a.draws).asked)):=fun X tm hX hN htm=>
  uI X tm { s with wait:=a.wait } ⟨hX.pg,hX.cl,hX.tc,⟨hN.dk,hN.vl,hN.vr,hN.tm,hN.ct⟩,htm,hcb,by show -1000000≤s.clock∧s.clock≤1000000;omega⟩ a.h hah 1 3 drift a.tick a.names a.draws hw.nl hw.ok.nm (de ab) (de ab) (by show Rg (cT s.clock drift a.tick);unfold Rg;omega) ab (fm s a a.h) (fun h=> xA s a.h hw ab) (fun j k _ h2 _=> xv s a.h hw j ab) _ rfl
 by_cases hv:s.ver=1
 ·have hp:cd P Q s=Q:=by unfold cd;rw [if_pos hup,if_pos hv]
  rw [if_pos hv] at hns htl
  rw [hp]
  exact QY s hup hv P Q drift a hcr ab hw.dl hw.kl _ _ _ _ _ (key Q tq hQ hns htl)
 have hp:cd P Q s=P:=by unfold cd;rw [if_pos hup,if_neg hv]
 rw [if_neg hv] at hns htl
 rw [hp]
 exact Pz s hup hv P Q drift a hcr ab hw.dl hw.kl _ _ _ _ _ (key P tp hP hns htl)
theorem xZ (t:Tl) (k:Nat) (keeps:List Int):Bf t (iQ k keeps)=zt t keeps k:=by
 unfold Bf iQ zt
 rw [List.flatMap_map]
theorem sI (hi:i≤1000) (hs:Sq P Q i s) (hsm:jY s) (hup:s.up=true) (hw:EG a) (hcr:a.crash=true):
  Spec Tryz.prog 45 (ba [jZ s,il P,il Q, .v (.int .i64 drift),Ax a] []) (nG (eF P Q drift a s).1 (HN P Q drift a s) (fm s a (hN a s)) (iL P Q drift a s).length (Bf (fm s a (hN a s)) (iL P Q drift a s))):=by
 obtain ⟨hns,hver⟩:=hs.up hup
 have hep:=hs.ep
 have hcb:=hs.ct 40
 have hnf: ¬ s.up=false:=by rw [hup];exact fun h=> by cases h
 have e1:eF P Q drift a s=(lH s (keepB s.dk.pend.length a.keeps),{}):=by unfold eF;rw [if_neg hnf,if_pos hcr]
 have e2:iL P Q drift a s=iQ s.dk.pend.length a.keeps:=by unfold iL;rw [if_neg hnf,if_pos hcr]
 have e3:HN P Q drift a s=Kc:=(if_neg hnf).trans (if_pos hcr)
 have e4:hN a s=40:=(if_neg hnf).trans (if_pos hcr)
 have hin:jH s.dk:=fun w hw=> by
  obtain ⟨b1,b2,_⟩:=hns.dk.pr w hw
  have:=hns.dk.len
  exact ⟨b1,by omega⟩
 have h:=Rn s hup hsm hin hs.cl ab ab P Q drift a hcr hw.dl hw.kl (fun j _=> FJ s 40 hw j)
 rw [Nat.zero_add,List.nil_append] at h
 rw [e3,e4,e2,e1,xZ,show (iQ s.dk.pend.length a.keeps).length=s.dk.pend.length by simp [iQ]]
 exact h
end
end Go.Proofs.YtmjnackchaahbaaGreat

namespace Go.Proofs.YtmjnackchaahbaaGreat

theorem tT {t:Int} (ht:0≤t∧t < 8): ∀ (l:List Ac) (q:Ns×Nr),(∀ a∈l,xn t a)→qS t q.1.timers→qS t (l.foldl eh q).1.timers
 | [],_,_,h=> h
 | a::l,q,ha,h=> tT ht l (eh q a) (fun b hb=> ha b (List.mem_cons_of_mem _ hb)) (tW ht (ha a List.mem_cons_self) h)
theorem jU {P:Pg} {t:Int} (hc:TmC P.c t=true) (s:Ns) (h:qS t s.timers) (k:Nat) (self nodes drift tick:Int) (names ans:List Int):qS t (dy s P k self nodes drift tick names ans).1.timers:=
 tT (TmC.rg hc) _ _ (fun a ha=> vu hc _ _ _ _ a ha) h
structure IO (P Q:Pg) (tp tq:Int) (i:Nat) (s:Ns):Prop where
 sq:Sq P Q i s
 sm:jY s
 tl:s.up=true→qS (if s.ver=1 then tq else tp) s.timers
theorem Hj (P Q:Pg) (tp tq:Int):IO P Q tp tq 0 {}:=⟨HB P Q,⟨Nat.zero_le _,Nat.zero_le _,Nat.zero_le _,Nat.zero_le _⟩,fun h=> by simp at h⟩
theorem GC {X:Pg} {t:Int} {s:Ns} (hX:mW X) (h:tH X s) (ht:qS t s.timers):jY s:=by
 have h1:=h.dk.len
 have h2:=h.dk.pn
 have h3:=h.vl
 have h4:=hX.nv
 refine ⟨by omega,by omega,by omega,?_⟩
 rcases ht with ht | ht <;> rw [ht] <;> simp
theorem Je {P Q:Pg} {tp tq:Int} (hP:oo P tp) (hQ:oo Q tq) {drift:Int} (hd:0≤drift∧drift≤3) {a:Na} (ha:Bp a) {i:Nat} (hi:i≤100) {s:Ns} (h:IO P Q tp tq i s):IO P Q tp tq (i+1) (eF P Q drift a s).1:=by
 have hn:=EQ hP.pg hQ.pg hd ha hi h.sq
 have up:(eF P Q drift a s).1.up=true→qS (if (eF P Q drift a s).1.ver=1 then tq else tp) (eF P Q drift a s).1.timers:=by
  unfold eF
  split
  ·rename_i hup
   intro _
   show qS (if (dy (cQ s (cd P Q s) (iJ s)) (cd P Q s) 0 1 3 drift a.tick (List.replicate 9 0) a.draws).1.ver=1 then tq else tp) (dy (cQ s (cd P Q s) (iJ s)) (cd P Q s) 0 1 3 drift a.tick (List.replicate 9 0) a.draws).1.timers
   rw [(fR (cQ s (cd P Q s) (iJ s)) (cd P Q s) 0 1 3 drift a.tick (List.replicate 9 0) a.draws).2.1]
   show qS (if iJ s=1 then tq else tp) _
   have hnt: ¬ s.up=true:=by rw [hup];exact Bool.false_ne_true
   by_cases he:s.epoch % 2=1
   ·rw [show iJ s=1 from if_pos he,show cd P Q s=Q by unfold cd;rw [if_neg hnt,if_pos he],if_pos rfl]
    exact jU hQ.tc _ (.inl rfl) _ _ _ _ _ _ _
   rw [show iJ s=0 from if_neg he,show cd P Q s=P by unfold cd;rw [if_neg hnt,if_neg he],if_neg ah]
   exact jU hP.tc _ (.inl rfl) _ _ _ _ _ _ _
  rename_i hup
  split
  ·intro hx;cases hx
  intro _
  have hup:s.up=true:=by simpa using hup
  have htl:=h.tl hup
  rw [(fR { s with wait:=a.wait } (cd P Q s) a.h 1 3 drift a.tick a.names a.draws).2.1]
  show qS (if s.ver=1 then tq else tp) _
  by_cases hv:s.ver=1
  ·rw [if_pos hv] at htl ⊢
   rw [show cd P Q s=Q by unfold cd;rw [if_pos hup,if_pos hv]]
   exact jU hQ.tc { s with wait:=a.wait } htl _ _ _ _ _ _ _
  rw [if_neg hv] at htl ⊢
  rw [show cd P Q s=P by unfold cd;rw [if_pos hup,if_neg hv]]
  exact jU hP.tc { s with wait:=a.wait } htl _ _ _ _ _ _ _
 refine ⟨hn,?_,up⟩
 by_cases hu:(eF P Q drift a s).1.up=true
 ·have h1:=(hn.up hu).1
  have h2:=up hu
  by_cases hv:(eF P Q drift a s).1.ver=1
  ·rw [if_pos hv] at h1 h2;exact GC hQ.pg h1 h2
  rw [if_neg hv] at h1 h2;exact GC hP.pg h1 h2
 have hs:=h.sm
 unfold eF at hu ⊢
 split at hu
 ·exact absurd ((fR (cQ s (cd P Q s) (iJ s)) (cd P Q s) 0 1 3 drift a.tick (List.replicate 9 0) a.draws).1) hu
 rename_i hup
 rw [if_neg hup]
 split at hu
 ·rename_i hc
  rw [if_pos hc]
  refine ⟨?_,Nat.zero_le _,?_,Nat.zero_le _⟩
  ·show (pb s.dk.cells _).length≤1000
   rw [gu];exact hs.c
  show (List.replicate s.vol.length (0:Int)).length≤1000
  rw [List.length_replicate];exact hs.v
 exact absurd ((fR { s with wait:=a.wait } (cd P Q s) a.h 1 3 drift a.tick a.names a.draws).1.trans (show s.up=true by simpa using hup)) hu

theorem EI {n:Int} (h0:0≤n):EG (iw n):=by
 obtain ⟨h1,h2,h3,h4,_,h6⟩:=Cg h0
 refine ⟨h1,h6,h4,fun x hx=> ?_,by omega,by omega⟩
 have hx:x∈[n / 2 % 2,n / 4 % 2,n / 8 % 2,n / 16 % 2]:=hx
 simp only [List.mem_cons,List.not_mem_nil,or_false] at hx
 omega
theorem EE (s:Ns) (hup:s.up=false) (P Q:Pg):Spec Tryz.prog 51 (ba [jZ s,il P,il Q] []) (aP (.v (.bool true)) []):=by
 refine Spec.ofN Tryz.func51 rfl Tryz.ntmps51 rfl ?_
 refine am (ai (aQ (3,0) _ rfl rfl) (ai (aQ (4,0) _ rfl rfl) (ai (aQ (5,0) _ rfl rfl) (cu rfl (aj (aq (am (bb rfl rfl rfl (Af rfl rfl rfl (ai (cj (r:=true) _ rfl (by rw [hup];rfl)) ?_))))))))))
 exact aj (bM rfl rfl (am (cu rfl (aj (aG (fv rfl rfl))))))
theorem AJ (s:Ns) (hup:s.up=true) (hv:s.ver≠1) (P Q:Pg) (hd:s.dk.cells.length=P.d) (hl:s.vol.length=P.v):Spec Tryz.prog 51 (ba [jZ s,il P,il Q] []) (aP (.v (.bool true)) []):=by
 refine Spec.ofN Tryz.func51 rfl Tryz.ntmps51 rfl ?_
 refine am (ai (aQ (3,0) _ rfl rfl) (ai (aQ (4,0) _ rfl rfl) (ai (aQ (5,0) _ rfl rfl) (cu rfl (aj (aq (am (bb rfl rfl rfl (Af rfl rfl rfl (ai (cj (r:=false) _ rfl (by rw [hup];rfl)) ?_))))))))))
 refine aj (aW rfl rfl (aT (am (ai (az _ aa rfl rfl rfl rfl) (ai (aD (7,0) aa rfl rfl) (bG rfl rfl rfl rfl rfl rfl (aj (aq (am (bb rfl rfl rfl ?_))))))))))
 refine cf rfl rfl rfl (gM rfl rfl (beq_eq_false_iff_ne.2 hv) ?_)
 refine aj (aW rfl rfl (aT (am (bb rfl rfl rfl (bb rfl rfl rfl (eZ rfl rfl rfl (ai (bo _ aa rfl) (bb rfl rfl rfl (cf rfl rfl rfl (kf rfl rfl (by rw [hd];exact beq_self_eq_true _) ?_))))))))))
 refine cE rfl (au rfl rfl (aA _ aa rfl rfl rfl) (au rfl rfl (aF _ aa rfl rfl eG) (au rfl rfl (bo _ aa rfl) (au rfl rfl (aA _ aa rfl rfl rfl) (au rfl rfl (aF _ aa rfl rfl ee) (au rfl rfl (bC (r:=true) _ _ rfl rfl (by rw [hl];exact beq_self_eq_true _)) ?_))))))
 exact ai (aB _ _ _ rfl bJ) (cu rfl (aj (aG (fv rfl rfl))))
theorem IG (s:Ns) (hup:s.up=true) (hv:s.ver=1) (P Q:Pg) (hd:s.dk.cells.length=Q.d) (hl:s.vol.length=Q.v):Spec Tryz.prog 51 (ba [jZ s,il P,il Q] []) (aP (.v (.bool true)) []):=by
 refine Spec.ofN Tryz.func51 rfl Tryz.ntmps51 rfl ?_
 refine am (ai (aQ (3,0) _ rfl rfl) (ai (aQ (4,0) _ rfl rfl) (ai (aQ (5,0) _ rfl rfl) (cu rfl (aj (aq (am (bb rfl rfl rfl (Af rfl rfl rfl (ai (cj (r:=false) _ rfl (by rw [hup];rfl)) ?_))))))))))
 refine aj (aW rfl rfl (aT (am (ai (az _ aa rfl rfl rfl rfl) (ai (aD (7,0) aa rfl rfl) (bG rfl rfl rfl rfl rfl rfl (aj (aq (am (bb rfl rfl rfl ?_))))))))))
 refine cf rfl rfl rfl (kf rfl rfl (by rw [hv];rfl) ?_)
 refine aj (bM rfl rfl (an (ai (az _ aa rfl rfl rfl rfl) (bG rfl rfl rfl rfl rfl rfl (aj (aq ?_))))))
 refine aM (σ':=aE 31 [(3,_),(7,_)] [((3,0),_),((7,0),_)] [] []) kp ?_
 refine an (bb rfl rfl rfl (bb rfl rfl rfl (eZ rfl rfl rfl (ai (bo _ aa rfl) (bb rfl rfl rfl (cf rfl rfl rfl (kf rfl rfl (by rw [hd];exact beq_self_eq_true _) ?_)))))))
 refine cE rfl (au rfl rfl (aA _ aa rfl rfl rfl) (au rfl rfl (aF _ aa rfl rfl eG) (au rfl rfl (bo _ aa rfl) (au rfl rfl (aA _ aa rfl rfl rfl) (au rfl rfl (aF _ aa rfl rfl ee) (au rfl rfl (bC (r:=true) _ _ rfl rfl (by rw [hl];exact beq_self_eq_true _)) ?_))))))
 exact ai (aB _ _ _ rfl bJ) (cu rfl (aj (aG (fv rfl rfl))))

abbrev IR (n:Int):Nat:=(dv n 12).toNat
def Lt (n:Int):Pg:=⟨bV (onss.getD (IR n) []) 0,bZ (onss.getD (IR n) []),(durs.getD (IR n) []).length,(vols.getD (IR n) []).length⟩
theorem AU (n:Int) (h: -9223372036854775808≤n∧n≤9223372036854775807):Spec Tryz.prog 39 (ba [.v (.int .i64 n)] []) (aP (il (Lt n)) []):=sj n h.1 h.2
def MS (n:Int):Int:=if IR n=6 then 1 else 0
theorem Jy {d v:List Tx} {ons:List (Nat×Bk)} (U:UOk d v ons) {tm:Int} (ht:TmC (bV ons 0) tm=true):oo ⟨bV ons 0,bZ ons,d.length,v.length⟩ tm where
 pg:=by
  have hl:(d++v).length=d.length+v.length:=List.length_append
  refine ⟨⟨wP ons,by show Good _ (d.length+v.length) _ _ _ _;rw [← hl];exact U.good,fun h=> ?_⟩,by show d.length+v.length≤16;rw [← hl];exact U.len⟩
  rcases vJ ons h with e | ⟨e,_,e2,e3,e4⟩
  ·exact .inl (by show (nk (kD ons 0)).getD h (-1) < 0;omega)
  have e5:bZ ons h=(e:Int):=e2
  exact .inr ⟨by show 0≤bZ ons h;omega,by show bZ ons h < _;rw [e5];exact Int.ofNat_lt.2 e3,by show wP ons (bZ ons h).toNat=0;rw [e5,Int.toNat_natCast];exact e4⟩
 cl:=U.c
 tc:=ht
theorem Lh (k:Nat) (h:k < 12):TmC (bV (onss.getD k []) 0) (if k=6 then 1 else 0)=true:=by
 rcases (show k=0∨k=1∨k=2∨k=3∨k=4∨k=5∨k=6∨k=7∨k=8∨k=9∨k=10∨k=11 by omega) with rfl | rfl | rfl | rfl | rfl | rfl | rfl | rfl | rfl | rfl | rfl | rfl <;> kernel_rfl
theorem GR (n:Int):oo (Lt n) (MS n):=by
 have hlo:=ia n 12 ab
 have hhi:=jo n 12 ab
 have hk:IR n < 12:=by show (dv n 12).toNat < 12;omega
 exact Jy (Jf _ hk).1.toUOk (Lh _ hk)
abbrev IE (l:List Int) (k:Nat):Na:=iw (dv (l.getD k 0) 100000000)
theorem HG (l:List Int) (k:Nat):EG (IE l k):=EI (ia _ _ ab)
def KJ (a:Na) (s:Ns):Cz:=if s.up=false then ⟨1,((0:Nat):Int),s.counts.getD 0 0⟩ else if a.crash=true then ⟨0,0,0⟩ else ⟨1,(a.h:Int),s.counts.getD a.h 0⟩
def KM (P Q:Pg) (dr:Int) (a:Na) (s:Ns):Ms:=if s.up=false then gT (cQ s (cd P Q s) (iJ s)) (cd P Q s) 0 1 3 dr a.tick (List.replicate 9 0) a.draws else if a.crash=true then { vars:=[],pc:=0,fin:=true } else gT { s with wait:=a.wait } (cd P Q s) a.h 1 3 dr a.tick a.names a.draws
theorem HR (P Q:Pg) (dr:Int) (a:Na) (s:Ns):HN P Q dr a s=Dx (KJ a s) (eF P Q dr a s).2 (KM P Q dr a s):=by
 unfold KJ KM
 by_cases hu:s.up=false
 ·rw [if_pos hu,if_pos hu]
  exact if_pos hu
 rw [if_neg hu,if_neg hu]
 by_cases hc:a.crash=true
 ·rw [if_pos hc,if_pos hc]
  refine ((if_neg hu).trans (if_pos hc)).trans ?_
  have e1:eF P Q dr a s=(lH s (keepB s.dk.pend.length a.keeps),{}):=by unfold eF;rw [if_neg hu,if_pos hc]
  have e2:fz (kI [])=[]:=by simp [fz,kI]
  rw [e1]
  show Kc=AV.agg [.v (.int .i64 0), .v (.int .i64 0), .v (.int .i64 0), .sl 0 (Al ⟨0,0,0⟩ []), .v (.bool false), .v (.int .i64 0), .sl 0 (cw []), .sl 0 (cw []), .sl 0 (vA []), .v (.int .i64 0), .v (.bool false), .sl (fz (kI [])).length (cw (fz (kI [])))]
  rw [e2];rfl
 rw [if_neg hc,if_neg hc]
 exact (if_neg hu).trans (if_neg hc)
theorem IL {P Q:Pg} {tp tq dr:Int} (hP:oo P tp) (hQ:oo Q tq) (hd:0≤dr∧dr≤3) {i:Nat} (hi:i≤1000) {s:Ns} (hs:IO P Q tp tq i s) {a:Na} (hw:EG a):
  Spec Tryz.prog 45 (ba [jZ s,il P,il Q, .v (.int .i64 dr),Ax a] []) (nG (eF P Q dr a s).1 (Dx (KJ a s) (eF P Q dr a s).2 (KM P Q dr a s)) (fm s a (hN a s)) (iL P Q dr a s).length (Bf (fm s a (hN a s)) (iL P Q dr a s))):=by
 rw [← HR]
 by_cases hu:s.up=true
 ·by_cases hc:a.crash=true
  ·exact sI hi hs.sq hs.sm hu hw hc
  exact yP hP hQ hi hs.sq hu (hs.tl hu) hd hw (by simpa using hc)
 exact uC hP hQ hi hs.sq hs.sm (by simpa using hu) hd hw
theorem HD {P Q:Pg} {tp tq:Int} {i:Nat} {s:Ns} (hs:IO P Q tp tq i s):Spec Tryz.prog 51 (ba [jZ s,il P,il Q] []) (aP (.v (.bool true)) []):=by
 by_cases hu:s.up=true
 ·obtain ⟨h,_⟩:=hs.sq.up hu
  by_cases hv:s.ver=1
  ·rw [if_pos hv] at h
   exact IG s hu hv P Q h.dk.len h.vl
  rw [if_neg hv] at h
  exact AJ s hu hv P Q h.dk.len h.vl
 exact EE s (by simpa using hu) P Q

def eP (h k:Nat):Int:=if k < h then -1 else 0
theorem GJ (h:Nat):lm (eP h) h (-1)=eP (h+1):=by
 funext k
 unfold lm eP
 by_cases h1:k=h
 ·rw [if_pos h1,if_pos ab]
 rw [if_neg h1]
 by_cases h2:k < h
 ·rw [if_pos h2,if_pos ab]
 rw [if_neg h2,if_neg ab]
def P13:Pg:=⟨[{ op:= .push,n:=5 },{ op:= .setVar,n:=0 },{ op:= .stop,n:=0 }],lm (eP 40) 10 0,0,1⟩
theorem Db:Spec Tryz.prog 85 (ba [] []) (aP (il P13) []):=by
 refine Spec.ofN Tryz.func85 rfl Tryz.ntmps85 rfl ?_
 refine am (ai (aD (0,0) aa rfl rfl) (aj (am (ai (aN _ aa rfl (by exact eV)) ?_))))
 refine ai (aN _ aa rfl (by exact eV)) ?_
 refine ai (aN _ aa rfl (by exact eV)) ?_
 refine ai (bh _ _ aa rfl ag (by (simp <;> rfl)) ah rfl) ?_
 refine ai (aN _ aa rfl (by exact FA)) ?_
 refine ai (aD (1,0) aa rfl rfl) (bG rfl rfl rfl rfl rfl rfl (aj (aU fun K3 hK3=> ?_)))
 refine am (be rfl (aj (ay ?_)))
 refine bq (α:=Nat) (fun q=> q≤40) 18 [(0,_),(1,_)] [((0,0),_)] (fun q=> [(2, .v (.int .i64 (q:Int)))]) (fun q=> [((1,0), .box 26 [.sl 3 (inl P13.c), .v (.int .i64 (eP q 0)), .v (.int .i64 (eP q 1)), .v (.int .i64 (eP q 2)), .v (.int .i64 (eP q 3)), .v (.int .i64 (eP q 4)), .v (.int .i64 (eP q 5)), .v (.int .i64 (eP q 6)), .v (.int .i64 (eP q 7)), .v (.int .i64 (eP q 8)), .v (.int .i64 (eP q 9)), .v (.int .i64 (eP q 10)), .v (.int .i64 (eP q 11)), .v (.int .i64 (eP q 12)), .v (.int .i64 (eP q 13)), .v (.int .i64 (eP q 14)), .v (.int .i64 (eP q 15)), .v (.int .i64 (eP q 16)), .v (.int .i64 (eP q 17)), .v (.int .i64 (eP q 18)), .v (.int .i64 (eP q 19)), .v (.int .i64 (eP q 20)), .v (.int .i64 (eP q 21)), .v (.int .i64 (eP q 22)), .v (.int .i64 (eP q 23)), .v (.int .i64 (eP q 24)), .v (.int .i64 (eP q 25)), .v (.int .i64 (eP q 26)), .v (.int .i64 (eP q 27)), .v (.int .i64 (eP q 28)), .v (.int .i64 (eP q 29)), .v (.int .i64 (eP q 30)), .v (.int .i64 (eP q 31)), .v (.int .i64 (eP q 32)), .v (.int .i64 (eP q 33)), .v (.int .i64 (eP q 34)), .v (.int .i64 (eP q 35)), .v (.int .i64 (eP q 36)), .v (.int .i64 (eP q 37)), .v (.int .i64 (eP q 38)), .v (.int .i64 (eP q 39)), .v (.int .i64 0), .v (.int .i64 1)])]) [] [] (fun q=> 40 - q) 0 ?_ (by
  refine Le.mkJ [] [] rfl ?_ ?_ trivial trivial ?_
  ·exact ⟨(iP rfl),(iP rfl),(co ag),trivial⟩
  ·exact ⟨(bF rfl rfl rfl),(fu rfl rfl rfl rfl lz),trivial⟩
  kernel_rfl) ?_
 ·omega
 intro q hq
 refine aU fun K5 hK5=> ?_
 refine am (aX rfl (ai (bl _ _ rfl rfl rfl) (aj (aR rfl (fun hc9=> ?_) (fun hc9=> ?_)))))
 ·skip
  refine bs (hK5 _ ?_)
  clear hK5;try clear K5
  refine aq (ay (an (aX rfl (bb rfl rfl rfl (ai (da _ _ aa rfl rfl rfl q rfl ab (by exact congrArg (fun z=> 0+1+z) (Nat.mul_one q))) ?_)))))
  refine ai (dH _ _ aa rfl rfl rfl rfl (show 0+1+q+1≤43 by omega) ((congrArg (fun z=> fX (IM (.sl 3 (inl P13.c)) (eP q) 0 1) z [.v (.int .i64 (-1))]) ab).trans ((sX _ _ _ _ q ab _).trans (by rw [GJ])))) ?_
  refine ek (an (aX rfl (ai (aZ _ _ rfl rfl (bD ab)) ?_)))
  refine be rfl (aJ (⟨q+1,?_,?_,?_⟩))
  ·omega
  ·skip
   refine Le.mkJ [] [] rfl ?_ ?_ trivial trivial ?_
   ·exact ⟨(iP rfl),(iP rfl),(co ag),trivial⟩
   ·exact ⟨(bF rfl rfl rfl),(fu rfl rfl rfl rfl lz),trivial⟩
   kernel_rfl
  omega
 obtain rfl:q=40:=by omega
 refine bB (id (hK3 _ ?_))
 clear hK3;try clear K3
 refine am (bb rfl rfl rfl (ai (da _ _ aa rfl rfl rfl 10 rfl ab ag) ?_))
 exact bG rfl rfl rfl rfl rfl rfl (aj (am (ai (az _ aa rfl rfl rfl rfl) (bG rfl rfl rfl rfl rfl rfl (aj (aG (bI (.inr rfl) rfl (.cellA aa rfl rfl rfl) (Le.out [] [] (.agg rfl lz) rfl rfl rfl trivial trivial))))))))
theorem p13_ok:oo P13 0 where
 pg:=by
  refine ⟨⟨fun i=> [0,1,0].getD i 0,fun i x hx=> ?_,fun h=> ?_⟩,by show 0+1≤16;omega⟩
  ·rw [Nat.zero_add]
   rcases i with _ | _ | _ | i
   all_goals first | (simp [P13] at hx;done) | (simp only [P13,List.getElem?_cons_zero,List.getElem?_cons_succ,Option.some.injEq] at hx;subst hx)
   all_goals refine ⟨?_,?_,fun j hj=> ?_⟩
   all_goals first | (simp [dj,P13,Rg];done) | (simp [Opc.pops];done) | (simp [dR] at hj;done) | (simp [dR] at hj;subst hj;simp [P13,Opc.pops,Opc.puts];done)
  by_cases h1:h=10
  ·subst h1;exact .inr ⟨by decide,by decide,by decide⟩
  by_cases h2:h < 40
  ·refine .inl ?_
   show lm (eP 40) 10 0 h < 0
   unfold lm eP
   rw [if_neg h1,if_pos h2];omega
  have e:P13.e h=0:=by
   show lm (eP 40) 10 0 h=0
   unfold lm eP
   rw [if_neg h1,if_neg h2]
  rw [e]
  exact .inr ⟨Int.le_refl _,by decide,rfl⟩
 cl:=by decide
 tc:=by decide
abbrev vW:Tl:=⟨0,0,0,0,[],0,[]⟩
theorem Qv (kind idx q:Int) (hq:0 < q):sB vW kind idx q 0:=by
 have h:=iq [] (Nat.zero_le _) 0 0 0 kind idx q hq
 have e:ow [] 0 0 0 kind idx % q=0:=Int.zero_emod q
 rw [e] at h
 exact h
theorem OC (l:List Int):((cw l).drop 0).take (l.length*1)=cw l:=by rw [List.drop_zero,Nat.mul_one,List.take_of_length_le (by rw [aO];omega)]
set_option maxHeartbeats 4000000 in
theorem wA (S1 S2 S3:Ns) (r1 r2:Nr) (R1 R2:Ms) (c1 c2:Cz) (P:Pg)
  (hp:Spec Tryz.prog 85 (ba [] []) (aP (il P) []))
  (hS:Spec Tryz.prog 56 (aY [jZ {},il P, .v (.int .i64 0), .v (.int .i64 0), .v (.int .i64 1), .v (.int .i64 0),jL] (pu vW 0 [] (5,9))) (jc c1 R1 (S1,r1) vW 0 []))
  (hH:Spec Tryz.prog 81 (aY [jZ S1,il P, .v (.int .i64 10), .v (.int .i64 0), .v (.int .i64 1), .v (.int .i64 0),Dv (List.replicate 9 0),jL] (pu vW 0 [] (5,9))) (jc c2 R2 (S2,r2) vW 0 []))
  (hC:Spec Tryz.prog 53 (aY [jZ S2,jL] (pu vW 0 [] (5,9))) (bc (jZ S3) (pu vW 0 [] (5,8)) [(4,9),(5,8)] [(4,9)]))
  (hw:Spec Tryz.prog 51 (ba [jZ S1,il P,il P] []) (aP (.v (.bool true)) []))
  (hv2:Spec Tryz.prog 47 (ba [jZ S2] []) (aP (.sl 1 (cw [5])) []))
  (hv3:Spec Tryz.prog 47 (ba [jZ S3] []) (aP (.sl 1 (cw [0])) []))
  (e1:S1.up=true) (e2:S2.counts.getD 0 0=1) (e3:S2.counts.getD 10 0=1) (e4:S2.clock=2) (e5:S3.epoch=1):
  Spec Tryz.prog 50 (ba [] []) (aP (.v (.bool true)) []):=by
 have hn:=rt
 have hs5:=rT 1 1 [5] [5] rfl rfl ab ab
 have hs0:=rT 1 1 [0] [0] rfl rfl ab ab
 refine Spec.ofN Tryz.func50 rfl Tryz.ntmps50 rfl ?_
 refine am (cu rfl (aj (am (ai (aN _ aa rfl (by exact sU)) ?_))))
 refine ai (aQ (5,0) _ rfl rfl) (wG rfl (aj (aq ?_)))
 refine aM (Le.trans (Le.nilB (5,0) 4 (60,0) 111 7 rfl rfl rfl) (Le.nil0 (5,0) 3 rfl rfl)) ?_
 refine an (ai (aI aa (by repeat' (exact cX)) (hn) rfl rfl) ?_)
 refine ai (aI aa (by repeat' (exact cX)) (hp) rfl rfl) ?_
 refine bR rfl (ai (jM _ _ (rfl:_=[AV.ptr _ _]) (rfl:_=[])) ?_)
 refine ai (bW aa [((4,9),(5,0)),((5,9),(60,0)),((1,8),(11,0)),((2,8),(11,1)),((3,8),(11,2)),((6,8),(11,3)),((5,8),(11,4))] ar (hS) ob tr tr rfl rfl ae ae) ?_
 refine ai (aH _ tQ) (ai (cq _ rfl pF) (ai (cq _ rfl pF) (ai (aD (2,0) aa rfl rfl) (ai (aD (3,0) aa rfl rfl) (bG rfl rfl rfl rfl rfl rfl (bG rfl rfl rfl rfl rfl rfl (aj (aq (aq ?_)))))))))
 refine aM (Le.frzB (ys:=cw S1.timers) (2,0) 7 rfl rfl rfl rfl (OC _) (by rw [aO];omega)) ?_
 refine bO 10 [14,15,16,17,18,19,20,21,22,23] [] ae ae rfl (aL rfl) (rfl:_=[_,_,_,_,_,_,_,_,_,_]) (rfl:_=[]) ?_
 refine ap (_,[]) (fun τ=> az _ aa rfl rfl rfl rfl) ?_
 refine fP rfl ?_
 refine ap (_,[]) (fun τ=> (aI aa (by repeat' (exact cX)) (hp) rfl rfl)) ?_
 refine fQ rfl ?_
 refine ap (_,[]) (fun τ=> (aI aa (by repeat' (exact cX)) (hp) rfl rfl)) ?_
 refine fU rfl ?_
 refine ap (_,[]) (fun τ=> (aI aa al (hw) rfl rfl)) ?_
 refine fY rfl ?_
 refine ap (_,[]) (fun τ=> cj _ rfl rfl) ?_
 refine gz rfl ?_
 refine ap (_,[]) (fun τ=> aH _ bJ) ?_
 refine gZ rfl ?_
 refine bN (_,[]) rfl (fun τ=> rfl) (fun τ=> aA _ aa rfl rfl rfl) ?_
 refine jg rfl ?_
 refine bN (_,[]) rfl (fun τ=> rfl) (fun τ=> aF _ aa rfl rfl BX) ?_
 refine ka rfl ?_
 refine bN (_,[]) rfl (fun τ=> rfl) (fun τ=> cj (r:=false) _ rfl (by rw [e1];rfl)) ?_
 refine kG rfl ?_
 refine ap (_,[]) (fun τ=> aB _ _ _ rfl bJ) ?_
 refine fW rfl (bm ⟨rfl,?_⟩)
 refine aj (aW rfl rfl (aT (aU fun K6 hK6=> ?_)))
 refine aM (σ':=aE 76 [(1,_),(2,_)] [((5,0),_),((11,4),_),((2,0),_)] [] []) kp ?_
 refine gX 10 [25,26,27,28,29,30,24,31,32] [(30,0),(30,1),(30,2),(30,3),(5,0),(30,4),(11,4),(2,0)] [[(2,0)],[(2,0)],[(2,0)],[(2,0)],[(2,0)],[(2,0)],[(2,0)],[(2,0)],[],[]] ae ae rfl (aL rfl) (rfl:_=[_,_,_,_,_,_,_,_,_,_]) (rfl:_=[]) ?_
 refine ap (_,[]) (fun τ=> az _ aa rfl rfl rfl rfl) ?_
 refine fP rfl ?_
 refine ap (_,[]) (fun τ=> (aI aa (by repeat' (exact cX)) (hp) rfl rfl)) ?_
 refine fQ rfl ?_
 refine ap (_,[]) (fun τ=> aN _ aa rfl (by exact CB)) ?_
 refine fU rfl ?_
 refine ap (_,[]) (fun τ=> aH _ bX) ?_
 refine fY rfl ?_
 refine ap (_,[]) (fun τ=> jM _ _ (rfl:_=[AV.ptr _ _]) (rfl:_=[])) ?_
 refine gz rfl ?_
 refine ap (_,[((30,0),_),((30,1),_),((30,2),_),((30,3),_),((5,0),_),((30,4),_),((11,4), .gone)]) (fun τ=> (bW aa [((4,9),(5,0)),((5,9),(11,4)),((1,8),(30,0)),((2,8),(30,1)),((3,8),(30,2)),((6,8),(30,3)),((5,8),(30,4))] ar (hH) ob tr tr rfl rfl ae ae)) ?_
 refine gZ rfl ?_
 refine ap (_,[]) (fun τ=> aH _ tQ) ?_
 refine jg rfl ?_
 refine ap (_,[]) (fun τ=> cq _ rfl pF) ?_
 refine ka rfl ?_
 refine ap (_,[]) (fun τ=> cq _ rfl pF) ?_
 refine kG rfl ?_
 refine ap (_,[((2,0),_)]) (fun τ=> dH _ _ aa rfl (eL rfl (by exact dO) rfl) rfl rfl (Nat.le_of_ble_eq_true rfl) rfl) ?_
 refine fW rfl (bm ⟨⟨rfl,by kernel_rfl⟩,?_⟩)
 refine aJ (hK6 _ ?_)
 clear hK6;try clear K6
 refine aq (aq ?_)
 refine aM (Le.frzB (ys:=cw S2.timers) (2,0) 7 rfl rfl rfl rfl (OC _) (by rw [aO];omega)) ?_
 refine an (ai (az _ aa rfl rfl rfl rfl) (ai (aI aa al (hv2) rfl rfl) ?_))
 refine ai (bh _ _ aa rfl ag (by (simp <;> rfl)) ah rfl) ?_
 refine ai (aI aa al (hs5) rfl rfl) ?_
 refine ai (cj _ rfl rfl) (cE rfl (au rfl rfl (aA _ aa rfl rfl rfl) (au rfl rfl (da _ _ aa rfl rfl rfl 0 rfl ab (by exact Nat.zero_add _)) ?_)))
 refine au rfl rfl (aF _ aa rfl rfl ee) (au rfl rfl (bL (r:=false) _ _ rfl rfl (by show (S2.counts.getD 0 0 !=1)=false;rw [e2];rfl)) ?_)
 refine ai (aB _ _ _ rfl bJ) (cE rfl (au rfl rfl (aA _ aa rfl rfl rfl) (au rfl rfl (da _ _ aa rfl rfl rfl 10 rfl ab ag) ?_)))
 refine au rfl rfl (aF _ aa rfl rfl ee) (au rfl rfl (bL (r:=false) _ _ rfl rfl (by show (S2.counts.getD 10 0 !=1)=false;rw [e3];rfl)) ?_)
 refine ai (aB _ _ _ rfl bJ) (cE rfl (au rfl rfl (aA _ aa rfl rfl rfl) (au rfl rfl (aF _ aa rfl rfl ee) (au rfl rfl (bL (r:=false) _ _ rfl rfl (by rw [e4];rfl)) ?_))))
 refine ai (aB _ _ _ rfl bJ) (aj (aW rfl rfl (aT (aU fun K9 hK9=> ?_))))
 refine aM (σ':=aE 76 [(1,_),(2,_)] [((5,0),_),((2,0),_),((30,4),_)] [] []) kp ?_
 refine an (ai (az _ aa rfl rfl rfl rfl) (bR rfl (ai (jM _ _ (rfl:_=[AV.ptr _ _]) (rfl:_=[])) ?_)))
 refine ai (bW aa [((4,9),(5,0)),((5,9),(30,4)),((5,8),(58,0))] ar (hC) ob tr tr rfl rfl ae ae) ?_
 refine bG rfl rfl rfl rfl rfl rfl (aJ (hK9 _ ?_))
 clear hK9;try clear K9
 refine am (ai (az _ aa rfl rfl rfl rfl) (ai (aI aa al (hv3) rfl rfl) ?_))
 refine ai (bh _ _ aa rfl ag (by (simp <;> rfl)) ah rfl) ?_
 refine ai (aI aa al (hs0) rfl rfl) ?_
 refine cE rfl (au rfl rfl (aA _ aa rfl rfl rfl) (au rfl rfl (aF _ aa rfl rfl ee) (au rfl rfl (bC (r:=true) _ _ rfl rfl (by rw [e5];rfl)) ?_)))
 refine ai (aB _ _ _ rfl bJ) (cE rfl (au rfl rfl (aH _ bX) (au rfl rfl (aS _ rfl rfl) (au rfl rfl (aA _ aa rfl rfl rfl) (au rfl rfl (aF _ aa rfl rfl ei) (au rfl rfl (cV _ aa rfl rfl) (au rfl rfl (bC _ _ rfl rfl rfl) (ai (aB _ _ _ rfl bJ) (cu rfl (aj ?_))))))))))
 exact aG (fv rfl rfl)
abbrev DD:Ns:={ up:=true,ver:=0,clock:=1,vol:=[0],counts:=(List.replicate 41 0).set 0 1 }
abbrev JD:Ns:={ up:=true,ver:=0,clock:=2,vol:=[5],counts:=((List.replicate 41 0).set 0 1).set 10 1 }
abbrev OG:Ns:={ up:=false,ver:=0,clock:=2,vol:=[0],epoch:=1,counts:=(((List.replicate 41 0).set 0 1).set 10 1).set 40 1 }
theorem Jj (k:Nat) (l:List Int) (h: ∀ x∈l,0≤x∧x≤1): -1000000≤l.getD k 0∧l.getD k 0≤1000000:=by
 by_cases hk:k < l.length
 ·rw [List.getD_eq_getElem?_getD,List.getElem?_eq_getElem hk]
  have:=h _ (List.getElem_mem hk)
  simp only [Option.getD_some];omega
 rw [List.getD_eq_getElem?_getD,List.getElem?_eq_none ab];simp
theorem ER:Spec Tryz.prog 50 (ba [] []) (aP (.v (.bool true)) []):=by
 have hsm:jY {}:=⟨Nat.zero_le _,Nat.zero_le _,Nat.zero_le _,Nat.zero_le _⟩
 have hdi:jH ({}:Ns).dk:=fun w hw=> (by cases hw)
 have hdk:DkOk 0 ({}:Ns).dk:=⟨rfl,fun v hv=> (by cases hv),Nat.zero_le _,fun w hw=> (by cases hw)⟩
 have hb:=vn (s:={}) p13_ok.pg p13_ok.cl p13_ok.tc hdk rfl (fun k=> Jj k (List.replicate 41 0) ah) ah 0
 have hld: ∀ (i:Nat) (k:Int),i≤100000→2≤k→k≤4→sB vW 1 (i:Int) k (gv [] i k):=fun i k _ h2 _=> by
  have e:gv [] i k=0:=Int.zero_emod k
  rw [e];exact Qv _ _ _ ab
 have hS:=xB P13 0 {} hsm hdi 0 hb 0 1 0 0 [] (de ab) (de ab) (de ah) ab vW (fun h=> absurd h (Int.lt_irrefl 0)) hld _ rfl
 have q1:mR {} P13 0 0 1 0 0 []=(DD,{}):=by kernel_rfl
 have a1:(gT (cQ {} P13 0) P13 0 0 1 0 0 (List.replicate 9 0) []).asked=[]:=by kernel_rfl
 rw [q1] at hS
 have o1:hY 0+(gT (cQ {} P13 0) P13 0 0 1 0 0 (List.replicate 9 0) []).asked.length=0:=by rw [a1];rfl
 have p1:pt vW 0 0++tI vW [] (gT (cQ {} P13 0) P13 0 0 1 0 0 (List.replicate 9 0) []).asked=[]:=by rw [a1];rfl
 rw [o1,p1] at hS
 have h1:HdOk P13 0 DD:=⟨p13_ok.pg,p13_ok.cl,p13_ok.tc,⟨hdk,rfl,fun v hv=> (by rw [List.mem_singleton.1 hv];exact oS),⟨List.Pairwise.nil,fun x hx=> (by cases hx)⟩,rfl⟩, .inl rfl,fun k=> Jj k _ ah,by decide⟩
 have hH:=uI P13 0 DD h1 10 ab 0 1 0 0 (List.replicate 9 0) [] rfl Iv (de ab) (de ab) (de ah) ab vW (fun h=> absurd h (Int.lt_irrefl 0)) hld _ rfl
 have q2:dy DD P13 10 0 1 0 0 (List.replicate 9 0) []=(JD,{}):=by kernel_rfl
 have a2:(gT DD P13 10 0 1 0 0 (List.replicate 9 0) []).asked=[]:=by kernel_rfl
 rw [q2] at hH
 have o2:hY 0+(gT DD P13 10 0 1 0 0 (List.replicate 9 0) []).asked.length=0:=by rw [a2];rfl
 have p2:pt vW 0 0++tI vW [] (gT DD P13 10 0 1 0 0 (List.replicate 9 0) []).asked=[]:=by rw [a2];rfl
 rw [o2,p2] at hH
 have h2:jY JD:=⟨Nat.zero_le _,Nat.zero_le _,ah,Nat.zero_le _⟩
 have hC:=ph JD h2 hdi rfl ah ah vW 0 [] rfl ab [] (fun i hi=> absurd hi (Nat.not_lt_zero _))
 have hw:=AJ DD rfl ah P13 P13 rfl rfl
 have hv2:=qE JD h2 hdi
 have hv3:=qE OG ⟨Nat.zero_le _,Nat.zero_le _,ah,Nat.zero_le _⟩ hdi
 exact wA DD JD OG {} {} _ _ _ _ P13 Db hS hH hC hw hv2 hv3 rfl rfl rfl rfl rfl

theorem yA (l:List Int) (k:Nat) (h:k < (jB (l.take 10)).length):(jB (l.take 10)).getD k Jo=IE l k∧k < 10:=by
 have h1:k < (l.take 10).length:=by rw [mm] at h;exact h
 have h2:k < 10∧k < l.length:=by rw [List.length_take] at h1;omega
 refine ⟨?_,h2.1⟩
 unfold jB
 rw [List.getD_eq_getElem?_getD,List.getElem?_map,List.getElem?_eq_getElem h1,List.getElem_take]
 show iw (dv (l[k]) 100000000)=iw (dv (l.getD k 0) 100000000)
 rw [List.getD_eq_getElem?_getD,List.getElem?_eq_getElem h2.2];rfl

theorem Hh (l:List Na) (k:Nat) (h:k < l.length) (j:Nat) (hj:j < 15):(Bu l)[k*15+j]? =(Ek (l.getD k Jo))[j]? :=by
 have e:l.getD k Jo=l[k]:=by rw [List.getD_eq_getElem?_getD,List.getElem?_eq_getElem h];rfl
 rw [e];exact lx Ek 15 (fun _=> rfl) l k j h hj
end Go.Proofs.YtmjnackchaahbaaGreat
