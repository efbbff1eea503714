/- Part 18 of the texts that the walk leans on: the machine, the walks, the plain laws. -/
import Derived.Test.YtmjnackchaahbaaGreatNyZ17
set_option linter.unusedSimpArgs false
set_option linter.unusedVariables false
namespace Go.Proofs.YtmjnackchaahbaaGreat
open Go.RowKit

theorem wn {names:List Int} (hl:names.length=9) (self nodes clock:Int):(eB names self nodes clock).getD 0 0=self∧(eB names self nodes clock).getD 1 0=nodes∧(eB names self nodes clock).getD 2 0=clock∧
  (eB names self nodes clock).getD 3 0=names.getD 3 0∧(eB names self nodes clock).getD 4 0=names.getD 4 0∧(eB names self nodes clock).getD 5 0=names.getD 5 0∧(eB names self nodes clock).getD 6 0=names.getD 6 0∧(eB names self nodes clock).getD 7 0=names.getD 7 0∧(eB names self nodes clock).getD 8 0=names.getD 8 0:=by
 match names,hl with
 | [a,b,c,d,e,f,g,h,i],_=> exact ⟨rfl,rfl,rfl,rfl,rfl,rfl,rfl,rfl,rfl⟩
structure HdOk (P:Pg) (tm:Int) (s:Ns):Prop where
 pg:qx P
 cl:P.c.length≤1000000
 tc:TmC P.c tm=true
 ns:tA P s
 tl:qv tm s.timers
 cb: ∀ k, -1000000≤s.counts.getD k 0∧s.counts.getD k 0≤1000000
 ck: -1000000≤s.clock∧s.clock≤1000000
theorem HdOk.sm {P:Pg} {tm:Int} {s:Ns} (h:HdOk P tm s):jI s∧ji s.dk:=by
 have h1:=h.ns.dk.len
 have h2:=h.ns.dk.pn
 have h3:=h.ns.vl
 have h4:=h.pg.nv
 refine ⟨⟨by omega,by omega,by omega,?_⟩,fun w hw=> ?_⟩
 ·rcases h.tl with h | h <;> rw [h] <;> simp
 obtain ⟨b1,b2,_⟩:=h.ns.dk.pr w hw
 exact ⟨b1,by omega⟩
abbrev Ox (t:Tl) (np:Nat) (pre:List PV):Tl:={ t with np:=np,pre:=pre }
theorem CP {clock drift tick:Int} (h:drift≤0):de clock drift tick=clock+1:=by unfold de;rw [if_neg ab,Int.add_zero]
theorem BW {clock drift tick:Int} (h:0 < drift):de clock drift tick=clock+1+tick % (drift+1):=by unfold de;rw [if_pos h]
abbrev gN (s:Ns) (P:Pg) (h:Nat) (self nodes drift tick:Int) (names ans:List Int):Ms:=pu P h (eB names self nodes (de s.clock drift tick)) (s.dk.view++s.vol) ans
theorem ux (s:Ns) (P:Pg) (h:Nat) (self nodes drift tick:Int) (names ans:List Int):cR s h (de s.clock drift tick) P (gN s P h self nodes drift tick names ans) (gN s P h self nodes drift tick names ans).acts.length=dm s P h self nodes drift tick names ans:=by
 obtain ⟨h1,h2,_⟩:=nk P h (eB names self nodes (de s.clock drift tick)) (s.dk.view++s.vol) ans
 show ((gN s P h self nodes drift tick names ans).acts.take (gN s P h self nodes drift tick names ans).acts.length).foldl dV (MF s h (de s.clock drift tick) ((gN s P h self nodes drift tick names ans).vars.drop P.d),{})=_
 rw [List.take_length]
 unfold dm
 show _=(jU P h (eB names self nodes (de s.clock drift tick)) (s.dk.view++s.vol) ans).acts.foldl dV _
 rw [← h1,show (gf s P h self nodes drift tick names ans).vars=(gN s P h self nodes drift tick names ans).vars from h2.symm]
def px (t:Tl) (drift tick:Int):List PV:=if 0 < drift then vB t 2 0 (drift+1) (tick % (drift+1)) else []
def pw (drift:Int):Nat:=if 0 < drift then 1 else 0
theorem rN (P:Pg) (tm:Int) (s:Ns) (hs:HdOk P tm s) (h:Nat) (hh:h < 40) (self nodes drift tick:Int) (names ans:List Int) (mo:names.length=9) (hn: ∀ i,Rg (names.getD i 0)) (h1:Rg self) (h2:Rg nodes) (h3:Rg (de s.clock drift tick)) (hdr:0≤drift∧drift≤1000) (t:Tl)
  (hlk:0 < drift→sW t 2 0 (drift+1) (tick % (drift+1))) (hld: ∀ (i:Nat) (k:Int),i≤100000→2≤k→k≤4→sW t 1 (i:Int) k (gI ans i k)) (R:Ms) (hR:R=gN s P h self nodes drift tick names ans) (n0:Nat) (L0:List PV) (hn0:n0≤10) (hL0:L0.length=n0*7) (h00:0 < drift→n0=0∧L0=[]):
  Spec Tryz.prog 81 (aY [jH s,ii P, .v (.int .i64 (h:Int)), .v (.int .i64 self), .v (.int .i64 nodes), .v (.int .i64 drift),Du names,jl] (oy t n0 L0 (5,9)))
   (iW ⟨self,(h:Int),s.counts.getD h 0⟩ R (dm s P h self nodes drift tick names ans) t (n0+pw drift+R.asked.length) (L0++px t drift tick++ti t ans R.asked)):=by
 obtain ⟨hsm,hin⟩:=hs.sm
 have hpn:=hs.pg.nv
 obtain ⟨v1,v2⟩:=hs.ns.dk.view
 have hvl:=hs.ns.vl
 have hiv:(s.dk.view++s.vol).length=P.d+P.v:=by rw [List.length_append,v1,hvl]
 have hir: ∀ v∈s.dk.view++s.vol,Rg v:=fun v hv=> (List.mem_append.1 hv).elim (v2 v) (hs.ns.vr v)
 have ww:=rV hn h1 h2 h3
 obtain ⟨a1,a2,a3⟩:=nk P h (eB names self nodes (de s.clock drift tick)) (s.dk.view++s.vol) ans
 obtain ⟨iv,_,_⟩:=uO hs.pg (h:=h) (names:=eB names self nodes (de s.clock drift tick)) (vars:=s.dk.view++s.vol) (ans:=ans) ww hiv hir
 have hRv:R.vars.length=P.d+P.v:=by rw [hR];show (pu _ _ _ _ _).vars.length=_;rw [a2];exact iv.vl
 have hRa:R.acts.length≤500:=by rw [hR];exact xF _ _ _ _ _
 have hac: ∀ a∈R.acts,xi tm a∧Rg a.b:=fun a ha=> by
  rw [hR] at ha
  have ha:a∈(jU P h (eB names self nodes (de s.clock drift tick)) (s.dk.view++s.vol) ans).acts:=a1 ▸ ha
  obtain ⟨⟨_,q1,_,_⟩,_,_⟩:=iv.ac a ha
  exact ⟨ul hs.tc _ _ _ _ a ha,q1⟩
 have hq:=Jb ⟨self,(h:Int),s.counts.getD h 0⟩ (h:=h) (ck:=de s.clock drift tick) (P:=P) (R:=R) (TmC.rg hs.tc) hac hs.tl hs.ns.dk ab ab hRa
 obtain ⟨g0,g1,g2,g3,g4,g5,g6,g7,g8⟩:=wn mo self nodes (de s.clock drift tick)
 have hrun:=fun (t':Tl) (ht:yO ⟨P,s.dk.view++s.vol,eB names self nodes (de s.clock drift tick),ans,t'⟩)=> JS P hs.pg hs.cl h hh (eB names self nodes (de s.clock drift tick)) (s.dk.view++s.vol) ans ww hiv hir t' ht R hR
 rw [g0,g1,g2,g3,g4,g5,g6,g7,g8] at hrun
 rw [← ux,← hR]
 by_cases hd:0 < drift
 ·obtain ⟨rfl,rfl⟩:=h00 hd
  have hmod:0≤tick % (drift+1)∧tick % (drift+1) < drift+1:=⟨Int.emod_nonneg _ ab,Int.emod_lt_of_pos _ ab⟩
  have hv:=hrun (Ox t 1 (vB t 2 0 (drift+1) (tick % (drift+1)))) ⟨by show 1≤10;omega,rfl,fun i k x y z=> hld i k x y z⟩
  rw [BW hd] at hv hq ⊢
  rw [show px t drift tick=vB t 2 0 (drift+1) (tick % (drift+1)) from if_pos hd,show pw drift=1 from if_pos hd,Nat.zero_add,List.nil_append]
  exact Qw s hsm hin hs.ns.ct P h hh self nodes drift (tick % (drift+1)) names t hd (hlk hd) ⟨hmod.1,by omega⟩ ab hs.cb hs.ck R (ti t ans R.asked) hv ab ab hRa hq
 have hv:=hrun (Ox t n0 L0) ⟨hn0,hL0,fun i k x y z=> hld i k x y z⟩
 rw [CP ab] at hv hq ⊢
 rw [show px t drift tick=[] from if_neg hd,show pw drift=0 from if_neg hd,Nat.add_zero,List.append_nil]
 exact Mu s hsm hin hs.ns.ct P h hh self nodes drift 0 names t n0 L0 ab hs.cb hs.ck R (ti t ans R.asked) hv ab ab hRa hq
theorem uC (P:Pg) (tm:Int) (s:Ns) (hs:HdOk P tm s) (h:Nat) (hh:h < 40) (self nodes drift tick:Int) (names ans:List Int) (mo:names.length=9) (hn: ∀ i,Rg (names.getD i 0)) (h1:Rg self) (h2:Rg nodes) (h3:Rg (de s.clock drift tick)) (hdr:0≤drift∧drift≤1000) (t:Tl)
  (hlk:0 < drift→sW t 2 0 (drift+1) (tick % (drift+1))) (hld: ∀ (i:Nat) (k:Int),i≤100000→2≤k→k≤4→sW t 1 (i:Int) k (gI ans i k)) (R:Ms) (hR:R=gN s P h self nodes drift tick names ans):
  Spec Tryz.prog 81 (aY [jH s,ii P, .v (.int .i64 (h:Int)), .v (.int .i64 self), .v (.int .i64 nodes), .v (.int .i64 drift),Du names,jl] (oy t 0 [] (5,9)))
   (iW ⟨self,(h:Int),s.counts.getD h 0⟩ R (dm s P h self nodes drift tick names ans) t (pw drift+R.asked.length) (px t drift tick++ti t ans R.asked)):=by
 have:=rN P tm s hs h hh self nodes drift tick names ans mo hn h1 h2 h3 hdr t hlk hld R hR 0 [] (Nat.zero_le _) rfl (fun _=> ⟨rfl,rfl⟩)
 rwa [Nat.zero_add,List.nil_append] at this

theorem JB (i:Nat):Rg ((List.replicate 9 (0:Int)).getD i 0):=by
 by_cases hi:i < 9
 ·rw [List.getD_eq_getElem?_getD,List.getElem?_replicate,if_pos hi];exact og
 rw [List.getD_eq_getElem?_getD,List.getElem?_replicate,if_neg hi];exact og
theorem BY (P:Pg) (tm:Int) (s:Ns) (hs:jI s) (ho:ji s.dk) (ver:Int) (hb:HdOk P tm (cM s P ver)) (self nodes drift tick:Int) (ans:List Int) (h1:Rg self) (h2:Rg nodes) (h3:Rg (de s.clock drift tick)) (hdr:0≤drift∧drift≤1000) (t:Tl)
  (hlk:0 < drift→sW t 2 0 (drift+1) (tick % (drift+1))) (hld: ∀ (i:Nat) (k:Int),i≤100000→2≤k→k≤4→sW t 1 (i:Int) k (gI ans i k)) (R:Ms) (hR:R=gN (cM s P ver) P 0 self nodes drift tick (List.replicate 9 0) ans) (n0:Nat) (L0:List PV) (hn0:n0≤10) (hL0:L0.length=n0*7) (h00:0 < drift→n0=0∧L0=[]):
  Spec Tryz.prog 56 (aY [jH s,ii P, .v (.int .i64 ver), .v (.int .i64 self), .v (.int .i64 nodes), .v (.int .i64 drift),jl] (oy t n0 L0 (5,9)))
   (iW ⟨self,((0:Nat):Int),s.counts.getD 0 0⟩ R (mz s P ver self nodes drift tick ans) t (n0+pw drift+R.asked.length) (L0++px t drift tick++ti t ans R.asked)):=by
 have hpn:=hb.pg.nv
 have hH:=rN P tm (cM s P ver) hb 0 ab self nodes drift tick (List.replicate 9 0) ans rfl JB h1 h2 h3 hdr t hlk hld R hR n0 L0 hn0 hL0 h00
 by_cases hd:s.dk.cells.length=P.d
 ·exact PB s hs ho P ver self nodes drift t n0 L0 hd ab ab _ R _ _ _ hH
 exact Rq s hs ho P ver self nodes drift t n0 L0 hd ab ab _ R _ _ _ hH
theorem xA (P:Pg) (tm:Int) (s:Ns) (hs:jI s) (ho:ji s.dk) (ver:Int) (hb:HdOk P tm (cM s P ver)) (self nodes drift tick:Int) (ans:List Int) (h1:Rg self) (h2:Rg nodes) (h3:Rg (de s.clock drift tick)) (hdr:0≤drift∧drift≤1000) (t:Tl)
  (hlk:0 < drift→sW t 2 0 (drift+1) (tick % (drift+1))) (hld: ∀ (i:Nat) (k:Int),i≤100000→2≤k→k≤4→sW t 1 (i:Int) k (gI ans i k)) (R:Ms) (hR:R=gN (cM s P ver) P 0 self nodes drift tick (List.replicate 9 0) ans):
  Spec Tryz.prog 56 (aY [jH s,ii P, .v (.int .i64 ver), .v (.int .i64 self), .v (.int .i64 nodes), .v (.int .i64 drift),jl] (oy t 0 [] (5,9)))
   (iW ⟨self,((0:Nat):Int),s.counts.getD 0 0⟩ R (mz s P ver self nodes drift tick ans) t (pw drift+R.asked.length) (px t drift tick++ti t ans R.asked)):=by
 have:=BY P tm s hs ho ver hb self nodes drift tick ans h1 h2 h3 hdr t hlk hld R hR 0 [] (Nat.zero_le _) rfl (fun _=> ⟨rfl,rfl⟩)
 rwa [Nat.zero_add,List.nil_append] at this
theorem tO {P:Pg} {tm:Int} {s:Ns} {m:Nat} (hp:qx P) (hc:P.c.length≤1000000) (ht:TmC P.c tm=true) (hd:DkOk m s.dk) (hct:s.counts.length=41) (hcb: ∀ k, -1000000≤s.counts.getD k 0∧s.counts.getD k 0≤1000000) (hck: -1000000≤s.clock∧s.clock≤1000000) (ver:Int):HdOk P tm (cM s P ver) where
 pg:=hp
 cl:=hc
 tc:=ht
 ns:={
  dk:=by
   show DkOk P.d (if s.dk.cells.length=P.d then s.dk else s.dk.resize P.d)
   split
   ·rename_i h
    have:=hd.len
    rwa [← h,this]
   exact hd.resize P.d
  vl:=List.length_replicate
  vr:=fun v hv=> by
   have hv:v∈List.replicate P.v (0:Int):=hv
   rw [List.mem_replicate] at hv;rw [hv.2];exact og
  tm:=⟨List.Pairwise.nil,fun x hx=> by cases hx⟩
  ct:=hct }
 tl:= .inl rfl
 cb:=hcb
 ck:=hck

abbrev Dw (c:Cz) (r:Nr) (o:Ms):AV:= .agg [.v (.int .i64 c.a), .v (.int .i64 c.b), .v (.int .i64 c.c), .sl r.sent.length (BT c r.sent), .v (.bool r.repl), .v (.int .i64 r.value), .sl r.fails.length (cm r.fails), .sl o.vars.length (cm o.vars), .sl o.acts.length (vk o.acts), .v (.int .i64 (o.steps:Int)), .v (.bool (!o.fin)), .sl (fw (kE o.cov)).length (cm (fw (kE o.cov)))]
abbrev fk (s:Ns) (a:Na) (h:Nat):Tl:=⟨1,(h:Int),cO s h,(lh 1 (h:Int) (cO s h) a.tick a.draws a.keeps).length,ri (lh 1 (h:Int) (cO s h) a.tick a.draws a.keeps),0,[]⟩
abbrev nw (s':Ns) (rd:AV) (t:Tl) (n:Nat) (L:List PV):St:=aO (.tup [jH s',rd, .ptr (4,8) 0]) [((4,8), .box 103 [.v (.int .i64 t.c1), .v (.int .i64 t.c2), .v (.int .i64 t.c3), .sl t.na t.A, .ref (5,8) 0 n]),((5,8), .row 111 7 L)]
abbrev Kk:AV:= .agg [.v (.int .i64 0), .v (.int .i64 0), .v (.int .i64 0), .sl 0 [], .v (.bool false), .v (.int .i64 0), .sl 0 [], .sl 0 [], .sl 0 [], .v (.int .i64 0), .v (.bool false), .sl 0 []]
set_option maxHeartbeats 4000000 in
theorem PK (s:Ns) (hup:s.up=false) (hep:0≤s.epoch) (he2:s.epoch % 2=0) (P Q:Pg) (drift:Int) (a:Na) (h1:a.draws.length≤1000) (h2:a.keeps.length≤1000) (c:Cz) (R:Ms) (q:Ns×Nr) (n:Nat) (L:List PV)
  (hS:Spec Tryz.prog 56 (aY [jH s,ii P, .v (.int .i64 0), .v (.int .i64 1), .v (.int .i64 3), .v (.int .i64 drift),jl] (oy (fk s a 0) 0 [] (5,9))) (iW c R q (fk s a 0) n L)):
  Spec Tryz.prog 45 (ba [jH s,ii P,ii Q, .v (.int .i64 drift),zD a] []) (nw q.1 (Dw c q.2 R) (fk s a 0) n L):=by
 have htl:=iz s a 0 ab h1 h2
 refine Spec.ofN Tryz.func45 rfl Tryz.ntmps45 rfl ?_
 refine am (ai (aR (5,0) _ rfl rfl) (ai (aR (6,0) _ rfl rfl) (ai (aR (7,0) _ rfl rfl) (ai (aR (9,0) _ rfl rfl) (ai (aC (10,0) aa rfl rfl) (ai (aC (11,0) aa rfl rfl) (ai (bp _ kU) (aj (aq (am ?_))))))))))
 refine bb rfl rfl rfl (Cf rfl rfl rfl (ai (cu (r:=true) _ rfl (by rw [hup];rfl)) ?_))
 refine aj (bL rfl rfl (am (ai (az _ aa rfl rfl rfl rfl) (ai (az _ aa rfl rfl rfl rfl) (ai (bS aa [((4,8),(28,0))] ar (htl.toI) trivial tr tr rfl rfl ae ae) ?_)))))
 refine vw rfl (aj (am (ai (az _ aa rfl rfl rfl rfl) (ai (aC (14,0) aa rfl rfl) (bG rfl rfl rfl rfl rfl rfl (aj (aq ?_)))))))
 refine aM (σ':=aD 90 [(3,_),(5,_),(7,_),(10,_),(11,_),(13,_),(14,_)] [((5,0),_),((7,0),_),((10,0),_),((11,0),_),((28,0),_),((14,0),_)] [] []) kp ?_
 refine an (be rfl (aj (aq (am (bb rfl rfl rfl (cf rfl rfl rfl (ai (dU (r:=0) _ _ rfl rfl ab ((Int.tmod_eq_emod_of_nonneg hep).trans he2)) ?_)))))))
 refine gO rfl rfl rfl (aj (aW rfl rfl (aS (aU fun K9 hK9=> ?_))))
 refine aM (Le.nilB (28,0) 4 (60,0) 111 7 rfl rfl rfl) ?_
 refine an (ai (az _ aa rfl rfl rfl rfl) (ai (az _ aa rfl rfl rfl rfl) (aX rfl (aX rfl (bQ rfl (ai (jk _ _ (rfl:_=[AV.ptr _ _]) (rfl:_=[])) ?_))))))
 refine ai (bS aa [((4,9),(28,0)),((5,9),(60,0)),((1,8),(42,0)),((2,8),(42,1)),((3,8),(42,2)),((6,8),(42,3)),((5,8),(42,4))] ar (hS) ob tr tr rfl rfl ae ae) ?_
 refine ai (aI _ tN) (ai (cq _ rfl pE) (ai (cq _ rfl pE) (ai (aC (16,0) aa rfl rfl) (ai (aC (17,0) aa rfl rfl) (bG rfl rfl rfl rfl rfl rfl (bG rfl rfl rfl rfl rfl rfl (aJ (hK9 _ ?_))))))))
 clear hK9;try clear K9
 refine aq ?_
 refine aM (σ':=aD 90 [(10,_),(11,_),(13,_),(16,_),(17,_)] [((10,0),_),((11,0),_),((28,0),_),((42,0),_),((42,1),_),((42,2),_),((42,3),_),((42,4),_),((16,0),_),((17,0),_)] [] []) kp ?_
 refine hG 5 [45,46,47] [(10,0),(11,0)] [[(10,0),(11,0)],[(11,0)],[],[(11,0)],[]] ae ae rfl (aK rfl) (rfl:_=[_,_,_,_,_]) (rfl:_=[_]) ?_
 refine ap (_,[]) (fun τ=> az _ aa rfl rfl rfl rfl) ?_
 refine fF rfl ?_
 refine ap (_,[]) (fun τ=> az _ aa rfl rfl rfl rfl) ?_
 refine fL rfl ?_
 refine ap (_,[]) (fun τ=> aI _ bW) ?_
 refine fA rfl ?_
 refine ap (_,[((10,0),_)]) (fun τ=> dE _ _ aa rfl (eF rfl (by exact dJ) rfl) rfl rfl (Nat.le_of_ble_eq_true rfl) rfl) ?_
 refine fT rfl ?_
 refine ap (_,[((11,0),_)]) (fun τ=> dE _ _ aa rfl (eF rfl (by exact dJ) rfl) rfl rfl (Nat.le_of_ble_eq_true rfl) rfl) ?_
 refine gj rfl (bl ⟨⟨rfl,by kernel_rfl⟩,?_⟩)
 refine vw rfl (aj (aG ?_))
 exact wC (.inr rfl) rfl (.cellA aa rfl rfl rfl) (.cellA aa rfl rfl rfl) (.tmp bW) (Le.out [((4,8),(28,0)),((5,8),(42,4))] [(42,0),(42,1),(42,2),(42,3)] (.tup rfl (au (.agg rfl (zt (au .sl (au .sl (au .sl (au (ff rfl rfl (by rw [aN,Nat.mul_one]) rfl) lz)))))) (au (.agg rfl (au .v (au .v (au .v (au (ff rfl rfl (ja _ _).symm rfl) (au .v (au .v (au (ff rfl rfl (by rw [aN,Nat.mul_one]) rfl) (au .sl (au (ff rfl rfl (fS _).symm rfl) lz)))))))))) lz))) rfl rfl rfl tr ob)
set_option maxHeartbeats 4000000 in
theorem QR (s:Ns) (hup:s.up=false) (hep:0≤s.epoch) (he2:s.epoch % 2=1) (P Q:Pg) (drift:Int) (a:Na) (h1:a.draws.length≤1000) (h2:a.keeps.length≤1000) (c:Cz) (R:Ms) (q:Ns×Nr) (n:Nat) (L:List PV)
  (hS:Spec Tryz.prog 56 (aY [jH s,ii Q, .v (.int .i64 1), .v (.int .i64 1), .v (.int .i64 3), .v (.int .i64 drift),jl] (oy (fk s a 0) 0 [] (5,9))) (iW c R q (fk s a 0) n L)):
  Spec Tryz.prog 45 (ba [jH s,ii P,ii Q, .v (.int .i64 drift),zD a] []) (nw q.1 (Dw c q.2 R) (fk s a 0) n L):=by
 have htl:=iz s a 0 ab h1 h2
 refine Spec.ofN Tryz.func45 rfl Tryz.ntmps45 rfl ?_
 refine am (ai (aR (5,0) _ rfl rfl) (ai (aR (6,0) _ rfl rfl) (ai (aR (7,0) _ rfl rfl) (ai (aR (9,0) _ rfl rfl) (ai (aC (10,0) aa rfl rfl) (ai (aC (11,0) aa rfl rfl) (ai (bp _ kU) (aj (aq (am ?_))))))))))
 refine bb rfl rfl rfl (Cf rfl rfl rfl (ai (cu (r:=true) _ rfl (by rw [hup];rfl)) ?_))
 refine aj (bL rfl rfl (am (ai (az _ aa rfl rfl rfl rfl) (ai (az _ aa rfl rfl rfl rfl) (ai (bS aa [((4,8),(28,0))] ar (htl.toI) trivial tr tr rfl rfl ae ae) ?_)))))
 refine vw rfl (aj (am (ai (az _ aa rfl rfl rfl rfl) (ai (aC (14,0) aa rfl rfl) (bG rfl rfl rfl rfl rfl rfl (aj (aq ?_)))))))
 refine aM (σ':=aD 90 [(3,_),(5,_),(7,_),(10,_),(11,_),(13,_),(14,_)] [((5,0),_),((7,0),_),((10,0),_),((11,0),_),((28,0),_),((14,0),_)] [] []) kp ?_
 refine an (be rfl (aj (aq (am (bb rfl rfl rfl (cf rfl rfl rfl (ai (dU (r:=1) _ _ rfl rfl ab ((Int.tmod_eq_emod_of_nonneg hep).trans he2)) ?_)))))))
 refine jY rfl rfl rfl (aj (bL rfl rfl (am (ai (az _ aa rfl rfl rfl rfl) (bG rfl rfl rfl rfl rfl rfl (aj (an (be rfl (aj (aU fun K10 hK10=> ?_))))))))))
 refine aM (Le.nilB (28,0) 4 (60,0) 111 7 rfl rfl rfl) ?_
 refine an (ai (az _ aa rfl rfl rfl rfl) (ai (az _ aa rfl rfl rfl rfl) (aX rfl (aX rfl (bQ rfl (ai (jk _ _ (rfl:_=[AV.ptr _ _]) (rfl:_=[])) ?_))))))
 refine ai (bS aa [((4,9),(28,0)),((5,9),(60,0)),((1,8),(42,0)),((2,8),(42,1)),((3,8),(42,2)),((6,8),(42,3)),((5,8),(42,4))] ar (hS) ob tr tr rfl rfl ae ae) ?_
 refine ai (aI _ tN) (ai (cq _ rfl pE) (ai (cq _ rfl pE) (ai (aC (16,0) aa rfl rfl) (ai (aC (17,0) aa rfl rfl) (bG rfl rfl rfl rfl rfl rfl (bG rfl rfl rfl rfl rfl rfl (aJ (hK10 _ ?_))))))))
 clear hK10;try clear K10
 refine aq ?_
 refine aM (σ':=aD 90 [(10,_),(11,_),(13,_),(16,_),(17,_)] [((10,0),_),((11,0),_),((28,0),_),((42,0),_),((42,1),_),((42,2),_),((42,3),_),((42,4),_),((16,0),_),((17,0),_)] [] []) kp ?_
 refine hG 5 [45,46,47] [(10,0),(11,0)] [[(10,0),(11,0)],[(11,0)],[],[(11,0)],[]] ae ae rfl (aK rfl) (rfl:_=[_,_,_,_,_]) (rfl:_=[_]) ?_
 refine ap (_,[]) (fun τ=> az _ aa rfl rfl rfl rfl) ?_
 refine fF rfl ?_
 refine ap (_,[]) (fun τ=> az _ aa rfl rfl rfl rfl) ?_
 refine fL rfl ?_
 refine ap (_,[]) (fun τ=> aI _ bW) ?_
 refine fA rfl ?_
 refine ap (_,[((10,0),_)]) (fun τ=> dE _ _ aa rfl (eF rfl (by exact dJ) rfl) rfl rfl (Nat.le_of_ble_eq_true rfl) rfl) ?_
 refine fT rfl ?_
 refine ap (_,[((11,0),_)]) (fun τ=> dE _ _ aa rfl (eF rfl (by exact dJ) rfl) rfl rfl (Nat.le_of_ble_eq_true rfl) rfl) ?_
 refine gj rfl (bl ⟨⟨rfl,by kernel_rfl⟩,?_⟩)
 refine vw rfl (aj (aG ?_))
 exact wC (.inr rfl) rfl (.cellA aa rfl rfl rfl) (.cellA aa rfl rfl rfl) (.tmp bW) (Le.out [((4,8),(28,0)),((5,8),(42,4))] [(42,0),(42,1),(42,2),(42,3)] (.tup rfl (au (.agg rfl (zt (au .sl (au .sl (au .sl (au (ff rfl rfl (by rw [aN,Nat.mul_one]) rfl) lz)))))) (au (.agg rfl (au .v (au .v (au .v (au (ff rfl rfl (ja _ _).symm rfl) (au .v (au .v (au (ff rfl rfl (by rw [aN,Nat.mul_one]) rfl) (au .sl (au (ff rfl rfl (fS _).symm rfl) lz)))))))))) lz))) rfl rfl rfl tr ob)
set_option maxHeartbeats 4000000 in
theorem Qg (s:Ns) (hup:s.up=true) (hv:s.ver≠1) (P Q:Pg) (drift:Int) (a:Na) (hcr:a.crash=false) (hh:a.h < 41) (h1:a.draws.length≤1000) (h2:a.keeps.length≤1000) (c:Cz) (R:Ms) (q:Ns×Nr) (n:Nat) (L:List PV)
  (hS:Spec Tryz.prog 81 (aY [jH { s with wait:=a.wait },ii P, .v (.int .i64 (a.h:Int)), .v (.int .i64 1), .v (.int .i64 3), .v (.int .i64 drift),Du a.names,jl] (oy (fk s a a.h) 0 [] (5,9))) (iW c R q (fk s a a.h) n L)):
  Spec Tryz.prog 45 (ba [jH s,ii P,ii Q, .v (.int .i64 drift),zD a] []) (nw q.1 (Dw c q.2 R) (fk s a a.h) n L):=by
 have htl:=iz { s with wait:=a.wait } a a.h hh h1 h2
 refine Spec.ofN Tryz.func45 rfl Tryz.ntmps45 rfl ?_
 refine am (ai (aR (5,0) _ rfl rfl) (ai (aR (6,0) _ rfl rfl) (ai (aR (7,0) _ rfl rfl) (ai (aR (9,0) _ rfl rfl) (ai (aC (10,0) aa rfl rfl) (ai (aC (11,0) aa rfl rfl) (ai (bp _ kU) (aj (aq (am ?_))))))))))
 refine bb rfl rfl rfl (Cf rfl rfl rfl (ai (cu (r:=false) _ rfl (by rw [hup];rfl)) ?_))
 refine aj (aW rfl rfl (aS (aq (am (bb rfl rfl rfl (cf rfl rfl rfl (gO rfl rfl (by rw [if_neg (by rw [hcr];exact Bool.false_ne_true)];rfl) ?_)))))))
 refine aj (aW rfl rfl (aS (am (ai (az _ aa rfl rfl rfl rfl) (ai (aC (19,0) aa rfl rfl) (bG rfl rfl rfl rfl rfl rfl (aj (aq (aq ?_)))))))))
 refine aM (σ':=aD 90 [(3,_),(5,_),(7,_),(9,_),(10,_),(11,_),(19,_)] [((5,0),_),((7,0),_),((9,0),_),((10,0),_),((11,0),_),((19,0),_)] [] []) kp ?_
 refine an (bb rfl rfl rfl (cf rfl rfl rfl (gO rfl rfl (beq_eq_false_iff_ne.2 hv) ?_)))
 refine aj (aW rfl rfl (aS (am (bb rfl rfl rfl (cf rfl rfl rfl (bb rfl rfl rfl (bG rfl rfl rfl rfl rfl rfl (aj (am (ai (az _ aa rfl rfl rfl rfl) ?_))))))))))
 refine ai (az _ aa rfl rfl rfl rfl) (bb rfl rfl rfl (cf rfl rfl rfl (ai (bS aa [((4,8),(72,0))] ar (htl.toI) trivial tr tr rfl rfl ae ae) ?_)))
 refine vw rfl (aj (aU fun K11 hK11=> ?_))
 refine aM (Le.nilB (72,0) 4 (60,0) 111 7 rfl rfl rfl) ?_
 refine an (ai (az _ aa rfl rfl rfl rfl) (ai (az _ aa rfl rfl rfl rfl) (bb rfl rfl rfl (cf rfl rfl rfl (aX rfl (bb rfl rfl rfl (ai (az _ aa rfl rfl rfl rfl) (ai (aL _ aa rfl (by exact Dn)) ?_))))))))
 refine bQ rfl (ai (jk _ _ (rfl:_=[AV.ptr _ _]) (rfl:_=[])) ?_)
 refine ai (bS aa [((4,9),(72,0)),((5,9),(60,0)),((1,8),(84,0)),((2,8),(84,1)),((3,8),(84,2)),((6,8),(84,3)),((5,8),(84,4))] ar (hS) ob tr tr rfl rfl ae ae) ?_
 refine ai (aI _ tN) (ai (cq _ rfl pE) (ai (cq _ rfl pE) (ai (aC (21,0) aa rfl rfl) (ai (aC (22,0) aa rfl rfl) (bG rfl rfl rfl rfl rfl rfl (bG rfl rfl rfl rfl rfl rfl (aJ (hK11 _ ?_))))))))
 clear hK11;try clear K11
 refine aq ?_
 refine aM (σ':=aD 90 [(10,_),(11,_),(20,_),(21,_),(22,_)] [((10,0),_),((11,0),_),((72,0),_),((84,0),_),((84,1),_),((84,2),_),((84,3),_),((84,4),_),((21,0),_),((22,0),_)] [] []) kp ?_
 refine hG 5 [87,88,89] [(10,0),(11,0)] [[(10,0),(11,0)],[(11,0)],[],[(11,0)],[]] ae ae rfl (aK rfl) (rfl:_=[_,_,_,_,_]) (rfl:_=[_]) ?_
 refine ap (_,[]) (fun τ=> az _ aa rfl rfl rfl rfl) ?_
 refine fF rfl ?_
 refine ap (_,[]) (fun τ=> az _ aa rfl rfl rfl rfl) ?_
 refine fL rfl ?_
 refine ap (_,[]) (fun τ=> aI _ bW) ?_
 refine fA rfl ?_
 refine ap (_,[((10,0),_)]) (fun τ=> dE _ _ aa rfl (eF rfl (by exact dJ) rfl) rfl rfl (Nat.le_of_ble_eq_true rfl) rfl) ?_
 refine fT rfl ?_
 refine ap (_,[((11,0),_)]) (fun τ=> dE _ _ aa rfl (eF rfl (by exact dJ) rfl) rfl rfl (Nat.le_of_ble_eq_true rfl) rfl) ?_
 refine gj rfl (bl ⟨⟨rfl,by kernel_rfl⟩,?_⟩)
 refine vw rfl (aj (aG ?_))
 exact wC (.inr rfl) rfl (.cellA aa rfl rfl rfl) (.cellA aa rfl rfl rfl) (.tmp bW) (Le.out [((4,8),(72,0)),((5,8),(84,4))] [(84,0),(84,1),(84,2),(84,3)] (.tup rfl (au (.agg rfl (zt (au .sl (au .sl (au .sl (au (ff rfl rfl (by rw [aN,Nat.mul_one]) rfl) lz)))))) (au (.agg rfl (au .v (au .v (au .v (au (ff rfl rfl (ja _ _).symm rfl) (au .v (au .v (au (ff rfl rfl (by rw [aN,Nat.mul_one]) rfl) (au .sl (au (ff rfl rfl (fS _).symm rfl) lz)))))))))) lz))) rfl rfl rfl tr ob)
set_option maxHeartbeats 4000000 in
theorem Po (s:Ns) (hup:s.up=true) (hv:s.ver=1) (P Q:Pg) (drift:Int) (a:Na) (hcr:a.crash=false) (hh:a.h < 41) (h1:a.draws.length≤1000) (h2:a.keeps.length≤1000) (c:Cz) (R:Ms) (q:Ns×Nr) (n:Nat) (L:List PV)
  (hS:Spec Tryz.prog 81 (aY [jH { s with wait:=a.wait },ii Q, .v (.int .i64 (a.h:Int)), .v (.int .i64 1), .v (.int .i64 3), .v (.int .i64 drift),Du a.names,jl] (oy (fk s a a.h) 0 [] (5,9))) (iW c R q (fk s a a.h) n L)):
  Spec Tryz.prog 45 (ba [jH s,ii P,ii Q, .v (.int .i64 drift),zD a] []) (nw q.1 (Dw c q.2 R) (fk s a a.h) n L):=by
 have htl:=iz { s with wait:=a.wait } a a.h hh h1 h2
 refine Spec.ofN Tryz.func45 rfl Tryz.ntmps45 rfl ?_
 refine am (ai (aR (5,0) _ rfl rfl) (ai (aR (6,0) _ rfl rfl) (ai (aR (7,0) _ rfl rfl) (ai (aR (9,0) _ rfl rfl) (ai (aC (10,0) aa rfl rfl) (ai (aC (11,0) aa rfl rfl) (ai (bp _ kU) (aj (aq (am ?_))))))))))
 refine bb rfl rfl rfl (Cf rfl rfl rfl (ai (cu (r:=false) _ rfl (by rw [hup];rfl)) ?_))
 refine aj (aW rfl rfl (aS (aq (am (bb rfl rfl rfl (cf rfl rfl rfl (gO rfl rfl (by rw [if_neg (by rw [hcr];exact Bool.false_ne_true)];rfl) ?_)))))))
 refine aj (aW rfl rfl (aS (am (ai (az _ aa rfl rfl rfl rfl) (ai (aC (19,0) aa rfl rfl) (bG rfl rfl rfl rfl rfl rfl (aj (aq (aq ?_)))))))))
 refine aM (σ':=aD 90 [(3,_),(5,_),(7,_),(9,_),(10,_),(11,_),(19,_)] [((5,0),_),((7,0),_),((9,0),_),((10,0),_),((11,0),_),((19,0),_)] [] []) kp ?_
 refine an (bb rfl rfl rfl (cf rfl rfl rfl (jY rfl rfl (by rw [hv];rfl) ?_)))
 refine aj (bL rfl rfl (an (ai (az _ aa rfl rfl rfl rfl) (bG rfl rfl rfl rfl rfl rfl (aj (am (bb rfl rfl rfl (cf rfl rfl rfl (bb rfl rfl rfl (bG rfl rfl rfl rfl rfl rfl ?_))))))))))
 refine aj (am (ai (az _ aa rfl rfl rfl rfl) (ai (az _ aa rfl rfl rfl rfl) (bb rfl rfl rfl (cf rfl rfl rfl (ai (bS aa [((4,8),(72,0))] ar (htl.toI) trivial tr tr rfl rfl ae ae) ?_))))))
 refine vw rfl (aj (aU fun K11 hK11=> ?_))
 refine aM (Le.nilB (72,0) 4 (60,0) 111 7 rfl rfl rfl) ?_
 refine an (ai (az _ aa rfl rfl rfl rfl) (ai (az _ aa rfl rfl rfl rfl) (bb rfl rfl rfl (cf rfl rfl rfl (aX rfl (bb rfl rfl rfl (ai (az _ aa rfl rfl rfl rfl) (ai (aL _ aa rfl (by exact Dn)) ?_))))))))
 refine bQ rfl (ai (jk _ _ (rfl:_=[AV.ptr _ _]) (rfl:_=[])) ?_)
 refine ai (bS aa [((4,9),(72,0)),((5,9),(60,0)),((1,8),(84,0)),((2,8),(84,1)),((3,8),(84,2)),((6,8),(84,3)),((5,8),(84,4))] ar (hS) ob tr tr rfl rfl ae ae) ?_
 refine ai (aI _ tN) (ai (cq _ rfl pE) (ai (cq _ rfl pE) (ai (aC (21,0) aa rfl rfl) (ai (aC (22,0) aa rfl rfl) (bG rfl rfl rfl rfl rfl rfl (bG rfl rfl rfl rfl rfl rfl (aJ (hK11 _ ?_))))))))
 clear hK11;try clear K11
 refine aq ?_
 refine aM (σ':=aD 90 [(10,_),(11,_),(20,_),(21,_),(22,_)] [((10,0),_),((11,0),_),((72,0),_),((84,0),_),((84,1),_),((84,2),_),((84,3),_),((84,4),_),((21,0),_),((22,0),_)] [] []) kp ?_
 refine hG 5 [87,88,89] [(10,0),(11,0)] [[(10,0),(11,0)],[(11,0)],[],[(11,0)],[]] ae ae rfl (aK rfl) (rfl:_=[_,_,_,_,_]) (rfl:_=[_]) ?_
 refine ap (_,[]) (fun τ=> az _ aa rfl rfl rfl rfl) ?_
 refine fF rfl ?_
 refine ap (_,[]) (fun τ=> az _ aa rfl rfl rfl rfl) ?_
 refine fL rfl ?_
 refine ap (_,[]) (fun τ=> aI _ bW) ?_
 refine fA rfl ?_
 refine ap (_,[((10,0),_)]) (fun τ=> dE _ _ aa rfl (eF rfl (by exact dJ) rfl) rfl rfl (Nat.le_of_ble_eq_true rfl) rfl) ?_
 refine fT rfl ?_
 refine ap (_,[((11,0),_)]) (fun τ=> dE _ _ aa rfl (eF rfl (by exact dJ) rfl) rfl rfl (Nat.le_of_ble_eq_true rfl) rfl) ?_
 refine gj rfl (bl ⟨⟨rfl,by kernel_rfl⟩,?_⟩)
 refine vw rfl (aj (aG ?_))
 exact wC (.inr rfl) rfl (.cellA aa rfl rfl rfl) (.cellA aa rfl rfl rfl) (.tmp bW) (Le.out [((4,8),(72,0)),((5,8),(84,4))] [(84,0),(84,1),(84,2),(84,3)] (.tup rfl (au (.agg rfl (zt (au .sl (au .sl (au .sl (au (ff rfl rfl (by rw [aN,Nat.mul_one]) rfl) lz)))))) (au (.agg rfl (au .v (au .v (au .v (au (ff rfl rfl (ja _ _).symm rfl) (au .v (au .v (au (ff rfl rfl (by rw [aN,Nat.mul_one]) rfl) (au .sl (au (ff rfl rfl (fS _).symm rfl) lz)))))))))) lz))) rfl rfl rfl tr ob)
set_option maxHeartbeats 4000000 in
theorem Qd (s:Ns) (hup:s.up=true) (hs:jI s) (ho:ji s.dk) (hc:s.counts.length=41) (hcb: -1000000≤s.counts.getD 40 0∧s.counts.getD 40 0≤1000000) (hep: -1000000≤s.epoch∧s.epoch≤1000000) (P Q:Pg) (drift:Int) (a:Na) (hcr:a.crash=true) (h1:a.draws.length≤1000) (h2:a.keeps.length≤1000)
  (hlk: ∀ i:Nat,i < s.dk.pend.length→sW (fk s a 40) 3 (i:Int) 2 (a.keeps.getD i 0)):
  Spec Tryz.prog 45 (ba [jH s,ii P,ii Q, .v (.int .i64 drift),zD a] []) (nw (gL s (keepB s.dk.pend.length a.keeps)) Kk (fk s a 40) (0+s.dk.pend.length) ([]++zu (fk s a 40) a.keeps s.dk.pend.length)):=by
 have htl:=iz s a 40 ab h1 h2
 have hcs:=lB s hs ho hc hcb hep (fk s a 40) 0 [] rfl ab a.keeps hlk
 refine Spec.ofN Tryz.func45 rfl Tryz.ntmps45 rfl ?_
 refine am (ai (aR (5,0) _ rfl rfl) (ai (aR (6,0) _ rfl rfl) (ai (aR (7,0) _ rfl rfl) (ai (aR (9,0) _ rfl rfl) (ai (aC (10,0) aa rfl rfl) (ai (aC (11,0) aa rfl rfl) (ai (bp _ kU) (aj (aq (am ?_))))))))))
 refine bb rfl rfl rfl (Cf rfl rfl rfl (ai (cu (r:=false) _ rfl (by rw [hup];rfl)) ?_))
 refine aj (aW rfl rfl (aS (aq (am (bb rfl rfl rfl (cf rfl rfl rfl (jY rfl rfl (by rw [if_pos hcr];rfl) ?_)))))))
 refine aj (bL rfl rfl (am (ai (az _ aa rfl rfl rfl rfl) (ai (az _ aa rfl rfl rfl rfl) (ai (bS aa [((4,8),(53,0))] ar (htl.toI) trivial tr tr rfl rfl ae ae) ?_)))))
 refine vw rfl (aj (aU fun K7 hK7=> ?_))
 refine aM (Le.nilB (53,0) 4 (60,0) 111 7 rfl rfl rfl) ?_
 refine an (ai (az _ aa rfl rfl rfl rfl) (bQ rfl (ai (jk _ _ (rfl:_=[AV.ptr _ _]) (rfl:_=[])) ?_)))
 refine ai (bS aa [((4,9),(53,0)),((5,9),(60,0)),((5,8),(57,0))] ar (hcs) ob tr tr rfl rfl ae ae) ?_
 refine ai (aL _ aa rfl (by exact (rfl:_=some [_,_,_,_,_,_,_,_,_,_,_,_]))) ?_
 refine bQ rfl (bG rfl rfl rfl rfl rfl rfl (bG rfl rfl rfl rfl rfl rfl (vw rfl (aJ (hK7 _ ?_)))))
 clear hK7;try clear K7
 exact aG (wC (.inr rfl) rfl (.cellA aa rfl rfl rfl) (.cellA aa rfl rfl rfl) (.tmp bW) (Le.out [((4,8),(53,0)),((5,8),(57,0))] [] (.tup rfl lz) rfl rfl rfl trivial ob))

structure Gb (a:Na):Prop where
 ok:FQ a
 nl:a.names.length=9
 d0: ∀ x∈a.draws,0≤x
 k0: ∀ x∈a.keeps,x=0∨x=1
 dl:a.draws.length≤1000
 kl:a.keeps.length≤1000
theorem xj (s:Ns) {a:Na} (h:Nat) (hw:Gb a) {q:Int} (hq:0 < q):sW (fk s a h) 2 0 q (a.tick % q):=by
 have hd:=hw.dl
 have hk:=hw.kl
 have:=ie (lh 1 (h:Int) (cO s h) a.tick a.draws a.keeps) (by rw [ny];omega) 1 (h:Int) (cO s h) 2 0 q hq
 rwa [xL hw.ok.tk.1] at this
theorem xq (s:Ns) {a:Na} (h:Nat) (hw:Gb a) (i:Nat) {q:Int} (hq:0 < q):sW (fk s a h) 1 (i:Int) q (a.draws.getD i 0 % q):=by
 have hd:=hw.dl
 have hk:=hw.kl
 have:=ie (lh 1 (h:Int) (cO s h) a.tick a.draws a.keeps) (by rw [ny];omega) 1 (h:Int) (cO s h) 1 (i:Int) q hq
 rwa [ze i hw.d0] at this
theorem Er (s:Ns) {a:Na} (h:Nat) (hw:Gb a) (i:Nat):sW (fk s a h) 3 (i:Int) 2 (a.keeps.getD i 0):=by
 have hd:=hw.dl
 have hk:=hw.kl
 have:=ie (lh 1 (h:Int) (cO s h) a.tick a.draws a.keeps) (by rw [ny];omega) 1 (h:Int) (cO s h) 3 (i:Int) 2 ab
 have h0: ∀ x∈a.keeps,0≤x:=fun x hx=> by rcases hw.k0 x hx with h | h <;> omega
 rw [yT i h0] at this
 have h1:a.keeps.getD i 0=0∨a.keeps.getD i 0=1:=by
  by_cases hi:i < a.keeps.length
  ·rw [List.getD_eq_getElem?_getD,List.getElem?_eq_getElem hi];exact hw.k0 _ (List.getElem_mem hi)
  rw [List.getD_eq_getElem?_getD,List.getElem?_eq_none ab];exact .inl rfl
 rwa [show a.keeps.getD i 0 % 2=a.keeps.getD i 0 by omega] at this
def Gx (t:Tl) (l:List Qa):List PV:=l.flatMap fun x=> vB t x.kind x.idx x.ar x.n
theorem qo (t:Tl) (drift tick:Int) (asked ans:List Int):px t drift tick++ti t ans asked=Gx t (jR drift tick asked ans):=by
 unfold Gx jR px ti
 rw [List.flatMap_append]
 congr 1
 ·split
  ·simp
  rfl
 rw [List.flatMap_map]
theorem oX (drift tick:Int) (asked ans:List Int):(jR drift tick asked ans).length=pw drift+asked.length:=by
 unfold jR pw
 rw [List.length_append,List.length_map,List.length_range]
 congr 1
 split <;> rfl

structure oe (P:Pg) (tm:Int):Prop where
 pg:qx P
 cl:P.c.length≤1000000
 tc:TmC P.c tm=true
abbrev hN (a:Na) (s:Ns):Nat:=if s.up=false then 0 else if a.crash=true then 40 else a.h
abbrev II (P Q:Pg) (drift:Int) (a:Na) (s:Ns):AV:=
 if s.up=false then Dw ⟨1,((0:Nat):Int),s.counts.getD 0 0⟩ (ee P Q drift a s).2 (gN (cM s (ci P Q s) (ir s)) (ci P Q s) 0 1 3 drift a.tick (List.replicate 9 0) a.draws)
 else if a.crash=true then Kk
 else Dw ⟨1,(a.h:Int),s.counts.getD a.h 0⟩ (ee P Q drift a s).2 (gN { s with wait:=a.wait } (ci P Q s) a.h 1 3 drift a.tick a.names a.draws)
theorem qK (s:Ns) (P:Pg) (h:Nat) (self nodes drift tick:Int) (names ans:List Int):(gN s P h self nodes drift tick names ans).asked=(gf s P h self nodes drift tick names ans).asked:=
 (nk P h (eB names self nodes (de s.clock drift tick)) (s.dk.view++s.vol) ans).2.2
section
variable {P Q:Pg} {tp tq:Int} {i:Nat} {s:Ns} {drift:Int} {a:Na}
theorem uy (hP:oe P tp) (hQ:oe Q tq) (hi:i≤1000) (hs:Sq P Q i s) (hsm:jI s) (hup:s.up=false) (hdr:0≤drift∧drift≤3) (hw:Gb a):
  Spec Tryz.prog 45 (ba [jH s,ii P,ii Q, .v (.int .i64 drift),zD a] []) (nw (ee P Q drift a s).1 (II P Q drift a s) (fk s a (hN a s)) (jo P Q drift a s).length (Gx (fk s a (hN a s)) (jo P Q drift a s))):=by
 obtain ⟨⟨m,hdk⟩,_,_⟩:=hs.dn hup
 have hin:ji s.dk:=fun w hw=> by
  obtain ⟨b1,b2,_⟩:=hdk.pr w hw
  have:=hdk.len
  exact ⟨b1,by omega⟩
 have hck:=hs.ck
 have hep:=hs.ep
 have hcb: ∀ k, -1000000≤s.counts.getD k 0∧s.counts.getD k 0≤1000000:=fun k=> by have:=hs.ct k;omega
 have htk:=pT (clock:=s.clock) (tick:=a.tick) hdr
 have e1:ee P Q drift a s=mz s (ci P Q s) (ir s) 1 3 drift a.tick a.draws:=by unfold ee;rw [if_pos hup]
 have e2:jo P Q drift a s=jR drift a.tick (gf (cM s (ci P Q s) (ir s)) (ci P Q s) 0 1 3 drift a.tick (List.replicate 9 0) a.draws).asked a.draws:=by unfold jo;rw [if_pos hup]
 have e3:II P Q drift a s=Dw ⟨1,((0:Nat):Int),s.counts.getD 0 0⟩ (ee P Q drift a s).2 (gN (cM s (ci P Q s) (ir s)) (ci P Q s) 0 1 3 drift a.tick (List.replicate 9 0) a.draws):=if_pos hup
 have e4:hN a s=0:=if_pos hup
 rw [e3,e4,e2,← qK,oX,← qo,e1]
 have key: ∀ (X:Pg) (tm:Int) (v:Int),oe X tm→Spec Tryz.prog 56 (aY [jH s,ii X, .v (.int .i64 v), .v (.int .i64 1), .v (.int .i64 3), .v (.int .i64 drift),jl] (oy (fk s a 0) 0 [] (5,9)))
   (iW ⟨1,((0:Nat):Int),s.counts.getD 0 0⟩ (gN (cM s X v) X 0 1 3 drift a.tick (List.replicate 9 0) a.draws) (mz s X v 1 3 drift a.tick a.draws) (fk s a 0) (pw drift+(gN (cM s X v) X 0 1 3 drift a.tick (List.replicate 9 0) a.draws).asked.length) (px (fk s a 0) drift a.tick++ti (fk s a 0) a.draws (gN (cM s X v) X 0 1 3 drift a.tick (List.replicate 9 0) a.draws).asked)):=fun X tm v hX=>
  xA X tm s hsm hin v (tO hX.pg hX.cl hX.tc hdk hs.cl hcb ab v) 1 3 drift a.tick a.draws (dX ab) (dX ab) (by unfold Rg;omega) ab (fk s a 0) (fun h=> xj s 0 hw ab) (fun j k _ h2 _=> xq s 0 hw j ab) _ rfl
 by_cases he:s.epoch % 2=1
 ·have hp:ci P Q s=Q:=by unfold ci;rw [if_neg (by rw [hup];exact Bool.false_ne_true),if_pos he]
  have hv:ir s=1:=if_pos he
  rw [hp,hv]
  exact QR s hup hep.1 he P Q drift a hw.dl hw.kl _ _ _ _ _ (key Q tq 1 hQ)
 have hp:ci P Q s=P:=by unfold ci;rw [if_neg (by rw [hup];exact Bool.false_ne_true),if_neg he]
 have hv:ir s=0:=if_neg he
 rw [hp,hv]
 exact PK s hup hep.1 ab P Q drift a hw.dl hw.kl _ _ _ _ _ (key P tp 0 hP)
theorem yD (hP:oe P tp) (hQ:oe Q tq) (hi:i≤1000) (hs:Sq P Q i s) (hup:s.up=true) (htl:qv (if s.ver=1 then tq else tp) s.timers) (hdr:0≤drift∧drift≤3) (hw:Gb a) (hcr:a.crash=false):
  Spec Tryz.prog 45 (ba [jH s,ii P,ii Q, .v (.int .i64 drift),zD a] []) (nw (ee P Q drift a s).1 (II P Q drift a s) (fk s a (hN a s)) (jo P Q drift a s).length (Gx (fk s a (hN a s)) (jo P Q drift a s))):=by
 obtain ⟨hns,hver⟩:=hs.up hup
 have hck:=hs.ck
 have hcb: ∀ k, -1000000≤s.counts.getD k 0∧s.counts.getD k 0≤1000000:=fun k=> by have:=hs.ct k;omega
 have htk:=pT (clock:=s.clock) (tick:=a.tick) hdr
 have hnf: ¬ s.up=false:=by rw [hup];exact fun h=> by cases h
 have hnc: ¬ a.crash=true:=by rw [hcr];exact Bool.false_ne_true
 have hah:=hw.ok.h
 have e1:ee P Q drift a s=dm { s with wait:=a.wait } (ci P Q s) a.h 1 3 drift a.tick a.names a.draws:=by unfold ee;rw [if_neg hnf,if_neg hnc]
 have e2:jo P Q drift a s=jR drift a.tick (gf { s with wait:=a.wait } (ci P Q s) a.h 1 3 drift a.tick a.names a.draws).asked a.draws:=by unfold jo;rw [if_neg hnf,if_neg hnc]
 have e3:II P Q drift a s=Dw ⟨1,(a.h:Int),s.counts.getD a.h 0⟩ (ee P Q drift a s).2 (gN { s with wait:=a.wait } (ci P Q s) a.h 1 3 drift a.tick a.names a.draws):=(if_neg hnf).trans (if_neg hnc)
 have e4:hN a s=a.h:=(if_neg hnf).trans (if_neg hnc)
 rw [e3,e4,e2,← qK,oX,← qo,e1]
 have key: ∀ (X:Pg) (tm:Int),oe X tm→tA X s→qv tm s.timers→Spec Tryz.prog 81 (aY [jH { s with wait:=a.wait },ii X, .v (.int .i64 (a.h:Int)), .v (.int .i64 1), .v (.int .i64 3), .v (.int .i64 drift),Du a.names,jl] (oy (fk s a a.h) 0 [] (5,9)))
   (iW ⟨1,(a.h:Int),s.counts.getD a.h 0⟩ (gN { s with wait:=a.wait } X a.h 1 3 drift a.tick a.names a.draws) (dm { s with wait:=a.wait } X a.h 1 3 drift a.tick a.names a.draws) (fk s a a.h) (pw drift+(gN { s with wait:=a.wait } X a.h 1 3 drift a.tick a.names a.draws).asked.length) (px (fk s a a.h) drift a.tick++ti (fk s a a.h) a.draws (gN { s with wait:=a.wait } X a.h 1 3 drift a.tick a.names a.draws).asked)):=fun X tm hX hN htm=>
  uC X tm { s with wait:=a.wait } ⟨hX.pg,hX.cl,hX.tc,⟨hN.dk,hN.vl,hN.vr,hN.tm,hN.ct⟩,htm,hcb,by show -1000000≤s.clock∧s.clock≤1000000;omega⟩ a.h hah 1 3 drift a.tick a.names a.draws hw.nl hw.ok.nm (dX ab) (dX ab) (by show Rg (de s.clock drift a.tick);unfold Rg;omega) ab (fk s a a.h) (fun h=> xj s a.h hw ab) (fun j k _ h2 _=> xq s a.h hw j ab) _ rfl
 by_cases hv:s.ver=1
 ·have hp:ci P Q s=Q:=by unfold ci;rw [if_pos hup,if_pos hv]
  rw [if_pos hv] at hns htl
  rw [hp]
  exact Po s hup hv P Q drift a hcr ab hw.dl hw.kl _ _ _ _ _ (key Q tq hQ hns htl)
 have hp:ci P Q s=P:=by unfold ci;rw [if_pos hup,if_neg hv]
 rw [if_neg hv] at hns htl
 rw [hp]
 exact Qg s hup hv P Q drift a hcr ab hw.dl hw.kl _ _ _ _ _ (key P tp hP hns htl)
theorem yC (t:Tl) (k:Nat) (keeps:List Int):Gx t (oA k keeps)=zu t keeps k:=by
 unfold Gx oA zu
 rw [List.flatMap_map]
theorem th (hi:i≤1000) (hs:Sq P Q i s) (hsm:jI s) (hup:s.up=true) (hw:Gb a) (hcr:a.crash=true):
  Spec Tryz.prog 45 (ba [jH s,ii P,ii Q, .v (.int .i64 drift),zD a] []) (nw (ee P Q drift a s).1 (II P Q drift a s) (fk s a (hN a s)) (jo P Q drift a s).length (Gx (fk s a (hN a s)) (jo P Q drift a s))):=by
 obtain ⟨hns,hver⟩:=hs.up hup
 have hep:=hs.ep
 have hcb:=hs.ct 40
 have hnf: ¬ s.up=false:=by rw [hup];exact fun h=> by cases h
 have e1:ee P Q drift a s=(gL s (keepB s.dk.pend.length a.keeps),{}):=by unfold ee;rw [if_neg hnf,if_pos hcr]
 have e2:jo P Q drift a s=oA s.dk.pend.length a.keeps:=by unfold jo;rw [if_neg hnf,if_pos hcr]
 have e3:II P Q drift a s=Kk:=(if_neg hnf).trans (if_pos hcr)
 have e4:hN a s=40:=(if_neg hnf).trans (if_pos hcr)
 have hin:ji s.dk:=fun w hw=> by
  obtain ⟨b1,b2,_⟩:=hns.dk.pr w hw
  have:=hns.dk.len
  exact ⟨b1,by omega⟩
 have h:=Qd s hup hsm hin hs.cl ab ab P Q drift a hcr hw.dl hw.kl (fun j _=> Er s 40 hw j)
 rw [Nat.zero_add,List.nil_append] at h
 rw [e3,e4,e2,e1,yC,show (oA s.dk.pend.length a.keeps).length=s.dk.pend.length by simp [oA]]
 exact h
end
end Go.Proofs.YtmjnackchaahbaaGreat

namespace Go.Proofs.YtmjnackchaahbaaGreat

theorem vn {t:Int} (ht:0≤t∧t < 8): ∀ (l:List Ac) (q:Ns×Nr),(∀ a∈l,xi t a)→qv t q.1.timers→qv t (l.foldl dV q).1.timers
 | [],_,_,h=> h
 | a::l,q,ha,h=> vn ht l (dV q a) (fun b hb=> ha b (List.mem_cons_of_mem _ hb)) (uo ht (ha a List.mem_cons_self) h)
theorem jN {P:Pg} {t:Int} (hc:TmC P.c t=true) (s:Ns) (h:qv t s.timers) (k:Nat) (self nodes drift tick:Int) (names ans:List Int):qv t (dm s P k self nodes drift tick names ans).1.timers:=
 vn (TmC.rg hc) _ _ (fun a ha=> ul hc _ _ _ _ a ha) h
structure SqT (P Q:Pg) (tp tq:Int) (i:Nat) (s:Ns):Prop where
 sq:Sq P Q i s
 sm:jI s
 tl:s.up=true→qv (if s.ver=1 then tq else tp) s.timers
theorem It (P Q:Pg) (tp tq:Int):SqT P Q tp tq 0 {}:=⟨IC P Q,⟨Nat.zero_le _,Nat.zero_le _,Nat.zero_le _,Nat.zero_le _⟩,fun h=> by simp at h⟩
theorem GF {X:Pg} {t:Int} {s:Ns} (hX:qx X) (h:tA X s) (ht:qv t s.timers):jI s:=by
 have h1:=h.dk.len
 have h2:=h.dk.pn
 have h3:=h.vl
 have h4:=hX.nv
 refine ⟨by omega,by omega,by omega,?_⟩
 rcases ht with ht | ht <;> rw [ht] <;> simp
theorem Jh {P Q:Pg} {tp tq:Int} (hP:oe P tp) (hQ:oe Q tq) {drift:Int} (hd:0≤drift∧drift≤3) {a:Na} (ha:FQ a) {i:Nat} (hi:i≤100) {s:Ns} (h:SqT P Q tp tq i s):SqT P Q tp tq (i+1) (ee P Q drift a s).1:=by
 have hn:=FL hP.pg hQ.pg hd ha hi h.sq
 have up:(ee P Q drift a s).1.up=true→qv (if (ee P Q drift a s).1.ver=1 then tq else tp) (ee P Q drift a s).1.timers:=by
  unfold ee
  split
  ·rename_i hup
   intro _
   show qv (if (dm (cM s (ci P Q s) (ir s)) (ci P Q s) 0 1 3 drift a.tick (List.replicate 9 0) a.draws).1.ver=1 then tq else tp) (dm (cM s (ci P Q s) (ir s)) (ci P Q s) 0 1 3 drift a.tick (List.replicate 9 0) a.draws).1.timers
   rw [(fR (cM s (ci P Q s) (ir s)) (ci P Q s) 0 1 3 drift a.tick (List.replicate 9 0) a.draws).2.1]
   show qv (if ir s=1 then tq else tp) _
   have hnt: ¬ s.up=true:=by rw [hup];exact Bool.false_ne_true
   by_cases he:s.epoch % 2=1
   ·rw [show ir s=1 from if_pos he,show ci P Q s=Q by unfold ci;rw [if_neg hnt,if_pos he],if_pos rfl]
    exact jN hQ.tc _ (.inl rfl) _ _ _ _ _ _ _
   rw [show ir s=0 from if_neg he,show ci P Q s=P by unfold ci;rw [if_neg hnt,if_neg he],if_neg ah]
   exact jN hP.tc _ (.inl rfl) _ _ _ _ _ _ _
  rename_i hup
  split
  ·intro hx;cases hx
  intro _
  have hup:s.up=true:=by simpa using hup
  have htl:=h.tl hup
  rw [(fR { s with wait:=a.wait } (ci P Q s) a.h 1 3 drift a.tick a.names a.draws).2.1]
  show qv (if s.ver=1 then tq else tp) _
  by_cases hv:s.ver=1
  ·rw [if_pos hv] at htl ⊢
   rw [show ci P Q s=Q by unfold ci;rw [if_pos hup,if_pos hv]]
   exact jN hQ.tc { s with wait:=a.wait } htl _ _ _ _ _ _ _
  rw [if_neg hv] at htl ⊢
  rw [show ci P Q s=P by unfold ci;rw [if_pos hup,if_neg hv]]
  exact jN hP.tc { s with wait:=a.wait } htl _ _ _ _ _ _ _
 refine ⟨hn,?_,up⟩
 by_cases hu:(ee P Q drift a s).1.up=true
 ·have h1:=(hn.up hu).1
  have h2:=up hu
  by_cases hv:(ee P Q drift a s).1.ver=1
  ·rw [if_pos hv] at h1 h2;exact GF hQ.pg h1 h2
  rw [if_neg hv] at h1 h2;exact GF hP.pg h1 h2
 have hs:=h.sm
 unfold ee at hu ⊢
 split at hu
 ·exact absurd ((fR (cM s (ci P Q s) (ir s)) (ci P Q s) 0 1 3 drift a.tick (List.replicate 9 0) a.draws).1) hu
 rename_i hup
 rw [if_neg hup]
 split at hu
 ·rename_i hc
  rw [if_pos hc]
  refine ⟨?_,Nat.zero_le _,?_,Nat.zero_le _⟩
  ·show (oL s.dk.cells _).length≤1000
   rw [fQ];exact hs.c
  show (List.replicate s.vol.length (0:Int)).length≤1000
  rw [List.length_replicate];exact hs.v
 exact absurd ((fR { s with wait:=a.wait } (ci P Q s) a.h 1 3 drift a.tick a.names a.draws).1.trans (show s.up=true by simpa using hup)) hu

theorem Gj {n:Int} (h0:0≤n):Gb (ix n):=by
 obtain ⟨h1,h2,h3,h4,_,h6⟩:=AK h0
 refine ⟨h1,h6,h4,fun x hx=> ?_,by omega,by omega⟩
 have hx:x∈[n / 2 % 2,n / 4 % 2,n / 8 % 2,n / 16 % 2]:=hx
 simp only [List.mem_cons,List.not_mem_nil,or_false] at hx
 omega
theorem Fl (s:Ns) (hup:s.up=false) (P Q:Pg):Spec Tryz.prog 51 (ba [jH s,ii P,ii Q] []) (aO (.v (.bool true)) []):=by
 refine Spec.ofN Tryz.func51 rfl Tryz.ntmps51 rfl ?_
 refine am (ai (aR (3,0) _ rfl rfl) (ai (aR (4,0) _ rfl rfl) (ai (aR (5,0) _ rfl rfl) (cp rfl (aj (aq (am (bb rfl rfl rfl (Cf rfl rfl rfl (ai (cu (r:=true) _ rfl (by rw [hup];rfl)) ?_))))))))))
 exact aj (bL rfl rfl (am (cp rfl (aj (aG (ft rfl rfl))))))
theorem Dq (s:Ns) (hup:s.up=true) (hv:s.ver≠1) (P Q:Pg) (hd:s.dk.cells.length=P.d) (hl:s.vol.length=P.v):Spec Tryz.prog 51 (ba [jH s,ii P,ii Q] []) (aO (.v (.bool true)) []):=by
 refine Spec.ofN Tryz.func51 rfl Tryz.ntmps51 rfl ?_
 refine am (ai (aR (3,0) _ rfl rfl) (ai (aR (4,0) _ rfl rfl) (ai (aR (5,0) _ rfl rfl) (cp rfl (aj (aq (am (bb rfl rfl rfl (Cf rfl rfl rfl (ai (cu (r:=false) _ rfl (by rw [hup];rfl)) ?_))))))))))
 refine aj (aW rfl rfl (aS (am (ai (az _ aa rfl rfl rfl rfl) (ai (aC (7,0) aa rfl rfl) (bG rfl rfl rfl rfl rfl rfl (aj (aq (am (bb rfl rfl rfl ?_))))))))))
 refine cf rfl rfl rfl (gO rfl rfl (beq_eq_false_iff_ne.2 hv) ?_)
 refine aj (aW rfl rfl (aS (am (bb rfl rfl rfl (bb rfl rfl rfl (eV rfl rfl rfl (ai (bn _ aa rfl) (bb rfl rfl rfl (cf rfl rfl rfl (jY rfl rfl (by rw [hd];exact beq_self_eq_true _) ?_))))))))))
 refine cL rfl (ay rfl rfl (aA _ aa rfl rfl rfl) (ay rfl rfl (aF _ aa rfl rfl eE) (ay rfl rfl (bn _ aa rfl) (ay rfl rfl (aA _ aa rfl rfl rfl) (ay rfl rfl (aF _ aa rfl rfl eg) (ay rfl rfl (bB (r:=true) _ _ rfl rfl (by rw [hl];exact beq_self_eq_true _)) ?_))))))
 exact ai (aE _ _ _ rfl bR) (cp rfl (aj (aG (ft rfl rfl))))
theorem HO (s:Ns) (hup:s.up=true) (hv:s.ver=1) (P Q:Pg) (hd:s.dk.cells.length=Q.d) (hl:s.vol.length=Q.v):Spec Tryz.prog 51 (ba [jH s,ii P,ii Q] []) (aO (.v (.bool true)) []):=by
 refine Spec.ofN Tryz.func51 rfl Tryz.ntmps51 rfl ?_
 refine am (ai (aR (3,0) _ rfl rfl) (ai (aR (4,0) _ rfl rfl) (ai (aR (5,0) _ rfl rfl) (cp rfl (aj (aq (am (bb rfl rfl rfl (Cf rfl rfl rfl (ai (cu (r:=false) _ rfl (by rw [hup];rfl)) ?_))))))))))
 refine aj (aW rfl rfl (aS (am (ai (az _ aa rfl rfl rfl rfl) (ai (aC (7,0) aa rfl rfl) (bG rfl rfl rfl rfl rfl rfl (aj (aq (am (bb rfl rfl rfl ?_))))))))))
 refine cf rfl rfl rfl (jY rfl rfl (by rw [hv];rfl) ?_)
 refine aj (bL rfl rfl (an (ai (az _ aa rfl rfl rfl rfl) (bG rfl rfl rfl rfl rfl rfl (aj (aq ?_))))))
 refine aM (σ':=aD 31 [(3,_),(7,_)] [((3,0),_),((7,0),_)] [] []) kp ?_
 refine an (bb rfl rfl rfl (bb rfl rfl rfl (eV rfl rfl rfl (ai (bn _ aa rfl) (bb rfl rfl rfl (cf rfl rfl rfl (jY rfl rfl (by rw [hd];exact beq_self_eq_true _) ?_)))))))
 refine cL rfl (ay rfl rfl (aA _ aa rfl rfl rfl) (ay rfl rfl (aF _ aa rfl rfl eE) (ay rfl rfl (bn _ aa rfl) (ay rfl rfl (aA _ aa rfl rfl rfl) (ay rfl rfl (aF _ aa rfl rfl eg) (ay rfl rfl (bB (r:=true) _ _ rfl rfl (by rw [hl];exact beq_self_eq_true _)) ?_))))))
 exact ai (aE _ _ _ rfl bR) (cp rfl (aj (aG (ft rfl rfl))))

abbrev Ja (n:Int):Nat:=(dL n 12).toNat
def MA (n:Int):Pg:=⟨bT (onss.getD (Ja n) []) 0,bX (onss.getD (Ja n) []),(durs.getD (Ja n) []).length,(vols.getD (Ja n) []).length⟩
theorem zN (n:Int) (h: -9223372036854775808≤n∧n≤9223372036854775807):Spec Tryz.prog 39 (ba [.v (.int .i64 n)] []) (aO (ii (MA n)) []):=sU n h.1 h.2
def OG (n:Int):Int:=if Ja n=6 then 1 else 0
theorem JI {d v:List Tx} {ons:List (Nat×Bk)} (U:UOk d v ons) {tm:Int} (ht:TmC (bT ons 0) tm=true):oe ⟨bT ons 0,bX ons,d.length,v.length⟩ tm where
 pg:=by
  have hl:(d++v).length=d.length+v.length:=List.length_append
  refine ⟨⟨xx ons,by show Good _ (d.length+v.length) _ _ _ _;rw [← hl];exact U.good,fun h=> ?_⟩,by show d.length+v.length≤16;rw [← hl];exact U.len⟩
  rcases vM ons h with e | ⟨e,_,e2,e3,e4⟩
  ·exact .inl (by show (nC (ka ons 0)).getD h (-1) < 0;omega)
  have e5:bX ons h=(e:Int):=e2
  exact .inr ⟨by show 0≤bX ons h;omega,by show bX ons h < _;rw [e5];exact Int.ofNat_lt.2 e3,by show xx ons (bX ons h).toNat=0;rw [e5,Int.toNat_natCast];exact e4⟩
 cl:=U.c
 tc:=ht
theorem Lo (k:Nat) (h:k < 12):TmC (bT (onss.getD k []) 0) (if k=6 then 1 else 0)=true:=by
 rcases (show k=0∨k=1∨k=2∨k=3∨k=4∨k=5∨k=6∨k=7∨k=8∨k=9∨k=10∨k=11 by omega) with rfl | rfl | rfl | rfl | rfl | rfl | rfl | rfl | rfl | rfl | rfl | rfl <;> kernel_rfl
theorem Iq (n:Int):oe (MA n) (OG n):=by
 have hlo:=jg n 12 ab
 have hhi:=kw n 12 ab
 have hk:Ja n < 12:=by show (dL n 12).toNat < 12;omega
 exact JI (JT _ hk).1.toUOk (Lo _ hk)
abbrev Gg (l:List Int) (k:Nat):Na:=ix (dL (l.getD k 0) 100000000)
theorem Ic (l:List Int) (k:Nat):Gb (Gg l k):=Gj (jg _ _ ab)
def KR (a:Na) (s:Ns):Cz:=if s.up=false then ⟨1,((0:Nat):Int),s.counts.getD 0 0⟩ else if a.crash=true then ⟨0,0,0⟩ else ⟨1,(a.h:Int),s.counts.getD a.h 0⟩
def IQ (P Q:Pg) (dr:Int) (a:Na) (s:Ns):Ms:=if s.up=false then gN (cM s (ci P Q s) (ir s)) (ci P Q s) 0 1 3 dr a.tick (List.replicate 9 0) a.draws else if a.crash=true then { vars:=[],pc:=0,fin:=true } else gN { s with wait:=a.wait } (ci P Q s) a.h 1 3 dr a.tick a.names a.draws
theorem HL (P Q:Pg) (dr:Int) (a:Na) (s:Ns):II P Q dr a s=Dw (KR a s) (ee P Q dr a s).2 (IQ P Q dr a s):=by
 unfold KR IQ
 by_cases hu:s.up=false
 ·rw [if_pos hu,if_pos hu]
  exact if_pos hu
 rw [if_neg hu,if_neg hu]
 by_cases hc:a.crash=true
 ·rw [if_pos hc,if_pos hc]
  refine ((if_neg hu).trans (if_pos hc)).trans ?_
  have e1:ee P Q dr a s=(gL s (keepB s.dk.pend.length a.keeps),{}):=by unfold ee;rw [if_neg hu,if_pos hc]
  have e2:fw (kE [])=[]:=by simp [fw,kE]
  rw [e1]
  show Kk=AV.agg [.v (.int .i64 0), .v (.int .i64 0), .v (.int .i64 0), .sl 0 (BT ⟨0,0,0⟩ []), .v (.bool false), .v (.int .i64 0), .sl 0 (cm []), .sl 0 (cm []), .sl 0 (vk []), .v (.int .i64 0), .v (.bool false), .sl (fw (kE [])).length (cm (fw (kE [])))]
  rw [e2];rfl
 rw [if_neg hc,if_neg hc]
 exact (if_neg hu).trans (if_neg hc)
theorem HV {P Q:Pg} {tp tq dr:Int} (hP:oe P tp) (hQ:oe Q tq) (hd:0≤dr∧dr≤3) {i:Nat} (hi:i≤1000) {s:Ns} (hs:SqT P Q tp tq i s) {a:Na} (hw:Gb a):
  Spec Tryz.prog 45 (ba [jH s,ii P,ii Q, .v (.int .i64 dr),zD a] []) (nw (ee P Q dr a s).1 (Dw (KR a s) (ee P Q dr a s).2 (IQ P Q dr a s)) (fk s a (hN a s)) (jo P Q dr a s).length (Gx (fk s a (hN a s)) (jo P Q dr a s))):=by
 rw [← HL]
 by_cases hu:s.up=true
 ·by_cases hc:a.crash=true
  ·exact th hi hs.sq hs.sm hu hw hc
  exact yD hP hQ hi hs.sq hu (hs.tl hu) hd hw (by simpa using hc)
 exact uy hP hQ hi hs.sq hs.sm (by simpa using hu) hd hw
theorem Id {P Q:Pg} {tp tq:Int} {i:Nat} {s:Ns} (hs:SqT P Q tp tq i s):Spec Tryz.prog 51 (ba [jH s,ii P,ii Q] []) (aO (.v (.bool true)) []):=by
 by_cases hu:s.up=true
 ·obtain ⟨h,_⟩:=hs.sq.up hu
  by_cases hv:s.ver=1
  ·rw [if_pos hv] at h
   exact HO s hu hv P Q h.dk.len h.vl
  rw [if_neg hv] at h
  exact Dq s hu hv P Q h.dk.len h.vl
 exact Fl s (by simpa using hu) P Q

def eP (h k:Nat):Int:=if k < h then -1 else 0
theorem Ib (h:Nat):lj (eP h) h (-1)=eP (h+1):=by
 funext k
 unfold lj eP
 by_cases h1:k=h
 ·rw [if_pos h1,if_pos ab]
 rw [if_neg h1]
 by_cases h2:k < h
 ·rw [if_pos h2,if_pos ab]
 rw [if_neg h2,if_neg ab]
def P13:Pg:=⟨[{ op:= .push,n:=5 },{ op:= .setVar,n:=0 },{ op:= .stop,n:=0 }],lj (eP 40) 10 0,0,1⟩
theorem AM:Spec Tryz.prog 85 (ba [] []) (aO (ii P13) []):=by
 refine Spec.ofN Tryz.func85 rfl Tryz.ntmps85 rfl ?_
 refine am (ai (aC (0,0) aa rfl rfl) (aj (am (ai (aL _ aa rfl (by exact eR)) ?_))))
 refine ai (aL _ aa rfl (by exact eR)) ?_
 refine ai (aL _ aa rfl (by exact eR)) ?_
 refine ai (bh _ _ aa rfl ag (by (simp <;> rfl)) ah rfl) ?_
 refine ai (aL _ aa rfl (by exact DK)) ?_
 refine ai (aC (1,0) aa rfl rfl) (bG rfl rfl rfl rfl rfl rfl (aj (aU fun K3 hK3=> ?_)))
 refine am (be rfl (aj (ax ?_)))
 refine bq (α:=Nat) (fun q=> q≤40) 18 [(0,_),(1,_)] [((0,0),_)] (fun q=> [(2, .v (.int .i64 (q:Int)))]) (fun q=> [((1,0), .box 26 [.sl 3 (inl P13.c), .v (.int .i64 (eP q 0)), .v (.int .i64 (eP q 1)), .v (.int .i64 (eP q 2)), .v (.int .i64 (eP q 3)), .v (.int .i64 (eP q 4)), .v (.int .i64 (eP q 5)), .v (.int .i64 (eP q 6)), .v (.int .i64 (eP q 7)), .v (.int .i64 (eP q 8)), .v (.int .i64 (eP q 9)), .v (.int .i64 (eP q 10)), .v (.int .i64 (eP q 11)), .v (.int .i64 (eP q 12)), .v (.int .i64 (eP q 13)), .v (.int .i64 (eP q 14)), .v (.int .i64 (eP q 15)), .v (.int .i64 (eP q 16)), .v (.int .i64 (eP q 17)), .v (.int .i64 (eP q 18)), .v (.int .i64 (eP q 19)), .v (.int .i64 (eP q 20)), .v (.int .i64 (eP q 21)), .v (.int .i64 (eP q 22)), .v (.int .i64 (eP q 23)), .v (.int .i64 (eP q 24)), .v (.int .i64 (eP q 25)), .v (.int .i64 (eP q 26)), .v (.int .i64 (eP q 27)), .v (.int .i64 (eP q 28)), .v (.int .i64 (eP q 29)), .v (.int .i64 (eP q 30)), .v (.int .i64 (eP q 31)), .v (.int .i64 (eP q 32)), .v (.int .i64 (eP q 33)), .v (.int .i64 (eP q 34)), .v (.int .i64 (eP q 35)), .v (.int .i64 (eP q 36)), .v (.int .i64 (eP q 37)), .v (.int .i64 (eP q 38)), .v (.int .i64 (eP q 39)), .v (.int .i64 0), .v (.int .i64 1)])]) [] [] (fun q=> 40 - q) 0 ?_ (by
  refine Le.mkJ [] [] rfl ?_ ?_ trivial trivial ?_
  ·exact ⟨(iP rfl),(iP rfl),(co ag),trivial⟩
  ·exact ⟨(ca rfl rfl rfl),(fm rfl rfl rfl rfl lz),trivial⟩
  kernel_rfl) ?_
 ·omega
 intro q hq
 refine aU fun K5 hK5=> ?_
 refine am (aX rfl (ai (bm _ _ rfl rfl rfl) (aj (aP rfl (fun hc9=> ?_) (fun hc9=> ?_)))))
 ·skip
  refine bs (hK5 _ ?_)
  clear hK5;try clear K5
  refine aq (ax (an (aX rfl (bb rfl rfl rfl (ai (cY _ _ aa rfl rfl rfl q rfl ab (by exact congrArg (fun z=> 0+1+z) (Nat.mul_one q))) ?_)))))
  refine ai (dE _ _ aa rfl rfl rfl rfl (show 0+1+q+1≤43 by omega) ((congrArg (fun z=> fW (Hf (.sl 3 (inl P13.c)) (eP q) 0 1) z [.v (.int .i64 (-1))]) ab).trans ((tg _ _ _ _ q ab _).trans (by rw [Ib])))) ?_
  refine dS (an (aX rfl (ai (aZ _ _ rfl rfl (bE ab)) ?_)))
  refine be rfl (aJ (⟨q+1,?_,?_,?_⟩))
  ·omega
  ·skip
   refine Le.mkJ [] [] rfl ?_ ?_ trivial trivial ?_
   ·exact ⟨(iP rfl),(iP rfl),(co ag),trivial⟩
   ·exact ⟨(ca rfl rfl rfl),(fm rfl rfl rfl rfl lz),trivial⟩
   kernel_rfl
  omega
 obtain rfl:q=40:=by omega
 refine bD (id (hK3 _ ?_))
 clear hK3;try clear K3
 refine am (bb rfl rfl rfl (ai (cY _ _ aa rfl rfl rfl 10 rfl ab ag) ?_))
 exact bG rfl rfl rfl rfl rfl rfl (aj (am (ai (az _ aa rfl rfl rfl rfl) (bG rfl rfl rfl rfl rfl rfl (aj (aG (bI (.inr rfl) rfl (.cellA aa rfl rfl rfl) (Le.out [] [] (.agg rfl lz) rfl rfl rfl trivial trivial))))))))
theorem p13_ok:oe P13 0 where
 pg:=by
  refine ⟨⟨fun i=> [0,1,0].getD i 0,fun i x hx=> ?_,fun h=> ?_⟩,by show 0+1≤16;omega⟩
  ·rw [Nat.zero_add]
   rcases i with _ | _ | _ | i
   all_goals first | (simp [P13] at hx;done) | (simp only [P13,List.getElem?_cons_zero,List.getElem?_cons_succ,Option.some.injEq] at hx;subst hx)
   all_goals refine ⟨?_,?_,fun j hj=> ?_⟩
   all_goals first | (simp [dh,P13,Rg];done) | (simp [Opc.pops];done) | (simp [dQ] at hj;done) | (simp [dQ] at hj;subst hj;simp [P13,Opc.pops,Opc.puts];done)
  by_cases h1:h=10
  ·subst h1;exact .inr ⟨by decide,by decide,by decide⟩
  by_cases h2:h < 40
  ·refine .inl ?_
   show lj (eP 40) 10 0 h < 0
   unfold lj eP
   rw [if_neg h1,if_pos h2];omega
  have e:P13.e h=0:=by
   show lj (eP 40) 10 0 h=0
   unfold lj eP
   rw [if_neg h1,if_neg h2]
  rw [e]
  exact .inr ⟨Int.le_refl _,by decide,rfl⟩
 cl:=by decide
 tc:=by decide
abbrev tM:Tl:=⟨0,0,0,0,[],0,[]⟩
theorem QJ (kind idx q:Int) (hq:0 < q):sW tM kind idx q 0:=by
 have h:=ie [] (Nat.zero_le _) 0 0 0 kind idx q hq
 have e:ou [] 0 0 0 kind idx % q=0:=Int.zero_emod q
 rw [e] at h
 exact h
theorem Pi (l:List Int):((cm l).drop 0).take (l.length*1)=cm l:=by rw [List.drop_zero,Nat.mul_one,List.take_of_length_le (by rw [aN];omega)]
set_option maxHeartbeats 4000000 in
theorem wc (S1 S2 S3:Ns) (r1 r2:Nr) (R1 R2:Ms) (c1 c2:Cz) (P:Pg)
  (hp:Spec Tryz.prog 85 (ba [] []) (aO (ii P) []))
  (hS:Spec Tryz.prog 56 (aY [jH {},ii P, .v (.int .i64 0), .v (.int .i64 0), .v (.int .i64 1), .v (.int .i64 0),jl] (oy tM 0 [] (5,9))) (iW c1 R1 (S1,r1) tM 0 []))
  (hH:Spec Tryz.prog 81 (aY [jH S1,ii P, .v (.int .i64 10), .v (.int .i64 0), .v (.int .i64 1), .v (.int .i64 0),Du (List.replicate 9 0),jl] (oy tM 0 [] (5,9))) (iW c2 R2 (S2,r2) tM 0 []))
  (hC:Spec Tryz.prog 53 (aY [jH S2,jl] (oy tM 0 [] (5,9))) (bc (jH S3) (oy tM 0 [] (5,8)) [(4,9),(5,8)] [(4,9)]))
  (hw:Spec Tryz.prog 51 (ba [jH S1,ii P,ii P] []) (aO (.v (.bool true)) []))
  (hv2:Spec Tryz.prog 47 (ba [jH S2] []) (aO (.sl 1 (cm [5])) []))
  (hv3:Spec Tryz.prog 47 (ba [jH S3] []) (aO (.sl 1 (cm [0])) []))
  (e1:S1.up=true) (e2:S2.counts.getD 0 0=1) (e3:S2.counts.getD 10 0=1) (e4:S2.clock=2) (e5:S3.epoch=1):
  Spec Tryz.prog 50 (ba [] []) (aO (.v (.bool true)) []):=by
 have hn:=rp
 have hs5:=oE 1 1 [5] [5] rfl rfl ab ab
 have hs0:=oE 1 1 [0] [0] rfl rfl ab ab
 refine Spec.ofN Tryz.func50 rfl Tryz.ntmps50 rfl ?_
 refine am (cp rfl (aj (am (ai (aL _ aa rfl (by exact rh)) ?_))))
 refine ai (aR (5,0) _ rfl rfl) (vw rfl (aj (aq ?_)))
 refine aM (Le.trans (Le.nilB (5,0) 4 (60,0) 111 7 rfl rfl rfl) (Le.nil0 (5,0) 3 rfl rfl)) ?_
 refine an (ai (aH aa (by repeat' (exact cU)) (hn) rfl rfl) ?_)
 refine ai (aH aa (by repeat' (exact cU)) (hp) rfl rfl) ?_
 refine bQ rfl (ai (jk _ _ (rfl:_=[AV.ptr _ _]) (rfl:_=[])) ?_)
 refine ai (bS aa [((4,9),(5,0)),((5,9),(60,0)),((1,8),(11,0)),((2,8),(11,1)),((3,8),(11,2)),((6,8),(11,3)),((5,8),(11,4))] ar (hS) ob tr tr rfl rfl ae ae) ?_
 refine ai (aI _ tN) (ai (cq _ rfl pE) (ai (cq _ rfl pE) (ai (aC (2,0) aa rfl rfl) (ai (aC (3,0) aa rfl rfl) (bG rfl rfl rfl rfl rfl rfl (bG rfl rfl rfl rfl rfl rfl (aj (aq (aq ?_)))))))))
 refine aM (Le.frzB (ys:=cm S1.timers) (2,0) 7 rfl rfl rfl rfl (Pi _) (by rw [aN];omega)) ?_
 refine bK 10 [14,15,16,17,18,19,20,21,22,23] [] ae ae rfl (aK rfl) (rfl:_=[_,_,_,_,_,_,_,_,_,_]) (rfl:_=[]) ?_
 refine ap (_,[]) (fun τ=> az _ aa rfl rfl rfl rfl) ?_
 refine fF rfl ?_
 refine ap (_,[]) (fun τ=> (aH aa (by repeat' (exact cU)) (hp) rfl rfl)) ?_
 refine fL rfl ?_
 refine ap (_,[]) (fun τ=> (aH aa (by repeat' (exact cU)) (hp) rfl rfl)) ?_
 refine fA rfl ?_
 refine ap (_,[]) (fun τ=> (aH aa al (hw) rfl rfl)) ?_
 refine fT rfl ?_
 refine ap (_,[]) (fun τ=> cu _ rfl rfl) ?_
 refine gj rfl ?_
 refine ap (_,[]) (fun τ=> aI _ bR) ?_
 refine gU rfl ?_
 refine bw (_,[]) rfl (fun τ=> rfl) (fun τ=> aA _ aa rfl rfl rfl) ?_
 refine iC rfl ?_
 refine bw (_,[]) rfl (fun τ=> rfl) (fun τ=> aF _ aa rfl rfl Cj) ?_
 refine jM rfl ?_
 refine bw (_,[]) rfl (fun τ=> rfl) (fun τ=> cu (r:=false) _ rfl (by rw [e1];rfl)) ?_
 refine jX rfl ?_
 refine ap (_,[]) (fun τ=> aE _ _ _ rfl bR) ?_
 refine fI rfl (bl ⟨rfl,?_⟩)
 refine aj (aW rfl rfl (aS (aU fun K6 hK6=> ?_)))
 refine aM (σ':=aD 76 [(1,_),(2,_)] [((5,0),_),((11,4),_),((2,0),_)] [] []) kp ?_
 refine hG 10 [25,26,27,28,29,30,24,31,32] [(30,0),(30,1),(30,2),(30,3),(5,0),(30,4),(11,4),(2,0)] [[(2,0)],[(2,0)],[(2,0)],[(2,0)],[(2,0)],[(2,0)],[(2,0)],[(2,0)],[],[]] ae ae rfl (aK rfl) (rfl:_=[_,_,_,_,_,_,_,_,_,_]) (rfl:_=[]) ?_
 refine ap (_,[]) (fun τ=> az _ aa rfl rfl rfl rfl) ?_
 refine fF rfl ?_
 refine ap (_,[]) (fun τ=> (aH aa (by repeat' (exact cU)) (hp) rfl rfl)) ?_
 refine fL rfl ?_
 refine ap (_,[]) (fun τ=> aL _ aa rfl (by exact Dn)) ?_
 refine fA rfl ?_
 refine ap (_,[]) (fun τ=> aI _ bW) ?_
 refine fT rfl ?_
 refine ap (_,[]) (fun τ=> jk _ _ (rfl:_=[AV.ptr _ _]) (rfl:_=[])) ?_
 refine gj rfl ?_
 refine ap (_,[((30,0),_),((30,1),_),((30,2),_),((30,3),_),((5,0),_),((30,4),_),((11,4), .gone)]) (fun τ=> (bS aa [((4,9),(5,0)),((5,9),(11,4)),((1,8),(30,0)),((2,8),(30,1)),((3,8),(30,2)),((6,8),(30,3)),((5,8),(30,4))] ar (hH) ob tr tr rfl rfl ae ae)) ?_
 refine gU rfl ?_
 refine ap (_,[]) (fun τ=> aI _ tN) ?_
 refine iC rfl ?_
 refine ap (_,[]) (fun τ=> cq _ rfl pE) ?_
 refine jM rfl ?_
 refine ap (_,[]) (fun τ=> cq _ rfl pE) ?_
 refine jX rfl ?_
 refine ap (_,[((2,0),_)]) (fun τ=> dE _ _ aa rfl (eF rfl (by exact dJ) rfl) rfl rfl (Nat.le_of_ble_eq_true rfl) rfl) ?_
 refine fI rfl (bl ⟨⟨rfl,by kernel_rfl⟩,?_⟩)
 refine aJ (hK6 _ ?_)
 clear hK6;try clear K6
 refine aq (aq ?_)
 refine aM (Le.frzB (ys:=cm S2.timers) (2,0) 7 rfl rfl rfl rfl (Pi _) (by rw [aN];omega)) ?_
 refine an (ai (az _ aa rfl rfl rfl rfl) (ai (aH aa al (hv2) rfl rfl) ?_))
 refine ai (bh _ _ aa rfl ag (by (simp <;> rfl)) ah rfl) ?_
 refine ai (aH aa al (hs5) rfl rfl) ?_
 refine ai (cu _ rfl rfl) (cL rfl (ay rfl rfl (aA _ aa rfl rfl rfl) (ay rfl rfl (cY _ _ aa rfl rfl rfl 0 rfl ab (by exact Nat.zero_add _)) ?_)))
 refine ay rfl rfl (aF _ aa rfl rfl eg) (ay rfl rfl (bY (r:=false) _ _ rfl rfl (by show (S2.counts.getD 0 0 !=1)=false;rw [e2];rfl)) ?_)
 refine ai (aE _ _ _ rfl bR) (cL rfl (ay rfl rfl (aA _ aa rfl rfl rfl) (ay rfl rfl (cY _ _ aa rfl rfl rfl 10 rfl ab ag) ?_)))
 refine ay rfl rfl (aF _ aa rfl rfl eg) (ay rfl rfl (bY (r:=false) _ _ rfl rfl (by show (S2.counts.getD 10 0 !=1)=false;rw [e3];rfl)) ?_)
 refine ai (aE _ _ _ rfl bR) (cL rfl (ay rfl rfl (aA _ aa rfl rfl rfl) (ay rfl rfl (aF _ aa rfl rfl eg) (ay rfl rfl (bY (r:=false) _ _ rfl rfl (by rw [e4];rfl)) ?_))))
 refine ai (aE _ _ _ rfl bR) (aj (aW rfl rfl (aS (aU fun K9 hK9=> ?_))))
 refine aM (σ':=aD 76 [(1,_),(2,_)] [((5,0),_),((2,0),_),((30,4),_)] [] []) kp ?_
 refine an (ai (az _ aa rfl rfl rfl rfl) (bQ rfl (ai (jk _ _ (rfl:_=[AV.ptr _ _]) (rfl:_=[])) ?_)))
 refine ai (bS aa [((4,9),(5,0)),((5,9),(30,4)),((5,8),(58,0))] ar (hC) ob tr tr rfl rfl ae ae) ?_
 refine bG rfl rfl rfl rfl rfl rfl (aJ (hK9 _ ?_))
 clear hK9;try clear K9
 refine am (ai (az _ aa rfl rfl rfl rfl) (ai (aH aa al (hv3) rfl rfl) ?_))
 refine ai (bh _ _ aa rfl ag (by (simp <;> rfl)) ah rfl) ?_
 refine ai (aH aa al (hs0) rfl rfl) ?_
 refine cL rfl (ay rfl rfl (aA _ aa rfl rfl rfl) (ay rfl rfl (aF _ aa rfl rfl eg) (ay rfl rfl (bB (r:=true) _ _ rfl rfl (by rw [e5];rfl)) ?_)))
 refine ai (aE _ _ _ rfl bR) (cL rfl (ay rfl rfl (aI _ bW) (ay rfl rfl (aT _ rfl rfl) (ay rfl rfl (aA _ aa rfl rfl rfl) (ay rfl rfl (aF _ aa rfl rfl eN) (ay rfl rfl (dg _ aa rfl rfl) (ay rfl rfl (bB _ _ rfl rfl rfl) (ai (aE _ _ _ rfl bR) (cp rfl (aj ?_))))))))))
 exact aG (ft rfl rfl)
abbrev FG:Ns:={ up:=true,ver:=0,clock:=1,vol:=[0],counts:=(List.replicate 41 0).set 0 1 }
abbrev JC:Ns:={ up:=true,ver:=0,clock:=2,vol:=[5],counts:=((List.replicate 41 0).set 0 1).set 10 1 }
abbrev Ph:Ns:={ up:=false,ver:=0,clock:=2,vol:=[0],epoch:=1,counts:=(((List.replicate 41 0).set 0 1).set 10 1).set 40 1 }
theorem Jq (k:Nat) (l:List Int) (h: ∀ x∈l,0≤x∧x≤1): -1000000≤l.getD k 0∧l.getD k 0≤1000000:=by
 by_cases hk:k < l.length
 ·rw [List.getD_eq_getElem?_getD,List.getElem?_eq_getElem hk]
  have:=h _ (List.getElem_mem hk)
  simp only [Option.getD_some];omega
 rw [List.getD_eq_getElem?_getD,List.getElem?_eq_none ab];simp
theorem Fp:Spec Tryz.prog 50 (ba [] []) (aO (.v (.bool true)) []):=by
 have hsm:jI {}:=⟨Nat.zero_le _,Nat.zero_le _,Nat.zero_le _,Nat.zero_le _⟩
 have hdi:ji ({}:Ns).dk:=fun w hw=> (by cases hw)
 have hdk:DkOk 0 ({}:Ns).dk:=⟨rfl,fun v hv=> (by cases hv),Nat.zero_le _,fun w hw=> (by cases hw)⟩
 have hb:=tO (s:={}) p13_ok.pg p13_ok.cl p13_ok.tc hdk rfl (fun k=> Jq k (List.replicate 41 0) ah) ah 0
 have hld: ∀ (i:Nat) (k:Int),i≤100000→2≤k→k≤4→sW tM 1 (i:Int) k (gI [] i k):=fun i k _ h2 _=> by
  have e:gI [] i k=0:=Int.zero_emod k
  rw [e];exact QJ _ _ _ ab
 have hS:=xA P13 0 {} hsm hdi 0 hb 0 1 0 0 [] (dX ab) (dX ab) (dX ah) ab tM (fun h=> absurd h (Int.lt_irrefl 0)) hld _ rfl
 have q1:mz {} P13 0 0 1 0 0 []=(FG,{}):=by kernel_rfl
 have a1:(gN (cM {} P13 0) P13 0 0 1 0 0 (List.replicate 9 0) []).asked=[]:=by kernel_rfl
 rw [q1] at hS
 have o1:pw 0+(gN (cM {} P13 0) P13 0 0 1 0 0 (List.replicate 9 0) []).asked.length=0:=by rw [a1];rfl
 have p1:px tM 0 0++ti tM [] (gN (cM {} P13 0) P13 0 0 1 0 0 (List.replicate 9 0) []).asked=[]:=by rw [a1];rfl
 rw [o1,p1] at hS
 have h1:HdOk P13 0 FG:=⟨p13_ok.pg,p13_ok.cl,p13_ok.tc,⟨hdk,rfl,fun v hv=> (by rw [List.mem_singleton.1 hv];exact og),⟨List.Pairwise.nil,fun x hx=> (by cases hx)⟩,rfl⟩, .inl rfl,fun k=> Jq k _ ah,by decide⟩
 have hH:=uC P13 0 FG h1 10 ab 0 1 0 0 (List.replicate 9 0) [] rfl JB (dX ab) (dX ab) (dX ah) ab tM (fun h=> absurd h (Int.lt_irrefl 0)) hld _ rfl
 have q2:dm FG P13 10 0 1 0 0 (List.replicate 9 0) []=(JC,{}):=by kernel_rfl
 have a2:(gN FG P13 10 0 1 0 0 (List.replicate 9 0) []).asked=[]:=by kernel_rfl
 rw [q2] at hH
 have o2:pw 0+(gN FG P13 10 0 1 0 0 (List.replicate 9 0) []).asked.length=0:=by rw [a2];rfl
 have p2:px tM 0 0++ti tM [] (gN FG P13 10 0 1 0 0 (List.replicate 9 0) []).asked=[]:=by rw [a2];rfl
 rw [o2,p2] at hH
 have h2:jI JC:=⟨Nat.zero_le _,Nat.zero_le _,ah,Nat.zero_le _⟩
 have hC:=lB JC h2 hdi rfl ah ah tM 0 [] rfl ab [] (fun i hi=> absurd hi (Nat.not_lt_zero _))
 have hw:=Dq FG rfl ah P13 P13 rfl rfl
 have hv2:=kJ JC h2 hdi
 have hv3:=kJ Ph ⟨Nat.zero_le _,Nat.zero_le _,ah,Nat.zero_le _⟩ hdi
 exact wc FG JC Ph {} {} _ _ _ _ P13 AM hS hH hC hw hv2 hv3 rfl rfl rfl rfl rfl

theorem yp (l:List Int) (k:Nat) (h:k < (jz (l.take 10)).length):(jz (l.take 10)).getD k JW=Gg l k∧k < 10:=by
 have h1:k < (l.take 10).length:=by rw [mh] at h;exact h
 have h2:k < 10∧k < l.length:=by rw [List.length_take] at h1;omega
 refine ⟨?_,h2.1⟩
 unfold jz
 rw [List.getD_eq_getElem?_getD,List.getElem?_map,List.getElem?_eq_getElem h1,List.getElem_take]
 show ix (dL (l[k]) 100000000)=ix (dL (l.getD k 0) 100000000)
 rw [List.getD_eq_getElem?_getD,List.getElem?_eq_getElem h2.2];rfl

theorem Hg (l:List Na) (k:Nat) (h:k < l.length) (j:Nat) (hj:j < 15):(zV l)[k*15+j]? =(FO (l.getD k JW))[j]? :=by
 have e:l.getD k JW=l[k]:=by rw [List.getD_eq_getElem?_getD,List.getElem?_eq_getElem h];rfl
 rw [e];exact lA FO 15 (fun _=> rfl) l k j h hj

theorem GQ (xs:List Int) (h:xs.length≤4611686018427387904):Spec Tryz.prog 30 (ba [.sl xs.length (cm xs), .sl xs.length (cm xs)] []) (aO (.v (.bool true)) []):=by
 have:=oE xs.length xs.length xs xs rfl rfl h h
 rwa [decide_eq_true rfl] at this
theorem SqT.dk {P Q:Pg} {tp tq:Int} {i:Nat} {s:Ns} (h:SqT P Q tp tq i s): ∃ n,DkOk n s.dk:=by
 by_cases hu:s.up=true
 ·exact ⟨_,(h.sq.up hu).1.dk⟩
 exact (h.sq.dn (by simpa using hu)).1
theorem SqT.din {P Q:Pg} {tp tq:Int} {i:Nat} {s:Ns} (h:SqT P Q tp tq i s):ji s.dk:=fun w hw=> by
 obtain ⟨n,hd⟩:=h.dk
 obtain ⟨b1,b2,_⟩:=hd.pr w hw
 have:=hd.len
 exact ⟨b1,by omega⟩

abbrev IX (b:Bool) (a:Ac):Bool:=if a.k=1 then false else if a.k=2 then true else b
abbrev IS (l:List Ac):Bool:=l.foldl IX false
theorem Db (l:List Ac) {j:Nat} (h:j < l.length):IS (l.take (j+1))=IX (IS (l.take j)) (mH l j):=by
 have e:l.take (j+1)=l.take j++[mH l j]:=by
  rw [List.take_add_one,List.getElem?_eq_getElem h];unfold mH;rw [List.getD_eq_getElem?_getD,List.getElem?_eq_getElem h];rfl
 rw [e]
 show (l.take j++[mH l j]).foldl IX false=_
 rw [List.foldl_append];rfl
theorem xb (p:Pg) (h:Nat) (names vars ans:List Int):(pu p h names vars ans).acts.length≤500:=xF p h names vars ans
theorem Fq (P Q:Pg) (d:Int) (a:Na) (s:Ns):(IQ P Q d a s).acts.length≤500∧((ee P Q d a s).1.up=true→IS (IQ P Q d a s).acts=true→(ee P Q d a s).1.dk.pend=[]):=by
 unfold ee IQ
 by_cases hu:s.up=false
 ·rw [if_pos hu,if_pos hu]
  refine ⟨xb _ _ _ _ _,fun _ hy=> ?_⟩
  rw [(nk (ci P Q s) 0 _ _ _).1] at hy
  exact pa (s:=cM s (ci P Q s) (ir s)) hy
 rw [if_neg hu,if_neg hu]
 by_cases hc:a.crash=true
 ·rw [if_pos hc,if_pos hc]
  exact ⟨Nat.zero_le _,fun h=> (by cases h)⟩
 rw [if_neg hc,if_neg hc]
 refine ⟨xb _ _ _ _ _,fun _ hy=> ?_⟩
 rw [(nk (ci P Q s) a.h _ _ _).1] at hy
 exact pa (s:={ s with wait:=a.wait }) hy
theorem GC (l m:List Int) {d:Nat} (h:l.length=d):((cm (l++m)).drop (0*1)).take ((d - 0)*1)=cm l:=by
 rw [Nat.zero_mul,List.drop_zero,Nat.sub_zero,Nat.mul_one,← h]
 simp [cm]
set_option maxHeartbeats 4000000 in
theorem tB (one:Int) (l:List Int) (hone: -9223372036854775808≤one∧one≤9223372036854775807) (hl:l.length≤4611686018427387904) (hr: ∀ x∈l, -9223372036854775808≤x∧x≤9223372036854775807):
  Spec Tryz.prog 17 (ba [.v (.int .i64 one), .sl l.length (cm l)] []) (aO (.v (.bool true)) []):=by
 have hac:=yq l hl hr
 have hnn:=rp
 have hA:=yp l
 have hgt:=Hg (jz (l.take 10))
 have hga:=Bx (jz (l.take 10))
 obtain ⟨d,Mu⟩: ∃ d:Int,d=0:=⟨_,rfl⟩
 have hd:0≤d∧d≤3:=by omega
 have hP:=Iq one
 have hp:=zN one hone
 generalize MA one=P at hP hp
 generalize OG one=tm at hP
 generalize jz (l.take 10)=A at hac hA hgt hga
 refine Spec.ofN Tryz.func17 rfl Tryz.ntmps17 rfl ?_
 refine am (cp rfl (aj (am (aX rfl (ai (aH aa al (hp) rfl rfl) ?_)))))
 refine ai (aC (5,0) aa rfl rfl) (bG rfl rfl rfl rfl rfl rfl (aj (am (eW rfl (ai (aH aa al (hac) rfl rfl) ?_)))))
 refine kD rfl (aj (am (ai (aH aa (by repeat' (exact cU)) (hnn) rfl rfl) ?_)))
 refine ai (aC (7,0) aa rfl rfl) (bG rfl rfl rfl rfl rfl rfl (aj (aU fun K5 hK5=> ?_)))
 refine am (be rfl (aj (ax ?_)))
 refine bq (α:=Nat×Ns) (fun z=> z.1≤A.length∧SqT P P tm tm z.1 z.2) 115 [(5,_),(6,_),(7,_)] [((5,0),_)] (fun z=> [(8, .v (.int .i64 (z.1:Int)))]) (fun z=> [((7,0), .box 83 [.v (.bool z.2.up), .v (.int .i64 (z.2.ver)), .v (.int .i64 (z.2.epoch)), .v (.int .i64 (z.2.clock)), .sl z.2.dk.cells.length (cm z.2.dk.cells), .sl z.2.dk.pend.length (lQ z.2.dk.pend), .sl z.2.vol.length (cm z.2.vol), .sl z.2.timers.length (cm z.2.timers), .v (.int .i64 (cO z.2 0)), .v (.int .i64 (cO z.2 1)), .v (.int .i64 (cO z.2 2)), .v (.int .i64 (cO z.2 3)), .v (.int .i64 (cO z.2 4)), .v (.int .i64 (cO z.2 5)), .v (.int .i64 (cO z.2 6)), .v (.int .i64 (cO z.2 7)), .v (.int .i64 (cO z.2 8)), .v (.int .i64 (cO z.2 9)), .v (.int .i64 (cO z.2 10)), .v (.int .i64 (cO z.2 11)), .v (.int .i64 (cO z.2 12)), .v (.int .i64 (cO z.2 13)), .v (.int .i64 (cO z.2 14)), .v (.int .i64 (cO z.2 15)), .v (.int .i64 (cO z.2 16)), .v (.int .i64 (cO z.2 17)), .v (.int .i64 (cO z.2 18)), .v (.int .i64 (cO z.2 19)), .v (.int .i64 (cO z.2 20)), .v (.int .i64 (cO z.2 21)), .v (.int .i64 (cO z.2 22)), .v (.int .i64 (cO z.2 23)), .v (.int .i64 (cO z.2 24)), .v (.int .i64 (cO z.2 25)), .v (.int .i64 (cO z.2 26)), .v (.int .i64 (cO z.2 27)), .v (.int .i64 (cO z.2 28)), .v (.int .i64 (cO z.2 29)), .v (.int .i64 (cO z.2 30)), .v (.int .i64 (cO z.2 31)), .v (.int .i64 (cO z.2 32)), .v (.int .i64 (cO z.2 33)), .v (.int .i64 (cO z.2 34)), .v (.int .i64 (cO z.2 35)), .v (.int .i64 (cO z.2 36)), .v (.int .i64 (cO z.2 37)), .v (.int .i64 (cO z.2 38)), .v (.int .i64 (cO z.2 39)), .v (.int .i64 (cO z.2 40)), .v (.int .i64 (z.2.wait)), .v (.int .i64 (0)), .v (.int .i64 (0))])]) [] [] (fun z=> A.length - z.1) (0,{}) ?_ (by
  refine Le.mkJ [] [] rfl ?_ ?_ trivial trivial ?_
  ·exact ⟨(iP rfl),(iS rfl),(iP rfl),(co ag),trivial⟩
  ·exact ⟨(ca rfl rfl rfl),(fm rfl rfl rfl rfl lz),trivial⟩
  kernel_rfl) ?_
 ·exact ⟨Nat.zero_le _,It P P tm tm⟩
 intro z hz
 obtain ⟨k,s⟩:=z
 obtain ⟨hz1,hs⟩:=hz
 simp only at hz1 hs ⊢
 refine aU fun K7 hK7=> ?_
 refine am (aX rfl (eW rfl (ai (bn _ aa rfl) (ai (bm _ _ rfl rfl rfl) (aj (aP rfl (fun hc24=> ?_) (fun hc24=> ?_)))))))
 ·skip
  obtain ⟨hAk,hk10⟩:=hA k ab
  have ga:=hga k ab
  have gt:=hgt k ab
  rw [hAk] at ga gt
  have hw:=Ic l k
  have hnx:=HV hP hP hd ab hs hw
  have hsx:=Jh hP hP hd hw.ok ab hs
  have hwl:=Id hsx
  have hsy:=Fq P P d (Gg l k) s
  generalize Gg l k=a at*
  generalize ee P P d a s=X at*
  obtain ⟨s',r⟩:=X
  generalize hN a s=h at*
  generalize KR a s=rc at hnx
  generalize IQ P P d a s=ro at*
  generalize fk s a h=tl at hnx
  generalize jo P P d a s=nq at*
  simp only at*
  rw [Mu] at hnx
  obtain ⟨hrl,hsy⟩:=hsy
  have hdi:=hsx.din
  have hsm:=hsx.sm
  have hck:=hsx.sq.ck
  have hep:=hsx.sq.ep
  have hct:=hsx.sq.ct 40
  have hcl:=hsx.sq.cl
  have hcs:=hsm.c
  have hcv:=hsm.v
  refine bs (hK7 _ ?_)
  clear hK7;try clear K7
  refine aq (ax (aq ?_))
  refine aM (σ':=aD 115 [(5,_),(6,_),(7,_),(8,_)] [((5,0),_),((7,0),_)] [] []) kp ?_
  refine pK 16 [28,29,30,31,32,33,34,35,27,36,37,38,9,10] [(35,0),(35,1),(9,0),(10,0),(9,0),(10,0)] ae ae rfl (rfl:_=[_,_,_,_,_,_,_,_,_,_,_,_,_,_,_,_]) (rfl:_=[_]) ?_
  refine cD (_,[]) (fun τ=> az _ aa rfl rfl rfl rfl) ?_
  refine cE (rfl:_=[_]) ?_
  refine cD (_,[]) (fun τ=> az _ aa rfl rfl rfl rfl) ?_
  refine cE (rfl:_=[_,_]) ?_
  refine cD (_,[]) (fun τ=> az _ aa rfl rfl rfl rfl) ?_
  refine cE (rfl:_=[_,_,_]) ?_
  refine cD (_,[]) (fun τ=> aI _ nB) ?_
  refine cE (rfl:_=[_,_,_,_]) ?_
  refine cD (_,[]) (fun τ=> aI _ eu) ?_
  refine cE (rfl:_=[_,_,_,_,_]) ?_
  refine cD (_,[]) (fun τ=> bo _ _ aa rfl rfl _ rfl ab (by (simp only [aN,bg,bj,aN,el,ja,fS,kR,gK];omega)) ag) ?_
  refine cE (rfl:_=[_,_,_,_,_,_]) ?_
  refine cD (_,[]) (fun τ=> cd _ aa rfl (by exact ga) rfl) ?_
  refine cE (rfl:_=[_,_,_,_,_,_,_]) ?_
  refine cD (_,[((35,0),_),((35,1),_)]) (fun τ=> (bS aa [((4,8),(35,0)),((5,8),(35,1))] ar (hnx.toI) trivial tr tr rfl rfl ae ae)) ?_
  refine cE (rfl:_=[_,_,_,_,_,_,_,_]) ?_
  refine cD (_,[]) (fun τ=> aI _ tN) ?_
  refine cE (rfl:_=[_,_,_,_,_,_,_,_,_]) ?_
  refine cD (_,[]) (fun τ=> cq _ rfl pE) ?_
  refine cE (rfl:_=[_,_,_,_,_,_,_,_,_,_]) ?_
  refine cD (_,[]) (fun τ=> cq _ rfl pE) ?_
  refine cE (rfl:_=[_,_,_,_,_,_,_,_,_,_,_]) ?_
  refine cD (_,[]) (fun τ=> cq _ rfl (rfl:_=some (AV.ptr _ _))) ?_
  refine cE (rfl:_=[_,_,_,_,_,_,_,_,_,_,_,_]) ?_
  refine cD (_,[((9,0),_)]) (fun τ=> aC (9,0) aa rfl rfl) ?_
  refine cE (rfl:_=[_,_,_,_,_,_,_,_,_,_,_,_,_]) ?_
  refine cD (_,[((10,0),_)]) (fun τ=> aC (10,0) aa rfl rfl) ?_
  refine cE (rfl:_=[_,_,_,_,_,_,_,_,_,_,_,_,_,_]) ?_
  refine cD (_,[((9,0),_)]) (fun τ=> dE _ _ aa rfl rfl rfl rfl (Nat.le_of_ble_eq_true rfl) rfl) ?_
  refine cE (rfl:_=[_,_,_,_,_,_,_,_,_,_,_,_,_,_,_]) ?_
  refine cD (_,[((10,0),_)]) (fun τ=> dE _ _ aa rfl rfl rfl rfl (Nat.le_of_ble_eq_true rfl) rfl) ?_
  refine cE (rfl:_=[_,_,_,_,_,_,_,_,_,_,_,_,_,_,_,_]) ?_
  refine nf ⟨⟨rfl,by kernel_rfl,by kernel_rfl⟩,?_⟩
  refine vw rfl (aj (aq (aq ?_)))
  refine aM (σ':=aD 115 [(5,_),(6,_),(7,_),(8,_),(9,_),(10,_)] [((5,0),_),((7,0),_),((9,0),_),((10,0),_)] [] []) kp ?_
  refine an (ai (az _ aa rfl rfl rfl rfl) (ai (az _ aa rfl rfl rfl rfl) (ai (az _ aa rfl rfl rfl rfl) (ai (aH aa al (hwl) rfl rfl) ?_))))
  refine ai (cu _ rfl rfl) (aj (aW rfl rfl (aS (am (cp rfl (aj (aU fun K14 hK14=> ?_)))))))
  refine am (be rfl (aj (ax ?_)))
  refine bq (α:=Nat) (fun j=> j≤ro.acts.length) 115 [(5,_),(6,_),(7,_),(8,_),(9,_),(10,_)] [((5,0),_),((7,0),_),((9,0),_),((10,0),_)] (fun j=> [(12, .v (.bool (IS (ro.acts.take j)))),(13, .v (.int .i64 (j:Int)))]) (fun j=> []) [] [] (fun j=> ro.acts.length - j) 0 ?_ (by
   refine Le.mkJ [] [] rfl ?_ ?_ trivial trivial ?_
   ·exact ⟨(iP rfl),(iS rfl),(iP rfl),(iV rfl),(iP rfl),(iP rfl),(lP ag),(co ag),trivial⟩
   ·exact ⟨(ca rfl rfl rfl),(ca rfl rfl rfl),(ca rfl rfl rfl),(ca rfl rfl rfl),trivial⟩
   kernel_rfl) ?_
  ·omega
  intro j hj
  refine aU fun K16 hK16=> ?_
  refine am (aX rfl (bb rfl rfl rfl (bb rfl rfl rfl (eV rfl rfl rfl (ai (bn _ aa rfl) (ai (bm _ _ rfl rfl rfl) (aj (aP rfl (fun hc49=> ?_) (fun hc49=> ?_)))))))))
  ·skip
   have sg:=Aq ro.acts j ab
   have ss:=Db ro.acts (j:=j) ab
   refine bs (hK16 _ ?_)
   clear hK16;try clear K16
   refine aq (ax (aq (am (bb rfl rfl rfl (bb rfl rfl rfl (eV rfl rfl rfl (aX rfl ?_)))))))
   refine ai (bo _ _ aa rfl rfl _ rfl ab (by (simp only [aN,bg,bj,aN,el,ja,fS,kR,gK];omega)) ag) ?_
   refine ai (cX _ aa rfl rfl) (ai (bO _ aa rfl (by exact sg) rfl) ?_)
   refine ai (bB _ _ rfl rfl rfl) (aj (aP rfl (fun hc59=> ?_) (fun hc59=> ?_)))
   ·skip
    refine an (cp rfl (aj (aq ?_)))
    refine aM (σ':=aD 115 [(5,_),(6,_),(7,_),(8,_),(9,_),(10,_),(12,_),(13,_)] [((5,0),_),((7,0),_),((9,0),_),((10,0),_)] [] []) kp ?_
    refine an (bb rfl rfl rfl (bb rfl rfl rfl (eV rfl rfl rfl (aX rfl ?_))))
    refine ai (bo _ _ aa rfl rfl _ rfl ab (by (simp only [aN,bg,bj,aN,el,ja,fS,kR,gK];omega)) ag) ?_
    refine ai (cX _ aa rfl rfl) (ai (bO _ aa rfl (by exact sg) rfl) ?_)
    refine ai (bB _ _ rfl rfl rfl) (aj (aP rfl (fun hc67=> ?_) (fun hc67=> ?_)))
    ·skip
     refine an (cp rfl (dS (an (aX rfl (ai (aZ _ _ rfl rfl (bE ab)) ?_)))))
     refine be rfl (aJ (⟨j+1,?_,?_,?_⟩))
     ·omega
     ·skip
      refine Le.mkJ [] [] rfl ?_ ?_ trivial trivial ?_
      ·exact ⟨(iP rfl),(iS rfl),(iP rfl),(iV rfl),(iP rfl),(iP rfl),(lP ab),(co ag),trivial⟩
      ·exact ⟨(ca rfl rfl rfl),(ca rfl rfl rfl),(ca rfl rfl rfl),(ca rfl rfl rfl),trivial⟩
      kernel_rfl
     omega
    refine cr (an (aX rfl (ai (aZ _ _ rfl rfl (bE ab)) ?_)))
    refine be rfl (aJ (⟨j+1,?_,?_,?_⟩))
    ·omega
    ·skip
     refine Le.mkJ [] [] rfl ?_ ?_ trivial trivial ?_
     ·exact ⟨(iP rfl),(iS rfl),(iP rfl),(iV rfl),(iP rfl),(iP rfl),(lP (by ((rw [ss];unfold IX;rw [if_neg hc67,if_pos hc59])))),(co ag),trivial⟩
     ·exact ⟨(ca rfl rfl rfl),(ca rfl rfl rfl),(ca rfl rfl rfl),(ca rfl rfl rfl),trivial⟩
     kernel_rfl
    omega
   refine aS (am (bb rfl rfl rfl (bb rfl rfl rfl (eV rfl rfl rfl (aX rfl ?_)))))
   refine ai (bo _ _ aa rfl rfl _ rfl ab (by (simp only [aN,bg,bj,aN,el,ja,fS,kR,gK];omega)) ag) ?_
   refine ai (cX _ aa rfl rfl) (ai (bO _ aa rfl (by exact sg) rfl) ?_)
   refine ai (bB _ _ rfl rfl rfl) (aj (aP rfl (fun hc67=> ?_) (fun hc67=> ?_)))
   ·skip
    refine aM (σ':=aD 115 [(5,_),(6,_),(7,_),(8,_),(9,_),(10,_),(13,_)] [((5,0),_),((7,0),_),((9,0),_),((10,0),_)] [] []) kp ?_
    refine an (cp rfl (dS (an (aX rfl (ai (aZ _ _ rfl rfl (bE ab)) ?_)))))
    refine be rfl (aJ (⟨j+1,?_,?_,?_⟩))
    ·omega
    ·skip
     refine Le.mkJ [] [] rfl ?_ ?_ trivial trivial ?_
     ·exact ⟨(iP rfl),(iS rfl),(iP rfl),(iV rfl),(iP rfl),(iP rfl),(lP (by ((rw [ss];unfold IX;rw [if_pos hc67])))),(co ag),trivial⟩
     ·exact ⟨(ca rfl rfl rfl),(ca rfl rfl rfl),(ca rfl rfl rfl),(ca rfl rfl rfl),trivial⟩
     kernel_rfl
    omega
   refine cr ?_
   refine aM (σ':=aD 115 [(5,_),(6,_),(7,_),(8,_),(9,_),(10,_),(12,_),(13,_)] [((5,0),_),((7,0),_),((9,0),_),((10,0),_)] [] []) kp ?_
   refine an (aX rfl (ai (aZ _ _ rfl rfl (bE ab)) ?_))
   refine be rfl (aJ (⟨j+1,?_,?_,?_⟩))
   ·omega
   ·skip
    refine Le.mkJ [] [] rfl ?_ ?_ trivial trivial ?_
    ·exact ⟨(iP rfl),(iS rfl),(iP rfl),(iV rfl),(iP rfl),(iP rfl),(lP (by ((rw [ss];unfold IX;rw [if_neg hc67,if_neg hc59])))),(co ag),trivial⟩
    ·exact ⟨(ca rfl rfl rfl),(ca rfl rfl rfl),(ca rfl rfl rfl),(ca rfl rfl rfl),trivial⟩
    kernel_rfl
   omega
  obtain rfl:j=ro.acts.length:=by omega
  rw [List.take_length]
  refine bD (id (hK14 _ ?_))
  clear hK14;try clear K14
  refine aq ?_
  refine tz (α:=Unit) (fun u=> True) 115 [(5,_),(6,_),(7,_),(8,_),(9,_)] [((5,0),_),((7,0),_),((9,0),_)] (fun u=> [(72, .v (.bool (s'.up && IS ro.acts)))]) (fun u=> []) [] []
   (by exact ⟨(iP rfl),(iS rfl),(iP rfl),(iV rfl),(iP rfl),trivial⟩)
   (by exact ⟨(ca rfl rfl rfl),(ca rfl rfl rfl),(ca rfl rfl rfl),trivial⟩) ?_ ?_
  ·skip
   rcases Bool.eq_false_or_eq_true s'.up with hup | hup
   ·skip
    refine an (bb rfl rfl rfl (ai (aF _ aa rfl rfl (by exact congrArg (fun b=> some (AV.v (.bool b))) hup)) ?_))
    refine cL rfl (ay rfl rfl (aI _ bR) (ai (aE _ _ _ rfl bR) (aJ (⟨(),?_,?_⟩))))
    ·trivial
    refine Le.mkJ [] [] rfl ?_ ?_ trivial trivial ?_
    ·exact ⟨(iP rfl),(iS rfl),(iP rfl),(iV rfl),(iP rfl),(lP (by (rw [hup];rfl))),trivial⟩
    ·exact ⟨(ca rfl rfl rfl),(ca rfl rfl rfl),(ca rfl rfl rfl),trivial⟩
    kernel_rfl
   refine an (bb rfl rfl rfl (ai (aF _ aa rfl rfl (by exact congrArg (fun b=> some (AV.v (.bool b))) hup)) ?_))
   refine cL rfl (aQ rfl rfl ah ?_)
   refine ai (aE _ _ _ rfl bR) (aJ (⟨(),?_,?_⟩))
   ·trivial
   refine Le.mkJ [] [] rfl ?_ ?_ trivial trivial ?_
   ·exact ⟨(iP rfl),(iS rfl),(iP rfl),(iV rfl),(iP rfl),(lP (by (rw [hup];rfl))),trivial⟩
   ·exact ⟨(ca rfl rfl rfl),(ca rfl rfl rfl),(ca rfl rfl rfl),trivial⟩
   kernel_rfl
  intro u hu
  refine aP rfl (fun hc72=> ?_) (fun hc72=> ?_)
  ·skip
   obtain ⟨hup,hy⟩:s'.up=true∧IS ro.acts=true:=by simpa using hc72
   have hpe:=hsy hup hy
   have hns:tA P s':=by have:=(hsx.sq.up hup).1;split at this <;> exact this
   have hcr:=lB s' hsm hdi hcl ab ab tM 0 [] rfl ab [] (fun j hj=> by rw [hpe] at hj;exact absurd hj (Nat.not_lt_zero _))
   rw [hpe] at hcr
   have hsc:jI (gL s' []):=⟨by show (oL _ _).length≤_;rw [fQ];exact hcs,Nat.zero_le _,by show (List.replicate s'.vol.length (0:Int)).length≤_;rw [List.length_replicate];exact hcv,Nat.zero_le _⟩
   have hv3:=kJ (gL s' []) hsc (fun w hw=> by cases hw)
   have hv2:=kJ s' hsm hdi
   have hvw:(gL s' []).dk.view=s'.dk.view:=vK hpe []
   have hvl:(gL s' []).vol.length=s'.vol.length:=List.length_replicate
   rw [hvw] at hv3
   have hdl:=hns.dk.view.1
   have hl3:(s'.dk.view++(gL s' []).vol).length=P.d+s'.vol.length:=by rw [List.length_append,hdl,hvl]
   have hl2:(s'.dk.view++s'.vol).length=P.d+s'.vol.length:=by rw [List.length_append,hdl]
   have hcr:Spec Tryz.prog 53 (aY [jH s',jl] (oy tM 0 [] (5,9))) (bc (jH (gL s' [])) (oy tM 0 [] (5,8)) [(4,9),(5,8)] [(4,9)]):=hcr
   have hsv:=GQ s'.dk.view (by have:=hns.dk.len;omega)
   rw [hdl] at hsv
   refine am (ai (aL _ aa rfl (by exact rh)) ?_)
   refine ai (aR (74,0) _ rfl rfl) (vw rfl (aj (aq ?_)))
   refine aM (Le.trans (Le.nilB (74,0) 4 (61,0) 111 7 rfl rfl rfl) (Le.nil0 (74,0) 3 rfl rfl)) ?_
   refine an (ai (az _ aa rfl rfl rfl rfl) (bQ rfl (ai (jk _ _ (rfl:_=[AV.ptr _ _]) (rfl:_=[])) ?_)))
   refine ai (bS aa [((4,9),(74,0)),((5,9),(61,0)),((5,8),(78,0))] ar (hcr) ob tr tr rfl rfl ae ae) ?_
   refine ai (aC (15,0) aa rfl rfl) (bG rfl rfl rfl rfl rfl rfl (aj (aq (aq ?_))))
   refine aM (σ':=aD 115 [(5,_),(6,_),(7,_),(8,_),(9,_),(14,_),(15,_)] [((5,0),_),((7,0),_),((9,0),_),((74,0),_),((78,0),_),((15,0),_)] [] []) kp ?_
   refine bK 14 [79,80,81,82,83,84,85,86,87,88,89,90,91,92] [] ae ae rfl (aK rfl) (rfl:_=[_,_,_,_,_,_,_,_,_,_,_,_,_,_]) (rfl:_=[]) ?_
   refine ap (_,[]) (fun τ=> az _ aa rfl rfl rfl rfl) ?_
   refine fF rfl ?_
   refine ap (_,[]) (fun τ=> (aH aa al (hv3) rfl rfl)) ?_
   refine fL rfl ?_
   refine ap (_,[]) (fun τ=> bn _ aa rfl) ?_
   refine fA rfl ?_
   refine ap (_,[]) (fun τ=> aA _ aa rfl rfl rfl) ?_
   refine fT rfl ?_
   refine ap (_,[]) (fun τ=> aF _ aa rfl rfl eg) ?_
   refine gj rfl ?_
   refine ap (_,[]) (fun τ=> bm (r:=false) _ _ rfl rfl (decide_eq_false (by rw [hl3];omega))) ?_
   refine gU rfl ?_
   refine ap (_,[]) (fun τ=> aI _ bR) ?_
   refine iC rfl ?_
   refine bw (_,[]) rfl (fun τ=> rfl) (fun τ=> az _ aa rfl rfl rfl rfl) ?_
   refine jM rfl ?_
   refine bw (_,[]) rfl (fun τ=> rfl) (fun τ=> (aH aa al (hv2) rfl rfl)) ?_
   refine jX rfl ?_
   refine bw (_,[]) rfl (fun τ=> rfl) (fun τ=> bn _ aa rfl) ?_
   refine fI rfl ?_
   refine bw (_,[]) rfl (fun τ=> rfl) (fun τ=> aA _ aa rfl rfl rfl) ?_
   refine gh rfl ?_
   refine bw (_,[]) rfl (fun τ=> rfl) (fun τ=> aF _ aa rfl rfl eg) ?_
   refine jW rfl ?_
   refine bw (_,[]) rfl (fun τ=> rfl) (fun τ=> bm (r:=false) _ _ rfl rfl (decide_eq_false (by rw [hl2];omega))) ?_
   refine li rfl ?_
   refine ap (_,[]) (fun τ=> aE _ _ _ rfl bR) ?_
   refine nh rfl (bl ⟨rfl,?_⟩)
   refine aj (aW rfl rfl (aS (aq ?_)))
   refine aM (σ':=aD 115 [(5,_),(6,_),(7,_),(8,_),(9,_),(14,_),(15,_)] [((5,0),_),((7,0),_),((9,0),_),((74,0),_),((78,0),_),((15,0),_)] [] []) kp ?_
   refine bK 20 [93,94,95,96,97,98,99,100,101,102,103,104,105,106,107,108,109,110,111,112] [] ae ae rfl (aK rfl) (rfl:_=[_,_,_,_,_,_,_,_,_,_,_,_,_,_,_,_,_,_,_,_]) (rfl:_=[]) ?_
   refine ap (_,[]) (fun τ=> aI _ bW) ?_
   refine fF rfl ?_
   refine ap (_,[]) (fun τ=> aT _ rfl rfl) ?_
   refine fL rfl ?_
   refine ap (_,[]) (fun τ=> aA _ aa rfl rfl rfl) ?_
   refine fA rfl ?_
   refine ap (_,[]) (fun τ=> aF _ aa rfl rfl eN) ?_
   refine fT rfl ?_
   refine ap (_,[]) (fun τ=> dg _ aa rfl rfl) ?_
   refine gj rfl ?_
   refine ap (_,[]) (fun τ=> bY (r:=false) _ _ rfl rfl rfl) ?_
   refine gU rfl ?_
   refine ap (_,[]) (fun τ=> aI _ bR) ?_
   refine iC rfl ?_
   refine bw (_,[]) rfl (fun τ=> rfl) (fun τ=> az _ aa rfl rfl rfl rfl) ?_
   refine jM rfl ?_
   refine bw (_,[]) rfl (fun τ=> rfl) (fun τ=> (aH aa al (hv3) rfl rfl)) ?_
   refine jX rfl ?_
   refine bw (_,[]) rfl (fun τ=> rfl) (fun τ=> aA _ aa rfl rfl rfl) ?_
   refine fI rfl ?_
   refine bw (_,[]) rfl (fun τ=> rfl) (fun τ=> aF _ aa rfl rfl eg) ?_
   refine gh rfl ?_
   refine bw (_,[]) rfl (fun τ=> rfl) (fun τ=> jx _ _ _ aa rfl 0 P.d .dflt (.lit rfl rfl) ab (by rw [hl3];omega) (GC _ _ hdl) (Nat.sub_zero _)) ?_
   refine jW rfl ?_
   refine bw (_,[]) rfl (fun τ=> rfl) (fun τ=> az _ aa rfl rfl rfl rfl) ?_
   refine li rfl ?_
   refine bw (_,[]) rfl (fun τ=> rfl) (fun τ=> (aH aa al (hv2) rfl rfl)) ?_
   refine nh rfl ?_
   refine bw (_,[]) rfl (fun τ=> rfl) (fun τ=> aA _ aa rfl rfl rfl) ?_
   refine uD rfl ?_
   refine bw (_,[]) rfl (fun τ=> rfl) (fun τ=> aF _ aa rfl rfl eg) ?_
   refine uB rfl ?_
   refine bw (_,[]) rfl (fun τ=> rfl) (fun τ=> jx _ _ _ aa rfl 0 P.d .dflt (.lit rfl rfl) ab (by rw [hl2];omega) (GC _ _ hdl) (Nat.sub_zero _)) ?_
   refine wo rfl ?_
   refine bw (_,[]) rfl (fun τ=> rfl) (fun τ=> (aH aa al (hsv) rfl rfl)) ?_
   refine yE rfl ?_
   refine bw (_,[]) rfl (fun τ=> rfl) (fun τ=> cu _ rfl rfl) ?_
   refine yS rfl ?_
   refine ap (_,[]) (fun τ=> aE _ _ _ rfl bR) ?_
   refine Cc rfl (bl ⟨rfl,?_⟩)
   refine aj (aW rfl rfl (aS ?_))
   refine aM (σ':=aD 115 [(5,_),(6,_),(7,_),(8,_),(9,_)] [((5,0),_),((7,0),_),((9,0),_)] [] []) kp ?_
   refine an (ai (az _ aa rfl rfl rfl rfl) (bG rfl rfl rfl rfl rfl rfl (dS (an (aX rfl (ai (aZ _ _ rfl rfl (bE ab)) ?_))))))
   refine be rfl (aJ (⟨(k+1,s'),?_,?_,?_⟩))
   ·exact ⟨by omega,hsx⟩
   ·skip
    refine Le.mkJ [] [] rfl ?_ ?_ trivial trivial ?_
    ·exact ⟨(iP rfl),(iS rfl),(iP rfl),(co ag),trivial⟩
    ·exact ⟨(ca rfl rfl rfl),(fm rfl rfl rfl rfl lz),trivial⟩
    kernel_rfl
   omega
  refine aS (an (ai (az _ aa rfl rfl rfl rfl) (bG rfl rfl rfl rfl rfl rfl (dS (an (aX rfl (ai (aZ _ _ rfl rfl (bE ab)) ?_)))))))
  refine be rfl (aJ (⟨(k+1,s'),?_,?_,?_⟩))
  ·exact ⟨by omega,hsx⟩
  ·skip
   refine Le.mkJ [] [] rfl ?_ ?_ trivial trivial ?_
   ·exact ⟨(iP rfl),(iS rfl),(iP rfl),(co ag),trivial⟩
   ·exact ⟨(ca rfl rfl rfl),(fm rfl rfl rfl rfl lz),trivial⟩
   kernel_rfl
  omega
 refine bD (id (hK5 _ ?_))
 clear hK5;try clear K5
 refine am (ai (aH aa (by repeat' (exact cU)) (Fp) rfl rfl) ?_)
 exact cp rfl (aj (aG (ft rfl rfl)))
theorem qs (one:Int) (hone: -9223372036854775808≤one∧one≤9223372036854775807) (n0:Nat) (l:List Int) (h0:l.length=n0) (g0:n0≤4611686018427387904) (r0:Rng l):
  Spec Tryz.prog 17 (ba [.v (.int .i64 one), .sl n0 (cm l)] []) (aO (.v (.bool true)) []):=by
 subst h0
 exact tB one l hone g0 r0
end Go.Proofs.YtmjnackchaahbaaGreat
