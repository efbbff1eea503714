/- part 15 -/
import Derived.Test.YtmjnackchaahbaaGreatNpZ14
set_option linter.unusedSimpArgs false
set_option linter.unusedVariables false
set_option maxHeartbeats 2000000
namespace Go.Proofs.YtmjnackchaahbaaGreat
open Go.RowKit

theorem qu {names:List Int} (hl:names.length=9) (self nodes clock:Int):(cG names self nodes clock).getD 0 0=self∧(cG names self nodes clock).getD 1 0=nodes∧(cG names self nodes clock).getD 2 0=clock∧
  (cG names self nodes clock).getD 3 0=names.getD 3 0∧(cG names self nodes clock).getD 4 0=names.getD 4 0∧(cG names self nodes clock).getD 5 0=names.getD 5 0∧(cG names self nodes clock).getD 6 0=names.getD 6 0∧(cG names self nodes clock).getD 7 0=names.getD 7 0∧(cG names self nodes clock).getD 8 0=names.getD 8 0:=by
 match names,hl with
 | [a,b,c,d,e,f,g,h,i],_=> exact ⟨rfl,rfl,rfl,rfl,rfl,rfl,rfl,rfl,rfl⟩
structure HdOk (P:Pg) (tm:Int) (s:Ns):Prop where
 pg:lU P
 cl:P.c.length≤1000000
 tc:TmC P.c tm=true
 ns:rN P s
 tl:pG tm s.timers
 cb: ∀ k, -1000000≤s.counts.getD k 0∧s.counts.getD k 0≤1000000
 ck: -1000000≤s.clock∧s.clock≤1000000
theorem HdOk.sm {P:Pg} {tm:Int} {s:Ns} (h:HdOk P tm s):fB s∧eL s.dk:=by
 have h1:=h.ns.dk.len
 have h2:=h.ns.dk.pn
 have h3:=h.ns.vl
 have h4:=h.pg.nv
 refine ⟨⟨by omega,by omega,by omega,?_⟩,fun w hw=> ?_⟩
 ·rcases h.tl with h | h <;> rw [h] <;> simp
 obtain ⟨b1,b2,_⟩:=h.ns.dk.pr w hw
 exact ⟨b1,by omega⟩
abbrev Ry (t:Tl) (np:Nat) (pre:List PV):Tl:={ t with np:=np,pre:=pre }
theorem wn {clock drift tick:Int} (h:drift≤0):aQ clock drift tick=clock+1:=by unfold aQ;rw [if_neg ab,Int.add_zero]
theorem uz {clock drift tick:Int} (h:0 < drift):aQ clock drift tick=clock+1+tick % (drift+1):=by unfold aQ;rw [if_pos h]
abbrev fA (s:Ns) (P:Pg) (h:Nat) (self nodes drift tick:Int) (names ans:List Int):Ms:=jN P h (cG names self nodes (aQ s.clock drift tick)) (s.dk.view++s.vol) ans
theorem py (s:Ns) (P:Pg) (h:Nat) (self nodes drift tick:Int) (names ans:List Int):bC s h (aQ s.clock drift tick) P (fA s P h self nodes drift tick names ans) (fA s P h self nodes drift tick names ans).acts.length=cw s P h self nodes drift tick names ans:=by
 obtain ⟨h1,h2,_⟩:=nk P h (cG names self nodes (aQ s.clock drift tick)) (s.dk.view++s.vol) ans
 show ((fA s P h self nodes drift tick names ans).acts.take (fA s P h self nodes drift tick names ans).acts.length).foldl dj (Pi s h (aQ s.clock drift tick) ((fA s P h self nodes drift tick names ans).vars.drop P.d),{})=_
 rw [List.take_length]
 unfold cw
 show _=(fG P h (cG names self nodes (aQ s.clock drift tick)) (s.dk.view++s.vol) ans).acts.foldl dj _
 rw [← h1,show (fH s P h self nodes drift tick names ans).vars=(fA s P h self nodes drift tick names ans).vars from h2.symm]
def iz (t:Tl) (drift tick:Int):List PV:=if 0 < drift then pZ t 2 0 (drift+1) (tick % (drift+1)) else []
def eX (drift:Int):Nat:=if 0 < drift then 1 else 0
theorem sf (P:Pg) (tm:Int) (s:Ns) (hs:HdOk P tm s) (h:Nat) (hh:h < 40) (self nodes drift tick:Int) (names ans:List Int) (lK:names.length=9) (hn: ∀ i,Rg (names.getD i 0)) (h1:Rg self) (h2:Rg nodes) (h3:Rg (aQ s.clock drift tick)) (hdr:0≤drift∧drift≤1000) (t:Tl)
  (hlk:0 < drift→pB t 2 0 (drift+1) (tick % (drift+1))) (hld: ∀ (i:Nat) (k:Int),i≤100000→2≤k→k≤4→pB t 1 (i:Int) k (ee ans i k)) (R:Ms) (hR:R=fA s P h self nodes drift tick names ans) (n0:Nat) (L0:List PV) (hn0:n0≤10) (hL0:L0.length=n0*7) (h00:0 < drift→n0=0∧L0=[]):
  Spec Tryz.prog 81 (aL [gm s,eU P, .v (.int .i64 (h:Int)), .v (.int .i64 self), .v (.int .i64 nodes), .v (.int .i64 drift),EZ names,jv] (pN t n0 L0 (5,9)))
   (iL ⟨self,(h:Int),s.counts.getD h 0⟩ R (cw s P h self nodes drift tick names ans) t (n0+eX drift+R.asked.length) (L0++iz t drift tick++mw t ans R.asked)):=by
 obtain ⟨hsm,hin⟩:=hs.sm
 have hpn:=hs.pg.nv
 obtain ⟨v1,v2⟩:=hs.ns.dk.view
 have hvl:=hs.ns.vl
 have hiv:(s.dk.view++s.vol).length=P.d+P.v:=by rw [List.length_append,v1,hvl]
 have hir: ∀ v∈s.dk.view++s.vol,Rg v:=fun v hv=> (List.mem_append.1 hv).elim (v2 v) (hs.ns.vr v)
 have sj:=oX hn h1 h2 h3
 obtain ⟨a1,a2,a3⟩:=nk P h (cG names self nodes (aQ s.clock drift tick)) (s.dk.view++s.vol) ans
 obtain ⟨iv,_,_⟩:=qx hs.pg (h:=h) (names:=cG names self nodes (aQ s.clock drift tick)) (vars:=s.dk.view++s.vol) (ans:=ans) sj hiv hir
 have hRv:R.vars.length=P.d+P.v:=by rw [hR];show (jN _ _ _ _ _).vars.length=_;rw [a2];exact iv.vl
 have hRa:R.acts.length≤500:=by rw [hR];exact mZ _ _ _ _ _
 have hac: ∀ a∈R.acts,xg tm a∧Rg a.b:=fun a ha=> by
  rw [hR] at ha
  have ha:a∈(fG P h (cG names self nodes (aQ s.clock drift tick)) (s.dk.view++s.vol) ans).acts:=a1 ▸ ha
  obtain ⟨⟨_,q1,_,_⟩,_,_⟩:=iv.ac a ha
  exact ⟨qW hs.tc _ _ _ _ a ha,q1⟩
 have hq:=Kn ⟨self,(h:Int),s.counts.getD h 0⟩ (h:=h) (ck:=aQ s.clock drift tick) (P:=P) (R:=R) (TmC.rg hs.tc) hac hs.tl hs.ns.dk ab ab hRa
 obtain ⟨g0,g1,g2,g3,g4,g5,g6,g7,g8⟩:=qu lK self nodes (aQ s.clock drift tick)
 have hrun:=fun (t':Tl) (ht:Ao ⟨P,s.dk.view++s.vol,cG names self nodes (aQ s.clock drift tick),ans,t'⟩)=> Ky P hs.pg hs.cl h hh (cG names self nodes (aQ s.clock drift tick)) (s.dk.view++s.vol) ans sj hiv hir t' ht R hR
 rw [g0,g1,g2,g3,g4,g5,g6,g7,g8] at hrun
 rw [← py,← hR]
 by_cases hd:0 < drift
 ·obtain ⟨rfl,rfl⟩:=h00 hd
  have hmod:0≤tick % (drift+1)∧tick % (drift+1) < drift+1:=⟨Int.emod_nonneg _ ab,Int.emod_lt_of_pos _ ab⟩
  have hv:=hrun (Ry t 1 (pZ t 2 0 (drift+1) (tick % (drift+1)))) ⟨by show 1≤10;omega,rfl,fun i k x y z=> hld i k x y z⟩
  rw [uz hd] at hv hq ⊢
  rw [show iz t drift tick=pZ t 2 0 (drift+1) (tick % (drift+1)) from if_pos hd,show eX drift=1 from if_pos hd,Nat.zero_add,List.nil_append]
  exact My s hsm hin hs.ns.ct P h hh self nodes drift (tick % (drift+1)) names t hd (hlk hd) ⟨hmod.1,by omega⟩ ab hs.cb hs.ck R (mw t ans R.asked) hv ab ab hRa hq
 have hv:=hrun (Ry t n0 L0) ⟨hn0,hL0,fun i k x y z=> hld i k x y z⟩
 rw [wn ab] at hv hq ⊢
 rw [show iz t drift tick=[] from if_neg hd,show eX drift=0 from if_neg hd,Nat.add_zero,List.append_nil]
 exact Uf s hsm hin hs.ns.ct P h hh self nodes drift 0 names t n0 L0 ab hs.cb hs.ck R (mw t ans R.asked) hv ab ab hRa hq
theorem ux (P:Pg) (tm:Int) (s:Ns) (hs:HdOk P tm s) (h:Nat) (hh:h < 40) (self nodes drift tick:Int) (names ans:List Int) (lK:names.length=9) (hn: ∀ i,Rg (names.getD i 0)) (h1:Rg self) (h2:Rg nodes) (h3:Rg (aQ s.clock drift tick)) (hdr:0≤drift∧drift≤1000) (t:Tl)
  (hlk:0 < drift→pB t 2 0 (drift+1) (tick % (drift+1))) (hld: ∀ (i:Nat) (k:Int),i≤100000→2≤k→k≤4→pB t 1 (i:Int) k (ee ans i k)) (R:Ms) (hR:R=fA s P h self nodes drift tick names ans):
  Spec Tryz.prog 81 (aL [gm s,eU P, .v (.int .i64 (h:Int)), .v (.int .i64 self), .v (.int .i64 nodes), .v (.int .i64 drift),EZ names,jv] (pN t 0 [] (5,9)))
   (iL ⟨self,(h:Int),s.counts.getD h 0⟩ R (cw s P h self nodes drift tick names ans) t (eX drift+R.asked.length) (iz t drift tick++mw t ans R.asked)):=by
 have:=sf P tm s hs h hh self nodes drift tick names ans lK hn h1 h2 h3 hdr t hlk hld R hR 0 [] (Nat.zero_le _) rfl (fun _=> ⟨rfl,rfl⟩)
 rwa [Nat.zero_add,List.nil_append] at this
end Go.Proofs.YtmjnackchaahbaaGreat

set_option maxHeartbeats 2000000
namespace Go.Proofs.YtmjnackchaahbaaGreat
open Go.RowKit

theorem FP (i:Nat):Rg ((List.replicate 9 (0:Int)).getD i 0):=by
 by_cases hi:i < 9
 ·rw [List.getD_eq_getElem?_getD,List.getElem?_replicate,if_pos hi];exact oT
 rw [List.getD_eq_getElem?_getD,List.getElem?_replicate,if_neg hi];exact oT
theorem Bw (P:Pg) (tm:Int) (s:Ns) (hs:fB s) (ho:eL s.dk) (ver:Int) (hb:HdOk P tm (bM s P ver)) (self nodes drift tick:Int) (ans:List Int) (h1:Rg self) (h2:Rg nodes) (h3:Rg (aQ s.clock drift tick)) (hdr:0≤drift∧drift≤1000) (t:Tl)
  (hlk:0 < drift→pB t 2 0 (drift+1) (tick % (drift+1))) (hld: ∀ (i:Nat) (k:Int),i≤100000→2≤k→k≤4→pB t 1 (i:Int) k (ee ans i k)) (R:Ms) (hR:R=fA (bM s P ver) P 0 self nodes drift tick (List.replicate 9 0) ans) (n0:Nat) (L0:List PV) (hn0:n0≤10) (hL0:L0.length=n0*7) (h00:0 < drift→n0=0∧L0=[]):
  Spec Tryz.prog 56 (aL [gm s,eU P, .v (.int .i64 ver), .v (.int .i64 self), .v (.int .i64 nodes), .v (.int .i64 drift),jv] (pN t n0 L0 (5,9)))
   (iL ⟨self,((0:Nat):Int),s.counts.getD 0 0⟩ R (ku s P ver self nodes drift tick ans) t (n0+eX drift+R.asked.length) (L0++iz t drift tick++mw t ans R.asked)):=by
 have hpn:=hb.pg.nv
 have hH:=sf P tm (bM s P ver) hb 0 ab self nodes drift tick (List.replicate 9 0) ans rfl FP h1 h2 h3 hdr t hlk hld R hR n0 L0 hn0 hL0 h00
 by_cases hd:s.dk.cells.length=P.d
 ·exact SM s hs ho P ver self nodes drift t n0 L0 hd ab ab _ R _ _ _ hH
 exact Tu s hs ho P ver self nodes drift t n0 L0 hd ab ab _ R _ _ _ hH
theorem yr (P:Pg) (tm:Int) (s:Ns) (hs:fB s) (ho:eL s.dk) (ver:Int) (hb:HdOk P tm (bM s P ver)) (self nodes drift tick:Int) (ans:List Int) (h1:Rg self) (h2:Rg nodes) (h3:Rg (aQ s.clock drift tick)) (hdr:0≤drift∧drift≤1000) (t:Tl)
  (hlk:0 < drift→pB t 2 0 (drift+1) (tick % (drift+1))) (hld: ∀ (i:Nat) (k:Int),i≤100000→2≤k→k≤4→pB t 1 (i:Int) k (ee ans i k)) (R:Ms) (hR:R=fA (bM s P ver) P 0 self nodes drift tick (List.replicate 9 0) ans):
  Spec Tryz.prog 56 (aL [gm s,eU P, .v (.int .i64 ver), .v (.int .i64 self), .v (.int .i64 nodes), .v (.int .i64 drift),jv] (pN t 0 [] (5,9)))
   (iL ⟨self,((0:Nat):Int),s.counts.getD 0 0⟩ R (ku s P ver self nodes drift tick ans) t (eX drift+R.asked.length) (iz t drift tick++mw t ans R.asked)):=by
 have:=Bw P tm s hs ho ver hb self nodes drift tick ans h1 h2 h3 hdr t hlk hld R hR 0 [] (Nat.zero_le _) rfl (fun _=> ⟨rfl,rfl⟩)
 rwa [Nat.zero_add,List.nil_append] at this
theorem qD {P:Pg} {tm:Int} {s:Ns} {m:Nat} (hp:lU P) (hc:P.c.length≤1000000) (ht:TmC P.c tm=true) (hd:DkOk m s.dk) (hct:s.counts.length=41) (hcb: ∀ k, -1000000≤s.counts.getD k 0∧s.counts.getD k 0≤1000000) (hck: -1000000≤s.clock∧s.clock≤1000000) (ver:Int):HdOk P tm (bM s P ver) where
 pg:=hp
 cl:=hc
 tc:=ht
 ns:={
  dk:=by
   show DkOk P.d (if s.dk.cells.length=P.d then s.dk else s.dk.resize P.d)
   split
   ·rename_i h
    have:=hd.len
    rwa [← h,this]
   exact hd.resize P.d
  vl:=List.length_replicate
  vr:=fun v hv=> by
   have hv:v∈List.replicate P.v (0:Int):=hv
   rw [List.mem_replicate] at hv;rw [hv.2];exact oT
  tm:=⟨List.Pairwise.nil,fun x hx=> by cases hx⟩
  ct:=hct }
 tl:= .inl rfl
 cb:=hcb
 ck:=hck
end Go.Proofs.YtmjnackchaahbaaGreat

set_option maxHeartbeats 2000000
namespace Go.Proofs.YtmjnackchaahbaaGreat
open Go.RowKit

abbrev Bb (c:Cz) (r:Nr) (o:Ms):AV:= .agg [.v (.int .i64 c.a), .v (.int .i64 c.b), .v (.int .i64 c.c), .sl r.sent.length (sY c r.sent), .v (.bool r.repl), .v (.int .i64 r.value), .sl r.fails.length (be r.fails), .sl o.vars.length (be o.vars), .sl o.acts.length (oz o.acts), .v (.int .i64 (o.steps:Int)), .v (.bool (!o.fin)), .sl (fg (jR o.cov)).length (be (fg (jR o.cov)))]
abbrev eb (s:Ns) (a:Na) (h:Nat):Tl:=⟨1,(h:Int),aP s h,(eJ 1 (h:Int) (aP s h) a.tick a.draws a.keeps).length,ng (eJ 1 (h:Int) (aP s h) a.tick a.draws a.keeps),0,[]⟩
abbrev nW (s':Ns) (rd:AV) (t:Tl) (n:Nat) (L:List PV):St:=aC (.tup [gm s',rd, .ptr (4,8) 0]) [((4,8), .box 103 [.v (.int .i64 t.c1), .v (.int .i64 t.c2), .v (.int .i64 t.c3), .sl t.na t.A, .ref (5,8) 0 n]),((5,8), .row 111 7 L)]
abbrev LY:AV:= .agg [.v (.int .i64 0), .v (.int .i64 0), .v (.int .i64 0), .sl 0 [], .v (.bool false), .v (.int .i64 0), .sl 0 [], .sl 0 [], .sl 0 [], .v (.int .i64 0), .v (.bool false), .sl 0 []]
set_option maxHeartbeats 4000000 in
theorem Sy (s:Ns) (hup:s.up=false) (hep:0≤s.epoch) (he2:s.epoch % 2=0) (P Q:Pg) (drift:Int) (a:Na) (h1:a.draws.length≤1000) (h2:a.keeps.length≤1000) (c:Cz) (R:Ms) (q:Ns×Nr) (n:Nat) (L:List PV)
  (hS:Spec Tryz.prog 56 (aL [gm s,eU P, .v (.int .i64 0), .v (.int .i64 1), .v (.int .i64 3), .v (.int .i64 drift),jv] (pN (eb s a 0) 0 [] (5,9))) (iL c R q (eb s a 0) n L)):
  Spec Tryz.prog 45 (aI [gm s,eU P,eU Q, .v (.int .i64 drift),ur a] []) (nW q.1 (Bb c q.2 R) (eb s a 0) n L):=by
 have htl:=ii s a 0 ab h1 h2
 refine Spec.ofN Tryz.func45 rfl Tryz.ntmps45 rfl ?_
 refine go 13 ?_
 refine aj (ew (r:=true) _ rfl (by rw [hup];rfl)) ?_
 refine go 5 ?_
 refine aj (bp aa [((4,8),(28,0))] ar (htl.toI) trivial tr tr rfl rfl ae ae) ?_
 refine go 7 ?_
 refine aE ?_
 refine az (σ':=an 90 [(3,_),(5,_),(7,_),(10,_),(11,_),(13,_),(14,_)] [((5,0),_),((7,0),_),((10,0),_),((11,0),_),((28,0),_),((14,0),_)] [] []) kp ?_
 refine go 7 ?_
 refine aj (dh (r:=0) _ _ rfl rfl ab ((Int.tmod_eq_emod_of_nonneg hep).trans he2)) ?_
 refine go 4 ?_
 refine aF fun K9 hK9=> ?_
 refine az (Le.nilB (28,0) 4 (60,0) 111 7 rfl rfl rfl) ?_
 refine go 6 ?_
 refine aj (jJ _ _ (rfl:_=[AV.ptr _ _]) (rfl:_=[])) ?_
 refine aj (bp aa [((4,9),(28,0)),((5,9),(60,0)),((1,8),(42,0)),((2,8),(42,1)),((3,8),(42,2)),((6,8),(42,3)),((5,8),(42,4))] ar (hS) ob tr tr rfl rfl ae ae) ?_
 refine go 7 ?_
 refine ax (hK9 _ ?_)
 refine aE ?_
 refine az (σ':=an 90 [(10,_),(11,_),(13,_),(16,_),(17,_)] [((10,0),_),((11,0),_),((28,0),_),((42,0),_),((42,1),_),((42,2),_),((42,3),_),((42,4),_),((16,0),_),((17,0),_)] [] []) kp ?_
 refine hG 5 [45,46,47] [(10,0),(11,0)] [[(10,0),(11,0)],[(11,0)],[],[(11,0)],[]] ae ae rfl (bb rfl) (rfl:_=[_,_,_,_,_]) (rfl:_=[_]) ?_
 refine go 6 ?_
 refine aB (_,[((10,0),_)]) (fun τ=> cY _ _ aa rfl (em rfl (by exact dB) rfl) rfl rfl (Nat.le_of_ble_eq_true rfl) rfl) ?_
 refine go 1 ?_
 refine aB (_,[((11,0),_)]) (fun τ=> cY _ _ aa rfl (em rfl (by exact dB) rfl) rfl rfl (Nat.le_of_ble_eq_true rfl) rfl) ?_
 refine go 4 ?_
 refine au ?_
 exact wY (.inr rfl) rfl (.cellA aa rfl rfl rfl) (.cellA aa rfl rfl rfl) (.tmp tz) (Le.out [((4,8),(28,0)),((5,8),(42,4))] [(42,0),(42,1),(42,2),(42,3)] (.tup rfl (ai (.agg rfl (wv (ai .sl (ai .sl (ai .sl (ai (dH rfl rfl (by rw [aq,Nat.mul_one]) rfl) lz)))))) (ai (.agg rfl (ai .v (ai .v (ai .v (ai (dH rfl rfl (cU _ _).symm rfl) (ai .v (ai .v (ai (dH rfl rfl (by rw [aq,Nat.mul_one]) rfl) (ai .sl (ai (dH rfl rfl (bN _).symm rfl) lz)))))))))) lz))) rfl rfl rfl tr ob)
set_option maxHeartbeats 4000000 in
theorem UR (s:Ns) (hup:s.up=false) (hep:0≤s.epoch) (he2:s.epoch % 2=1) (P Q:Pg) (drift:Int) (a:Na) (h1:a.draws.length≤1000) (h2:a.keeps.length≤1000) (c:Cz) (R:Ms) (q:Ns×Nr) (n:Nat) (L:List PV)
  (hS:Spec Tryz.prog 56 (aL [gm s,eU Q, .v (.int .i64 1), .v (.int .i64 1), .v (.int .i64 3), .v (.int .i64 drift),jv] (pN (eb s a 0) 0 [] (5,9))) (iL c R q (eb s a 0) n L)):
  Spec Tryz.prog 45 (aI [gm s,eU P,eU Q, .v (.int .i64 drift),ur a] []) (nW q.1 (Bb c q.2 R) (eb s a 0) n L):=by
 have htl:=ii s a 0 ab h1 h2
 refine Spec.ofN Tryz.func45 rfl Tryz.ntmps45 rfl ?_
 refine go 13 ?_
 refine aj (ew (r:=true) _ rfl (by rw [hup];rfl)) ?_
 refine go 5 ?_
 refine aj (bp aa [((4,8),(28,0))] ar (htl.toI) trivial tr tr rfl rfl ae ae) ?_
 refine go 7 ?_
 refine aE ?_
 refine az (σ':=an 90 [(3,_),(5,_),(7,_),(10,_),(11,_),(13,_),(14,_)] [((5,0),_),((7,0),_),((10,0),_),((11,0),_),((28,0),_),((14,0),_)] [] []) kp ?_
 refine go 7 ?_
 refine aj (dh (r:=1) _ _ rfl rfl ab ((Int.tmod_eq_emod_of_nonneg hep).trans he2)) ?_
 refine go 10 ?_
 refine aF fun K10 hK10=> ?_
 refine az (Le.nilB (28,0) 4 (60,0) 111 7 rfl rfl rfl) ?_
 refine go 6 ?_
 refine aj (jJ _ _ (rfl:_=[AV.ptr _ _]) (rfl:_=[])) ?_
 refine aj (bp aa [((4,9),(28,0)),((5,9),(60,0)),((1,8),(42,0)),((2,8),(42,1)),((3,8),(42,2)),((6,8),(42,3)),((5,8),(42,4))] ar (hS) ob tr tr rfl rfl ae ae) ?_
 refine go 7 ?_
 refine ax (hK10 _ ?_)
 refine aE ?_
 refine az (σ':=an 90 [(10,_),(11,_),(13,_),(16,_),(17,_)] [((10,0),_),((11,0),_),((28,0),_),((42,0),_),((42,1),_),((42,2),_),((42,3),_),((42,4),_),((16,0),_),((17,0),_)] [] []) kp ?_
 refine hG 5 [45,46,47] [(10,0),(11,0)] [[(10,0),(11,0)],[(11,0)],[],[(11,0)],[]] ae ae rfl (bb rfl) (rfl:_=[_,_,_,_,_]) (rfl:_=[_]) ?_
 refine go 6 ?_
 refine aB (_,[((10,0),_)]) (fun τ=> cY _ _ aa rfl (em rfl (by exact dB) rfl) rfl rfl (Nat.le_of_ble_eq_true rfl) rfl) ?_
 refine go 1 ?_
 refine aB (_,[((11,0),_)]) (fun τ=> cY _ _ aa rfl (em rfl (by exact dB) rfl) rfl rfl (Nat.le_of_ble_eq_true rfl) rfl) ?_
 refine go 4 ?_
 refine au ?_
 exact wY (.inr rfl) rfl (.cellA aa rfl rfl rfl) (.cellA aa rfl rfl rfl) (.tmp tz) (Le.out [((4,8),(28,0)),((5,8),(42,4))] [(42,0),(42,1),(42,2),(42,3)] (.tup rfl (ai (.agg rfl (wv (ai .sl (ai .sl (ai .sl (ai (dH rfl rfl (by rw [aq,Nat.mul_one]) rfl) lz)))))) (ai (.agg rfl (ai .v (ai .v (ai .v (ai (dH rfl rfl (cU _ _).symm rfl) (ai .v (ai .v (ai (dH rfl rfl (by rw [aq,Nat.mul_one]) rfl) (ai .sl (ai (dH rfl rfl (bN _).symm rfl) lz)))))))))) lz))) rfl rfl rfl tr ob)
set_option maxHeartbeats 4000000 in
theorem Tq (s:Ns) (hup:s.up=true) (hv:s.ver≠1) (P Q:Pg) (drift:Int) (a:Na) (hcr:a.crash=false) (hh:a.h < 41) (h1:a.draws.length≤1000) (h2:a.keeps.length≤1000) (c:Cz) (R:Ms) (q:Ns×Nr) (n:Nat) (L:List PV)
  (hS:Spec Tryz.prog 81 (aL [gm { s with wait:=a.wait },eU P, .v (.int .i64 (a.h:Int)), .v (.int .i64 1), .v (.int .i64 3), .v (.int .i64 drift),EZ a.names,jv] (pN (eb s a a.h) 0 [] (5,9))) (iL c R q (eb s a a.h) n L)):
  Spec Tryz.prog 45 (aI [gm s,eU P,eU Q, .v (.int .i64 drift),ur a] []) (nW q.1 (Bb c q.2 R) (eb s a a.h) n L):=by
 have htl:=ii { s with wait:=a.wait } a a.h hh h1 h2
 refine Spec.ofN Tryz.func45 rfl Tryz.ntmps45 rfl ?_
 refine go 13 ?_
 refine aj (ew (r:=false) _ rfl (by rw [hup];rfl)) ?_
 refine go 7 ?_
 refine yQ rfl rfl (by rw [if_neg (by rw [hcr];exact Bool.false_ne_true)];rfl) ?_
 refine go 9 ?_
 refine aE ?_
 refine az (σ':=an 90 [(3,_),(5,_),(7,_),(9,_),(10,_),(11,_),(19,_)] [((5,0),_),((7,0),_),((9,0),_),((10,0),_),((11,0),_),((19,0),_)] [] []) kp ?_
 refine go 3 ?_
 refine yQ rfl rfl (beq_eq_false_iff_ne.2 hv) ?_
 refine go 14 ?_
 refine aj (bp aa [((4,8),(72,0))] ar (htl.toI) trivial tr tr rfl rfl ae ae) ?_
 refine JQ rfl (am (aF fun K11 hK11=> ?_))
 refine az (Le.nilB (72,0) 4 (60,0) 111 7 rfl rfl rfl) ?_
 refine go 10 ?_
 refine aj (jJ _ _ (rfl:_=[AV.ptr _ _]) (rfl:_=[])) ?_
 refine aj (bp aa [((4,9),(72,0)),((5,9),(60,0)),((1,8),(84,0)),((2,8),(84,1)),((3,8),(84,2)),((6,8),(84,3)),((5,8),(84,4))] ar (hS) ob tr tr rfl rfl ae ae) ?_
 refine go 7 ?_
 refine ax (hK11 _ ?_)
 refine aE ?_
 refine az (σ':=an 90 [(10,_),(11,_),(20,_),(21,_),(22,_)] [((10,0),_),((11,0),_),((72,0),_),((84,0),_),((84,1),_),((84,2),_),((84,3),_),((84,4),_),((21,0),_),((22,0),_)] [] []) kp ?_
 refine hG 5 [87,88,89] [(10,0),(11,0)] [[(10,0),(11,0)],[(11,0)],[],[(11,0)],[]] ae ae rfl (bb rfl) (rfl:_=[_,_,_,_,_]) (rfl:_=[_]) ?_
 refine go 6 ?_
 refine aB (_,[((10,0),_)]) (fun τ=> cY _ _ aa rfl (em rfl (by exact dB) rfl) rfl rfl (Nat.le_of_ble_eq_true rfl) rfl) ?_
 refine go 1 ?_
 refine aB (_,[((11,0),_)]) (fun τ=> cY _ _ aa rfl (em rfl (by exact dB) rfl) rfl rfl (Nat.le_of_ble_eq_true rfl) rfl) ?_
 refine go 4 ?_
 refine au ?_
 exact wY (.inr rfl) rfl (.cellA aa rfl rfl rfl) (.cellA aa rfl rfl rfl) (.tmp tz) (Le.out [((4,8),(72,0)),((5,8),(84,4))] [(84,0),(84,1),(84,2),(84,3)] (.tup rfl (ai (.agg rfl (wv (ai .sl (ai .sl (ai .sl (ai (dH rfl rfl (by rw [aq,Nat.mul_one]) rfl) lz)))))) (ai (.agg rfl (ai .v (ai .v (ai .v (ai (dH rfl rfl (cU _ _).symm rfl) (ai .v (ai .v (ai (dH rfl rfl (by rw [aq,Nat.mul_one]) rfl) (ai .sl (ai (dH rfl rfl (bN _).symm rfl) lz)))))))))) lz))) rfl rfl rfl tr ob)
set_option maxHeartbeats 4000000 in
theorem SA (s:Ns) (hup:s.up=true) (hv:s.ver=1) (P Q:Pg) (drift:Int) (a:Na) (hcr:a.crash=false) (hh:a.h < 41) (h1:a.draws.length≤1000) (h2:a.keeps.length≤1000) (c:Cz) (R:Ms) (q:Ns×Nr) (n:Nat) (L:List PV)
  (hS:Spec Tryz.prog 81 (aL [gm { s with wait:=a.wait },eU Q, .v (.int .i64 (a.h:Int)), .v (.int .i64 1), .v (.int .i64 3), .v (.int .i64 drift),EZ a.names,jv] (pN (eb s a a.h) 0 [] (5,9))) (iL c R q (eb s a a.h) n L)):
  Spec Tryz.prog 45 (aI [gm s,eU P,eU Q, .v (.int .i64 drift),ur a] []) (nW q.1 (Bb c q.2 R) (eb s a a.h) n L):=by
 have htl:=ii { s with wait:=a.wait } a a.h hh h1 h2
 refine Spec.ofN Tryz.func45 rfl Tryz.ntmps45 rfl ?_
 refine go 13 ?_
 refine aj (ew (r:=false) _ rfl (by rw [hup];rfl)) ?_
 refine go 7 ?_
 refine yQ rfl rfl (by rw [if_neg (by rw [hcr];exact Bool.false_ne_true)];rfl) ?_
 refine go 9 ?_
 refine aE ?_
 refine az (σ':=an 90 [(3,_),(5,_),(7,_),(9,_),(10,_),(11,_),(19,_)] [((5,0),_),((7,0),_),((9,0),_),((10,0),_),((11,0),_),((19,0),_)] [] []) kp ?_
 refine go 3 ?_
 refine JS rfl rfl (by rw [hv];rfl) ?_
 refine go 17 ?_
 refine aj (bp aa [((4,8),(72,0))] ar (htl.toI) trivial tr tr rfl rfl ae ae) ?_
 refine JQ rfl (am (aF fun K11 hK11=> ?_))
 refine az (Le.nilB (72,0) 4 (60,0) 111 7 rfl rfl rfl) ?_
 refine go 10 ?_
 refine aj (jJ _ _ (rfl:_=[AV.ptr _ _]) (rfl:_=[])) ?_
 refine aj (bp aa [((4,9),(72,0)),((5,9),(60,0)),((1,8),(84,0)),((2,8),(84,1)),((3,8),(84,2)),((6,8),(84,3)),((5,8),(84,4))] ar (hS) ob tr tr rfl rfl ae ae) ?_
 refine go 7 ?_
 refine ax (hK11 _ ?_)
 refine aE ?_
 refine az (σ':=an 90 [(10,_),(11,_),(20,_),(21,_),(22,_)] [((10,0),_),((11,0),_),((72,0),_),((84,0),_),((84,1),_),((84,2),_),((84,3),_),((84,4),_),((21,0),_),((22,0),_)] [] []) kp ?_
 refine hG 5 [87,88,89] [(10,0),(11,0)] [[(10,0),(11,0)],[(11,0)],[],[(11,0)],[]] ae ae rfl (bb rfl) (rfl:_=[_,_,_,_,_]) (rfl:_=[_]) ?_
 refine go 6 ?_
 refine aB (_,[((10,0),_)]) (fun τ=> cY _ _ aa rfl (em rfl (by exact dB) rfl) rfl rfl (Nat.le_of_ble_eq_true rfl) rfl) ?_
 refine go 1 ?_
 refine aB (_,[((11,0),_)]) (fun τ=> cY _ _ aa rfl (em rfl (by exact dB) rfl) rfl rfl (Nat.le_of_ble_eq_true rfl) rfl) ?_
 refine go 4 ?_
 refine au ?_
 exact wY (.inr rfl) rfl (.cellA aa rfl rfl rfl) (.cellA aa rfl rfl rfl) (.tmp tz) (Le.out [((4,8),(72,0)),((5,8),(84,4))] [(84,0),(84,1),(84,2),(84,3)] (.tup rfl (ai (.agg rfl (wv (ai .sl (ai .sl (ai .sl (ai (dH rfl rfl (by rw [aq,Nat.mul_one]) rfl) lz)))))) (ai (.agg rfl (ai .v (ai .v (ai .v (ai (dH rfl rfl (cU _ _).symm rfl) (ai .v (ai .v (ai (dH rfl rfl (by rw [aq,Nat.mul_one]) rfl) (ai .sl (ai (dH rfl rfl (bN _).symm rfl) lz)))))))))) lz))) rfl rfl rfl tr ob)
set_option maxHeartbeats 4000000 in
theorem RZ (s:Ns) (hup:s.up=true) (hs:fB s) (ho:eL s.dk) (hc:s.counts.length=41) (hcb: -1000000≤s.counts.getD 40 0∧s.counts.getD 40 0≤1000000) (hep: -1000000≤s.epoch∧s.epoch≤1000000) (P Q:Pg) (drift:Int) (a:Na) (hcr:a.crash=true) (h1:a.draws.length≤1000) (h2:a.keeps.length≤1000)
  (hlk: ∀ i:Nat,i < s.dk.pend.length→pB (eb s a 40) 3 (i:Int) 2 (a.keeps.getD i 0)):
  Spec Tryz.prog 45 (aI [gm s,eU P,eU Q, .v (.int .i64 drift),ur a] []) (nW (gY s (keepB s.dk.pend.length a.keeps)) LY (eb s a 40) (0+s.dk.pend.length) ([]++xM (eb s a 40) a.keeps s.dk.pend.length)):=by
 have htl:=ii s a 40 ab h1 h2
 have hcs:=pu s hs ho hc hcb hep (eb s a 40) 0 [] rfl ab a.keeps hlk
 refine Spec.ofN Tryz.func45 rfl Tryz.ntmps45 rfl ?_
 refine go 13 ?_
 refine aj (ew (r:=false) _ rfl (by rw [hup];rfl)) ?_
 refine go 7 ?_
 refine JS rfl rfl (by rw [if_pos hcr];rfl) ?_
 refine go 5 ?_
 refine aj (bp aa [((4,8),(53,0))] ar (htl.toI) trivial tr tr rfl rfl ae ae) ?_
 refine JQ rfl (am (aF fun K7 hK7=> ?_))
 refine az (Le.nilB (53,0) 4 (60,0) 111 7 rfl rfl rfl) ?_
 refine go 3 ?_
 refine aj (jJ _ _ (rfl:_=[AV.ptr _ _]) (rfl:_=[])) ?_
 refine aj (bp aa [((4,9),(53,0)),((5,9),(60,0)),((5,8),(57,0))] ar (hcs) ob tr tr rfl rfl ae ae) ?_
 refine go 5 ?_
 refine ax (hK7 _ ?_)
 exact au (wY (.inr rfl) rfl (.cellA aa rfl rfl rfl) (.cellA aa rfl rfl rfl) (.tmp tz) (Le.out [((4,8),(53,0)),((5,8),(57,0))] [] (.tup rfl lz) rfl rfl rfl trivial ob))
end Go.Proofs.YtmjnackchaahbaaGreat

set_option maxHeartbeats 2000000
namespace Go.Proofs.YtmjnackchaahbaaGreat
open Go.RowKit

structure AU (a:Na):Prop where
 ok:EB a
 nl:a.names.length=9
 d0: ∀ x∈a.draws,0≤x
 k0: ∀ x∈a.keeps,x=0∨x=1
 dl:a.draws.length≤1000
 kl:a.keeps.length≤1000
theorem qb (s:Ns) {a:Na} (h:Nat) (hw:AU a) {q:Int} (hq:0 < q):pB (eb s a h) 2 0 q (a.tick % q):=by
 have hd:=hw.dl
 have hk:=hw.kl
 have:=ic (eJ 1 (h:Int) (aP s h) a.tick a.draws a.keeps) (by rw [km];omega) 1 (h:Int) (aP s h) 2 0 q hq
 rwa [zf hw.ok.tk.1] at this
theorem pT (s:Ns) {a:Na} (h:Nat) (hw:AU a) (i:Nat) {q:Int} (hq:0 < q):pB (eb s a h) 1 (i:Int) q (a.draws.getD i 0 % q):=by
 have hd:=hw.dl
 have hk:=hw.kl
 have:=ic (eJ 1 (h:Int) (aP s h) a.tick a.draws a.keeps) (by rw [km];omega) 1 (h:Int) (aP s h) 1 (i:Int) q hq
 rwa [sx i hw.d0] at this
theorem xS (s:Ns) {a:Na} (h:Nat) (hw:AU a) (i:Nat):pB (eb s a h) 3 (i:Int) 2 (a.keeps.getD i 0):=by
 have hd:=hw.dl
 have hk:=hw.kl
 have:=ic (eJ 1 (h:Int) (aP s h) a.tick a.draws a.keeps) (by rw [km];omega) 1 (h:Int) (aP s h) 3 (i:Int) 2 ab
 have h0: ∀ x∈a.keeps,0≤x:=fun x hx=> by rcases hw.k0 x hx with h | h <;> omega
 rw [AM i h0] at this
 have h1:a.keeps.getD i 0=0∨a.keeps.getD i 0=1:=by
  by_cases hi:i < a.keeps.length
  ·rw [List.getD_eq_getElem?_getD,List.getElem?_eq_getElem hi];exact hw.k0 _ (List.getElem_mem hi)
  rw [List.getD_eq_getElem?_getD,List.getElem?_eq_none ab];exact .inl rfl
 rwa [show a.keeps.getD i 0 % 2=a.keeps.getD i 0 by omega] at this
def rG (t:Tl) (l:List Qa):List PV:=l.flatMap fun x=> pZ t x.kind x.idx x.ar x.n
theorem mv (t:Tl) (drift tick:Int) (asked ans:List Int):iz t drift tick++mw t ans asked=rG t (eE drift tick asked ans):=by
 unfold rG eE iz mw
 rw [List.flatMap_append]
 congr 1
 ·split
  ·simp
  rfl
 rw [List.flatMap_map]
theorem gl (drift tick:Int) (asked ans:List Int):(eE drift tick asked ans).length=eX drift+asked.length:=by
 unfold eE eX
 rw [List.length_append,List.length_map,List.length_range]
 congr 1
 split <;> rfl
end Go.Proofs.YtmjnackchaahbaaGreat

set_option maxHeartbeats 2000000
namespace Go.Proofs.YtmjnackchaahbaaGreat
open Go.RowKit

structure jg (P:Pg) (tm:Int):Prop where
 pg:lU P
 cl:P.c.length≤1000000
 tc:TmC P.c tm=true
abbrev hN (a:Na) (s:Ns):Nat:=if s.up=false then 0 else if a.crash=true then 40 else a.h
abbrev JA (P Q:Pg) (drift:Int) (a:Na) (s:Ns):AV:=
 if s.up=false then Bb ⟨1,((0:Nat):Int),s.counts.getD 0 0⟩ (cj P Q drift a s).2 (fA (bM s (bf P Q s) (fb s)) (bf P Q s) 0 1 3 drift a.tick (List.replicate 9 0) a.draws)
 else if a.crash=true then LY
 else Bb ⟨1,(a.h:Int),s.counts.getD a.h 0⟩ (cj P Q drift a s).2 (fA { s with wait:=a.wait } (bf P Q s) a.h 1 3 drift a.tick a.names a.draws)
theorem kN (s:Ns) (P:Pg) (h:Nat) (self nodes drift tick:Int) (names ans:List Int):(fA s P h self nodes drift tick names ans).asked=(fH s P h self nodes drift tick names ans).asked:=
 (nk P h (cG names self nodes (aQ s.clock drift tick)) (s.dk.view++s.vol) ans).2.2
section
variable {P Q:Pg} {tp tq:Int} {i:Nat} {s:Ns} {drift:Int} {a:Na}
theorem vm (hP:jg P tp) (hQ:jg Q tq) (hi:i≤1000) (hs:Sq P Q i s) (hsm:fB s) (hup:s.up=false) (hdr:0≤drift∧drift≤3) (hw:AU a):
  Spec Tryz.prog 45 (aI [gm s,eU P,eU Q, .v (.int .i64 drift),ur a] []) (nW (cj P Q drift a s).1 (JA P Q drift a s) (eb s a (hN a s)) (dR P Q drift a s).length (rG (eb s a (hN a s)) (dR P Q drift a s))):=by
 obtain ⟨⟨m,hdk⟩,_,_⟩:=hs.dn hup
 have hin:eL s.dk:=fun w hw=> by
  obtain ⟨b1,b2,_⟩:=hdk.pr w hw
  have:=hdk.len
  exact ⟨b1,by omega⟩
 have hck:=hs.ck
 have hep:=hs.ep
 have hcb: ∀ k, -1000000≤s.counts.getD k 0∧s.counts.getD k 0≤1000000:=fun k=> by have:=hs.ct k;omega
 have htk:=ki (clock:=s.clock) (tick:=a.tick) hdr
 have e1:cj P Q drift a s=ku s (bf P Q s) (fb s) 1 3 drift a.tick a.draws:=by unfold cj;rw [if_pos hup]
 have e2:dR P Q drift a s=eE drift a.tick (fH (bM s (bf P Q s) (fb s)) (bf P Q s) 0 1 3 drift a.tick (List.replicate 9 0) a.draws).asked a.draws:=by unfold dR;rw [if_pos hup]
 have e3:JA P Q drift a s=Bb ⟨1,((0:Nat):Int),s.counts.getD 0 0⟩ (cj P Q drift a s).2 (fA (bM s (bf P Q s) (fb s)) (bf P Q s) 0 1 3 drift a.tick (List.replicate 9 0) a.draws):=if_pos hup
 have e4:hN a s=0:=if_pos hup
 rw [e3,e4,e2,← kN,gl,← mv,e1]
 have key: ∀ (X:Pg) (tm:Int) (v:Int),jg X tm→Spec Tryz.prog 56 (aL [gm s,eU X, .v (.int .i64 v), .v (.int .i64 1), .v (.int .i64 3), .v (.int .i64 drift),jv] (pN (eb s a 0) 0 [] (5,9)))
   (iL ⟨1,((0:Nat):Int),s.counts.getD 0 0⟩ (fA (bM s X v) X 0 1 3 drift a.tick (List.replicate 9 0) a.draws) (ku s X v 1 3 drift a.tick a.draws) (eb s a 0) (eX drift+(fA (bM s X v) X 0 1 3 drift a.tick (List.replicate 9 0) a.draws).asked.length) (iz (eb s a 0) drift a.tick++mw (eb s a 0) a.draws (fA (bM s X v) X 0 1 3 drift a.tick (List.replicate 9 0) a.draws).asked)):=fun X tm v hX=>
  yr X tm s hsm hin v (qD hX.pg hX.cl hX.tc hdk hs.cl hcb ab v) 1 3 drift a.tick a.draws (cB ab) (cB ab) (by unfold Rg;omega) ab (eb s a 0) (fun h=> qb s 0 hw ab) (fun j k _ h2 _=> pT s 0 hw j ab) _ rfl
 by_cases he:s.epoch % 2=1
 ·have hp:bf P Q s=Q:=by unfold bf;rw [if_neg (by rw [hup];exact Bool.false_ne_true),if_pos he]
  have hv:fb s=1:=if_pos he
  rw [hp,hv]
  exact UR s hup hep.1 he P Q drift a hw.dl hw.kl _ _ _ _ _ (key Q tq 1 hQ)
 have hp:bf P Q s=P:=by unfold bf;rw [if_neg (by rw [hup];exact Bool.false_ne_true),if_neg he]
 have hv:fb s=0:=if_neg he
 rw [hp,hv]
 exact Sy s hup hep.1 ab P Q drift a hw.dl hw.kl _ _ _ _ _ (key P tp 0 hP)
theorem zp (hP:jg P tp) (hQ:jg Q tq) (hi:i≤1000) (hs:Sq P Q i s) (hup:s.up=true) (htl:pG (if s.ver=1 then tq else tp) s.timers) (hdr:0≤drift∧drift≤3) (hw:AU a) (hcr:a.crash=false):
  Spec Tryz.prog 45 (aI [gm s,eU P,eU Q, .v (.int .i64 drift),ur a] []) (nW (cj P Q drift a s).1 (JA P Q drift a s) (eb s a (hN a s)) (dR P Q drift a s).length (rG (eb s a (hN a s)) (dR P Q drift a s))):=by
 obtain ⟨hns,hver⟩:=hs.up hup
 have hck:=hs.ck
 have hcb: ∀ k, -1000000≤s.counts.getD k 0∧s.counts.getD k 0≤1000000:=fun k=> by have:=hs.ct k;omega
 have htk:=ki (clock:=s.clock) (tick:=a.tick) hdr
 have hnf: ¬ s.up=false:=by rw [hup];exact fun h=> by cases h
 have hnc: ¬ a.crash=true:=by rw [hcr];exact Bool.false_ne_true
 have hah:=hw.ok.h
 have e1:cj P Q drift a s=cw { s with wait:=a.wait } (bf P Q s) a.h 1 3 drift a.tick a.names a.draws:=by unfold cj;rw [if_neg hnf,if_neg hnc]
 have e2:dR P Q drift a s=eE drift a.tick (fH { s with wait:=a.wait } (bf P Q s) a.h 1 3 drift a.tick a.names a.draws).asked a.draws:=by unfold dR;rw [if_neg hnf,if_neg hnc]
 have e3:JA P Q drift a s=Bb ⟨1,(a.h:Int),s.counts.getD a.h 0⟩ (cj P Q drift a s).2 (fA { s with wait:=a.wait } (bf P Q s) a.h 1 3 drift a.tick a.names a.draws):=(if_neg hnf).trans (if_neg hnc)
 have e4:hN a s=a.h:=(if_neg hnf).trans (if_neg hnc)
 rw [e3,e4,e2,← kN,gl,← mv,e1]
 have key: ∀ (X:Pg) (tm:Int),jg X tm→rN X s→pG tm s.timers→Spec Tryz.prog 81 (aL [gm { s with wait:=a.wait },eU X, .v (.int .i64 (a.h:Int)), .v (.int .i64 1), .v (.int .i64 3), .v (.int .i64 drift),EZ a.names,jv] (pN (eb s a a.h) 0 [] (5,9)))
   (iL ⟨1,(a.h:Int),s.counts.getD a.h 0⟩ (fA { s with wait:=a.wait } X a.h 1 3 drift a.tick a.names a.draws) (cw { s with wait:=a.wait } X a.h 1 3 drift a.tick a.names a.draws) (eb s a a.h) (eX drift+(fA { s with wait:=a.wait } X a.h 1 3 drift a.tick a.names a.draws).asked.length) (iz (eb s a a.h) drift a.tick++mw (eb s a a.h) a.draws (fA { s with wait:=a.wait } X a.h 1 3 drift a.tick a.names a.draws).asked)):=fun X tm hX hN htm=>
  ux X tm { s with wait:=a.wait } ⟨hX.pg,hX.cl,hX.tc,⟨hN.dk,hN.vl,hN.vr,hN.tm,hN.ct⟩,htm,hcb,by show -1000000≤s.clock∧s.clock≤1000000;omega⟩ a.h hah 1 3 drift a.tick a.names a.draws hw.nl hw.ok.nm (cB ab) (cB ab) (by show Rg (aQ s.clock drift a.tick);unfold Rg;omega) ab (eb s a a.h) (fun h=> qb s a.h hw ab) (fun j k _ h2 _=> pT s a.h hw j ab) _ rfl
 by_cases hv:s.ver=1
 ·have hp:bf P Q s=Q:=by unfold bf;rw [if_pos hup,if_pos hv]
  rw [if_pos hv] at hns htl
  rw [hp]
  exact SA s hup hv P Q drift a hcr ab hw.dl hw.kl _ _ _ _ _ (key Q tq hQ hns htl)
 have hp:bf P Q s=P:=by unfold bf;rw [if_pos hup,if_neg hv]
 rw [if_neg hv] at hns htl
 rw [hp]
 exact Tq s hup hv P Q drift a hcr ab hw.dl hw.kl _ _ _ _ _ (key P tp hP hns htl)
theorem sc (t:Tl) (k:Nat) (keeps:List Int):rG t (fY k keeps)=xM t keeps k:=by
 unfold rG fY xM
 rw [List.flatMap_map]
theorem tN (hi:i≤1000) (hs:Sq P Q i s) (hsm:fB s) (hup:s.up=true) (hw:AU a) (hcr:a.crash=true):
  Spec Tryz.prog 45 (aI [gm s,eU P,eU Q, .v (.int .i64 drift),ur a] []) (nW (cj P Q drift a s).1 (JA P Q drift a s) (eb s a (hN a s)) (dR P Q drift a s).length (rG (eb s a (hN a s)) (dR P Q drift a s))):=by
 obtain ⟨hns,hver⟩:=hs.up hup
 have hep:=hs.ep
 have hcb:=hs.ct 40
 have hnf: ¬ s.up=false:=by rw [hup];exact fun h=> by cases h
 have e1:cj P Q drift a s=(gY s (keepB s.dk.pend.length a.keeps),{}):=by unfold cj;rw [if_neg hnf,if_pos hcr]
 have e2:dR P Q drift a s=fY s.dk.pend.length a.keeps:=by unfold dR;rw [if_neg hnf,if_pos hcr]
 have e3:JA P Q drift a s=LY:=(if_neg hnf).trans (if_pos hcr)
 have e4:hN a s=40:=(if_neg hnf).trans (if_pos hcr)
 have hin:eL s.dk:=fun w hw=> by
  obtain ⟨b1,b2,_⟩:=hns.dk.pr w hw
  have:=hns.dk.len
  exact ⟨b1,by omega⟩
 have h:=RZ s hup hsm hin hs.cl ab ab P Q drift a hcr hw.dl hw.kl (fun j _=> xS s 40 hw j)
 rw [Nat.zero_add,List.nil_append] at h
 rw [e3,e4,e2,e1,sc,show (fY s.dk.pend.length a.keeps).length=s.dk.pend.length by simp [fY]]
 exact h
end
end Go.Proofs.YtmjnackchaahbaaGreat

set_option maxHeartbeats 2000000
namespace Go.Proofs.YtmjnackchaahbaaGreat

theorem wa {t:Int} (ht:0≤t∧t < 8): ∀ (l:List Ac) (q:Ns×Nr),(∀ a∈l,xg t a)→pG t q.1.timers→pG t (l.foldl dj q).1.timers
 | [],_,_,h=> h
 | a::l,q,ha,h=> wa ht l (dj q a) (fun b hb=> ha b (List.mem_cons_of_mem _ hb)) (vi ht (ha a List.mem_cons_self) h)
theorem jB {P:Pg} {t:Int} (hc:TmC P.c t=true) (s:Ns) (h:pG t s.timers) (k:Nat) (self nodes drift tick:Int) (names ans:List Int):pG t (cw s P k self nodes drift tick names ans).1.timers:=
 wa (TmC.rg hc) _ _ (fun a ha=> qW hc _ _ _ _ a ha) h
structure SqT (P Q:Pg) (tp tq:Int) (i:Nat) (s:Ns):Prop where
 sq:Sq P Q i s
 sm:fB s
 tl:s.up=true→pG (if s.ver=1 then tq else tp) s.timers
theorem Ep (P Q:Pg) (tp tq:Int):SqT P Q tp tq 0 {}:=⟨Jk P Q,⟨Nat.zero_le _,Nat.zero_le _,Nat.zero_le _,Nat.zero_le _⟩,fun h=> by simp at h⟩
theorem HK {X:Pg} {t:Int} {s:Ns} (hX:lU X) (h:rN X s) (ht:pG t s.timers):fB s:=by
 have h1:=h.dk.len
 have h2:=h.dk.pn
 have h3:=h.vl
 have h4:=hX.nv
 refine ⟨by omega,by omega,by omega,?_⟩
 rcases ht with ht | ht <;> rw [ht] <;> simp
theorem KW {P Q:Pg} {tp tq:Int} (hP:jg P tp) (hQ:jg Q tq) {drift:Int} (hd:0≤drift∧drift≤3) {a:Na} (ha:EB a) {i:Nat} (hi:i≤100) {s:Ns} (h:SqT P Q tp tq i s):SqT P Q tp tq (i+1) (cj P Q drift a s).1:=by
 have hn:=GS hP.pg hQ.pg hd ha hi h.sq
 have up:(cj P Q drift a s).1.up=true→pG (if (cj P Q drift a s).1.ver=1 then tq else tp) (cj P Q drift a s).1.timers:=by
  unfold cj
  split
  ·rename_i hup
   intro _
   show pG (if (cw (bM s (bf P Q s) (fb s)) (bf P Q s) 0 1 3 drift a.tick (List.replicate 9 0) a.draws).1.ver=1 then tq else tp) (cw (bM s (bf P Q s) (fb s)) (bf P Q s) 0 1 3 drift a.tick (List.replicate 9 0) a.draws).1.timers
   rw [(fD (bM s (bf P Q s) (fb s)) (bf P Q s) 0 1 3 drift a.tick (List.replicate 9 0) a.draws).2.1]
   show pG (if fb s=1 then tq else tp) _
   have hnt: ¬ s.up=true:=by rw [hup];exact Bool.false_ne_true
   by_cases he:s.epoch % 2=1
   ·rw [show fb s=1 from if_pos he,show bf P Q s=Q by unfold bf;rw [if_neg hnt,if_pos he],if_pos rfl]
    exact jB hQ.tc _ (.inl rfl) _ _ _ _ _ _ _
   rw [show fb s=0 from if_neg he,show bf P Q s=P by unfold bf;rw [if_neg hnt,if_neg he],if_neg ah]
   exact jB hP.tc _ (.inl rfl) _ _ _ _ _ _ _
  rename_i hup
  split
  ·intro hx;cases hx
  intro _
  have hup:s.up=true:=by simpa using hup
  have htl:=h.tl hup
  rw [(fD { s with wait:=a.wait } (bf P Q s) a.h 1 3 drift a.tick a.names a.draws).2.1]
  show pG (if s.ver=1 then tq else tp) _
  by_cases hv:s.ver=1
  ·rw [if_pos hv] at htl ⊢
   rw [show bf P Q s=Q by unfold bf;rw [if_pos hup,if_pos hv]]
   exact jB hQ.tc { s with wait:=a.wait } htl _ _ _ _ _ _ _
  rw [if_neg hv] at htl ⊢
  rw [show bf P Q s=P by unfold bf;rw [if_pos hup,if_neg hv]]
  exact jB hP.tc { s with wait:=a.wait } htl _ _ _ _ _ _ _
 refine ⟨hn,?_,up⟩
 by_cases hu:(cj P Q drift a s).1.up=true
 ·have h1:=(hn.up hu).1
  have h2:=up hu
  by_cases hv:(cj P Q drift a s).1.ver=1
  ·rw [if_pos hv] at h1 h2;exact HK hQ.pg h1 h2
  rw [if_neg hv] at h1 h2;exact HK hP.pg h1 h2
 have hs:=h.sm
 unfold cj at hu ⊢
 split at hu
 ·exact absurd ((fD (bM s (bf P Q s) (fb s)) (bf P Q s) 0 1 3 drift a.tick (List.replicate 9 0) a.draws).1) hu
 rename_i hup
 rw [if_neg hup]
 split at hu
 ·rename_i hc
  rw [if_pos hc]
  refine ⟨?_,Nat.zero_le _,?_,Nat.zero_le _⟩
  ·show (mD s.dk.cells _).length≤1000
   rw [dF];exact hs.c
  show (List.replicate s.vol.length (0:Int)).length≤1000
  rw [List.length_replicate];exact hs.v
 exact absurd ((fD { s with wait:=a.wait } (bf P Q s) a.h 1 3 drift a.tick a.names a.draws).1.trans (show s.up=true by simpa using hup)) hu
end Go.Proofs.YtmjnackchaahbaaGreat

set_option maxHeartbeats 2000000
namespace Go.Proofs.YtmjnackchaahbaaGreat
open Go.RowKit

theorem Ho {n:Int} (h0:0≤n):AU (ig n):=by
 obtain ⟨h1,h2,h3,h4,_,h6⟩:=BL h0
 refine ⟨h1,h6,h4,fun x hx=> ?_,by omega,by omega⟩
 have hx:x∈[n / 2 % 2,n / 4 % 2,n / 8 % 2,n / 16 % 2]:=hx
 simp only [List.mem_cons,List.not_mem_nil,or_false] at hx
 omega
theorem Hw (s:Ns) (hup:s.up=false) (P Q:Pg):Spec Tryz.prog 51 (aI [gm s,eU P,eU Q] []) (aC (.v (.bool true)) []):=by
 refine Spec.ofN Tryz.func51 rfl Tryz.ntmps51 rfl ?_
 refine go 10 ?_
 refine aj (ew (r:=true) _ rfl (by rw [hup];rfl)) ?_
 refine go 5 ?_
 exact au (dU rfl rfl)
theorem BD (s:Ns) (hup:s.up=true) (hv:s.ver≠1) (P Q:Pg) (hd:s.dk.cells.length=P.d) (hl:s.vol.length=P.v):Spec Tryz.prog 51 (aI [gm s,eU P,eU Q] []) (aC (.v (.bool true)) []):=by
 refine Spec.ofN Tryz.func51 rfl Tryz.ntmps51 rfl ?_
 refine go 10 ?_
 refine aj (ew (r:=false) _ rfl (by rw [hup];rfl)) ?_
 refine go 12 ?_
 refine yQ rfl rfl (beq_eq_false_iff_ne.2 hv) ?_
 refine go 10 ?_
 refine JS rfl rfl (by rw [hd];exact beq_self_eq_true _) ?_
 refine go 6 ?_
 refine aV rfl rfl (ba (r:=true) _ _ rfl rfl (by rw [hl];exact beq_self_eq_true _)) ?_
 refine go 3 ?_
 exact au (dU rfl rfl)
theorem Is (s:Ns) (hup:s.up=true) (hv:s.ver=1) (P Q:Pg) (hd:s.dk.cells.length=Q.d) (hl:s.vol.length=Q.v):Spec Tryz.prog 51 (aI [gm s,eU P,eU Q] []) (aC (.v (.bool true)) []):=by
 refine Spec.ofN Tryz.func51 rfl Tryz.ntmps51 rfl ?_
 refine go 10 ?_
 refine aj (ew (r:=false) _ rfl (by rw [hup];rfl)) ?_
 refine go 12 ?_
 refine JS rfl rfl (by rw [hv];rfl) ?_
 refine go 6 ?_
 refine aE ?_
 refine az (σ':=an 31 [(3,_),(7,_)] [((3,0),_),((7,0),_)] [] []) kp ?_
 refine go 7 ?_
 refine JS rfl rfl (by rw [hd];exact beq_self_eq_true _) ?_
 refine go 6 ?_
 refine aV rfl rfl (ba (r:=true) _ _ rfl rfl (by rw [hl];exact beq_self_eq_true _)) ?_
 refine go 3 ?_
 exact au (dU rfl rfl)
end Go.Proofs.YtmjnackchaahbaaGreat

set_option maxHeartbeats 2000000
namespace Go.Proofs.YtmjnackchaahbaaGreat
open Go.RowKit

abbrev JU (n:Int):Nat:=(da n 12).toNat
def Lw (n:Int):Pg:=⟨bG (onss.getD (JU n) []) 0,bK (onss.getD (JU n) []),(durs.getD (JU n) []).length,(vols.getD (JU n) []).length⟩
theorem wg (n:Int) (h: -9223372036854775808≤n∧n≤9223372036854775807):Spec Tryz.prog 39 (aI [.v (.int .i64 n)] []) (aC (eU (Lw n)) []):=uo n h.1 h.2
def OL (n:Int):Int:=if JU n=6 then 1 else 0
theorem Ku {d v:List Tx} {ons:List (Nat×Bk)} (U:UOk d v ons) {tm:Int} (ht:TmC (bG ons 0) tm=true):jg ⟨bG ons 0,bK ons,d.length,v.length⟩ tm where
 pg:=by
  have hl:(d++v).length=d.length+v.length:=List.length_append
  refine ⟨⟨xT ons,by show Good _ (d.length+v.length) _ _ _ _;rw [← hl];exact U.good,fun h=> ?_⟩,by show d.length+v.length≤16;rw [← hl];exact U.len⟩
  rcases xx ons h with e | ⟨e,_,e2,e3,e4⟩
  ·exact .inl (by show (nu (jU ons 0)).getD h (-1) < 0;omega)
  have e5:bK ons h=(e:Int):=e2
  exact .inr ⟨by show 0≤bK ons h;omega,by show bK ons h < _;rw [e5];exact Int.ofNat_lt.2 e3,by show xT ons (bK ons h).toNat=0;rw [e5,Int.toNat_natCast];exact e4⟩
 cl:=U.c
 tc:=ht
theorem Ng (k:Nat) (h:k < 12):TmC (bG (onss.getD k []) 0) (if k=6 then 1 else 0)=true:=by
 rcases (show k=0∨k=1∨k=2∨k=3∨k=4∨k=5∨k=6∨k=7∨k=8∨k=9∨k=10∨k=11 by omega) with rfl | rfl | rfl | rfl | rfl | rfl | rfl | rfl | rfl | rfl | rfl | rfl <;> kernel_rfl
theorem Du (n:Int):jg (Lw n) (OL n):=by
 have hlo:=gM n 12 ab
 have hhi:=jb n 12 ab
 have hk:JU n < 12:=by show (da n 12).toNat < 12;omega
 exact Ku (KN _ hk).1.toUOk (Ng _ hk)
abbrev zG (l:List Int) (k:Nat):Na:=ig (da (l.getD k 0) 100000000)
theorem Ji (l:List Int) (k:Nat):AU (zG l k):=Ho (gM _ _ ab)
def JW (a:Na) (s:Ns):Cz:=if s.up=false then ⟨1,((0:Nat):Int),s.counts.getD 0 0⟩ else if a.crash=true then ⟨0,0,0⟩ else ⟨1,(a.h:Int),s.counts.getD a.h 0⟩
def wI (P Q:Pg) (dr:Int) (a:Na) (s:Ns):Ms:=if s.up=false then fA (bM s (bf P Q s) (fb s)) (bf P Q s) 0 1 3 dr a.tick (List.replicate 9 0) a.draws else if a.crash=true then { vars:=[],pc:=0,fin:=true } else fA { s with wait:=a.wait } (bf P Q s) a.h 1 3 dr a.tick a.names a.draws
theorem IL (P Q:Pg) (dr:Int) (a:Na) (s:Ns):JA P Q dr a s=Bb (JW a s) (cj P Q dr a s).2 (wI P Q dr a s):=by
 unfold JW wI
 by_cases hu:s.up=false
 ·rw [if_pos hu,if_pos hu]
  exact if_pos hu
 rw [if_neg hu,if_neg hu]
 by_cases hc:a.crash=true
 ·rw [if_pos hc,if_pos hc]
  refine ((if_neg hu).trans (if_pos hc)).trans ?_
  have e1:cj P Q dr a s=(gY s (keepB s.dk.pend.length a.keeps),{}):=by unfold cj;rw [if_neg hu,if_pos hc]
  have e2:fg (jR [])=[]:=by simp [fg,jR]
  rw [e1]
  show LY=AV.agg [.v (.int .i64 0), .v (.int .i64 0), .v (.int .i64 0), .sl 0 (sY ⟨0,0,0⟩ []), .v (.bool false), .v (.int .i64 0), .sl 0 (be []), .sl 0 (be []), .sl 0 (oz []), .v (.int .i64 0), .v (.bool false), .sl (fg (jR [])).length (be (fg (jR [])))]
  rw [e2];rfl
 rw [if_neg hc,if_neg hc]
 exact (if_neg hu).trans (if_neg hc)
theorem Jc {P Q:Pg} {tp tq dr:Int} (hP:jg P tp) (hQ:jg Q tq) (hd:0≤dr∧dr≤3) {i:Nat} (hi:i≤1000) {s:Ns} (hs:SqT P Q tp tq i s) {a:Na} (hw:AU a):
  Spec Tryz.prog 45 (aI [gm s,eU P,eU Q, .v (.int .i64 dr),ur a] []) (nW (cj P Q dr a s).1 (Bb (JW a s) (cj P Q dr a s).2 (wI P Q dr a s)) (eb s a (hN a s)) (dR P Q dr a s).length (rG (eb s a (hN a s)) (dR P Q dr a s))):=by
 rw [← IL]
 by_cases hu:s.up=true
 ·by_cases hc:a.crash=true
  ·exact tN hi hs.sq hs.sm hu hw hc
  exact zp hP hQ hi hs.sq hu (hs.tl hu) hd hw (by simpa using hc)
 exact vm hP hQ hi hs.sq hs.sm (by simpa using hu) hd hw
theorem Ia {P Q:Pg} {tp tq:Int} {i:Nat} {s:Ns} (hs:SqT P Q tp tq i s):Spec Tryz.prog 51 (aI [gm s,eU P,eU Q] []) (aC (.v (.bool true)) []):=by
 by_cases hu:s.up=true
 ·obtain ⟨h,_⟩:=hs.sq.up hu
  by_cases hv:s.ver=1
  ·rw [if_pos hv] at h
   exact Is s hu hv P Q h.dk.len h.vl
  rw [if_neg hv] at h
  exact BD s hu hv P Q h.dk.len h.vl
 exact Hw s (by simpa using hu) P Q
end Go.Proofs.YtmjnackchaahbaaGreat

set_option maxHeartbeats 2000000
namespace Go.Proofs.YtmjnackchaahbaaGreat
open Go.RowKit

abbrev Ob (e:Nat→Int):List Value:=[.int .i64 (e 0), .int .i64 (e 1), .int .i64 (e 2), .int .i64 (e 3), .int .i64 (e 4), .int .i64 (e 5), .int .i64 (e 6), .int .i64 (e 7), .int .i64 (e 8), .int .i64 (e 9), .int .i64 (e 10), .int .i64 (e 11), .int .i64 (e 12), .int .i64 (e 13), .int .i64 (e 14), .int .i64 (e 15), .int .i64 (e 16), .int .i64 (e 17), .int .i64 (e 18), .int .i64 (e 19), .int .i64 (e 20), .int .i64 (e 21), .int .i64 (e 22), .int .i64 (e 23), .int .i64 (e 24), .int .i64 (e 25), .int .i64 (e 26), .int .i64 (e 27), .int .i64 (e 28), .int .i64 (e 29), .int .i64 (e 30), .int .i64 (e 31), .int .i64 (e 32), .int .i64 (e 33), .int .i64 (e 34), .int .i64 (e 35), .int .i64 (e 36), .int .i64 (e 37), .int .i64 (e 38), .int .i64 (e 39), .int .i64 (e 40)]
theorem sd (w:World) (cs:Array Value): ∀ (is:List Nat),(∀ j∈is,∃ a,cs[j]? =some (.int .i64 a))→(Op.eqItems 9999 3 1 cs cs is).run Tryz.prog w= .ok true w
 | [],_=> by simp [Op.eqItems]
 | j::is,h=> by
  obtain ⟨a,ha⟩:=h j List.mem_cons_self
  have ih:=sd w cs is fun i hi=> h i (List.mem_cons_of_mem _ hi)
  simp only [Op.eqItems,Sem.run_bind,Nat.mul_one]
  rw [eV w cs j _ ha,Result.andThen_ok,eV w cs j _ ha,Result.andThen_ok,kR 9998 w a a,Result.andThen_ok]
  simpa using ih
theorem Kr (w:World) (e:Nat→Int):(Op.equal 81 (.agg (Ob e).toArray) (.agg (Ob e).toArray)).run Tryz.prog w= .ok true w:=by
 show (Op.equalIn (9999+1) 81 _ _).run Tryz.prog w=_
 obtain ⟨i,hi⟩:=Option.isSome_iff_exists.1 (show (Tryz.prog.info? 3).isSome=true by kernel_rfl)
 rw [run_equalIn_array w 9999 _ _ Tryz.underlying81 hi,show Tryz.prog.cellsOf 3=1 by kernel_rfl]
 refine sd w _ _ fun h hh=> ⟨e h,?_⟩
 have hh:=List.mem_range.1 hh
 rcases (show h=0∨h=1∨h=2∨h=3∨h=4∨h=5∨h=6∨h=7∨h=8∨h=9∨h=10∨h=11∨h=12∨h=13∨h=14∨h=15∨h=16∨h=17∨h=18∨h=19∨h=20∨h=21∨h=22∨h=23∨h=24∨h=25∨h=26∨h=27∨h=28∨h=29∨h=30∨h=31∨h=32∨h=33∨h=34∨h=35∨h=36∨h=37∨h=38∨h=39∨h=40 by omega) with rfl | rfl | rfl | rfl | rfl | rfl | rfl | rfl | rfl | rfl | rfl | rfl | rfl | rfl | rfl | rfl | rfl | rfl | rfl | rfl | rfl | rfl | rfl | rfl | rfl | rfl | rfl | rfl | rfl | rfl | rfl | rfl | rfl | rfl | rfl | rfl | rfl | rfl | rfl | rfl | rfl <;> rfl
section
variable {σ:St} {dd:Option Tmp} {ty:TypeId}
end
end Go.Proofs.YtmjnackchaahbaaGreat

set_option maxHeartbeats 2000000
namespace Go.Proofs.YtmjnackchaahbaaGreat
open Go.RowKit

def eP (h k:Nat):Int:=if k < h then -1 else 0
theorem Ih (h:Nat):kO (eP h) h (-1)=eP (h+1):=by
 funext k
 unfold kO eP
 by_cases h1:k=h
 ·rw [if_pos h1,if_pos ab]
 rw [if_neg h1]
 by_cases h2:k < h
 ·rw [if_pos h2,if_pos ab]
 rw [if_neg h2,if_neg ab]
def P13:Pg:=⟨[{ op:= .push,n:=5 },{ op:= .setVar,n:=0 },{ op:= .stop,n:=0 }],kO (eP 40) 10 0,0,1⟩
theorem CK:Spec Tryz.prog 85 (aI [] []) (aC (eU P13) []):=by
 refine Spec.ofN Tryz.func85 rfl Tryz.ntmps85 rfl ?_
 refine go 12 ?_
 refine aF fun K3 hK3=> ?_
 refine aG (cC rfl (am (aH ?_)))
 refine aT (α:=Nat) (fun q=> q≤40) 18 [(0,_),(1,_)] [((0,0),_)] (fun q=> [(2, .v (.int .i64 (q:Int)))]) (fun q=> [((1,0), .box 26 [.sl 3 (inl P13.c), .v (.int .i64 (eP q 0)), .v (.int .i64 (eP q 1)), .v (.int .i64 (eP q 2)), .v (.int .i64 (eP q 3)), .v (.int .i64 (eP q 4)), .v (.int .i64 (eP q 5)), .v (.int .i64 (eP q 6)), .v (.int .i64 (eP q 7)), .v (.int .i64 (eP q 8)), .v (.int .i64 (eP q 9)), .v (.int .i64 (eP q 10)), .v (.int .i64 (eP q 11)), .v (.int .i64 (eP q 12)), .v (.int .i64 (eP q 13)), .v (.int .i64 (eP q 14)), .v (.int .i64 (eP q 15)), .v (.int .i64 (eP q 16)), .v (.int .i64 (eP q 17)), .v (.int .i64 (eP q 18)), .v (.int .i64 (eP q 19)), .v (.int .i64 (eP q 20)), .v (.int .i64 (eP q 21)), .v (.int .i64 (eP q 22)), .v (.int .i64 (eP q 23)), .v (.int .i64 (eP q 24)), .v (.int .i64 (eP q 25)), .v (.int .i64 (eP q 26)), .v (.int .i64 (eP q 27)), .v (.int .i64 (eP q 28)), .v (.int .i64 (eP q 29)), .v (.int .i64 (eP q 30)), .v (.int .i64 (eP q 31)), .v (.int .i64 (eP q 32)), .v (.int .i64 (eP q 33)), .v (.int .i64 (eP q 34)), .v (.int .i64 (eP q 35)), .v (.int .i64 (eP q 36)), .v (.int .i64 (eP q 37)), .v (.int .i64 (eP q 38)), .v (.int .i64 (eP q 39)), .v (.int .i64 0), .v (.int .i64 1)])]) [] [] (fun q=> 40 - q) 0 ?_ (kj [0,1] [] []) ?_
 ·omega
 intro q hq
 refine aF fun K5 hK5=> ?_
 refine go 4 ?_
 refine ay rfl (fun hc9=> ?_) (fun hc9=> ?_)
 ·refine aR (hK5 _ ?_)
  refine go 5 ?_
  refine aj (bJ _ _ aa rfl rfl rfl q rfl ab (by exact congrArg (fun z=> 0+1+z) (Nat.mul_one q))) ?_
  refine aj (cY _ _ aa rfl rfl rfl rfl (show 0+1+q+1≤43 by omega) ((congrArg (fun z=> fI (Jx (.sl 3 (inl P13.c)) (eP q) 0 1) z [.v (.int .i64 (-1))]) ab).trans ((tG _ _ _ _ q ab _).trans (by rw [Ih])))) ?_
  refine go 5 ?_
  refine ax (⟨q+1,?_,?_,?_⟩)
  ·omega
  ·exact kj [0,1] [] []
  omega
 obtain rfl:q=40:=by omega
 refine aW (id (hK3 _ ?_))
 refine aG (IE rfl rfl rfl (aj (bJ _ _ aa rfl rfl rfl 10 rfl ab ag) ?_))
 refine go 6 ?_
 exact au (zX [])
theorem p13_ok:jg P13 0 where
 pg:=by
  refine ⟨⟨fun i=> [0,1,0].getD i 0,fun i x hx=> ?_,fun h=> ?_⟩,by show 0+1≤16;omega⟩
  ·rw [Nat.zero_add]
   rcases i with _ | _ | _ | i
   all_goals first | (simp [P13] at hx;done) | (simp only [P13,List.getElem?_cons_zero,List.getElem?_cons_succ,Option.some.injEq] at hx;subst hx)
   all_goals refine ⟨?_,?_,fun j hj=> ?_⟩
   all_goals first | (simp [cV,P13,Rg];done) | (simp [Opc.pops];done) | (simp [dC] at hj;done) | (simp [dC] at hj;subst hj;simp [P13,Opc.pops,Opc.puts];done)
  by_cases h1:h=10
  ·subst h1;exact .inr ⟨by decide,by decide,by decide⟩
  by_cases h2:h < 40
  ·refine .inl ?_
   show kO (eP 40) 10 0 h < 0
   unfold kO eP
   rw [if_neg h1,if_pos h2];omega
  have e:P13.e h=0:=by
   show kO (eP 40) 10 0 h=0
   unfold kO eP
   rw [if_neg h1,if_neg h2]
  rw [e]
  exact .inr ⟨Int.le_refl _,by decide,rfl⟩
 cl:=by decide
 tc:=by decide
abbrev uU:Tl:=⟨0,0,0,0,[],0,[]⟩
theorem RY (kind idx q:Int) (hq:0 < q):pB uU kind idx q 0:=by
 have h:=ic [] (Nat.zero_le _) 0 0 0 kind idx q hq
 have e:oU [] 0 0 0 kind idx % q=0:=Int.zero_emod q
 rw [e] at h
 exact h
theorem Qn (l:List Int):((be l).drop 0).take (l.length*1)=be l:=by rw [List.drop_zero,Nat.mul_one,List.take_of_length_le (by rw [aq];omega)]
set_option maxHeartbeats 4000000 in
theorem wM (S1 S2 S3:Ns) (r1 r2:Nr) (R1 R2:Ms) (c1 c2:Cz) (P:Pg)
  (hp:Spec Tryz.prog 85 (aI [] []) (aC (eU P) []))
  (hS:Spec Tryz.prog 56 (aL [gm {},eU P, .v (.int .i64 0), .v (.int .i64 0), .v (.int .i64 1), .v (.int .i64 0),jv] (pN uU 0 [] (5,9))) (iL c1 R1 (S1,r1) uU 0 []))
  (hH:Spec Tryz.prog 81 (aL [gm S1,eU P, .v (.int .i64 10), .v (.int .i64 0), .v (.int .i64 1), .v (.int .i64 0),EZ (List.replicate 9 0),jv] (pN uU 0 [] (5,9))) (iL c2 R2 (S2,r2) uU 0 []))
  (hC:Spec Tryz.prog 53 (aL [gm S2,jv] (pN uU 0 [] (5,9))) (aN (gm S3) (pN uU 0 [] (5,8)) [(4,9),(5,8)] [(4,9)]))
  (hw:Spec Tryz.prog 51 (aI [gm S1,eU P,eU P] []) (aC (.v (.bool true)) []))
  (hv2:Spec Tryz.prog 47 (aI [gm S2] []) (aC (.sl 1 (be [5])) []))
  (hv3:Spec Tryz.prog 47 (aI [gm S3] []) (aC (.sl 1 (be [0])) []))
  (e1:S1.up=true) (e2:S2.counts.getD 0 0=1) (e3:S2.counts.getD 10 0=1) (e4:S2.clock=2) (e5:S3.epoch=1):
  Spec Tryz.prog 50 (aI [] []) (aC (.v (.bool true)) []):=by
 have hn:=sD
 have hs5:=oV 1 1 [5] [5] rfl rfl ab ab
 have hs0:=oV 1 1 [0] [0] rfl rfl ab ab
 refine Spec.ofN Tryz.func50 rfl Tryz.ntmps50 rfl ?_
 refine go 8 ?_
 refine aE ?_
 refine az (Le.trans (Le.nilB (5,0) 4 (60,0) 111 7 rfl rfl rfl) (Le.nil0 (5,0) 3 rfl rfl)) ?_
 refine aD (aj (ap aa (by repeat' (exact cp)) (hn) rfl rfl) ?_)
 refine aj (ap aa (by repeat' (exact cp)) (hp) rfl rfl) ?_
 refine ef rfl (aj (jJ _ _ (rfl:_=[AV.ptr _ _]) (rfl:_=[])) ?_)
 refine aj (bp aa [((4,9),(5,0)),((5,9),(60,0)),((1,8),(11,0)),((2,8),(11,1)),((3,8),(11,2)),((6,8),(11,3)),((5,8),(11,4))] ar (hS) ob tr tr rfl rfl ae ae) ?_
 refine go 9 ?_
 refine aE ?_
 refine az (Le.frzB (ys:=be S1.timers) (2,0) 7 rfl rfl rfl rfl (Qn _) (by rw [aq];omega)) ?_
 refine dA 10 [] ?_
 refine go 2 ?_
 refine aB (_,[]) (fun τ=> (ap aa (by repeat' (exact cp)) (hp) rfl rfl)) ?_
 refine go 1 ?_
 refine aB (_,[]) (fun τ=> (ap aa (by repeat' (exact cp)) (hp) rfl rfl)) ?_
 refine go 1 ?_
 refine aB (_,[]) (fun τ=> (ap aa al (hw) rfl rfl)) ?_
 refine go 9 ?_
 refine dM (_,[]) rfl (fun τ=> rfl) (fun τ=> ew (r:=false) _ rfl (by rw [e1];rfl)) ?_
 refine go 7 ?_
 refine aF fun K6 hK6=> ?_
 refine az (σ':=an 76 [(1,_),(2,_)] [((5,0),_),((11,4),_),((2,0),_)] [] []) kp ?_
 refine hG 10 [25,26,27,28,29,30,24,31,32] [(30,0),(30,1),(30,2),(30,3),(5,0),(30,4),(11,4),(2,0)] [[(2,0)],[(2,0)],[(2,0)],[(2,0)],[(2,0)],[(2,0)],[(2,0)],[(2,0)],[],[]] ae ae rfl (bb rfl) (rfl:_=[_,_,_,_,_,_,_,_,_,_]) (rfl:_=[]) ?_
 refine go 2 ?_
 refine aB (_,[]) (fun τ=> (ap aa (by repeat' (exact cp)) (hp) rfl rfl)) ?_
 refine go 5 ?_
 refine aB (_,[]) (fun τ=> jJ _ _ (rfl:_=[AV.ptr _ _]) (rfl:_=[])) ?_
 refine go 1 ?_
 refine aB (_,[((30,0),_),((30,1),_),((30,2),_),((30,3),_),((5,0),_),((30,4),_),((11,4), .gone)]) (fun τ=> (bp aa [((4,9),(5,0)),((5,9),(11,4)),((1,8),(30,0)),((2,8),(30,1)),((3,8),(30,2)),((6,8),(30,3)),((5,8),(30,4))] ar (hH) ob tr tr rfl rfl ae ae)) ?_
 refine go 7 ?_
 refine aB (_,[((2,0),_)]) (fun τ=> cY _ _ aa rfl (em rfl (by exact dB) rfl) rfl rfl (Nat.le_of_ble_eq_true rfl) rfl) ?_
 refine go 1 ?_
 refine cq ⟨⟨rfl,by kernel_rfl⟩,?_⟩
 refine ax (hK6 _ ?_)
 refine aE (aE ?_)
 refine az (Le.frzB (ys:=be S2.timers) (2,0) 7 rfl rfl rfl rfl (Qn _) (by rw [aq];omega)) ?_
 refine go 2 ?_
 refine aj (ap aa al (hv2) rfl rfl) ?_
 refine go 1 ?_
 refine aj (ap aa al (hs5) rfl rfl) ?_
 refine go 3 ?_
 refine aV rfl rfl (bJ _ _ aa rfl rfl rfl 0 rfl ab (by exact Nat.zero_add _)) ?_
 refine go 1 ?_
 refine aV rfl rfl (cM (r:=false) _ _ rfl rfl (by show (S2.counts.getD 0 0 !=1)=false;rw [e2];rfl)) ?_
 refine go 3 ?_
 refine aV rfl rfl (bJ _ _ aa rfl rfl rfl 10 rfl ab ag) ?_
 refine go 1 ?_
 refine aV rfl rfl (cM (r:=false) _ _ rfl rfl (by show (S2.counts.getD 10 0 !=1)=false;rw [e3];rfl)) ?_
 refine go 4 ?_
 refine aV rfl rfl (cM (r:=false) _ _ rfl rfl (by rw [e4];rfl)) ?_
 refine go 4 ?_
 refine aF fun K9 hK9=> ?_
 refine az (σ':=an 76 [(1,_),(2,_)] [((5,0),_),((2,0),_),((30,4),_)] [] []) kp ?_
 refine go 3 ?_
 refine aj (jJ _ _ (rfl:_=[AV.ptr _ _]) (rfl:_=[])) ?_
 refine aj (bp aa [((4,9),(5,0)),((5,9),(30,4)),((5,8),(58,0))] ar (hC) ob tr tr rfl rfl ae ae) ?_
 refine Lc rfl rfl rfl rfl rfl rfl (ax (hK9 _ ?_))
 refine go 2 ?_
 refine aj (ap aa al (hv3) rfl rfl) ?_
 refine go 1 ?_
 refine aj (ap aa al (hs0) rfl rfl) ?_
 refine go 3 ?_
 refine aV rfl rfl (ba (r:=true) _ _ rfl rfl (by rw [e5];rfl)) ?_
 refine go 7 ?_
 refine aV rfl rfl (ba _ _ rfl rfl rfl) (go 3 ?_)
 exact au (dU rfl rfl)
abbrev Fm:Ns:={ up:=true,ver:=0,clock:=1,vol:=[0],counts:=(List.replicate 41 0).set 0 1 }
abbrev Kl:Ns:={ up:=true,ver:=0,clock:=2,vol:=[5],counts:=((List.replicate 41 0).set 0 1).set 10 1 }
abbrev QA:Ns:={ up:=false,ver:=0,clock:=2,vol:=[0],epoch:=1,counts:=(((List.replicate 41 0).set 0 1).set 10 1).set 40 1 }
theorem Kb (k:Nat) (l:List Int) (h: ∀ x∈l,0≤x∧x≤1): -1000000≤l.getD k 0∧l.getD k 0≤1000000:=by
 by_cases hk:k < l.length
 ·rw [List.getD_eq_getElem?_getD,List.getElem?_eq_getElem hk]
  have:=h _ (List.getElem_mem hk)
  simp only [Option.getD_some];omega
 rw [List.getD_eq_getElem?_getD,List.getElem?_eq_none ab];simp
theorem GK:Spec Tryz.prog 50 (aI [] []) (aC (.v (.bool true)) []):=by
 have hsm:fB {}:=⟨Nat.zero_le _,Nat.zero_le _,Nat.zero_le _,Nat.zero_le _⟩
 have hdi:eL ({}:Ns).dk:=fun w hw=> (by cases hw)
 have hdk:DkOk 0 ({}:Ns).dk:=⟨rfl,fun v hv=> (by cases hv),Nat.zero_le _,fun w hw=> (by cases hw)⟩
 have hb:=qD (s:={}) p13_ok.pg p13_ok.cl p13_ok.tc hdk rfl (fun k=> Kb k (List.replicate 41 0) ah) ah 0
 have hld: ∀ (i:Nat) (k:Int),i≤100000→2≤k→k≤4→pB uU 1 (i:Int) k (ee [] i k):=fun i k _ h2 _=> by
  have e:ee [] i k=0:=Int.zero_emod k
  rw [e];exact RY _ _ _ ab
 have hS:=yr P13 0 {} hsm hdi 0 hb 0 1 0 0 [] (cB ab) (cB ab) (cB ah) ab uU (fun h=> absurd h (Int.lt_irrefl 0)) hld _ rfl
 have q1:ku {} P13 0 0 1 0 0 []=(Fm,{}):=by kernel_rfl
 have a1:(fA (bM {} P13 0) P13 0 0 1 0 0 (List.replicate 9 0) []).asked=[]:=by kernel_rfl
 rw [q1] at hS
 have o1:eX 0+(fA (bM {} P13 0) P13 0 0 1 0 0 (List.replicate 9 0) []).asked.length=0:=by rw [a1];rfl
 have p1:iz uU 0 0++mw uU [] (fA (bM {} P13 0) P13 0 0 1 0 0 (List.replicate 9 0) []).asked=[]:=by rw [a1];rfl
 rw [o1,p1] at hS
 have h1:HdOk P13 0 Fm:=⟨p13_ok.pg,p13_ok.cl,p13_ok.tc,⟨hdk,rfl,fun v hv=> (by rw [List.mem_singleton.1 hv];exact oT),⟨List.Pairwise.nil,fun x hx=> (by cases hx)⟩,rfl⟩, .inl rfl,fun k=> Kb k _ ah,by decide⟩
 have hH:=ux P13 0 Fm h1 10 ab 0 1 0 0 (List.replicate 9 0) [] rfl FP (cB ab) (cB ab) (cB ah) ab uU (fun h=> absurd h (Int.lt_irrefl 0)) hld _ rfl
 have q2:cw Fm P13 10 0 1 0 0 (List.replicate 9 0) []=(Kl,{}):=by kernel_rfl
 have a2:(fA Fm P13 10 0 1 0 0 (List.replicate 9 0) []).asked=[]:=by kernel_rfl
 rw [q2] at hH
 have o2:eX 0+(fA Fm P13 10 0 1 0 0 (List.replicate 9 0) []).asked.length=0:=by rw [a2];rfl
 have p2:iz uU 0 0++mw uU [] (fA Fm P13 10 0 1 0 0 (List.replicate 9 0) []).asked=[]:=by rw [a2];rfl
 rw [o2,p2] at hH
 have h2:fB Kl:=⟨Nat.zero_le _,Nat.zero_le _,ah,Nat.zero_le _⟩
 have hC:=pu Kl h2 hdi rfl ah ah uU 0 [] rfl ab [] (fun i hi=> absurd hi (Nat.not_lt_zero _))
 have hw:=BD Fm rfl ah P13 P13 rfl rfl
 have hv2:=mO Kl h2 hdi
 have hv3:=mO QA ⟨Nat.zero_le _,Nat.zero_le _,ah,Nat.zero_le _⟩ hdi
 exact wM Fm Kl QA {} {} _ _ _ _ P13 CK hS hH hC hw hv2 hv3 rfl rfl rfl rfl rfl

theorem zL (l:List Int) (k:Nat) (h:k < (jj (l.take 10)).length):(jj (l.take 10)).getD k Kj=zG l k∧k < 10:=by
 have h1:k < (l.take 10).length:=by rw [me] at h;exact h
 have h2:k < 10∧k < l.length:=by rw [List.length_take] at h1;omega
 refine ⟨?_,h2.1⟩
 unfold jj
 rw [List.getD_eq_getElem?_getD,List.getElem?_map,List.getElem?_eq_getElem h1,List.getElem_take]
 show ig (da (l[k]) 100000000)=ig (da (l.getD k 0) 100000000)
 rw [List.getD_eq_getElem?_getD,List.getElem?_eq_getElem h2.2];rfl

theorem Il (l:List Na) (k:Nat) (h:k < l.length) (j:Nat) (hj:j < 15):(CC l)[k*15+j]? =(FI (l.getD k Kj))[j]? :=by
 have e:l.getD k Kj=l[k]:=by rw [List.getD_eq_getElem?_getD,List.getElem?_eq_getElem h];rfl
 rw [e];exact jP FI 15 (fun _=> rfl) l k j h hj
end Go.Proofs.YtmjnackchaahbaaGreat

set_option maxHeartbeats 2000000
namespace Go.Proofs.YtmjnackchaahbaaGreat
open Go.RowKit

theorem mK (xs:List Int) (h:xs.length≤4611686018427387904):Spec Tryz.prog 30 (aI [.sl xs.length (be xs), .sl xs.length (be xs)] []) (aC (.v (.bool true)) []):=by
 have:=oV xs.length xs.length xs xs rfl rfl h h
 rwa [decide_eq_true rfl] at this
theorem SqT.dk {P Q:Pg} {tp tq:Int} {i:Nat} {s:Ns} (h:SqT P Q tp tq i s): ∃ n,DkOk n s.dk:=by
 by_cases hu:s.up=true
 ·exact ⟨_,(h.sq.up hu).1.dk⟩
 exact (h.sq.dn (by simpa using hu)).1
theorem SqT.din {P Q:Pg} {tp tq:Int} {i:Nat} {s:Ns} (h:SqT P Q tp tq i s):eL s.dk:=fun w hw=> by
 obtain ⟨n,hd⟩:=h.dk
 obtain ⟨b1,b2,_⟩:=hd.pr w hw
 have:=hd.len
 exact ⟨b1,by omega⟩
end Go.Proofs.YtmjnackchaahbaaGreat

set_option maxHeartbeats 2000000
namespace Go.Proofs.YtmjnackchaahbaaGreat
open Go.RowKit

theorem Gk (l:List (Int×Int)) (k:Nat) (h:k < l.length) (j:Nat) (hj:j < 2):(iu l)[k*2+j]? =(yu (l.getD k (0,0)))[j]? :=by
 have e:l.getD k (0,0)=l[k]:=by rw [List.getD_eq_getElem?_getD,List.getElem?_eq_getElem h];rfl
 rw [e];exact jP yu 2 (fun _=> rfl) l k j h hj
theorem lO (c:List Int) (l:List (Int×Int)) (h1:c.length≤1000000) (h2:l.length≤1000000) (ho: ∀ w∈l,0≤w.1∧w.1 < (c.length:Int)):
  Spec Tryz.prog 116 (aI [.sl c.length (be c), .sl l.length (iu l)] []) (aC (.ref (0,8) 0 c.length) [((0,8), .row 3 1 (be (mD c l)))]):=by
 refine Spec.ofN Tryz.func116 rfl Tryz.ntmps116 rfl ?_
 refine aG (aj (aX _ eh) (am (aG (aj (ip (7,0) _ _ aa rfl ag (by (simp <;> rfl)) ah rfl rfl) ?_))))
 refine gR rfl (aj (bI (9,0) _ _ aa rfl rfl rfl (.sl (by rw [aq,Nat.mul_one])) ab rfl (List.nil_append _) (Nat.zero_add _)) ?_)
 refine eu rfl (am (aF fun K3 hK3=> ?_))
 refine aG (cC rfl (am (aH ?_)))
 refine aT (α:=Nat) (fun k=> k≤l.length) 29 [(1,_),(5,_)] [] (fun k=> [(6, .v (.int .i64 (k:Int)))]) (fun k=> [((9,0), .row 3 1 (be (mD c (l.take k))))]) [] [] (fun k=> l.length - k) 0 ?_ (kj [2] [] []) ?_
 ·omega
 intro k hk
 refine aF fun K5 hK5=> ?_
 refine go 6 ?_
 refine ay rfl (fun hc13=> ?_) (fun hc13=> ?_)
 ·have g:=Gk l k ab
  have hm:l.getD k (0,0)∈l:=by rw [List.getD_eq_getElem?_getD,List.getElem?_eq_getElem ab];exact List.getElem_mem _
  obtain ⟨q1,q2⟩:=ho _ hm
  have q3:=uL c l (k:=k) ab
  generalize l.getD k (0,0)=w at g q1 q2 q3
  obtain ⟨i,hi⟩:=Int.eq_ofNat_of_zero_le q1
  rw [hi,Int.toNat_natCast] at q3
  have q4:(mD c (l.take k)).length=c.length:=dF _ _
  refine aR (hK5 _ ?_)
  refine aE (aH ?_)
  refine az (σ':=an 29 [(1,_),(5,_),(6,_)] [((9,0),_)] [] []) kp ?_
  refine dA 12 [] ?_
  refine go 6 ?_
  refine aB (_,[]) (fun τ=> aO _ _ aa rfl rfl _ rfl ab (by (simp only [aq,aJ,aM,aq,bA,aJ];omega)) ag) ?_
  refine go 3 ?_
  refine aB (_,[]) (fun τ=> bl _ aa rfl (by exact g 0 ab) rfl) ?_
  refine go 5 ?_
  refine aB (_,[]) (fun τ=> aO _ _ aa rfl rfl _ rfl ab (by (simp only [aq,aJ,aM,aq,bA,aJ];omega)) ag) ?_
  refine go 3 ?_
  refine aB (_,[]) (fun τ=> bl _ aa rfl (by exact g 1 ab) rfl) ?_
  refine go 1 ?_
  refine aB (_,[]) (fun τ=> bv _ _ aa rfl rfl rfl i hi ab (by exact (Nat.zero_add _).trans (Nat.mul_one _))) ?_
  refine go 1 ?_
  refine cq ⟨rfl,?_⟩
  refine aj (eR _ _ aa rfl rfl rfl rfl rfl (by rw [aq];simp only [List.length_cons,List.length_nil];omega) ((dN _ _ _ ab).trans (congrArg be q3.symm))) ?_
  refine go 5 ?_
  refine ax (⟨k+1,?_,?_,?_⟩)
  ·omega
  ·exact kj [2] [] []
  omega
 refine aW (id (hK3 _ ?_))
 exact aG (iE rfl (eu rfl (am (au (cg (.inr rfl) rfl (.tmp mW) (Le.out [((0,8),(9,0))] [] (cf rfl rfl) rfl rfl rfl trivial ⟨⟨rfl,⟨_,rfl, .rowE (by rw [List.take_of_length_le ab])⟩,rfl⟩,trivial⟩))))))
theorem mM (d:Dk) (h1:d.cells.length≤1000000) (h2:d.pend.length≤1000000) (ho:eL d):
  Spec Tryz.prog 83 (aI [lA d] []) (aC (.ref (0,8) 0 d.cells.length) [((0,8), .row 3 1 (be d.view))]):=by
 have ha:=lO d.cells d.pend h1 h2 ho
 refine Spec.ofN Tryz.func83 rfl Tryz.ntmps83 rfl ?_
 refine aG (aj (dZ (1,0) _ rfl rfl) (aj (aX _ eh) (go 6 ?_)))
 refine aj (bp aa [((0,8),(7,0))] ar (ha.toI) trivial tr tr rfl rfl ae ae) ?_
 exact eu rfl (am (au (mX [((0,8),(7,0))])))
theorem wX (d:Dk) (h1:d.cells.length≤1000000) (h2:d.pend.length≤1000000) (ho:eL d):
  Spec Tryz.prog 181 (aI [lA d] []) (aC (lA d.sync) []):=by
 have hv:=mM d h1 h2 ho
 have hl:d.sync.cells.length=d.cells.length:=dF _ _
 refine Spec.ofN Tryz.func181 rfl Tryz.ntmps181 rfl ?_
 refine go 6 ?_
 refine aj (bp aa [((0,8),(4,0))] ar (hv.toI) trivial tr tr rfl rfl ae ae) ?_
 refine go 3 ?_
 exact au (cg (.inr rfl) rfl (.cellA aa rfl rfl rfl) (Le.out [] [(4,0)] (.agg rfl (ai (Ba rfl rfl hl.symm rfl) lz)) rfl rfl rfl tr trivial))
theorem ww (d:Dk) (c v:Int) (h1:d.cells.length≤1000000) (hc:c < 0∨(d.cells.length:Int)≤c):
  Spec Tryz.prog 180 (aI [lA d, .v (.int .i64 c), .v (.int .i64 v)] []) (aC (lA (d.write c v)) []):=by
 have e:d.write c v=d:=by unfold Dk.write;exact if_pos hc
 rw [e]
 rcases hc with hc | hc
 ·refine Spec.ofN Tryz.func180 rfl Tryz.ntmps180 rfl ?_
  refine go 7 ?_
  refine aj (cZ (r:=true) _ _ rfl rfl (decide_eq_true hc)) ?_
  refine go 13 ?_
  exact au (zX [])
 refine Spec.ofN Tryz.func180 rfl Tryz.ntmps180 rfl ?_
 refine go 7 ?_
 refine aj (cZ (r:=false) _ _ rfl rfl (decide_eq_false ab)) ?_
 refine go 5 ?_
 refine aV rfl rfl (ez (r:=true) _ _ rfl rfl (decide_eq_true ab)) ?_
 refine go 7 ?_
 exact au (zX [])
theorem zl (d:Dk) (c v:Int) (h1:d.cells.length≤1000000) (h2:d.pend.length≤1000000) (ho:eL d) (hc:0≤c∧c < (d.cells.length:Int)):
  Spec Tryz.prog 180 (aI [lA d, .v (.int .i64 c), .v (.int .i64 v)] []) (aC (lA (d.write c v)) []):=by
 have e:d.write c v=if 4 < d.pend.length+1 then ⟨mD d.cells ((d.pend++[(c,v)]).take 1),(d.pend++[(c,v)]).drop 1⟩ else ⟨d.cells,d.pend++[(c,v)]⟩:=by unfold Dk.write;exact if_neg ab
 have hpl:(d.pend++[(c,v)]).length=d.pend.length+1:=by simp
 have hl1:((d.pend++[(c,v)]).take 1).length=1:=by rw [List.length_take];omega
 have hin: ∀ w∈(d.pend++[(c,v)]).take 1,0≤w.1∧w.1 < (d.cells.length:Int):=fun w hw=> by
  rcases List.mem_append.1 (List.mem_of_mem_take hw) with hw | hw
  ·exact ho w hw
  rw [List.mem_singleton.1 hw];exact hc
 have ha:=lO d.cells ((d.pend++[(c,v)]).take 1) h1 ab hin
 rw [hl1] at ha
 have q2:=nK d.pend (c,v)
 have hal:(mD d.cells ((d.pend++[(c,v)]).take 1)).length=d.cells.length:=dF _ _
 have My:(iu (d.pend++[(c,v)])).drop 2=iu ((d.pend++[(c,v)]).drop 1):=oh yu 2 (fun _=> rfl) (d.pend++[(c,v)]) 1
 have ht1:(iu (d.pend++[(c,v)])).take 2=iu ((d.pend++[(c,v)]).take 1):=Bh yu 2 (fun _=> rfl) (d.pend++[(c,v)]) 1
 refine Spec.ofN Tryz.func180 rfl Tryz.ntmps180 rfl ?_
 refine go 7 ?_
 refine aj (cZ (r:=false) _ _ rfl rfl (decide_eq_false ab)) ?_
 refine go 5 ?_
 refine aV rfl rfl (ez (r:=false) _ _ rfl rfl (decide_eq_false ab)) ?_
 refine go 5 ?_
 refine aj (ip (18,0) _ _ aa rfl ag (by (simp <;> rfl)) ah rfl rfl) ?_
 refine go 2 ?_
 refine aj (bI (21,0) _ _ aa rfl rfl rfl (.sl (by rw [bA])) ab rfl (List.nil_append _) (Nat.zero_add _)) ?_
 refine go 3 ?_
 refine aj (gX (xs:=yu (c,v)) _ _ aa rfl ag (by simp <;> rfl) ah rfl) ?_
 refine aj (bI (26,0) _ _ aa rfl rfl (bA _).symm (.sl rfl) ab rfl q2 rfl) ?_
 refine eu rfl (am (aE (aE ?_)))
 refine az (Le.frzS (ys:=iu (d.pend++[(c,v)])) 7 mW rfl rfl (by rw [List.drop_zero,List.take_of_length_le (by rw [bA,hpl];exact Nat.le_refl _)]) (by rw [bA,hpl,Nat.zero_add];exact Nat.le_refl _)) ?_
 refine go 5 ?_
 refine ay rfl (fun hc29=> ?_) (fun hc29=> ?_)
 ·rw [if_pos ab] at e
  refine aE ?_
  refine az (σ':=an 42 [(3,_),(6,_),(7,_)] [((3,0),_),((6,0),_)] [] []) kp ?_
  refine dA 8 [(34,0)] ?_
  refine go 6 ?_
  refine aB (_,[]) (fun τ=> fW (ys:=iu ((d.pend++[(c,v)]).take 1)) _ _ _ aa rfl 0 1 .dflt (.lit rfl rfl) ab ab (by rw [Nat.zero_mul,List.drop_zero];exact ht1) rfl) ?_
  refine go 1 ?_
  refine aB (_,[((34,0),_)]) (fun τ=> (bp aa [((0,8),(34,0))] ar (ha.toI) trivial tr tr rfl rfl ae ae)) ?_
  refine go 3 ?_
  refine aB (_,[]) (fun τ=> fW (ys:=iu ((d.pend++[(c,v)]).drop 1)) _ _ _ aa rfl 1 (d.pend.length+1) (.lit rfl rfl) .dflt ab ab (by rw [List.take_of_length_le (by rw [List.length_drop,bA,hpl];omega)];exact My) rfl) ?_
  refine go 1 ?_
  refine aB (_,[]) (fun τ=> gA _ aa rfl (by exact (rfl:_=some [AV.ref (34,0) 0 d.cells.length,AV.sl _ _]))) ?_
  refine go 4 ?_
  exact au (cg (.inr rfl) rfl (.cellA aa rfl rfl rfl) (Le.out [] [(34,0)] (.agg rfl (ai (Ba rfl rfl (by rw [e];exact hal.symm) (by rw [e]) (by rw [e])) (ai (de (by rw [e];simp) (by rw [e])) aK))) rfl rfl rfl tr trivial))
 rw [if_neg ab] at e
 refine cE (aE ?_)
 refine az (σ':=an 42 [(3,_),(6,_),(7,_)] [((3,0),_),((6,0),_)] [] []) kp ?_
 refine go 7 ?_
 exact au (cg (.inr rfl) rfl (.cellA aa rfl rfl rfl) (Le.out [] [] (.agg rfl (ai (de (by rw [e]) (by rw [e])) (ai (de (by rw [e];exact hpl) (by rw [e])) aK))) rfl rfl rfl trivial trivial))
theorem uN (d:Dk) (c v:Int) (h1:d.cells.length≤1000000) (h2:d.pend.length≤1000000) (ho:eL d):
  Spec Tryz.prog 180 (aI [lA d, .v (.int .i64 c), .v (.int .i64 v)] []) (aC (lA (d.write c v)) []):=by
 by_cases hc:c < 0∨(d.cells.length:Int)≤c
 ·exact ww d c v h1 hc
 exact zl d c v h1 h2 ho ab
end Go.Proofs.YtmjnackchaahbaaGreat

set_option maxHeartbeats 2000000
namespace Go.Proofs.YtmjnackchaahbaaGreat
open Go.RowKit

theorem kw (x:Int):Spec Tryz.prog 65 (aI [.v (.int .i64 x)] []) (aC (.v (.int .i64 (lf x))) []):=by
 refine Spec.ofN Tryz.func65 rfl Tryz.ntmps65 rfl ?_
 exact aG (cC rfl (am (aG (bW rfl (aj (qt _ _ rfl rfl rfl) (aj (qv _ _ rfl rfl rfl) (cC rfl (am (au (dU rfl rfl))))))))))
theorem kL (b:Bool):Spec Tryz.prog 62 (aI [.v (.bool b)] []) (aC (.v (.int .i64 (flag b))) []):=by
 cases b
 ·refine Spec.ofN Tryz.func62 rfl Tryz.ntmps62 rfl ?_
  refine go 12 ?_
  exact au (dU rfl rfl)
 refine Spec.ofN Tryz.func62 rfl Tryz.ntmps62 rfl ?_
 refine go 11 ?_
 exact au (dU rfl rfl)
theorem HW {y x:Int} (hy:Rg y) (hx:Rg x):Spec Tryz.prog 31 (aI [.v (.int .i64 6), .v (.int .i64 y), .v (.int .i64 x)] []) (aC (.v (.int .i64 (eK .add y x))) []):=by
 refine Spec.ofN Tryz.func31 rfl Tryz.ntmps31 rfl ?_
 refine go 16 ?_
 refine aj (eT (r:=y+x) _ _ rfl rfl (bT (by unfold Rg at hy hx;omega))) ?_
 refine aj (ap aa al (kw (y+x)) rfl rfl) ?_
 exact cC rfl (am (au (dU rfl rfl)))
theorem Id {y x:Int} (hy:Rg y) (hx:Rg x):Spec Tryz.prog 31 (aI [.v (.int .i64 7), .v (.int .i64 y), .v (.int .i64 x)] []) (aC (.v (.int .i64 (eK .sub y x))) []):=by
 refine Spec.ofN Tryz.func31 rfl Tryz.ntmps31 rfl ?_
 refine go 21 ?_
 refine aj (bq (r:=y - x) _ _ rfl rfl (bT (by unfold Rg at hy hx;omega))) ?_
 refine aj (ap aa al (kw (y - x)) rfl rfl) ?_
 exact cC rfl (am (au (dU rfl rfl)))
theorem IF {y x:Int} (hy:Rg y) (hx:Rg x):Spec Tryz.prog 31 (aI [.v (.int .i64 8), .v (.int .i64 y), .v (.int .i64 x)] []) (aC (.v (.int .i64 (eK .mul y x))) []):=by
 refine Spec.ofN Tryz.func31 rfl Tryz.ntmps31 rfl ?_
 refine go 26 ?_
 refine aj (xB (r:=y*x) _ _ rfl rfl (bT (Ey hy hx))) ?_
 refine aj (ap aa al (kw (y*x)) rfl rfl) ?_
 exact cC rfl (am (au (dU rfl rfl)))
theorem GW {y x:Int} (hy:Rg y) (hx:Rg x) (h0:x=0):Spec Tryz.prog 31 (aI [.v (.int .i64 9), .v (.int .i64 y), .v (.int .i64 x)] []) (aC (.v (.int .i64 (0))) []):=by
 refine Spec.ofN Tryz.func31 rfl Tryz.ntmps31 rfl ?_
 refine go 31 ?_
 refine aj (ba _ _ rfl rfl rfl) (am (fR rfl (decide_eq_true h0) ?_))
 exact aG (cC rfl (am (au (dU rfl rfl))))
theorem Ha {y x:Int} (hy:Rg y) (hx:Rg x) (h0:x≠0):Spec Tryz.prog 31 (aI [.v (.int .i64 9), .v (.int .i64 y), .v (.int .i64 x)] []) (aC (.v (.int .i64 (lf (y.tdiv x)))) []):=by
 refine Spec.ofN Tryz.func31 rfl Tryz.ntmps31 rfl ?_
 refine go 31 ?_
 refine aj (ba _ _ rfl rfl rfl) (am (cK rfl (decide_eq_false h0) ?_))
 refine cE (aG (bW rfl (bW rfl (aj (dQ (r:=y.tdiv x) _ _ rfl rfl h0 (bT (by have:=yb (y:=x) hy;omega))) ?_))))
 refine aj (ap aa al (kw (y.tdiv x)) rfl rfl) ?_
 exact cC rfl (am (au (dU rfl rfl)))
theorem Lh {y x:Int} (hy:Rg y) (hx:Rg x):Spec Tryz.prog 31 (aI [.v (.int .i64 11), .v (.int .i64 y), .v (.int .i64 x)] []) (aC (.v (.int .i64 (eK .lt y x))) []):=by
 refine Spec.ofN Tryz.func31 rfl Tryz.ntmps31 rfl ?_
 refine go 37 ?_
 refine aj (ap aa al (kL (decide (y < x))) rfl rfl) ?_
 exact cC rfl (am (au (dU rfl rfl)))
theorem KZ {y x:Int} (hy:Rg y) (hx:Rg x):Spec Tryz.prog 31 (aI [.v (.int .i64 12), .v (.int .i64 y), .v (.int .i64 x)] []) (aC (.v (.int .i64 (eK .le y x))) []):=by
 refine Spec.ofN Tryz.func31 rfl Tryz.ntmps31 rfl ?_
 refine go 42 ?_
 refine aj (ap aa al (kL (decide (y≤x))) rfl rfl) ?_
 exact cC rfl (am (au (dU rfl rfl)))
theorem KP {y x:Int} (hy:Rg y) (hx:Rg x):Spec Tryz.prog 31 (aI [.v (.int .i64 13), .v (.int .i64 y), .v (.int .i64 x)] []) (aC (.v (.int .i64 (eK .eq y x))) []):=by
 refine Spec.ofN Tryz.func31 rfl Tryz.ntmps31 rfl ?_
 refine go 42 ?_
 refine aj (ba _ _ rfl rfl rfl) (aj (ap aa al (kL (decide (y=x))) rfl rfl) ?_)
 exact cC rfl (am (au (dU rfl rfl)))
theorem gf {o:Opc} {y x:Int} (hy:Rg y) (hx:Rg x) (ho:o= .add∨o= .sub∨o= .mul∨o= .div∨o= .lt∨o= .le∨o= .eq):Spec Tryz.prog 31 (aI [.v (.int .i64 (o.num:Int)), .v (.int .i64 y), .v (.int .i64 x)] []) (aC (.v (.int .i64 (eK o y x))) []):=by
 rcases ho with rfl | rfl | rfl | rfl | rfl | rfl | rfl
 ·exact HW hy hx
 ·exact Id hy hx
 ·exact IF hy hx
 ·by_cases h0:x=0
  ·rw [show eK .div y x=0 from if_pos h0];exact GW hy hx h0
  rw [show eK .div y x=lf (y.tdiv x) from if_neg h0];exact Ha hy hx h0
 ·exact Lh hy hx
 ·exact KZ hy hx
 exact KP hy hx
theorem Ag (l:List Int) (i:Nat) (k:Int) (hk:1≤k∧k≤1000) (hi:i < l.length) (hn:l.length≤4611686018427387904):Spec Tryz.prog 32 (aI [.sl l.length (be l), .v (.int .i64 (i:Int)), .v (.int .i64 k)] []) (aC (.v (.int .i64 (ee l i k))) []):=by
 have htm:=HL (l.getD i 0) k hk.1
 refine Spec.ofN Tryz.func32 rfl Tryz.ntmps32 rfl ?_
 refine go 6 ?_
 refine aj (cZ (r:=false) _ _ rfl rfl (decide_eq_false ab)) ?_
 refine go 4 ?_
 refine aV rfl rfl (ez (r:=false) _ _ rfl rfl (decide_eq_false ab)) ?_
 refine go 7 ?_
 refine aj (aO _ _ aa rfl rfl _ rfl ab (by (simp only [aq,aJ,aM,aq,bN,bo];omega)) (by exact Nat.mul_one _)) ?_
 refine aj (bl _ aa rfl (by exact cI _ _ ab) rfl) ?_
 refine bW rfl (aj (dh _ _ rfl rfl ab rfl) ?_)
 refine bW rfl (aj (eT (r:=(l.getD i 0).tmod k+k) _ _ rfl rfl (bT ab)) ?_)
 refine bW rfl (aj (dh (r:=ee l i k) _ _ rfl rfl ab htm.2.2) ?_)
 exact cC rfl (am (au (dU rfl rfl)))
theorem xd (l:List Int) (i:Nat) (k:Int) (hi:l.length≤i) (hn:i≤4611686018427387904):Spec Tryz.prog 32 (aI [.sl l.length (be l), .v (.int .i64 (i:Int)), .v (.int .i64 k)] []) (aC (.v (.int .i64 (ee l i k))) []):=by
 rw [show ee l i k=0 by unfold ee;rw [List.getD_eq_getElem?_getD,List.getElem?_eq_none hi];simp]
 refine Spec.ofN Tryz.func32 rfl Tryz.ntmps32 rfl ?_
 refine go 6 ?_
 refine aj (cZ (r:=false) _ _ rfl rfl (decide_eq_false ab)) ?_
 refine go 4 ?_
 refine aV rfl rfl (ez (r:=true) _ _ rfl rfl (decide_eq_true ab)) ?_
 refine go 6 ?_
 exact au (dU rfl rfl)
theorem vu (l:List Int) (i:Nat) (k:Int) (hk:1≤k∧k≤1000) (hi:i≤90000) (hn:l.length≤4611686018427387904):Spec Tryz.prog 32 (aI [.sl l.length (be l), .v (.int .i64 (i:Int)), .v (.int .i64 k)] []) (aC (.v (.int .i64 (ee l i k))) []):=by
 by_cases h:i < l.length
 ·exact Ag l i k hk h hn
 exact xd l i k ab ab
theorem zg (l:List Ac) (hl:l.length≤1000000):Spec Tryz.prog 63 (aI [.sl l.length (oz l)] []) (aC (.v (.int .i64 (bQ l:Int))) []):=by
 refine Spec.ofN Tryz.func63 rfl Tryz.ntmps63 rfl ?_
 refine go 6 ?_
 refine aF fun K3 hK3=> ?_
 refine aG (cC rfl (am (aH ?_)))
 refine aT (α:=Nat) (fun k=> k≤l.length) 20 [(0,_)] [] (fun k=> [(4, .v (.int .i64 (k:Int))),(3, .v (.int .i64 (bQ (l.take k):Int)))]) (fun k=> []) [] [] (fun k=> l.length - k) 0 ?_ (kj [] [] []) ?_
 ·omega
 intro k hk
 have hle:bQ (l.take k)≤k:=Nat.le_trans List.countP_le_length (by rw [List.length_take];omega)
 refine aF fun K5 hK5=> ?_
 refine go 6 ?_
 refine ay rfl (fun hc8=> ?_) (fun hc8=> ?_)
 ·have hs:l.take (k+1)=l.take k++[kt l k]:=by rw [List.take_succ_eq_append_getElem ab];congr 2;simp [kt,show k < l.length by omega]
  have hsn:=fo (l.take k) (kt l k)
  rw [← hs] at hsn
  refine aR (hK5 _ ?_)
  refine aE (aH (aG (gR rfl (bW rfl (aj (aO _ _ aa rfl rfl _ rfl ab (by (simp only [aq,aJ,aM,aq,bN,bo];omega)) ag) ?_)))))
  refine aj (ej _ aa rfl rfl) (aj (bl _ aa rfl (by exact Ee _ _ ab) rfl) ?_)
  refine aj (ba _ _ rfl rfl rfl) (am (ay rfl (fun hc16=> ?_) (fun hc16=> ?_)))
  ·rw [if_pos hc16] at hsn
   refine go 9 ?_
   refine ax (⟨k+1,?_,?_,?_⟩)
   ·omega
   ·refine Le.mkJ [] [] rfl ?_ ?_ trivial trivial ?_
    ·exact ⟨(iS rfl),(bj ag),(bj ab),trivial⟩
    ·exact trivial
    kernel_rfl
   omega
  rw [if_neg hc16] at hsn
  refine go 5 ?_
  refine ax (⟨k+1,?_,?_,?_⟩)
  ·omega
  ·refine Le.mkJ [] [] rfl ?_ ?_ trivial trivial ?_
   ·exact ⟨(iS rfl),(bj ag),(bj ab),trivial⟩
   ·exact trivial
   kernel_rfl
  omega
 obtain rfl:k=l.length:=by omega
 rw [List.take_length]
 refine aW (id (hK3 _ ?_))
 exact aG (bW rfl (cC rfl (am (au (dU rfl rfl)))))
end Go.Proofs.YtmjnackchaahbaaGreat

set_option maxHeartbeats 2000000
namespace Go.Proofs.YtmjnackchaahbaaGreat
open Go.RowKit

theorem sH (xs:List Int) (x:Int) (h1:xs.length≤4611686018427387904):
  Spec Tryz.prog 35 (aI [.sl xs.length (be xs), .v (.int .i64 x)] []) (aC (.v (.bool (decide (x∈xs)))) []):=by
 refine Spec.ofN Tryz.func35 rfl Tryz.ntmps35 rfl ?_
 refine aG (gv rfl (am (aF fun K2 hK2=> ?_)))
 refine aG (cC rfl (am (aH ?_)))
 refine aT (α:=Nat) (fun k=> k≤xs.length∧x∉xs.take k) 18 [(0,_),(1,_)] [] (fun k=> [(5, .v (.int .i64 (k:Int)))]) (fun k=> []) [] [] (fun k=> xs.length - k) 0 ?_ (kj [] [] []) ?_
 ·exact ⟨Nat.zero_le _,by simp⟩
 intro k hk
 obtain ⟨hk,hnt⟩:=hk
 refine aF fun K4 hK4=> ?_
 refine go 6 ?_
 refine ay rfl (fun hc9=> ?_) (fun hc9=> ?_)
 ·have hkx:k < xs.length:=by omega
  have hgk:xs.getD k 0=xs[k]:=by rw [List.getD_eq_getElem?_getD,List.getElem?_eq_getElem hkx];rfl
  refine aR (hK4 _ ?_)
  refine aE (aH (aG (gR rfl (bW rfl (aj (aO _ _ aa rfl rfl _ rfl ab (by (simp only [aq,aJ,aM,aq,bN,bo];omega)) (by exact Nat.mul_one _)) ?_)))))
  refine aj (bl _ aa rfl (by exact cI _ _ ab) rfl) ?_
  refine bW rfl (aj (ba _ _ rfl rfl rfl) (am (ay rfl (fun hc17=> ?_) (fun hc17=> ?_))))
  ·refine aG (gv rfl (am (au (rE rfl rfl ?_))))
   rw [hgk] at hc17
   exact decide_eq_true (hc17 ▸ List.getElem_mem hkx)
  refine go 5 ?_
  refine ax (⟨k+1,?_,?_,?_⟩)
  ·rw [hgk] at hc17
   refine ⟨by omega,?_⟩
   rw [List.take_succ_eq_append_getElem hkx,List.mem_append,List.mem_singleton]
   exact fun h=> h.elim hnt fun e=> hc17 (by rw [e])
  ·exact kj [] [] []
  omega
 have hall:x∉xs:=by rwa [List.take_of_length_le ab] at hnt
 refine aW (id (hK2 _ ?_))
 refine aG (gv rfl (am (au (rE rfl rfl ?_))))
 exact decide_eq_false hall
def lI (l:List Int) (x:Int):List Int:=if x∈l then l else l.takeWhile (fun y=> decide (y < x))++[x]++l.dropWhile (fun y=> decide (y < x))
theorem CQ: ∀ (l:List Int) (x:Int) (k:Nat),(∀ j,j < k→l.getD j 0 < x)→k≤l.length→(k < l.length→ ¬ l.getD k 0 < x)→l.takeWhile (fun y=> decide (y < x))=l.take k∧l.dropWhile (fun y=> decide (y < x))=l.drop k
 | [],x,k,_,hk,_=> by simp
 | a::l,x,0,_,_,h=> by
  have: ¬ a < x:=by simpa using h (by simp)
  simp [List.takeWhile_cons,List.dropWhile_cons,this]
 | a::l,x,k+1,h,hk,h2=> by
  have ha:a < x:=by simpa using h 0 ab
  obtain ⟨h3,h4⟩:=CQ l x k (fun j hj=> by simpa using h (j+1) ab) (by simpa using hk) (fun h5=> by simpa using h2 (by simpa using h5))
  simp [List.takeWhile_cons,List.dropWhile_cons,ha,h3,h4]
theorem AF (l:List Int) (x:Int) (hl:l.length≤1000000):
  Spec Tryz.prog 61 (aI [.sl l.length (be l), .v (.int .i64 x)] []) (aC (.sl (lI l x).length (be (lI l x))) []):=by
 have hh:=sH l x ab
 unfold lI
 by_cases hx:x∈l
 ·rw [if_pos hx]
  rw [decide_eq_true hx] at hh
  refine Spec.ofN Tryz.func61 rfl Tryz.ntmps61 rfl ?_
  refine aG (aj (aX _ eh) (am (aE (aG (gR rfl (bW rfl (aj (ap aa al (hh) rfl rfl) ?_)))))))
  refine go 6 ?_
  exact au (pO rfl rfl)
 rw [if_neg hx]
 rw [decide_eq_false hx] at hh
 refine Spec.ofN Tryz.func61 rfl Tryz.ntmps61 rfl ?_
 refine aG (aj (aX _ eh) (am (aE (aG (gR rfl (bW rfl (aj (ap aa al (hh) rfl rfl) ?_)))))))
 refine am (cK rfl rfl (cE (aG (aj (qn (5,0) _ 3 1 rfl rfl) ?_))))
 refine am (aG (cC rfl (am (aF fun K6 hK6=> ?_))))
 refine aH ?_
 refine aT (α:=Nat) (fun k=> k≤l.length∧ ∀ j,j < k→l.getD j 0 < x) 41 [(0,_),(1,_)] [] (fun k=> [(6, .v (.int .i64 (k:Int))),(5, .ref (5,0) 0 (l.take k).length)]) (fun k=> [((5,0), .row 3 1 (be (l.take k)))]) [] [] (fun k=> l.length - k) 0 ?_ (kj [2] [] []) ?_
 ·exact ⟨Nat.zero_le _,fun j hj=> absurd hj (Nat.not_lt_zero _)⟩
 intro k hk
 obtain ⟨hk,hkj⟩:=hk
 have hlt:(l.take k).length=k:=by rw [List.length_take];omega
 refine aF fun K7 hK7=> ?_
 refine aF fun K8 hK8=> ?_
 refine go 6 ?_
 refine cA (fun hg15=> ?_) (fun hg15=> ?_)
 ·refine go 2 ?_
  refine aV rfl rfl (aO _ _ aa rfl rfl _ rfl ab (by (simp only [aq,aJ,aM,aq,bN,bo];omega)) (by exact Nat.mul_one _)) ?_
  refine aV rfl rfl (bl _ aa rfl (by exact cI _ _ ab) rfl) ?_
  refine go 3 ?_
  refine ax (hK8 _ ?_)
  refine ay rfl (fun hc22=> ?_) (fun hc22=> ?_)
  ·have hkl:k < l.length:=by omega
   have hs:l.take (k+1)=l.take k++[l.getD k 0]:=by rw [List.take_succ_eq_append_getElem hkl,List.getD_eq_getElem?_getD,List.getElem?_eq_getElem hkl];rfl
   have hl1:(l.take (k+1)).length=(l.take k).length+1:=by rw [hs];simp
   refine aR (hK7 _ ?_)
   refine go 5 ?_
   refine aj (aO _ _ aa rfl rfl _ rfl ab (by (simp only [aq,aJ,aM,aq,bN,bo];omega)) (by exact Nat.mul_one _)) ?_
   refine aj (bl _ aa rfl (by exact cI _ _ ab) rfl) ?_
   refine go 1 ?_
   refine aj (bI (29,0) _ _ aa rfl rfl (by simp) (.sl rfl) ab rfl ((ie _ _).trans (congrArg be hs.symm)) hl1.symm) ?_
   refine eu rfl (am ?_)
   refine az (σ':=an 41 [(0,_),(1,_),(5,_),(6,_)] [((29,0),_)] [] []) kp ?_
   refine go 4 ?_
   refine ax (⟨k+1,?_,?_,?_⟩)
   ·exact ⟨by omega,fun j hj=> (Nat.lt_or_ge j k).elim (fun h=> hkj j h) fun h=> (show j=k by omega) ▸ hc22⟩
   ·refine Le.mkJ [((5,0),(29,0))] [] rfl ?_ ?_ trivial trivial ?_
    ·exact ⟨(by repeat' (exact Lv.sl)),(by repeat' (exact Lv.v)),(bj ag),(cf rfl ag),trivial⟩
    ·exact ⟨(cL rfl rfl rfl ag),trivial⟩
    kernel_rfl
   omega
  obtain ⟨ht1,ht2⟩:=CQ l x k hkj hk fun _=> by omega
  refine aW (id (hK6 _ ?_))
  refine go 4 ?_
  refine aj (bI (35,0) _ _ aa rfl rfl (by simp) (.sl rfl) ab rfl (ie (l.take k) x) (show (l.take k).length+1=(l.take k++[x]).length by simp)) ?_
  refine eu rfl (am (aE ?_))
  refine az (σ':=an 41 [(0,_),(5,_),(6,_)] [((35,0),_)] [] []) kp ?_
  refine aD (iE rfl (gR rfl (bW rfl (aj (fW _ _ _ aa rfl k l.length (.lit rfl rfl) .dflt ab (Nat.le_refl _) (show _=be (l.drop k) by simp [be,List.take_of_length_le]) (show l.length - k=(l.drop k).length by simp)) ?_))))
  refine aj (bI (40,0) _ _ aa rfl rfl (by simp) (.sl (by simp)) (by simp;omega) rfl (show _=be (l.take k++[x]++l.drop k) by simp [be]) (show _=(l.take k++[x]++l.drop k).length by simp;omega)) ?_
  refine eu rfl (am (au ?_))
  rw [ht1,ht2]
  exact cg (.inr rfl) rfl (.tmp mW) (Le.out [] [(40,0)] (dH rfl rfl (by simp) rfl) rfl rfl rfl tr trivial)
 obtain ⟨ht1,ht2⟩:=CQ l x k hkj hk fun h=> absurd h ab
 refine go 7 ?_
 refine ax (hK8 _ ?_)
 refine cK rfl rfl (aW (id (hK6 _ ?_)))
 refine go 4 ?_
 refine aj (bI (35,0) _ _ aa rfl rfl (by simp) (.sl rfl) ab rfl (ie (l.take k) x) (show (l.take k).length+1=(l.take k++[x]).length by simp)) ?_
 refine eu rfl (am (aE ?_))
 refine az (σ':=an 41 [(0,_),(5,_),(6,_)] [((35,0),_)] [] []) kp ?_
 refine aD (iE rfl (gR rfl (bW rfl (aj (fW _ _ _ aa rfl k l.length (.lit rfl rfl) .dflt ab (Nat.le_refl _) (show _=be (l.drop k) by simp [be,List.take_of_length_le]) (show l.length - k=(l.drop k).length by simp)) ?_))))
 refine aj (bI (40,0) _ _ aa rfl rfl (by simp) (.sl (by simp)) (by simp;omega) rfl (show _=be (l.take k++[x]++l.drop k) by simp [be]) (show _=(l.take k++[x]++l.drop k).length by simp;omega)) ?_
 refine eu rfl (am (au ?_))
 rw [ht1,ht2]
 exact cg (.inr rfl) rfl (.tmp mW) (Le.out [] [(40,0)] (dH rfl rfl (by simp) rfl) rfl rfl rfl tr trivial)
end Go.Proofs.YtmjnackchaahbaaGreat
