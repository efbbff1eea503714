/- part 17 -/
import Derived.Test.YtmjnackchaahbaaGreatNvZ16
set_option linter.unusedSimpArgs false
set_option linter.unusedVariables false
set_option maxHeartbeats 2000000
namespace Go.Proofs.YtmjnackchaahbaaGreat
open Go.RowKit

abbrev Hy (a:Na) (s:Ns):Cz:=⟨1,(hN a s:Int),s.counts.getD (hN a s) 0⟩
abbrev Jp (a:Ac):Prop:=1≤a.k∧a.k≤7
theorem He {K:Cx} {x:et} {s:Ms} (h: ∀ a∈s.acts,Jp a): ∀ a∈(bS K x s).acts,Jp a:=by
 have k (j b c d e:Int) (hj:1≤j∧j≤7): ∀ a∈s.acts++[(⟨j,b,c,d,e⟩:Ac)],Jp a:=fun a ha=> by
  rcases List.mem_append.1 ha with ha | ha
  ·exact h a ha
  rw [List.mem_singleton.1 ha];exact hj
 unfold bS
 cases x.op <;> first | exact h | exact k _ _ _ _ _ ⟨by decide,by decide⟩ | (simp only;split <;> first | exact h | exact k _ _ _ _ _ ⟨by decide,by decide⟩)
theorem DD (p:Pg) (h:Nat) (names vars ans:List Int): ∀ a∈(fT p h names vars ans).acts,Jp a:=by
 unfold fT
 split
 ·exact fun a ha=> by simp at ha
 exact jb (I:=fun s=> ∀ a∈s.acts,Jp a) (fun s h _=> He h) 500 _ fun a ha=> by simp [cQ] at ha
section
variable {P Q:Pg} {tp tq:Int} {i:Nat} {s:Ns} {drift:Int} {a:Na}
theorem Hl (X:Pg) (tm:Int) (s:Ns) (hs:HdOk X tm s) (h:Nat) (hh:h < 40) (drift tick:Int) (names ans:List Int) (me:names.length=9) (hn: ∀ i,Rg (names.getD i 0)) (h3:Rg (aT s.clock drift tick)) (hdr:0≤drift∧drift≤1000) (t:Tl) (ht1:t.c1=1) (ht2:t.c2=(h:Int)) (ht3:t.c3=s.counts.getD h 0)
  (hlk:0 < drift→tg t 2 0 (drift+1) (tick % (drift+1))) (hld: ∀ (i:Nat) (k:Int),i≤100000→2≤k→k≤4→tg t 1 (i:Int) k (el ans i k))
  (hal:ans.length≤1000) (hraw:Spec Tryz.prog 111 (aI [.sl t.na t.A, .agg [.v (.int .i64 1), .v (.int .i64 (h:Int)), .v (.int .i64 (s.counts.getD h 0))]] []) (aA (.sl ans.length (ba ans)) [])) (R:Ms) (hR:R=iq s X h 1 3 drift tick names ans):
  Spec Tryz.prog 80 (aI [ii s,fY X, .v (.int .i64 (h:Int)), .v (.int .i64 1), .v (.int .i64 3), .v (.int .i64 drift), .agg [.v (.int .i64 (names.getD 0 0)), .v (.int .i64 (names.getD 1 0)), .v (.int .i64 (names.getD 2 0)), .v (.int .i64 (names.getD 3 0)), .v (.int .i64 (names.getD 4 0)), .v (.int .i64 (names.getD 5 0)), .v (.int .i64 (names.getD 6 0)), .v (.int .i64 (names.getD 7 0)), .v (.int .i64 (names.getD 8 0))], .sl t.na t.A] [])
   (aA (wx (cJ s X h 1 3 drift tick names ans).1 (cJ s X h 1 3 drift tick names ans).2 ⟨1,(h:Int),s.counts.getD h 0⟩ R (fC drift tick R.asked ans).length (wz t (fC drift tick R.asked ans))) []):=by
 obtain ⟨hsm,hin⟩:=hs.sm
 have hpn:=hs.pg.nv
 obtain ⟨v1,v2⟩:=hs.ns.dk.view
 have hvl:=hs.ns.vl
 have hiv:(s.dk.view++s.vol).length=X.d+X.v:=by rw [List.length_append,v1,hvl]
 have hir: ∀ v∈s.dk.view++s.vol,Rg v:=fun v hv=> (List.mem_append.1 hv).elim (v2 v) (hs.ns.vr v)
 have rV:=oD hn (cY (n:=1) ab) (cY (n:=3) ab) h3
 obtain ⟨a1,a2,a3⟩:=pw X h (dt names 1 3 (aT s.clock drift tick)) (s.dk.view++s.vol) ans
 obtain ⟨iv,_,_⟩:=pN hs.pg (h:=h) (names:=dt names 1 3 (aT s.clock drift tick)) (vars:=s.dk.view++s.vol) (ans:=ans) rV hiv hir
 have hRv:R.vars.length=X.d+X.v:=by rw [hR];show (mh _ _ _ _ _).vars.length=_;rw [a2];exact iv.vl
 have hRa:R.acts.length≤500:=by rw [hR];exact ye _ _ _ _ _
 have hRk:R.asked.length≤500:=by rw [hR];show (mh _ _ _ _ _).asked.length≤_;rw [a3];exact DG _ _ _ _ _
 have hak: ∀ i,i < R.asked.length→2≤R.asked.getD i 0∧R.asked.getD i 0≤4:=fun i hi=> by
  have hm:R.asked.getD i 0∈R.asked:=by rw [List.getD_eq_getElem?_getD,List.getElem?_eq_getElem hi];exact List.getElem_mem _
  have hm2:R.asked.getD i 0∈(fT X h (dt names 1 3 (aT s.clock drift tick)) (s.dk.view++s.vol) ans).asked:=by rw [← a3];rw [hR] at hm ⊢;exact hm
  exact iv.ar _ hm2
 have hac: ∀ a∈R.acts,wR tm a∧Rg a.b∧Jp a:=fun a ha=> by
  rw [hR] at ha
  have ha:a∈(fT X h (dt names 1 3 (aT s.clock drift tick)) (s.dk.view++s.vol) ans).acts:=a1 ▸ ha
  exact ⟨qh hs.tc _ _ _ _ a ha,(iv.ac a ha).1.2.1,DD _ _ _ _ _ a ha⟩
 have hq: ∀ i,i < R.acts.length→ ∀ (na:Nat) (A:List PV),pm ⟨1,(h:Int),s.counts.getD h 0⟩ R na A (co s h (aT s.clock drift tick) X R i).1 (co s h (aT s.clock drift tick) X R i).2 (mm R.acts i) (co s h (aT s.clock drift tick) X R (i+1)).1 (co s h (aT s.clock drift tick) X R (i+1)).2:=fun i hi na A=> by
  obtain ⟨h1,h2,h3,h4,h5⟩:=ti (h:=h) (ck:=aT s.clock drift tick) (P:=X) (R:=R) (TmC.rg hs.tc) (fun a ha=> ⟨(hac a ha).1,(hac a ha).2.1⟩) hs.tl hs.ns.dk i ab
  rw [pR s h _ X R hi]
  have hp:=h2.pn
  refine EP ⟨1,(h:Int),s.counts.getD h 0⟩ R na A _ _ _ (hac _ (tK hi)).2.2 ⟨by rw [h2.len];omega,by omega,by rw [h3,List.length_drop];omega,?_⟩ (fun w hw=> ?_) ab ab
  ·rcases h1 with h1 | h1 <;> rw [h1] <;> simp
  obtain ⟨b1,b2,_⟩:=h2.pr w hw
  exact ⟨b1,by rw [h2.len];exact b2⟩
 obtain ⟨g0,g1,g2,g3,g4,g5,g6,g7,g8⟩:=qk me 1 3 (aT s.clock drift tick)
 have hrun:=HL X hs.pg hs.cl h hh (dt names 1 3 (aT s.clock drift tick)) (s.dk.view++s.vol) ans rV hiv hir ab R hR
 rw [g0,g1,g2,g3,g4,g5,g6,g7,g8] at hrun
 rw [← pa,← hR,kS,← mC]
 exact sH s hsm hin hs.ns.ct X h hh 1 3 drift tick names t ans hdr ht1 ht2 ht3 hlk hld hs.cb hs.ck hraw R hrun ab ab hRa hRk hak hq
theorem AR (hP:lj P tp) (hQ:lj Q tq) (hi:i≤1000) (hs:Sq P Q i s) (hsm:fJ s) (hup:s.up=false) (hdr:0≤drift∧drift≤3) (hw:yk a) (h5:a.draws.length≤500):
  Spec Tryz.prog 44 (aI [ii s,fY P,fY Q, .v (.int .i64 drift),vz a] []) (aA (wx (cg P Q drift a s).1 (cg P Q drift a s).2 (Hy a s) (Aw P Q drift a s) (dM P Q drift a s).length (wz (ft s a (hN a s)) (dM P Q drift a s))) []):=by
 obtain ⟨⟨m,hdk⟩,_,_⟩:=hs.dn hup
 have hin:eX s.dk:=fun w hw=> by
  obtain ⟨b1,b2,_⟩:=hdk.pr w hw
  have:=hdk.len
  exact ⟨b1,by omega⟩
 have hck:=hs.ck
 have hep:=hs.ep
 have hcb: ∀ k, -1000000≤s.counts.getD k 0∧s.counts.getD k 0≤1000000:=fun k=> by have:=hs.ct k;omega
 have htk:=kZ (clock:=s.clock) (tick:=a.tick) hdr
 have e1:cg P Q drift a s=mJ s (bP P Q s) (fV s) 1 3 drift a.tick a.draws:=by unfold cg;rw [if_pos hup]
 have e2:dM P Q drift a s=fC drift a.tick (fw (cH s (bP P Q s) (fV s)) (bP P Q s) 0 1 3 drift a.tick (List.replicate 9 0) a.draws).asked a.draws:=by unfold dM;rw [if_pos hup]
 have e3:Aw P Q drift a s=iq (cH s (bP P Q s) (fV s)) (bP P Q s) 0 1 3 drift a.tick (List.replicate 9 0) a.draws:=if_pos hup
 have e4:hN a s=0:=if_pos hup
 have hdl:=hw.dl
 have hnt: ¬ s.up=true:=by rw [hup];exact Bool.false_ne_true
 obtain ⟨X,hX⟩: ∃ X,X=bP P Q s:=⟨_,rfl⟩
 obtain ⟨v,hv⟩: ∃ v,v=fV s:=⟨_,rfl⟩
 have hX1:s.epoch % 2=1→X=Q∧v=1:=fun he=> ⟨by rw [hX];unfold bP;rw [if_neg hnt,if_pos he],hv.trans (if_pos he)⟩
 have hX2: ¬ s.epoch % 2=1→X=P∧v=0:=fun he=> ⟨by rw [hX];unfold bP;rw [if_neg hnt,if_neg he],hv.trans (if_neg he)⟩
 obtain ⟨tm,hXo⟩: ∃ tm,lj X tm:=by
  by_cases he:s.epoch % 2=1
  ·exact ⟨tq,(hX1 he).1 ▸ hQ⟩
  exact ⟨tp,(hX2 he).1 ▸ hP⟩
 rw [e3,e2,← kE,e1,Hy,e4,← hX,← hv]
 have hb:=pW hXo.pg hXo.cl hXo.tc hdk hs.cl hcb ab v
 have hr:=ve 1 ((0:Nat):Int) (s.counts.getD 0 0) a.tick a.draws a.keeps hw.d0 h5 hw.kl
 have hH:=Hl X tm (cH s X v) hb 0 ab drift a.tick (List.replicate 9 0) a.draws (by simp) Jb (by unfold Rg;show -2147483647≤aT s.clock drift a.tick∧aT s.clock drift a.tick≤2147483647;omega) ab (ft s a 0) rfl rfl rfl (fun h=> xK s 0 hw ab) (fun j k _ h2 _=> pB s 0 hw j ab) hdl hr _ rfl
 have hpn:=hXo.pg.nv
 exact HH s hup hep.1 P Q X v hX1 hX2 drift a hw.dl hw.kl _ _ _ _ _ (Ec s hsm hin X v 1 3 drift _ _ ab ab _ _ _ _ _ hH)
theorem AU (hP:lj P tp) (hQ:lj Q tq) (hi:i≤1000) (hs:Sq P Q i s) (hup:s.up=true) (htl:pE (if s.ver=1 then tq else tp) s.timers) (hdr:0≤drift∧drift≤3) (hw:yk a) (h5:a.draws.length≤500) (hcr:a.crash=false):
  Spec Tryz.prog 44 (aI [ii s,fY P,fY Q, .v (.int .i64 drift),vz a] []) (aA (wx (cg P Q drift a s).1 (cg P Q drift a s).2 (Hy a s) (Aw P Q drift a s) (dM P Q drift a s).length (wz (ft s a (hN a s)) (dM P Q drift a s))) []):=by
 obtain ⟨hns,hver⟩:=hs.up hup
 have hck:=hs.ck
 have hcb: ∀ k, -1000000≤s.counts.getD k 0∧s.counts.getD k 0≤1000000:=fun k=> by have:=hs.ct k;omega
 have htk:=kZ (clock:=s.clock) (tick:=a.tick) hdr
 have hnf: ¬ s.up=false:=by rw [hup];exact fun h=> by cases h
 have hnc: ¬ a.crash=true:=by rw [hcr];exact Bool.false_ne_true
 have hah:=hw.ok.h
 have hdl:=hw.dl
 have e1:cg P Q drift a s=cJ { s with wait:=a.wait } (bP P Q s) a.h 1 3 drift a.tick a.names a.draws:=by unfold cg;rw [if_neg hnf,if_neg hnc]
 have e2:dM P Q drift a s=fC drift a.tick (fw { s with wait:=a.wait } (bP P Q s) a.h 1 3 drift a.tick a.names a.draws).asked a.draws:=by unfold dM;rw [if_neg hnf,if_neg hnc]
 have e3:Aw P Q drift a s=iq { s with wait:=a.wait } (bP P Q s) a.h 1 3 drift a.tick a.names a.draws:=(if_neg hnf).trans (if_neg hnc)
 have e4:hN a s=a.h:=(if_neg hnf).trans (if_neg hnc)
 obtain ⟨X,hX⟩: ∃ X,X=bP P Q s:=⟨_,rfl⟩
 have hX1:s.ver=1→X=Q:=fun he=> by rw [hX];unfold bP;rw [if_pos hup,if_pos he]
 have hX2: ¬ s.ver=1→X=P:=fun he=> by rw [hX];unfold bP;rw [if_pos hup,if_neg he]
 obtain ⟨tm,hXo,hN',htm⟩: ∃ tm,lj X tm∧ud X s∧pE tm s.timers:=by
  by_cases he:s.ver=1
  ·rw [if_pos he] at hns htl;rw [hX1 he];exact ⟨tq,hQ,hns,htl⟩
  rw [if_neg he] at hns htl;rw [hX2 he];exact ⟨tp,hP,hns,htl⟩
 rw [e3,e2,← kE,e1,Hy,e4,← hX]
 have hr:=ve 1 (a.h:Int) (s.counts.getD a.h 0) a.tick a.draws a.keeps hw.d0 h5 hw.kl
 have hH:=Hl X tm { s with wait:=a.wait } ⟨hXo.pg,hXo.cl,hXo.tc,⟨hN'.dk,hN'.vl,hN'.vr,hN'.tm,hN'.ct⟩,htm,hcb,by show -1000000≤s.clock∧s.clock≤1000000;omega⟩ a.h hah drift a.tick a.names a.draws hw.nl hw.ok.nm (by show Rg (aT s.clock drift a.tick);unfold Rg;omega) ab (ft s a a.h) rfl rfl rfl (fun h=> xK s a.h hw ab) (fun j k _ h2 _=> pB s a.h hw j ab) hdl hr _ rfl
 exact IN s hup P Q X hX1 hX2 drift a hcr ab hw.dl hw.kl _ _ _ _ _ hH
theorem Cs (hi:i≤1000) (hs:Sq P Q i s) (hsm:fJ s) (hup:s.up=true) (hw:yk a) (hcr:a.crash=true):
  Spec Tryz.prog 44 (aI [ii s,fY P,fY Q, .v (.int .i64 drift),vz a] []) (aA (wx (cg P Q drift a s).1 (cg P Q drift a s).2 (Hy a s) (Aw P Q drift a s) (dM P Q drift a s).length (wz (ft s a (hN a s)) (dM P Q drift a s))) []):=by
 obtain ⟨hns,hver⟩:=hs.up hup
 have hep:=hs.ep
 have hcb:=hs.ct 40
 have hnf: ¬ s.up=false:=by rw [hup];exact fun h=> by cases h
 have e1:cg P Q drift a s=(fQ s (fh s.dk.pend.length a.keeps),{}):=by unfold cg;rw [if_neg hnf,if_pos hcr]
 have e2:dM P Q drift a s=kx s.dk.pend.length a.keeps:=by unfold dM;rw [if_neg hnf,if_pos hcr]
 have e3:Aw P Q drift a s=Pq:=(if_neg hnf).trans (if_pos hcr)
 have e4:hN a s=40:=(if_neg hnf).trans (if_pos hcr)
 have hin:eX s.dk:=fun w hw=> by
  obtain ⟨b1,b2,_⟩:=hns.dk.pr w hw
  have:=hns.dk.len
  exact ⟨b1,by omega⟩
 have h:=BG s hsm hin hs.cl ab ab 1 (ft s a 40) rfl rfl rfl a.keeps (fun j _=> xt s 40 hw j)
 rw [e3,e2,e1,Hy,e4,su,show (kx s.dk.pend.length a.keeps).length=s.dk.pend.length by simp [kx]]
 exact Ja s hup P Q drift a hcr hw.dl hw.kl _ _ _ _ _ h
theorem EG (hP:lj P tp) (hQ:lj Q tq) (hd:0≤drift∧drift≤3) (hi:i≤1000) (hs:SqT P Q tp tq i s) (hw:yk a) (h5:a.draws.length≤500):
  Spec Tryz.prog 44 (aI [ii s,fY P,fY Q, .v (.int .i64 drift),vz a] []) (aA (wx (cg P Q drift a s).1 (cg P Q drift a s).2 (Hy a s) (Aw P Q drift a s) (dM P Q drift a s).length (wz (ft s a (hN a s)) (dM P Q drift a s))) []):=by
 by_cases hu:s.up=true
 ·by_cases hc:a.crash=true
  ·exact Cs hi hs.sq hs.sm hu hw hc
  exact AU hP hQ hi hs.sq hu (hs.tl hu) hd hw h5 (by simpa using hc)
 exact AR hP hQ hi hs.sq hs.sm (by simpa using hu) hd hw h5
end
end Go.Proofs.YtmjnackchaahbaaGreat

set_option maxHeartbeats 2000000
namespace Go.Proofs.YtmjnackchaahbaaGreat
open Go.RowKit

theorem Iv:Spec Tryz.prog 42 (aI [] []) (aA (ii {}) []):=by
 refine Spec.ofN Tryz.func42 rfl Tryz.ntmps42 rfl ?_
 refine go 7 ?_
 exact au (uo [])
end Go.Proofs.YtmjnackchaahbaaGreat

set_option maxHeartbeats 2000000
namespace Go.Proofs.YtmjnackchaahbaaGreat
open Go.RowKit

theorem xd (d:Dk) (h1:d.cells.length≤1000000) (h2:d.pend.length≤1000000) (ho:eX d) (b:List Bool) (hb:b.length≤1000000):
  Spec Tryz.prog 55 (aI [mf d, .sl b.length (xo b)] []) (aA (.agg [.ref (0,8) 0 d.cells.length, .v (.slice none 0 0)]) [((0,8), .row 3 1 (ba (d.crash b).cells))]):=by
 have hd:=gH d h1 h2
 have hlz:(d.crash b).cells.length=d.cells.length:=dq _ _
 refine Spec.ofN Tryz.func55 rfl Tryz.ntmps55 rfl ?_
 refine go 6 ?_
 refine aj (bM aa [((0,8),(9,0)),((1,8),(9,1))] ar (hd.toI) trivial tr ae) ?_
 refine go 3 ?_
 refine aF fun K3 hK3=> ?_
 refine aE ?_
 refine aB (Le.frzB (ys:=eT d.pend) (5,0) 1 rfl rfl rfl rfl (by rw [List.drop_zero,oe]) (by rw [bC];omega)) ?_
 refine go 7 ?_
 refine aS (α:=Nat) (fun k=> k≤d.pend.length) 36 [(1,_),(4,_),(5,_),(11,_),(12,_)] [((4,0),_),((5,0),_)] (fun k=> [(13, .v (.int .i64 (k:Int)))]) (fun k=> [((9,0), .row 3 1 (ba (ma d.cells (kept (d.pend.take k) b))))]) [] [] (fun k=> d.pend.length - k) 0 ?_ (kj [0,0,2] [] []) ?_
 ·omega
 intro k hk
 refine go 3 ?_
 refine aF fun K6 hK6=> ?_
 refine ax rfl (fun hc14=> ?_) (fun hc14=> ?_)
 ·have hia:=kV d.pend k ab
  have hm:d.pend.getD k (0,0)∈d.pend:=by rw [List.getD_eq_getElem?_getD,List.getElem?_eq_getElem ab];exact List.getElem_mem _
  have q0:=ho _ hm
  have q1:=oK d.pend b k ab
  have q2:=ui d.pend b k
  have ql:(ma d.cells (kept (d.pend.take k) b)).length=d.cells.length:=dq _ _
  have hap:=iw (ma d.cells (kept (d.pend.take k) b)) [d.pend.getD k (0,0)] (by simp) ab (fun x hx=> by rw [List.mem_singleton.1 hx,ql];exact q0)
  have hap:Spec Tryz.prog 89 (aL [.ref (0,9) 0 d.cells.length, .sl 1 (eT [d.pend.getD k (0,0)])] [((0,9), .row 3 1 (ba (ma d.cells (kept (d.pend.take k) b))))]) (aO (.tup []) [((0,9), .row 3 1 (ba (ma (ma d.cells (kept (d.pend.take k) b)) [d.pend.getD k (0,0)])))] [(0,9)] [(0,9)]):=by rw [ql] at hap;exact hap
  rw [← nn] at hap
  generalize d.pend.getD k (0,0)=w at hia q0 q1 hap
  refine aR (hK6 _ ?_)
  refine aE (aH (aG (bV rfl ?_)))
  refine aj (aQ _ _ aa rfl rfl _ rfl ab (by (simp only [aq,aJ,aM,aq,bC,dQ,bT,eU,cX];omega)) ag) ?_
  refine aj (bs _ aa rfl (by exact hia) rfl) ?_
  refine go 10 ?_
  refine cj (fun hg22=> ?_) (fun hg22=> ?_)
  ·refine go 2 ?_
   refine aZ rfl rfl (aQ _ _ aa rfl rfl _ rfl ab (by (simp only [aq,aJ,aM,aq,bC,dQ,bT,eU,cX];omega)) (by exact Nat.mul_one _)) ?_
   refine aZ rfl rfl (bl _ aa rfl (by exact xL _ _ ab) rfl) ?_
   refine go 2 ?_
   refine ax rfl (fun hc27=> ?_) (fun hc27=> ?_)
   ·refine aB (σ':=an 36 [(1,_),(4,_),(5,_),(7,_),(11,_),(12,_),(13,_)] [((4,0),_),((5,0),_),((9,0),_),((7,0),_)] [] []) kp ?_
    refine go 4 ?_
    refine aj (gK _ _ aa rfl ag (by simp <;> rfl) ah (by exact (rfl:_=some (eT [w])))) ?_
    refine aj (bM aa [((0,9),(9,0))] ar (hap) ob tr ae) ?_
    refine go 4 ?_
    refine ay (⟨k+1,?_,?_,?_⟩)
    ·omega
    ·refine Le.mkJ [] [] rfl ?_ ?_ trivial trivial ?_
     ·exact ⟨(iS rfl),(iP rfl),(iP rfl),(iS rfl),(iV rfl),(aN ag),trivial⟩
     ·exact ⟨(bN rfl rfl rfl),(bN rfl rfl rfl),(cD rfl rfl rfl (by (rw [q1 ab,if_pos hc27]))),trivial⟩
     kernel_rfl
    omega
   refine kH ?_
   refine aB (σ':=an 36 [(1,_),(4,_),(5,_),(11,_),(12,_),(13,_)] [((4,0),_),((5,0),_),((9,0),_)] [] []) kp ?_
   refine go 3 ?_
   refine ay (⟨k+1,?_,?_,?_⟩)
   ·omega
   ·refine Le.mkJ [] [] rfl ?_ ?_ trivial trivial ?_
    ·exact ⟨(iS rfl),(iP rfl),(iP rfl),(iS rfl),(iV rfl),(aN ag),trivial⟩
    ·exact ⟨(bN rfl rfl rfl),(bN rfl rfl rfl),(cD rfl rfl rfl (by (rw [q1 ab,if_neg (by rw [hc27];decide),List.append_nil]))),trivial⟩
    kernel_rfl
   omega
  refine go 8 ?_
  refine aB (σ':=an 36 [(1,_),(4,_),(5,_),(11,_),(12,_),(13,_)] [((4,0),_),((5,0),_),((9,0),_)] [] []) kp ?_
  refine go 3 ?_
  refine ay (⟨k+1,?_,?_,?_⟩)
  ·omega
  ·refine Le.mkJ [] [] rfl ?_ ?_ trivial trivial ?_
   ·exact ⟨(iS rfl),(iP rfl),(iP rfl),(iS rfl),(iV rfl),(aN ag),trivial⟩
   ·exact ⟨(bN rfl rfl rfl),(bN rfl rfl rfl),(cD rfl rfl rfl (by (rw [q2 ab]))),trivial⟩
   kernel_rfl
  omega
 refine aW (id (hK3 _ ?_))
 refine go 8 ?_
 exact au (cq (.inr rfl) rfl (.cellA aa rfl rfl rfl) (Le.out [((0,8),(9,0))] [] (.agg rfl lz) rfl rfl rfl trivial ⟨⟨rfl,⟨_,rfl, .rowE (by unfold Dk.crash;rw [List.take_of_length_le ab])⟩,rfl⟩,trivial⟩))
theorem zV (d:Dk) (h1:d.cells.length≤1000000) (h2:d.pend.length≤1000000) (c v:Int) (hc:c < 0):
  Spec Tryz.prog 183 (aI [mf d, .v (.int .i64 c), .v (.int .i64 v)] []) (aA (.agg [.ref (0,8) 0 d.cells.length, .ref (1,8) 0 d.pend.length]) [((0,8), .row 3 1 (ba d.cells)),((1,8), .row 126 2 (eT d.pend))]):=by
 have hd:=gH d h1 h2
 refine Spec.ofN Tryz.func183 rfl Tryz.ntmps183 rfl ?_
 refine go 6 ?_
 refine aj (bM aa [((0,8),(9,0)),((1,8),(9,1))] ar (hd.toI) trivial tr ae) ?_
 refine go 6 ?_
 refine aj (cT (r:=true) _ _ rfl rfl (decide_eq_true ab)) ?_
 refine go 9 ?_
 refine aE ?_
 refine aB (σ':=an 45 [(6,_),(7,_)] [((6,0),_),((9,0),_),((9,1),_),((7,0),_)] [] []) kp ?_
 refine go 4 ?_
 exact au (uo [((0,8),(9,0)),((1,8),(9,1))])
theorem zQ (d:Dk) (h1:d.cells.length≤1000000) (h2:d.pend.length≤1000000) (c v:Int) (hc:0≤c) (hb:(d.cells.length:Int)≤c):
  Spec Tryz.prog 183 (aI [mf d, .v (.int .i64 c), .v (.int .i64 v)] []) (aA (.agg [.ref (0,8) 0 d.cells.length, .ref (1,8) 0 d.pend.length]) [((0,8), .row 3 1 (ba d.cells)),((1,8), .row 126 2 (eT d.pend))]):=by
 have hd:=gH d h1 h2
 refine Spec.ofN Tryz.func183 rfl Tryz.ntmps183 rfl ?_
 refine go 6 ?_
 refine aj (bM aa [((0,8),(9,0)),((1,8),(9,1))] ar (hd.toI) trivial tr ae) ?_
 refine go 6 ?_
 refine aj (cT (r:=false) _ _ rfl rfl (decide_eq_false ab)) ?_
 refine go 5 ?_
 refine aZ rfl rfl (eg (r:=true) _ _ rfl rfl (decide_eq_true ab)) ?_
 refine go 3 ?_
 refine aE ?_
 refine aB (σ':=an 45 [(6,_),(7,_)] [((6,0),_),((9,0),_),((9,1),_),((7,0),_)] [] []) kp ?_
 refine go 4 ?_
 exact au (uo [((0,8),(9,0)),((1,8),(9,1))])
theorem wp (d:Dk) (h1:d.cells.length≤1000000) (h2:d.pend.length≤1000000) (c v:Int) (hc:0≤c) (hb:c < (d.cells.length:Int)) (hr:d.pend.length+1≤4):
  Spec Tryz.prog 183 (aI [mf d, .v (.int .i64 c), .v (.int .i64 v)] []) (aA (.agg [.ref (0,8) 0 d.cells.length, .ref (1,8) 0 (d.pend.length+1)]) [((0,8), .row 3 1 (ba d.cells)),((1,8), .row 126 2 (eT (d.pend++[(c,v)])))]):=by
 have hd:=gH d h1 h2
 have hl:(d.pend++[(c,v)]).length=d.pend.length+1:=by simp
 refine Spec.ofN Tryz.func183 rfl Tryz.ntmps183 rfl ?_
 refine go 6 ?_
 refine aj (bM aa [((0,8),(9,0)),((1,8),(9,1))] ar (hd.toI) trivial tr ae) ?_
 refine go 6 ?_
 refine aj (cT (r:=false) _ _ rfl rfl (decide_eq_false ab)) ?_
 refine go 5 ?_
 refine aZ rfl rfl (eg (r:=false) _ _ rfl rfl (decide_eq_false ab)) ?_
 refine go 4 ?_
 refine aE ?_
 refine aB (σ':=an 45 [(1,_),(2,_),(6,_),(7,_)] [((6,0),_),((9,0),_),((9,1),_),((7,0),_)] [] []) kp ?_
 refine go 7 ?_
 refine aj (bG (m:=1) (news:=vW (c,v)) (26,0) _ _ aa rfl rfl (by rw [bC]) (.sl rfl) ab rfl (mU _ (c,v)) rfl) ?_
 refine go 10 ?_
 refine cP rfl (decide_eq_false ab) ?_
 refine go 5 ?_
 exact au (uo [((0,8),(9,0)),((1,8),(26,0))])
theorem wE (d:Dk) (h1:d.cells.length≤1000000) (h2:d.pend.length≤1000000) (c v:Int) (ho:eX d) (hc:0≤c) (hb:c < (d.cells.length:Int)) (hr:4 < d.pend.length+1):
  Spec Tryz.prog 183 (aI [mf d, .v (.int .i64 c), .v (.int .i64 v)] []) (aA (.agg [.ref (0,8) 0 d.cells.length, .ref (1,8) 2 d.pend.length]) [((0,8), .row 3 1 (ba (ma d.cells ((d.pend++[(c,v)]).take 1)))),((1,8), .row 126 2 (eT (d.pend++[(c,v)])))]):=by
 have hd:=gH d h1 h2
 have hl:(d.pend++[(c,v)]).length=d.pend.length+1:=by simp
 have hia:=kV (d.pend++[(c,v)]) 0 ab
 have ht:(d.pend++[(c,v)]).take 1=[(d.pend++[(c,v)]).getD 0 (0,0)]:=by
  cases d.pend with
  | nil=> rfl
  | cons x l=> rfl
 have hw:0≤((d.pend++[(c,v)]).getD 0 (0,0)).1∧((d.pend++[(c,v)]).getD 0 (0,0)).1 < (d.cells.length:Int):=by
  have hm:(d.pend++[(c,v)]).getD 0 (0,0)∈d.pend++[(c,v)]:=by rw [List.getD_eq_getElem?_getD,List.getElem?_eq_getElem ab];exact List.getElem_mem _
  rcases List.mem_append.1 hm with hm | hm
  ·exact ho _ hm
  rw [List.mem_singleton.1 hm];exact ⟨hc,hb⟩
 have hl2:((d.pend++[(c,v)]).drop 1).length=d.pend.length+1 - 1:=by rw [List.length_drop,hl]
 have hl3:(ma d.cells ((d.pend++[(c,v)]).take 1)).length=d.cells.length:=dq _ _
 have hsl:((eT (d.pend++[(c,v)])).drop (1*2)).take ((d.pend.length+1 - 1)*2)=eT ((d.pend++[(c,v)]).drop 1):=by
  have e:(eT (d.pend++[(c,v)])).drop 2=eT ((d.pend++[(c,v)]).drop 1):=by
   cases d.pend with
   | nil=> rfl
   | cons x l=> rfl
  rw [Nat.one_mul,e,← hl2,oe]
 generalize (d.pend++[(c,v)]).getD 0 (0,0)=w at hia ht hw
 have hap:=iw d.cells [w] (by simp) h1 (fun x hx=> by rw [List.mem_singleton.1 hx];exact hw)
 have hap:Spec Tryz.prog 89 (aL [.ref (0,9) 0 d.cells.length, .sl 1 (eT [w])] [((0,9), .row 3 1 (ba d.cells))]) (aO (.tup []) [((0,9), .row 3 1 (ba (ma d.cells [w])))] [(0,9)] [(0,9)]):=hap
 refine Spec.ofN Tryz.func183 rfl Tryz.ntmps183 rfl ?_
 refine go 6 ?_
 refine aj (bM aa [((0,8),(9,0)),((1,8),(9,1))] ar (hd.toI) trivial tr ae) ?_
 refine go 6 ?_
 refine aj (cT (r:=false) _ _ rfl rfl (decide_eq_false ab)) ?_
 refine go 5 ?_
 refine aZ rfl rfl (eg (r:=false) _ _ rfl rfl (decide_eq_false ab)) ?_
 refine go 4 ?_
 refine aE ?_
 refine aB (σ':=an 45 [(1,_),(2,_),(6,_),(7,_)] [((6,0),_),((9,0),_),((9,1),_),((7,0),_)] [] []) kp ?_
 refine go 7 ?_
 refine aj (bG (m:=1) (news:=vW (c,v)) (26,0) _ _ aa rfl rfl (by rw [bC]) (.sl rfl) ab rfl (mU _ (c,v)) rfl) ?_
 refine go 3 ?_
 refine aF fun K6 hK6=> ?_
 refine go 6 ?_
 refine fX rfl (decide_eq_true ab) ?_
 refine aF fun K8 hK8=> ?_
 refine aB (σ':=an 45 [(6,_),(7,_)] [((6,0),_),((9,0),_),((7,0),_),((26,0),_)] [] []) kp ?_
 refine dA 8 [(9,0)] ?_
 refine go 8 ?_
 refine aC (_,[]) (fun τ=> bq _ _ aa rfl rfl rfl 0 rfl ab rfl) ?_
 refine go 1 ?_
 refine aC (_,[]) (fun τ=> xZ _ aa rfl rfl (by exact hia) rfl) ?_
 refine go 1 ?_
 refine aC (_,[]) (fun τ=> gK _ _ aa rfl ag (by simp <;> rfl) ah (by exact (rfl:_=some (eT [w])))) ?_
 refine go 1 ?_
 refine aC (_,[((9,0),_)]) (fun τ=> (bu aa [((0,9),(9,0))] ar (hap) ob tr tr rfl rfl ae ae)) ?_
 refine go 1 ?_
 refine ci ⟨rfl,?_⟩
 refine ay (hK8 _ ?_)
 refine go 3 ?_
 refine aj (ej _ _ _ aa rfl rfl 1 (d.pend.length+1) (.lit rfl rfl) .dflt ab ab rfl (Nat.add_sub_cancel _ 1)) ?_
 refine go 2 ?_
 refine ay (hK6 _ ?_)
 refine go 4 ?_
 exact au (cq (.inr rfl) rfl (.cellA aa rfl rfl rfl) (Le.out [((0,8),(9,0)),((1,8),(26,0))] [] (.agg rfl lz) rfl rfl rfl trivial ⟨⟨rfl,⟨_,rfl, .rowE (by rw [ht])⟩,rfl⟩,⟨rfl,⟨_,rfl, .rowE rfl⟩,rfl⟩,trivial⟩))
theorem wH (d:Dk) (h1:d.cells.length≤1000000) (h2:d.pend.length≤1000000) (ho:eX d) (c v:Int): ∃ (l:List (Int×Int)) (j:Nat),l.drop j=(d.write c v).pend∧j+(d.write c v).pend.length=l.length∧
  Spec Tryz.prog 183 (aI [mf d, .v (.int .i64 c), .v (.int .i64 v)] []) (aA (.agg [.ref (0,8) 0 (d.write c v).cells.length, .ref (1,8) (j*2) (d.write c v).pend.length]) [((0,8), .row 3 1 (ba (d.write c v).cells)),((1,8), .row 126 2 (eT l))]):=by
 by_cases h0:c < 0
 ·have e:d.write c v=d:=by unfold Dk.write;rw [if_pos (.inl h0)]
  rw [e]
  exact ⟨d.pend,0,rfl,Nat.zero_add _,zV d h1 h2 c v h0⟩
 by_cases hb:(d.cells.length:Int)≤c
 ·have e:d.write c v=d:=by unfold Dk.write;rw [if_pos (.inr hb)]
  rw [e]
  exact ⟨d.pend,0,rfl,Nat.zero_add _,zQ d h1 h2 c v ab hb⟩
 have hl:(d.pend++[(c,v)]).length=d.pend.length+1:=by simp
 by_cases hr:4 < d.pend.length+1
 ·have e:d.write c v=⟨ma d.cells ((d.pend++[(c,v)]).take 1),(d.pend++[(c,v)]).drop 1⟩:=by unfold Dk.write;rw [if_neg ab,if_pos hr]
  rw [e]
  have h:=wE d h1 h2 c v ho ab ab hr
  have hl3:(ma d.cells ((d.pend++[(c,v)]).take 1)).length=d.cells.length:=dq _ _
  refine ⟨d.pend++[(c,v)],1,rfl,by show 1+((d.pend++[(c,v)]).drop 1).length=_;rw [List.length_drop];omega,?_⟩
  show Spec _ _ _ (aA (.agg [.ref (0,8) 0 (ma d.cells ((d.pend++[(c,v)]).take 1)).length, .ref (1,8) (1*2) ((d.pend++[(c,v)]).drop 1).length]) _)
  rw [hl3,List.length_drop,hl,Nat.add_sub_cancel]
  exact h
 have e:d.write c v=⟨d.cells,d.pend++[(c,v)]⟩:=by unfold Dk.write;rw [if_neg ab,if_neg hr]
 rw [e]
 have h:=wp d h1 h2 c v ab ab ab
 rw [← hl] at h
 exact ⟨d.pend++[(c,v)],0,rfl,Nat.zero_add _,h⟩
theorem vK (l:List (Int×Int)) (h0:0 < l.length) (h:l.length≤1000000):Spec Tryz.prog 118 (aI [.sl l.length (eT l)] []) (aA (.ref (0,8) 0 l.length) [((0,8), .row 126 2 (eT l))]):=by
 refine Spec.ofN Tryz.func118 rfl Tryz.ntmps118 rfl ?_
 refine aG (aj (aX _ ea) (am (aE (aG (gT rfl (aj (tF _ _ Tryz.underlying78 (.inl ⟨_,rfl⟩) h0 rfl) ?_))))))
 refine am (cP rfl rfl (cO (aG (aj (tL _ aa rfl) (gT rfl (aj (xx (7,0) _ _ aa rfl h0 (.sl (by rw [bC])) ab rfl) ?_))))))
 exact dZ rfl (am (au (lQ [((0,8),(7,0))])))
theorem uQ:Spec Tryz.prog 118 (aI [.sl 0 (eT [])] []) (aA (.ref (0,8) 0 0) [((0,8), .row 126 2 (eT []))]):=by
 refine Spec.ofN Tryz.func118 rfl Tryz.ntmps118 rfl ?_
 refine aG (aj (aX _ ea) (am (aE (aG (gT rfl (Ds (sR _ _ Tryz.underlying78 rfl rfl) ?_))))))
 rintro _ ⟨b4,rfl⟩
 refine am (ax rfl (fun hc4=> ?_) (fun hc4=> ?_))
 ·exact aG (aj (aX _ ea) (am (au (va (Le.nilS 2 (60,0) 126 2 rfl rfl) (lQ [((0,8),(60,0))])))))
 refine cO (aG (aj (gp (5,0) _ _ aa rfl ag (by (simp <;> rfl)) ah rfl rfl) ?_))
 refine gT rfl (aj (bG (7,0) _ _ aa rfl rfl rfl (.sl rfl) ab rfl rfl rfl) ?_)
 exact dZ rfl (am (au (lQ [((0,8),(7,0))])))
theorem xl (l:List (Int×Int)) (h:l.length≤1000000):Spec Tryz.prog 118 (aI [.sl l.length (eT l)] []) (aA (.ref (0,8) 0 l.length) [((0,8), .row 126 2 (eT l))]):=by
 by_cases h0:0 < l.length
 ·exact vK l h0 h
 obtain rfl:l=[]:=List.eq_nil_of_length_eq_zero ab
 exact uQ
abbrev Hx (s:Ns) (j:Nat) (ce pe vo tm:az):List AV:=Au s.up s.ver s.epoch s.clock (.ref ce 0 s.dk.cells.length) (.ref pe (j*2) s.dk.pend.length) (.ref vo 0 s.vol.length) (.ref tm 0 s.timers.length) (aP s) s.wait
abbrev Jy (s:Ns) (l:List (Int×Int)) (ce pe vo tm:az):List (az×Cells):=[(ce, .row 3 1 (ba s.dk.cells)),(pe, .row 126 2 (eT l)),(vo, .row 3 1 (ba s.vol)),(tm, .row 3 1 (ba s.timers))]
set_option maxHeartbeats 1000000 in
theorem JF (s:Ns) (hs:fJ s):Spec Tryz.prog 86 (aI [ii s] []) (aA (.agg (Hx s 0 (0,8) (1,8) (2,8) (3,8))) (Jy s s.dk.pend (0,8) (1,8) (2,8) (3,8))):=by
 have f1:=gI s.vol (by have:=hs.v;omega)
 have f2:=gI s.timers (by have:=hs.t;omega)
 have f3:=gI s.dk.cells (by have:=hs.c;omega)
 have f4:=xl s.dk.pend (by have:=hs.p;omega)
 refine Spec.ofN Tryz.func86 rfl Tryz.ntmps86 rfl ?_
 refine go 7 ?_
 refine aE (dA 14 [(7,0),(11,0),(16,0)] ?_)
 refine go 6 ?_
 refine aC (_,[((7,0),_)]) (fun τ=> (iE rfl aa [((0,8),(7,0))] ar (f1.toI) trivial tr tr rfl rfl ae ae)) ?_
 refine go 7 ?_
 refine aC (_,[((11,0),_)]) (fun τ=> (iE rfl aa [((0,8),(11,0))] ar (f2.toI) trivial tr tr rfl rfl ae ae)) ?_
 refine go 9 ?_
 refine aC (_,[((16,0),_)]) (fun τ=> (iE rfl aa [((0,8),(16,0))] ar (f3.toI) trivial tr tr rfl rfl ae ae)) ?_
 refine go 11 ?_
 refine aF fun K4 hK4=> ?_
 refine aB (σ':=an 28 [(1,_),(2,_)] [((1,0),_),((2,0),_),((7,0),_),((11,0),_),((16,0),_)] [] []) kp ?_
 refine go 4 ?_
 refine aj (bu aa [((0,8),(24,0))] ar (f4.toI) trivial tr tr rfl rfl ae ae) ?_
 refine go 3 ?_
 refine ay (hK4 _ ?_)
 refine go 4 ?_
 exact au (uo [((0,8),(16,0)),((1,8),(24,0)),((2,8),(7,0)),((3,8),(11,0))])
theorem yy (s:Ns) (hs:fJ s) (ho:eX s.dk):Spec Tryz.prog 47 (aI [ii s] []) (aA (.ref (0,8) 0 (s.dk.view++s.vol).length) [((0,8), .row 3 1 (ba (s.dk.view++s.vol)))]):=by
 have hc:=hs.c
 have hp:=hs.p
 have hv:=hs.v
 have hw:=si s.dk ab ab ho
 have hl:s.dk.view.length=s.dk.cells.length:=dq _ _
 have hl2:s.dk.cells.length+s.vol.length=(s.dk.view++s.vol).length:=by rw [List.length_append,hl]
 refine Spec.ofN Tryz.func47 rfl Tryz.ntmps47 rfl ?_
 refine aG (aj (dX (1,0) _ rfl rfl) (aj (aX _ ea) (am (aE (lK 6 [3,4,5,6,7,8] [(5,0),(5,0),(8,0)] ae ae rfl (rfl:_=[_,_,_,_,_,_]) (rfl:_=[_]) ?_)))))
 refine bn (_,[]) (fun τ=> dT _ aa rfl rfl rfl) ?_
 refine bo (rfl:_=[_]) ?_
 refine bn (_,[]) (fun τ=> gd _ aa rfl rfl rfl rfl) ?_
 refine bo (rfl:_=[_,_]) ?_
 refine bn (_,[((5,0),_)]) (fun τ=> (bu aa [((0,8),(5,0))] ar (hw.toI) trivial tr tr rfl rfl ae ae)) ?_
 refine bo (rfl:_=[_,_,_]) ?_
 refine bn (_,[]) (fun τ=> dT _ aa rfl rfl rfl) ?_
 refine bo (rfl:_=[_,_,_,_]) ?_
 refine bn (_,[]) (fun τ=> bK _ aa rfl rfl xm) ?_
 refine bo (rfl:_=[_,_,_,_,_]) ?_
 refine bn (_,[((5,0), .gone),((8,0),_)]) (fun τ=> qR (8,0) _ _ aa rfl rfl (by rw [aq,hl,Nat.mul_one]) (.sl (by rw [aq,Nat.mul_one])) ab rfl rfl rfl (lM _ _) hl2) ?_
 refine bo (rfl:_=[_,_,_,_,_,_]) ?_
 refine jM ⟨⟨rfl,by kernel_rfl,by kernel_rfl⟩,?_⟩
 exact dZ rfl (am (au (lQ [((0,8),(8,0))])))
end Go.Proofs.YtmjnackchaahbaaGreat

set_option maxHeartbeats 2000000
namespace Go.Proofs.YtmjnackchaahbaaGreat
open Go.RowKit

theorem qb (l:List Int): ∀ p∈ba l,∃ x,p=PV.v x:=fun p hp=> by
 obtain ⟨x,_,rfl⟩:=List.mem_map.1 hp
 exact ⟨_,rfl⟩
theorem DN (l:List (Int×Int)): ∀ p∈eT l,∃ x,p=PV.v x:=fun p hp=> by
 obtain ⟨x,_,h⟩:=List.mem_flatMap.1 hp
 simp only [vW,List.mem_cons,List.not_mem_nil,or_false] at h
 rcases h with rfl | rfl <;> exact ⟨_,rfl⟩
theorem ko {l:List (Int×Int)} {j:Nat} {p:List (Int×Int)} (h:l.drop j=p):((eT l).drop (j*2)).take (p.length*2)=eT p:=by
 subst h
 rw [show (eT l).drop (j*2)=eT (l.drop j) from lS vW 2 (fun _=> rfl) l j]
 exact oe _
abbrev JA (c:Cz) (o:Ot) (s:Ns) (r:Nr) (l:List (Int×Int)) (tm se fa ce pe vo:az):List (az×Cells):=Tr c o s r tm se fa++[(ce, .row 3 1 (ba s.dk.cells)),(pe, .row 126 2 (eT l)),(vo, .row 3 1 (ba s.vol))]
abbrev mZ (c:Cz) (o:Ot) (s:Ns) (r:Nr) (l:List (Int×Int)) (j:Nat) (a:Ac) (s':Ns) (r':Nr) (l':List (Int×Int)) (j':Nat):Prop:=Spec Tryz.prog 114 (aL [.agg (Hx s j (7,9) (8,9) (9,9) (1,9)), .agg [.v (.int .i64 a.k), .v (.int .i64 a.a), .v (.int .i64 a.b), .v (.int .i64 a.c), .v (.int .i64 a.d)], .ptr (2,9) 0] (JA c o s r l (1,9) (3,9) (4,9) (7,9) (8,9) (9,9)))
 (aO (.agg (Hx s' j' (7,8) (8,8) (9,9) (1,8))) (JA c o s' r' l' (1,8) (3,8) (4,8) (7,8) (8,8) (9,9)) [(1,8),(2,9),(3,8),(4,8),(5,9),(7,8),(8,8),(9,9)] [(2,9),(5,9),(9,9)])
def lY (d:Dk) (l:List (Int×Int)) (j:Nat):Prop:=l.drop j=d.pend∧j+d.pend.length=l.length
section
variable (c:Cz) (o:Ot) (s:Ns) (r:Nr) (l:List (Int×Int)) (j:Nat) (x y z w:Int)
theorem wc (hs:fJ s) (ho:eX s.dk) (hp:lY s.dk l j): ∃ (l':List (Int×Int)) (j':Nat),lY (s.dk.write x y) l' j'∧mZ c o s r l j ⟨1,x,y,z,w⟩ { s with dk:=s.dk.write x y } r l' j':=by
 have hc:=hs.c
 have hq:=hs.p
 obtain ⟨l',j',h1,h2,hw⟩:=wH s.dk ab ab ho x y
 refine ⟨l',j',⟨h1,h2⟩,?_⟩
 have hw:Spec Tryz.prog 183 (aI [mf s.dk, .v (.int .i64 x), .v (.int .i64 y)] []) (aA (.agg [.ref (22,0) 0 (s.dk.write x y).cells.length, .ref (22,1) (j'*2) (s.dk.write x y).pend.length]) [((22,0), .row 3 1 (ba (s.dk.write x y).cells)),((22,1), .row 126 2 (eT l'))]):=hw.mono (Le.outO (I:=[]) (Pn:=[]) [((22,0),(0,8)),((22,1),(1,8))] [] (.agg rfl lz) rfl rfl rfl trivial ob)
 refine Spec.ofNI Tryz.func114 rfl Tryz.ntmps114 rfl ?_
 refine go 23 ?_
 refine aj (pT aa (Le.refl _) (show ey _ (fun _=> true) _ [mf s.dk, .v (.int .i64 x), .v (.int .i64 y)] from cM (.agg rfl (ai (dI rfl rfl (by rw [aq,Nat.mul_one]) rfl) (ai (.frz rfl rfl (ko hp.1) (by rw [bC,← hp.2];omega)) aK))) (cM Lv.v (cM Lv.v bR))) (hw) rfl rfl (fun _=> rfl) (tE (by intro q hq;simp only [List.mem_cons,List.not_mem_nil,or_false] at hq;rcases hq with rfl | rfl <;> rfl)) rfl (qg (by intro q hq;simp only [List.mem_cons,List.not_mem_nil,or_false] at hq;rcases hq with rfl | rfl <;> first | exact qb _ | exact DN _))) ?_
 refine go 3 ?_
 refine aE ?_
 refine aB (σ':=an 134 [(3,_),(6,_)] [((1,9),_),((9,9),_),((3,0),_),((6,0),_),((22,0),_),((22,1),_),((2,9),_),((3,9),_),((4,9),_),((5,9),_),((7,9),_),((8,9),_)] [(1,9),(2,9),(3,9),(4,9),(5,9),(7,9),(8,9),(9,9)] [(2,9),(5,9),(9,9)]) kp ?_
 refine go 4 ?_
 exact au (jr [((1,8),(1,9)),((3,8),(3,9)),((4,8),(4,9)),((7,8),(22,0)),((8,8),(22,1))])
theorem zB (hs:fJ s) (ho:eX s.dk) (hp:lY s.dk l j):mZ c o s r l j ⟨2,x,y,z,w⟩ { s with dk:=s.dk.sync } r [] 0:=by
 have hc:=hs.c
 have hq:=hs.p
 have hl:s.dk.sync.cells.length=s.dk.cells.length:=dq _ _
 have hw:=rI s.dk ab ab ho
 rw [← hl] at hw
 have hw:Spec Tryz.prog 115 (aI [mf s.dk] []) (aA (.agg [.ref (28,0) 0 s.dk.sync.cells.length, .v (.slice none 0 0)]) [((28,0), .row 3 1 (ba s.dk.sync.cells))]):=hw.mono (Le.outO (I:=[]) (Pn:=[]) [((28,0),(0,8))] [] (.agg rfl lz) rfl rfl rfl trivial ob)
 refine Spec.ofNI Tryz.func114 rfl Tryz.ntmps114 rfl ?_
 refine go 24 ?_
 refine aj (pT aa (Le.refl _) (show ey _ (fun _=> true) _ [mf s.dk] from cM (.agg rfl (ai (dI rfl rfl (by rw [aq,Nat.mul_one]) rfl) (ai (.frz rfl rfl (ko hp.1) (by rw [bC,← hp.2];omega)) aK))) bR) (hw) rfl rfl (fun _=> rfl) (tE (by intro q hq;simp only [List.mem_cons,List.not_mem_nil,or_false] at hq;rcases hq with rfl <;> rfl)) rfl (qg (by intro q hq;simp only [List.mem_cons,List.not_mem_nil,or_false] at hq;rcases hq with rfl;exact qb _))) ?_
 refine go 7 ?_
 exact au (va (Le.nilB (6,0) 5 (60,0) 126 2 rfl rfl rfl) (jr [((1,8),(1,9)),((3,8),(3,9)),((4,8),(4,9)),((7,8),(28,0)),((8,8),(60,0))]))
theorem vh (ht:s.timers=[]):mZ c o s r l j ⟨4,x,y,z,w⟩ { s with timers:=[x] } r l j:=by
 have hb:=kr s.timers x (by rw [ht];exact Nat.zero_le 1)
 have hl4:s.timers.length*1=(ba s.timers).length:=by rw [aq,Nat.mul_one]
 have hi:Spec Tryz.prog 185 (aL [.ref (0,9) 0 s.timers.length, .v (.int .i64 0), .sl 1 (ba [x])] [((0,9), .row 3 1 (ba s.timers))]) (aO (.ref (0,8) 0 1) [((0,8), .row 3 1 (ba [x]))] [(0,8)] []):=by rw [ht];exact sI x
 have hn0:s.timers.length=0:=by rw [ht];rfl
 rw [show (if 0 < s.timers.length∧s.timers.getD 0 0 < x then (1:Int) else 0)=0 by rw [if_neg ab],show decide (0 < s.timers.length∧s.timers.getD 0 0=x)=false from decide_eq_false ab] at hb
 refine Spec.ofNI Tryz.func114 rfl Tryz.ntmps114 rfl ?_
 refine go 31 ?_
 refine aj (ox aa (cM (dI rfl rfl hl4 rfl) (cM Lv.v bR)) hb rfl) ?_
 refine go 6 ?_
 refine aE ?_
 refine aB (σ':=an 134 [(3,_),(4,_),(6,_),(7,_),(8,_)] [((1,9),_),((7,9),_),((8,9),_),((9,9),_),((3,0),_),((4,0),_),((6,0),_),((2,9),_),((3,9),_),((4,9),_),((5,9),_)] [(1,9),(2,9),(3,9),(4,9),(5,9),(7,9),(8,9),(9,9)] [(2,9),(5,9),(9,9)]) kp ?_
 refine go 11 ?_
 refine aj (gK _ _ aa rfl ag (by simp <;> rfl) ah (by exact (rfl:_=some (ba [x])))) ?_
 refine bA (Le.incT (48,0) rfl) ?_
 refine aj (aV aa [((0,9),(1,9)),((0,8),(48,0))] ar (hi) ob tr tr rfl ae ae) ?_
 refine go 7 ?_
 exact au (jr [((1,8),(48,0)),((3,8),(3,9)),((4,8),(4,9)),((7,8),(7,9)),((8,8),(8,9))])
theorem uY (ht:s.timers=[x]):mZ c o s r l j ⟨4,x,y,z,w⟩ s r l j:=by
 have hb:=kr s.timers x (by rw [ht];exact Nat.le_refl 1)
 have hl4:s.timers.length*1=(ba s.timers).length:=by rw [aq,Nat.mul_one]
 rw [show decide (0 < s.timers.length∧s.timers.getD 0 0=x)=true from decide_eq_true (by rw [ht];exact ⟨Nat.zero_lt_one,rfl⟩)] at hb
 refine Spec.ofNI Tryz.func114 rfl Tryz.ntmps114 rfl ?_
 refine go 31 ?_
 refine aj (ox aa (cM (dI rfl rfl hl4 rfl) (cM Lv.v bR)) hb rfl) ?_
 refine go 6 ?_
 refine aE ?_
 refine aB (σ':=an 134 [(3,_),(4,_),(6,_),(7,_),(8,_)] [((1,9),_),((7,9),_),((8,9),_),((9,9),_),((3,0),_),((4,0),_),((6,0),_),((2,9),_),((3,9),_),((4,9),_),((5,9),_)] [(1,9),(2,9),(3,9),(4,9),(5,9),(7,9),(8,9),(9,9)] [(2,9),(5,9),(9,9)]) kp ?_
 refine go 10 ?_
 exact au (jr [((1,8),(1,9)),((3,8),(3,9)),((4,8),(4,9)),((7,8),(7,9)),((8,8),(8,9))])
theorem tY (hl:s.timers.length≤1) (hx: ¬ (0 < s.timers.length∧s.timers.getD 0 0=x)):mZ c o s r l j ⟨5,x,y,z,w⟩ s r l j:=by
 have hb:=kr s.timers x hl
 have hl4:s.timers.length*1=(ba s.timers).length:=by rw [aq,Nat.mul_one]
 rw [decide_eq_false hx] at hb
 refine Spec.ofNI Tryz.func114 rfl Tryz.ntmps114 rfl ?_
 refine go 36 ?_
 refine aj (ox aa (cM (dI rfl rfl hl4 rfl) (cM Lv.v bR)) hb rfl) ?_
 refine go 6 ?_
 refine aE ?_
 refine aB (σ':=an 134 [(3,_),(6,_),(9,_),(10,_)] [((1,9),_),((7,9),_),((8,9),_),((9,9),_),((3,0),_),((6,0),_),((2,9),_),((3,9),_),((4,9),_),((5,9),_)] [(1,9),(2,9),(3,9),(4,9),(5,9),(7,9),(8,9),(9,9)] [(2,9),(5,9),(9,9)]) kp ?_
 refine go 9 ?_
 exact au (jr [((1,8),(1,9)),((3,8),(3,9)),((4,8),(4,9)),((7,8),(7,9)),((8,8),(8,9))])
theorem zI (hr:r.sent.length≤1000):mZ c o s r l j ⟨3,x,y,z,w⟩ s { r with sent:=r.sent++[(⟨3,x,y,z,w⟩:Ac)] } l j:=by
 have hl2:=dQ c r.sent
 have hl3:r.sent.length+1=(r.sent++[(⟨3,x,y,z,w⟩:Ac)]).length:=by rw [List.length_append];rfl
 refine Spec.ofNI Tryz.func114 rfl Tryz.ntmps114 rfl ?_
 refine go 36 ?_
 refine aE ?_
 refine aB (σ':=an 134 [(2,_),(3,_),(4,_),(6,_)] [((1,9),_),((2,9),_),((3,9),_),((4,9),_),((5,9),_),((7,9),_),((8,9),_),((9,9),_),((3,0),_),((4,0),_),((6,0),_)] [(1,9),(2,9),(3,9),(4,9),(5,9),(7,9),(8,9),(9,9)] [(2,9),(5,9),(9,9)]) kp ?_
 refine lK 12 [70,71,72,73,74,75,76,77,78,79,11] [(11,0),(11,0)] ae ae rfl (rfl:_=[_,_,_,_,_,_,_,_,_,_,_,_]) (rfl:_=[]) ?_
 refine bn (_,[]) (fun τ=> bZ _ uM) ?_
 refine bo (rfl:_=[_]) ?_
 refine bn (_,[]) (fun τ=> nK _ rfl rfl) ?_
 refine bo (rfl:_=[_,_]) ?_
 refine bn (_,[]) (fun τ=> dT _ aa rfl rfl rfl) ?_
 refine bo (rfl:_=[_,_,_]) ?_
 refine bn (_,[]) (fun τ=> gd _ aa rfl rfl rfl rfl) ?_
 refine bo (rfl:_=[_,_,_,_]) ?_
 refine bn (_,[]) (fun τ=> bZ _ uM) ?_
 refine bo (rfl:_=[_,_,_,_,_]) ?_
 refine bn (_,[]) (fun τ=> nK _ rfl rfl) ?_
 refine bo (rfl:_=[_,_,_,_,_,_]) ?_
 refine bn (_,[]) (fun τ=> dT _ aa rfl rfl rfl) ?_
 refine bo (rfl:_=[_,_,_,_,_,_,_]) ?_
 refine bn (_,[]) (fun τ=> bK _ aa rfl rfl Ax) ?_
 refine bo (rfl:_=[_,_,_,_,_,_,_,_]) ?_
 refine bn (_,[]) (fun τ=> yp _ aa rfl rfl) ?_
 refine bo (rfl:_=[_,_,_,_,_,_,_,_,_]) ?_
 refine bn (_,[]) (fun τ=> gl _ aa rfl (by exact (rfl:_=some [_,_,_,_,_]))) ?_
 refine bo (rfl:_=[_,_,_,_,_,_,_,_,_,_]) ?_
 refine bn (_,[((11,0),_)]) (fun τ=> eB (11,0) aa rfl rfl) ?_
 refine bo (rfl:_=[_,_,_,_,_,_,_,_,_,_,_]) ?_
 refine bn (_,[((11,0),_)]) (fun τ=> dE _ _ aa rfl rfl rfl rfl (Nat.le_of_ble_eq_true rfl) rfl) ?_
 refine bo (rfl:_=[_,_,_,_,_,_,_,_,_,_,_,_]) ?_
 refine jM ⟨⟨rfl,by kernel_rfl,by kernel_rfl⟩,?_⟩
 refine am ?_
 refine aB (σ':=an 134 [(2,_),(3,_),(4,_),(6,_),(11,_)] [((1,9),_),((2,9),_),((3,9),_),((4,9),_),((5,9),_),((7,9),_),((8,9),_),((9,9),_),((3,0),_),((4,0),_),((6,0),_),((11,0),_)] [(1,9),(2,9),(3,9),(4,9),(5,9),(7,9),(8,9),(9,9)] [(2,9),(5,9),(9,9)]) kp ?_
 refine aB (Le.incT (96,0) rfl) ?_
 refine jD 17 [80,81,82,83,84,85,86,87,88,89,90,91,92,93,94,95,96] [(3,9),(96,0)] [[],[],[],[(3,9)],[(3,9)],[],[],[],[],[],[],[],[],[],[(3,9)],[(3,9)],[]] ae ae rfl (bj rfl) (rfl:_=[_,_,_,_,_,_,_,_,_,_,_,_,_,_,_,_,_]) (rfl:_=[_,_,_]) ?_
 refine go 32 ?_
 refine aC (_,[((3,9), .gone),((96,0),_)]) (fun τ=> kA (b:=true) (96,0) _ _ aa rfl (fE rfl (by exact eN) rfl) hl2.symm (.sl rfl) ab rfl rfl rfl (vu c r.sent ⟨3,x,y,z,w⟩) hl3) ?_
 refine go 6 ?_
 refine aE ?_
 refine aB (σ':=an 134 [(3,_),(6,_)] [((1,9),_),((7,9),_),((8,9),_),((9,9),_),((3,0),_),((6,0),_),((2,9),_),((4,9),_),((5,9),_),((96,0),_)] [(1,9),(2,9),(4,9),(5,9),(7,9),(8,9),(9,9),(96,0)] [(2,9),(5,9),(9,9)]) kp ?_
 refine go 4 ?_
 exact au (jr [((1,8),(1,9)),((3,8),(96,0)),((4,8),(4,9)),((7,8),(7,9)),((8,8),(8,9))])
theorem xj (h0:0≤s.wait) (h1:x=s.wait):mZ c o s r l j ⟨6,x,y,z,w⟩ { s with wait:= -1 } { r with repl:=true,value:=y } l j:=by
 refine Spec.ofNI Tryz.func114 rfl Tryz.ntmps114 rfl ?_
 refine go 36 ?_
 refine aE ?_
 refine aB (σ':=an 134 [(2,_),(3,_),(4,_),(6,_),(13,_)] [((1,9),_),((2,9),_),((3,9),_),((4,9),_),((5,9),_),((7,9),_),((8,9),_),((9,9),_),((3,0),_),((4,0),_),((6,0),_)] [(1,9),(2,9),(3,9),(4,9),(5,9),(7,9),(8,9),(9,9)] [(2,9),(5,9),(9,9)]) kp ?_
 refine go 8 ?_
 refine aj (eg (r:=true) _ _ rfl rfl (decide_eq_true ab)) ?_
 refine go 5 ?_
 refine aZ rfl rfl (bb (r:=true) _ _ rfl rfl (by rw [h1];exact beq_self_eq_true _)) ?_
 refine go 3 ?_
 refine aB (σ':=an 134 [(2,_),(3,_),(4,_),(6,_)] [((1,9),_),((2,9),_),((3,9),_),((4,9),_),((5,9),_),((7,9),_),((8,9),_),((9,9),_),((3,0),_),((4,0),_),((6,0),_)] [(1,9),(2,9),(3,9),(4,9),(5,9),(7,9),(8,9),(9,9)] [(2,9),(5,9),(9,9)]) kp ?_
 refine jD 7 [111,112,113,114,115,116] [(2,9)] [[(2,9)],[],[],[],[(2,9)],[(2,9)],[]] ae ae rfl (bj rfl) (rfl:_=[_,_,_,_,_,_,_]) (rfl:_=[_,_,_,_,_]) ?_
 refine go 12 ?_
 refine aC (_,[((2,9),_)]) (fun τ=> dE _ _ aa rfl (fE rfl (by exact eN) rfl) rfl rfl (Nat.le_of_ble_eq_true rfl) rfl) ?_
 refine go 12 ?_
 exact au (jr [((1,8),(1,9)),((3,8),(3,9)),((4,8),(4,9)),((7,8),(7,9)),((8,8),(8,9))])
theorem vC (h0:s.wait < 0):mZ c o s r l j ⟨6,x,y,z,w⟩ s r l j:=by
 refine Spec.ofNI Tryz.func114 rfl Tryz.ntmps114 rfl ?_
 refine go 36 ?_
 refine aE ?_
 refine aB (σ':=an 134 [(2,_),(3,_),(4,_),(6,_),(13,_)] [((1,9),_),((2,9),_),((3,9),_),((4,9),_),((5,9),_),((7,9),_),((8,9),_),((9,9),_),((3,0),_),((4,0),_),((6,0),_)] [(1,9),(2,9),(3,9),(4,9),(5,9),(7,9),(8,9),(9,9)] [(2,9),(5,9),(9,9)]) kp ?_
 refine go 8 ?_
 refine aj (eg (r:=false) _ _ rfl rfl (decide_eq_false ab)) ?_
 refine go 14 ?_
 exact au (jr [((1,8),(1,9)),((3,8),(3,9)),((4,8),(4,9)),((7,8),(7,9)),((8,8),(8,9))])
theorem ub (h0:0≤s.wait) (h1:x≠s.wait):mZ c o s r l j ⟨6,x,y,z,w⟩ s r l j:=by
 refine Spec.ofNI Tryz.func114 rfl Tryz.ntmps114 rfl ?_
 refine go 36 ?_
 refine aE ?_
 refine aB (σ':=an 134 [(2,_),(3,_),(4,_),(6,_),(13,_)] [((1,9),_),((2,9),_),((3,9),_),((4,9),_),((5,9),_),((7,9),_),((8,9),_),((9,9),_),((3,0),_),((4,0),_),((6,0),_)] [(1,9),(2,9),(3,9),(4,9),(5,9),(7,9),(8,9),(9,9)] [(2,9),(5,9),(9,9)]) kp ?_
 refine go 8 ?_
 refine aj (eg (r:=true) _ _ rfl rfl (decide_eq_true ab)) ?_
 refine go 5 ?_
 refine aZ rfl rfl (bb (r:=false) _ _ rfl rfl (beq_eq_false_iff_ne.2 h1)) ?_
 refine go 8 ?_
 exact au (jr [((1,8),(1,9)),((3,8),(3,9)),((4,8),(4,9)),((7,8),(7,9)),((8,8),(8,9))])
theorem yF (hr:r.fails.length≤1000):mZ c o s r l j ⟨7,x,y,z,w⟩ s { r with fails:=r.fails++[x] } l j:=by
 have hl3:r.fails.length+1=(r.fails++[x]).length:=by rw [List.length_append];rfl
 refine Spec.ofNI Tryz.func114 rfl Tryz.ntmps114 rfl ?_
 refine go 36 ?_
 refine aE ?_
 refine aB (σ':=an 134 [(2,_),(3,_),(4,_),(6,_),(13,_)] [((1,9),_),((2,9),_),((3,9),_),((4,9),_),((5,9),_),((7,9),_),((8,9),_),((9,9),_),((3,0),_),((4,0),_),((6,0),_)] [(1,9),(2,9),(3,9),(4,9),(5,9),(7,9),(8,9),(9,9)] [(2,9),(5,9),(9,9)]) kp ?_
 refine go 10 ?_
 refine aB (σ':=an 134 [(2,_),(3,_),(4,_),(6,_)] [((1,9),_),((2,9),_),((3,9),_),((4,9),_),((5,9),_),((7,9),_),((8,9),_),((9,9),_),((3,0),_),((4,0),_),((6,0),_)] [(1,9),(2,9),(3,9),(4,9),(5,9),(7,9),(8,9),(9,9)] [(2,9),(5,9),(9,9)]) kp ?_
 refine aB (Le.incT (130,0) rfl) ?_
 refine jD 9 [122,123,124,125,126,127,128,129,130] [(4,9),(130,0)] [[],[],[],[(4,9)],[(4,9)],[],[(4,9)],[(4,9)],[]] ae ae rfl (bj rfl) (rfl:_=[_,_,_,_,_,_,_,_,_]) (rfl:_=[_,_,_]) ?_
 refine go 16 ?_
 refine aC (_,[((4,9), .gone),((130,0),_)]) (fun τ=> kA (b:=true) (130,0) _ _ aa rfl (fE rfl (by exact eN) rfl) (by rw [aq,Nat.mul_one]) (.sl rfl) ab rfl rfl rfl (lM r.fails [x]) hl3) ?_
 refine go 10 ?_
 exact au (jr [((1,8),(1,9)),((3,8),(3,9)),((4,8),(130,0)),((7,8),(7,9)),((8,8),(8,9))])
end
end Go.Proofs.YtmjnackchaahbaaGreat

set_option maxHeartbeats 2000000
namespace Go.Proofs.YtmjnackchaahbaaGreat
open Go.RowKit

abbrev nA (c:Cz) (R:Ms) (q:Ns×Nr) (l:List (Int×Int)) (j:Nat) (t:Tl) (n:Nat) (L:List PV):St:=aO (.tup [.agg (Hx q.1 j (7,8) (8,8) (9,8) (1,8)), .agg (QU c q.2 (JV R) (3,8) (6,8) (2,8))])
 (SW c R q t n L++[((7,8), .row 3 1 (ba q.1.dk.cells)),((8,8), .row 126 2 (eT l)),((9,8), .row 3 1 (ba q.1.vol))]) [(1,8),(2,8),(3,8),(4,9),(5,8),(6,8),(7,8),(8,8),(9,8)] [(4,9)]
set_option maxHeartbeats 4000000 in
theorem Te (s:Ns) (hs:fJ s) (ho:eX s.dk) (hc:s.counts.length=41) (P:Pg) (h:Nat) (hh:h < 40) (self nodes drift:Int) (nm:List Int) (t:Tl) (n0:Nat) (L0:List PV) (hdr:drift≤0) (hcb: ∀ k, -1000000≤s.counts.getD k 0∧s.counts.getD k 0≤1000000) (hck: -1000000≤s.clock∧s.clock≤1000000)
  (R:Ms) (Q:List PV) (hv:Spec Tryz.prog 59 (aL [fY P, .v (.int .i64 (h:Int)), .agg [.sl (s.dk.view++s.vol).length (ba (s.dk.view++s.vol)), .v (.int .i64 self), .v (.int .i64 nodes), .v (.int .i64 (s.clock+1)), .v (.int .i64 (nm.getD 3 0)), .v (.int .i64 (nm.getD 4 0)), .v (.int .i64 (nm.getD 5 0)), .v (.int .i64 (nm.getD 6 0)), .v (.int .i64 (nm.getD 7 0)), .v (.int .i64 (nm.getD 8 0))],zX (6,9)] (EO t n0 L0 (5,9)))
   (aO (.agg [.sl R.vars.length (ba R.vars), .ref (2,8) 0 R.acts.length, .v (.int .i64 (R.steps:Int)), .v (.bool (!R.fin)), .sl (fz (kQ R.cov)).length (ba (fz (kQ R.cov)))]) (((2,8), .row 57 5 (pt R.acts))::EO t (n0+R.asked.length) (L0++Q) (5,8)) [(2,8),(4,9),(5,8),(6,9)] [(4,9),(6,9)]))
  (hd:P.d≤R.vars.length) (hrv:R.vars.length≤1000) (hra:R.acts.length≤500) (f:Nat→List (Int×Int)×Nat) (hf0:f 0=(s.dk.pend,0))
  (hq: ∀ i,i < R.acts.length→mZ ⟨self,(h:Int),s.counts.getD h 0⟩ (JV R) (co s h (s.clock+1) P R i).1 (co s h (s.clock+1) P R i).2 (f i).1 (f i).2 (mm R.acts i) (co s h (s.clock+1) P R (i+1)).1 (co s h (s.clock+1) P R (i+1)).2 (f (i+1)).1 (f (i+1)).2):
  Spec Tryz.prog 81 (aL [ii s,fY P, .v (.int .i64 (h:Int)), .v (.int .i64 self), .v (.int .i64 nodes), .v (.int .i64 drift),KE nm,oO] (vR t n0 L0 (5,9)))
   (nA ⟨self,(h:Int),s.counts.getD h 0⟩ R (co s h (s.clock+1) P R R.acts.length) (f R.acts.length).1 (f R.acts.length).2 t (n0+R.asked.length) (L0++Q)):=by
 have hcb2:=hcb h
 have hcb2: -1000000≤aP s h∧aP s h≤1000000:=hcb2
 have hce:=pz s h ab (s.counts.getD h 0+1)
 have hal:=bT R.acts
 have hown:Spec Tryz.prog 86 (aI [ii s] []) (aA (.agg (Hx s (f 0).2 (0,8) (1,8) (2,8) (3,8))) (Jy s (f 0).1 (0,8) (1,8) (2,8) (3,8))):=by rw [hf0];exact JF s hs
 have hw0:(f 0).1.drop (f 0).2=s.dk.pend:=by rw [hf0];rfl
 have hw1:(f 0).2*2+s.dk.pend.length*2≤(eT (f 0).1).length:=by rw [bC,hf0];show 0*2+s.dk.pend.length*2≤s.dk.pend.length*2;omega
 have hnv:=Spec.named (46,0) (yy { s with clock:=s.clock+1 } ⟨hs.c,hs.p,hs.v,hs.t⟩ ho)
 have hcl:=mB (R.vars.drop P.d) (by rw [List.length_drop];omega)
 have hds:((ba R.vars).drop (P.d*1)).take ((R.vars.length - P.d)*1)=ba (R.vars.drop P.d):=by
  rw [Nat.mul_one,Nat.mul_one,List.take_of_length_le (by rw [List.length_drop,aq];omega)]
  simp [ba,List.map_drop]
 have hdl:R.vars.length - P.d=(R.vars.drop P.d).length:=by rw [List.length_drop]
 have hvl:(s.dk.view++s.vol).length*1=(ba (s.dk.view++s.vol)).length:=by rw [aq,Nat.mul_one]
 refine Spec.ofNI Tryz.func81 rfl Tryz.ntmps81 rfl ?_
 refine go 10 ?_
 refine aj (bu aa [((0,8),(22,0)),((1,8),(22,1)),((2,8),(22,2)),((3,8),(22,3))] ar (hown.toI) trivial tr tr rfl rfl ae ae) ?_
 refine go 7 ?_
 refine aj (bO _ _ aa rfl rfl rfl h rfl ab (show 8+h*1=8+h from by omega)) ?_
 refine aj (bK _ aa rfl rfl (lX _ _ _ _ _ _ _ _ _ _ h ab)) ?_
 refine go 5 ?_
 refine aE ?_
 refine aB (σ':=an 93 [(2,_),(3,_),(4,_),(5,_),(8,_),(9,_),(14,_),(15,_),(16,_),(17,_),(18,_)] [((4,9),_),((5,9),_),((8,0),_),((9,0),_),((14,0),_),((15,0),_),((16,0),_),((17,0),_),((22,0),_),((22,1),_),((22,2),_),((22,3),_),((18,0),_)] [(4,9),(5,9)] [(4,9)]) kp ?_
 refine go 10 ?_
 refine aj (qj (r:=false) _ _ rfl rfl (decide_eq_false ab)) ?_
 refine go 5 ?_
 refine aj (pT aa (Le.refl _) (show ey _ (fun _=> true) _ [ii { s with clock:=s.clock+1 }] from cM (.agg rfl (xF (ai (dI rfl rfl (by rw [aq,Nat.mul_one]) rfl) (ai (.frz rfl rfl (ko hw0) hw1) (ai (dI rfl rfl (by rw [aq,Nat.mul_one]) rfl) (ai (dI rfl rfl (by rw [aq,Nat.mul_one]) rfl) lz)))))) bR) (hnv) rfl rfl (fun _=> rfl) (tE (by intro q hq;simp only [List.mem_cons,List.not_mem_nil,or_false] at hq;rcases hq with rfl <;> rfl)) rfl (qg (by intro q hq;simp only [List.mem_cons,List.not_mem_nil,or_false] at hq;subst hq;exact qb _))) ?_
 refine go 3 ?_
 refine aE ?_
 refine aB (Le.frzB (ys:=ba (s.dk.view++s.vol)) (14,0) 0 rfl rfl rfl rfl (by rw [List.drop_zero,List.take_of_length_le (by rw [← hvl];exact Nat.le_refl _)]) (by rw [← hvl,Nat.zero_add];exact Nat.le_refl _)) ?_
 refine Gf (14,0) (fun c=> ∃ xs,c=Slot.obj (.box 132 xs)) 11 [48,49,50,51,52,53,54,55,56] [(14,0),(14,0)] ae ae rfl (rfl:_=[_,_,_,_,_,_,_,_,_,_,_]) (rfl:_=[_,_]) (⟨_,rfl⟩) ?_
 refine jj (_,[]) (fun τ hτ=> bZ _ ry) ?_
 refine iH (rfl:_=[_]) ?_
 refine jj (_,[]) (fun τ hτ=> bZ _ ry) ?_
 refine iH (rfl:_=[_,_]) ?_
 refine jj (_,[]) (fun τ hτ=> dT _ aa rfl rfl rfl) ?_
 refine iH (rfl:_=[_,_,_]) ?_
 refine jj (_,[]) (fun τ hτ=> bK _ aa rfl rfl Kf) ?_
 refine iH (rfl:_=[_,_,_,_]) ?_
 refine jj (_,[]) (fun τ hτ=> dT _ aa rfl (by exact hτ.choose_spec) rfl) ?_
 refine iH (rfl:_=[_,_,_,_,_]) ?_
 refine jj (_,[]) (fun τ hτ=> bO _ _ aa rfl (by exact hτ.choose_spec) rfl 0 rfl ab rfl) ?_
 refine iH (rfl:_=[_,_,_,_,_,_]) ?_
 refine jj (_,[((14,0),_)]) (fun τ hτ=> dE _ _ aa rfl rfl rfl rfl (Nat.le_of_ble_eq_true rfl) rfl) ?_
 refine iH (rfl:_=[_,_,_,_,_,_,_]) ?_
 refine jj (_,[]) (fun τ hτ=> dT _ aa rfl (by exact hτ.choose_spec) rfl) ?_
 refine iH (rfl:_=[_,_,_,_,_,_,_,_]) ?_
 refine jj (_,[]) (fun τ hτ=> bO _ _ aa rfl rfl rfl 1 rfl ab rfl) ?_
 refine iH (rfl:_=[_,_,_,_,_,_,_,_,_]) ?_
 refine jj (_,[((14,0),_)]) (fun τ hτ=> dE _ _ aa rfl rfl rfl rfl (Nat.le_of_ble_eq_true rfl) rfl) ?_
 refine iH (rfl:_=[_,_,_,_,_,_,_,_,_,_]) ?_
 refine jj (_,[]) (fun τ hτ=> dT _ aa rfl (by exact hτ.choose_spec) rfl) ?_
 refine iH (rfl:_=[_,_,_,_,_,_,_,_,_,_,_]) ?_
 refine AG ⟨⟨⟨rfl,by kernel_rfl,by kernel_rfl⟩,(by intro r hr c hc;simp only [List.mem_cons,List.not_mem_nil,or_false] at hr;rcases hr with rfl | rfl | rfl | rfl | rfl | rfl | rfl | rfl | rfl | rfl | rfl <;> simp at hc <;> (subst hc;exact ⟨_,rfl⟩))⟩,?_⟩
 refine aj (bO _ _ aa rfl rfl rfl 2 rfl ab rfl) ?_
 refine go 2 ?_
 refine aF fun K9 hK9=> ?_
 refine aB (σ':=an 93 [(2,_),(8,_),(9,_),(14,_),(15,_),(16,_),(17,_),(18,_)] [((4,9),_),((5,9),_),((8,0),_),((9,0),_),((14,0),_),((15,0),_),((16,0),_),((17,0),_),((22,0),_),((22,1),_),((22,2),_),((22,3),_),((18,0),_)] [(4,9),(5,9)] [(4,9)]) kp ?_
 refine go 4 ?_
 refine aj (lf _ _ (rfl:_=[]) (rfl:_=[AV.ptr _ _])) ?_
 refine bA (Le.trans (Le.incT (62,1) rfl) (Le.incT (62,0) rfl)) ?_
 refine aj (aV aa [((6,9),(15,0)),((2,8),(62,0)),((5,8),(62,1))] ar (hv) ob tr tr rfl ae ae) ?_
 refine go 2 ?_
 refine ay (hK9 _ ?_)
 refine aG (bV rfl (KW rfl rfl rfl (aj (bO _ _ aa rfl rfl rfl h rfl ab (show 8+h*1=8+h from by omega)) ?_)))
 refine aj (bK _ aa rfl rfl (lX _ _ _ _ _ _ _ _ _ _ h ab)) ?_
 refine go 2 ?_
 refine aj (bO _ _ aa rfl rfl rfl h rfl ab (show 8+h*1=8+h from by omega)) ?_
 refine aj (dE _ _ aa rfl rfl rfl rfl (by show (8+h)+1≤52;omega) ((tn s.up s.ver s.epoch (s.clock+1) _ _ _ _ (aP s) s.wait h ab _).trans (congrArg (fun e=> Au s.up s.ver s.epoch (s.clock+1) _ _ _ _ e s.wait) hce))) ?_
 refine am (aF fun K11 hK11=> ?_)
 refine aB (σ':=an 93 [(8,_),(9,_),(16,_),(17,_),(18,_)] [((8,0),_),((9,0),_),((16,0),_),((17,0),_),((22,0),_),((22,1),_),((22,2),_),((22,3),_),((18,0),_),((62,0),_),((4,9),_),((62,1),_)] [(4,9),(62,0),(62,1)] [(4,9)]) kp ?_
 refine go 6 ?_
 refine aj (gA _ _ _ aa rfl P.d R.vars.length (.lit rfl rfl) .dflt hd (Nat.le_refl _) hds hdl) ?_
 refine aj (bu aa [((0,8),(77,0))] ar (hcl.toI) trivial tr tr rfl rfl ae ae) ?_
 refine go 2 ?_
 refine ay (hK11 _ ?_)
 refine aF fun K12 hK12=> ?_
 refine go 8 ?_
 refine aB (Le.incA (22,0)) ?_
 refine aB (Le.incA (22,1)) ?_
 refine aB (Le.incA (22,3)) ?_
 refine aB (Le.incT (63,0) rfl) ?_
 refine aB (Le.incT (64,0) rfl) ?_
 refine aB (Le.nilB (18,0) 3 (63,0) 117 9 rfl rfl rfl) ?_
 refine aB (Le.nilB (18,0) 6 (64,0) 3 1 rfl rfl rfl) ?_
 refine aS (α:=Nat) (fun k=> k≤R.acts.length) 93 [(8,_),(16,_),(17,_),(18,_),(81,_),(82,_)] [((16,0),_),((17,0),_),((62,0),_),((4,9),_)] (fun k=> [(83, .v (.int .i64 (k:Int)))]) (fun k=> [((8,0), .box 83 [.v (.bool (co s h (s.clock+1) P R k).1.up), .v (.int .i64 ((co s h (s.clock+1) P R k).1.ver)), .v (.int .i64 ((co s h (s.clock+1) P R k).1.epoch)), .v (.int .i64 ((co s h (s.clock+1) P R k).1.clock)), .ref (22,0) 0 (co s h (s.clock+1) P R k).1.dk.cells.length, .ref (22,1) ((f k).2*2) (co s h (s.clock+1) P R k).1.dk.pend.length, .ref (77,0) 0 (co s h (s.clock+1) P R k).1.vol.length, .ref (22,3) 0 (co s h (s.clock+1) P R k).1.timers.length, .v (.int .i64 (aP (co s h (s.clock+1) P R k).1 0)), .v (.int .i64 (aP (co s h (s.clock+1) P R k).1 1)), .v (.int .i64 (aP (co s h (s.clock+1) P R k).1 2)), .v (.int .i64 (aP (co s h (s.clock+1) P R k).1 3)), .v (.int .i64 (aP (co s h (s.clock+1) P R k).1 4)), .v (.int .i64 (aP (co s h (s.clock+1) P R k).1 5)), .v (.int .i64 (aP (co s h (s.clock+1) P R k).1 6)), .v (.int .i64 (aP (co s h (s.clock+1) P R k).1 7)), .v (.int .i64 (aP (co s h (s.clock+1) P R k).1 8)), .v (.int .i64 (aP (co s h (s.clock+1) P R k).1 9)), .v (.int .i64 (aP (co s h (s.clock+1) P R k).1 10)), .v (.int .i64 (aP (co s h (s.clock+1) P R k).1 11)), .v (.int .i64 (aP (co s h (s.clock+1) P R k).1 12)), .v (.int .i64 (aP (co s h (s.clock+1) P R k).1 13)), .v (.int .i64 (aP (co s h (s.clock+1) P R k).1 14)), .v (.int .i64 (aP (co s h (s.clock+1) P R k).1 15)), .v (.int .i64 (aP (co s h (s.clock+1) P R k).1 16)), .v (.int .i64 (aP (co s h (s.clock+1) P R k).1 17)), .v (.int .i64 (aP (co s h (s.clock+1) P R k).1 18)), .v (.int .i64 (aP (co s h (s.clock+1) P R k).1 19)), .v (.int .i64 (aP (co s h (s.clock+1) P R k).1 20)), .v (.int .i64 (aP (co s h (s.clock+1) P R k).1 21)), .v (.int .i64 (aP (co s h (s.clock+1) P R k).1 22)), .v (.int .i64 (aP (co s h (s.clock+1) P R k).1 23)), .v (.int .i64 (aP (co s h (s.clock+1) P R k).1 24)), .v (.int .i64 (aP (co s h (s.clock+1) P R k).1 25)), .v (.int .i64 (aP (co s h (s.clock+1) P R k).1 26)), .v (.int .i64 (aP (co s h (s.clock+1) P R k).1 27)), .v (.int .i64 (aP (co s h (s.clock+1) P R k).1 28)), .v (.int .i64 (aP (co s h (s.clock+1) P R k).1 29)), .v (.int .i64 (aP (co s h (s.clock+1) P R k).1 30)), .v (.int .i64 (aP (co s h (s.clock+1) P R k).1 31)), .v (.int .i64 (aP (co s h (s.clock+1) P R k).1 32)), .v (.int .i64 (aP (co s h (s.clock+1) P R k).1 33)), .v (.int .i64 (aP (co s h (s.clock+1) P R k).1 34)), .v (.int .i64 (aP (co s h (s.clock+1) P R k).1 35)), .v (.int .i64 (aP (co s h (s.clock+1) P R k).1 36)), .v (.int .i64 (aP (co s h (s.clock+1) P R k).1 37)), .v (.int .i64 (aP (co s h (s.clock+1) P R k).1 38)), .v (.int .i64 (aP (co s h (s.clock+1) P R k).1 39)), .v (.int .i64 (aP (co s h (s.clock+1) P R k).1 40)), .v (.int .i64 ((co s h (s.clock+1) P R k).1.wait)), .v (.int .i64 (0)), .v (.int .i64 (0))]),((22,0), .row 3 1 (ba (co s h (s.clock+1) P R k).1.dk.cells)),((22,1), .row 126 2 (eT (f k).1)),((77,0), .row 3 1 (ba (co s h (s.clock+1) P R k).1.vol)),((22,3), .row 3 1 (ba (co s h (s.clock+1) P R k).1.timers)),((18,0), .box 96 [.v (.int .i64 (self)), .v (.int .i64 (h:Int)), .v (.int .i64 (s.counts.getD h 0)), .ref (63,0) 0 (co s h (s.clock+1) P R k).2.sent.length, .v (.bool (co s h (s.clock+1) P R k).2.repl), .v (.int .i64 ((co s h (s.clock+1) P R k).2.value)), .ref (64,0) 0 (co s h (s.clock+1) P R k).2.fails.length, .sl R.vars.length (ba R.vars), .ref (62,0) 0 R.acts.length, .v (.int .i64 ((R.steps:Int))), .v (.bool (!R.fin)), .sl (fz (kQ R.cov)).length (ba (fz (kQ R.cov)))]),((63,0), .row 117 9 (xI ⟨self,(h:Int),s.counts.getD h 0⟩ (co s h (s.clock+1) P R k).2.sent)),((64,0), .row 3 1 (ba (co s h (s.clock+1) P R k).2.fails)),((62,1), .row 111 7 (L0++Q))]) [(4,9),(62,0),(62,1),(22,0),(22,1),(22,3),(63,0),(64,0)] [(4,9)] (fun k=> R.acts.length - k) 0 ?_ (kj [0,0,0,0,1,2,2,2,2,1,2,2,2] [] []) ?_
 ·omega
 intro k hk
 refine go 3 ?_
 refine aF fun K15 hK15=> ?_
 refine ax rfl (fun hc84=> ?_) (fun hc84=> ?_)
 ·have ha:=hq k ab
  have hga:=uL R.acts k ab
  refine aR (hK15 _ ?_)
  refine aE (aH (aG (aj (bq _ _ aa rfl rfl rfl _ rfl ab (by exact Nat.zero_add _)) ?_)))
  refine aj (xZ _ aa rfl rfl (by exact hga) rfl) ?_
  refine go 6 ?_
  refine bA (Le.trans (Le.incT (89,4) rfl) (Le.trans (Le.incT (89,3) rfl) (Le.trans (Le.incT (89,2) rfl) (Le.trans (Le.incT (89,1) rfl) (Le.incT (89,0) rfl))))) ?_
  refine aj (aV aa [((1,9),(22,3)),((2,9),(18,0)),((3,9),(63,0)),((4,9),(64,0)),((5,9),(62,0)),((7,9),(22,0)),((8,9),(22,1)),((9,9),(77,0)),((1,8),(89,0)),((3,8),(89,1)),((4,8),(89,2)),((7,8),(89,3)),((8,8),(89,4))] ar (ha) ob tr tr rfl ae ae) ?_
  refine go 5 ?_
  refine ay (⟨k+1,?_,?_,?_⟩)
  ·omega
  ·refine Le.mkJ [((22,0),(89,3)),((22,1),(89,4)),((22,3),(89,0)),((63,0),(89,1)),((64,0),(89,2))] [] rfl ?_ ?_ trivial tr ?_
   ·exact ⟨(bv (id:=(8,0)) rfl),(bv (id:=(16,0)) rfl),(bv (id:=(17,0)) rfl),(bv (id:=(18,0)) rfl),(ca (id:=(62,0)) rfl rfl),(by repeat' (exact Lv.v)),(aN ag),trivial⟩
   ·exact ⟨(cI rfl rfl rfl rfl (by repeat' (first | exact Lv.v | exact aK | refine ai ?_ ?_))),(cI rfl rfl rfl rfl (by repeat' (first | exact Lv.v | exact aK | refine ai ?_ ?_))),(cD rfl rfl rfl rfl),(cI rfl rfl rfl rfl (by repeat' (first | exact Lv.v | exact Lv.sl | exact ca (id:=(62,1)) rfl rfl | exact aK | refine ai ?_ ?_))),(cI rfl rfl rfl rfl lz),(cD rfl rfl rfl ag),(cD rfl rfl rfl ag),(cD rfl rfl rfl ag),(cD rfl rfl rfl ag),(cI rfl rfl rfl rfl lz),(cD rfl rfl rfl ag),(cD rfl rfl rfl ag),(cD rfl rfl rfl ag),trivial⟩
   kernel_rfl
  omega
 obtain rfl:k=R.acts.length:=by omega
 refine aW (id (hK12 _ ?_))
 refine aE (jD 3 [91,92] [(16,0)] [[(16,0)],[],[]] ae ae rfl (bj rfl) (rfl:_=[_,_,_]) (rfl:_=[_]) ?_)
 refine go 4 ?_
 refine aC (_,[((16,0),_)]) (fun τ=> dE _ _ aa rfl (fE rfl (by exact eN) rfl) rfl rfl (Nat.le_of_ble_eq_true rfl) rfl) ?_
 refine go 4 ?_
 exact au (km (.inr rfl) rfl (.cellA aa rfl rfl rfl) (.cellA aa rfl rfl rfl) (Le.outI [((1,8),(22,3)),((2,8),(62,0)),((3,8),(63,0)),((6,8),(64,0)),((5,8),(62,1)),((7,8),(22,0)),((8,8),(22,1)),((9,8),(77,0))] [] (.tup rfl lz) rfl rfl rfl trivial ob tr rfl))
end Go.Proofs.YtmjnackchaahbaaGreat

set_option maxHeartbeats 2000000
namespace Go.Proofs.YtmjnackchaahbaaGreat
open Go.RowKit

set_option maxHeartbeats 4000000 in
theorem RQ (s:Ns) (hs:fJ s) (ho:eX s.dk) (P:Pg) (ver self nodes drift:Int) (t:Tl) (n0:Nat) (L0:List PV) (hpd:P.d≤1000) (hpv:P.v≤1000)
  (c:Cz) (R:Ms) (q:Ns×Nr) (l:List (Int×Int)) (j:Nat) (n:Nat) (L:List PV) (hH:Spec Tryz.prog 81 (aL [ii (cH s P ver),fY P, .v (.int .i64 ((0:Nat):Int)), .v (.int .i64 self), .v (.int .i64 nodes), .v (.int .i64 drift),KE (List.replicate 9 0),oO] (vR t n0 L0 (5,9))) (nA c R q l j t n L)):
  Spec Tryz.prog 56 (aL [ii s,fY P, .v (.int .i64 ver), .v (.int .i64 self), .v (.int .i64 nodes), .v (.int .i64 drift),oO] (vR t n0 L0 (5,9))) (nA c R q l j t n L):=by
 have hown:=rt s hs
 have hcc:=hs.c
 have hpp:=hs.p
 have hrz:=ta s.dk P.d ab ab ab ho
 obtain ⟨dk,hdk⟩: ∃ dk,dk=if s.dk.cells.length=P.d then s.dk else s.dk.resize P.d:=⟨_,rfl⟩
 have hb:cH s P ver={ s with ver:=ver,dk:=dk,vol:=List.replicate P.v 0,timers:=[],wait:= -1,up:=true }:=by rw [hdk];rfl
 rw [hb] at hH
 refine Spec.ofNI Tryz.func56 rfl Tryz.ntmps56 rfl ?_
 refine go 8 ?_
 refine aj (bu aa [((1,8),(17,0))] ar (hown.toI) trivial tr tr rfl rfl ae ae) ?_
 refine go 7 ?_
 refine gP (α:=Unit) (fun u=> True) 50 [(3,_),(4,_),(5,_),(6,_),(7,_),(8,_),(14,_),(15,_)] [((4,9),_),((5,9),_),((8,0),_),((14,0),_),((15,0),_),((17,0),_)] (fun u=> []) (fun u=> [((7,0), .box 83 [.v (.bool s.up), .v (.int .i64 ver), .v (.int .i64 (s.epoch)), .v (.int .i64 (s.clock)), .sl dk.cells.length (ba dk.cells), .sl dk.pend.length (eT dk.pend), .sl s.vol.length (ba s.vol), .ref (17,0) 0 s.timers.length, .v (.int .i64 (aP s 0)), .v (.int .i64 (aP s 1)), .v (.int .i64 (aP s 2)), .v (.int .i64 (aP s 3)), .v (.int .i64 (aP s 4)), .v (.int .i64 (aP s 5)), .v (.int .i64 (aP s 6)), .v (.int .i64 (aP s 7)), .v (.int .i64 (aP s 8)), .v (.int .i64 (aP s 9)), .v (.int .i64 (aP s 10)), .v (.int .i64 (aP s 11)), .v (.int .i64 (aP s 12)), .v (.int .i64 (aP s 13)), .v (.int .i64 (aP s 14)), .v (.int .i64 (aP s 15)), .v (.int .i64 (aP s 16)), .v (.int .i64 (aP s 17)), .v (.int .i64 (aP s 18)), .v (.int .i64 (aP s 19)), .v (.int .i64 (aP s 20)), .v (.int .i64 (aP s 21)), .v (.int .i64 (aP s 22)), .v (.int .i64 (aP s 23)), .v (.int .i64 (aP s 24)), .v (.int .i64 (aP s 25)), .v (.int .i64 (aP s 26)), .v (.int .i64 (aP s 27)), .v (.int .i64 (aP s 28)), .v (.int .i64 (aP s 29)), .v (.int .i64 (aP s 30)), .v (.int .i64 (aP s 31)), .v (.int .i64 (aP s 32)), .v (.int .i64 (aP s 33)), .v (.int .i64 (aP s 34)), .v (.int .i64 (aP s 35)), .v (.int .i64 (aP s 36)), .v (.int .i64 (aP s 37)), .v (.int .i64 (aP s 38)), .v (.int .i64 (aP s 39)), .v (.int .i64 (aP s 40)), .v (.int .i64 (s.wait)), .v (.int .i64 (0)), .v (.int .i64 (0))])]) [(4,9),(5,9)] [(4,9)]
  (by exact ⟨(iV rfl),(iV rfl),(iV rfl),(iN rfl),(iP rfl),(iP rfl),(iP rfl),(iP rfl),trivial⟩)
  (by exact ⟨(bN rfl rfl rfl),(bN rfl rfl rfl),(bN rfl rfl rfl),(bN rfl rfl rfl),(bN rfl rfl rfl),(bN rfl rfl rfl),trivial⟩) ?_ ?_
 ·refine go 7 ?_
  refine aj (cV (r:=decide (s.dk.cells.length≠P.d)) _ _ rfl rfl (by rw [Bool.eq_iff_iff];simp;omega)) ?_
  refine am (ax rfl (fun hc26=> ?_) (fun hc26=> ?_))
  ·have hb2:dk=s.dk.resize P.d:=hdk.trans (if_neg (by simpa using hc26))
   refine aB (σ':=an 50 [(3,_),(4,_),(5,_),(6,_),(7,_),(8,_),(14,_),(15,_)] [((4,9),_),((5,9),_),((7,0),_),((8,0),_),((14,0),_),((15,0),_),((17,0),_)] [(4,9),(5,9)] [(4,9)]) kp ?_
   refine go 5 ?_
   refine aj (ap aa al (hrz) rfl rfl) ?_
   refine go 2 ?_
   refine ay (⟨(),?_,?_⟩)
   ·trivial
   refine Le.mkJ [] [] rfl ?_ ?_ trivial tr ?_
   ·exact ⟨(iV rfl),(iV rfl),(iV rfl),(iN rfl),(iP rfl),(iP rfl),(iP rfl),(iP rfl),trivial⟩
   ·exact ⟨(bN rfl rfl rfl),(bN rfl rfl rfl),(bN rfl rfl rfl),(bN rfl rfl rfl),(bN rfl rfl rfl),(bN rfl rfl rfl),(cI rfl rfl rfl rfl (ai (jC ag) (eW (eW (eW (ai (cL (by (rw [hb2])) (by (rw [hb2]))) (ai (cL (by (rw [hb2])) (by (rw [hb2]))) lz))))))),trivial⟩
   kernel_rfl
  have hb2:dk=s.dk:=hdk.trans (if_pos (by simpa using hc26))
  refine aR (⟨(),?_,?_⟩)
  ·trivial
  refine Le.mkJ [] [] rfl ?_ ?_ trivial tr ?_
  ·exact ⟨(iV rfl),(iV rfl),(iV rfl),(iN rfl),(iP rfl),(iP rfl),(iP rfl),(iP rfl),trivial⟩
  ·exact ⟨(bN rfl rfl rfl),(bN rfl rfl rfl),(bN rfl rfl rfl),(bN rfl rfl rfl),(bN rfl rfl rfl),(bN rfl rfl rfl),(cI rfl rfl rfl rfl (ai (jC ag) (eW (eW (eW (ai (cL (by (rw [hb2])) (by (rw [hb2]))) (ai (cL (by (rw [hb2])) (by (rw [hb2]))) lz))))))),trivial⟩
  kernel_rfl
 intro u hu
 refine go 3 ?_
 refine aj (oV (35,0) _ _ aa rfl rfl (List.replicate P.v (0:Int)).length (by rw [List.length_replicate]) (by rw [List.length_replicate]) (by rw [List.length_replicate];omega) rfl (show _=ba (List.replicate P.v 0) by rw [List.length_replicate];exact oq P.v)) ?_
 refine go 9 ?_
 refine aE ?_
 refine aB (Le.frzB (ys:=ba (List.replicate P.v 0)) (7,0) 6 rfl rfl rfl rfl (by rw [List.drop_zero,Nat.mul_one,List.take_of_length_le (by rw [aq];exact Nat.le_refl _)]) (by rw [aq,Nat.mul_one,Nat.zero_add];exact Nat.le_refl _)) ?_
 refine go 8 ?_
 refine bA (Le.trans (Le.incT (47,7) rfl) (Le.trans (Le.incT (47,6) rfl) (Le.trans (Le.incT (47,5) rfl) (Le.trans (Le.incT (47,4) rfl) (Le.trans (Le.incT (47,3) rfl) (Le.trans (Le.incT (47,2) rfl) (Le.trans (Le.incT (47,1) rfl) (Le.incT (47,0) rfl)))))))) ?_
 refine aj (aV aa [((1,8),(47,0)),((2,8),(47,1)),((3,8),(47,2)),((6,8),(47,3)),((5,8),(47,4)),((7,8),(47,5)),((8,8),(47,6)),((9,8),(47,7))] ar (hH) ob tr tr rfl ae ae) ?_
 refine go 5 ?_
 exact au (km (.inr rfl) rfl (.cellA aa rfl rfl rfl) (.cellA aa rfl rfl rfl) (Le.outI [((1,8),(47,0)),((2,8),(47,1)),((3,8),(47,2)),((6,8),(47,3)),((5,8),(47,4)),((7,8),(47,5)),((8,8),(47,6)),((9,8),(47,7))] [] (.tup rfl lz) rfl rfl rfl trivial ob tr rfl))
set_option maxHeartbeats 2000000 in
theorem OM (s:Ns) (hs:fJ s) (ho:eX s.dk) (hc:s.counts.length=41) (hcb: -1000000≤s.counts.getD 40 0∧s.counts.getD 40 0≤1000000) (hep: -1000000≤s.epoch∧s.epoch≤1000000)
  (t:Tl) (n:Nat) (L:List PV) (hL:L.length=n*7) (hn:n≤1000) (ks:List Int) (hlk: ∀ i:Nat,i < s.dk.pend.length→tg t 3 (i:Int) 2 (ks.getD i 0)):
  Spec Tryz.prog 53 (aL [ii s,oO] (vR t n L (5,9))) (aO (.agg (Hx (fQ s (fh s.dk.pend.length ks)) 0 (7,8) (8,8) (9,8) (1,8))) (vR t (n+s.dk.pend.length) (L++ym t ks s.dk.pend.length) (5,8)++Jy (fQ s (fh s.dk.pend.length ks)) [] (7,8) (8,8) (9,8) (1,8)) [(4,9),(5,8),(7,8),(8,8),(9,8),(1,8)] [(4,9)]):=by
 have hown:=rt s hs
 have hp:=hs.p
 have hcc:=hs.c
 have hv:=hs.v
 have hcr:=xd s.dk ab ab ho (fh s.dk.pend.length ks) (by rw [eR];omega)
 rw [eR] at hcr
 have hce:=pz s 40 ab (s.counts.getD 40 0+1)
 have hcb2: -1000000≤aP s 40∧aP s 40≤1000000:=hcb
 have hl1:(s.dk.crash (fh s.dk.pend.length ks)).cells.length=s.dk.cells.length:=dq _ _
 have hl2:(fQ s (fh s.dk.pend.length ks)).vol.length=s.vol.length:=by simp [fQ]
 have hz:(rep s.vol.length [.int .i64 0]).map PV.v=ba (fQ s (fh s.dk.pend.length ks)).vol:=by simp [fQ,ba,rep]
 refine Spec.ofNI Tryz.func53 rfl Tryz.ntmps53 rfl ?_
 refine go 6 ?_
 refine aj (bu aa [((1,8),(8,0))] ar (hown.toI) trivial tr tr rfl rfl ae ae) ?_
 refine go 3 ?_
 refine aj (aX _ ea) (am (aF fun K4 hK4=> ?_))
 refine go 8 ?_
 refine aB (Le.nilS 5 (60,0) 4 1 rfl rfl) ?_
 refine aS (α:=Nat) (fun k=> k≤s.dk.pend.length) 48 [(1,_),(2,_),(4,_),(12,_)] [((2,0),_),((4,0),_),((8,0),_)] (fun k=> [(5, .ref (60,0) 0 k),(13, .v (.int .i64 (k:Int)))]) (fun k=> [((60,0), .row 4 1 (xo (fh k ks))),((4,9), .box 103 [.v (.int .i64 t.c1), .v (.int .i64 t.c2), .v (.int .i64 t.c3), .sl t.na t.A, .ref (5,9) 0 (n+k)]),((5,9), .row 111 7 (L++ym t ks k))]) [(4,9),(5,9)] [(4,9)] (fun k=> s.dk.pend.length - k) 0 ?_ (by
  refine Le.mkJ [] [] rfl ?_ ?_ trivial tr ?_
  ·exact ⟨(iN rfl),(iP rfl),(iP rfl),(iV rfl),(ca rfl ag),(aN ag),trivial⟩
  ·exact ⟨(bN rfl rfl rfl),(bN rfl rfl rfl),(bN rfl rfl rfl),(cD rfl rfl rfl ag),(cI rfl rfl rfl rfl lz),(cD rfl rfl rfl (by (simp [ym]))),trivial⟩
  kernel_rfl) ?_
 ·omega
 intro k hk
 refine go 3 ?_
 refine aF fun K7 hK7=> ?_
 refine ax rfl (fun hc14=> ?_) (fun hc14=> ?_)
 ·have htl:=sj t 3 (k:Int) 2 (ks.getD k 0) (n+k) (L++ym t ks k) (by rw [List.length_append,hL,yo,Nat.add_mul]) ab ab (hlk k ab)
  rw [List.append_assoc,uG] at htl
  have hkb:=pL k ks
  refine aR (hK7 _ ?_)
  refine go 10 ?_
  refine bA (Le.incT (19,0) rfl) ?_
  refine aj (kh rfl aa [((5,8),(19,0))] ar (htl) ob tr tr rfl ae ae) ?_
  refine aj (bb (r:=decide (ks.getD k 0=1)) _ _ rfl rfl (by rw [Bool.eq_iff_iff];simp)) ?_
  refine go 1 ?_
  refine aj (bG (22,0) _ _ aa rfl rfl (by rw [aJ,eR,Nat.mul_one]) (.sl rfl) ab rfl ((qU _ _).trans (congrArg xo hkb.symm)) rfl) ?_
  refine go 5 ?_
  refine ay (⟨k+1,?_,?_,?_⟩)
  ·omega
  ·refine Le.mkJ [((60,0),(22,0)),((5,9),(19,0))] [] rfl ?_ ?_ trivial tr ?_
   ·exact ⟨(by repeat' (first | exact bv (id:=(4,9)) rfl | refine Lv.fn rfl ?_ rfl ?_ | exact aK | refine ai ?_ ?_)),(bv (id:=(2,0)) rfl),(bv (id:=(4,0)) rfl),(by repeat' (exact Lv.v)),(ca rfl ag),(aN ag),trivial⟩
   ·exact ⟨(cI rfl rfl rfl rfl (by repeat' (first | exact Lv.v | exact Lv.sl | exact ca (id:=(8,0)) rfl rfl | exact aK | refine ai ?_ ?_))),(cI rfl rfl rfl rfl (by repeat' (first | exact Lv.v | exact aK | refine ai ?_ ?_))),(cD rfl rfl rfl rfl),(cD rfl rfl rfl ag),(cI rfl rfl rfl rfl lz),(cD rfl rfl rfl ag),trivial⟩
   kernel_rfl
  omega
 obtain rfl:k=s.dk.pend.length:=by omega
 refine aW (id (hK4 _ ?_))
 refine aE ?_
 refine aB (Le.frzS (ys:=xo (fh s.dk.pend.length ks)) 5 mP rfl rfl (by rw [List.drop_zero,Nat.mul_one,List.take_of_length_le (by rw [aJ,eR];omega)]) (by rw [aJ,eR];omega)) ?_
 refine go 4 ?_
 refine aj (bu aa [((0,8),(27,0))] ar (hcr.toI) trivial tr tr rfl rfl ae ae) ?_
 refine go 5 ?_
 refine aj (bO _ _ aa rfl rfl rfl 40 rfl ab rfl) ?_
 refine go 3 ?_
 refine aj (bO _ _ aa rfl rfl rfl 40 rfl ab rfl) ?_
 refine aj (dE _ _ aa rfl rfl rfl rfl (by show 48+1≤52;omega) ((tn s.up s.ver s.epoch s.clock _ _ _ _ (aP s) s.wait 40 ab _).trans (congrArg (fun e=> Au s.up s.ver s.epoch s.clock _ _ _ _ e s.wait) hce))) ?_
 refine go 8 ?_
 refine aE ?_
 refine aB (σ':=an 48 [(2,_),(4,_)] [((2,0),_),((4,0),_),((8,0),_),((27,0),_),((4,9),_),((5,9),_)] [(4,9),(5,9)] [(4,9)]) kp ?_
 refine go 4 ?_
 refine aj (oV (42,0) _ _ aa rfl rfl _ rfl rfl ab rfl rfl) ?_
 refine go 13 ?_
 exact au (va (Le.nilB (4,0) 5 (62,0) 126 2 rfl rfl rfl) (va (Le.nilB (4,0) 7 (63,0) 3 1 rfl rfl rfl) (cq (.inr rfl) rfl (.cellA aa rfl rfl rfl) (Le.outI [((5,8),(5,9)),((7,8),(27,0)),((8,8),(62,0)),((9,8),(42,0)),((1,8),(63,0))] [] (.agg rfl (xF (ai (ca rfl hl1) (ai (ca rfl rfl) (ai (ca rfl hl2) lz))))) rfl rfl rfl trivial ⟨⟨rfl,⟨_,rfl, .box rfl lz⟩,rfl⟩,⟨rfl,⟨_,rfl, .rowE rfl⟩,rfl⟩,⟨rfl,⟨_,rfl, .rowE rfl⟩,rfl⟩,⟨rfl,⟨_,rfl, .rowE rfl⟩,rfl⟩,⟨rfl,⟨_,rfl, .rowE hz⟩,rfl⟩,⟨rfl,⟨_,rfl, .rowE rfl⟩,rfl⟩,trivial⟩ tr rfl))))
end Go.Proofs.YtmjnackchaahbaaGreat

set_option maxHeartbeats 2000000
namespace Go.Proofs.YtmjnackchaahbaaGreat
open Go.RowKit

abbrev qe (s':Ns) (l:List (Int×Int)) (j:Nat) (rd:AV) (t:Tl) (n:Nat) (L:List PV):St:=aA (.tup [.agg (Hx s' j (7,8) (8,8) (9,8) (1,8)),rd, .ptr (4,8) 0]) ([((4,8), .box 103 [.v (.int .i64 t.c1), .v (.int .i64 t.c2), .v (.int .i64 t.c3), .sl t.na t.A, .ref (5,8) 0 n]),((5,8), .row 111 7 L)]++Jy s' l (7,8) (8,8) (9,8) (1,8))
set_option maxHeartbeats 4000000 in
theorem JO (s:Ns) (hup:s.up=false) (hep:0≤s.epoch) (P Q X:Pg) (ver:Int) (hX1:s.epoch % 2=1→X=Q∧ver=1) (hX2: ¬ s.epoch % 2=1→X=P∧ver=0) (drift:Int) (a:Na) (h1:a.draws.length≤1000) (h2:a.keeps.length≤1000) (c:Cz) (R:Ms) (q:Ns×Nr) (l:List (Int×Int)) (j:Nat) (n:Nat) (L:List PV)
  (hS:Spec Tryz.prog 56 (aL [ii s,fY X, .v (.int .i64 ver), .v (.int .i64 1), .v (.int .i64 3), .v (.int .i64 drift),oO] (vR (ft s a 0) 0 [] (5,9))) (nA c R q l j (ft s a 0) n L)):
  Spec Tryz.prog 45 (aI [ii s,fY P,fY Q, .v (.int .i64 drift),vz a] []) (qe q.1 l j (FZ c q.2 R) (ft s a 0) n L):=by
 have htl:=lh s a 0 ab h1 h2
 refine Spec.ofN Tryz.func45 rfl Tryz.ntmps45 rfl ?_
 refine go 13 ?_
 refine aj (fI (r:=true) _ rfl (by rw [hup];rfl)) ?_
 refine go 5 ?_
 refine aj (bu aa [((4,8),(28,0))] ar (htl.toI) trivial tr tr rfl rfl ae ae) ?_
 refine go 7 ?_
 refine aE ?_
 refine aB (σ':=an 90 [(3,_),(5,_),(7,_),(10,_),(11,_),(13,_),(14,_)] [((5,0),_),((7,0),_),((10,0),_),((11,0),_),((28,0),_),((14,0),_)] [] []) kp ?_
 refine aD (cp rfl (am ?_))
 refine gP (α:=Unit) (fun u=> True) 90 [(3,_),(5,_),(10,_),(11,_),(13,_),(14,_)] [((5,0),_),((10,0),_),((11,0),_),((28,0),_)] (fun u=> [(15, .v (.int .i64 ver))]) (fun u=> [((14,0), .box 26 [.sl X.c.length (inl X.c), .v (.int .i64 (X.e 0)), .v (.int .i64 (X.e 1)), .v (.int .i64 (X.e 2)), .v (.int .i64 (X.e 3)), .v (.int .i64 (X.e 4)), .v (.int .i64 (X.e 5)), .v (.int .i64 (X.e 6)), .v (.int .i64 (X.e 7)), .v (.int .i64 (X.e 8)), .v (.int .i64 (X.e 9)), .v (.int .i64 (X.e 10)), .v (.int .i64 (X.e 11)), .v (.int .i64 (X.e 12)), .v (.int .i64 (X.e 13)), .v (.int .i64 (X.e 14)), .v (.int .i64 (X.e 15)), .v (.int .i64 (X.e 16)), .v (.int .i64 (X.e 17)), .v (.int .i64 (X.e 18)), .v (.int .i64 (X.e 19)), .v (.int .i64 (X.e 20)), .v (.int .i64 (X.e 21)), .v (.int .i64 (X.e 22)), .v (.int .i64 (X.e 23)), .v (.int .i64 (X.e 24)), .v (.int .i64 (X.e 25)), .v (.int .i64 (X.e 26)), .v (.int .i64 (X.e 27)), .v (.int .i64 (X.e 28)), .v (.int .i64 (X.e 29)), .v (.int .i64 (X.e 30)), .v (.int .i64 (X.e 31)), .v (.int .i64 (X.e 32)), .v (.int .i64 (X.e 33)), .v (.int .i64 (X.e 34)), .v (.int .i64 (X.e 35)), .v (.int .i64 (X.e 36)), .v (.int .i64 (X.e 37)), .v (.int .i64 (X.e 38)), .v (.int .i64 (X.e 39)), .v (.int .i64 (X.d:Int)), .v (.int .i64 (X.v:Int))])]) [] []
  (by exact ⟨(iV rfl),(iP rfl),(iP rfl),(iP rfl),(iP rfl),(iP rfl),trivial⟩)
  (by exact ⟨(bN rfl rfl rfl),(bN rfl rfl rfl),(bN rfl rfl rfl),(bN rfl rfl rfl),trivial⟩) ?_ ?_
 ·refine go 3 ?_
  refine aj (de (r:=s.epoch % 2) _ _ rfl rfl ab (Int.tmod_eq_emod_of_nonneg hep)) ?_
  refine aj (bb (r:=decide (s.epoch % 2=1)) _ _ rfl rfl (by rw [Bool.eq_iff_iff];simp)) ?_
  refine am (ax rfl (fun hc33=> ?_) (fun hc33=> ?_))
  ·obtain ⟨e1,e2⟩:=hX1 hc33
   refine go 6 ?_
   refine ay (⟨(),?_,?_⟩)
   ·trivial
   refine Le.mkJ [] [] rfl ?_ ?_ trivial trivial ?_
   ·exact ⟨(iV rfl),(iP rfl),(iP rfl),(iP rfl),(iP rfl),(iP rfl),(aN ab),trivial⟩
   ·exact ⟨(bN rfl rfl rfl),(bN rfl rfl rfl),(bN rfl rfl rfl),(bN rfl rfl rfl),(cI rfl rfl rfl rfl (ai (cL (by ((rw [e1]))) (by ((rw [e1])))) (ai (aN (by ((rw [e1])))) (ai (aN (by ((rw [e1])))) (ai (aN (by ((rw [e1])))) (ai (aN (by ((rw [e1])))) (ai (aN (by ((rw [e1])))) (ai (aN (by ((rw [e1])))) (ai (aN (by ((rw [e1])))) (ai (aN (by ((rw [e1])))) (ai (aN (by ((rw [e1])))) (ai (aN (by ((rw [e1])))) (ai (aN (by ((rw [e1])))) (ai (aN (by ((rw [e1])))) (ai (aN (by ((rw [e1])))) (ai (aN (by ((rw [e1])))) (ai (aN (by ((rw [e1])))) (ai (aN (by ((rw [e1])))) (ai (aN (by ((rw [e1])))) (ai (aN (by ((rw [e1])))) (ai (aN (by ((rw [e1])))) (ai (aN (by ((rw [e1])))) (ai (aN (by ((rw [e1])))) (ai (aN (by ((rw [e1])))) (ai (aN (by ((rw [e1])))) (ai (aN (by ((rw [e1])))) (ai (aN (by ((rw [e1])))) (ai (aN (by ((rw [e1])))) (ai (aN (by ((rw [e1])))) (ai (aN (by ((rw [e1])))) (ai (aN (by ((rw [e1])))) (ai (aN (by ((rw [e1])))) (ai (aN (by ((rw [e1])))) (ai (aN (by ((rw [e1])))) (ai (aN (by ((rw [e1])))) (ai (aN (by ((rw [e1])))) (ai (aN (by ((rw [e1])))) (ai (aN (by ((rw [e1])))) (ai (aN (by ((rw [e1])))) (ai (aN (by ((rw [e1])))) (ai (aN (by ((rw [e1])))) (ai (aN (by ((rw [e1])))) (ai (aN (by ((rw [e1])))) (ai (aN (by ((rw [e1])))) aK)))))))))))))))))))))))))))))))))))))))))))),trivial⟩
   kernel_rfl
  obtain ⟨e1,e2⟩:=hX2 hc33
  refine aR (⟨(),?_,?_⟩)
  ·trivial
  refine Le.mkJ [] [] rfl ?_ ?_ trivial trivial ?_
  ·exact ⟨(iV rfl),(iP rfl),(iP rfl),(iP rfl),(iP rfl),(iP rfl),(aN ab),trivial⟩
  ·exact ⟨(bN rfl rfl rfl),(bN rfl rfl rfl),(bN rfl rfl rfl),(bN rfl rfl rfl),(cI rfl rfl rfl rfl (ai (cL (by ((rw [e1]))) (by ((rw [e1])))) (ai (aN (by ((rw [e1])))) (ai (aN (by ((rw [e1])))) (ai (aN (by ((rw [e1])))) (ai (aN (by ((rw [e1])))) (ai (aN (by ((rw [e1])))) (ai (aN (by ((rw [e1])))) (ai (aN (by ((rw [e1])))) (ai (aN (by ((rw [e1])))) (ai (aN (by ((rw [e1])))) (ai (aN (by ((rw [e1])))) (ai (aN (by ((rw [e1])))) (ai (aN (by ((rw [e1])))) (ai (aN (by ((rw [e1])))) (ai (aN (by ((rw [e1])))) (ai (aN (by ((rw [e1])))) (ai (aN (by ((rw [e1])))) (ai (aN (by ((rw [e1])))) (ai (aN (by ((rw [e1])))) (ai (aN (by ((rw [e1])))) (ai (aN (by ((rw [e1])))) (ai (aN (by ((rw [e1])))) (ai (aN (by ((rw [e1])))) (ai (aN (by ((rw [e1])))) (ai (aN (by ((rw [e1])))) (ai (aN (by ((rw [e1])))) (ai (aN (by ((rw [e1])))) (ai (aN (by ((rw [e1])))) (ai (aN (by ((rw [e1])))) (ai (aN (by ((rw [e1])))) (ai (aN (by ((rw [e1])))) (ai (aN (by ((rw [e1])))) (ai (aN (by ((rw [e1])))) (ai (aN (by ((rw [e1])))) (ai (aN (by ((rw [e1])))) (ai (aN (by ((rw [e1])))) (ai (aN (by ((rw [e1])))) (ai (aN (by ((rw [e1])))) (ai (aN (by ((rw [e1])))) (ai (aN (by ((rw [e1])))) (ai (aN (by ((rw [e1])))) (ai (aN (by ((rw [e1])))) (ai (aN (by ((rw [e1])))) aK)))))))))))))))))))))))))))))))))))))))))))),trivial⟩
  kernel_rfl
 intro u hu
 refine aE ?_
 refine aB (Le.nilB (28,0) 4 (60,0) 111 7 rfl rfl rfl) ?_
 refine go 6 ?_
 refine aj (lf _ _ (rfl:_=[AV.ptr _ _]) (rfl:_=[])) ?_
 refine aj (bu aa [((4,9),(28,0)),((5,9),(60,0)),((1,8),(42,0)),((2,8),(42,1)),((3,8),(42,2)),((6,8),(42,3)),((5,8),(42,4)),((7,8),(42,5)),((8,8),(42,6)),((9,8),(42,7))] ar (hS) ob tr tr rfl rfl ae ae) ?_
 refine go 8 ?_
 refine aE ?_
 refine aB (σ':=an 90 [(10,_),(11,_),(13,_),(16,_),(17,_)] [((10,0),_),((11,0),_),((28,0),_),((42,0),_),((42,1),_),((42,2),_),((42,3),_),((42,4),_),((42,5),_),((42,6),_),((42,7),_),((16,0),_),((17,0),_)] [] []) kp ?_
 refine jD 5 [45,46,47] [(10,0),(11,0)] [[(10,0),(11,0)],[(11,0)],[],[(11,0)],[]] ae ae rfl (bj rfl) (rfl:_=[_,_,_,_,_]) (rfl:_=[_]) ?_
 refine go 6 ?_
 refine aC (_,[((10,0),_)]) (fun τ=> dE _ _ aa rfl (fE rfl (by exact eN) rfl) rfl rfl (Nat.le_of_ble_eq_true rfl) rfl) ?_
 refine go 1 ?_
 refine aC (_,[((11,0),_)]) (fun τ=> dE _ _ aa rfl (fE rfl (by exact eN) rfl) rfl rfl (Nat.le_of_ble_eq_true rfl) rfl) ?_
 refine go 4 ?_
 refine au ?_
 exact AL (.inr rfl) rfl (.cellA aa rfl rfl rfl) (.cellA aa rfl rfl rfl) (.tmp uM) (Le.out [((4,8),(28,0)),((5,8),(42,4)),((7,8),(42,5)),((8,8),(42,6)),((9,8),(42,7)),((1,8),(42,0))] [(42,1),(42,2),(42,3)] (.tup rfl (ai (.agg rfl lz) (ai (.agg rfl (ai .v (ai .v (ai .v (ai (dI rfl rfl (dQ _ _).symm rfl) (ai .v (ai .v (ai (dI rfl rfl (by rw [aq,Nat.mul_one]) rfl) (ai .sl (ai (dI rfl rfl (bT _).symm rfl) lz)))))))))) lz))) rfl rfl rfl tr ob)
set_option maxHeartbeats 4000000 in
theorem KL (s:Ns) (hup:s.up=true) (P Q X:Pg) (hX1:s.ver=1→X=Q) (hX2: ¬ s.ver=1→X=P) (drift:Int) (a:Na) (hcr:a.crash=false) (hh:a.h < 41) (h1:a.draws.length≤1000) (h2:a.keeps.length≤1000) (c:Cz) (R:Ms) (q:Ns×Nr) (l:List (Int×Int)) (j:Nat) (n:Nat) (L:List PV)
  (hS:Spec Tryz.prog 81 (aL [ii { s with wait:=a.wait },fY X, .v (.int .i64 (a.h:Int)), .v (.int .i64 1), .v (.int .i64 3), .v (.int .i64 drift),KE a.names,oO] (vR (ft s a a.h) 0 [] (5,9))) (nA c R q l j (ft s a a.h) n L)):
  Spec Tryz.prog 45 (aI [ii s,fY P,fY Q, .v (.int .i64 drift),vz a] []) (qe q.1 l j (FZ c q.2 R) (ft s a a.h) n L):=by
 have htl:=lh { s with wait:=a.wait } a a.h hh h1 h2
 refine Spec.ofN Tryz.func45 rfl Tryz.ntmps45 rfl ?_
 refine go 13 ?_
 refine aj (fI (r:=false) _ rfl (by rw [hup];rfl)) ?_
 refine go 7 ?_
 refine Av rfl rfl (by rw [if_neg (by rw [hcr];exact Bool.false_ne_true)];rfl) ?_
 refine go 8 ?_
 refine gP (α:=Unit) (fun u=> True) 90 [(3,_),(5,_),(9,_),(10,_),(11,_),(19,_)] [((5,0),_),((9,0),_),((10,0),_),((11,0),_)] (fun u=> []) (fun u=> [((19,0), .box 26 [.sl X.c.length (inl X.c), .v (.int .i64 (X.e 0)), .v (.int .i64 (X.e 1)), .v (.int .i64 (X.e 2)), .v (.int .i64 (X.e 3)), .v (.int .i64 (X.e 4)), .v (.int .i64 (X.e 5)), .v (.int .i64 (X.e 6)), .v (.int .i64 (X.e 7)), .v (.int .i64 (X.e 8)), .v (.int .i64 (X.e 9)), .v (.int .i64 (X.e 10)), .v (.int .i64 (X.e 11)), .v (.int .i64 (X.e 12)), .v (.int .i64 (X.e 13)), .v (.int .i64 (X.e 14)), .v (.int .i64 (X.e 15)), .v (.int .i64 (X.e 16)), .v (.int .i64 (X.e 17)), .v (.int .i64 (X.e 18)), .v (.int .i64 (X.e 19)), .v (.int .i64 (X.e 20)), .v (.int .i64 (X.e 21)), .v (.int .i64 (X.e 22)), .v (.int .i64 (X.e 23)), .v (.int .i64 (X.e 24)), .v (.int .i64 (X.e 25)), .v (.int .i64 (X.e 26)), .v (.int .i64 (X.e 27)), .v (.int .i64 (X.e 28)), .v (.int .i64 (X.e 29)), .v (.int .i64 (X.e 30)), .v (.int .i64 (X.e 31)), .v (.int .i64 (X.e 32)), .v (.int .i64 (X.e 33)), .v (.int .i64 (X.e 34)), .v (.int .i64 (X.e 35)), .v (.int .i64 (X.e 36)), .v (.int .i64 (X.e 37)), .v (.int .i64 (X.e 38)), .v (.int .i64 (X.e 39)), .v (.int .i64 (X.d:Int)), .v (.int .i64 (X.v:Int))])]) [] []
  (by exact ⟨(iV rfl),(iP rfl),(iP rfl),(iP rfl),(iP rfl),(iP rfl),trivial⟩)
  (by exact ⟨(bN rfl rfl rfl),(bN rfl rfl rfl),(bN rfl rfl rfl),(bN rfl rfl rfl),trivial⟩) ?_ ?_
 ·refine aE ?_
  refine aB (σ':=an 90 [(3,_),(5,_),(7,_),(9,_),(10,_),(11,_),(19,_)] [((5,0),_),((7,0),_),((9,0),_),((10,0),_),((11,0),_),((19,0),_)] [] []) kp ?_
  refine go 3 ?_
  refine aj (bb (r:=decide (s.ver=1)) _ _ rfl rfl (by rw [Bool.eq_iff_iff];simp)) ?_
  refine am (ax rfl (fun hc63=> ?_) (fun hc63=> ?_))
  ·have e1:=hX1 hc63
   refine go 3 ?_
   refine ay (⟨(),?_,?_⟩)
   ·trivial
   refine Le.mkJ [] [] rfl ?_ ?_ trivial trivial ?_
   ·exact ⟨(iV rfl),(iP rfl),(iP rfl),(iP rfl),(iP rfl),(iP rfl),trivial⟩
   ·exact ⟨(bN rfl rfl rfl),(bN rfl rfl rfl),(bN rfl rfl rfl),(bN rfl rfl rfl),(cI rfl rfl rfl rfl (ai (cL (by (rw [e1])) (by (rw [e1]))) (ai (aN (by (rw [e1]))) (ai (aN (by (rw [e1]))) (ai (aN (by (rw [e1]))) (ai (aN (by (rw [e1]))) (ai (aN (by (rw [e1]))) (ai (aN (by (rw [e1]))) (ai (aN (by (rw [e1]))) (ai (aN (by (rw [e1]))) (ai (aN (by (rw [e1]))) (ai (aN (by (rw [e1]))) (ai (aN (by (rw [e1]))) (ai (aN (by (rw [e1]))) (ai (aN (by (rw [e1]))) (ai (aN (by (rw [e1]))) (ai (aN (by (rw [e1]))) (ai (aN (by (rw [e1]))) (ai (aN (by (rw [e1]))) (ai (aN (by (rw [e1]))) (ai (aN (by (rw [e1]))) (ai (aN (by (rw [e1]))) (ai (aN (by (rw [e1]))) (ai (aN (by (rw [e1]))) (ai (aN (by (rw [e1]))) (ai (aN (by (rw [e1]))) (ai (aN (by (rw [e1]))) (ai (aN (by (rw [e1]))) (ai (aN (by (rw [e1]))) (ai (aN (by (rw [e1]))) (ai (aN (by (rw [e1]))) (ai (aN (by (rw [e1]))) (ai (aN (by (rw [e1]))) (ai (aN (by (rw [e1]))) (ai (aN (by (rw [e1]))) (ai (aN (by (rw [e1]))) (ai (aN (by (rw [e1]))) (ai (aN (by (rw [e1]))) (ai (aN (by (rw [e1]))) (ai (aN (by (rw [e1]))) (ai (aN (by (rw [e1]))) (ai (aN (by (rw [e1]))) (ai (aN (by (rw [e1]))) (ai (aN (by (rw [e1]))) aK)))))))))))))))))))))))))))))))))))))))))))),trivial⟩
   kernel_rfl
  have e1:=hX2 hc63
  refine aR (⟨(),?_,?_⟩)
  ·trivial
  refine Le.mkJ [] [] rfl ?_ ?_ trivial trivial ?_
  ·exact ⟨(iV rfl),(iP rfl),(iP rfl),(iP rfl),(iP rfl),(iP rfl),trivial⟩
  ·exact ⟨(bN rfl rfl rfl),(bN rfl rfl rfl),(bN rfl rfl rfl),(bN rfl rfl rfl),(cI rfl rfl rfl rfl (ai (cL (by (rw [e1])) (by (rw [e1]))) (ai (aN (by (rw [e1]))) (ai (aN (by (rw [e1]))) (ai (aN (by (rw [e1]))) (ai (aN (by (rw [e1]))) (ai (aN (by (rw [e1]))) (ai (aN (by (rw [e1]))) (ai (aN (by (rw [e1]))) (ai (aN (by (rw [e1]))) (ai (aN (by (rw [e1]))) (ai (aN (by (rw [e1]))) (ai (aN (by (rw [e1]))) (ai (aN (by (rw [e1]))) (ai (aN (by (rw [e1]))) (ai (aN (by (rw [e1]))) (ai (aN (by (rw [e1]))) (ai (aN (by (rw [e1]))) (ai (aN (by (rw [e1]))) (ai (aN (by (rw [e1]))) (ai (aN (by (rw [e1]))) (ai (aN (by (rw [e1]))) (ai (aN (by (rw [e1]))) (ai (aN (by (rw [e1]))) (ai (aN (by (rw [e1]))) (ai (aN (by (rw [e1]))) (ai (aN (by (rw [e1]))) (ai (aN (by (rw [e1]))) (ai (aN (by (rw [e1]))) (ai (aN (by (rw [e1]))) (ai (aN (by (rw [e1]))) (ai (aN (by (rw [e1]))) (ai (aN (by (rw [e1]))) (ai (aN (by (rw [e1]))) (ai (aN (by (rw [e1]))) (ai (aN (by (rw [e1]))) (ai (aN (by (rw [e1]))) (ai (aN (by (rw [e1]))) (ai (aN (by (rw [e1]))) (ai (aN (by (rw [e1]))) (ai (aN (by (rw [e1]))) (ai (aN (by (rw [e1]))) (ai (aN (by (rw [e1]))) (ai (aN (by (rw [e1]))) aK)))))))))))))))))))))))))))))))))))))))))))),trivial⟩
  kernel_rfl
 intro u hu
 refine go 11 ?_
 refine aj (bu aa [((4,8),(72,0))] ar (htl.toI) trivial tr tr rfl rfl ae ae) ?_
 refine Jo rfl (am (aF fun K10 hK10=> ?_))
 refine aB (Le.nilB (72,0) 4 (60,0) 111 7 rfl rfl rfl) ?_
 refine go 10 ?_
 refine aj (lf _ _ (rfl:_=[AV.ptr _ _]) (rfl:_=[])) ?_
 refine aj (bu aa [((4,9),(72,0)),((5,9),(60,0)),((1,8),(84,0)),((2,8),(84,1)),((3,8),(84,2)),((6,8),(84,3)),((5,8),(84,4)),((7,8),(84,5)),((8,8),(84,6)),((9,8),(84,7))] ar (hS) ob tr tr rfl rfl ae ae) ?_
 refine go 7 ?_
 refine ay (hK10 _ ?_)
 refine aE ?_
 refine aB (σ':=an 90 [(10,_),(11,_),(20,_),(21,_),(22,_)] [((10,0),_),((11,0),_),((72,0),_),((84,0),_),((84,1),_),((84,2),_),((84,3),_),((84,4),_),((84,5),_),((84,6),_),((84,7),_),((21,0),_),((22,0),_)] [] []) kp ?_
 refine jD 5 [87,88,89] [(10,0),(11,0)] [[(10,0),(11,0)],[(11,0)],[],[(11,0)],[]] ae ae rfl (bj rfl) (rfl:_=[_,_,_,_,_]) (rfl:_=[_]) ?_
 refine go 6 ?_
 refine aC (_,[((10,0),_)]) (fun τ=> dE _ _ aa rfl (fE rfl (by exact eN) rfl) rfl rfl (Nat.le_of_ble_eq_true rfl) rfl) ?_
 refine go 1 ?_
 refine aC (_,[((11,0),_)]) (fun τ=> dE _ _ aa rfl (fE rfl (by exact eN) rfl) rfl rfl (Nat.le_of_ble_eq_true rfl) rfl) ?_
 refine go 4 ?_
 refine au ?_
 exact AL (.inr rfl) rfl (.cellA aa rfl rfl rfl) (.cellA aa rfl rfl rfl) (.tmp uM) (Le.out [((4,8),(72,0)),((5,8),(84,4)),((7,8),(84,5)),((8,8),(84,6)),((9,8),(84,7)),((1,8),(84,0))] [(84,1),(84,2),(84,3)] (.tup rfl (ai (.agg rfl lz) (ai (.agg rfl (ai .v (ai .v (ai .v (ai (dI rfl rfl (dQ _ _).symm rfl) (ai .v (ai .v (ai (dI rfl rfl (by rw [aq,Nat.mul_one]) rfl) (ai .sl (ai (dI rfl rfl (bT _).symm rfl) lz)))))))))) lz))) rfl rfl rfl tr ob)
set_option maxHeartbeats 4000000 in
theorem JS (s:Ns) (hup:s.up=true) (hs:fJ s) (ho:eX s.dk) (hc:s.counts.length=41) (hcb: -1000000≤s.counts.getD 40 0∧s.counts.getD 40 0≤1000000) (hep: -1000000≤s.epoch∧s.epoch≤1000000) (P Q:Pg) (drift:Int) (a:Na) (hcr:a.crash=true) (h1:a.draws.length≤1000) (h2:a.keeps.length≤1000)
  (hlk: ∀ i:Nat,i < s.dk.pend.length→tg (ft s a 40) 3 (i:Int) 2 (a.keeps.getD i 0)):
  Spec Tryz.prog 45 (aI [ii s,fY P,fY Q, .v (.int .i64 drift),vz a] []) (qe (fQ s (fh s.dk.pend.length a.keeps)) [] 0 Ls (ft s a 40) (0+s.dk.pend.length) ([]++ym (ft s a 40) a.keeps s.dk.pend.length)):=by
 have htl:=lh s a 40 ab h1 h2
 have hcs:=OM s hs ho hc hcb hep (ft s a 40) 0 [] rfl ab a.keeps hlk
 refine Spec.ofN Tryz.func45 rfl Tryz.ntmps45 rfl ?_
 refine go 13 ?_
 refine aj (fI (r:=false) _ rfl (by rw [hup];rfl)) ?_
 refine go 7 ?_
 refine Mh rfl rfl (by rw [if_pos hcr];rfl) ?_
 refine go 5 ?_
 refine aj (bu aa [((4,8),(53,0))] ar (htl.toI) trivial tr tr rfl rfl ae ae) ?_
 refine Jo rfl (am (aF fun K7 hK7=> ?_))
 refine aB (Le.nilB (53,0) 4 (60,0) 111 7 rfl rfl rfl) ?_
 refine go 3 ?_
 refine aj (lf _ _ (rfl:_=[AV.ptr _ _]) (rfl:_=[])) ?_
 refine aj (bu aa [((4,9),(53,0)),((5,9),(60,0)),((5,8),(57,0)),((7,8),(57,1)),((8,8),(57,2)),((9,8),(57,3)),((1,8),(57,4))] ar (hcs) ob tr tr rfl rfl ae ae) ?_
 refine go 5 ?_
 refine ay (hK7 _ ?_)
 exact au (AL (.inr rfl) rfl (.cellA aa rfl rfl rfl) (.cellA aa rfl rfl rfl) (.tmp uM) (Le.out [((4,8),(53,0)),((5,8),(57,0)),((7,8),(57,1)),((8,8),(57,2)),((9,8),(57,3)),((1,8),(57,4))] [] (.tup rfl lz) rfl rfl rfl trivial ob))
end Go.Proofs.YtmjnackchaahbaaGreat
