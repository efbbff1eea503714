/- part 19 -/
import Derived.Test.YtmjnackchaahbaaGreatNsZ18
set_option linter.unusedSimpArgs false
set_option linter.unusedVariables false
namespace Go.Proofs.YtmjnackchaahbaaGreat
open Go.RowKit

abbrev FF (k:Nat) (b:Bool) (a:Ac):Bool:=b || (decide (a.k=1) && decide (a.a=(k:Int)))
abbrev JW (k:Nat) (l:List Ac):Bool:=l.foldl (FF k) false
theorem BP (k:Nat) (l:List Ac) {j:Nat} (h:j < l.length):JW k (l.take (j+1))=FF k (JW k (l.take j)) (lm l j):=by
 have e:l.take (j+1)=l.take j++[lm l j]:=by
  rw [List.take_add_one,List.getElem?_eq_getElem h];unfold lm;rw [List.getD_eq_getElem?_getD,List.getElem?_eq_getElem h];rfl
 rw [e]
 show (l.take j++[lm l j]).foldl (FF k) false=_
 rw [List.foldl_append];rfl
theorem Ar (k:Nat): ∀ (l:List Ac) (b:Bool),l.foldl (FF k) b=false→b=false∧ ∀ a∈l,a.k=1→a.a≠(k:Int)
 | [],b,h=> ⟨h,fun a ha=> (by cases ha)⟩
 | x::l,b,h=> by
  obtain ⟨h1,h2⟩:=Ar k l (FF k b x) h
  unfold FF at h1
  rw [Bool.or_eq_false_iff] at h1
  refine ⟨h1.1,fun a ha e=> ?_⟩
  rcases List.mem_cons.1 ha with rfl | ha
  ·intro e2
   have:=h1.2
   rw [decide_eq_true e,decide_eq_true e2] at this
   cases this
  exact h2 a ha e
theorem xR {P Q:Pg} {tm tq:Int} (hP:mL P tm) (hQ:mL Q tq) {i:Nat} (hi:i≤100) {s:Ns} (hs:SqT P P tm tm i s) (hup:s.up=true): ∃ (c y:Ns) (r:Nr) (R:Ms) (n:Nat) (L0 L:List PV) (cz:Cz),
  Spec Tryz.prog 53 (aY [jC s,jb] (oh qn 0 [] (5,9))) (bb (jC c) (oh qn s.dk.pend.length L0 (5,8)) [(4,9),(5,8)] [(4,9)])∧
  Spec Tryz.prog 56 (aY [jC c,hG Q, .v (.int .i64 1), .v (.int .i64 1), .v (.int .i64 3), .v (.int .i64 0),jb] (oh qn s.dk.pend.length L0 (5,9))) (iB cz R (y,r) qn n L)∧
  y.up=true∧y.ver=1∧rz Q y∧js y∧c.dk.cells.length=P.d∧R.acts.length≤500∧
  ∀ k,k < P.d→k < Q.d→(∀ a∈R.acts,a.k=1→a.a≠(k:Int))→(y.dk.view++y.vol).getD k 0=c.dk.cells.getD k 0:=by
 have hdi:=hs.din
 have hsm:=hs.sm
 have hck:=hs.sq.ck
 have hep:=hs.sq.ep
 have hct:=hs.sq.ct
 have hct40:=hct 40
 have hcl:=hs.sq.cl
 have hns:rz P s:=by have:=(hs.sq.up hup).1;split at this <;> exact this
 have hpn:=hns.dk.pn
 have hcr:=lU s hsm hdi hcl ab ab qn 0 [] rfl ab [] (fun j _=> Ml 3 (j:Int) 2 ab)
 rw [Nat.zero_add,List.nil_append] at hcr
 obtain ⟨c,hc⟩: ∃ c,c=la s (keepB s.dk.pend.length []):=⟨_,rfl⟩
 rw [← hc] at hcr
 have hdk:DkOk P.d c.dk:=by rw [hc];exact hns.dk.crash _
 have hpe:c.dk.pend=[]:=by rw [hc];rfl
 have hcc:c.counts.length=41:=by rw [hc];show (s.counts.set 40 _).length=41;rw [List.length_set];exact hcl
 have hcs:=qz (i:=i) hcl hct 40
 have hcb: ∀ k, -1000000≤c.counts.getD k 0∧c.counts.getD k 0≤1000000:=fun k=> by
  have h:=hcs k
  rw [hc];show -1000000≤(s.counts.set 40 (s.counts.getD 40 0+1)).getD k 0∧(s.counts.set 40 (s.counts.getD 40 0+1)).getD k 0≤1000000
  omega
 have hcck:c.clock=s.clock:=by rw [hc];rfl
 have hsc:js c:=by
  rw [hc]
  exact ⟨by show (oT _ _).length≤_;rw [fU];exact hsm.c,Nat.zero_le _,by show (List.replicate s.vol.length (0:Int)).length≤_;rw [List.length_replicate];exact hsm.v,Nat.zero_le _⟩
 have hdc:iJ c.dk:=fun w hw=> by rw [hpe] at hw;cases hw
 have hb:=qj hQ.pg hQ.cl hQ.tc hdk hcc hcb ab 1
 have hld: ∀ (i:Nat) (k:Int),i≤100000→2≤k→k≤4→rE qn 1 (i:Int) k (gi [] i k):=fun i k _ h2 _=> by
  have e:gi [] i k=0:=Int.zero_emod k
  rw [e];exact Ml _ _ _ ab
 have htk:Rg (cX c.clock 0 0):=cU (by show -1000≤c.clock+1+0∧c.clock+1+0≤1000;omega)
 have hst:=uc Q tq c hsc hdc 1 hb 1 3 0 0 [] (cU ab) (cU ab) htk ab qn (fun h=> absurd h (Int.lt_irrefl 0)) hld _ rfl s.dk.pend.length (yD qn [] s.dk.pend.length) ab (xz _ _ _) (fun h=> absurd h (Int.lt_irrefl 0))
 obtain ⟨ho,iv,hvv,hvw⟩:=kV hQ.pg (oy (p:=Q) hdk hcc 1) (h:=0) (self:=1) (nodes:=3) (drift:=0) (tick:=0) (ans:=[]) Ik (cU ab) (cU ab) htk
 obtain ⟨k1,k2,_,_,_⟩:=ff (cA c Q 1) Q 0 1 3 0 0 (List.replicate 9 0) []
 have htl:pM tq (gW c Q 1 1 3 0 0 []).1.timers:=ip hQ.tc (cA c Q 1) (.inl rfl) 0 1 3 0 0 (List.replicate 9 0) []
 have hrk:=fun k (h1:k < P.d) (h2:k < Q.d)=> sI hQ.pg hdk hpe hcc (v:=1) (drift:=0) (tick:=0) (ans:=[]) htk h2 h1
 refine ⟨c,(gW c Q 1 1 3 0 0 []).1,(gW c Q 1 1 3 0 0 []).2,gI (cA c Q 1) Q 0 1 3 0 0 (List.replicate 9 0) [],_,_,_,_,hcr,hst,k1,k2,ho,AT hQ.pg ho htl,hdk.len,xJ _ _ _ _ _,fun k h1 h2 hw=> ?_⟩
 have e:=hrk k h1 h2 (fun a ha=> hw a (by
  show a∈(pz Q 0 _ _ _).acts
  rw [(pN Q 0 _ _ _).1];exact ha))
 have hvl:(gW c Q 1 1 3 0 0 []).1.dk.view.length=Q.d:=ho.dk.view.1
 rw [List.getD_eq_getElem?_getD,List.getElem?_append_left ab,← List.getD_eq_getElem?_getD]
 exact e
set_option maxHeartbeats 4000000 in
theorem rp (one:Int) (two:Int) (l:List Int) (hone: -9223372036854775808≤one∧one≤9223372036854775807) (htwo: -9223372036854775808≤two∧two≤9223372036854775807) (hl:l.length≤4611686018427387904) (hr: ∀ x∈l, -9223372036854775808≤x∧x≤9223372036854775807):
  Spec Tryz.prog 18 (ba [.v (.int .i64 one), .v (.int .i64 two), .sl l.length (cw l)] []) (aP (.v (.bool true)) []):=by
 have hac:=yo l hl hr
 have hnn:=su
 have hA:=xW l
 have hgt:=HV (jv (l.take 10))
 have hga:=Cr (jv (l.take 10))
 obtain ⟨d,KZ⟩: ∃ d:Int,d=0:=⟨_,rfl⟩
 have hd:0≤d∧d≤3:=by omega
 have hP:=BL one
 have hp:=vt one hone
 generalize Kw one=P at hP hp
 generalize Mx one=tm at hP
 have hQ:=BL two
 have hq:=vt two htwo
 generalize Kw two=Q at hQ hq
 generalize Mx two=tq at hQ
 generalize jv (l.take 10)=A at hac hA hgt hga
 refine Spec.ofN Tryz.func18 rfl Tryz.ntmps18 rfl ?_
 refine am (cq rfl (aj (am (aX rfl (ai (aH aa al (hp) rfl rfl) ?_)))))
 refine ai (aB (7,0) aa rfl rfl) (bG rfl rfl rfl rfl rfl rfl (aj (am (aX rfl (ai (aH aa al (hq) rfl rfl) ?_)))))
 refine ai (aB (8,0) aa rfl rfl) (bG rfl rfl rfl rfl rfl rfl (aj (am (eV rfl (ai (aH aa al (hac) rfl rfl) ?_)))))
 refine kD rfl (aj (am (ai (aH aa (by repeat' (exact cW)) (hnn) rfl rfl) ?_)))
 refine ai (aB (10,0) aa rfl rfl) (bG rfl rfl rfl rfl rfl rfl (aj (aU fun K6 hK6=> ?_)))
 refine aq ?_
 refine aL (σ':=aD 161 [(7,_),(8,_),(9,_),(10,_)] [((7,0),_),((8,0),_),((10,0),_)] [] []) kp ?_
 refine an (be rfl (aj (ay ?_)))
 refine br (α:=Nat×Ns) (fun z=> z.1≤A.length∧SqT P P tm tm z.1 z.2) 161 [(7,_),(8,_),(9,_),(10,_)] [((7,0),_),((8,0),_)] (fun z=> [(11, .v (.int .i64 (z.1:Int)))]) (fun z=> [((10,0), .box 83 [.v (.bool z.2.up), .v (.int .i64 (z.2.ver)), .v (.int .i64 (z.2.epoch)), .v (.int .i64 (z.2.clock)), .sl z.2.dk.cells.length (cw z.2.dk.cells), .sl z.2.dk.pend.length (lq z.2.dk.pend), .sl z.2.vol.length (cw z.2.vol), .sl z.2.timers.length (cw z.2.timers), .v (.int .i64 (cP z.2 0)), .v (.int .i64 (cP z.2 1)), .v (.int .i64 (cP z.2 2)), .v (.int .i64 (cP z.2 3)), .v (.int .i64 (cP z.2 4)), .v (.int .i64 (cP z.2 5)), .v (.int .i64 (cP z.2 6)), .v (.int .i64 (cP z.2 7)), .v (.int .i64 (cP z.2 8)), .v (.int .i64 (cP z.2 9)), .v (.int .i64 (cP z.2 10)), .v (.int .i64 (cP z.2 11)), .v (.int .i64 (cP z.2 12)), .v (.int .i64 (cP z.2 13)), .v (.int .i64 (cP z.2 14)), .v (.int .i64 (cP z.2 15)), .v (.int .i64 (cP z.2 16)), .v (.int .i64 (cP z.2 17)), .v (.int .i64 (cP z.2 18)), .v (.int .i64 (cP z.2 19)), .v (.int .i64 (cP z.2 20)), .v (.int .i64 (cP z.2 21)), .v (.int .i64 (cP z.2 22)), .v (.int .i64 (cP z.2 23)), .v (.int .i64 (cP z.2 24)), .v (.int .i64 (cP z.2 25)), .v (.int .i64 (cP z.2 26)), .v (.int .i64 (cP z.2 27)), .v (.int .i64 (cP z.2 28)), .v (.int .i64 (cP z.2 29)), .v (.int .i64 (cP z.2 30)), .v (.int .i64 (cP z.2 31)), .v (.int .i64 (cP z.2 32)), .v (.int .i64 (cP z.2 33)), .v (.int .i64 (cP z.2 34)), .v (.int .i64 (cP z.2 35)), .v (.int .i64 (cP z.2 36)), .v (.int .i64 (cP z.2 37)), .v (.int .i64 (cP z.2 38)), .v (.int .i64 (cP z.2 39)), .v (.int .i64 (cP z.2 40)), .v (.int .i64 (z.2.wait)), .v (.int .i64 (0)), .v (.int .i64 (0))])]) [] [] (fun z=> A.length - z.1) (0,{}) ?_ (by
  refine Le.mkJ [] [] rfl ?_ ?_ trivial trivial ?_
  ·exact ⟨(iP rfl),(iP rfl),(iS rfl),(iP rfl),(cp ag),trivial⟩
  ·exact ⟨(bM rfl rfl rfl),(bM rfl rfl rfl),(fq rfl rfl rfl rfl lz),trivial⟩
  kernel_rfl) ?_
 ·exact ⟨Nat.zero_le _,HQ P P tm tm⟩
 intro z hz
 obtain ⟨k,s⟩:=z
 obtain ⟨hz1,hs⟩:=hz
 simp only at hz1 hs ⊢
 refine aU fun K8 hK8=> ?_
 refine am (aX rfl (eV rfl (ai (bn _ aa rfl) (ai (bm _ _ rfl rfl rfl) (aj (aR rfl (fun hc32=> ?_) (fun hc32=> ?_)))))))
 ·skip
  obtain ⟨hAk,hk10⟩:=hA k ab
  have ga:=hga k ab
  have gt:=hgt k ab
  rw [hAk] at ga gt
  have hw:=IG l k
  have hnx:=HN hP hP hd ab hs hw
  have hsx:=Kd hP hP hd hw.ok ab hs
  have hwl:=Id hsx
  generalize HG l k=a at*
  generalize eG P P d a s=X at*
  obtain ⟨s',r⟩:=X
  generalize hN a s=h at*
  generalize Ki a s=rc at hnx
  generalize Kp P P d a s=ro at hnx
  generalize fl s a h=tl at hnx
  generalize jx P P d a s=nq at*
  simp only at*
  rw [KZ] at hnx
  refine bs (hK8 _ ?_)
  clear hK8;try clear K8
  refine aU fun K10 hK10=> ?_
  refine ay (aq ?_)
  refine aL (σ':=aD 161 [(7,_),(8,_),(9,_),(10,_),(11,_)] [((7,0),_),((8,0),_),((10,0),_)] [] []) kp ?_
  refine pI 16 [36,37,38,39,40,41,42,43,35,44,45,46,12,13] [(43,0),(43,1),(12,0),(13,0),(12,0),(13,0)] ae ae rfl (rfl:_=[_,_,_,_,_,_,_,_,_,_,_,_,_,_,_,_]) (rfl:_=[_]) ?_
  refine cG (_,[]) (fun τ=> az _ aa rfl rfl rfl rfl) ?_
  refine cF (rfl:_=[_]) ?_
  refine cG (_,[]) (fun τ=> az _ aa rfl rfl rfl rfl) ?_
  refine cF (rfl:_=[_,_]) ?_
  refine cG (_,[]) (fun τ=> az _ aa rfl rfl rfl rfl) ?_
  refine cF (rfl:_=[_,_,_]) ?_
  refine cG (_,[]) (fun τ=> aI _ nD) ?_
  refine cF (rfl:_=[_,_,_,_]) ?_
  refine cG (_,[]) (fun τ=> aI _ eh) ?_
  refine cF (rfl:_=[_,_,_,_,_]) ?_
  refine cG (_,[]) (fun τ=> bp _ _ aa rfl rfl _ rfl ab (by (simp only [aO,bi,bl,aO,fh,mi,fw,pH,jR];omega)) ag) ?_
  refine cF (rfl:_=[_,_,_,_,_,_]) ?_
  refine cG (_,[]) (fun τ=> cf _ aa rfl (by exact ga) rfl) ?_
  refine cF (rfl:_=[_,_,_,_,_,_,_]) ?_
  refine cG (_,[((43,0),_),((43,1),_)]) (fun τ=> (bR aa [((4,8),(43,0)),((5,8),(43,1))] ar (hnx.toI) trivial tr tr rfl rfl ae ae)) ?_
  refine cF (rfl:_=[_,_,_,_,_,_,_,_]) ?_
  refine cG (_,[]) (fun τ=> aI _ tA) ?_
  refine cF (rfl:_=[_,_,_,_,_,_,_,_,_]) ?_
  refine cG (_,[]) (fun τ=> cm _ rfl oZ) ?_
  refine cF (rfl:_=[_,_,_,_,_,_,_,_,_,_]) ?_
  refine cG (_,[]) (fun τ=> cm _ rfl oZ) ?_
  refine cF (rfl:_=[_,_,_,_,_,_,_,_,_,_,_]) ?_
  refine cG (_,[]) (fun τ=> cm _ rfl (rfl:_=some (AV.ptr _ _))) ?_
  refine cF (rfl:_=[_,_,_,_,_,_,_,_,_,_,_,_]) ?_
  refine cG (_,[((12,0),_)]) (fun τ=> aB (12,0) aa rfl rfl) ?_
  refine cF (rfl:_=[_,_,_,_,_,_,_,_,_,_,_,_,_]) ?_
  refine cG (_,[((13,0),_)]) (fun τ=> aB (13,0) aa rfl rfl) ?_
  refine cF (rfl:_=[_,_,_,_,_,_,_,_,_,_,_,_,_,_]) ?_
  refine cG (_,[((12,0),_)]) (fun τ=> dG _ _ aa rfl rfl rfl rfl (Nat.le_of_ble_eq_true rfl) rfl) ?_
  refine cF (rfl:_=[_,_,_,_,_,_,_,_,_,_,_,_,_,_,_]) ?_
  refine cG (_,[((13,0),_)]) (fun τ=> dG _ _ aa rfl rfl rfl rfl (Nat.le_of_ble_eq_true rfl) rfl) ?_
  refine cF (rfl:_=[_,_,_,_,_,_,_,_,_,_,_,_,_,_,_,_]) ?_
  refine nj ⟨⟨rfl,by kernel_rfl,by kernel_rfl⟩,?_⟩
  refine vH rfl (aj (aq (aq ?_)))
  refine aL (σ':=aD 161 [(7,_),(8,_),(9,_),(10,_),(11,_),(12,_)] [((7,0),_),((8,0),_),((10,0),_),((12,0),_)] [] []) kp ?_
  refine an (ai (az _ aa rfl rfl rfl rfl) (ai (az _ aa rfl rfl rfl rfl) (ai (az _ aa rfl rfl rfl rfl) (ai (aH aa al (hwl) rfl rfl) ?_))))
  refine ai (cg _ rfl rfl) (aj (aW rfl rfl (aS (am (ai (az _ aa rfl rfl rfl rfl) (bG rfl rfl rfl rfl rfl rfl (aj (aU fun K15 hK15=> ?_))))))))
  refine am (bc rfl rfl rfl (zF rfl rfl rfl (ai (cg (r:= !s'.up) _ rfl rfl) ?_)))
  refine aj (aR rfl (fun hc55=> ?_) (fun hc55=> ?_))
  ·skip
   refine bB (id (hK10 _ ?_))
   clear hK10;try clear K10
   refine an (aX rfl (ai (aZ _ _ rfl rfl (bE ab)) ?_))
   refine be rfl (aJ (⟨(k+1,s'),?_,?_,?_⟩))
   ·exact ⟨by omega,hsx⟩
   ·skip
    refine Le.mkJ [] [] rfl ?_ ?_ trivial trivial ?_
    ·exact ⟨(iP rfl),(iP rfl),(iS rfl),(iP rfl),(cp ag),trivial⟩
    ·exact ⟨(bM rfl rfl rfl),(bM rfl rfl rfl),(fq rfl rfl rfl rfl lz),trivial⟩
    kernel_rfl
   omega
  have hup:s'.up=true:=by simpa using hc55
  obtain ⟨c,y,ry,R,ny,L0,L,cz,hcr,hst,hyu,hyv,hyn,hys,hcd,hra,hkp⟩:=xR hP hQ ab hsx hup
  have hyw:=Ds y hyu hyv P Q hyn.dk.len hyn.vl
  have hyi:iJ y.dk:=fun w hw=> by
   obtain ⟨b1,b2,_⟩:=hyn.dk.pr w hw
   have:=hyn.dk.len
   exact ⟨b1,by omega⟩
  have hyV:=mI y hys hyi
  have hyl:(y.dk.view++y.vol).length=Q.d+Q.v:=by rw [List.length_append,hyn.dk.view.1,hyn.vl]
  have hQn:=hQ.pg.nv
  refine bs (hK15 _ ?_)
  clear hK15;try clear K15
  refine am (ai (aN _ aa rfl (by exact rq)) ?_)
  refine ai (aQ (57,0) _ rfl rfl) (vH rfl (aj (aq ?_)))
  refine aL (Le.trans (Le.nilB (57,0) 4 (61,0) 111 7 rfl rfl rfl) (Le.nil0 (57,0) 3 rfl rfl)) ?_
  refine an (ai (az _ aa rfl rfl rfl rfl) (bS rfl (ai (iX _ _ (rfl:_=[AV.ptr _ _]) (rfl:_=[])) ?_)))
  refine ai (bR aa [((4,9),(57,0)),((5,9),(61,0)),((5,8),(62,0))] ar (hcr) ob tr tr rfl rfl ae ae) ?_
  refine ai (aB (16,0) aa rfl rfl) (bG rfl rfl rfl rfl rfl rfl (aj (aU fun K19 hK19=> ?_)))
  refine aL (σ':=aD 161 [(7,_),(8,_),(9,_),(10,_),(11,_),(15,_),(16,_)] [((7,0),_),((8,0),_),((10,0),_),((57,0),_),((62,0),_),((16,0),_)] [] []) kp ?_
  refine an (ai (az _ aa rfl rfl rfl rfl) (ai (az _ aa rfl rfl rfl rfl) (bS rfl (ai (iX _ _ (rfl:_=[AV.ptr _ _]) (rfl:_=[])) ?_))))
  refine ai (bR aa [((4,9),(57,0)),((5,9),(62,0)),((1,8),(67,0)),((2,8),(67,1)),((3,8),(67,2)),((6,8),(67,3)),((5,8),(67,4))] ar (hst) ob tr tr rfl rfl ae ae) ?_
  refine ai (aI _ tA) (ai (cm _ rfl oZ) (ai (cm _ rfl oZ) (ai (aB (17,0) aa rfl rfl) (ai (aB (18,0) aa rfl rfl) (bG rfl rfl rfl rfl rfl rfl (bG rfl rfl rfl rfl rfl rfl (aJ (hK19 _ ?_))))))))
  clear hK19;try clear K19
  refine aq (aq ?_)
  refine aL (Le.trans (Le.frzB (ys:=ri R.acts) (18,0) 8 rfl rfl rfl rfl (by rw [List.drop_zero,List.take_of_length_le (by rw [fw];exact Nat.le_refl _)]) (by rw [fw,Nat.zero_add];exact Nat.le_refl _)) (Le.frzB (ys:=cw y.timers) (17,0) 7 rfl rfl rfl rfl (Mv _) (by rw [aO];omega))) ?_
  refine bJ 35 [70,71,72,73,74,75,76,77,78,79,80,81,82,83,84,85,86,87,88,89,90,91,92,93,94,95,96,97,98,99,100,101,102,103,104] [] ae ae rfl (aK rfl) (rfl:_=[_,_,_,_,_,_,_,_,_,_,_,_,_,_,_,_,_,_,_,_,_,_,_,_,_,_,_,_,_,_,_,_,_,_,_]) (rfl:_=[]) ?_
  refine ap (_,[]) (fun τ=> az _ aa rfl rfl rfl rfl) ?_
  refine fD rfl ?_
  refine ap (_,[]) (fun τ=> az _ aa rfl rfl rfl rfl) ?_
  refine fF rfl ?_
  refine ap (_,[]) (fun τ=> az _ aa rfl rfl rfl rfl) ?_
  refine fE rfl ?_
  refine ap (_,[]) (fun τ=> (aH aa al (hyw) rfl rfl)) ?_
  refine fS rfl ?_
  refine ap (_,[]) (fun τ=> cg _ rfl rfl) ?_
  refine gf rfl ?_
  refine ap (_,[]) (fun τ=> aI _ bN) ?_
  refine gS rfl ?_
  refine bo (_,[]) rfl (fun τ=> rfl) (fun τ=> aA _ aa rfl rfl rfl) ?_
  refine ir rfl ?_
  refine bo (_,[]) rfl (fun τ=> rfl) (fun τ=> aF _ aa rfl rfl ee) ?_
  refine jE rfl ?_
  refine bo (_,[]) rfl (fun τ=> rfl) (fun τ=> bU (r:=false) _ _ rfl rfl (by show (y.ver !=1)=false;rw [hyv];rfl)) ?_
  refine jU rfl ?_
  refine ap (_,[]) (fun τ=> aE _ _ _ rfl bN) ?_
  refine fy rfl ?_
  refine ap (_,[]) (fun τ=> aI _ bN) ?_
  refine gd rfl ?_
  refine bo (_,[]) rfl (fun τ=> rfl) (fun τ=> aA _ aa rfl rfl rfl) ?_
  refine jG rfl ?_
  refine bo (_,[]) rfl (fun τ=> rfl) (fun τ=> aF _ aa rfl rfl zx) ?_
  refine kT rfl ?_
  refine bo (_,[]) rfl (fun τ=> rfl) (fun τ=> cg (r:=false) _ rfl (by show (!y.up)=false;rw [hyu];rfl)) ?_
  refine mD rfl ?_
  refine ap (_,[]) (fun τ=> aE _ _ _ rfl bN) ?_
  refine rh rfl ?_
  refine ap (_,[]) (fun τ=> aI _ bN) ?_
  refine re rfl ?_
  refine bo (_,[]) rfl (fun τ=> rfl) (fun τ=> az _ aa rfl rfl rfl rfl) ?_
  refine vZ rfl ?_
  refine bo (_,[]) rfl (fun τ=> rfl) (fun τ=> (aH aa al (hyV) rfl rfl)) ?_
  refine yw rfl ?_
  refine bo (_,[]) rfl (fun τ=> rfl) (fun τ=> bn _ aa rfl) ?_
  refine yK rfl ?_
  refine bo (_,[]) rfl (fun τ=> rfl) (fun τ=> aA _ aa rfl rfl rfl) ?_
  refine Dg rfl ?_
  refine bo (_,[]) rfl (fun τ=> rfl) (fun τ=> aF _ aa rfl rfl ee) ?_
  refine zN rfl ?_
  refine bo (_,[]) rfl (fun τ=> rfl) (fun τ=> aA _ aa rfl rfl rfl) ?_
  refine Af rfl ?_
  refine bo (_,[]) rfl (fun τ=> rfl) (fun τ=> aF _ aa rfl rfl ee) ?_
  refine BC rfl ?_
  refine bo (_,[]) rfl (fun τ=> rfl) (fun τ=> aZ (r:=(Q.d:Int)+(Q.v:Int)) _ _ rfl rfl (bE ab)) ?_
  refine zV rfl ?_
  refine bo (_,[]) rfl (fun τ=> rfl) (fun τ=> bU (r:=false) _ _ rfl rfl (by rw [hyl];exact bne_eq_false_iff_eq.2 ab)) ?_
  refine BI rfl ?_
  refine ap (_,[]) (fun τ=> aE _ _ _ rfl bN) ?_
  refine CK rfl ?_
  refine ap (_,[]) (fun τ=> aI _ bN) ?_
  refine AL rfl ?_
  refine bo (_,[]) rfl (fun τ=> rfl) (fun τ=> aA _ aa rfl rfl rfl) ?_
  refine BM rfl ?_
  refine bo (_,[]) rfl (fun τ=> rfl) (fun τ=> aA _ aa rfl rfl rfl) ?_
  refine LY rfl ?_
  refine bo (_,[]) rfl (fun τ=> rfl) (fun τ=> aF _ aa rfl rfl ef) ?_
  refine Ll rfl ?_
  refine bo (_,[]) rfl (fun τ=> rfl) (fun τ=> bn _ aa rfl) ?_
  refine uD (rfl:_=[_,_,_,_,_,_,_,_,_,_,_,_,_,_,_,_,_,_,_,_,_,_,_,_,_,_,_,_,_,_,_]) ?_
  refine bo (_,[]) rfl (fun τ=> rfl) (fun τ=> aA _ aa rfl rfl rfl) ?_
  refine uD (rfl:_=[_,_,_,_,_,_,_,_,_,_,_,_,_,_,_,_,_,_,_,_,_,_,_,_,_,_,_,_,_,_,_,_]) ?_
  refine bo (_,[]) rfl (fun τ=> rfl) (fun τ=> aF _ aa rfl rfl ee) ?_
  refine uD (rfl:_=[_,_,_,_,_,_,_,_,_,_,_,_,_,_,_,_,_,_,_,_,_,_,_,_,_,_,_,_,_,_,_,_,_]) ?_
  refine bo (_,[]) rfl (fun τ=> rfl) (fun τ=> bU (r:=false) _ _ rfl rfl (by rw [hcd];exact bne_self_eq_false _)) ?_
  refine uD (rfl:_=[_,_,_,_,_,_,_,_,_,_,_,_,_,_,_,_,_,_,_,_,_,_,_,_,_,_,_,_,_,_,_,_,_,_]) ?_
  refine ap (_,[]) (fun τ=> aE _ _ _ rfl bN) ?_
  refine uD (rfl:_=[_,_,_,_,_,_,_,_,_,_,_,_,_,_,_,_,_,_,_,_,_,_,_,_,_,_,_,_,_,_,_,_,_,_,_]) ?_
  refine bj ⟨rfl,?_⟩
  refine aj (aW rfl rfl (aS (aq ?_)))
  refine aL (σ':=aD 161 [(7,_),(8,_),(9,_),(10,_),(11,_),(16,_),(17,_),(18,_)] [((7,0),_),((8,0),_),((10,0),_),((16,0),_),((67,2),_),((67,3),_),((17,0),_),((18,0),_)] [] []) kp ?_
  refine an (be rfl (aj (ay ?_)))
  refine br (α:=Nat) (fun kk=> kk≤P.d∧kk≤Q.d) 161 [(7,_),(8,_),(9,_),(10,_),(11,_),(16,_),(17,_),(18,_)] [((7,0),_),((8,0),_),((10,0),_),((16,0),_),((67,2),_),((67,3),_),((17,0),_),((18,0),_)] (fun kk=> [(19, .v (.int .i64 (kk:Int)))]) (fun kk=> []) [] [] (fun kk=> Q.d - kk) 0 ?_ (by
   refine Le.mkJ [] [] rfl ?_ ?_ trivial trivial ?_
   ·exact ⟨(iP rfl),(iP rfl),(iS rfl),(iP rfl),(iV rfl),(iP rfl),(iP rfl),(iP rfl),(cp ag),trivial⟩
   ·exact ⟨(bM rfl rfl rfl),(bM rfl rfl rfl),(bM rfl rfl rfl),(bM rfl rfl rfl),(bM rfl rfl rfl),(bM rfl rfl rfl),(bM rfl rfl rfl),(bM rfl rfl rfl),trivial⟩
   kernel_rfl) ?_
  ·omega
  intro kk hkk
  refine aU fun K23 hK23=> ?_
  refine am (aX rfl (bc rfl rfl rfl (cd rfl rfl rfl (bc rfl rfl rfl (cd rfl rfl rfl (ai (vV _ _ rfl rfl rfl) (ai (bm (r:=decide ((kk:Int) < min (P.d:Int) (Q.d:Int))) _ _ rfl rfl rfl) ?_)))))))
  refine aj (aR rfl (fun hc111=> ?_) (fun hc111=> ?_))
  ·skip
   have hk1:kk < P.d∧kk < Q.d:=by omega
   refine bs (hK23 _ ?_)
   clear hK23;try clear K23
   refine aq (ay (am (cq rfl (aj (aU fun K27 hK27=> ?_)))))
   refine am (be rfl (aj (ay ?_)))
   refine br (α:=Nat) (fun j=> j≤R.acts.length) 161 [(7,_),(8,_),(9,_),(10,_),(11,_),(16,_),(17,_),(18,_),(19,_)] [((7,0),_),((8,0),_),((10,0),_),((16,0),_),((67,2),_),((67,3),_),((17,0),_),((18,0),_)] (fun j=> [(20, .v (.bool (JW kk (R.acts.take j)))),(21, .v (.int .i64 (j:Int)))]) (fun j=> []) [] [] (fun j=> R.acts.length - j) 0 ?_ (by
    refine Le.mkJ [] [] rfl ?_ ?_ trivial trivial ?_
    ·exact ⟨(iP rfl),(iP rfl),(iS rfl),(iP rfl),(iV rfl),(iP rfl),(iP rfl),(iP rfl),(iV rfl),(mz ag),(cp ag),trivial⟩
    ·exact ⟨(bM rfl rfl rfl),(bM rfl rfl rfl),(bM rfl rfl rfl),(bM rfl rfl rfl),(bM rfl rfl rfl),(bM rfl rfl rfl),(bM rfl rfl rfl),(bM rfl rfl rfl),trivial⟩
    kernel_rfl) ?_
   ·omega
   intro j hj
   refine aU fun K29 hK29=> ?_
   refine am (aX rfl (bc rfl rfl rfl (bc rfl rfl rfl (eW rfl rfl rfl (ai (bn _ aa rfl) (ai (bm (r:=decide ((j:Int) < (R.acts.length:Int))) _ _ rfl rfl rfl) ?_))))))
   refine aj (aR rfl (fun hc119=> ?_) (fun hc119=> ?_))
   ·skip
    have sg0:=Do R.acts j ab
    have sg1:=Cg R.acts j ab
    have ws:=BP kk R.acts (j:=j) ab
    refine bs (hK29 _ ?_)
    clear hK29;try clear K29
    refine aq (ay ?_)
    rcases Bool.eq_false_or_eq_true (JW kk (R.acts.take j)) with hwb | hwb
    ·skip
     refine an (ai (aI (av:= .v (.bool true)) _ (by exact congrArg (fun b=> AV.v (.bool b)) hwb)) ?_)
     refine cN rfl (aM rfl rfl ah ?_)
     refine aM rfl rfl ah ?_
     refine aM rfl rfl ah ?_
     refine aM rfl rfl ah ?_
     refine aM rfl rfl ah ?_
     refine aM rfl rfl ah ?_
     refine aM rfl rfl ah ?_
     refine aM rfl rfl ah ?_
     refine aM rfl rfl ah ?_
     refine eK rfl rfl (eK rfl rfl (eK rfl rfl (eK rfl rfl (eK rfl rfl (eK rfl rfl (eK rfl rfl (eK rfl rfl (eK rfl rfl (aM rfl rfl ah ?_)))))))))
     refine ai (aE _ _ _ rfl bN) (cq rfl (dY ?_))
     refine aL (σ':=aD 161 [(7,_),(8,_),(9,_),(10,_),(11,_),(16,_),(17,_),(18,_),(19,_),(20,_),(21,_)] [((7,0),_),((8,0),_),((10,0),_),((16,0),_),((67,2),_),((67,3),_),((17,0),_),((18,0),_)] [] []) kp ?_
     refine an (aX rfl (ai (aZ _ _ rfl rfl (bE ab)) ?_))
     refine be rfl (aJ (⟨j+1,?_,?_,?_⟩))
     ·omega
     ·skip
      refine Le.mkJ [] [] rfl ?_ ?_ trivial trivial ?_
      ·exact ⟨(iP rfl),(iP rfl),(iS rfl),(iP rfl),(iV rfl),(iP rfl),(iP rfl),(iP rfl),(iV rfl),(mz (by ((rw [ws];unfold FF;rw [hwb];rfl)))),(cp ag),trivial⟩
      ·exact ⟨(bM rfl rfl rfl),(bM rfl rfl rfl),(bM rfl rfl rfl),(bM rfl rfl rfl),(bM rfl rfl rfl),(bM rfl rfl rfl),(bM rfl rfl rfl),(bM rfl rfl rfl),trivial⟩
      kernel_rfl
     omega
    refine an (ai (aI (av:= .v (.bool false)) _ (by exact congrArg (fun b=> AV.v (.bool b)) hwb)) ?_)
    refine cN rfl (ax rfl rfl (aA _ aa rfl rfl rfl) (ax rfl rfl (aA _ aa rfl rfl rfl) (ax rfl rfl (aF _ aa rfl rfl ef) (ax rfl rfl (aI _ eh) (ax rfl rfl (bp _ _ aa rfl rfl j rfl (by show j < R.acts.length;omega) (by show 0 < (ri R.acts).length;rw [fw];omega) rfl) ?_)))))
    refine ax rfl rfl (dg _ aa rfl rfl) (ax rfl rfl (bO _ aa rfl (by exact sg0) rfl) ?_)
    refine ax rfl rfl (bC (r:=decide ((lm R.acts j).k=1)) _ _ rfl rfl (by rw [Bool.eq_iff_iff];simp)) ?_
    refine ax rfl rfl (aI _ bN) (dj (fun hg132=> ?_) (fun hg132=> ?_))
    ·skip
     refine ax rfl rfl (aA _ aa rfl rfl rfl) (ax rfl rfl (aA _ aa rfl rfl rfl) (ax rfl rfl (aF _ aa rfl rfl ef) (ax rfl rfl (aI _ eh) (ax rfl rfl (bp _ _ aa rfl rfl j rfl (by show j < R.acts.length;omega) (by show 0 < (ri R.acts).length;rw [fw];omega) rfl) ?_))))
     refine ax rfl rfl (dg _ aa rfl rfl) (ax rfl rfl (bO _ aa rfl (by exact sg1) rfl) ?_)
     refine ax rfl rfl (aI _ eh) (ax rfl rfl (bC (r:=decide ((lm R.acts j).a=(kk:Int))) _ _ rfl rfl (by rw [Bool.eq_iff_iff];simp)) ?_)
     refine ax rfl rfl (aE _ _ _ rfl bN) (ai (aE _ _ _ rfl bN) (cq rfl (dY ?_)))
     refine aL (σ':=aD 161 [(7,_),(8,_),(9,_),(10,_),(11,_),(16,_),(17,_),(18,_),(19,_),(20,_),(21,_)] [((7,0),_),((8,0),_),((10,0),_),((16,0),_),((67,2),_),((67,3),_),((17,0),_),((18,0),_)] [] []) kp ?_
     refine an (aX rfl (ai (aZ _ _ rfl rfl (bE ab)) ?_))
     refine be rfl (aJ (⟨j+1,?_,?_,?_⟩))
     ·omega
     ·skip
      refine Le.mkJ [] [] rfl ?_ ?_ trivial trivial ?_
      ·exact ⟨(iP rfl),(iP rfl),(iS rfl),(iP rfl),(iV rfl),(iP rfl),(iP rfl),(iP rfl),(iV rfl),(mz (by ((rw [ws];unfold FF;rw [hwb];(rw [decide_eq_true hg132];rfl))))),(cp ag),trivial⟩
      ·exact ⟨(bM rfl rfl rfl),(bM rfl rfl rfl),(bM rfl rfl rfl),(bM rfl rfl rfl),(bM rfl rfl rfl),(bM rfl rfl rfl),(bM rfl rfl rfl),(bM rfl rfl rfl),trivial⟩
      kernel_rfl
     omega
    refine aM rfl rfl ah ?_
    refine aM rfl rfl ah ?_
    refine aM rfl rfl ah ?_
    refine aM rfl rfl ah ?_
    refine aM rfl rfl ah ?_
    refine aM rfl rfl ah ?_
    refine aM rfl rfl ah ?_
    refine aM rfl rfl ah ?_
    refine aM rfl rfl ah ?_
    refine ax rfl rfl (aE _ _ _ rfl bN) (ai (aE _ _ _ rfl bN) (cq rfl (dY ?_)))
    refine aL (σ':=aD 161 [(7,_),(8,_),(9,_),(10,_),(11,_),(16,_),(17,_),(18,_),(19,_),(20,_),(21,_)] [((7,0),_),((8,0),_),((10,0),_),((16,0),_),((67,2),_),((67,3),_),((17,0),_),((18,0),_)] [] []) kp ?_
    refine an (aX rfl (ai (aZ _ _ rfl rfl (bE ab)) ?_))
    refine be rfl (aJ (⟨j+1,?_,?_,?_⟩))
    ·omega
    ·skip
     refine Le.mkJ [] [] rfl ?_ ?_ trivial trivial ?_
     ·exact ⟨(iP rfl),(iP rfl),(iS rfl),(iP rfl),(iV rfl),(iP rfl),(iP rfl),(iP rfl),(iV rfl),(mz (by ((rw [ws];unfold FF;rw [hwb];(rw [decide_eq_false hg132];rfl))))),(cp ag),trivial⟩
     ·exact ⟨(bM rfl rfl rfl),(bM rfl rfl rfl),(bM rfl rfl rfl),(bM rfl rfl rfl),(bM rfl rfl rfl),(bM rfl rfl rfl),(bM rfl rfl rfl),(bM rfl rfl rfl),trivial⟩
     kernel_rfl
    omega
   obtain rfl:j=R.acts.length:=by omega
   rw [List.take_length]
   refine bB (id (hK27 _ ?_))
   clear hK27;try clear K27
   refine aq ?_
   rcases Bool.eq_false_or_eq_true (JW kk R.acts) with hwb | hwb
   ·skip
    refine aL (σ':=aD 161 [(7,_),(8,_),(9,_),(10,_),(11,_),(16,_),(17,_),(18,_),(19,_),(20,_)] [((7,0),_),((8,0),_),((10,0),_),((16,0),_),((67,2),_),((67,3),_),((17,0),_),((18,0),_)] [] []) kp ?_
    refine bJ 16 [144,145,146,147,148,149,150,151,152,153,154,155,156,157,158,159] [] ae ae rfl (aK rfl) (rfl:_=[_,_,_,_,_,_,_,_,_,_,_,_,_,_,_,_]) (rfl:_=[]) ?_
    refine ap (_,[]) (fun τ=> aI (av:= .v (.bool true)) _ (by exact congrArg (fun b=> AV.v (.bool b)) hwb)) ?_
    refine fD rfl ?_
    refine ap (_,[]) (fun τ=> cg (r:=false) _ rfl rfl) ?_
    refine fF rfl ?_
    refine ap (_,[]) (fun τ=> aI _ bN) ?_
    refine fE rfl ?_
    refine cj rfl (fun τ=> rfl) ah ?_
    refine fS rfl ?_
    refine cj rfl (fun τ=> rfl) ah ?_
    refine gf rfl ?_
    refine cj rfl (fun τ=> rfl) ah ?_
    refine gS rfl ?_
    refine cj rfl (fun τ=> rfl) ah ?_
    refine ir rfl ?_
    refine cj rfl (fun τ=> rfl) ah ?_
    refine jE rfl ?_
    refine cj rfl (fun τ=> rfl) ah ?_
    refine jU rfl ?_
    refine cj rfl (fun τ=> rfl) ah ?_
    refine fy rfl ?_
    refine cj rfl (fun τ=> rfl) ah ?_
    refine gd rfl ?_
    refine cj rfl (fun τ=> rfl) ah ?_
    refine jG rfl ?_
    refine cj rfl (fun τ=> rfl) ah ?_
    refine kT rfl ?_
    refine cj rfl (fun τ=> rfl) ah ?_
    refine mD rfl ?_
    refine cj rfl (fun τ=> rfl) ah ?_
    refine rh rfl ?_
    refine ap (_,[]) (fun τ=> aE _ _ _ rfl bN) ?_
    refine re rfl (bj ⟨rfl,?_⟩)
    refine aj (aW rfl rfl (cr ?_))
    refine aL (σ':=aD 161 [(7,_),(8,_),(9,_),(10,_),(11,_),(16,_),(17,_),(18,_),(19,_)] [((7,0),_),((8,0),_),((10,0),_),((16,0),_),((67,2),_),((67,3),_),((17,0),_),((18,0),_)] [] []) kp ?_
    refine an (aX rfl (ai (aZ _ _ rfl rfl (bE ab)) ?_))
    refine be rfl (aJ (⟨kk+1,?_,?_,?_⟩))
    ·omega
    ·skip
     refine Le.mkJ [] [] rfl ?_ ?_ trivial trivial ?_
     ·exact ⟨(iP rfl),(iP rfl),(iS rfl),(iP rfl),(iV rfl),(iP rfl),(iP rfl),(iP rfl),(cp ag),trivial⟩
     ·exact ⟨(bM rfl rfl rfl),(bM rfl rfl rfl),(bM rfl rfl rfl),(bM rfl rfl rfl),(bM rfl rfl rfl),(bM rfl rfl rfl),(bM rfl rfl rfl),(bM rfl rfl rfl),trivial⟩
     kernel_rfl
    omega
   refine aL (σ':=aD 161 [(7,_),(8,_),(9,_),(10,_),(11,_),(16,_),(17,_),(18,_),(19,_),(20,_)] [((7,0),_),((8,0),_),((10,0),_),((16,0),_),((67,2),_),((67,3),_),((17,0),_),((18,0),_)] [] []) kp ?_
   refine bJ 16 [144,145,146,147,148,149,150,151,152,153,154,155,156,157,158,159] [] ae ae rfl (aK rfl) (rfl:_=[_,_,_,_,_,_,_,_,_,_,_,_,_,_,_,_]) (rfl:_=[]) ?_
   refine ap (_,[]) (fun τ=> aI (av:= .v (.bool false)) _ (by exact congrArg (fun b=> AV.v (.bool b)) hwb)) ?_
   refine fD rfl ?_
   refine ap (_,[]) (fun τ=> cg (r:=true) _ rfl rfl) ?_
   refine fF rfl ?_
   refine ap (_,[]) (fun τ=> aI _ bN) ?_
   refine fE rfl ?_
   refine bo (_,[]) rfl (fun τ=> rfl) (fun τ=> az _ aa rfl rfl rfl rfl) ?_
   refine fS rfl ?_
   refine bo (_,[]) rfl (fun τ=> rfl) (fun τ=> (aH aa al (hyV) rfl rfl)) ?_
   refine gf rfl ?_
   refine bo (_,[]) rfl (fun τ=> rfl) (fun τ=> aI _ eh) ?_
   refine gS rfl ?_
   refine bo (_,[]) rfl (fun τ=> rfl) (fun τ=> bp _ _ aa rfl rfl kk rfl (by rw [hyl];omega) (by rw [aO,hyl];omega) (Nat.mul_one _)) ?_
   refine ir rfl ?_
   refine bo (_,[]) rfl (fun τ=> rfl) (fun τ=> bO _ aa rfl (by exact dK _ _ (by rw [hyl];omega)) rfl) ?_
   refine jE rfl ?_
   refine bo (_,[]) rfl (fun τ=> rfl) (fun τ=> aA _ aa rfl rfl rfl) ?_
   refine jU rfl ?_
   refine bo (_,[]) rfl (fun τ=> rfl) (fun τ=> aA _ aa rfl rfl rfl) ?_
   refine fy rfl ?_
   refine bo (_,[]) rfl (fun τ=> rfl) (fun τ=> aF _ aa rfl rfl ef) ?_
   refine gd rfl ?_
   refine bo (_,[]) rfl (fun τ=> rfl) (fun τ=> aI _ eh) ?_
   refine jG rfl ?_
   refine bo (_,[]) rfl (fun τ=> rfl) (fun τ=> bp _ _ aa rfl rfl kk rfl ab (by rw [aO];omega) (Nat.mul_one _)) ?_
   refine kT rfl ?_
   refine bo (_,[]) rfl (fun τ=> rfl) (fun τ=> bO _ aa rfl (by exact dK _ _ ab) rfl) ?_
   refine mD rfl ?_
   refine bo (_,[]) rfl (fun τ=> rfl) (fun τ=> bU (r:=false) _ _ rfl rfl (by rw [hkp kk hk1.1 hk1.2 (Ar kk R.acts false hwb).2];exact bne_self_eq_false _)) ?_
   refine rh rfl ?_
   refine ap (_,[]) (fun τ=> aE _ _ _ rfl bN) ?_
   refine re rfl (bj ⟨rfl,?_⟩)
   refine aj (aW rfl rfl (cr ?_))
   refine aL (σ':=aD 161 [(7,_),(8,_),(9,_),(10,_),(11,_),(16,_),(17,_),(18,_),(19,_)] [((7,0),_),((8,0),_),((10,0),_),((16,0),_),((67,2),_),((67,3),_),((17,0),_),((18,0),_)] [] []) kp ?_
   refine an (aX rfl (ai (aZ _ _ rfl rfl (bE ab)) ?_))
   refine be rfl (aJ (⟨kk+1,?_,?_,?_⟩))
   ·omega
   ·skip
    refine Le.mkJ [] [] rfl ?_ ?_ trivial trivial ?_
    ·exact ⟨(iP rfl),(iP rfl),(iS rfl),(iP rfl),(iV rfl),(iP rfl),(iP rfl),(iP rfl),(cp ag),trivial⟩
    ·exact ⟨(bM rfl rfl rfl),(bM rfl rfl rfl),(bM rfl rfl rfl),(bM rfl rfl rfl),(bM rfl rfl rfl),(bM rfl rfl rfl),(bM rfl rfl rfl),(bM rfl rfl rfl),trivial⟩
    kernel_rfl
   omega
  refine bB (id (hK10 _ ?_))
  clear hK10;try clear K10
  refine an (aX rfl (ai (aZ _ _ rfl rfl (bE ab)) ?_))
  refine be rfl (aJ (⟨(k+1,s'),?_,?_,?_⟩))
  ·exact ⟨by omega,hsx⟩
  ·skip
   refine Le.mkJ [] [] rfl ?_ ?_ trivial trivial ?_
   ·exact ⟨(iP rfl),(iP rfl),(iS rfl),(iP rfl),(cp ag),trivial⟩
   ·exact ⟨(bM rfl rfl rfl),(bM rfl rfl rfl),(fq rfl rfl rfl rfl lz),trivial⟩
   kernel_rfl
  omega
 refine bB (id (hK6 _ ?_))
 clear hK6;try clear K6
 refine am (ai (aH aa (by repeat' (exact cW)) (DY) rfl rfl) ?_)
 exact cq rfl (aj (aG (fv rfl rfl)))
theorem pt (one:Int) (two:Int) (hone: -9223372036854775808≤one∧one≤9223372036854775807) (htwo: -9223372036854775808≤two∧two≤9223372036854775807) (n0:Nat) (l:List Int) (h0:l.length=n0) (g0:n0≤4611686018427387904) (r0:Rng l):
  Spec Tryz.prog 18 (ba [.v (.int .i64 one), .v (.int .i64 two), .sl n0 (cw l)] []) (aP (.v (.bool true)) []):=by
 subst h0
 exact rp one two l hone htwo g0 r0
end Go.Proofs.YtmjnackchaahbaaGreat
