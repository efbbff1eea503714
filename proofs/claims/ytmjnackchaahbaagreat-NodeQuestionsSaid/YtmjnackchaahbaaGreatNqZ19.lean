/- part 19 -/
import Derived.Test.YtmjnackchaahbaaGreatNqZ18
set_option linter.unusedSimpArgs false
set_option linter.unusedVariables false
namespace Go.Proofs.YtmjnackchaahbaaGreat
open Go.RowKit

abbrev q0:Qa:=⟨0,0,0,0⟩
structure Mt (cr:Bool) (d:Int) (pn:Nat) (nq:List Qa):Prop where
 l:nq.length≤1000
 c:cr=true→nq.length=pn∧ ∀ k,k < nq.length→(nq.getD k q0).kind=3∧(nq.getD k q0).idx=(k:Int)∧(nq.getD k q0).ar=2
 t:cr=false→0 < d→0 < nq.length∧(nq.getD 0 q0).kind=2∧(nq.getD 0 q0).idx=0∧(nq.getD 0 q0).ar=d+1
 h:cr=false→ ∀ k,hY d≤k→k < nq.length→(nq.getD k q0).kind=1∧(nq.getD k q0).idx=(k:Int) - (hY d:Int)∧2≤(nq.getD k q0).ar∧(nq.getD k q0).ar≤4
theorem qL {d tick:Int} {asked ans:List Int} (pn:Nat) (ha: ∀ k∈asked,2≤k∧k≤4) (hl:asked.length≤500):Mt false d pn (gl d tick asked ans):=by
 refine ⟨?_,fun h=> (by cases h),fun _ hd=> ?_,fun _ k hk hl=> ?_⟩
 ·rw [iz];unfold hY;split <;> omega
 ·unfold gl
  rw [if_pos hd]
  refine ⟨?_,rfl,rfl,rfl⟩
  rw [List.length_append];exact Nat.lt_of_lt_of_le Nat.one_pos (Nat.le_add_right _ _)
 have hg:(gl d tick asked ans).getD k q0=⟨1,((k - hY d:Nat):Int),asked.getD (k - hY d) 0,gv ans (k - hY d) (asked.getD (k - hY d) 0)⟩:=by
  have hl2:k - hY d < asked.length:=by rw [iz] at hl;omega
  have hp:(if 0 < d then [(⟨2,0,d+1,tick % (d+1)⟩:Qa)] else []).length=hY d:=by unfold hY;split <;> rfl
  unfold gl
  rw [List.getD_eq_getElem?_getD,List.getElem?_append_right (by rw [hp];exact hk),hp,List.getElem?_map,List.getElem?_range hl2]
  rfl
 have hl2:k - hY d < asked.length:=by rw [iz] at hl;omega
 rw [hg]
 refine ⟨rfl,?_,?_⟩
 ·show ((k - hY d:Nat):Int)=_;omega
 have hm:asked.getD (k - hY d) 0∈asked:=by rw [List.getD_eq_getElem?_getD,List.getElem?_eq_getElem hl2];exact List.getElem_mem _
 exact ha _ hm
theorem yo (d:Int) (pn:Nat) (hp:pn≤1000) (keeps:List Int):Mt true d pn (iQ pn keeps):=by
 refine ⟨by simpa [iQ] using hp,fun _=> ⟨by simp [iQ],fun k hk=> ?_⟩,fun h=> (by cases h),fun h=> (by cases h)⟩
 have hk2:k < pn:=by simpa [iQ] using hk
 have hg:(iQ pn keeps).getD k q0=⟨3,(k:Int),2,keeps.getD k 0⟩:=by
  unfold iQ
  rw [List.getD_eq_getElem?_getD,List.getElem?_map,List.getElem?_range hk2]
  rfl
 rw [hg]
 exact ⟨rfl,rfl,rfl⟩
theorem ud (p:Pg) (h:Nat) (names vars ans:List Int):(jb p h names vars ans).asked.length≤500:=by
 unfold jb
 split
 ·exact Nat.zero_le _
 have h1:=kx (K:=⟨p.c,p.d,names,ans⟩) (I:=Sz) (fun s hs _=> sk hs) 500 (dV vars (p.e h).toNat) ⟨Nat.le_refl _,Nat.le_refl _,Nat.le_refl _⟩
 have h2:=(mi (K:=⟨p.c,p.d,names,ans⟩) 500 (dV vars (p.e h).toNat)).1
 have h3:=h1.ak
 have h4:(dV vars (p.e h).toNat).steps=0:=rfl
 omega
theorem Ht {p q:Pg} (hp:mW p) (hq:mW q) {d:Int} (hd:0≤d∧d≤3) {a:Na} (ha:Bp a) {i:Nat} (hi:i≤100) {s:Ns} (h:Sq p q i s):Mt (s.up && a.crash) d s.dk.pend.length (iL p q d a s):=by
 have hck:=h.ck
 have htk:=nB (clock:=s.clock) (tick:=a.tick) hd
 unfold iL
 split
 ·rename_i hu
  obtain ⟨⟨n,hdk⟩,_,_⟩:=h.dn hu
  have hb:(s.up && a.crash)=false:=by rw [hu];rfl
  rw [hb]
  have hok:mW (cd p q s):=by unfold cd;split <;> split <;> assumption
  have hb:=rZ (p:=cd p q s) hdk h.cl (iJ s)
  exact qL _ (kQ hok hb (h:=0) (self:=1) (nodes:=3) (drift:=d) (tick:=a.tick) (ans:=a.draws) Iv (de ab) (de ab) (de (by show -1000≤cT s.clock d a.tick∧cT s.clock d a.tick≤1000;omega))).2.1.ar (ud _ _ _ _ _)
 rename_i hu
 have hu:s.up=true:=by simpa using hu
 obtain ⟨hs,hv⟩:=h.up hu
 split
 ·rename_i hc
  have hb:(s.up && a.crash)=true:=by rw [hu,hc];rfl
  rw [hb];exact yo _ _ (by have:=hs.dk.pn;omega) _
 rename_i hc
 have hb:(s.up && a.crash)=false:=by rw [hu];simpa using hc
 rw [hb]
 have hpg:cd p q s=if s.ver=1 then q else p:=by unfold cd;rw [if_pos hu]
 have hok:mW (cd p q s):=by rw [hpg];split <;> assumption
 have hs':tH (cd p q s) { s with wait:=a.wait }:=by rw [hpg];exact ⟨hs.dk,hs.vl,hs.vr,hs.tm,hs.ct⟩
 exact qL _ (kQ hok hs' (h:=a.h) (self:=1) (nodes:=3) (drift:=d) (tick:=a.tick) (ans:=a.draws) ha.nm (de ab) (de ab) (de (by show -1000≤cT s.clock d a.tick∧cT s.clock d a.tick≤1000;omega))).2.1.ar (ud _ _ _ _ _)
theorem Fl (t:Tl) (l:List Qa) (k:Nat) (h:k < l.length) (j:Nat) (hj:j < 7):(Bf t l)[k*7+j]? =(rA t (l.getD k q0).kind (l.getD k q0).idx (l.getD k q0).ar (l.getD k q0).n)[j]? :=by
 have e:l.getD k q0=l[k]:=by rw [List.getD_eq_getElem?_getD,List.getElem?_eq_getElem h];rfl
 rw [e];exact lx (fun x:Qa=> rA t x.kind x.idx x.ar x.n) 7 (fun _=> rfl) l k j h hj
theorem Ds (t:Tl) (l:List Qa) (k:Nat) (h:k < l.length):PV.ups (((Bf t l).drop (k*7)).take 7)=[.v (.int .i64 t.c1), .v (.int .i64 t.c2), .v (.int .i64 t.c3), .v (.int .i64 (l.getD k q0).kind), .v (.int .i64 (l.getD k q0).idx), .v (.int .i64 (l.getD k q0).ar), .v (.int .i64 (l.getD k q0).n)]:=by
 have e:l.getD k q0=l[k]:=by rw [List.getD_eq_getElem?_getD,List.getElem?_eq_getElem h];rfl
 rw [e,show ((Bf t l).drop (k*7)).take 7=rA t l[k].kind l[k].idx l[k].ar l[k].n from lU (fun x:Qa=> rA t x.kind x.idx x.ar x.n) 7 (fun _=> rfl) l k h];rfl
set_option maxHeartbeats 4000000 in
theorem px (one:Int) (dr:Int) (l:List Int) (hone: -9223372036854775808≤one∧one≤9223372036854775807) (hdr: -9223372036854775808≤dr∧dr≤9223372036854775807) (hl:l.length≤4611686018427387904) (hr: ∀ x∈l, -9223372036854775808≤x∧x≤9223372036854775807):
  Spec Tryz.prog 12 (ba [.v (.int .i64 one), .v (.int .i64 dr), .sl l.length (cw l)] []) (aP (.v (.bool true)) []):=by
 have hac:=yg l hl hr
 have hnn:=rt
 have hA:=yA l
 have hgt:=Hh (jB (l.take 10))
 have hga:=Aw (jB (l.take 10))
 have ha:=ir dr 4 ab ab hdr.1 hdr.2
 have hd:0≤dv dr 4∧dv dr 4≤3:=⟨ia dr 4 ab,by have:=jo dr 4 ab;omega⟩
 generalize dv dr 4=d at ha hd
 have hP:=GR one
 have hp:=AU one hone
 generalize Lt one=P at hP hp
 generalize MS one=tm at hP
 generalize jB (l.take 10)=A at hac hA hgt hga
 refine Spec.ofN Tryz.func12 rfl Tryz.ntmps12 rfl ?_
 refine am (cu rfl (aj (am (aX rfl (ai (aI aa al (hp) rfl rfl) ?_)))))
 refine ai (aD (7,0) aa rfl rfl) (bG rfl rfl rfl rfl rfl rfl (aj (am (aX rfl (ai (aI aa al (ha) rfl rfl) ?_)))))
 refine be rfl (aj (am (eY rfl (ai (aI aa al (hac) rfl rfl) ?_))))
 refine kH rfl (aj (am (ai (aI aa (by repeat' (exact cX)) (hnn) rfl rfl) ?_)))
 refine ai (aD (10,0) aa rfl rfl) (bG rfl rfl rfl rfl rfl rfl (aj (aU fun K6 hK6=> ?_)))
 refine am (be rfl (aj (ay ?_)))
 refine bq (α:=Nat×Ns) (fun z=> z.1≤A.length∧IO P P tm tm z.1 z.2) 181 [(7,_),(8,_),(9,_),(10,_)] [((7,0),_)] (fun z=> [(11, .v (.int .i64 (z.1:Int)))]) (fun z=> [((10,0), .box 83 [.v (.bool z.2.up), .v (.int .i64 (z.2.ver)), .v (.int .i64 (z.2.epoch)), .v (.int .i64 (z.2.clock)), .sl z.2.dk.cells.length (cw z.2.dk.cells), .sl z.2.dk.pend.length (lG z.2.dk.pend), .sl z.2.vol.length (cw z.2.vol), .sl z.2.timers.length (cw z.2.timers), .v (.int .i64 (cO z.2 0)), .v (.int .i64 (cO z.2 1)), .v (.int .i64 (cO z.2 2)), .v (.int .i64 (cO z.2 3)), .v (.int .i64 (cO z.2 4)), .v (.int .i64 (cO z.2 5)), .v (.int .i64 (cO z.2 6)), .v (.int .i64 (cO z.2 7)), .v (.int .i64 (cO z.2 8)), .v (.int .i64 (cO z.2 9)), .v (.int .i64 (cO z.2 10)), .v (.int .i64 (cO z.2 11)), .v (.int .i64 (cO z.2 12)), .v (.int .i64 (cO z.2 13)), .v (.int .i64 (cO z.2 14)), .v (.int .i64 (cO z.2 15)), .v (.int .i64 (cO z.2 16)), .v (.int .i64 (cO z.2 17)), .v (.int .i64 (cO z.2 18)), .v (.int .i64 (cO z.2 19)), .v (.int .i64 (cO z.2 20)), .v (.int .i64 (cO z.2 21)), .v (.int .i64 (cO z.2 22)), .v (.int .i64 (cO z.2 23)), .v (.int .i64 (cO z.2 24)), .v (.int .i64 (cO z.2 25)), .v (.int .i64 (cO z.2 26)), .v (.int .i64 (cO z.2 27)), .v (.int .i64 (cO z.2 28)), .v (.int .i64 (cO z.2 29)), .v (.int .i64 (cO z.2 30)), .v (.int .i64 (cO z.2 31)), .v (.int .i64 (cO z.2 32)), .v (.int .i64 (cO z.2 33)), .v (.int .i64 (cO z.2 34)), .v (.int .i64 (cO z.2 35)), .v (.int .i64 (cO z.2 36)), .v (.int .i64 (cO z.2 37)), .v (.int .i64 (cO z.2 38)), .v (.int .i64 (cO z.2 39)), .v (.int .i64 (cO z.2 40)), .v (.int .i64 (z.2.wait)), .v (.int .i64 (0)), .v (.int .i64 (0))])]) [] [] (fun z=> A.length - z.1) (0,{}) ?_ (by
  refine Le.mkJ [] [] rfl ?_ ?_ trivial trivial ?_
  ·exact ⟨(iP rfl),(iV rfl),(iS rfl),(iP rfl),(co ag),trivial⟩
  ·exact ⟨(bF rfl rfl rfl),(fu rfl rfl rfl rfl lz),trivial⟩
  kernel_rfl) ?_
 ·exact ⟨Nat.zero_le _,Hj P P tm tm⟩
 intro z hz
 obtain ⟨k,s⟩:=z
 obtain ⟨hz1,hs⟩:=hz
 simp only at hz1 hs ⊢
 refine aU fun K8 hK8=> ?_
 refine am (aX rfl (eY rfl (ai (bo _ aa rfl) (ai (bl _ _ rfl rfl rfl) (aj (aR rfl (fun hc30=> ?_) (fun hc30=> ?_)))))))
 ·skip
  obtain ⟨hAk,hk10⟩:=hA k ab
  have ga:=hga k ab
  have gt:=hgt k ab
  rw [hAk] at ga gt
  have hw:=HG l k
  have hnx:=IL hP hP hd ab hs hw
  have hsx:=Je hP hP hd hw.ok ab hs
  have hwl:=HD hsx
  have hnq:=Ht hP.pg hP.pg hd hw.ok ab hs.sq
  generalize IE l k=a at*
  generalize eF P P d a s=X at*
  obtain ⟨s',r⟩:=X
  generalize hN a s=h at*
  generalize KJ a s=rc at hnx
  generalize KM P P d a s=ro at hnx
  generalize fm s a h=tl at hnx
  generalize iL P P d a s=nq at*
  simp only at*
  have hcs:(s.up=true∧a.crash=true)∨(s.up=true∧a.crash=false)∨s.up=false:=by cases s.up <;> cases a.crash <;> simp
  refine bs (hK8 _ ?_)
  clear hK8;try clear K8
  refine aq (ay ?_)
  refine mh (α:=Unit) (fun u=> True) 181 [(7,_),(8,_),(9,_),(10,_),(11,_)] [((7,0),_),((10,0),_)] (fun u=> [(12, .v (.bool (s.up && a.crash)))]) (fun u=> []) [] []
   (by exact ⟨(iP rfl),(iV rfl),(iS rfl),(iP rfl),(iV rfl),trivial⟩)
   (by exact ⟨(bF rfl rfl rfl),(bF rfl rfl rfl),trivial⟩) ?_ ?_
  ·skip
   rcases hcs with ⟨hu1,hc1⟩ | ⟨hu1,hc1⟩ | hu1
   ·skip
    refine an (bb rfl rfl rfl (ai (aF _ aa rfl rfl (by exact congrArg (fun b=> some (AV.v (.bool b))) hu1)) ?_))
    refine cE rfl (au rfl rfl (aH _ mL) (au rfl rfl (aH _ eg) ?_))
    refine au rfl rfl (bn _ _ aa rfl rfl _ rfl ab (by (simp only [aO,bg,bj,aO,eJ,jP,gk,mo,ij];omega)) ag) ?_
    refine au rfl rfl (di _ aa rfl rfl) (au rfl rfl (bT _ aa rfl (by exact gt 0 ab) rfl) ?_)
    refine au rfl rfl (bC (r:=true) _ _ rfl rfl (by rw [hc1];rfl)) ?_
    refine ai (aB _ _ _ rfl bJ) (cu rfl (aJ (⟨(),?_,?_⟩)))
    ·trivial
    refine Le.mkJ [] [] rfl ?_ ?_ trivial trivial ?_
    ·exact ⟨(iP rfl),(iV rfl),(iS rfl),(iP rfl),(iV rfl),(mw (by (rw [hu1,hc1];rfl))),trivial⟩
    ·exact ⟨(bF rfl rfl rfl),(bF rfl rfl rfl),trivial⟩
    kernel_rfl
   ·skip
    refine an (bb rfl rfl rfl (ai (aF _ aa rfl rfl (by exact congrArg (fun b=> some (AV.v (.bool b))) hu1)) ?_))
    refine cE rfl (au rfl rfl (aH _ mL) (au rfl rfl (aH _ eg) ?_))
    refine au rfl rfl (bn _ _ aa rfl rfl _ rfl ab (by (simp only [aO,bg,bj,aO,eJ,jP,gk,mo,ij];omega)) ag) ?_
    refine au rfl rfl (di _ aa rfl rfl) (au rfl rfl (bT _ aa rfl (by exact gt 0 ab) rfl) ?_)
    refine au rfl rfl (bC (r:=false) _ _ rfl rfl (by rw [hc1];rfl)) ?_
    refine ai (aB _ _ _ rfl bJ) (cu rfl (aJ (⟨(),?_,?_⟩)))
    ·trivial
    refine Le.mkJ [] [] rfl ?_ ?_ trivial trivial ?_
    ·exact ⟨(iP rfl),(iV rfl),(iS rfl),(iP rfl),(iV rfl),(mw (by (rw [hu1,hc1];rfl))),trivial⟩
    ·exact ⟨(bF rfl rfl rfl),(bF rfl rfl rfl),trivial⟩
    kernel_rfl
   refine an (bb rfl rfl rfl (ai (aF _ aa rfl rfl (by exact congrArg (fun b=> some (AV.v (.bool b))) hu1)) ?_))
   refine cE rfl (aK rfl rfl ah ?_)
   refine aK rfl rfl ah ?_
   refine aK rfl rfl ah ?_
   refine aK rfl rfl ah ?_
   refine aK rfl rfl ah ?_
   refine aK rfl rfl ah ?_
   refine ai (aB _ _ _ rfl bJ) (cu rfl (aJ (⟨(),?_,?_⟩)))
   ·trivial
   refine Le.mkJ [] [] rfl ?_ ?_ trivial trivial ?_
   ·exact ⟨(iP rfl),(iV rfl),(iS rfl),(iP rfl),(iV rfl),(mw (by (rw [hu1];rfl))),trivial⟩
   ·exact ⟨(bF rfl rfl rfl),(bF rfl rfl rfl),trivial⟩
   kernel_rfl
  intro u hu
  generalize (s.up && a.crash)=cr at*
  refine am (bb rfl rfl rfl (bb rfl rfl rfl (eZ rfl rfl rfl (ai (bo _ aa rfl) (be rfl (aj (aq ?_)))))))
  refine aM (σ':=aE 181 [(7,_),(8,_),(9,_),(10,_),(11,_),(12,_),(13,_)] [((7,0),_),((10,0),_)] [] []) (by
   refine Le.mkJ [] [] rfl ?_ ?_ trivial trivial ?_
   ·exact ⟨(iP rfl),(iV rfl),(iS rfl),(iP rfl),(iV rfl),(by exact iV rfl),(iV rfl),trivial⟩
   ·exact ⟨(bF rfl rfl rfl),(bF rfl rfl rfl),trivial⟩
   kernel_rfl) ?_
  refine pL 17 [48,49,50,51,52,53,54,55,56,47,57,58,59,14,15] [(56,0),(56,1),(14,0),(15,0),(14,0),(15,0)] ae ae rfl (rfl:_=[_,_,_,_,_,_,_,_,_,_,_,_,_,_,_,_,_]) (rfl:_=[_]) ?_
  refine cD (_,[]) (fun τ=> az _ aa rfl rfl rfl rfl) ?_
  refine cB (rfl:_=[_]) ?_
  refine cD (_,[]) (fun τ=> az _ aa rfl rfl rfl rfl) ?_
  refine cB (rfl:_=[_,_]) ?_
  refine cD (_,[]) (fun τ=> az _ aa rfl rfl rfl rfl) ?_
  refine cB (rfl:_=[_,_,_]) ?_
  refine cD (_,[]) (fun τ=> aH _ eg) ?_
  refine cB (rfl:_=[_,_,_,_]) ?_
  refine cD (_,[]) (fun τ=> aH _ mL) ?_
  refine cB (rfl:_=[_,_,_,_,_]) ?_
  refine cD (_,[]) (fun τ=> aH _ eg) ?_
  refine cB (rfl:_=[_,_,_,_,_,_]) ?_
  refine cD (_,[]) (fun τ=> bn _ _ aa rfl rfl _ rfl ab (by (simp only [aO,bg,bj,aO,eJ,jP,gk,mo,ij];omega)) ag) ?_
  refine cB (rfl:_=[_,_,_,_,_,_,_]) ?_
  refine cD (_,[]) (fun τ=> cg _ aa rfl (by exact ga) rfl) ?_
  refine cB (rfl:_=[_,_,_,_,_,_,_,_]) ?_
  refine cD (_,[((56,0),_),((56,1),_)]) (fun τ=> (bW aa [((4,8),(56,0)),((5,8),(56,1))] ar (hnx.toI) trivial tr tr rfl rfl ae ae)) ?_
  refine cB (rfl:_=[_,_,_,_,_,_,_,_,_]) ?_
  refine cD (_,[]) (fun τ=> aH _ tQ) ?_
  refine cB (rfl:_=[_,_,_,_,_,_,_,_,_,_]) ?_
  refine cD (_,[]) (fun τ=> cq _ rfl pF) ?_
  refine cB (rfl:_=[_,_,_,_,_,_,_,_,_,_,_]) ?_
  refine cD (_,[]) (fun τ=> cq _ rfl pF) ?_
  refine cB (rfl:_=[_,_,_,_,_,_,_,_,_,_,_,_]) ?_
  refine cD (_,[]) (fun τ=> cq _ rfl (rfl:_=some (AV.ptr _ _))) ?_
  refine cB (rfl:_=[_,_,_,_,_,_,_,_,_,_,_,_,_]) ?_
  refine cD (_,[((14,0),_)]) (fun τ=> aD (14,0) aa rfl rfl) ?_
  refine cB (rfl:_=[_,_,_,_,_,_,_,_,_,_,_,_,_,_]) ?_
  refine cD (_,[((15,0),_)]) (fun τ=> aD (15,0) aa rfl rfl) ?_
  refine cB (rfl:_=[_,_,_,_,_,_,_,_,_,_,_,_,_,_,_]) ?_
  refine cD (_,[((14,0),_)]) (fun τ=> dH _ _ aa rfl rfl rfl rfl (Nat.le_of_ble_eq_true rfl) rfl) ?_
  refine cB (rfl:_=[_,_,_,_,_,_,_,_,_,_,_,_,_,_,_,_]) ?_
  refine cD (_,[((15,0),_)]) (fun τ=> dH _ _ aa rfl rfl rfl rfl (Nat.le_of_ble_eq_true rfl) rfl) ?_
  refine cB (rfl:_=[_,_,_,_,_,_,_,_,_,_,_,_,_,_,_,_,_]) ?_
  refine nI ⟨⟨rfl,by kernel_rfl,by kernel_rfl⟩,?_⟩
  refine wG rfl (aj (aq (aq ?_)))
  refine aM (σ':=aE 181 [(7,_),(8,_),(9,_),(10,_),(11,_),(12,_),(13,_),(14,_),(16,_)] [((7,0),_),((10,0),_),((56,0),_),((56,1),_),((14,0),_)] [] []) (by
   refine Le.mkJ [] [] rfl ?_ ?_ trivial trivial ?_
   ·exact ⟨(iP rfl),(iV rfl),(iS rfl),(iP rfl),(iV rfl),(by exact iV rfl),(iV rfl),(iP rfl),(iP rfl),trivial⟩
   ·exact ⟨(bF rfl rfl rfl),(bF rfl rfl rfl),(bF rfl rfl rfl),(bF rfl rfl rfl),(bF rfl rfl rfl),trivial⟩
   kernel_rfl) ?_
  refine an (ai (az _ aa rfl rfl rfl rfl) (ai (az _ aa rfl rfl rfl rfl) (ai (az _ aa rfl rfl rfl rfl) (ai (aI aa al (hwl) rfl rfl) ?_))))
  refine ai (cj _ rfl rfl) (aj (aW rfl rfl (aT (am (be rfl (aj ?_))))))
  refine mh (α:=Nat) (fun f=> (cr=true→f=0)∧(cr=false→f=hY d)) 181 [(7,_),(8,_),(9,_),(10,_),(11,_),(12,_),(13,_),(14,_),(16,_)] [((7,0),_),((10,0),_),((56,0),_),((56,1),_),((14,0),_)] (fun f=> [(17, .v (.int .i64 (f:Int)))]) (fun f=> []) [] []
   (by exact ⟨(iP rfl),(iV rfl),(iS rfl),(iP rfl),(iV rfl),(by exact iV rfl),(iV rfl),(iP rfl),(iP rfl),trivial⟩)
   (by exact ⟨(bF rfl rfl rfl),(bF rfl rfl rfl),(bF rfl rfl rfl),(bF rfl rfl rfl),(bF rfl rfl rfl),trivial⟩) ?_ ?_
  ·skip
   refine mh (α:=Unit) (fun u=> True) 181 [(7,_),(8,_),(9,_),(10,_),(11,_),(12,_),(13,_),(14,_),(16,_),(17,_)] [((7,0),_),((10,0),_),((56,0),_),((56,1),_),((14,0),_)] (fun u=> [(70, .v (.bool (!cr && decide (0 < d))))]) (fun u=> []) [] []
    (by exact ⟨(iP rfl),(iV rfl),(iS rfl),(iP rfl),(iV rfl),(by exact iV rfl),(iV rfl),(iP rfl),(iP rfl),(iV rfl),trivial⟩)
    (by exact ⟨(bF rfl rfl rfl),(bF rfl rfl rfl),(bF rfl rfl rfl),(bF rfl rfl rfl),(bF rfl rfl rfl),trivial⟩) ?_ ?_
   ·skip
    rcases Bool.eq_false_or_eq_true cr with hcr | hcr
    ·skip
     refine an (cE rfl (ai (cj (r:=false) _ rfl (by rw [hcr];rfl)) ?_))
     refine cE rfl (aK rfl rfl ah ?_)
     refine aK rfl rfl ah ?_
     refine ai (aB _ _ _ rfl bJ) (aJ (⟨(),?_,?_⟩))
     ·trivial
     refine Le.mkJ [] [] rfl ?_ ?_ trivial trivial ?_
     ·exact ⟨(iP rfl),(iV rfl),(iS rfl),(iP rfl),(iV rfl),(by exact iV rfl),(iV rfl),(iP rfl),(iP rfl),(iV rfl),(mw (by (rw [hcr];rfl))),trivial⟩
     ·exact ⟨(bF rfl rfl rfl),(bF rfl rfl rfl),(bF rfl rfl rfl),(bF rfl rfl rfl),(bF rfl rfl rfl),trivial⟩
     kernel_rfl
    refine an (cE rfl (ai (cj (r:=true) _ rfl (by rw [hcr];rfl)) ?_))
    refine cE rfl (au rfl rfl (aH _ eg) (au rfl rfl (fM (r:=decide (0 < d)) _ _ rfl rfl rfl) ?_))
    refine ai (aB _ _ _ rfl bJ) (aJ (⟨(),?_,?_⟩))
    ·trivial
    refine Le.mkJ [] [] rfl ?_ ?_ trivial trivial ?_
    ·exact ⟨(iP rfl),(iV rfl),(iS rfl),(iP rfl),(iV rfl),(by exact iV rfl),(iV rfl),(iP rfl),(iP rfl),(iV rfl),(mw (by (rw [hcr];rfl))),trivial⟩
    ·exact ⟨(bF rfl rfl rfl),(bF rfl rfl rfl),(bF rfl rfl rfl),(bF rfl rfl rfl),(bF rfl rfl rfl),trivial⟩
    kernel_rfl
   intro u hu
   refine aR rfl (fun hc70=> ?_) (fun hc70=> ?_)
   ·skip
    obtain ⟨hcf,hdp⟩:cr=false∧0 < d:=by simpa using hc70
    obtain ⟨t1,t2,t3,t4⟩:=hnq.t hcf hdp
    have qg:=Fl tl nq 0 t1
    refine aq (am (bR rfl (ai (aS _ rfl rfl) (bb rfl rfl rfl (ai (aF _ aa rfl rfl ei) (ai (cV _ aa rfl rfl) (gM rfl rfl (beq_eq_false_iff_ne.2 ab) ?_)))))))
    refine cE rfl (au rfl rfl (aH _ bX) (au rfl rfl (aS _ rfl rfl) (au rfl rfl (aA _ aa rfl rfl rfl) (au rfl rfl (aF _ aa rfl rfl ei) (au rfl rfl (fh _ _ aa rfl rfl rfl 0 rfl ab (by exact (Nat.zero_add _).trans (Nat.mul_one _))) ?_)))))
    refine au rfl rfl (aA _ aa rfl rfl rfl) (au rfl rfl (aA _ aa rfl rfl rfl) (au rfl rfl (jX _ aa rfl rfl (by exact qg 3 ab) rfl) ?_))
    refine au rfl rfl (bL (r:=false) _ _ rfl rfl (by rw [t2];rfl)) ?_
    refine ai (aB _ _ _ rfl bJ) (cE rfl (au rfl rfl (aH _ bX) (au rfl rfl (aS _ rfl rfl) (au rfl rfl (aA _ aa rfl rfl rfl) (au rfl rfl (aF _ aa rfl rfl ei) (au rfl rfl (fh _ _ aa rfl rfl rfl 0 rfl ab (by exact (Nat.zero_add _).trans (Nat.mul_one _))) ?_))))))
    refine au rfl rfl (aA _ aa rfl rfl rfl) (au rfl rfl (aA _ aa rfl rfl rfl) (au rfl rfl (jX _ aa rfl rfl (by exact qg 4 ab) rfl) ?_))
    refine au rfl rfl (bL (r:=false) _ _ rfl rfl (by rw [t3];rfl)) ?_
    refine ai (aB _ _ _ rfl bJ) (cE rfl (au rfl rfl (aH _ bX) (au rfl rfl (aS _ rfl rfl) (au rfl rfl (aA _ aa rfl rfl rfl) (au rfl rfl (aF _ aa rfl rfl ei) (au rfl rfl (fh _ _ aa rfl rfl rfl 0 rfl ab (by exact (Nat.zero_add _).trans (Nat.mul_one _))) ?_))))))
    refine au rfl rfl (aA _ aa rfl rfl rfl) (au rfl rfl (jX _ aa rfl rfl (by exact qg 5 ab) rfl) ?_)
    refine au rfl rfl (aH _ eg) (au rfl rfl (aZ (r:=d+1) _ _ rfl rfl (bD ab)) ?_)
    refine au rfl rfl (bL (r:=false) _ _ rfl rfl (by rw [t4];exact bne_self_eq_false _)) ?_
    refine ai (aB _ _ _ rfl bJ) (aj (aW rfl rfl (aT ?_)))
    refine aM (σ':=aE 181 [(7,_),(8,_),(9,_),(10,_),(11,_),(12,_),(13,_),(14,_),(16,_)] [((7,0),_),((10,0),_),((56,0),_),((56,1),_),((14,0),_)] [] []) (by
     refine Le.mkJ [] [] rfl ?_ ?_ trivial trivial ?_
     ·exact ⟨(iP rfl),(iV rfl),(iS rfl),(iP rfl),(iV rfl),(by exact iV rfl),(iV rfl),(iP rfl),(iP rfl),trivial⟩
     ·exact ⟨(bF rfl rfl rfl),(bF rfl rfl rfl),(bF rfl rfl rfl),(bF rfl rfl rfl),(bF rfl rfl rfl),trivial⟩
     kernel_rfl) ?_
    refine an (be rfl (aJ (⟨1,?_,?_⟩)))
    ·exact ⟨fun h=> absurd (hcf.symm.trans h) Bool.noConfusion,fun _=> (if_pos hdp).symm⟩
    refine Le.mkJ [] [] rfl ?_ ?_ trivial trivial ?_
    ·exact ⟨(iP rfl),(iV rfl),(iS rfl),(iP rfl),(iV rfl),(by exact iV rfl),(iV rfl),(iP rfl),(iP rfl),(co ag),trivial⟩
    ·exact ⟨(bF rfl rfl rfl),(bF rfl rfl rfl),(bF rfl rfl rfl),(bF rfl rfl rfl),(bF rfl rfl rfl),trivial⟩
    kernel_rfl
   refine bs (⟨0,?_,?_⟩)
   ·exact ⟨fun _=> rfl,fun h=> (if_neg (fun hd=> by rw [h,decide_eq_true hd] at hc70;cases hc70)).symm⟩
   refine Le.mkJ [] [] rfl ?_ ?_ trivial trivial ?_
   ·exact ⟨(iP rfl),(iV rfl),(iS rfl),(iP rfl),(iV rfl),(by exact iV rfl),(iV rfl),(iP rfl),(iP rfl),(co ag),trivial⟩
   ·exact ⟨(bF rfl rfl rfl),(bF rfl rfl rfl),(bF rfl rfl rfl),(bF rfl rfl rfl),(bF rfl rfl rfl),trivial⟩
   kernel_rfl
  intro f hf
  obtain ⟨hf1,hf2⟩:=hf
  have mb:=hnq.l
  have hfl:f≤nq.length:=by
   cases hcr:cr with
   | true=> rw [hf1 hcr];exact Nat.zero_le _
   | false=>
    rw [hf2 hcr];unfold hY;split
    ·rename_i hdp;exact (hnq.t hcr hdp).1
    exact Nat.zero_le _
  refine aq ?_
  refine mh (α:=Unit) (fun u=> True) 181 [(7,_),(8,_),(9,_),(10,_),(11,_),(12,_),(14,_),(16,_),(17,_)] [((7,0),_),((10,0),_),((56,0),_),((56,1),_),((14,0),_)] (fun u=> [(120, .v (.bool false))]) (fun u=> []) [] []
   (by exact ⟨(iP rfl),(iV rfl),(iS rfl),(iP rfl),(iV rfl),(by exact iV rfl),(iP rfl),(iP rfl),(iV rfl),trivial⟩)
   (by exact ⟨(bF rfl rfl rfl),(bF rfl rfl rfl),(bF rfl rfl rfl),(bF rfl rfl rfl),(bF rfl rfl rfl),trivial⟩) ?_ ?_
  ·skip
   rcases Bool.eq_false_or_eq_true cr with hcr | hcr
   ·skip
    refine an (cE rfl (ai (aH (av:= .v (.bool true)) _ (by exact congrArg (fun b=> AV.v (.bool b)) hcr)) ?_))
    refine au rfl rfl (aH _ bX) (au rfl rfl (aS _ rfl rfl) (au rfl rfl (aA _ aa rfl rfl rfl) (au rfl rfl (aF _ aa rfl rfl ei) (au rfl rfl (cV _ aa rfl rfl) (au rfl rfl (aH _ eg) (au rfl rfl (bL (r:=false) _ _ rfl rfl (by rw [(hnq.c hcr).1];exact bne_self_eq_false _)) ?_))))))
    refine ai (aB _ _ _ rfl bJ) (aJ (⟨(),?_,?_⟩))
    ·trivial
    refine Le.mkJ [] [] rfl ?_ ?_ trivial trivial ?_
    ·exact ⟨(iP rfl),(iV rfl),(iS rfl),(iP rfl),(iV rfl),(by exact iV rfl),(iP rfl),(iP rfl),(iV rfl),(iV rfl),trivial⟩
    ·exact ⟨(bF rfl rfl rfl),(bF rfl rfl rfl),(bF rfl rfl rfl),(bF rfl rfl rfl),(bF rfl rfl rfl),trivial⟩
    kernel_rfl
   refine an (cE rfl (ai (aH (av:= .v (.bool false)) _ (by exact congrArg (fun b=> AV.v (.bool b)) hcr)) ?_))
   refine aK rfl rfl ah ?_
   refine aK rfl rfl ah ?_
   refine aK rfl rfl ah ?_
   refine aK rfl rfl ah ?_
   refine aK rfl rfl ah ?_
   refine aK rfl rfl ah ?_
   refine aK rfl rfl ah ?_
   refine ai (aB _ _ _ rfl bJ) (aJ (⟨(),?_,?_⟩))
   ·trivial
   refine Le.mkJ [] [] rfl ?_ ?_ trivial trivial ?_
   ·exact ⟨(iP rfl),(iV rfl),(iS rfl),(iP rfl),(iV rfl),(by exact iV rfl),(iP rfl),(iP rfl),(iV rfl),(iV rfl),trivial⟩
   ·exact ⟨(bF rfl rfl rfl),(bF rfl rfl rfl),(bF rfl rfl rfl),(bF rfl rfl rfl),(bF rfl rfl rfl),trivial⟩
   kernel_rfl
  intro u hu
  refine aW rfl rfl (aT (aU fun K19 hK19=> ?_))
  refine am (aX rfl (be rfl (aj (ay ?_))))
  refine bq (α:=Nat) (fun j=> f≤j∧j≤nq.length) 181 [(7,_),(8,_),(9,_),(10,_),(11,_),(12,_),(14,_),(16,_),(17,_)] [((7,0),_),((10,0),_),((56,0),_),((56,1),_),((14,0),_)] (fun j=> [(18, .v (.int .i64 (j:Int)))]) (fun j=> []) [] [] (fun j=> nq.length - j) f ?_ (by
   refine Le.mkJ [] [] rfl ?_ ?_ trivial trivial ?_
   ·exact ⟨(iP rfl),(iV rfl),(iS rfl),(iP rfl),(iV rfl),(by exact iV rfl),(iP rfl),(iP rfl),(iV rfl),(co ag),trivial⟩
   ·exact ⟨(bF rfl rfl rfl),(bF rfl rfl rfl),(bF rfl rfl rfl),(bF rfl rfl rfl),(bF rfl rfl rfl),trivial⟩
   kernel_rfl) ?_
  ·exact ⟨Nat.le_refl _,hfl⟩
  intro j hj
  refine aU fun K21 hK21=> ?_
  refine am (aX rfl (bR rfl (ai (aS _ rfl rfl) (bb rfl rfl rfl (ai (aF _ aa rfl rfl ei) (ai (cV _ aa rfl rfl) (ai (bl _ _ rfl rfl rfl) (aj (aR rfl (fun hc128=> ?_) (fun hc128=> ?_))))))))))
  ·skip
   have qge:=Ds tl nq j ab
   refine bs (hK21 _ ?_)
   clear hK21;try clear K21
   refine aq (ay (am (bR rfl (ai (aS _ rfl rfl) (bb rfl rfl rfl (ai (aF _ aa rfl rfl ei) (aX rfl (ai (fh _ _ aa rfl rfl rfl _ rfl ab (by exact Nat.zero_add _)) ?_))))))))
   refine ai (tM _ aa rfl rfl (by exact qge) rfl) ?_
   refine ai (aD (19,0) aa rfl rfl) (bG rfl rfl rfl rfl rfl rfl (aj (aq ?_)))
   rcases Bool.eq_false_or_eq_true cr with hcr | hcr
   ·skip
    refine aM (σ':=aE 181 [(7,_),(8,_),(9,_),(10,_),(11,_),(12,_),(14,_),(16,_),(17,_),(18,_),(19,_)] [((7,0),_),((10,0),_),((56,0),_),((56,1),_),((14,0),_),((19,0),_)] [] []) (by
     refine Le.mkJ [] [] rfl ?_ ?_ trivial trivial ?_
     ·exact ⟨(iP rfl),(iV rfl),(iS rfl),(iP rfl),(iV rfl),(by exact iV rfl),(iP rfl),(iP rfl),(iV rfl),(iV rfl),(iP rfl),trivial⟩
     ·exact ⟨(bF rfl rfl rfl),(bF rfl rfl rfl),(bF rfl rfl rfl),(bF rfl rfl rfl),(bF rfl rfl rfl),(bF rfl rfl rfl),trivial⟩
     kernel_rfl) ?_
    refine an (bb rfl rfl rfl (bb rfl rfl rfl (cf rfl rfl rfl (aX rfl (aX rfl (ai (jt (r:=(j:Int) - (f:Int)) _ _ rfl rfl (bD ab)) ?_))))))
    refine ai (bL (r:=false) _ _ rfl rfl (by rw [((hnq.c hcr).2 j ab).2.1,hf1 hcr,Int.natCast_zero,Int.sub_zero];exact bne_self_eq_false _)) ?_
    refine cE rfl (au rfl rfl (aH (av:= .v (.bool true)) _ (by exact congrArg (fun b=> AV.v (.bool b)) hcr)) ?_)
    refine au rfl rfl (aH _ bJ) (au rfl rfl (aA _ aa rfl rfl rfl) (au rfl rfl (aA _ aa rfl rfl rfl) (au rfl rfl (aF _ aa rfl rfl ee) (au rfl rfl (bL (r:=false) _ _ rfl rfl (by rw [((hnq.c hcr).2 j ab).1];rfl)) ?_))))
    refine au rfl rfl (aH _ bJ) (au rfl rfl (aA _ aa rfl rfl rfl) (au rfl rfl (aF _ aa rfl rfl ee) (au rfl rfl (bL (r:=false) _ _ rfl rfl (by rw [((hnq.c hcr).2 j ab).2.2];rfl)) ?_)))
    refine au rfl rfl (aB _ _ _ rfl bJ) (au rfl rfl (aB _ _ _ rfl bJ) (ai (aB _ _ _ rfl bJ) (cE rfl (au rfl rfl (aH (av:= .v (.bool true)) _ (by exact congrArg (fun b=> AV.v (.bool b)) hcr)) ?_))))
    refine au rfl rfl (cj _ rfl rfl) (au rfl rfl (aH _ bJ) (aK rfl rfl ah ?_))
    refine aK rfl rfl ah ?_
    refine aK rfl rfl ah ?_
    refine aK rfl rfl ah ?_
    refine aK rfl rfl ah ?_
    refine eN rfl rfl (eN rfl rfl (eN rfl rfl (aK rfl rfl ah ?_)))
    refine aK rfl rfl ah ?_
    refine eN rfl rfl (eN rfl rfl (eN rfl rfl (aK rfl rfl ah ?_)))
    refine au rfl rfl (aB _ _ _ rfl bJ) (ai (aB _ _ _ rfl bJ) (aj (aW rfl rfl (cp ?_))))
    refine aM (σ':=aE 181 [(7,_),(8,_),(9,_),(10,_),(11,_),(12,_),(14,_),(16,_),(17,_),(18,_)] [((7,0),_),((10,0),_),((56,0),_),((56,1),_),((14,0),_)] [] []) (by
     refine Le.mkJ [] [] rfl ?_ ?_ trivial trivial ?_
     ·exact ⟨(iP rfl),(iV rfl),(iS rfl),(iP rfl),(iV rfl),(by exact iV rfl),(iP rfl),(iP rfl),(iV rfl),(iV rfl),trivial⟩
     ·exact ⟨(bF rfl rfl rfl),(bF rfl rfl rfl),(bF rfl rfl rfl),(bF rfl rfl rfl),(bF rfl rfl rfl),trivial⟩
     kernel_rfl) ?_
    refine an (aX rfl (ai (aZ _ _ rfl rfl (bD ab)) ?_))
    refine be rfl (aJ (⟨j+1,?_,?_,?_⟩))
    ·omega
    ·skip
     refine Le.mkJ [] [] rfl ?_ ?_ trivial trivial ?_
     ·exact ⟨(iP rfl),(iV rfl),(iS rfl),(iP rfl),(iV rfl),(by exact iV rfl),(iP rfl),(iP rfl),(iV rfl),(co ag),trivial⟩
     ·exact ⟨(bF rfl rfl rfl),(bF rfl rfl rfl),(bF rfl rfl rfl),(bF rfl rfl rfl),(bF rfl rfl rfl),trivial⟩
     kernel_rfl
    omega
   refine aM (σ':=aE 181 [(7,_),(8,_),(9,_),(10,_),(11,_),(12,_),(14,_),(16,_),(17,_),(18,_),(19,_)] [((7,0),_),((10,0),_),((56,0),_),((56,1),_),((14,0),_),((19,0),_)] [] []) (by
    refine Le.mkJ [] [] rfl ?_ ?_ trivial trivial ?_
    ·exact ⟨(iP rfl),(iV rfl),(iS rfl),(iP rfl),(iV rfl),(by exact iV rfl),(iP rfl),(iP rfl),(iV rfl),(iV rfl),(iP rfl),trivial⟩
    ·exact ⟨(bF rfl rfl rfl),(bF rfl rfl rfl),(bF rfl rfl rfl),(bF rfl rfl rfl),(bF rfl rfl rfl),(bF rfl rfl rfl),trivial⟩
    kernel_rfl) ?_
   refine an (bb rfl rfl rfl (bb rfl rfl rfl (cf rfl rfl rfl (aX rfl (aX rfl (ai (jt (r:=(j:Int) - (f:Int)) _ _ rfl rfl (bD ab)) ?_))))))
   refine ai (bL (r:=false) _ _ rfl rfl (by rw [(hnq.h hcr j (by rw [← hf2 hcr];omega) ab).2.1,hf2 hcr];exact bne_self_eq_false _)) ?_
   refine cE rfl (au rfl rfl (aH (av:= .v (.bool false)) _ (by exact congrArg (fun b=> AV.v (.bool b)) hcr)) ?_)
   refine au rfl rfl (aH _ bJ) (aK rfl rfl ah ?_)
   refine aK rfl rfl ah ?_
   refine aK rfl rfl ah ?_
   refine aK rfl rfl ah ?_
   refine aK rfl rfl ah ?_
   refine eN rfl rfl (eN rfl rfl (eN rfl rfl (aK rfl rfl ah ?_)))
   refine au rfl rfl (aB _ _ _ rfl bJ) (ai (aB _ _ _ rfl bJ) (cE rfl (au rfl rfl (aH (av:= .v (.bool false)) _ (by exact congrArg (fun b=> AV.v (.bool b)) hcr)) ?_)))
   refine au rfl rfl (cj _ rfl rfl) (au rfl rfl (aH _ bJ) (au rfl rfl (aA _ aa rfl rfl rfl) (au rfl rfl (aA _ aa rfl rfl rfl) (au rfl rfl (aF _ aa rfl rfl ee) (au rfl rfl (bL (r:=false) _ _ rfl rfl (by rw [(hnq.h hcr j (by rw [← hf2 hcr];omega) ab).1];rfl)) ?_)))))
   refine au rfl rfl (aH _ bJ) (au rfl rfl (aA _ aa rfl rfl rfl) (au rfl rfl (aF _ aa rfl rfl ee) (au rfl rfl (bl (r:=false) _ _ rfl rfl (decide_eq_false (by have:=(hnq.h hcr j (by rw [← hf2 hcr];omega) ab).2.2;omega))) ?_)))
   refine au rfl rfl (aB _ _ _ rfl bJ) (au rfl rfl (aH _ bJ) (au rfl rfl (aA _ aa rfl rfl rfl) (au rfl rfl (aF _ aa rfl rfl ee) (au rfl rfl (fM (r:=false) _ _ rfl rfl (decide_eq_false (by have:=(hnq.h hcr j (by rw [← hf2 hcr];omega) ab).2.2;omega))) ?_))))
   refine au rfl rfl (aB _ _ _ rfl bJ) (au rfl rfl (aB _ _ _ rfl bJ) (ai (aB _ _ _ rfl bJ) (aj (aW rfl rfl (cp ?_)))))
   refine aM (σ':=aE 181 [(7,_),(8,_),(9,_),(10,_),(11,_),(12,_),(14,_),(16,_),(17,_),(18,_)] [((7,0),_),((10,0),_),((56,0),_),((56,1),_),((14,0),_)] [] []) (by
    refine Le.mkJ [] [] rfl ?_ ?_ trivial trivial ?_
    ·exact ⟨(iP rfl),(iV rfl),(iS rfl),(iP rfl),(iV rfl),(by exact iV rfl),(iP rfl),(iP rfl),(iV rfl),(iV rfl),trivial⟩
    ·exact ⟨(bF rfl rfl rfl),(bF rfl rfl rfl),(bF rfl rfl rfl),(bF rfl rfl rfl),(bF rfl rfl rfl),trivial⟩
    kernel_rfl) ?_
   refine an (aX rfl (ai (aZ _ _ rfl rfl (bD ab)) ?_))
   refine be rfl (aJ (⟨j+1,?_,?_,?_⟩))
   ·omega
   ·skip
    refine Le.mkJ [] [] rfl ?_ ?_ trivial trivial ?_
    ·exact ⟨(iP rfl),(iV rfl),(iS rfl),(iP rfl),(iV rfl),(by exact iV rfl),(iP rfl),(iP rfl),(iV rfl),(co ag),trivial⟩
    ·exact ⟨(bF rfl rfl rfl),(bF rfl rfl rfl),(bF rfl rfl rfl),(bF rfl rfl rfl),(bF rfl rfl rfl),trivial⟩
    kernel_rfl
   omega
  refine bB (id (hK19 _ ?_))
  clear hK19;try clear K19
  refine an (ai (az _ aa rfl rfl rfl rfl) (bG rfl rfl rfl rfl rfl rfl (ek (an (aX rfl (ai (aZ _ _ rfl rfl (bD ab)) ?_))))))
  refine be rfl (aJ (⟨(k+1,s'),?_,?_,?_⟩))
  ·exact ⟨by omega,hsx⟩
  ·skip
   refine Le.mkJ [] [] rfl ?_ ?_ trivial trivial ?_
   ·exact ⟨(iP rfl),(iV rfl),(iS rfl),(iP rfl),(co ag),trivial⟩
   ·exact ⟨(bF rfl rfl rfl),(fu rfl rfl rfl rfl lz),trivial⟩
   kernel_rfl
  omega
 refine bB (id (hK6 _ ?_))
 clear hK6;try clear K6
 refine am (ai (aI aa (by repeat' (exact cX)) (ER) rfl rfl) ?_)
 exact cu rfl (aj (aG (fv rfl rfl)))
theorem nw (one:Int) (dr:Int) (hone: -9223372036854775808≤one∧one≤9223372036854775807) (hdr: -9223372036854775808≤dr∧dr≤9223372036854775807) (n0:Nat) (l:List Int) (h0:l.length=n0) (g0:n0≤4611686018427387904) (r0:Rng l):
  Spec Tryz.prog 12 (ba [.v (.int .i64 one), .v (.int .i64 dr), .sl n0 (cw l)] []) (aP (.v (.bool true)) []):=by
 subst h0
 exact px one dr l hone hdr g0 r0
end Go.Proofs.YtmjnackchaahbaaGreat
