/- part 10 -/
import Derived.Test.YtmjnackchaahbaaGreatNpZ9
set_option linter.unusedSimpArgs false
set_option linter.unusedVariables false
set_option maxHeartbeats 2000000
namespace Go.Proofs.YtmjnackchaahbaaGreat
open Go.RowKit

theorem sh {s:Tx}: ∀ {f a:Nat} {l:List Tk},a≤s.length→nF f s a=some l→0 < l.length∧l.length+a≤s.length+1
  | 0,_,_,_,h=> by simp [nF] at h
  | f+1,a,l,ha,h=> by
    rcases mE h with ⟨_,rfl⟩ | ⟨hl,t,m,ht,hm,rfl⟩
    · exact ⟨by simp,by simp;omega⟩
    obtain ⟨h1,h2⟩:=vU hl ht
    have h3:=xp (s:=s) (a:=a+t.t.length) h2 false
    obtain ⟨_,h4⟩:=sh h3.2 hm
    exact ⟨by simp,by rw [List.length_cons];omega⟩
theorem BI {s:Tx} {l:List Tk} (h:Gt s=some l):0 < l.length∧l.length≤s.length+1:=by
  have:=sh (a:=ut s false) (pk s false) h
  omega
theorem mF {T:List Tk}: ∀ (f:Nat) {N M:List Tx} (i:Nat),N.Perm M→gK T f N i=gK T f M i
  | 0,_,_,_,_=> rfl
  | f+1,N,M,i,h=> by
    unfold gK
    simp only [h.mem_iff,h.length_eq,mF f _ (h.append_right [(cX T i).t])]
theorem vp {T:List Tk} {f:Nat} {d v:List Tx} {i:Nat} {r:List Tx×List Tx×Nat} (h:jo T f d v i=some r): ∃ g,f=g+1∧
    (((cX T i).t=lX∧ ∃ l j,gK T g (d++v) (br T i)=some (l,j)∧jo T g (d++l) v j=some r)∨
     ((cX T i).t≠lX∧(cX T i).t=mN∧ ∃ l j,gK T g (d++v) (br T i)=some (l,j)∧jo T g d (v++l) j=some r)∨
     ((cX T i).t≠lX∧(cX T i).t≠mN∧r=(d,v,i))):=by
  cases f with
  | zero=> simp [jo] at h
  | succ g=>
    refine ⟨g,rfl,?_⟩
    unfold jo at h
    split at h
    · rename_i ht
      simp only [Option.bind_eq_bind,Option.bind_eq_some_iff] at h
      obtain ⟨⟨l,j⟩,hl,h⟩:=h
      exact .inl ⟨ht,l,j,hl,h⟩
    rename_i ht
    split at h
    · rename_i ht2
      simp only [Option.bind_eq_bind,Option.bind_eq_some_iff] at h
      obtain ⟨⟨l,j⟩,hl,h⟩:=h
      exact .inr (.inl ⟨ht,ht2,l,j,hl,h⟩)
    rename_i ht2
    exact .inr (.inr ⟨ht,ht2,(Option.some.inj h).symm⟩)
theorem Da {T:List Tk} {f:Nat} {l:List Hd} {i:Nat} {r:List Hd} (h:JK T f l i=some r): ∃ g,f=g+1∧
    (((cX T i).k=0∧r=l)∨((cX T i).k≠0∧ ∃ j n j2 d j3,gw T Jp i=some j∧yF T j=some (n,j2)∧l.any (fun x=> decide (x.1=n))=false∧rI T g 1 j2=some (d,j3)∧JK T g (ry l (n,d)) j3=some r)):=by
  cases f with
  | zero=> simp [JK] at h
  | succ g=>
    refine ⟨g,rfl,?_⟩
    unfold JK at h
    split at h
    · rename_i hk;exact .inl ⟨hk,(Option.some.inj h).symm⟩
    rename_i hk
    simp only [Option.bind_eq_bind,Option.bind_eq_some_iff] at h
    obtain ⟨j,hj,⟨n,j2⟩,hn,h⟩:=h
    simp only at h
    split at h
    · cases h
    rename_i hno
    simp only [Option.bind_eq_some_iff] at h
    obtain ⟨⟨d,j3⟩,hd,h⟩:=h
    exact .inr ⟨hk,j,n,j2,d,j3,hj,hn,Bool.eq_false_iff.2 hno,hd,h⟩
theorem BX (l:List Hd) (h:Hd):(ry l h).length=l.length+1:=by
  have e:=congrArg List.length (List.takeWhile_append_dropWhile (p:=fun x:Nat×Nd=> decide (x.1 < h.1)) (l:=l))
  unfold ry
  rw [List.length_append] at e ⊢
  rw [List.length_cons]
  omega
abbrev Kk (d v:List Tx) (l:List Hd):AV:= .agg [.sl d.length (fc d), .sl v.length (fc v), .sl l.length (lK l)]
theorem qJ (s:Tx) (hs:s.length≤3000) (D V:List Tx) (L:List Hd) (h:fX s=some (D,V,L)):
    Spec Tryz.prog 96 (aI [.v (bt s)] []) (aC (.tup [Kk D V L, .v (.int .i64 0), .v (.int .i64 0)]) []):=by
  unfold fX at h
  simp only [Option.bind_eq_bind,Option.bind_eq_some_iff,Option.pure_def,Option.some.injEq,Prod.mk.injEq] at h
  obtain ⟨T,hT,⟨D',V',i⟩,hd,L',hL,rfl,rfl,rfl⟩:=h
  obtain ⟨hT0,hT1⟩:=BI hT
  have hTl:T.length≤100000:=by omega
  simp only at hL ⊢
  refine Spec.ofN Tryz.func96 rfl Tryz.ntmps96 rfl ?_
  refine go 11 ?_
  refine cK rfl (decide_eq_false ab) ?_
  refine cE (aG (sZ rfl (aj (ap aa al (vf s ab T hT) rfl rfl) ?_)))
  refine go 9 ?_
  refine aE ?_
  refine az (σ':=an 114 [(2,_),(5,_),(6,_),(7,_)] [((2,0),_)] [] []) (by
    refine Le.mkJ [] [] rfl ?_ ?_ trivial trivial ?_
    · exact ⟨(iP rfl),(iS rfl),(iV rfl),(iV rfl),trivial⟩
    · exact ⟨(bU rfl rfl rfl),trivial⟩
    kernel_rfl) ?_
  refine go 15 ?_
  refine aF fun K9 hK9=> ?_
  refine aH ?_
  refine az (Le.nilB (29,0) 4 (60,0) 9 1 rfl rfl rfl) ?_
  refine az (Le.nilB (9,0) 0 (61,0) 9 1 rfl rfl rfl) ?_
  refine az (Le.nilB (9,0) 1 (62,0) 9 1 rfl rfl rfl) ?_
  refine az (Le.nil0 (9,0) 2 rfl rfl) ?_
  refine aT (α:=Nat×List Tx×List Tx×List Tx×Nat) (fun z=> z.2.2.2.1.Perm (z.2.1++z.2.2.1)∧z.2.2.2.2 < T.length∧z.2.2.2.1.length≤16∧jo T z.1 z.2.1 z.2.2.1 z.2.2.2.2=some (D',V',i)) 114 [(2,_),(8,_),(9,_)] [((2,0),_)] (fun z=> []) (fun z=> [((29,0), .box 222 [.sl T.length (um T), .v (.int .i64 (z.2.2.2.2:Int)), .v (.int .i64 0), .v (.int .i64 0), .ref (60,0) 0 z.2.2.2.1.length]),((60,0), .row 9 1 (fc z.2.2.2.1)),((9,0), .box 64 [.ref (61,0) 0 z.2.1.length, .ref (62,0) 0 z.2.2.1.length, .sl 0 []]),((61,0), .row 9 1 (fc z.2.1)),((62,0), .row 9 1 (fc z.2.2.1))]) [] [] (fun z=> z.1) (3*T.length+10,[],[],[],0) ?_ (by
    refine Le.mkJ [] [] rfl ?_ ?_ trivial trivial ?_
    · exact ⟨(iP rfl),(iP rfl),(iP rfl),trivial⟩
    · exact ⟨(bU rfl rfl rfl),(cT rfl rfl rfl rfl lz),(cL rfl rfl rfl ag),(cT rfl rfl rfl rfl lz),(cL rfl rfl rfl ag),(cL rfl rfl rfl ag),trivial⟩
    kernel_rfl) ?_
  · exact ⟨.refl _,hT0,Nat.zero_le _,hd⟩
  intro z hz
  obtain ⟨z1,d,v,N,j⟩:=z
  obtain ⟨hp,hj,hNl,hz⟩:=hz
  obtain ⟨g,rfl,hm⟩:=vp hz
  simp only at hp hj hNl hm ⊢
  have hpl:=hp.length_eq
  rw [List.length_append] at hpl
  have htl:=dS hj
  refine aF fun K10 hK10=> ?_
  refine aF fun K11 hK11=> ?_
  refine go 8 ?_
  refine aV rfl rfl (dK aa [((0,9),(29,0)),((1,9),(60,0))] ?_ (eS T j N hj) ob tr ae) ?_
  · repeat' (first | exact dw | refine cN ?_ ?_ | exact bs rfl)
  refine aV rfl rfl (dg _ _ Tryz.underlying9 rfl rfl rfl) (go 1 ?_)
  refine cA (fun hg39=> ?_) (fun hg39=> ?_)
  · skip
    obtain ⟨l,j',hdp,hdz⟩: ∃ l j',gK T g N (br T j)=some (l,j')∧jo T g (d++l) v j'=some (D',V',i):=by
      rcases hm with ⟨_,l,j',h1,h2⟩ | ⟨h,_⟩ | ⟨h,_⟩
      · exact ⟨l,j',(mF g _ hp).trans h1,h2⟩
      · exact absurd hg39 h
      exact absurd hg39 h
    obtain ⟨hda,hdb,hdc⟩:=rT hTl g N j hj (l,j') hdp
    simp only at hda hdb hdc
    have hdl:(d++l).length=d.length+l.length:=by simp
    refine go 5 ?_
    refine ax (hK11 _ ?_)
    refine fR rfl rfl (aR (hK10 _ ?_))
    refine aH (aE ?_)
    refine az (σ':=an 114 [(2,_),(8,_),(9,_)] [((2,0),_),((29,0),_),((60,0),_),((9,0),_),((61,0),_),((62,0),_)] [] []) (by
      refine Le.mkJ [] [] rfl ?_ ?_ trivial trivial ?_
      · exact ⟨(iP rfl),(iP rfl),(iP rfl),trivial⟩
      · exact ⟨(bU rfl rfl rfl),(bU rfl rfl rfl),(bU rfl rfl rfl),(bU rfl rfl rfl),(bU rfl rfl rfl),(bU rfl rfl rfl),trivial⟩
      kernel_rfl) ?_
    refine aD (ef rfl (aj (dK aa [((0,9),(29,0)),((1,9),(60,0))] ?_ (eS T j N hj) ob tr ae) ?_))
    · repeat' (first | exact dw | refine cN ?_ ?_ | exact bs rfl)
    refine aj (dg _ _ Tryz.underlying9 rfl rfl rfl) (am (fR rfl (beq_iff_eq.2 hg39) ?_))
    refine az (σ':=an 114 [(2,_),(8,_),(9,_)] [((2,0),_),((29,0), .box 222 [.sl T.length (um T), .v (.int .i64 (j:Int)), .v (.int .i64 0), .v (.int .i64 0), .ref (60,0) 0 N.length]),((60,0), .row 9 1 (fc N)),((9,0),_),((61,0),_),((62,0),_)] [] []) (by
      refine Le.mkJ [] [] rfl ?_ ?_ trivial trivial ?_
      · exact ⟨(iP rfl),(iP rfl),(iP rfl),trivial⟩
      · exact ⟨(bU rfl rfl rfl),(bU rfl rfl rfl),(bU rfl rfl rfl),(bU rfl rfl rfl),(bU rfl rfl rfl),(bU rfl rfl rfl),trivial⟩
      kernel_rfl) ?_
    refine dA 4 [(29,0),(70,0),(60,0)] ?_
    refine go 6 ?_
    refine aB (_,[((29,0),_),((70,0),_),((60,0), .gone)]) (fun τ=> (bp aa [((0,9),(29,0)),((1,9),(60,0)),((1,8),(70,0))] ?_ (hdc) ob tr tr rfl rfl ae ae)) ?_
    · repeat' (first | exact dw | refine cN ?_ ?_ | exact bs rfl)
    refine go 1 ?_
    refine cq ⟨rfl,?_⟩
    refine aj (bI (52,0) _ _ aa rfl rfl (by simp) (.sl (by simp)) ab rfl (qZ _ _) hdl.symm) ?_
    refine go 2 ?_
    refine ax (⟨(g,d++l,v,N++l,j'),?_,?_,?_⟩)
    · exact ⟨(hp.append_right l).trans (by rw [List.append_assoc,List.append_assoc];exact List.perm_append_comm.append_left d),hda,by simp only [List.length_append];omega,hdz⟩
    · skip
      refine Le.mkJ [((60,0),(70,0)),((61,0),(52,0))] [] rfl ?_ ?_ trivial trivial ?_
      · exact ⟨(bs (id:=(2,0)) rfl),(bs (id:=(29,0)) rfl),(bs (id:=(9,0)) rfl),trivial⟩
      · exact ⟨(cT rfl rfl rfl rfl (by repeat' (first | exact Lv.v | exact aK | refine ai ?_ ?_))),(cT rfl rfl rfl rfl lz),(cL rfl rfl rfl ag),(cT rfl rfl rfl rfl lz),(cL rfl rfl rfl ag),(cL rfl rfl rfl ag),trivial⟩
      kernel_rfl
    simp only;omega
  refine go 1 ?_
  refine aV rfl rfl (dK aa [((0,9),(29,0)),((1,9),(60,0))] ?_ (eS T j N hj) ob tr ae) ?_
  · repeat' (first | exact dw | refine cN ?_ ?_ | exact bs rfl)
  refine aV rfl rfl (dg _ _ Tryz.underlying9 rfl rfl rfl) (go 2 ?_)
  refine ax (hK11 _ ?_)
  refine ay rfl (fun hc44=> ?_) (fun hc44=> ?_)
  · skip
    obtain ⟨l,j',hdp,hdz⟩: ∃ l j',gK T g N (br T j)=some (l,j')∧jo T g d (v++l) j'=some (D',V',i):=by
      rcases hm with ⟨h,_⟩ | ⟨_,_,l,j',h1,h2⟩ | ⟨_,h,_⟩
      · exact absurd h hg39
      · exact ⟨l,j',(mF g _ hp).trans h1,h2⟩
      exact absurd hc44 h
    obtain ⟨hda,hdb,hdc⟩:=rT hTl g N j hj (l,j') hdp
    simp only at hda hdb hdc
    have hvl:(v++l).length=v.length+l.length:=by simp
    refine aR (hK10 _ ?_)
    refine aH (aE ?_)
    refine az (σ':=an 114 [(2,_),(8,_),(9,_)] [((2,0),_),((29,0),_),((60,0),_),((9,0),_),((61,0),_),((62,0),_)] [] []) (by
      refine Le.mkJ [] [] rfl ?_ ?_ trivial trivial ?_
      · exact ⟨(iP rfl),(iP rfl),(iP rfl),trivial⟩
      · exact ⟨(bU rfl rfl rfl),(bU rfl rfl rfl),(bU rfl rfl rfl),(bU rfl rfl rfl),(bU rfl rfl rfl),(bU rfl rfl rfl),trivial⟩
      kernel_rfl) ?_
    refine aD (ef rfl (aj (dK aa [((0,9),(29,0)),((1,9),(60,0))] ?_ (eS T j N hj) ob tr ae) ?_))
    · repeat' (first | exact dw | refine cN ?_ ?_ | exact bs rfl)
    refine aj (dg _ _ Tryz.underlying9 rfl rfl rfl) (am (cK rfl (beq_eq_false_iff_ne.2 hg39) ?_))
    refine az (σ':=an 114 [(2,_),(8,_),(9,_)] [((2,0),_),((29,0), .box 222 [.sl T.length (um T), .v (.int .i64 (j:Int)), .v (.int .i64 0), .v (.int .i64 0), .ref (60,0) 0 N.length]),((60,0), .row 9 1 (fc N)),((9,0),_),((61,0),_),((62,0),_)] [] []) (by
      refine Le.mkJ [] [] rfl ?_ ?_ trivial trivial ?_
      · exact ⟨(iP rfl),(iP rfl),(iP rfl),trivial⟩
      · exact ⟨(bU rfl rfl rfl),(bU rfl rfl rfl),(bU rfl rfl rfl),(bU rfl rfl rfl),(bU rfl rfl rfl),(bU rfl rfl rfl),trivial⟩
      kernel_rfl) ?_
    refine dA 4 [(29,0),(71,0),(60,0)] ?_
    refine go 6 ?_
    refine aB (_,[((29,0),_),((71,0),_),((60,0), .gone)]) (fun τ=> (bp aa [((0,9),(29,0)),((1,9),(60,0)),((1,8),(71,0))] ?_ (hdc) ob tr tr rfl rfl ae ae)) ?_
    · repeat' (first | exact dw | refine cN ?_ ?_ | exact bs rfl)
    refine go 1 ?_
    refine cq ⟨rfl,?_⟩
    refine aj (bI (58,0) _ _ aa rfl rfl (by simp) (.sl (by simp)) ab rfl (qZ _ _) hvl.symm) ?_
    refine go 2 ?_
    refine ax (⟨(g,d,v++l,N++l,j'),?_,?_,?_⟩)
    · exact ⟨(hp.append_right l).trans (by rw [List.append_assoc]),hda,by simp only [List.length_append];omega,hdz⟩
    · skip
      refine Le.mkJ [((60,0),(71,0)),((62,0),(58,0))] [] rfl ?_ ?_ trivial trivial ?_
      · exact ⟨(bs (id:=(2,0)) rfl),(bs (id:=(29,0)) rfl),(bs (id:=(9,0)) rfl),trivial⟩
      · exact ⟨(cT rfl rfl rfl rfl (by repeat' (first | exact Lv.v | exact aK | refine ai ?_ ?_))),(cT rfl rfl rfl rfl lz),(cL rfl rfl rfl ag),(cT rfl rfl rfl rfl lz),(cL rfl rfl rfl ag),(cL rfl rfl rfl ag),trivial⟩
      kernel_rfl
    simp only;omega
  have hrd:(D',V',i)=(d,v,j):=by
    rcases hm with ⟨h,_⟩ | ⟨_,h,_⟩ | ⟨_,_,h⟩
    · exact absurd h hg39
    · exact absurd h hc44
    exact h
  obtain ⟨e1,e2,e3⟩:D'=d∧V'=v∧i=j:=⟨congrArg (·.1) hrd,congrArg (·.2.1) hrd,congrArg (·.2.2) hrd⟩
  clear hrd hm hz
  subst e1;subst e2;subst e3
  refine aW (id (hK9 _ ?_))
  refine aF fun K14 hK14=> ?_
  refine aH ?_
  refine az (Le.frzB (29,0) 4 rfl rfl rfl rfl (ys:=fc N) (by simp [List.take_of_length_le]) (by simp)) ?_
  refine aT (α:=Nat×List Hd×Nat) (fun y=> y.2.1.length+y.1≤10*T.length+10∧y.2.2 < T.length∧JK T y.1 y.2.1 y.2.2=some L') 114 [(2,_),(8,_),(9,_)] [((2,0),_),((61,0),_),((62,0),_)] (fun y=> []) (fun y=> [((29,0), .box 222 [.sl T.length (um T), .v (.int .i64 (y.2.2:Int)), .v (.int .i64 0), .v (.int .i64 0), .sl N.length (fc N)]),((9,0), .box 64 [.ref (61,0) 0 D'.length, .ref (62,0) 0 V'.length, .sl y.2.1.length (lK y.2.1)])]) [] [] (fun y=> y.1) (10*T.length+10,[],i) ?_ (by
    refine Le.mkJ [] [] rfl ?_ ?_ trivial trivial ?_
    · exact ⟨(iP rfl),(iP rfl),(iP rfl),trivial⟩
    · exact ⟨(bU rfl rfl rfl),(bU rfl rfl rfl),(bU rfl rfl rfl),(cT rfl rfl rfl rfl lz),(cT rfl rfl rfl rfl lz),trivial⟩
    kernel_rfl) ?_
  · exact ⟨by simp,hj,hL⟩
  intro y hy
  obtain ⟨y1,l,k⟩:=y
  obtain ⟨hyl,hk,hy⟩:=hy
  obtain ⟨g2,rfl,hm2⟩:=Da hy
  simp only at hyl hk hm2 ⊢
  refine aF fun K15 hK15=> ?_
  refine aE (dA 19 [] ?_)
  refine go 28 ?_
  refine dM (_,[]) rfl (fun τ=> rfl) (fun τ=> aO _ _ aa rfl rfl _ rfl ab (by (simp only [aq,aJ,aM,bh,bc,bm,bi];omega)) ag) ?_
  refine go 3 ?_
  refine dM (_,[]) rfl (fun τ=> rfl) (fun τ=> bl _ aa rfl (by exact qS _ _ ab) rfl) ?_
  refine go 1 ?_
  refine dM (_,[]) rfl (fun τ=> rfl) (fun τ=> cM _ _ rfl rfl rfl) ?_
  refine go 5 ?_
  refine ay rfl (fun hc78=> ?_) (fun hc78=> ?_)
  · skip
    obtain ⟨_,j1,hn,j2,dd,j3,h1,h2,h3,h4,h5⟩:=hm2.resolve_left fun x=> by omega
    have hx1:=fE T k j1 N Jp hk hTl h1
    obtain ⟨ha2,_,hx2⟩:=tP (N:=N) hTl j1 (jH h1 hk) l ab _ h2 h3
    obtain ⟨ha3,hx3⟩:=xz (N:=N) hTl ab ha2 h4
    have hx4:=DW l ab (hn,dd)
    have hpl2:=BX l (hn,dd)
    simp only at ha2 ha3 hx2 hx3 hx4
    refine aR (hK15 _ ?_)
    refine aH (aE ?_)
    refine az (σ':=an 114 [(2,_),(8,_),(9,_)] [((2,0),_),((61,0),_),((62,0),_),((29,0),_),((9,0),_)] [] []) (by
      refine Le.mkJ [] [] rfl ?_ ?_ trivial trivial ?_
      · exact ⟨(iP rfl),(iP rfl),(iP rfl),trivial⟩
      · exact ⟨(bU rfl rfl rfl),(bU rfl rfl rfl),(bU rfl rfl rfl),(bU rfl rfl rfl),(bU rfl rfl rfl),trivial⟩
      kernel_rfl) ?_
    refine aD (ef rfl (aj (dK aa [((0,9),(29,0))] ?_ (hx1) ob tr ae) ?_))
    · repeat' (first | exact dw | refine cN ?_ ?_ | exact Lv.v | exact bs rfl)
    refine go 11 ?_
    refine aF fun K20 hK20=> ?_
    refine go 4 ?_
    refine aj (dK aa [((0,9),(29,0))] ?_ (hx2) ob tr ae) ?_
    · repeat' (first | exact dw | refine cN ?_ ?_ | exact Lv.sl | exact bs rfl)
    refine cC rfl (ax (hK20 _ ?_))
    refine aF fun K21 hK21=> ?_
    refine aD (ef rfl (aj (dK aa [((0,9),(29,0))] ?_ (hx3) ob tr ae) ?_))
    · repeat' (first | exact dw | refine cN ?_ ?_ | exact Lv.v | exact bs rfl)
    refine go 2 ?_
    refine ax (hK21 _ ?_)
    refine az (σ':=an 114 [(2,_),(8,_),(9,_),(10,_),(11,_)] [((2,0),_),((61,0),_),((62,0),_),((29,0),_),((9,0),_),((11,0),_)] [] []) (by
      refine Le.mkJ [] [] rfl ?_ ?_ trivial trivial ?_
      · exact ⟨(iP rfl),(iP rfl),(iP rfl),(iV rfl),(iP rfl),trivial⟩
      · exact ⟨(bU rfl rfl rfl),(bU rfl rfl rfl),(bU rfl rfl rfl),(bU rfl rfl rfl),(bU rfl rfl rfl),(bU rfl rfl rfl),trivial⟩
      kernel_rfl) ?_
    refine go 6 ?_
    refine aj (ap aa al (hx4) rfl rfl) ?_
    refine go 2 ?_
    refine ax (⟨(g2,ry l (hn,dd),j3),?_,?_,?_⟩)
    · exact ⟨by simp only [hpl2];omega,ha3,h5⟩
    · skip
      refine Le.mkJ [] [] rfl ?_ ?_ trivial trivial ?_
      · exact ⟨(iP rfl),(iP rfl),(iP rfl),trivial⟩
      · exact ⟨(bU rfl rfl rfl),(bU rfl rfl rfl),(bU rfl rfl rfl),(cT rfl rfl rfl rfl lz),(cT rfl rfl rfl rfl lz),trivial⟩
      kernel_rfl
    simp only;omega
  have hrl:=(hm2.resolve_right fun x=> x.1 ab).2
  subst hrl
  refine aW (id (hK14 _ ?_))
  refine aE (aE ?_)
  refine az (σ':=an 114 [(2,_),(8,_),(9,_)] [((2,0),_),((61,0),_),((62,0),_),((29,0),_),((9,0),_)] [] []) (by
    refine Le.mkJ [] [] rfl ?_ ?_ trivial trivial ?_
    · exact ⟨(iP rfl),(iP rfl),(iP rfl),trivial⟩
    · exact ⟨(bU rfl rfl rfl),(bU rfl rfl rfl),(bU rfl rfl rfl),(bU rfl rfl rfl),(bU rfl rfl rfl),trivial⟩
    kernel_rfl) ?_
  refine go 15 ?_
  exact au (wY (.inr rfl) rfl (.cellA aa rfl rfl rfl) (.tmp kU) (.tmp kU) (Le.out [] [(61,0),(62,0)] (.tup rfl (ai (.agg rfl (ai (dH rfl rfl (by simp) rfl) (ai (dH rfl rfl (by simp) rfl) lz))) lz)) rfl rfl rfl tr trivial))
end Go.Proofs.YtmjnackchaahbaaGreat

set_option maxHeartbeats 2000000
namespace Go.Proofs.YtmjnackchaahbaaGreat
open Go.RowKit

def lb (l:List Nd) (j:Nat):Nd:=l.getD j ⟨0,0,[],0,[]⟩
theorem IW (l:List Nd) (k:Nat) (h:k < l.length):lb l k=l[k]:=by simp [lb,h]
theorem cu (l:List Nd) (k:Nat) (h:k < l.length):PV.ups (((mG l).drop (k*4)).take 4)=[.v (.int .i64 ((lb l k).k:Int)), .v (.int .i64 ((lb l k).n:Int)), .v (bt (lb l k).s), .sl (lb l k).kn (lb l k).kids]:=by
 rw [IW l k h,show ((mG l).drop (k*4)).take 4=l[k].row from kX Nd.row 4 (fun _=> rfl) l k h];rfl
theorem gj (l:List Tx) (n:Nat) (hn:l.length=n) (h1:n≤1000) (t:Tx):Spec Tryz.prog 204 (aI [.sl n (fc l), .v (bt t)] []) (aC (.v (.bool (decide (t∈l)))) []):=by
 refine Spec.ofN Tryz.func204 rfl Tryz.ntmps204 rfl ?_
 refine aG (gv rfl (am (aF fun K2 hK2=> ?_)))
 refine aG (cC rfl (am (aH ?_)))
 refine aT (α:=Nat) (fun k=> k≤n∧t∉l.take k) 18 [(0,_),(1,_)] [] (fun k=> [(5, .v (.int .i64 (k:Int)))]) (fun k=> []) [] [] (fun k=> n - k) 0 ?_ (kj [] [] []) ?_
 ·exact ⟨Nat.zero_le _,by simp⟩
 intro k hk
 obtain ⟨hk,hnt⟩:=hk
 refine aF fun K4 hK4=> ?_
 refine go 6 ?_
 refine ay rfl (fun hc9=> ?_) (fun hc9=> ?_)
 ·refine aR (hK4 _ ?_)
  refine aE (aH (aG (gR rfl (bW rfl (aj (aO _ _ aa rfl rfl _ rfl ab (by (simp only [aq,aJ,aM,bh,bc,bm,bi];omega)) (by exact Nat.mul_one _)) ?_)))))
  refine aj (bl _ aa rfl (by exact jG _ _ ab) rfl) ?_
  refine sZ rfl (aj (dg _ _ Tryz.underlying9 rfl rfl rfl) (am (ay rfl (fun hc17=> ?_) (fun hc17=> ?_))))
  ·refine aG (gv rfl (am (au (rE rfl rfl ?_))))
   exact decide_eq_true (hc17 ▸ ke ab)
  refine go 5 ?_
  refine ax (⟨k+1,?_,?_,?_⟩)
  ·exact ⟨by omega,kB hnt ab hc17⟩
  ·exact kj [] [] []
  omega
 have hall:t∉l:=by rwa [List.take_of_length_le ab] at hnt
 refine aW (id (hK2 _ ?_))
 refine aG (gv rfl (am (au (rE rfl rfl ?_))))
 exact decide_eq_false hall
def zt:List Tx:=[[60],[60,61],[62],[62,61],[61,61],[33,61]]
theorem mS (t:Tx):Spec Tryz.prog 227 (aI [.v (bt t)] []) (aC (.v (.bool (decide (t∈zt)))) []):=by
 refine Spec.ofN Tryz.func227 rfl Tryz.ntmps227 rfl ?_
 refine go 6 ?_
 refine aj (ap aa al (gj zt 6 rfl ab t) rfl rfl) ?_
 refine gv rfl (am (au (rE rfl rfl ?_)))
 rfl
theorem Iv (n:Nat):Spec Tryz.prog 203 (aI [pI (nd 12 n [] [])] []) (aC (.v (.int .i64 1)) []):=by
 refine Spec.ofN Tryz.func203 rfl Tryz.ntmps203 rfl ?_
 refine go 21 ?_
 refine aE ?_
 refine az (σ':=an 80 [] [] [] []) kp ?_
 exact aD (cC rfl (am (au (dU rfl rfl))))
theorem JC (s:Tx):Spec Tryz.prog 203 (aI [pI (nd 14 0 s [])] []) (aC (.v (.int .i64 1)) []):=by
 refine Spec.ofN Tryz.func203 rfl Tryz.ntmps203 rfl ?_
 refine go 21 ?_
 refine aE ?_
 refine az (σ':=an 80 [] [] [] []) kp ?_
 exact aD (cC rfl (am (au (dU rfl rfl))))
theorem GG (s:Tx):Spec Tryz.prog 203 (aI [pI (nd 15 0 s [])] []) (aC (.v (.int .i64 1)) []):=by
 refine Spec.ofN Tryz.func203 rfl Tryz.ntmps203 rfl ?_
 refine go 21 ?_
 refine aE ?_
 refine az (σ':=an 80 [] [] [] []) kp ?_
 exact aD (cC rfl (am (au (dU rfl rfl))))
theorem Fl (n:Nat):Spec Tryz.prog 203 (aI [pI (nd 13 n [] [])] []) (aC (.v (.int .i64 2)) []):=by
 refine Spec.ofN Tryz.func203 rfl Tryz.ntmps203 rfl ?_
 refine go 23 ?_
 refine aE ?_
 refine az (σ':=an 80 [(1,_)] [((1,0),_)] [] []) kp ?_
 refine go 9 ?_
 exact au (dU rfl rfl)
theorem GP (L:List Nd) (hL:L.length≤3) (t:Nat→Nat) (ht: ∀ j,t j≤2) (h: ∀ j,j < L.length→Spec Tryz.prog 203 (aI [pI (lb L j)] []) (aC (.v (.int .i64 (t j:Int))) [])) (r:Nat) (hr1:(∀ j,j < L.length→t j=1)→r=1) (hr0: ∀ j,j < L.length→t j≠1→r=0):
  Spec Tryz.prog 203 (aI [.agg [.v (.int .i64 16), .v (.int .i64 0), .v (bt []), .sl L.length (mG L)]] []) (aC (.v (.int .i64 (r:Int))) []):=by
 refine Spec.ofN Tryz.func203 rfl Tryz.ntmps203 rfl ?_
 refine go 23 ?_
 refine aE ?_
 refine az (σ':=an 80 [(1,_)] [((1,0),_)] [] []) kp ?_
 refine go 25 ?_
 refine aE ?_
 refine az (σ':=an 80 [(1,_)] [((1,0),_)] [] []) kp ?_
 refine go 31 ?_
 refine aE ?_
 refine az (σ':=an 80 [(1,_),(3,_),(4,_)] [((1,0),_)] [] []) kp ?_
 refine go 12 ?_
 refine aF fun K14 hK14=> ?_
 refine aG (cC rfl (am (aH ?_)))
 refine aT (α:=Nat) (fun j=> j≤L.length∧ ∀ q,q < j→t q=1) 80 [(1,_),(3,_),(4,_)] [((1,0),_)] (fun j=> [(5, .v (.int .i64 (j:Int)))]) (fun j=> []) [] [] (fun j=> L.length - j) 0 ?_ (kj [0] [] []) ?_
 ·exact ⟨Nat.zero_le _,fun q hq=> by omega⟩
 intro j hj
 obtain ⟨hj,hall⟩:=hj
 have htj:=ht j
 refine aF fun K16 hK16=> ?_
 refine go 7 ?_
 refine ay rfl (fun hc67=> ?_) (fun hc67=> ?_)
 ·refine aR (hK16 _ ?_)
  refine go 6 ?_
  refine aj (aO _ _ aa rfl rfl _ rfl ab (by (simp only [aq,aJ,aM,bh,bc,bm,bi];omega)) ag) ?_
  refine aj (bn _ aa rfl (by exact cu _ _ ab) rfl) ?_
  refine aj (ap aa al (h j ab) rfl rfl) ?_
  refine go 5 ?_
  refine aj (cM _ _ rfl rfl rfl) (am (ay rfl (fun hc78=> ?_) (fun hc78=> ?_)))
  ·have hr:=hr0 j ab ab
   refine aE ?_
   refine az (σ':=an 80 [] [] [] []) kp ?_
   refine aD (cC rfl (am (au (sU rfl rfl ?_))))
   rw [hr];rfl
  have hall1: ∀ q,q < j+1→t q=1:=fun q hq=> by
   by_cases h:q < j
   ·exact hall q h
   obtain rfl:q=j:=by omega
   omega
  refine kT ?_
  refine az (σ':=an 80 [(1,_),(3,_),(4,_),(5,_)] [((1,0),_)] [] []) kp ?_
  refine go 4 ?_
  refine ax (⟨j+1,?_,?_,?_⟩)
  ·exact ⟨by omega,hall1⟩
  ·exact kj [0] [] []
  omega
 have hr:=hr1 fun q hq=> hall q ab
 refine aW (id (hK14 _ ?_))
 refine aG (bW rfl (cC rfl (am (au (sU rfl rfl ?_)))))
 rw [hr];rfl
theorem JI (L:List Nd) (hL:L.length≤3) (t:Nat→Nat) (ht: ∀ j,t j≤2) (h: ∀ j,j < L.length→Spec Tryz.prog 203 (aI [pI (lb L j)] []) (aC (.v (.int .i64 (t j:Int))) [])) (r:Nat) (hr1:(∀ j,j < L.length→t j=1)→r=1) (hr0: ∀ j,j < L.length→t j≠1→r=0):
  Spec Tryz.prog 203 (aI [.agg [.v (.int .i64 17), .v (.int .i64 0), .v (bt [45]), .sl L.length (mG L)]] []) (aC (.v (.int .i64 (r:Int))) []):=by
 refine Spec.ofN Tryz.func203 rfl Tryz.ntmps203 rfl ?_
 refine go 23 ?_
 refine aE ?_
 refine az (σ':=an 80 [(1,_)] [((1,0),_)] [] []) kp ?_
 refine go 25 ?_
 refine aE ?_
 refine az (σ':=an 80 [(1,_)] [((1,0),_)] [] []) kp ?_
 refine go 31 ?_
 refine aE ?_
 refine az (σ':=an 80 [(1,_),(3,_),(4,_)] [((1,0),_)] [] []) kp ?_
 refine go 12 ?_
 refine aF fun K14 hK14=> ?_
 refine aG (cC rfl (am (aH ?_)))
 refine aT (α:=Nat) (fun j=> j≤L.length∧ ∀ q,q < j→t q=1) 80 [(1,_),(3,_),(4,_)] [((1,0),_)] (fun j=> [(5, .v (.int .i64 (j:Int)))]) (fun j=> []) [] [] (fun j=> L.length - j) 0 ?_ (kj [0] [] []) ?_
 ·exact ⟨Nat.zero_le _,fun q hq=> by omega⟩
 intro j hj
 obtain ⟨hj,hall⟩:=hj
 have htj:=ht j
 refine aF fun K16 hK16=> ?_
 refine go 7 ?_
 refine ay rfl (fun hc67=> ?_) (fun hc67=> ?_)
 ·refine aR (hK16 _ ?_)
  refine go 6 ?_
  refine aj (aO _ _ aa rfl rfl _ rfl ab (by (simp only [aq,aJ,aM,bh,bc,bm,bi];omega)) ag) ?_
  refine aj (bn _ aa rfl (by exact cu _ _ ab) rfl) ?_
  refine aj (ap aa al (h j ab) rfl rfl) ?_
  refine go 5 ?_
  refine aj (cM _ _ rfl rfl rfl) (am (ay rfl (fun hc78=> ?_) (fun hc78=> ?_)))
  ·have hr:=hr0 j ab ab
   refine aE ?_
   refine az (σ':=an 80 [] [] [] []) kp ?_
   refine aD (cC rfl (am (au (sU rfl rfl ?_))))
   rw [hr];rfl
  have hall1: ∀ q,q < j+1→t q=1:=fun q hq=> by
   by_cases h:q < j
   ·exact hall q h
   obtain rfl:q=j:=by omega
   omega
  refine kT ?_
  refine az (σ':=an 80 [(1,_),(3,_),(4,_),(5,_)] [((1,0),_)] [] []) kp ?_
  refine go 4 ?_
  refine ax (⟨j+1,?_,?_,?_⟩)
  ·exact ⟨by omega,hall1⟩
  ·exact kj [0] [] []
  omega
 have hr:=hr1 fun q hq=> hall q ab
 refine aW (id (hK14 _ ?_))
 refine aG (bW rfl (cC rfl (am (au (sU rfl rfl ?_)))))
 rw [hr];rfl
theorem Im (L:List Nd) (hL:L.length≤3) (t:Nat→Nat) (ht: ∀ j,t j≤2) (h: ∀ j,j < L.length→Spec Tryz.prog 203 (aI [pI (lb L j)] []) (aC (.v (.int .i64 (t j:Int))) [])) (r:Nat) (hr1:(∀ j,j < L.length→t j=2)→r=2) (hr0: ∀ j,j < L.length→t j≠2→r=0):
  Spec Tryz.prog 203 (aI [.agg [.v (.int .i64 17), .v (.int .i64 0), .v (bt [33]), .sl L.length (mG L)]] []) (aC (.v (.int .i64 (r:Int))) []):=by
 refine Spec.ofN Tryz.func203 rfl Tryz.ntmps203 rfl ?_
 refine go 23 ?_
 refine aE ?_
 refine az (σ':=an 80 [(1,_)] [((1,0),_)] [] []) kp ?_
 refine go 25 ?_
 refine aE ?_
 refine az (σ':=an 80 [(1,_)] [((1,0),_)] [] []) kp ?_
 refine go 29 ?_
 refine aE ?_
 refine az (σ':=an 80 [(1,_)] [((1,0),_)] [] []) kp ?_
 refine go 19 ?_
 refine aF fun K15 hK15=> ?_
 refine aG (cC rfl (am (aH ?_)))
 refine aT (α:=Nat) (fun j=> j≤L.length∧ ∀ q,q < j→t q=2) 80 [(1,_),(3,_),(4,_)] [((1,0),_)] (fun j=> [(5, .v (.int .i64 (j:Int)))]) (fun j=> []) [] [] (fun j=> L.length - j) 0 ?_ (kj [0] [] []) ?_
 ·exact ⟨Nat.zero_le _,fun q hq=> by omega⟩
 intro j hj
 obtain ⟨hj,hall⟩:=hj
 have htj:=ht j
 refine aF fun K17 hK17=> ?_
 refine go 7 ?_
 refine ay rfl (fun hc67=> ?_) (fun hc67=> ?_)
 ·refine aR (hK17 _ ?_)
  refine go 6 ?_
  refine aj (aO _ _ aa rfl rfl _ rfl ab (by (simp only [aq,aJ,aM,bh,bc,bm,bi];omega)) ag) ?_
  refine aj (bn _ aa rfl (by exact cu _ _ ab) rfl) ?_
  refine aj (ap aa al (h j ab) rfl rfl) ?_
  refine go 5 ?_
  refine aj (cM _ _ rfl rfl rfl) (am (ay rfl (fun hc78=> ?_) (fun hc78=> ?_)))
  ·have hr:=hr0 j ab ab
   refine aE ?_
   refine az (σ':=an 80 [] [] [] []) kp ?_
   refine aD (cC rfl (am (au (sU rfl rfl ?_))))
   rw [hr];rfl
  have hall1: ∀ q,q < j+1→t q=2:=fun q hq=> by
   by_cases h:q < j
   ·exact hall q h
   obtain rfl:q=j:=by omega
   omega
  refine kT ?_
  refine az (σ':=an 80 [(1,_),(3,_),(4,_),(5,_)] [((1,0),_)] [] []) kp ?_
  refine go 4 ?_
  refine ax (⟨j+1,?_,?_,?_⟩)
  ·exact ⟨by omega,hall1⟩
  ·exact kj [0] [] []
  omega
 have hr:=hr1 fun q hq=> hall q ab
 refine aW (id (hK15 _ ?_))
 refine aG (bW rfl (cC rfl (am (au (sU rfl rfl ?_)))))
 rw [hr];rfl
theorem vn (s:Tx) (hs1:s∈[[38,38],[124,124]]) (hs2:s∉zt) (L:List Nd) (hL:L.length≤3) (t:Nat→Nat) (ht: ∀ j,t j≤2) (h: ∀ j,j < L.length→Spec Tryz.prog 203 (aI [pI (lb L j)] []) (aC (.v (.int .i64 (t j:Int))) [])) (r:Nat) (hr1:(∀ j,j < L.length→t j=2)→r=2) (hr0: ∀ j,j < L.length→t j≠2→r=0):
  Spec Tryz.prog 203 (aI [.agg [.v (.int .i64 18), .v (.int .i64 0), .v (bt s), .sl L.length (mG L)]] []) (aC (.v (.int .i64 (r:Int))) []):=by
 refine Spec.ofN Tryz.func203 rfl Tryz.ntmps203 rfl ?_
 refine go 23 ?_
 refine aE ?_
 refine az (σ':=an 80 [(1,_)] [((1,0),_)] [] []) kp ?_
 refine go 25 ?_
 refine aE ?_
 refine az (σ':=an 80 [(1,_)] [((1,0),_)] [] []) kp ?_
 refine go 24 ?_
 refine aV rfl rfl (ap aa al (gj [[38,38],[124,124]] 2 rfl ab s) rfl rfl) ?_
 refine go 3 ?_
 refine fR rfl (decide_eq_true hs1) ?_
 refine aE ?_
 refine az (σ':=an 80 [(1,_)] [((1,0),_)] [] []) kp ?_
 refine go 14 ?_
 refine aV rfl rfl (ap aa al (mS s) rfl rfl) ?_
 refine go 2 ?_
 refine cK rfl (decide_eq_false hs2) ?_
 refine cE (aF fun K15 hK15=> ?_)
 refine aG (cC rfl (am (aH ?_)))
 refine aT (α:=Nat) (fun j=> j≤L.length∧ ∀ q,q < j→t q=2) 80 [(1,_),(3,_),(4,_)] [((1,0),_)] (fun j=> [(5, .v (.int .i64 (j:Int)))]) (fun j=> []) [] [] (fun j=> L.length - j) 0 ?_ (kj [0] [] []) ?_
 ·exact ⟨Nat.zero_le _,fun q hq=> by omega⟩
 intro j hj
 obtain ⟨hj,hall⟩:=hj
 have htj:=ht j
 refine aF fun K17 hK17=> ?_
 refine go 7 ?_
 refine ay rfl (fun hc67=> ?_) (fun hc67=> ?_)
 ·refine aR (hK17 _ ?_)
  refine go 6 ?_
  refine aj (aO _ _ aa rfl rfl _ rfl ab (by (simp only [aq,aJ,aM,bh,bc,bm,bi];omega)) ag) ?_
  refine aj (bn _ aa rfl (by exact cu _ _ ab) rfl) ?_
  refine aj (ap aa al (h j ab) rfl rfl) ?_
  refine go 5 ?_
  refine aj (cM _ _ rfl rfl rfl) (am (ay rfl (fun hc78=> ?_) (fun hc78=> ?_)))
  ·have hr:=hr0 j ab ab
   refine aE ?_
   refine az (σ':=an 80 [] [] [] []) kp ?_
   refine aD (cC rfl (am (au (sU rfl rfl ?_))))
   rw [hr];rfl
  have hall1: ∀ q,q < j+1→t q=2:=fun q hq=> by
   by_cases h:q < j
   ·exact hall q h
   obtain rfl:q=j:=by omega
   omega
  refine kT ?_
  refine az (σ':=an 80 [(1,_),(3,_),(4,_),(5,_)] [((1,0),_)] [] []) kp ?_
  refine go 4 ?_
  refine ax (⟨j+1,?_,?_,?_⟩)
  ·exact ⟨by omega,hall1⟩
  ·exact kj [0] [] []
  omega
 have hr:=hr1 fun q hq=> hall q ab
 refine aW (id (hK15 _ ?_))
 refine aG (bW rfl (cC rfl (am (au (sU rfl rfl ?_)))))
 rw [hr];rfl
theorem IT (s:Tx) (hs1:s∉[[38,38],[124,124]]) (hs2:s∈zt) (L:List Nd) (hL:L.length≤3) (t:Nat→Nat) (ht: ∀ j,t j≤2) (h: ∀ j,j < L.length→Spec Tryz.prog 203 (aI [pI (lb L j)] []) (aC (.v (.int .i64 (t j:Int))) [])) (r:Nat) (hr1:(∀ j,j < L.length→t j=1)→r=2) (hr0: ∀ j,j < L.length→t j≠1→r=0):
  Spec Tryz.prog 203 (aI [.agg [.v (.int .i64 18), .v (.int .i64 0), .v (bt s), .sl L.length (mG L)]] []) (aC (.v (.int .i64 (r:Int))) []):=by
 refine Spec.ofN Tryz.func203 rfl Tryz.ntmps203 rfl ?_
 refine go 23 ?_
 refine aE ?_
 refine az (σ':=an 80 [(1,_)] [((1,0),_)] [] []) kp ?_
 refine go 25 ?_
 refine aE ?_
 refine az (σ':=an 80 [(1,_)] [((1,0),_)] [] []) kp ?_
 refine go 24 ?_
 refine aV rfl rfl (ap aa al (gj [[38,38],[124,124]] 2 rfl ab s) rfl rfl) ?_
 refine go 3 ?_
 refine cK rfl (decide_eq_false hs1) ?_
 refine cE (aE (aE ?_))
 refine az (σ':=an 80 [(1,_),(3,_),(4,_)] [((1,0),_)] [] []) kp ?_
 refine go 7 ?_
 refine aV rfl rfl (ap aa al (mS s) rfl rfl) ?_
 refine go 2 ?_
 refine fR rfl (decide_eq_true hs2) ?_
 refine aD (cC rfl (am (aF fun K14 hK14=> ?_)))
 refine aG (cC rfl (am (aH ?_)))
 refine aT (α:=Nat) (fun j=> j≤L.length∧ ∀ q,q < j→t q=1) 80 [(1,_),(3,_),(4,_)] [((1,0),_)] (fun j=> [(5, .v (.int .i64 (j:Int)))]) (fun j=> []) [] [] (fun j=> L.length - j) 0 ?_ (kj [0] [] []) ?_
 ·exact ⟨Nat.zero_le _,fun q hq=> by omega⟩
 intro j hj
 obtain ⟨hj,hall⟩:=hj
 have htj:=ht j
 refine aF fun K16 hK16=> ?_
 refine go 7 ?_
 refine ay rfl (fun hc67=> ?_) (fun hc67=> ?_)
 ·refine aR (hK16 _ ?_)
  refine go 6 ?_
  refine aj (aO _ _ aa rfl rfl _ rfl ab (by (simp only [aq,aJ,aM,bh,bc,bm,bi];omega)) ag) ?_
  refine aj (bn _ aa rfl (by exact cu _ _ ab) rfl) ?_
  refine aj (ap aa al (h j ab) rfl rfl) ?_
  refine go 5 ?_
  refine aj (cM _ _ rfl rfl rfl) (am (ay rfl (fun hc78=> ?_) (fun hc78=> ?_)))
  ·have hr:=hr0 j ab ab
   refine aE ?_
   refine az (σ':=an 80 [] [] [] []) kp ?_
   refine aD (cC rfl (am (au (sU rfl rfl ?_))))
   rw [hr];rfl
  have hall1: ∀ q,q < j+1→t q=1:=fun q hq=> by
   by_cases h:q < j
   ·exact hall q h
   obtain rfl:q=j:=by omega
   omega
  refine kT ?_
  refine az (σ':=an 80 [(1,_),(3,_),(4,_),(5,_)] [((1,0),_)] [] []) kp ?_
  refine go 4 ?_
  refine ax (⟨j+1,?_,?_,?_⟩)
  ·exact ⟨by omega,hall1⟩
  ·exact kj [0] [] []
  omega
 have hr:=hr1 fun q hq=> hall q ab
 refine aW (id (hK14 _ ?_))
 refine aG (bW rfl (cC rfl (am (au (sU rfl rfl ?_)))))
 rw [hr];rfl
theorem BV (s:Tx) (hs1:s∉[[38,38],[124,124]]) (hs2:s∉zt) (L:List Nd) (hL:L.length≤3) (t:Nat→Nat) (ht: ∀ j,t j≤2) (h: ∀ j,j < L.length→Spec Tryz.prog 203 (aI [pI (lb L j)] []) (aC (.v (.int .i64 (t j:Int))) [])) (r:Nat) (hr1:(∀ j,j < L.length→t j=1)→r=1) (hr0: ∀ j,j < L.length→t j≠1→r=0):
  Spec Tryz.prog 203 (aI [.agg [.v (.int .i64 18), .v (.int .i64 0), .v (bt s), .sl L.length (mG L)]] []) (aC (.v (.int .i64 (r:Int))) []):=by
 refine Spec.ofN Tryz.func203 rfl Tryz.ntmps203 rfl ?_
 refine go 23 ?_
 refine aE ?_
 refine az (σ':=an 80 [(1,_)] [((1,0),_)] [] []) kp ?_
 refine go 25 ?_
 refine aE ?_
 refine az (σ':=an 80 [(1,_)] [((1,0),_)] [] []) kp ?_
 refine go 24 ?_
 refine aV rfl rfl (ap aa al (gj [[38,38],[124,124]] 2 rfl ab s) rfl rfl) ?_
 refine go 3 ?_
 refine cK rfl (decide_eq_false hs1) ?_
 refine cE (aE (aE ?_))
 refine az (σ':=an 80 [(1,_),(3,_),(4,_)] [((1,0),_)] [] []) kp ?_
 refine go 7 ?_
 refine aV rfl rfl (ap aa al (mS s) rfl rfl) ?_
 refine go 2 ?_
 refine cK rfl (decide_eq_false hs2) ?_
 refine cE (aF fun K14 hK14=> ?_)
 refine aG (cC rfl (am (aH ?_)))
 refine aT (α:=Nat) (fun j=> j≤L.length∧ ∀ q,q < j→t q=1) 80 [(1,_),(3,_),(4,_)] [((1,0),_)] (fun j=> [(5, .v (.int .i64 (j:Int)))]) (fun j=> []) [] [] (fun j=> L.length - j) 0 ?_ (kj [0] [] []) ?_
 ·exact ⟨Nat.zero_le _,fun q hq=> by omega⟩
 intro j hj
 obtain ⟨hj,hall⟩:=hj
 have htj:=ht j
 refine aF fun K16 hK16=> ?_
 refine go 7 ?_
 refine ay rfl (fun hc67=> ?_) (fun hc67=> ?_)
 ·refine aR (hK16 _ ?_)
  refine go 6 ?_
  refine aj (aO _ _ aa rfl rfl _ rfl ab (by (simp only [aq,aJ,aM,bh,bc,bm,bi];omega)) ag) ?_
  refine aj (bn _ aa rfl (by exact cu _ _ ab) rfl) ?_
  refine aj (ap aa al (h j ab) rfl rfl) ?_
  refine go 5 ?_
  refine aj (cM _ _ rfl rfl rfl) (am (ay rfl (fun hc78=> ?_) (fun hc78=> ?_)))
  ·have hr:=hr0 j ab ab
   refine aE ?_
   refine az (σ':=an 80 [] [] [] []) kp ?_
   refine aD (cC rfl (am (au (sU rfl rfl ?_))))
   rw [hr];rfl
  have hall1: ∀ q,q < j+1→t q=1:=fun q hq=> by
   by_cases h:q < j
   ·exact hall q h
   obtain rfl:q=j:=by omega
   omega
  refine kT ?_
  refine az (σ':=an 80 [(1,_),(3,_),(4,_),(5,_)] [((1,0),_)] [] []) kp ?_
  refine go 4 ?_
  refine ax (⟨j+1,?_,?_,?_⟩)
  ·exact ⟨by omega,hall1⟩
  ·exact kj [0] [] []
  omega
 have hr:=hr1 fun q hq=> hall q ab
 refine aW (id (hK14 _ ?_))
 refine aG (bW rfl (cC rfl (am (au (sU rfl rfl ?_)))))
 rw [hr];rfl
end Go.Proofs.YtmjnackchaahbaaGreat

set_option maxHeartbeats 2000000
namespace Go.Proofs.YtmjnackchaahbaaGreat
open Go.RowKit

theorem pS: ∀ e,fk e≤2
 | .int _=> by simp [fk] | .bool _=> by simp [fk] | .var _=> by simp [fk] | .name _=> by simp [fk]
 | .draw e=> by simp only [fk];split <;> omega
 | .neg e=> by simp only [fk];split <;> omega
 | .not e=> by simp only [fk];split <;> omega
 | .bin o a b=> by cases o <;> simp only [fk] <;> split <;> omega
 | .and a b=> by simp only [fk];split <;> omega
 | .or a b=> by simp only [fk];split <;> omega
def vy (a b:Ex) (j:Nat):Nat:=if j=0 then fk a else fk b
theorem pQ (a b:Ex) (j:Nat):vy a b j≤2:=by unfold vy;split <;> exact pS _
theorem qa {a b:Ex} {op j:Nat} (hj:j < 2) (h:vy a b j≠op): ¬ (fk a=op∧fk b=op):=fun e=> by
 have:j=0∨j=1:=by omega
 rcases this with rfl | rfl
 ·exact h e.1
 exact h e.2
theorem wj (o:Bo):o.txt∉([[38,38],[124,124]]:List Tx):=by cases o <;> decide
def Ol:Bo→Nat | .add=> 1 | .sub=> 1 | .mul=> 1 | .div=> 1 | _=> 2
abbrev wF (d:Nd) (t:Nat):Prop:=Spec Tryz.prog 203 (aI [pI d] []) (aC (.v (.int .i64 (t:Int))) [])
theorem ue {d:Nd} {t:Nat} (h:wF d t): ∀ j,j < [d].length→wF (lb [d] j) t:=fun j hj=> by
 have:j=0:=by simpa using hj
 subst this
 exact h
theorem qU {d e:Nd} {a b:Ex} (h1:wF d (fk a)) (h2:wF e (fk b)): ∀ j,j < [d,e].length→wF (lb [d,e] j) (vy a b j):=fun j hj=> by
 have hj:j < 2:=hj
 have:j=0∨j=1:=by omega
 rcases this with rfl | rfl
 ·exact h1
 exact h2
theorem eg (nm:List Tx): ∀ e:Ex,wF (eB nm e) (fk e)
 | .int n=> Iv n.toNat
 | .bool b=> Fl (if b then 1 else 0)
 | .var i=> JC (nm.getD i [])
 | .name k=> GG (bltT.getD k [])
 | .draw e=> GP [eB nm e] (by simp) (fun _=> fk e) (fun _=> pS e) (ue (eg nm e)) _ (fun h=> if_pos (h 0 (by simp))) (fun _ _ h=> if_neg h)
 | .neg e=> JI [eB nm e] (by simp) (fun _=> fk e) (fun _=> pS e) (ue (eg nm e)) _ (fun h=> if_pos (h 0 (by simp))) (fun _ _ h=> if_neg h)
 | .not e=> Im [eB nm e] (by simp) (fun _=> fk e) (fun _=> pS e) (ue (eg nm e)) _ (fun h=> if_pos (h 0 (by simp))) (fun _ _ h=> if_neg h)
 | .and a b=> vn [38,38] ah ah [eB nm a,eB nm b] (by simp) (vy a b) (pQ a b) (qU (eg nm a) (eg nm b)) _ (fun h=> if_pos ⟨h 0 (by simp),h 1 (by simp)⟩) (fun _ hj h=> if_neg (qa hj h))
 | .or a b=> vn [124,124] ah ah [eB nm a,eB nm b] (by simp) (vy a b) (pQ a b) (qU (eg nm a) (eg nm b)) _ (fun h=> if_pos ⟨h 0 (by simp),h 1 (by simp)⟩) (fun _ hj h=> if_neg (qa hj h))
 | .bin o a b=> by
  have hty:fk (.bin o a b)=if fk a=1∧fk b=1 then Ol o else 0:=by cases o <;> rfl
  have hk:=qU (eg nm a) (eg nm b)
  by_cases ho:o.txt∈zt
  ·have h2:Ol o=2:=by cases o <;> first | rfl | (exact absurd ho ah)
   rw [h2] at hty
   exact IT o.txt (wj o) ho [eB nm a,eB nm b] (by simp) (vy a b) (pQ a b) hk _ (fun h=> hty.trans (if_pos ⟨h 0 (by simp),h 1 (by simp)⟩)) (fun _ hj h=> hty.trans (if_neg (qa hj h)))
  have h2:Ol o=1:=by cases o <;> first | rfl | (exact absurd ah ho)
  rw [h2] at hty
  exact BV o.txt (wj o) ho [eB nm a,eB nm b] (by simp) (vy a b) (pQ a b) hk _ (fun h=> hty.trans (if_pos ⟨h 0 (by simp),h 1 (by simp)⟩)) (fun _ hj h=> hty.trans (if_neg (qa hj h)))
theorem kH (n:Int) (s:Tx) (L:List Nd) (h: ∀ j,j < L.length→Spec Tryz.prog 166 (aI [pI (lb L j)] []) (aC (.v (.bool true)) [])):
  Spec Tryz.prog 166 (aI [.agg [.v (.int .i64 11), .v (.int .i64 n), .v (bt s), .sl L.length (mG L)]] []) (aC (.v (.bool true)) []):=by
 refine Spec.ofN Tryz.func166 rfl Tryz.ntmps166 rfl ?_
 refine aE ?_
 refine lB 0 3 rfl rfl rfl fun hlen=> ?_
 unfold maxLen at hlen
 refine go 11 ?_
 refine aF fun K4 hK4=> ?_
 refine aG (cC rfl (am (aH ?_)))
 refine aT (α:=Nat) (fun j=> j≤L.length) 73 [(1,_)] [((1,0),_)] (fun j=> [(3, .v (.int .i64 (j:Int)))]) (fun j=> []) [] [] (fun j=> L.length - j) 0 ?_ (kj [0] [] []) ?_
 ·omega
 intro j hj
 refine aF fun K6 hK6=> ?_
 refine go 7 ?_
 refine ay rfl (fun hc17=> ?_) (fun hc17=> ?_)
 ·refine aR (hK6 _ ?_)
  refine go 6 ?_
  refine aj (aO _ _ aa rfl rfl _ rfl ab (by (simp only [aq,aJ,aM,bh,bc,bm,bi];omega)) ag) ?_
  refine aj (bn _ aa rfl (by exact cu _ _ ab) rfl) ?_
  refine aj (ap aa al (h j ab) rfl rfl) ?_
  refine go 12 ?_
  refine ax (⟨j+1,?_,?_,?_⟩)
  ·omega
  ·exact kj [0] [] []
  omega
 refine aW (id (hK4 _ ?_))
 refine aG (gv rfl (am (au (rE rfl rfl ?_))))
 rfl
theorem sR (k:Nat) (hk:k=2∨k=3) (n:Int) (s:Tx) (L:List Nd) (hL:0 < L.length) (ht:Spec Tryz.prog 203 (aI [pI (lb L 0)] []) (aC (.v (.int .i64 2)) [])) (h: ∀ j,1≤j→j < L.length→Spec Tryz.prog 166 (aI [pI (lb L j)] []) (aC (.v (.bool true)) [])):
  Spec Tryz.prog 166 (aI [.agg [.v (.int .i64 (k:Int)), .v (.int .i64 n), .v (bt s), .sl L.length (mG L)]] []) (aC (.v (.bool true)) []):=by
 refine Spec.ofN Tryz.func166 rfl Tryz.ntmps166 rfl ?_
 refine aE ?_
 refine lB 0 3 rfl rfl rfl fun hlen=> ?_
 unfold maxLen at hlen
 refine go 8 ?_
 refine yQ rfl rfl (beq_eq_false_iff_ne.2 ab) ?_
 refine go 7 ?_
 refine aj (ba _ _ rfl rfl rfl) (Ec rfl (cA (fun hg31=> ?_) (fun hg31=> ?_)))
 ·refine go 9 ?_
  refine aj (aO _ _ aa rfl rfl 0 rfl hL (by simp only [bm];omega) rfl) ?_
  refine aj (bn _ aa rfl (by exact cu L 0 hL) rfl) ?_
  refine aj (ap aa al (ht) rfl rfl) ?_
  refine cC rfl (am (aF fun K7 hK7=> ?_))
  refine aE ?_
  refine az (σ':=an 73 [(1,_),(5,_)] [((1,0),_)] [] []) kp ?_
  refine aD (cC rfl (am (aH ?_)))
  refine aT (α:=Nat) (fun j=> 1≤j∧j≤L.length) 73 [(1,_),(5,_)] [((1,0),_)] (fun j=> [(6, .v (.int .i64 (j:Int)))]) (fun j=> []) [] [] (fun j=> L.length - j) 1 ?_ (kj [0] [] []) ?_
  ·exact ⟨Nat.le_refl _,hL⟩
  intro j hj
  obtain ⟨hj1,hj2⟩:=hj
  refine aF fun K9 hK9=> ?_
  refine go 7 ?_
  refine ay rfl (fun hc45=> ?_) (fun hc45=> ?_)
  ·refine aR (hK9 _ ?_)
   refine go 6 ?_
   refine aj (aO _ _ aa rfl rfl _ rfl ab (by (simp only [aq,aJ,aM,bh,bc,bm,bi];omega)) ag) ?_
   refine aj (bn _ aa rfl (by exact cu _ _ ab) rfl) ?_
   refine aj (ap aa al (h j hj1 ab) rfl rfl) ?_
   refine go 12 ?_
   refine ax (⟨j+1,?_,?_,?_⟩)
   ·omega
   ·exact kj [0] [] []
   omega
  refine aW (id (hK7 _ ?_))
  refine go 5 ?_
  refine au (rE rfl rfl ?_)
  rfl
 have hk3:k=3:=by omega
 refine go 2 ?_
 refine aV rfl rfl (ba (r:=true) _ _ rfl rfl (beq_iff_eq.2 ab)) ?_
 refine go 6 ?_
 refine aj (aO _ _ aa rfl rfl 0 rfl hL (by simp only [bm];omega) rfl) ?_
 refine aj (bn _ aa rfl (by exact cu L 0 hL) rfl) ?_
 refine aj (ap aa al (ht) rfl rfl) ?_
 refine cC rfl (am (aF fun K16 hK16=> ?_))
 refine aE ?_
 refine az (σ':=an 73 [(1,_),(5,_)] [((1,0),_)] [] []) kp ?_
 refine aD (cC rfl (am (aH ?_)))
 refine aT (α:=Nat) (fun j=> 1≤j∧j≤L.length) 73 [(1,_),(5,_)] [((1,0),_)] (fun j=> [(6, .v (.int .i64 (j:Int)))]) (fun j=> []) [] [] (fun j=> L.length - j) 1 ?_ (kj [0] [] []) ?_
 ·exact ⟨Nat.le_refl _,hL⟩
 intro j hj
 obtain ⟨hj1,hj2⟩:=hj
 refine aF fun K18 hK18=> ?_
 refine go 7 ?_
 refine ay rfl (fun hc45=> ?_) (fun hc45=> ?_)
 ·refine aR (hK18 _ ?_)
  refine go 6 ?_
  refine aj (aO _ _ aa rfl rfl _ rfl ab (by (simp only [aq,aJ,aM,bh,bc,bm,bi];omega)) ag) ?_
  refine aj (bn _ aa rfl (by exact cu _ _ ab) rfl) ?_
  refine aj (ap aa al (h j hj1 ab) rfl rfl) ?_
  refine go 12 ?_
  refine ax (⟨j+1,?_,?_,?_⟩)
  ·omega
  ·exact kj [0] [] []
  omega
 refine aW (id (hK16 _ ?_))
 refine go 5 ?_
 refine au (rE rfl rfl ?_)
 rfl
theorem fy (k:Nat) (hk:k≠2∧k≠3∧k≠11) (n:Int) (s:Tx) (L:List Nd) (h: ∀ j,j < L.length→Spec Tryz.prog 203 (aI [pI (lb L j)] []) (aC (.v (.int .i64 1)) [])):
  Spec Tryz.prog 166 (aI [.agg [.v (.int .i64 (k:Int)), .v (.int .i64 n), .v (bt s), .sl L.length (mG L)]] []) (aC (.v (.bool true)) []):=by
 refine Spec.ofN Tryz.func166 rfl Tryz.ntmps166 rfl ?_
 refine aE ?_
 refine lB 0 3 rfl rfl rfl fun hlen=> ?_
 unfold maxLen at hlen
 refine go 8 ?_
 refine yQ rfl rfl (beq_eq_false_iff_ne.2 ab) ?_
 refine go 7 ?_
 refine yQ rfl rfl (beq_eq_false_iff_ne.2 ab) ?_
 refine go 3 ?_
 refine aV rfl rfl (ba (r:=false) _ _ rfl rfl (beq_eq_false_iff_ne.2 ab)) ?_
 refine go 4 ?_
 refine aF fun K6 hK6=> ?_
 refine aG (cC rfl (am (aH ?_)))
 refine aT (α:=Nat) (fun j=> j≤L.length) 73 [(1,_)] [((1,0),_)] (fun j=> [(8, .v (.int .i64 (j:Int)))]) (fun j=> []) [] [] (fun j=> L.length - j) 0 ?_ (kj [0] [] []) ?_
 ·omega
 intro j hj
 refine aF fun K8 hK8=> ?_
 refine go 7 ?_
 refine ay rfl (fun hc62=> ?_) (fun hc62=> ?_)
 ·refine aR (hK8 _ ?_)
  refine go 6 ?_
  refine aj (aO _ _ aa rfl rfl _ rfl ab (by (simp only [aq,aJ,aM,bh,bc,bm,bi];omega)) ag) ?_
  refine aj (bn _ aa rfl (by exact cu _ _ ab) rfl) ?_
  refine aj (ap aa al (h j ab) rfl rfl) ?_
  refine go 12 ?_
  refine ax (⟨j+1,?_,?_,?_⟩)
  ·omega
  ·exact kj [0] [] []
  omega
 refine aW (id (hK6 _ ?_))
 refine aG (gv rfl (am (au (rE rfl rfl ?_))))
 rfl
end Go.Proofs.YtmjnackchaahbaaGreat

set_option maxHeartbeats 2000000
namespace Go.Proofs.YtmjnackchaahbaaGreat
open Go.RowKit

abbrev ME (d:Nd):Prop:=Spec Tryz.prog 166 (aI [pI d] []) (aC (.v (.bool true)) [])
theorem jf {nm:List Tx} {e:Ex} (h:pw e=true):wF (eB nm e) 1:=by
 have:=Nat.eq_of_beq_eq_true h
 have h2:=eg nm e
 rwa [this] at h2
theorem Kp {P:Nd→Prop} {d:Nd} (h:P d): ∀ j,j < [d].length→P (lb [d] j):=fun j hj=> by
 have:j=0:=by simpa using hj
 subst this
 exact h
theorem OB {P:Nd→Prop} {d e:Nd} (h:P d) (h':P e): ∀ j,j < [d,e].length→P (lb [d,e] j):=fun j hj=> by
 have hj:j < 2:=hj
 have:j=0∨j=1:=by omega
 rcases this with rfl | rfl
 ·exact h
 exact h'
theorem NR {P:Nd→Prop} {d e f:Nd} (h:P d) (h':P e) (h2:P f): ∀ j,j < [d,e,f].length→P (lb [d,e,f] j):=fun j hj=> by
 have hj:j < 3:=hj
 have:j=0∨j=1∨j=2:=by omega
 rcases this with rfl | rfl | rfl
 ·exact h
 ·exact h'
 exact h2
theorem DO {P:Nd→Prop}: ∀ j,j < ([]:List Nd).length→P (lb [] j):=fun j hj=> by simp at hj
theorem MD {P:Nd→Prop} {d:Nd} {l:List Nd} (h:P d) (h': ∀ j,j < l.length→P (lb l j)): ∀ j,j < (d::l).length→P (lb (d::l) j):=fun j hj=> by
 cases j with
 | zero=> exact h
 | succ j=> exact h' j (by simpa using hj)
mutual
theorem GR (nm:List Tx): ∀ s:Sm,yS s=true→ME (Fs nm s)
 | .assign i e,h=> fy 1 ab 0 (nm.getD i []) [eB nm e] (Kp (P:=fun d=> wF d 1) (jf h))
 | .send t k a b,h=> by
  simp only [yS,Bool.and_eq_true] at h
  exact fy 4 ab k [] [eB nm t,eB nm a,eB nm b] (NR (P:=fun d=> wF d 1) (jf h.1.1) (jf h.1.2) (jf h.2))
 | .timer k,_=> fy 5 ab k [] [] (DO (P:=fun d=> wF d 1))
 | .cancel k,_=> fy 6 ab k [] [] (DO (P:=fun d=> wF d 1))
 | .sync,_=> fy 7 ab 0 [] [] (DO (P:=fun d=> wF d 1))
 | .stop,_=> fy 10 ab 0 [] [] (DO (P:=fun d=> wF d 1))
 | .reply a b,h=> by
  simp only [yS,Bool.and_eq_true] at h
  exact fy 8 ab 0 [] [eB nm a,eB nm b] (OB (P:=fun d=> wF d 1) (jf h.1) (jf h.2))
 | .fail e,h=> fy 9 ab 0 [] [eB nm e] (Kp (P:=fun d=> wF d 1) (jf h))
 | .loop c b,h=> by
  simp only [yS,Bool.and_eq_true] at h
  have h1:=eg nm c
  rw [Nat.eq_of_beq_eq_true h.1] at h1
  refine sR 3 (.inr rfl) 0 [] [eB nm c,nd 11 0 [] (iU nm b)] (by simp) h1 fun j h1 hj=> ?_
  have hj:j < 2:=hj
  obtain rfl:j=1:=by omega
  exact kH 0 [] (iU nm b) (nA nm b h.2)
 | .ite c a b,h=> by
  simp only [yS,Bool.and_eq_true] at h
  have h1:=eg nm c
  rw [Nat.eq_of_beq_eq_true h.1.1] at h1
  refine sR 2 (.inl rfl) 0 [] [eB nm c,nd 11 0 [] (iU nm a),nd 11 0 [] (iU nm b)] (by simp) h1 fun j h1 hj=> ?_
  have hj:j < 3:=hj
  have:j=1∨j=2:=by omega
  rcases this with rfl | rfl
  ·exact kH 0 [] (iU nm a) (nA nm a h.1.2)
  exact kH 0 [] (iU nm b) (nA nm b h.2)
theorem nA (nm:List Tx): ∀ b:Bk,qL b=true→ ∀ j,j < (iU nm b).length→ME (lb (iU nm b) j)
 | .nil,_=> DO
 | .cons s b,h=> by
  simp only [qL,Bool.and_eq_true] at h
  exact MD (GR nm s h.1) (nA nm b h.2)
end
theorem Hb (nm:List Tx) (b:Bk) (h:qL b=true):ME (iY nm b):=kH 0 [] (iU nm b) (nA nm b h)

def iC (s:Tx) (l:List Tx):List Tx:=if s∈l then l else l++[s]
section
variable (nm:List Tx)
def tM:Ex→List Tx→List Tx
 | .int _,l=> l | .bool _,l=> l | .name _,l=> l
 | .var i,l=> iC (nm.getD i []) l
 | .draw e,l=> tM e l | .neg e,l=> tM e l | .not e,l=> tM e l
 | .bin _ a b,l=> tM b (tM a l)
 | .and a b,l=> tM b (tM a l)
 | .or a b,l=> tM b (tM a l)
mutual
def MS:Sm→List Tx→List Tx
 | .assign i e,l=> tM nm e (iC (nm.getD i []) l)
 | .send t _ a b,l=> tM nm b (tM nm a (tM nm t l))
 | .timer _,l=> l | .cancel _,l=> l | .sync,l=> l | .stop,l=> l
 | .reply a b,l=> tM nm b (tM nm a l)
 | .fail e,l=> tM nm e l
 | .loop c b,l=> Fd b (tM nm c l)
 | .ite c a b,l=> Fd b (Fd a (tM nm c l))
def Fd:Bk→List Tx→List Tx
 | .nil,l=> l
 | .cons s b,l=> Fd b (MS s l)
end
def GN (l:List Tx):Prop:=l.Nodup∧ ∀ x∈l,x∈nm
end
theorem GN.len {nm l:List Tx} (h:GN nm l):l.length≤nm.length:=h.1.length_le_of_subset fun x hx=> h.2 x hx
theorem GN.add {nm l:List Tx} (h:GN nm l) {i:Nat} (hi:i < nm.length):GN nm (iC (nm.getD i []) l):=by
 unfold iC
 split
 ·exact h
 rename_i hn
 refine ⟨List.nodup_append.2 ⟨h.1,by simp,fun a ha b hb e=> hn (by rw [List.mem_singleton.1 hb] at e;exact e ▸ ha)⟩,fun x hx=> ?_⟩
 rcases List.mem_append.1 hx with hx | hx
 ·exact h.2 x hx
 rw [List.mem_singleton.1 hx];exact ke hi
theorem GN.nil {nm:List Tx}:GN nm []:=⟨.nil,fun x hx=> by simp at hx⟩
theorem uw (n:Int) (s:Tx) (L:List Nd) (l:List Tx) (hs:s∉l) (hl:l.length≤1000) (F:Nat→List Tx) (hF:F 0=l++[s]) (h: ∀ j,j < L.length→Spec Tryz.prog 167 (aI [pI (lb L j), .sl (F j).length (fc (F j))] []) (aC (.sl (F (j+1)).length (fc (F (j+1)))) [])):
  Spec Tryz.prog 167 (aI [.agg [.v (.int .i64 1), .v (.int .i64 n), .v (bt s), .sl L.length (mG L)], .sl l.length (fc l)] []) (aC (.sl (F L.length).length (fc (F L.length))) []):=by
 refine Spec.ofN Tryz.func167 rfl Tryz.ntmps167 rfl ?_
 refine aE ?_
 refine lB 0 3 rfl rfl rfl fun hlen=> ?_
 unfold maxLen at hlen
 refine aD (aj (dZ (2,0) _ rfl rfl) (aj (aX _ eh) (go 15 ?_)))
 refine aV rfl rfl (ap aa al (gj l _ rfl ab s) rfl rfl) ?_
 refine go 3 ?_
 refine fR rfl (by rw [decide_eq_false hs];rfl) ?_
 refine aE ?_
 refine az (σ':=an 45 [(1,_),(2,_)] [((2,0),_)] [] []) kp ?_
 refine aD (aj (aX _ eh) (am (aG (aj (cd _ eh) (gR rfl (aj (tE (24,0) _ _ aa rfl (.sl (by simp)) ab rfl) ?_))))))
 refine go 7 ?_
 refine aj (bI (29,0) _ _ aa rfl rfl (by simp) (.sl rfl) ab rfl (nY _ _) (show l.length+1=(l++[s]).length by simp)) ?_
 refine eu rfl (am (aF fun K6 hK6=> ?_))
 refine aG (cC rfl (am (aH ?_)))
 refine az (Le.frzS 1 (ys:=fc (l++[s])) rfl rfl rfl (by rw [List.drop_zero,Nat.mul_one];exact List.take_of_length_le (by simp)) (by simp)) ?_
 refine aT (α:=Nat) (fun j=> j≤L.length) 45 [(2,_)] [((2,0),_)] (fun j=> [(6, .v (.int .i64 (j:Int))),(1, .sl (F j).length (fc (F j)))]) (fun j=> []) [] [] (fun j=> L.length - j) 0 ?_ (by
  refine Le.mkJ [] [] rfl ?_ ?_ trivial trivial ?_
  ·exact ⟨(iP rfl),(bj ag),(de (by rw [hF]) (by rw [hF])),trivial⟩
  ·exact ⟨(bU rfl rfl rfl),trivial⟩
  kernel_rfl) ?_
 ·omega
 intro j hj
 refine aF fun K8 hK8=> ?_
 refine go 7 ?_
 refine ay rfl (fun hc34=> ?_) (fun hc34=> ?_)
 ·refine aR (hK8 _ ?_)
  refine go 6 ?_
  refine aj (aO _ _ aa rfl rfl _ rfl ab (by (simp only [aq,aJ,aM,bh,bc,bm,bi];omega)) ag) ?_
  refine aj (bn _ aa rfl (by exact cu _ _ ab) rfl) ?_
  refine gR rfl (aj (ap aa al (h j ab) rfl rfl) ?_)
  refine go 6 ?_
  refine ax (⟨j+1,?_,?_,?_⟩)
  ·omega
  ·exact kj [0] [] []
  omega
 obtain rfl:j=L.length:=by omega
 refine aW (id (hK6 _ ?_))
 exact aG (gR rfl (yq rfl (am (au (pO rfl rfl)))))
theorem vW (n:Int) (s:Tx) (L:List Nd) (l:List Tx) (hs:s∈l) (hl:l.length≤1000) (F:Nat→List Tx) (hF:F 0=l) (h: ∀ j,j < L.length→Spec Tryz.prog 167 (aI [pI (lb L j), .sl (F j).length (fc (F j))] []) (aC (.sl (F (j+1)).length (fc (F (j+1)))) [])):
  Spec Tryz.prog 167 (aI [.agg [.v (.int .i64 1), .v (.int .i64 n), .v (bt s), .sl L.length (mG L)], .sl l.length (fc l)] []) (aC (.sl (F L.length).length (fc (F L.length))) []):=by
 refine Spec.ofN Tryz.func167 rfl Tryz.ntmps167 rfl ?_
 refine aE ?_
 refine lB 0 3 rfl rfl rfl fun hlen=> ?_
 unfold maxLen at hlen
 refine aD (aj (dZ (2,0) _ rfl rfl) (aj (aX _ eh) (go 15 ?_)))
 refine aV rfl rfl (ap aa al (gj l _ rfl ab s) rfl rfl) ?_
 refine go 3 ?_
 refine cK rfl (by rw [decide_eq_true hs];rfl) ?_
 refine cE (aF fun K4 hK4=> ?_)
 refine aE ?_
 refine az (σ':=an 45 [(1,_),(2,_)] [((2,0),_)] [] []) kp ?_
 refine aD (cC rfl (am (aH ?_)))
 refine aT (α:=Nat) (fun j=> j≤L.length) 45 [(2,_)] [((2,0),_)] (fun j=> [(6, .v (.int .i64 (j:Int))),(1, .sl (F j).length (fc (F j)))]) (fun j=> []) [] [] (fun j=> L.length - j) 0 ?_ (by
  refine Le.mkJ [] [] rfl ?_ ?_ trivial trivial ?_
  ·exact ⟨(iP rfl),(bj ag),(de (by rw [hF]) (by rw [hF])),trivial⟩
  ·exact ⟨(bU rfl rfl rfl),trivial⟩
  kernel_rfl) ?_
 ·omega
 intro j hj
 refine aF fun K6 hK6=> ?_
 refine go 7 ?_
 refine ay rfl (fun hc34=> ?_) (fun hc34=> ?_)
 ·refine aR (hK6 _ ?_)
  refine go 6 ?_
  refine aj (aO _ _ aa rfl rfl _ rfl ab (by (simp only [aq,aJ,aM,bh,bc,bm,bi];omega)) ag) ?_
  refine aj (bn _ aa rfl (by exact cu _ _ ab) rfl) ?_
  refine gR rfl (aj (ap aa al (h j ab) rfl rfl) ?_)
  refine go 6 ?_
  refine ax (⟨j+1,?_,?_,?_⟩)
  ·omega
  ·exact kj [0] [] []
  omega
 obtain rfl:j=L.length:=by omega
 refine aW (id (hK4 _ ?_))
 exact aG (gR rfl (yq rfl (am (au (pO rfl rfl)))))
theorem ul (n:Int) (s:Tx) (L:List Nd) (l:List Tx) (hs:s∉l) (hl:l.length≤1000) (F:Nat→List Tx) (hF:F 0=l++[s]) (h: ∀ j,j < L.length→Spec Tryz.prog 167 (aI [pI (lb L j), .sl (F j).length (fc (F j))] []) (aC (.sl (F (j+1)).length (fc (F (j+1)))) [])):
  Spec Tryz.prog 167 (aI [.agg [.v (.int .i64 14), .v (.int .i64 n), .v (bt s), .sl L.length (mG L)], .sl l.length (fc l)] []) (aC (.sl (F L.length).length (fc (F L.length))) []):=by
 refine Spec.ofN Tryz.func167 rfl Tryz.ntmps167 rfl ?_
 refine aE ?_
 refine lB 0 3 rfl rfl rfl fun hlen=> ?_
 unfold maxLen at hlen
 refine aD (aj (dZ (2,0) _ rfl rfl) (aj (aX _ eh) (go 15 ?_)))
 refine aV rfl rfl (ap aa al (gj l _ rfl ab s) rfl rfl) ?_
 refine go 3 ?_
 refine fR rfl (by rw [decide_eq_false hs];rfl) ?_
 refine aE ?_
 refine az (σ':=an 45 [(1,_),(2,_)] [((2,0),_)] [] []) kp ?_
 refine aD (aj (aX _ eh) (am (aG (aj (cd _ eh) (gR rfl (aj (tE (24,0) _ _ aa rfl (.sl (by simp)) ab rfl) ?_))))))
 refine go 7 ?_
 refine aj (bI (29,0) _ _ aa rfl rfl (by simp) (.sl rfl) ab rfl (nY _ _) (show l.length+1=(l++[s]).length by simp)) ?_
 refine eu rfl (am (aF fun K6 hK6=> ?_))
 refine aG (cC rfl (am (aH ?_)))
 refine az (Le.frzS 1 (ys:=fc (l++[s])) rfl rfl rfl (by rw [List.drop_zero,Nat.mul_one];exact List.take_of_length_le (by simp)) (by simp)) ?_
 refine aT (α:=Nat) (fun j=> j≤L.length) 45 [(2,_)] [((2,0),_)] (fun j=> [(6, .v (.int .i64 (j:Int))),(1, .sl (F j).length (fc (F j)))]) (fun j=> []) [] [] (fun j=> L.length - j) 0 ?_ (by
  refine Le.mkJ [] [] rfl ?_ ?_ trivial trivial ?_
  ·exact ⟨(iP rfl),(bj ag),(de (by rw [hF]) (by rw [hF])),trivial⟩
  ·exact ⟨(bU rfl rfl rfl),trivial⟩
  kernel_rfl) ?_
 ·omega
 intro j hj
 refine aF fun K8 hK8=> ?_
 refine go 7 ?_
 refine ay rfl (fun hc34=> ?_) (fun hc34=> ?_)
 ·refine aR (hK8 _ ?_)
  refine go 6 ?_
  refine aj (aO _ _ aa rfl rfl _ rfl ab (by (simp only [aq,aJ,aM,bh,bc,bm,bi];omega)) ag) ?_
  refine aj (bn _ aa rfl (by exact cu _ _ ab) rfl) ?_
  refine gR rfl (aj (ap aa al (h j ab) rfl rfl) ?_)
  refine go 6 ?_
  refine ax (⟨j+1,?_,?_,?_⟩)
  ·omega
  ·exact kj [0] [] []
  omega
 obtain rfl:j=L.length:=by omega
 refine aW (id (hK6 _ ?_))
 exact aG (gR rfl (yq rfl (am (au (pO rfl rfl)))))
theorem uk (n:Int) (s:Tx) (L:List Nd) (l:List Tx) (hs:s∈l) (hl:l.length≤1000) (F:Nat→List Tx) (hF:F 0=l) (h: ∀ j,j < L.length→Spec Tryz.prog 167 (aI [pI (lb L j), .sl (F j).length (fc (F j))] []) (aC (.sl (F (j+1)).length (fc (F (j+1)))) [])):
  Spec Tryz.prog 167 (aI [.agg [.v (.int .i64 14), .v (.int .i64 n), .v (bt s), .sl L.length (mG L)], .sl l.length (fc l)] []) (aC (.sl (F L.length).length (fc (F L.length))) []):=by
 refine Spec.ofN Tryz.func167 rfl Tryz.ntmps167 rfl ?_
 refine aE ?_
 refine lB 0 3 rfl rfl rfl fun hlen=> ?_
 unfold maxLen at hlen
 refine aD (aj (dZ (2,0) _ rfl rfl) (aj (aX _ eh) (go 15 ?_)))
 refine aV rfl rfl (ap aa al (gj l _ rfl ab s) rfl rfl) ?_
 refine go 3 ?_
 refine cK rfl (by rw [decide_eq_true hs];rfl) ?_
 refine cE (aF fun K4 hK4=> ?_)
 refine aE ?_
 refine az (σ':=an 45 [(1,_),(2,_)] [((2,0),_)] [] []) kp ?_
 refine aD (cC rfl (am (aH ?_)))
 refine aT (α:=Nat) (fun j=> j≤L.length) 45 [(2,_)] [((2,0),_)] (fun j=> [(6, .v (.int .i64 (j:Int))),(1, .sl (F j).length (fc (F j)))]) (fun j=> []) [] [] (fun j=> L.length - j) 0 ?_ (by
  refine Le.mkJ [] [] rfl ?_ ?_ trivial trivial ?_
  ·exact ⟨(iP rfl),(bj ag),(de (by rw [hF]) (by rw [hF])),trivial⟩
  ·exact ⟨(bU rfl rfl rfl),trivial⟩
  kernel_rfl) ?_
 ·omega
 intro j hj
 refine aF fun K6 hK6=> ?_
 refine go 7 ?_
 refine ay rfl (fun hc34=> ?_) (fun hc34=> ?_)
 ·refine aR (hK6 _ ?_)
  refine go 6 ?_
  refine aj (aO _ _ aa rfl rfl _ rfl ab (by (simp only [aq,aJ,aM,bh,bc,bm,bi];omega)) ag) ?_
  refine aj (bn _ aa rfl (by exact cu _ _ ab) rfl) ?_
  refine gR rfl (aj (ap aa al (h j ab) rfl rfl) ?_)
  refine go 6 ?_
  refine ax (⟨j+1,?_,?_,?_⟩)
  ·omega
  ·exact kj [0] [] []
  omega
 obtain rfl:j=L.length:=by omega
 refine aW (id (hK4 _ ?_))
 exact aG (gR rfl (yq rfl (am (au (pO rfl rfl)))))
theorem wi (k:Nat) (hk:k≠1∧k≠14) (n:Int) (s:Tx) (L:List Nd) (l:List Tx) (hl:l.length≤1000) (F:Nat→List Tx) (hF:F 0=l) (h: ∀ j,j < L.length→Spec Tryz.prog 167 (aI [pI (lb L j), .sl (F j).length (fc (F j))] []) (aC (.sl (F (j+1)).length (fc (F (j+1)))) [])):
  Spec Tryz.prog 167 (aI [.agg [.v (.int .i64 (k:Int)), .v (.int .i64 n), .v (bt s), .sl L.length (mG L)], .sl l.length (fc l)] []) (aC (.sl (F L.length).length (fc (F L.length))) []):=by
 refine Spec.ofN Tryz.func167 rfl Tryz.ntmps167 rfl ?_
 refine aE ?_
 refine lB 0 3 rfl rfl rfl fun hlen=> ?_
 unfold maxLen at hlen
 refine aD (aj (dZ (2,0) _ rfl rfl) (aj (aX _ eh) (go 5 ?_)))
 refine yQ rfl rfl (beq_eq_false_iff_ne.2 ab) ?_
 refine go 3 ?_
 refine aV rfl rfl (ba (r:=false) _ _ rfl rfl (beq_eq_false_iff_ne.2 ab)) ?_
 refine go 11 ?_
 refine aF fun K4 hK4=> ?_
 refine aE ?_
 refine az (σ':=an 45 [(1,_),(2,_)] [((2,0),_)] [] []) kp ?_
 refine aD (cC rfl (am (aH ?_)))
 refine aT (α:=Nat) (fun j=> j≤L.length) 45 [(2,_)] [((2,0),_)] (fun j=> [(6, .v (.int .i64 (j:Int))),(1, .sl (F j).length (fc (F j)))]) (fun j=> []) [] [] (fun j=> L.length - j) 0 ?_ (by
  refine Le.mkJ [] [] rfl ?_ ?_ trivial trivial ?_
  ·exact ⟨(iP rfl),(bj ag),(de (by rw [hF]) (by rw [hF])),trivial⟩
  ·exact ⟨(bU rfl rfl rfl),trivial⟩
  kernel_rfl) ?_
 ·omega
 intro j hj
 refine aF fun K6 hK6=> ?_
 refine go 7 ?_
 refine ay rfl (fun hc34=> ?_) (fun hc34=> ?_)
 ·refine aR (hK6 _ ?_)
  refine go 6 ?_
  refine aj (aO _ _ aa rfl rfl _ rfl ab (by (simp only [aq,aJ,aM,bh,bc,bm,bi];omega)) ag) ?_
  refine aj (bn _ aa rfl (by exact cu _ _ ab) rfl) ?_
  refine gR rfl (aj (ap aa al (h j ab) rfl rfl) ?_)
  refine go 6 ?_
  refine ax (⟨j+1,?_,?_,?_⟩)
  ·omega
  ·exact kj [0] [] []
  omega
 obtain rfl:j=L.length:=by omega
 refine aW (id (hK4 _ ?_))
 exact aG (gR rfl (yq rfl (am (au (pO rfl rfl)))))
def fF (fs:List (List Tx→List Tx)) (l:List Tx):List Tx:=fs.foldl (fun l f=> f l) l
theorem kI {fs:List (List Tx→List Tx)} {l:List Tx} {j:Nat} (h:j < fs.length):fF (fs.take (j+1)) l=fs.getD j id (fF (fs.take j) l):=by
 rw [List.take_succ_eq_append_getElem h]
 unfold fF
 rw [List.foldl_append,List.getD_eq_getElem?_getD,List.getElem?_eq_getElem h];rfl
abbrev zJ (nm:List Tx) (d:Nd) (f:List Tx→List Tx):Prop:= ∀ l,GN nm l→Spec Tryz.prog 167 (aI [pI d, .sl l.length (fc l)] []) (aC (.sl (f l).length (fc (f l))) [])∧GN nm (f l)
section
variable {nm:List Tx} (hnm:nm.length≤16) {L:List Nd} {fs:List (List Tx→List Tx)} (hfs:fs.length=L.length) (h: ∀ j,j < L.length→zJ nm (lb L j) (fs.getD j id))
theorem qO (hfs:fs.length=L.length) (h: ∀ j,j < L.length→zJ nm (lb L j) (fs.getD j id)) {l:List Tx} (hl:GN nm l): ∀ j,j≤L.length→GN nm (fF (fs.take j) l)
 | 0,_=> by simpa [fF] using hl
 | j+1,hj=> by
  rw [kI ab]
  exact (h j ab _ (qO hfs h hl j ab)).2
theorem bZ (hnm:nm.length≤16) (hfs:fs.length=L.length) (h: ∀ j,j < L.length→zJ nm (lb L j) (fs.getD j id)) (k:Nat) (hk:k≠1∧k≠14) (n:Nat) (s:Tx):zJ nm (nd k n s L) (fF fs):=fun l hl=> by
 have hg:=qO hfs h hl
 have he:fF (fs.take L.length) l=fF fs l:=by rw [← hfs,List.take_length]
 have hw:=wi k hk n s L l (by have:=hl.len;omega) (fun j=> fF (fs.take j) l) rfl fun j hj=> by
  rw [show fF (fs.take (j+1)) l=_ from kI ab]
  exact (h j hj _ (hg j ab)).1
 rw [he] at hw
 exact ⟨hw,he ▸ hg _ (Nat.le_refl _)⟩
theorem zT (hnm:nm.length≤16) (hfs:fs.length=L.length) (h: ∀ j,j < L.length→zJ nm (lb L j) (fs.getD j id)) (n:Nat) {i:Nat} (hi:i < nm.length):zJ nm (nd 1 n (nm.getD i []) L) (fun l=> fF fs (iC (nm.getD i []) l)):=fun l hl=> by
 have hg:=qO hfs h (hl.add hi)
 have he:fF (fs.take L.length) (iC (nm.getD i []) l)=fF fs (iC (nm.getD i []) l):=by rw [← hfs,List.take_length]
 have hkid: ∀ j,j < L.length→_:=fun j hj=> (h j hj _ (hg j ab)).1
 have hll:=hl.len
 show Spec _ _ _ (aC (.sl (fF fs (iC (nm.getD i []) l)).length (fc (fF fs (iC (nm.getD i []) l)))) [])∧GN nm (fF fs (iC (nm.getD i []) l))
 rw [← he]
 refine ⟨?_,hg _ (Nat.le_refl _)⟩
 by_cases hs:nm.getD i []∈l
 ·exact vW n _ L l hs ab (fun j=> fF (fs.take j) (iC (nm.getD i []) l)) (by show iC _ l=l;unfold iC;rw [if_pos hs]) fun j hj=> by
   rw [show fF (fs.take (j+1)) (iC (nm.getD i []) l)=_ from kI ab]
   exact hkid j hj
 exact uw n _ L l hs ab (fun j=> fF (fs.take j) (iC (nm.getD i []) l)) (by show iC _ l=_;unfold iC;rw [if_neg hs]) fun j hj=> by
  rw [show fF (fs.take (j+1)) (iC (nm.getD i []) l)=_ from kI ab]
  exact hkid j hj
end
theorem yW {nm:List Tx} (hnm:nm.length≤16) {i:Nat} (hi:i < nm.length):zJ nm (nd 14 0 (nm.getD i []) []) (iC (nm.getD i [])):=fun l hl=> by
 have hll:=hl.len
 refine ⟨?_,hl.add hi⟩
 by_cases hs:nm.getD i []∈l
 ·exact uk 0 _ [] l hs ab (fun _=> iC (nm.getD i []) l) (by show iC _ l=l;unfold iC;rw [if_pos hs]) fun j hj=> by simp at hj
 exact ul 0 _ [] l hs ab (fun _=> iC (nm.getD i []) l) (by show iC _ l=_;unfold iC;rw [if_neg hs]) fun j hj=> by simp at hj
section
variable {nm:List Tx}
abbrev Ew (nm:List Tx) (L:List Nd) (fs:List (List Tx→List Tx)):Prop:= ∀ j,j < L.length→zJ nm (lb L j) (fs.getD j id)
theorem sQ:Ew nm [] []:=fun j hj=> by simp at hj
theorem rD {d:Nd} {f:List Tx→List Tx} {L:List Nd} {fs:List (List Tx→List Tx)} (h:zJ nm d f) (h':Ew nm L fs):Ew nm (d::L) (f::fs):=fun j hj=> by
 cases j with
 | zero=> exact h
 | succ j=> exact h' j (by simpa using hj)
theorem du (hnm:nm.length≤16): ∀ e:Ex,gS nm.length e→zJ nm (eB nm e) (tM nm e)
 | .int _,_=> bZ hnm rfl sQ 12 ab _ _
 | .bool _,_=> bZ hnm rfl sQ 13 ab _ _
 | .name _,_=> bZ hnm rfl sQ 15 ab _ _
 | .var i,h=> yW hnm h
 | .draw e,h=> bZ hnm rfl (rD (du hnm e h) sQ) 16 ab _ _
 | .neg e,h=> bZ hnm rfl (rD (du hnm e h) sQ) 17 ab _ _
 | .not e,h=> bZ hnm rfl (rD (du hnm e h) sQ) 17 ab _ _
 | .bin _ a b,h=> bZ hnm rfl (rD (du hnm a h.1) (rD (du hnm b h.2) sQ)) 18 ab _ _
 | .and a b,h=> bZ hnm rfl (rD (du hnm a h.1) (rD (du hnm b h.2) sQ)) 18 ab _ _
 | .or a b,h=> bZ hnm rfl (rD (du hnm a h.1) (rD (du hnm b h.2) sQ)) 18 ab _ _
def HH (nm:List Tx):Bk→List (List Tx→List Tx)
 | .nil=> []
 | .cons s b=> MS nm s::HH nm b
theorem yg (nm:List Tx): ∀ b:Bk,(HH nm b).length=(iU nm b).length
 | .nil=> by simp [HH,iU]
 | .cons s b=> by simp [HH,iU,yg nm b]
theorem vH (nm:List Tx): ∀ (b:Bk) (l:List Tx),fF (HH nm b) l=Fd nm b l
 | .nil,l=> rfl
 | .cons s b,l=> by rw [Fd,← vH nm b];rfl
theorem ma (hnm:nm.length≤16) {b:Bk} (h:Ew nm (iU nm b) (HH nm b)):zJ nm (iY nm b) (Fd nm b):=by
 have:=bZ hnm (yg nm b) h 11 ab 0 []
 rwa [show fF (HH nm b)=Fd nm b from funext (vH nm b)] at this
mutual
theorem Ej (hnm:nm.length≤16): ∀ s:Sm,gp nm.length s→zJ nm (Fs nm s) (MS nm s)
 | .assign i e,h=> by rw [gp] at h;exact zT hnm rfl (rD (du hnm e h.2) sQ) 0 h.1
 | .send t k a b,h=> by rw [gp] at h;exact bZ hnm rfl (rD (du hnm t h.2.1) (rD (du hnm a h.2.2.1) (rD (du hnm b h.2.2.2) sQ))) 4 ab _ _
 | .timer _,_=> bZ hnm rfl sQ 5 ab _ _
 | .cancel _,_=> bZ hnm rfl sQ 6 ab _ _
 | .sync,_=> bZ hnm rfl sQ 7 ab _ _
 | .stop,_=> bZ hnm rfl sQ 10 ab _ _
 | .reply a b,h=> by rw [gp] at h;exact bZ hnm rfl (rD (du hnm a h.1) (rD (du hnm b h.2) sQ)) 8 ab _ _
 | .fail e,h=> by rw [gp] at h;exact bZ hnm rfl (rD (du hnm e h) sQ) 9 ab _ _
 | .loop c b,h=> by rw [gp] at h;exact bZ hnm rfl (rD (du hnm c h.1) (rD (ma hnm (lJ hnm b h.2)) sQ)) 3 ab _ _
 | .ite c a b,h=> by rw [gp] at h;exact bZ hnm rfl (rD (du hnm c h.1) (rD (ma hnm (lJ hnm a h.2.1)) (rD (ma hnm (lJ hnm b h.2.2)) sQ))) 2 ab _ _
theorem lJ (hnm:nm.length≤16): ∀ b:Bk,lc nm.length b→Ew nm (iU nm b) (HH nm b)
 | .nil,_=> sQ
 | .cons s b,h=> by rw [lc] at h;exact rD (Ej hnm s h.1) (lJ hnm b h.2)
end
theorem Cs (hnm:nm.length≤16) (b:Bk) (h:lc nm.length b):zJ nm (iY nm b) (Fd nm b):=ma hnm (lJ hnm b h)
end
end Go.Proofs.YtmjnackchaahbaaGreat

set_option maxHeartbeats 2000000
namespace Go.Proofs.YtmjnackchaahbaaGreat
open Go.RowKit

theorem mQ {l:List Tx} (h:l.Nodup) {i j:Nat} (hi:i < l.length) (hj:j < l.length) (e:l.getD i []=l.getD j []):i=j:=by
 rw [List.getD_eq_getElem?_getD,List.getD_eq_getElem?_getD,List.getElem?_eq_getElem hi,List.getElem?_eq_getElem hj] at e
 have h:=List.pairwise_iff_getElem.1 h
 rcases Nat.lt_trichotomy i j with hlt | rfl | hlt
 ·exact absurd (Option.some.inj (by simpa using e)) (h i j hi hj hlt)
 ·rfl
 exact absurd (Option.some.inj (by simpa using e)).symm (h j i hj hi hlt)
theorem sC {a b:List Tx} {k:Nat} (h:k < a.length):a.getD k []=(a++b).getD k []:=by
 rw [List.getD_eq_getElem?_getD,List.getD_eq_getElem?_getD,List.getElem?_append_left h]
theorem getD_right {a b:List Tx} {k:Nat}:b.getD k []=(a++b).getD (a.length+k) []:=by
 rw [List.getD_eq_getElem?_getD,List.getD_eq_getElem?_getD,List.getElem?_append_right ab,Nat.add_sub_cancel_left]
theorem mC (d v:List Tx) (on:List PV) (no:Nat) (hn:(d++v).Nodup) (hl:(d++v).length≤1000) (i:Nat) (hi:i < (d++v).length):
  Spec Tryz.prog 121 (aI [.agg [.sl d.length (fc d), .sl v.length (fc v), .sl no on], .v (bt ((d++v).getD i []))] []) (aC (.v (.int .i64 (i:Int))) []):=by
 have hl2:(d++v).length=d.length+v.length:=List.length_append
 refine Spec.ofN Tryz.func121 rfl Tryz.ntmps121 rfl ?_
 refine go 4 ?_
 refine aF fun K2 hK2=> ?_
 refine aG (cC rfl (am (aH ?_)))
 refine aT (α:=Nat) (fun k=> k≤d.length∧k≤i) 41 [(1,_),(2,_)] [((2,0),_)] (fun k=> [(5, .v (.int .i64 (k:Int)))]) (fun k=> []) [] [] (fun k=> d.length - k) 0 ?_ (kj [0] [] []) ?_
 ·exact ⟨Nat.zero_le _,Nat.zero_le _⟩
 intro k hk
 obtain ⟨hk,hki⟩:=hk
 refine aF fun K4 hK4=> ?_
 refine go 7 ?_
 refine ay rfl (fun hc11=> ?_) (fun hc11=> ?_)
 ·refine aR (hK4 _ ?_)
  refine go 6 ?_
  refine aj (aO _ _ aa rfl rfl _ rfl ab (by (simp only [aq,aJ,aM,bh,bc,bm,bi,List.length_map];omega)) (by exact Nat.mul_one _)) ?_
  refine aj (bl _ aa rfl (by exact jG _ _ ab) rfl) ?_
  refine sZ rfl (aj (dg _ _ Tryz.underlying9 rfl rfl rfl) (am (ay rfl (fun hc20=> ?_) (fun hc20=> ?_))))
  ·have he:k=i:=mQ hn ab hi ((sC ab).symm.trans hc20)
   refine aG (bW rfl (cC rfl (am (au (sU rfl rfl ?_)))))
   rw [he]
  have he:k≠i:=fun e=> hc20 ((sC ab).trans (by rw [e]))
  refine go 5 ?_
  refine ax (⟨k+1,?_,?_,?_⟩)
  ·exact ⟨by omega,by omega⟩
  ·exact kj [0] [] []
  omega
 refine aW (id (hK2 _ ?_))
 refine aE (aG (cC rfl (am (aH ?_))))
 refine aT (α:=Nat) (fun q=> q≤v.length∧d.length+q≤i) 41 [(1,_),(2,_)] [((2,0),_)] (fun q=> [(6, .v (.int .i64 (q:Int)))]) (fun q=> []) [] [] (fun q=> v.length - q) 0 ?_ (kj [0] [] []) ?_
 ·exact ⟨Nat.zero_le _,by omega⟩
 intro q hq
 obtain ⟨hq,hqi⟩:=hq
 refine aF fun K11 hK11=> ?_
 refine go 7 ?_
 refine ay rfl (fun hc26=> ?_) (fun hc26=> ?_)
 ·refine aR (hK11 _ ?_)
  refine go 6 ?_
  refine aj (aO _ _ aa rfl rfl _ rfl ab (by (simp only [aq,aJ,aM,bh,bc,bm,bi,List.length_map];omega)) (by exact Nat.mul_one _)) ?_
  refine aj (bl _ aa rfl (by exact jG _ _ ab) rfl) ?_
  refine sZ rfl (aj (dg _ _ Tryz.underlying9 rfl rfl rfl) (am (ay rfl (fun hc35=> ?_) (fun hc35=> ?_))))
  ·have he:d.length+q=i:=mQ hn ab hi (getD_right.symm.trans hc35)
   refine go 8 ?_
   refine au (sU rfl rfl ?_)
   omega
  have he:d.length+q≠i:=fun e=> hc35 (getD_right.trans (by rw [e]))
  refine go 5 ?_
  refine ax (⟨q+1,?_,?_,?_⟩)
  ·exact ⟨by omega,by omega⟩
  ·exact kj [0] [] []
  omega
 exact absurd hqi ab
theorem Dm (ons:List (Nat×Bk)) (nm:List Tx) (k:Nat) (h:k < ons.length):oN (ons.map fun p=> (p.1,iY nm p.2)) k=((ons[k]).1,iY nm (ons[k]).2):=by
 rw [oG _ _ (by simpa using h),List.getElem_map]
theorem vt (l:List Hd) (k:Nat) (h:k < l.length):PV.ups (((lK l).drop (k*5+1)).take 4)=[.v (.int .i64 ((oN l k).2.k:Int)), .v (.int .i64 ((oN l k).2.n:Int)), .v (bt (oN l k).2.s), .sl (oN l k).2.kn (oN l k).2.kids]:=by
 have e:=kX sj 5 (fun _=> rfl) l k h
 have:((lK l).drop (k*5+1)).take 4=(((l.flatMap sj).drop (k*5)).take 5).drop 1:=by
  rw [List.drop_take,List.drop_drop];rfl
 rw [this,e,oG l k h];rfl
theorem qy (d v:List Tx) (ons:List (Nat×Bk)) (hn:(d++v).Nodup) (hl:(d++v).length≤16) (ho: ∀ p∈ons,lc (d++v).length p.2) (hw: ∀ p∈ons,qL p.2=true) (hc:ons.length≤1000):
  Spec Tryz.prog 97 (aI [Kk d v (ons.map fun p=> (p.1,iY (d++v) p.2))] []) (aC (.v (.int .i64 0)) []):=by
 obtain ⟨H,hH⟩: ∃ H,H=ons.map fun p=> (p.1,iY (d++v) p.2):=⟨_,rfl⟩
 have hHl:H.length=ons.length:=by rw [hH,List.length_map]
 rw [← hH]
 have hHk: ∀ k (h:k < ons.length),oN H k=((ons[k]).1,iY (d++v) (ons[k]).2):=fun k h=> by rw [hH];exact Dm ons _ k h
 clear hH
 refine Spec.ofN Tryz.func97 rfl Tryz.ntmps97 rfl ?_
 refine go 4 ?_
 refine aF fun K2 hK2=> ?_
 refine aG (cC rfl (am (aH ?_)))
 refine aT (α:=Nat) (fun k=> k≤H.length) 43 [(1,_)] [((1,0),_)] (fun k=> [(3, .v (.int .i64 (k:Int)))]) (fun k=> []) [] [] (fun k=> H.length - k) 0 ?_ (kj [0] [] []) ?_
 ·omega
 intro k hk
 refine aF fun K4 hK4=> ?_
 refine go 7 ?_
 refine ay rfl (fun hc11=> ?_) (fun hc11=> ?_)
 ·have hk2:k < ons.length:=by omega
  obtain ⟨b,hb⟩: ∃ b,b=(ons[k]).2:=⟨_,rfl⟩
  have hkH:=hHk k hk2
  rw [← hb] at hkH
  have hwb:=Hb (d++v) b (hb ▸ hw _ (List.getElem_mem hk2))
  obtain ⟨hnb,hng⟩:=Cs hl b (hb ▸ ho _ (List.getElem_mem hk2)) [] GN.nil
  have hbody:=vt H k ab
  rw [hkH] at hbody
  generalize Fd (d++v) b []=M at hnb hng
  have hMl:=hng.len
  refine aR (hK4 _ ?_)
  refine aF fun K6 hK6=> ?_
  refine go 5 ?_
  refine aj (aO _ _ aa rfl rfl _ rfl ab (by (simp only [aq,aJ,aM,bh,bc,bm,bi,List.length_map];omega)) ag) ?_
  refine aj (ej _ aa rfl rfl) (aj (bn _ aa rfl (by exact hbody) rfl) ?_)
  refine aj (ap aa al (hwb) rfl rfl) ?_
  refine go 9 ?_
  refine aE ?_
  refine az (σ':=an 43 [(1,_),(3,_)] [((1,0),_)] [] []) kp ?_
  refine go 4 ?_
  refine aj (aO _ _ aa rfl rfl _ rfl ab (by (simp only [aq,aJ,aM,bh,bc,bm,bi,List.length_map];omega)) ag) ?_
  refine aj (ej _ aa rfl rfl) (aj (bn _ aa rfl (by exact hbody) rfl) ?_)
  refine aj (ap aa al (hnb) rfl rfl) ?_
  refine go 6 ?_
  refine aT (α:=Nat) (fun q=> q≤M.length) 43 [(1,_),(3,_),(5,_)] [((1,0),_)] (fun q=> [(6, .v (.int .i64 (q:Int)))]) (fun q=> []) [] [] (fun q=> M.length - q) 0 ?_ (kj [0] [] []) ?_
  ·omega
  intro q hq
  refine aF fun K12 hK12=> ?_
  refine go 6 ?_
  refine ay rfl (fun hc33=> ?_) (fun hc33=> ?_)
  ·obtain ⟨i,hi,hiq⟩: ∃ i,i < (d++v).length∧M.getD q []=(d++v).getD i []:=by
    have hm:=hng.2 _ (ke (show q < M.length by omega))
    obtain ⟨i,hi,he⟩:=List.getElem_of_mem hm
    exact ⟨i,hi,by rw [List.getD_eq_getElem?_getD (l:=d++v),List.getElem?_eq_getElem hi,← he];rfl⟩
   have hix:=mC d v (lK H) H.length hn ab i hi
   rw [← hiq] at hix
   refine aR (hK12 _ ?_)
   refine aE (aH (aE ?_))
   refine az (σ':=an 43 [(1,_),(3,_),(5,_),(6,_)] [((1,0),_)] [] []) kp ?_
   refine dA 7 [] ?_
   refine go 6 ?_
   refine aB (_,[]) (fun τ=> aO _ _ aa rfl rfl _ rfl ab (by (simp only [aq,aJ,aM,bh,bc,bm,bi,List.length_map];omega)) (by exact Nat.mul_one _)) ?_
   refine go 1 ?_
   refine aB (_,[]) (fun τ=> bl _ aa rfl (by exact jG _ _ ab) rfl) ?_
   refine go 1 ?_
   refine aB (_,[]) (fun τ=> (ap aa al (hix) rfl rfl)) ?_
   refine go 1 ?_
   refine aB (_,[]) (fun τ=> cZ (r:=false) _ _ rfl rfl (decide_eq_false ab)) ?_
   refine go 9 ?_
   refine ax (⟨q+1,?_,?_,?_⟩)
   ·omega
   ·exact kj [0] [] []
   omega
  refine aW (id (hK6 _ ?_))
  refine go 4 ?_
  refine ax (⟨k+1,?_,?_,?_⟩)
  ·omega
  ·exact kj [0] [] []
  omega
 refine aW (id (hK2 _ ?_))
 exact aG (cC rfl (am (au (dU rfl rfl))))
end Go.Proofs.YtmjnackchaahbaaGreat

set_option maxHeartbeats 2000000
namespace Go.Proofs.YtmjnackchaahbaaGreat
open Go.RowKit

theorem nU (C:List eD):((inl C).drop 0).take (C.length*2)=inl C:=List.take_of_length_le (by rw [List.drop_zero,bo];exact Nat.le_refl _)
theorem lS (C:List eD):0+C.length*2≤(inl C).length:=by rw [bo,Nat.zero_add];exact Nat.le_refl _
theorem zj (l:List Tx) (n:Nat) (hn:l.length=n) (h1:n≤1000) (hd:l.Nodup) (i:Nat) (hi:i < n):Spec Tryz.prog 122 (aI [.sl n (fc l), .v (bt (l.getD i []))] []) (aC (.v (.int .i64 (i:Int))) []):=by
 refine Spec.ofN Tryz.func122 rfl Tryz.ntmps122 rfl ?_
 refine go 8 ?_
 refine aT (α:=Nat) (fun k=> k≤n∧k≤i) 19 [(0,_),(1,_)] [] (fun k=> [(5, .v (.int .i64 (k:Int)))]) (fun k=> []) [] [] (fun k=> n - k) 0 ?_ (kj [] [] []) ?_
 ·exact ⟨Nat.zero_le _,Nat.zero_le _⟩
 intro k hk
 obtain ⟨hk,hki⟩:=hk
 refine aF fun K4 hK4=> ?_
 refine go 6 ?_
 refine ay rfl (fun hc9=> ?_) (fun hc9=> ?_)
 ·refine aR (hK4 _ ?_)
  refine aE (aH (aG (gR rfl (bW rfl (aj (aO _ _ aa rfl rfl _ rfl ab (by (simp only [aq,aJ,aM,bh,bc,bm,bi,bo];omega)) (by exact Nat.mul_one _)) ?_)))))
  refine aj (bl _ aa rfl (by exact jG _ _ ab) rfl) ?_
  refine sZ rfl (aj (dg _ _ Tryz.underlying9 rfl rfl rfl) (am (ay rfl (fun hc17=> ?_) (fun hc17=> ?_))))
  ·have he:k=i:=mQ hd ab ab hc17
   refine aG (bW rfl (cC rfl (am (au (sU rfl rfl ?_)))))
   rw [he]
  have he:k≠i:=fun e=> hc17 (by rw [e])
  refine go 5 ?_
  refine ax (⟨k+1,?_,?_,?_⟩)
  ·exact ⟨by omega,by omega⟩
  ·exact kj [] [] []
  omega
 exact absurd hki ab
theorem pM:Spec Tryz.prog 123 (aI [] []) (aC (.sl 9 (fc bltT)) []):=by
 refine Spec.ofN Tryz.func123 rfl Tryz.ntmps123 rfl ?_
 refine aG (aj (aX _ eh) (go 5 ?_))
 exact au (pO rfl rfl)
theorem Cg:Spec Tryz.prog 126 (aI [.v (bt [43])] []) (aC (.sl (Bo.add).code.length (inl (Bo.add).code)) []):=by
 refine Spec.ofN Tryz.func126 rfl Tryz.ntmps126 rfl ?_
 refine aG (aj (aX _ eh) (go 16 ?_))
 exact au (pO rfl rfl)
theorem CN:Spec Tryz.prog 126 (aI [.v (bt [45])] []) (aC (.sl (Bo.sub).code.length (inl (Bo.sub).code)) []):=by
 refine Spec.ofN Tryz.func126 rfl Tryz.ntmps126 rfl ?_
 refine aG (aj (aX _ eh) (go 21 ?_))
 exact au (pO rfl rfl)
theorem CP:Spec Tryz.prog 126 (aI [.v (bt [42])] []) (aC (.sl (Bo.mul).code.length (inl (Bo.mul).code)) []):=by
 refine Spec.ofN Tryz.func126 rfl Tryz.ntmps126 rfl ?_
 refine aG (aj (aX _ eh) (go 26 ?_))
 exact au (pO rfl rfl)
theorem BT:Spec Tryz.prog 126 (aI [.v (bt [47])] []) (aC (.sl (Bo.div).code.length (inl (Bo.div).code)) []):=by
 refine Spec.ofN Tryz.func126 rfl Tryz.ntmps126 rfl ?_
 refine aG (aj (aX _ eh) (go 31 ?_))
 exact au (pO rfl rfl)
theorem Gr:Spec Tryz.prog 126 (aI [.v (bt [60])] []) (aC (.sl (Bo.lt).code.length (inl (Bo.lt).code)) []):=by
 refine Spec.ofN Tryz.func126 rfl Tryz.ntmps126 rfl ?_
 refine aG (aj (aX _ eh) (go 36 ?_))
 exact au (pO rfl rfl)
theorem GJ:Spec Tryz.prog 126 (aI [.v (bt [60,61])] []) (aC (.sl (Bo.le).code.length (inl (Bo.le).code)) []):=by
 refine Spec.ofN Tryz.func126 rfl Tryz.ntmps126 rfl ?_
 refine aG (aj (aX _ eh) (go 41 ?_))
 exact au (pO rfl rfl)
theorem HE:Spec Tryz.prog 126 (aI [.v (bt [61,61])] []) (aC (.sl (Bo.eq).code.length (inl (Bo.eq).code)) []):=by
 refine Spec.ofN Tryz.func126 rfl Tryz.ntmps126 rfl ?_
 refine aG (aj (aX _ eh) (go 41 ?_))
 refine aE ?_
 refine az (σ':=an 45 [] [] [] []) kp ?_
 refine go 5 ?_
 exact au (pO rfl rfl)
theorem GH:Spec Tryz.prog 126 (aI [.v (bt [62])] []) (aC (.sl (Bo.gt).code.length (inl (Bo.gt).code)) []):=by
 refine Spec.ofN Tryz.func126 rfl Tryz.ntmps126 rfl ?_
 refine aG (aj (aX _ eh) (go 41 ?_))
 refine aE ?_
 refine az (σ':=an 45 [(3,_)] [] [] []) kp ?_
 refine go 11 ?_
 exact au (pO rfl rfl)
theorem FV:Spec Tryz.prog 126 (aI [.v (bt [62,61])] []) (aC (.sl (Bo.ge).code.length (inl (Bo.ge).code)) []):=by
 refine Spec.ofN Tryz.func126 rfl Tryz.ntmps126 rfl ?_
 refine aG (aj (aX _ eh) (go 41 ?_))
 refine aE ?_
 refine az (σ':=an 45 [(3,_)] [] [] []) kp ?_
 refine go 16 ?_
 exact au (pO rfl rfl)
theorem GT:Spec Tryz.prog 126 (aI [.v (bt [33,61])] []) (aC (.sl (Bo.ne).code.length (inl (Bo.ne).code)) []):=by
 refine Spec.ofN Tryz.func126 rfl Tryz.ntmps126 rfl ?_
 refine aG (aj (aX _ eh) (go 41 ?_))
 refine aE ?_
 refine az (σ':=an 45 [(3,_)] [] [] []) kp ?_
 refine go 17 ?_
 exact au (pO rfl rfl)
theorem AJ (o:Bo):Spec Tryz.prog 126 (aI [.v (bt o.txt)] []) (aC (.sl o.code.length (inl o.code)) []):=by
 cases o
 ·exact Cg
 ·exact CN
 ·exact CP
 ·exact BT
 ·exact Gr
 ·exact GJ
 ·exact HE
 ·exact GH
 ·exact FV
 exact GT

abbrev Cd:=Nat→List eD
abbrev CoS (u:AV) (d:Nd) (c:Cd):Prop:= ∀ a,a+(c a).length≤1000000→Spec Tryz.prog 91 (aI [u,pI d, .v (.int .i64 (a:Int))] []) (aC (.ref (0,8) 0 (c a).length) [((0,8), .row 48 2 (inl (c a)))])
def cF:List Cd→Nat→List eD
 | [],_=> []
 | c::cs,a=> c a++cF cs (a+(c a).length)
theorem qp: ∀ (l m:List Cd) (a:Nat),cF (l++m) a=cF l a++cF m (a+(cF l a).length)
 | [],m,a=> by simp [cF]
 | c::l,m,a=> by simp only [List.cons_append,cF,qp l m,List.append_assoc,List.length_append,Nat.add_assoc]
theorem AQ {cs:List Cd} {j a:Nat} (h:j < cs.length):cF (cs.take (j+1)) a=cF (cs.take j) a++(cs.getD j fun _=> []) (a+(cF (cs.take j) a).length):=by
 rw [List.take_succ_eq_append_getElem h,qp]
 simp [cF,h]
theorem rU {cs:List Cd} {j a:Nat}:(cF (cs.take j) a).length≤(cF cs a).length:=by
 conv=> rhs;rw [← List.take_append_drop j cs,qp]
 rw [List.length_append];omega
abbrev mz (u:AV) (L:List Nd) (cs:List Cd):Prop:= ∀ j,j < L.length→CoS u (lb L j) (cs.getD j fun _=> [])
theorem GM {u:AV}:mz u [] []:=fun j hj=> by simp at hj
theorem Aj {u:AV} {d:Nd} {c:Cd} {L:List Nd} {cs:List Cd} (h:CoS u d c) (h':mz u L cs):mz u (d::L) (c::cs):=fun j hj=> by
 cases j with
 | zero=> exact h
 | succ j=> exact h' j (by simpa using hj)
section
variable {d v:List Tx} {no:Nat} {on:List PV}
abbrev uu (d v:List Tx) (no:Nat) (on:List PV):AV:= .agg [.sl d.length (fc d), .sl v.length (fc v), .sl no on]
theorem dz (L:List Nd) (cs:List Cd) (hc:cs.length=L.length) (hk:mz (uu d v no on) L cs) (a:Nat) (ha:a+(cF cs a).length≤1000000):
  Spec Tryz.prog 125 (aI [uu d v no on, .sl L.length (mG L), .v (.int .i64 (a:Int))] []) (aC (.ref (0,8) 0 (cF cs a).length) [((0,8), .row 48 2 (inl (cF cs a)))]):=by
 refine Spec.ofN Tryz.func125 rfl Tryz.ntmps125 rfl ?_
 refine aE ?_
 refine Ie 1 rfl rfl fun hlen=> ?_
 unfold maxLen at hlen
 refine aD (aj (dZ (3,0) _ rfl rfl) (aj (aX _ eh) (am (aG (aj (qn (7,0) _ 48 2 rfl rfl) ?_)))))
 refine am (aF fun K3 hK3=> ?_)
 refine aG (cC rfl (am (aH ?_)))
 refine aT (α:=Nat) (fun j=> j≤L.length) 28 [(1,_),(2,_),(3,_)] [((3,0),_)] (fun j=> [(8, .v (.int .i64 (j:Int))),(7, .ref (7,0) 0 (cF (cs.take j) a).length)]) (fun j=> [((7,0), .row 48 2 (inl (cF (cs.take j) a)))]) [] [] (fun j=> L.length - j) 0 ?_ (kj [0,2] [] []) ?_
 ·omega
 intro j hj
 have htk:(cF (cs.take j) a).length≤(cF cs a).length:=rU
 refine aF fun K5 hK5=> ?_
 refine go 6 ?_
 refine ay rfl (fun hc12=> ?_) (fun hc12=> ?_)
 ·have hs:=AQ (cs:=cs) (j:=j) (a:=a) ab
  have htk1:(cF (cs.take (j+1)) a).length≤(cF cs a).length:=rU
  have hsl:=congrArg List.length hs
  rw [List.length_append] at hsl
  have hcj:=hk j ab (a+(cF (cs.take j) a).length) ab
  generalize (cs.getD j fun _=> []) (a+(cF (cs.take j) a).length)=C at hs hsl hcj
  refine aR (hK5 _ ?_)
  refine aE (aH ?_)
  refine az (σ':=an 28 [(1,_),(2,_),(3,_),(7,_),(8,_)] [((3,0),_),((7,0),_)] [] []) kp ?_
  refine dA 11 [(50,0)] ?_
  refine go 8 ?_
  refine aB (_,[]) (fun τ=> aO _ _ aa rfl rfl _ rfl ab (by (simp only [aq,aJ,aM,bh,bc,bm,bi,bo];omega)) ag) ?_
  refine go 1 ?_
  refine aB (_,[]) (fun τ=> bn _ aa rfl (by exact cu _ _ ab) rfl) ?_
  refine go 9 ?_
  refine aB (_,[((50,0),_)]) (fun τ=> (bp aa [((0,8),(50,0))] ar (hcj.toI) trivial tr tr rfl rfl ae ae)) ?_
  refine go 1 ?_
  refine cq ⟨rfl,?_⟩
  refine aj (bI (26,0) _ _ aa rfl rfl (bo _).symm (.ref rfl (nU _) (lS _)) ab rfl (lW _ _) hsl.symm) ?_
  refine go 6 ?_
  refine ax (⟨j+1,?_,?_,?_⟩)
  ·omega
  ·refine Le.mkJ [((7,0),(26,0))] [] rfl ?_ ?_ trivial trivial ?_
   ·exact ⟨(by repeat' (exact Lv.sl)),(by repeat' (exact Lv.v)),(bs (id:=(3,0)) rfl),(bj ag),(cf rfl ag),trivial⟩
   ·exact ⟨(cT rfl rfl rfl rfl (by repeat' (first | exact Lv.sl | exact aK | refine ai ?_ ?_))),(cL rfl rfl rfl (by (rw [hs]))),trivial⟩
   kernel_rfl
  omega
 obtain rfl:j=cs.length:=by omega
 rw [List.take_length]
 refine aW (id (hK3 _ ?_))
 exact aG (iE rfl (eu rfl (am (au (mX [((0,8),(7,0))])))))
theorem pR (N:Nd) (c:Cd) (h:CoS (uu d v no on) N c) (n:Int) (a:Nat) (ha:a+(c a).length≤1000000):
  Spec Tryz.prog 187 (aI [uu d v no on, .sl 1 (mG [N]), .v (.int .i64 n), .v (.int .i64 (a:Int))] []) (aC (.ref (0,8) 0 (c a).length) [((0,8), .row 48 2 (inl (c a)))]):=by
 have hc:=h a ha
 refine Spec.ofN Tryz.func187 rfl Tryz.ntmps187 rfl ?_
 refine aG (aj (dZ (4,0) _ rfl rfl) (aj (aX _ eh) (go 8 ?_)))
 refine aE ?_
 refine az (σ':=an 21 [(1,_),(3,_),(4,_)] [((4,0),_)] [] []) kp ?_
 refine dA 5 [] ?_
 refine go 4 ?_
 refine aB (_,[]) (fun τ=> aO _ _ aa rfl rfl 0 rfl ab (by simp [mG,Nd.row]) rfl) ?_
 refine go 1 ?_
 refine aB (_,[]) (fun τ=> bn _ aa rfl (by exact cu [N] 0 (by simp)) rfl) ?_
 refine go 4 ?_
 refine aj (bR aa [((0,8),(50,0))] ar (hc.toI) trivial tr ae) ?_
 exact eu rfl (am (au (mX [((0,8),(50,0))])))
theorem vq (n:Int) (a:Nat):
  Spec Tryz.prog 187 (aI [uu d v no on, .sl 0 [], .v (.int .i64 n), .v (.int .i64 (a:Int))] []) (aC (.ref (0,8) 0 1) [((0,8), .row 48 2 (inl [{ op:= .push,n:=n }]))]):=by
 refine Spec.ofN Tryz.func187 rfl Tryz.ntmps187 rfl ?_
 refine aG (aj (dZ (4,0) _ rfl rfl) (aj (aX _ eh) (go 12 ?_)))
 refine aj (ip (20,0) _ _ aa rfl ag (by (simp <;> rfl)) ah rfl rfl) ?_
 exact eu rfl (am (au (mX [((0,8),(20,0))])))
def HV (c y z:Cd) (a:Nat):List eD:=
 c a++[{ op:= .unl,n:=((a+(c a).length+1+(y (a+(c a).length+1)).length+1:Nat):Int) }]++y (a+(c a).length+1)++
  [{ op:= .jump,n:=((a+(c a).length+1+(y (a+(c a).length+1)).length+1+(z (a+(c a).length+1+(y (a+(c a).length+1)).length+1)).length:Nat):Int) }]++z (a+(c a).length+1+(y (a+(c a).length+1)).length+1)
abbrev Rs (u:AV) (l:AV) (n:Int) (c:Cd):Prop:= ∀ a,a+(c a).length≤1000000→Spec Tryz.prog 187 (aI [u,l, .v (.int .i64 n), .v (.int .i64 (a:Int))] []) (aC (.ref (0,8) 0 (c a).length) [((0,8), .row 48 2 (inl (c a)))])
theorem ln (N:Nd) (c y z:Cd) (hc:CoS (uu d v no on) N c) (ly lz:Nat) (ys zs:List PV) (n:Int) (hy:Rs (uu d v no on) (.sl ly ys) n y) (hz:Rs (uu d v no on) (.sl lz zs) n z) (a:Nat) (ha:a+(HV c y z a).length≤1000000):
  Spec Tryz.prog 124 (aI [uu d v no on,pI N, .sl ly ys, .sl lz zs, .v (.int .i64 n), .v (.int .i64 (a:Int))] []) (aC (.ref (0,8) 0 (HV c y z a).length) [((0,8), .row 48 2 (inl (HV c y z a)))]):=by
 have hb: ∃ b,b=HV c y z a:=⟨_,rfl⟩
 obtain ⟨b,hb⟩:=hb
 rw [← hb] at ha ⊢
 unfold HV at hb
 have hbl:=congrArg List.length hb
 simp only [List.length_append,List.length_cons,List.length_nil] at hbl
 have h1:=hc a ab
 generalize c a=C at h1 hb hbl
 have h2:=hy (a+C.length+1) ab
 generalize y (a+C.length+1)=Y at h2 hb hbl
 obtain ⟨f,hf⟩: ∃ f,f=a+C.length+1+Y.length+1:=⟨_,rfl⟩
 rw [← hf] at hb hbl
 have h3:=hz f ab
 generalize z f=Z at h3 hb hbl
 refine Spec.ofN Tryz.func124 rfl Tryz.ntmps124 rfl ?_
 refine go 3 ?_
 refine aj (aX _ eh) (go 5 ?_)
 refine aj (bR aa [((0,8),(50,0))] ar (h1.toI) trivial tr ae) ?_
 refine eu rfl (am (aF fun K3 hK3=> ?_))
 refine go 9 ?_
 refine aj (bR aa [((0,8),(51,0))] ar (h2.toI) trivial tr ae) ?_
 refine eu rfl (ax (hK3 _ ?_))
 refine aE ?_
 refine az (σ':=an 63 [(3,_),(4,_),(5,_),(6,_),(13,_),(14,_)] [((6,0),_),((50,0),_),((51,0),_)] [] []) kp ?_
 refine go 9 ?_
 refine aj (eT (r:=(f:Int)) _ _ rfl rfl ((bT ab).trans ab)) ?_
 refine cC rfl (am (aF fun K5 hK5=> ?_))
 refine go 5 ?_
 refine aj (bR aa [((0,8),(52,0))] ar (h3.toI) trivial tr ae) ?_
 refine eu rfl (ax (hK5 _ ?_))
 refine aE ?_
 refine az (σ':=an 63 [(13,_),(14,_),(15,_),(16,_)] [((50,0),_),((51,0),_),((52,0),_)] [] []) kp ?_
 refine go 5 ?_
 refine aj (bI (48,0) _ _ aa rfl rfl (bo _).symm (.sl rfl) ab rfl (eY _ { op:= .unl,n:=f }) (show C.length+1=(C++[({ op:= .unl,n:=f }:eD)]).length by simp)) ?_
 refine go 5 ?_
 refine aj (bI (51,1) _ _ aa rfl rfl (bo _).symm (.ref rfl (nU _) (lS _)) (by simp;omega) rfl (lW _ _) (show (C++[({ op:= .unl,n:=f }:eD)]).length+Y.length=(C++[({ op:= .unl,n:=f }:eD)]++Y).length by simp;omega)) ?_
 refine go 10 ?_
 refine aj (bI (59,0) _ _ aa rfl rfl (bo _).symm (.sl rfl) (by simp;omega) rfl (eY _ { op:= .jump,n:=((f+Z.length:Nat):Int) }) (show (C++[({ op:= .unl,n:=f }:eD)]++Y).length+1=(C++[({ op:= .unl,n:=f }:eD)]++Y++[({ op:= .jump,n:=((f+Z.length:Nat):Int) }:eD)]).length by simp;omega)) ?_
 refine eu rfl (am (aE ?_))
 refine az (σ':=an 63 [(13,_),(16,_)] [((52,0),_),((59,0),_)] [] []) kp ?_
 refine aD (iE rfl (iE rfl (aj (bI (62,0) _ _ aa rfl rfl (bo _).symm (.ref rfl (nU _) (lS _)) (by simp;omega) rfl ((lW _ _).trans (congrArg inl hb.symm)) (show _+Z.length=b.length by simp;omega)) ?_)))
 exact eu rfl (am (au (mX [((0,8),(62,0))])))
end
end Go.Proofs.YtmjnackchaahbaaGreat
