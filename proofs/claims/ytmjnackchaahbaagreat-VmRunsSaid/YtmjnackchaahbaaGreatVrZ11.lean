/- Part 11 of the texts that the walk leans on: the machine, the walks, the plain laws. -/
import Derived.Test.YtmjnackchaahbaaGreatVrZ10
set_option linter.unusedSimpArgs false
set_option linter.unusedVariables false
namespace Go.Proofs.YtmjnackchaahbaaGreat
open Go.RowKit

theorem pP {s:Tx}: ∀ {f a:Nat} {l:List Tk},a≤s.length→lH f s a=some l→0 < l.length∧l.length+a≤s.length+1
  | 0,_,_,_,h=> by simp [lH] at h
  | f+1,a,l,ha,h=> by
    rcases lr h with ⟨_,rfl⟩ | ⟨hl,t,m,ht,hm,rfl⟩
    · exact ⟨by simp,by simp;omega⟩
    · obtain ⟨h1,h2⟩:=rq hl ht
      have h3:=tv (s:=s) (a:=a+t.t.length) h2 false
      obtain ⟨_,h4⟩:=pP h3.2 hm
      exact ⟨by simp,by rw [List.length_cons];omega⟩
theorem yp {s:Tx} {l:List Tk} (h:AZ s=some l):0 < l.length∧l.length≤s.length+1:=by
  have:=pP (a:=qW s false) (mJ s false) h
  omega
theorem lj {T:List Tk}: ∀ (f:Nat) {N M:List Tx} (i:Nat),N.Perm M→gl T f N i=gl T f M i
  | 0,_,_,_,_=> rfl
  | f+1,N,M,i,h=> by
    unfold gl
    simp only [h.mem_iff,h.length_eq,lj f _ (h.append_right [(dc T i).t])]
theorem sq {T:List Tk} {f:Nat} {d v:List Tx} {i:Nat} {r:List Tx×List Tx×Nat} (h:ik T f d v i=some r): ∃ g,f=g+1∧
    (((dc T i).t=kD∧ ∃ l j,gl T g (d++v) (bT T i)=some (l,j)∧ik T g (d++l) v j=some r)∨
     ((dc T i).t≠kD∧(dc T i).t=li∧ ∃ l j,gl T g (d++v) (bT T i)=some (l,j)∧ik T g d (v++l) j=some r)∨
     ((dc T i).t≠kD∧(dc T i).t≠li∧r=(d,v,i))):=by
  cases f with
  | zero=> simp [ik] at h
  | succ g=>
    refine ⟨g,rfl,?_⟩
    unfold ik at h
    split at h
    · rename_i ht
      simp only [Option.bind_eq_bind,Option.bind_eq_some_iff] at h
      obtain ⟨⟨l,j⟩,hl,h⟩:=h
      exact .inl ⟨ht,l,j,hl,h⟩
    · rename_i ht
      split at h
      · rename_i ht2
        simp only [Option.bind_eq_bind,Option.bind_eq_some_iff] at h
        obtain ⟨⟨l,j⟩,hl,h⟩:=h
        exact .inr (.inl ⟨ht,ht2,l,j,hl,h⟩)
      · rename_i ht2
        exact .inr (.inr ⟨ht,ht2,(Option.some.inj h).symm⟩)
theorem xm {T:List Tk} {f:Nat} {l:List Hd} {i:Nat} {r:List Hd} (h:CV T f l i=some r): ∃ g,f=g+1∧
    (((dc T i).k=0∧r=l)∨((dc T i).k≠0∧ ∃ j n j2 d j3,fZ T Cs i=some j∧uq T j=some (n,j2)∧l.any (fun x=> decide (x.1=n))=false∧oX T g 1 j2=some (d,j3)∧CV T g (nF l (n,d)) j3=some r)):=by
  cases f with
  | zero=> simp [CV] at h
  | succ g=>
    refine ⟨g,rfl,?_⟩
    unfold CV at h
    split at h
    · rename_i hk;exact .inl ⟨hk,(Option.some.inj h).symm⟩
    · rename_i hk
      simp only [Option.bind_eq_bind,Option.bind_eq_some_iff] at h
      obtain ⟨j,hj,⟨n,j2⟩,hn,h⟩:=h
      simp only at h
      split at h
      · cases h
      · rename_i hno
        simp only [Option.bind_eq_some_iff] at h
        obtain ⟨⟨d,j3⟩,hd,h⟩:=h
        exact .inr ⟨hk,j,n,j2,d,j3,hj,hn,Bool.eq_false_iff.2 hno,hd,h⟩
theorem wT (l:List Hd) (h:Hd):(nF l h).length=l.length+1:=by
  have e:=congrArg List.length (List.takeWhile_append_dropWhile (p:=fun x:Nat×Nd=> decide (x.1 < h.1)) (l:=l))
  unfold nF
  rw [List.length_append] at e ⊢
  rw [List.length_cons]
  omega
abbrev DX (d v:List Tx) (l:List Hd):AV:= .agg [.sl d.length (ea d), .sl v.length (ea v), .sl l.length (lA l)]
theorem nL (s:Tx) (hs:s.length≤3000) (D V:List Tx) (L:List Hd) (h:qv s=some (D,V,L)):
    Spec Tryz.prog 96 (bj [.v (bt s)] []) (aT (.tup [DX D V L, .v (.int .i64 0), .v (.int .i64 0)]) []):=by
  unfold qv at h
  simp only [Option.bind_eq_bind,Option.bind_eq_some_iff,Option.pure_def,Option.some.injEq,Prod.mk.injEq] at h
  obtain ⟨T,hT,⟨D',V',i⟩,hd,L',hL,rfl,rfl,rfl⟩:=h
  obtain ⟨hT0,hT1⟩:=yp hT
  have hTl:T.length≤100000:=by omega
  simp only at hL ⊢
  refine Spec.ofN Tryz.func96 rfl Tryz.ntmps96 rfl ?_
  refine am (ai (az (2,0) aa rfl rfl) (ba rfl (ba rfl (aj (aq (am (dQ rfl (ai (gF _ Tryz.underlying9 rfl) (ai (dB _ _ rfl rfl rfl) (aj ?_))))))))))
  refine aS rfl (decide_eq_false ab) ?_
  refine aL (am (dQ rfl (ai (aF aa al (sg s ab T hT) rfl rfl) ?_)))
  refine ai (aC _ (rfl:_=AV.tup _)) (ai (dk _ rfl (rfl:_=some (AV.sl _ _))) (ai (dk _ rfl (rfl:_=some (AV.v (.int _ _)))) (ai (dk _ rfl (rfl:_=some (AV.v (.int _ _)))) (ke rfl (ba rfl (ba rfl (aj (aq (aq ?_)))))))))
  refine aN (σ':=aA 114 [(2,_),(5,_),(6,_),(7,_)] [((2,0),_)] [] []) (by
    refine Le.mkJ [] [] rfl ?_ ?_ trivial trivial ?_
    · exact ⟨(iP rfl),(iS rfl),(iV rfl),(iV rfl),trivial⟩
    · exact ⟨(ce rfl rfl rfl),trivial⟩
    · kernel_rfl) ?_
  refine an (aP rfl (ai (cg (r:=false) _ _ rfl rfl rfl) (aj (aS rfl rfl (aL (am (ef rfl (ai (aB _ aa rfl (by exact (rfl:_=some [_,_,_,_,_]))) ?_))))))))
  refine ai (bm (29,0) _ rfl rfl) (DQ rfl (aj (am (ai (az (9,0) aa rfl rfl) (aj (aH fun K9 hK9=> ?_))))))
  refine au ?_
  refine aN (Le.nilB (29,0) 4 (60,0) 9 1 rfl rfl rfl) ?_
  refine aN (Le.nilB (9,0) 0 (61,0) 9 1 rfl rfl rfl) ?_
  refine aN (Le.nilB (9,0) 1 (62,0) 9 1 rfl rfl rfl) ?_
  refine aN (Le.nil0 (9,0) 2 rfl rfl) ?_
  refine bD (α:=Nat×List Tx×List Tx×List Tx×Nat) (fun z=> z.2.2.2.1.Perm (z.2.1++z.2.2.1)∧z.2.2.2.2 < T.length∧z.2.2.2.1.length≤16∧ik T z.1 z.2.1 z.2.2.1 z.2.2.2.2=some (D',V',i)) 114 [(2,_),(8,_),(9,_)] [((2,0),_)] (fun z=> []) (fun z=> [((29,0), .box 222 [.sl T.length (qT T), .v (.int .i64 (z.2.2.2.2:Int)), .v (.int .i64 0), .v (.int .i64 0), .ref (60,0) 0 z.2.2.2.1.length]),((60,0), .row 9 1 (ea z.2.2.2.1)),((9,0), .box 64 [.ref (61,0) 0 z.2.1.length, .ref (62,0) 0 z.2.2.1.length, .sl 0 []]),((61,0), .row 9 1 (ea z.2.1)),((62,0), .row 9 1 (ea z.2.2.1))]) [] [] (fun z=> z.1) (3*T.length+10,[],[],[],0) ?_ (by
    refine Le.mkJ [] [] rfl ?_ ?_ trivial trivial ?_
    · exact ⟨(iP rfl),(iP rfl),(iP rfl),trivial⟩
    · exact ⟨(ce rfl rfl rfl),(di rfl rfl rfl rfl lz),(cw rfl rfl rfl ag),(di rfl rfl rfl rfl lz),(cw rfl rfl rfl ag),(cw rfl rfl rfl ag),trivial⟩
    · kernel_rfl) ?_
  · exact ⟨.refl _,hT0,Nat.zero_le _,hd⟩
  intro z hz
  obtain ⟨z1,d,v,N,j⟩:=z
  obtain ⟨hp,hj,hNl,hz⟩:=hz
  obtain ⟨g,rfl,hm⟩:=sq hz
  simp only at hp hj hNl hm ⊢
  have hpl:=hp.length_eq
  rw [List.length_append] at hpl
  have htl:=dT hj
  refine aH fun K10 hK10=> ?_
  refine aH fun K11 hK11=> ?_
  refine an (bn rfl (ai (aV _ rfl rfl) (bz rfl rfl rfl (cI rfl rfl rfl (jq rfl rfl rfl (cM rfl (ay rfl rfl (aC _ (rfl:_=AV.ptr _ _)) (ay rfl rfl (dq aa [((0,9),(29,0)),((1,9),(60,0))] ?_ (eG T j N hj) ob tr ae) ?_))))))))
  · repeat' (first | exact dD | refine cU ?_ ?_ | exact cr rfl)
  refine ay rfl rfl (aY _ _ Tryz.underlying9 rfl rfl rfl) (ay rfl rfl (aC _ (rfl:_=AV.v (.bool _))) (dx (fun hg39=> ?_) (fun hg39=> ?_)))
  · skip
    obtain ⟨l,j',hdp,hdz⟩: ∃ l j',gl T g N (bT T j)=some (l,j')∧ik T g (d++l) v j'=some (D',V',i):=by
      rcases hm with ⟨_,l,j',h1,h2⟩ | ⟨h,_⟩ | ⟨h,_⟩
      · exact ⟨l,j',(lj g _ hp).trans h1,h2⟩
      · exact absurd hg39 h
      · exact absurd hg39 h
    obtain ⟨hda,hdb,hdc⟩:=pK hTl g N j hj (l,j') hdp
    simp only at hda hdb hdc
    have hdl:(d++l).length=d.length+l.length:=by simp
    refine aW rfl rfl ah ?_
    refine aW rfl rfl ah ?_
    refine aW rfl rfl ah ?_
    refine ay rfl rfl (aG _ _ _ rfl (rfl:_=AV.v (.bool _))) (ai (aG _ _ _ rfl (rfl:_=AV.v (.bool _))) (ax (hK11 _ ?_)))
    clear hK11;try clear K11
    refine bC rfl rfl (bB (hK10 _ ?_))
    clear hK10;try clear K10
    refine au (aq ?_)
    refine aN (σ':=aA 114 [(2,_),(8,_),(9,_)] [((2,0),_),((29,0),_),((60,0),_),((9,0),_),((61,0),_),((62,0),_)] [] []) (by
      refine Le.mkJ [] [] rfl ?_ ?_ trivial trivial ?_
      · exact ⟨(iP rfl),(iP rfl),(iP rfl),trivial⟩
      · exact ⟨(ce rfl rfl rfl),(ce rfl rfl rfl),(ce rfl rfl rfl),(ce rfl rfl rfl),(ce rfl rfl rfl),(ce rfl rfl rfl),trivial⟩
      · kernel_rfl) ?_
    refine an (bn rfl (ai (dq aa [((0,9),(29,0)),((1,9),(60,0))] ?_ (eG T j N hj) ob tr ae) ?_))
    · repeat' (first | exact dD | refine cU ?_ ?_ | exact cr rfl)
    refine ai (aY _ _ Tryz.underlying9 rfl rfl rfl) (aj (bC rfl (beq_iff_eq.2 hg39) ?_))
    refine aN (σ':=aA 114 [(2,_),(8,_),(9,_)] [((2,0),_),((29,0), .box 222 [.sl T.length (qT T), .v (.int .i64 (j:Int)), .v (.int .i64 0), .v (.int .i64 0), .ref (60,0) 0 N.length]),((60,0), .row 9 1 (ea N)),((9,0),_),((61,0),_),((62,0),_)] [] []) (by
      refine Le.mkJ [] [] rfl ?_ ?_ trivial trivial ?_
      · exact ⟨(iP rfl),(iP rfl),(iP rfl),trivial⟩
      · exact ⟨(ce rfl rfl rfl),(ce rfl rfl rfl),(ce rfl rfl rfl),(ce rfl rfl rfl),(ce rfl rfl rfl),(ce rfl rfl rfl),trivial⟩
      · kernel_rfl) ?_
    refine bu 4 [48,49,50,51] [(29,0),(70,0),(60,0)] ae ae rfl (aK rfl) (rfl:_=[_,_,_,_]) (rfl:_=[_,_,_]) ?_
    refine ap (_,[]) (fun τ=> aI _ aa rfl rfl rfl) ?_
    refine el rfl ?_
    refine ap (_,[]) (fun τ=> aM _ aa rfl rfl (rfl:_=some (AV.ref _ _ _))) ?_
    refine eo rfl ?_
    refine ap (_,[]) (fun τ=> aC _ (rfl:_=AV.ptr _ _)) ?_
    refine ep rfl ?_
    refine ap (_,[((29,0),_),((70,0),_),((60,0), .gone)]) (fun τ=> (eC aa [((0,9),(29,0)),((1,9),(60,0)),((1,8),(70,0))] ?_ (hdc) ob tr tr rfl rfl ae ae)) ?_
    · repeat' (first | exact dD | refine cU ?_ ?_ | exact cr rfl)
    refine ew rfl (bg ⟨rfl,?_⟩)
    refine ai (cE (52,0) _ _ aa rfl rfl (by simp) (.sl (by simp)) ab rfl (nY _ _) hdl.symm) ?_
    refine bz rfl rfl rfl (bO rfl rfl rfl rfl rfl rfl (ax (⟨(g,d++l,v,N++l,j'),?_,?_,?_⟩)))
    · exact ⟨(hp.append_right l).trans (by rw [List.append_assoc,List.append_assoc];exact List.perm_append_comm.append_left d),hda,by simp only [List.length_append];omega,hdz⟩
    · skip
      refine Le.mkJ [((60,0),(70,0)),((61,0),(52,0))] [] rfl ?_ ?_ trivial trivial ?_
      · exact ⟨(cr (id:=(2,0)) rfl),(cr (id:=(29,0)) rfl),(cr (id:=(9,0)) rfl),trivial⟩
      · exact ⟨(di rfl rfl rfl rfl (by repeat' (first | exact Lv.v | exact bf | refine aD ?_ ?_))),(di rfl rfl rfl rfl lz),(cw rfl rfl rfl ag),(di rfl rfl rfl rfl lz),(cw rfl rfl rfl ag),(cw rfl rfl rfl ag),trivial⟩
      · kernel_rfl
    · simp only;omega
  · skip
    refine ay rfl rfl (aC _ (rfl:_=AV.ptr _ _)) (ay rfl rfl (dq aa [((0,9),(29,0)),((1,9),(60,0))] ?_ (eG T j N hj) ob tr ae) ?_)
    · repeat' (first | exact dD | refine cU ?_ ?_ | exact cr rfl)
    refine ay rfl rfl (aY _ _ Tryz.underlying9 rfl rfl rfl) (ay rfl rfl (aG _ _ _ rfl (rfl:_=AV.v (.bool _))) (ai (aG _ _ _ rfl (rfl:_=AV.v (.bool _))) (ax (hK11 _ ?_))))
    clear hK11;try clear K11
    refine aO rfl (fun hc44=> ?_) (fun hc44=> ?_)
    · skip
      obtain ⟨l,j',hdp,hdz⟩: ∃ l j',gl T g N (bT T j)=some (l,j')∧ik T g d (v++l) j'=some (D',V',i):=by
        rcases hm with ⟨h,_⟩ | ⟨_,_,l,j',h1,h2⟩ | ⟨_,h,_⟩
        · exact absurd h hg39
        · exact ⟨l,j',(lj g _ hp).trans h1,h2⟩
        · exact absurd hc44 h
      obtain ⟨hda,hdb,hdc⟩:=pK hTl g N j hj (l,j') hdp
      simp only at hda hdb hdc
      have hvl:(v++l).length=v.length+l.length:=by simp
      refine bB (hK10 _ ?_)
      clear hK10;try clear K10
      refine au (aq ?_)
      refine aN (σ':=aA 114 [(2,_),(8,_),(9,_)] [((2,0),_),((29,0),_),((60,0),_),((9,0),_),((61,0),_),((62,0),_)] [] []) (by
        refine Le.mkJ [] [] rfl ?_ ?_ trivial trivial ?_
        · exact ⟨(iP rfl),(iP rfl),(iP rfl),trivial⟩
        · exact ⟨(ce rfl rfl rfl),(ce rfl rfl rfl),(ce rfl rfl rfl),(ce rfl rfl rfl),(ce rfl rfl rfl),(ce rfl rfl rfl),trivial⟩
        · kernel_rfl) ?_
      refine an (bn rfl (ai (dq aa [((0,9),(29,0)),((1,9),(60,0))] ?_ (eG T j N hj) ob tr ae) ?_))
      · repeat' (first | exact dD | refine cU ?_ ?_ | exact cr rfl)
      refine ai (aY _ _ Tryz.underlying9 rfl rfl rfl) (aj (aS rfl (beq_eq_false_iff_ne.2 hg39) ?_))
      refine aN (σ':=aA 114 [(2,_),(8,_),(9,_)] [((2,0),_),((29,0), .box 222 [.sl T.length (qT T), .v (.int .i64 (j:Int)), .v (.int .i64 0), .v (.int .i64 0), .ref (60,0) 0 N.length]),((60,0), .row 9 1 (ea N)),((9,0),_),((61,0),_),((62,0),_)] [] []) (by
        refine Le.mkJ [] [] rfl ?_ ?_ trivial trivial ?_
        · exact ⟨(iP rfl),(iP rfl),(iP rfl),trivial⟩
        · exact ⟨(ce rfl rfl rfl),(ce rfl rfl rfl),(ce rfl rfl rfl),(ce rfl rfl rfl),(ce rfl rfl rfl),(ce rfl rfl rfl),trivial⟩
        · kernel_rfl) ?_
      refine bu 4 [54,55,56,57] [(29,0),(71,0),(60,0)] ae ae rfl (aK rfl) (rfl:_=[_,_,_,_]) (rfl:_=[_,_,_]) ?_
      refine ap (_,[]) (fun τ=> aI _ aa rfl rfl rfl) ?_
      refine el rfl ?_
      refine ap (_,[]) (fun τ=> aM _ aa rfl rfl (rfl:_=some (AV.ref _ _ _))) ?_
      refine eo rfl ?_
      refine ap (_,[]) (fun τ=> aC _ (rfl:_=AV.ptr _ _)) ?_
      refine ep rfl ?_
      refine ap (_,[((29,0),_),((71,0),_),((60,0), .gone)]) (fun τ=> (eC aa [((0,9),(29,0)),((1,9),(60,0)),((1,8),(71,0))] ?_ (hdc) ob tr tr rfl rfl ae ae)) ?_
      · repeat' (first | exact dD | refine cU ?_ ?_ | exact cr rfl)
      refine ew rfl (bg ⟨rfl,?_⟩)
      refine ai (cE (58,0) _ _ aa rfl rfl (by simp) (.sl (by simp)) ab rfl (nY _ _) hvl.symm) ?_
      refine bz rfl rfl rfl (bO rfl rfl rfl rfl rfl rfl (ax (⟨(g,d,v++l,N++l,j'),?_,?_,?_⟩)))
      · exact ⟨(hp.append_right l).trans (by rw [List.append_assoc]),hda,by simp only [List.length_append];omega,hdz⟩
      · skip
        refine Le.mkJ [((60,0),(71,0)),((62,0),(58,0))] [] rfl ?_ ?_ trivial trivial ?_
        · exact ⟨(cr (id:=(2,0)) rfl),(cr (id:=(29,0)) rfl),(cr (id:=(9,0)) rfl),trivial⟩
        · exact ⟨(di rfl rfl rfl rfl (by repeat' (first | exact Lv.v | exact bf | refine aD ?_ ?_))),(di rfl rfl rfl rfl lz),(cw rfl rfl rfl ag),(di rfl rfl rfl rfl lz),(cw rfl rfl rfl ag),(cw rfl rfl rfl ag),trivial⟩
        · kernel_rfl
      · simp only;omega
    · skip
      have hrd:(D',V',i)=(d,v,j):=by
        rcases hm with ⟨h,_⟩ | ⟨_,h,_⟩ | ⟨_,_,h⟩
        · exact absurd h hg39
        · exact absurd h hc44
        · exact h
      obtain ⟨e1,e2,e3⟩:D'=d∧V'=v∧i=j:=⟨congrArg (·.1) hrd,congrArg (·.2.1) hrd,congrArg (·.2.2) hrd⟩
      clear hrd hm hz
      subst e1;subst e2;subst e3
      refine bK (id (hK9 _ ?_))
      clear hK9;try clear K9
      refine aH fun K14 hK14=> ?_
      refine au ?_
      refine aN (Le.frzB (29,0) 4 rfl rfl rfl rfl (ys:=ea N) (by simp [List.take_of_length_le]) (by simp)) ?_
      refine bD (α:=Nat×List Hd×Nat) (fun y=> y.2.1.length+y.1≤10*T.length+10∧y.2.2 < T.length∧CV T y.1 y.2.1 y.2.2=some L') 114 [(2,_),(8,_),(9,_)] [((2,0),_),((61,0),_),((62,0),_)] (fun y=> []) (fun y=> [((29,0), .box 222 [.sl T.length (qT T), .v (.int .i64 (y.2.2:Int)), .v (.int .i64 0), .v (.int .i64 0), .sl N.length (ea N)]),((9,0), .box 64 [.ref (61,0) 0 D'.length, .ref (62,0) 0 V'.length, .sl y.2.1.length (lA y.2.1)])]) [] [] (fun y=> y.1) (10*T.length+10,[],i) ?_ (by
        refine Le.mkJ [] [] rfl ?_ ?_ trivial trivial ?_
        · exact ⟨(iP rfl),(iP rfl),(iP rfl),trivial⟩
        · exact ⟨(ce rfl rfl rfl),(ce rfl rfl rfl),(ce rfl rfl rfl),(di rfl rfl rfl rfl lz),(di rfl rfl rfl rfl lz),trivial⟩
        · kernel_rfl) ?_
      · exact ⟨by simp,hj,hL⟩
      intro y hy
      obtain ⟨y1,l,k⟩:=y
      obtain ⟨hyl,hk,hy⟩:=hy
      obtain ⟨g2,rfl,hm2⟩:=xm hy
      simp only at hyl hk hm2 ⊢
      refine aH fun K15 hK15=> ?_
      refine aq (bu 19 [60,61,62,63,64,65,66,67,68,69,70,71,72,73,74,75,76,77,78] [] ae ae rfl (aK rfl) (rfl:_=[_,_,_,_,_,_,_,_,_,_,_,_,_,_,_,_,_,_,_]) (rfl:_=[]) ?_)
      refine ap (_,[]) (fun τ=> aC _ (rfl:_=AV.ptr _ _)) ?_
      refine el rfl ?_
      refine ap (_,[]) (fun τ=> aV _ rfl rfl) ?_
      refine eo rfl ?_
      refine ap (_,[]) (fun τ=> aI _ aa rfl rfl rfl) ?_
      refine ep rfl ?_
      refine ap (_,[]) (fun τ=> aM _ aa rfl rfl (rfl:_=some (AV.v (.int _ _)))) ?_
      refine ew rfl ?_
      refine ap (_,[]) (fun τ=> br (r:=true) _ _ rfl rfl rfl) ?_
      refine eF rfl ?_
      refine ap (_,[]) (fun τ=> aC _ (rfl:_=AV.v (.bool _))) ?_
      refine eV rfl ?_
      refine bQ (_,[]) rfl (fun τ=> rfl) (fun τ=> aC _ (rfl:_=AV.ptr _ _)) ?_
      refine fF rfl ?_
      refine bQ (_,[]) rfl (fun τ=> rfl) (fun τ=> aV _ rfl rfl) ?_
      refine iu rfl ?_
      refine bQ (_,[]) rfl (fun τ=> rfl) (fun τ=> aI _ aa rfl rfl rfl) ?_
      refine ig rfl ?_
      refine bQ (_,[]) rfl (fun τ=> rfl) (fun τ=> aM _ aa rfl rfl (rfl:_=some (AV.sl _ _))) ?_
      refine eO rfl ?_
      refine bQ (_,[]) rfl (fun τ=> rfl) (fun τ=> aC _ (rfl:_=AV.ptr _ _)) ?_
      refine fc rfl ?_
      refine bQ (_,[]) rfl (fun τ=> rfl) (fun τ=> aV _ rfl rfl) ?_
      refine gU rfl ?_
      refine bQ (_,[]) rfl (fun τ=> rfl) (fun τ=> aI _ aa rfl rfl rfl) ?_
      refine gY rfl ?_
      refine bQ (_,[]) rfl (fun τ=> rfl) (fun τ=> aM _ aa rfl rfl (rfl:_=some (AV.v (.int _ _)))) ?_
      refine jm rfl ?_
      refine bQ (_,[]) rfl (fun τ=> rfl) (fun τ=> bi _ _ aa rfl rfl _ rfl ab (by (simp only [aZ,bq,bo,bG,bE,bM,bF];omega)) ag) ?_
      refine lU rfl ?_
      refine bQ (_,[]) rfl (fun τ=> rfl) (fun τ=> dn _ aa rfl rfl) ?_
      refine lQ rfl ?_
      refine bQ (_,[]) rfl (fun τ=> rfl) (fun τ=> bH _ aa rfl (by exact oN _ _ ab) rfl) ?_
      refine vN rfl ?_
      refine bQ (_,[]) rfl (fun τ=> rfl) (fun τ=> cg _ _ rfl rfl rfl) ?_
      refine xT rfl ?_
      refine ap (_,[]) (fun τ=> aG _ _ _ rfl (rfl:_=AV.v (.bool _))) ?_
      refine wz rfl (bg ⟨rfl,?_⟩)
      refine aj (aO rfl (fun hc78=> ?_) (fun hc78=> ?_))
      · skip
        obtain ⟨_,j1,hn,j2,dd,j3,h1,h2,h3,h4,h5⟩:=hm2.resolve_left fun x=> by omega
        have hx1:=fu T k j1 N Cs hk hTl h1
        obtain ⟨ha2,_,hx2⟩:=qN (N:=N) hTl j1 (iC h1 hk) l ab _ h2 h3
        obtain ⟨ha3,hx3⟩:=tg (N:=N) hTl ab ha2 h4
        have hx4:=yO l ab (hn,dd)
        have hpl2:=wT l (hn,dd)
        simp only at ha2 ha3 hx2 hx3 hx4
        refine bB (hK15 _ ?_)
        clear hK15;try clear K15
        refine au (aq ?_)
        refine aN (σ':=aA 114 [(2,_),(8,_),(9,_)] [((2,0),_),((61,0),_),((62,0),_),((29,0),_),((9,0),_)] [] []) (by
          refine Le.mkJ [] [] rfl ?_ ?_ trivial trivial ?_
          · exact ⟨(iP rfl),(iP rfl),(iP rfl),trivial⟩
          · exact ⟨(ce rfl rfl rfl),(ce rfl rfl rfl),(ce rfl rfl rfl),(ce rfl rfl rfl),(ce rfl rfl rfl),trivial⟩
          · kernel_rfl) ?_
        refine an (bn rfl (ai (dq aa [((0,9),(29,0))] ?_ (hx1) ob tr ae) ?_))
        · repeat' (first | exact dD | refine cU ?_ ?_ | exact Lv.v | exact cr rfl)
        refine aj (aq (am (bn rfl (ai (aV _ rfl rfl) (bz rfl rfl rfl (cI rfl rfl rfl (ai (cg (r:=false) _ _ rfl rfl rfl) (aj (aS rfl rfl (aL ?_))))))))))
        refine aH fun K20 hK20=> ?_
        refine an (bn rfl (bz rfl rfl rfl (fA rfl rfl rfl (ai (dq aa [((0,9),(29,0))] ?_ (hx2) ob tr ae) ?_))))
        · repeat' (first | exact dD | refine cU ?_ ?_ | exact Lv.sl | exact cr rfl)
        refine ba rfl (ax (hK20 _ ?_))
        clear hK20;try clear K20
        refine aH fun K21 hK21=> ?_
        refine an (bn rfl (ai (dq aa [((0,9),(29,0))] ?_ (hx3) ob tr ae) ?_))
        · repeat' (first | exact dD | refine cU ?_ ?_ | exact Lv.v | exact cr rfl)
        refine ai (az (11,0) aa rfl rfl) (bO rfl rfl rfl rfl rfl rfl (ax (hK21 _ ?_)))
        clear hK21;try clear K21
        refine aN (σ':=aA 114 [(2,_),(8,_),(9,_),(10,_),(11,_)] [((2,0),_),((61,0),_),((62,0),_),((29,0),_),((9,0),_),((11,0),_)] [] []) (by
          refine Le.mkJ [] [] rfl ?_ ?_ trivial trivial ?_
          · exact ⟨(iP rfl),(iP rfl),(iP rfl),(iV rfl),(iP rfl),trivial⟩
          · exact ⟨(ce rfl rfl rfl),(ce rfl rfl rfl),(ce rfl rfl rfl),(ce rfl rfl rfl),(ce rfl rfl rfl),(ce rfl rfl rfl),trivial⟩
          · kernel_rfl) ?_
        refine an (bz rfl rfl rfl (fA rfl rfl rfl (aP rfl (ai (aR _ aa rfl rfl rfl rfl) (ai (aB _ aa rfl (by exact (rfl:_=some [_,_,_,_,_]))) ?_)))))
        refine ai (aF aa al (hx4) rfl rfl) ?_
        refine bz rfl rfl rfl (bO rfl rfl rfl rfl rfl rfl (ax (⟨(g2,nF l (hn,dd),j3),?_,?_,?_⟩)))
        · exact ⟨by simp only [hpl2];omega,ha3,h5⟩
        · skip
          refine Le.mkJ [] [] rfl ?_ ?_ trivial trivial ?_
          · exact ⟨(iP rfl),(iP rfl),(iP rfl),trivial⟩
          · exact ⟨(ce rfl rfl rfl),(ce rfl rfl rfl),(ce rfl rfl rfl),(di rfl rfl rfl rfl lz),(di rfl rfl rfl rfl lz),trivial⟩
          · kernel_rfl
        · simp only;omega
      · skip
        have hrl:=(hm2.resolve_right fun x=> x.1 ab).2
        subst hrl
        refine bK (id (hK14 _ ?_))
        clear hK14;try clear K14
        refine aq (aq ?_)
        refine aN (σ':=aA 114 [(2,_),(8,_),(9,_)] [((2,0),_),((61,0),_),((62,0),_),((29,0),_),((9,0),_)] [] []) (by
          refine Le.mkJ [] [] rfl ?_ ?_ trivial trivial ?_
          · exact ⟨(iP rfl),(iP rfl),(iP rfl),trivial⟩
          · exact ⟨(ce rfl rfl rfl),(ce rfl rfl rfl),(ce rfl rfl rfl),(ce rfl rfl rfl),(ce rfl rfl rfl),trivial⟩
          · kernel_rfl) ?_
        refine an (bn rfl (ai (aV _ rfl rfl) (bz rfl rfl rfl (cI rfl rfl rfl (ai (cg (r:=false) _ _ rfl rfl rfl) (aj (aS rfl rfl (aL (am (ai (aR _ aa rfl rfl rfl rfl) ?_))))))))))
        exact bO rfl rfl rfl rfl rfl rfl (ba rfl (ba rfl (aj (aE (zq (.inr rfl) rfl (.cellA aa rfl rfl rfl) (.tmp (rfl:_=AV.v _)) (.tmp (rfl:_=AV.v _)) (Le.out [] [(61,0),(62,0)] (.tup rfl (aD (.agg rfl (aD (fY rfl rfl (by simp) rfl) (aD (fY rfl rfl (by simp) rfl) lz))) lz)) rfl rfl rfl tr trivial))))))

def jQ (l:List Nd) (j:Nat):Nd:=l.getD j ⟨0,0,[],0,[]⟩
theorem Ci (l:List Nd) (k:Nat) (h:k < l.length):jQ l k=l[k]:=by simp [jQ,h]
theorem cL (l:List Nd) (k:Nat) (h:k < l.length):PV.ups (((kR l).drop (k*4)).take 4)=[.v (.int .i64 ((jQ l k).k:Int)), .v (.int .i64 ((jQ l k).n:Int)), .v (bt (jQ l k).s), .sl (jQ l k).kn (jQ l k).kids]:=by
 rw [Ci l k h,show ((kR l).drop (k*4)).take 4=l[k].row from oP Nd.row 4 (fun _=> rfl) l k h];rfl
theorem fV (l:List Tx) (n:Nat) (hn:l.length=n) (h1:n≤1000) (t:Tx):Spec Tryz.prog 204 (bj [.sl n (ea l), .v (bt t)] []) (aT (.v (.bool (decide (t∈l)))) []):=by
 refine Spec.ofN Tryz.func204 rfl Tryz.ntmps204 rfl ?_
 refine am (ci rfl (aj (aH fun K2 hK2=> ?_)))
 refine am (ba rfl (aj (au ?_)))
 refine bD (α:=Nat) (fun k=> k≤n∧t∉l.take k) 18 [(0,_),(1,_)] [] (fun k=> [(5, .v (.int .i64 (k:Int)))]) (fun k=> []) [] [] (fun k=> n - k) 0 ?_ (by
  refine Le.mkJ [] [] rfl ?_ ?_ trivial trivial ?_
  ·exact ⟨(iS rfl),(iV rfl),(bY ag),trivial⟩
  ·exact trivial
  ·kernel_rfl) ?_
 ·exact ⟨Nat.zero_le _,by simp⟩
 intro k hk
 obtain ⟨hk,hnt⟩:=hk
 refine aH fun K4 hK4=> ?_
 refine am (aP rfl (ef rfl (ai (bI _ aa rfl) (ai (bp _ _ rfl rfl rfl) (aj (aO rfl (fun hc9=> ?_) (fun hc9=> ?_)))))))
 ·skip
  refine bB (hK4 _ ?_)
  clear hK4;try clear K4
  refine aq (au (am (ef rfl (aP rfl (ai (bi _ _ aa rfl rfl _ rfl ab (by (simp only [aZ,bq,bo,bG,bE,bM,bF];omega)) (by exact Nat.mul_one _)) ?_)))))
  refine ai (bH _ aa rfl (by exact fK _ _ ab) rfl) ?_
  refine dQ rfl (ai (aY _ _ Tryz.underlying9 rfl rfl rfl) (aj (aO rfl (fun hc17=> ?_) (fun hc17=> ?_))))
  ·skip
   refine am (ci rfl (aj (aE (aX (.inr rfl) rfl (.tmp (rfl:_=AV.v (.bool _))) (Le.out [] [] (hG ?_) rfl rfl rfl trivial trivial)))))
   exact decide_eq_true (hc17 ▸ iY ab)
  ·skip
   refine cf (an (aP rfl (ai (bc _ _ rfl rfl (be ab)) ?_)))
   refine ba rfl (ax (⟨k+1,?_,?_,?_⟩))
   ·exact ⟨by omega,jF hnt ab hc17⟩
   ·skip
    refine Le.mkJ [] [] rfl ?_ ?_ trivial trivial ?_
    ·exact ⟨(iS rfl),(iV rfl),(bY ag),trivial⟩
    ·exact trivial
    ·kernel_rfl
   ·omega
 ·skip
  have hall:t∉l:=by rwa [List.take_of_length_le ab] at hnt
  refine bK (id (hK2 _ ?_))
  clear hK2;try clear K2
  refine am (ci rfl (aj (aE (aX (.inr rfl) rfl (.tmp (rfl:_=AV.v (.bool _))) (Le.out [] [] (hG ?_) rfl rfl rfl trivial trivial)))))
  exact decide_eq_false hall
def vM:List Tx:=[[60],[60,61],[62],[62,61],[61,61],[33,61]]
theorem ls (t:Tx):Spec Tryz.prog 227 (bj [.v (bt t)] []) (aT (.v (.bool (decide (t∈vM)))) []):=by
 refine Spec.ofN Tryz.func227 rfl Tryz.ntmps227 rfl ?_
 refine am (ci rfl (aj (am (ai (aU _ _ aa rfl ag (by (simp <;> rfl)) ah rfl) ?_))))
 refine dQ rfl (ai (aF aa al (fV vM 6 rfl ab t) rfl rfl) ?_)
 refine ci rfl (aj (aE (aX (.inr rfl) rfl (.tmp (rfl:_=AV.v (.bool _))) (Le.out [] [] (hG ?_) rfl rfl rfl trivial trivial))))
 rfl
theorem CT (n:Nat):Spec Tryz.prog 203 (bj [mS (nd 12 n [] [])] []) (aT (.v (.int .i64 1)) []):=by
 refine Spec.ofN Tryz.func203 rfl Tryz.ntmps203 rfl ?_
 refine am (ai (bm (1,0) _ rfl rfl) (ba rfl (aj (aq (am (bz rfl rfl rfl (cI rfl rfl rfl (jq rfl rfl rfl (cM rfl (aW rfl rfl ah ?_))))))))))
 refine aW rfl rfl ah ?_
 refine aW rfl rfl ah ?_
 refine ai (aG _ _ _ rfl (rfl:_=AV.v (.bool _))) (cM rfl (aW rfl rfl ah ?_))
 refine aW rfl rfl ah ?_
 refine aW rfl rfl ah ?_
 refine ai (aG _ _ _ rfl (rfl:_=AV.v (.bool _))) (aj (bC rfl rfl (aq ?_)))
 refine aN (σ':=aA 80 [] [] [] []) kp ?_
 exact an (ba rfl (aj (aE (aX (.inr rfl) rfl (.tmp (rfl:_=AV.v _)) (Le.out [] [] .v rfl rfl rfl trivial trivial)))))
theorem Cy (s:Tx):Spec Tryz.prog 203 (bj [mS (nd 14 0 s [])] []) (aT (.v (.int .i64 1)) []):=by
 refine Spec.ofN Tryz.func203 rfl Tryz.ntmps203 rfl ?_
 refine am (ai (bm (1,0) _ rfl rfl) (ba rfl (aj (aq (am (bz rfl rfl rfl (cI rfl rfl rfl (fa rfl rfl rfl (cM rfl (ay rfl rfl (aI _ aa rfl rfl rfl) ?_))))))))))
 refine ay rfl rfl (aM _ aa rfl rfl (rfl:_=some (AV.v (.int _ _)))) (ay rfl rfl (br (r:=true) _ _ rfl rfl rfl) (ai (aG _ _ _ rfl (rfl:_=AV.v (.bool _))) (cM rfl (aW rfl rfl ah ?_))))
 refine aW rfl rfl ah ?_
 refine aW rfl rfl ah ?_
 refine ai (aG _ _ _ rfl (rfl:_=AV.v (.bool _))) (aj (bC rfl rfl (aq ?_)))
 refine aN (σ':=aA 80 [] [] [] []) kp ?_
 exact an (ba rfl (aj (aE (aX (.inr rfl) rfl (.tmp (rfl:_=AV.v _)) (Le.out [] [] .v rfl rfl rfl trivial trivial)))))
theorem AY (s:Tx):Spec Tryz.prog 203 (bj [mS (nd 15 0 s [])] []) (aT (.v (.int .i64 1)) []):=by
 refine Spec.ofN Tryz.func203 rfl Tryz.ntmps203 rfl ?_
 refine am (ai (bm (1,0) _ rfl rfl) (ba rfl (aj (aq (am (bz rfl rfl rfl (cI rfl rfl rfl (fa rfl rfl rfl (cM rfl (ay rfl rfl (aI _ aa rfl rfl rfl) ?_))))))))))
 refine ay rfl rfl (aM _ aa rfl rfl (rfl:_=some (AV.v (.int _ _)))) (ay rfl rfl (br (r:=false) _ _ rfl rfl rfl) (ai (aG _ _ _ rfl (rfl:_=AV.v (.bool _))) (cM rfl (ay rfl rfl (aI _ aa rfl rfl rfl) (ay rfl rfl (aM _ aa rfl rfl (rfl:_=some (AV.v (.int _ _)))) (ay rfl rfl (br (r:=true) _ _ rfl rfl rfl) (ai (aG _ _ _ rfl (rfl:_=AV.v (.bool _))) (aj (bC rfl rfl (aq ?_))))))))))
 refine aN (σ':=aA 80 [] [] [] []) kp ?_
 exact an (ba rfl (aj (aE (aX (.inr rfl) rfl (.tmp (rfl:_=AV.v _)) (Le.out [] [] .v rfl rfl rfl trivial trivial)))))
theorem AM (n:Nat):Spec Tryz.prog 203 (bj [mS (nd 13 n [] [])] []) (aT (.v (.int .i64 2)) []):=by
 refine Spec.ofN Tryz.func203 rfl Tryz.ntmps203 rfl ?_
 refine am (ai (bm (1,0) _ rfl rfl) (ba rfl (aj (aq (am (bz rfl rfl rfl (cI rfl rfl rfl (fa rfl rfl rfl (cM rfl (ay rfl rfl (aI _ aa rfl rfl rfl) ?_))))))))))
 refine ay rfl rfl (aM _ aa rfl rfl (rfl:_=some (AV.v (.int _ _)))) (ay rfl rfl (br (r:=false) _ _ rfl rfl rfl) (ai (aG _ _ _ rfl (rfl:_=AV.v (.bool _))) (cM rfl (ay rfl rfl (aI _ aa rfl rfl rfl) (ay rfl rfl (aM _ aa rfl rfl (rfl:_=some (AV.v (.int _ _)))) (ay rfl rfl (br (r:=false) _ _ rfl rfl rfl) (ai (aG _ _ _ rfl (rfl:_=AV.v (.bool _))) (aj (aS rfl rfl (aL ?_))))))))))
 refine aq (aq ?_)
 refine aN (σ':=aA 80 [(1,_)] [((1,0),_)] [] []) kp ?_
 exact an (bz rfl rfl rfl (cI rfl rfl rfl (jq rfl rfl rfl (aj (bC rfl rfl (am (ba rfl (aj (aE (aX (.inr rfl) rfl (.tmp (rfl:_=AV.v _)) (Le.out [] [] .v rfl rfl rfl trivial trivial)))))))))))
theorem Ai (L:List Nd) (hL:L.length≤3) (t:Nat→Nat) (ht: ∀ j,t j≤2) (h: ∀ j,j < L.length→Spec Tryz.prog 203 (bj [mS (jQ L j)] []) (aT (.v (.int .i64 (t j:Int))) [])) (r:Nat) (hr1:(∀ j,j < L.length→t j=1)→r=1) (hr0: ∀ j,j < L.length→t j≠1→r=0):
  Spec Tryz.prog 203 (bj [.agg [.v (.int .i64 16), .v (.int .i64 0), .v (bt []), .sl L.length (kR L)]] []) (aT (.v (.int .i64 (r:Int))) []):=by
 refine Spec.ofN Tryz.func203 rfl Tryz.ntmps203 rfl ?_
 refine am (ai (bm (1,0) _ rfl rfl) (ba rfl (aj (aq (am (bz rfl rfl rfl (cI rfl rfl rfl (fa rfl rfl rfl (cM rfl (ay rfl rfl (aI _ aa rfl rfl rfl) ?_))))))))))
 refine ay rfl rfl (aM _ aa rfl rfl (rfl:_=some (AV.v (.int _ _)))) (ay rfl rfl (br (r:=false) _ _ rfl rfl rfl) (ai (aG _ _ _ rfl (rfl:_=AV.v (.bool _))) (cM rfl (ay rfl rfl (aI _ aa rfl rfl rfl) (ay rfl rfl (aM _ aa rfl rfl (rfl:_=some (AV.v (.int _ _)))) (ay rfl rfl (br (r:=false) _ _ rfl rfl rfl) (ai (aG _ _ _ rfl (rfl:_=AV.v (.bool _))) (aj (aS rfl rfl (aL ?_))))))))))
 refine aq (aq ?_)
 refine aN (σ':=aA 80 [(1,_)] [((1,0),_)] [] []) kp ?_
 refine an (bz rfl rfl rfl (cI rfl rfl rfl (fa rfl rfl rfl (aj (aS rfl rfl (aL (aq (am (bz rfl rfl rfl (cI rfl rfl rfl ?_))))))))))
 refine ai (cg (r:=false) _ _ rfl rfl rfl) (cM rfl (aW rfl rfl ah ?_))
 refine aW rfl rfl ah ?_
 refine aW rfl rfl ah ?_
 refine ai (aG _ _ _ rfl (rfl:_=AV.v (.bool _))) (cM rfl (aW rfl rfl ah ?_))
 refine aW rfl rfl ah ?_
 refine aW rfl rfl ah ?_
 refine ai (aG _ _ _ rfl (rfl:_=AV.v (.bool _))) (aj (aS rfl rfl (aL (aq ?_))))
 refine aN (σ':=aA 80 [(1,_)] [((1,0),_)] [] []) kp ?_
 refine an (ba rfl (aj (am (ba rfl (aj (aq (am (bz rfl rfl rfl (cI rfl rfl rfl (fa rfl rfl rfl ?_))))))))))
 refine cM rfl (aW rfl rfl ah ?_)
 refine aW rfl rfl ah ?_
 refine aW rfl rfl ah ?_
 refine ai (aG _ _ _ rfl (rfl:_=AV.v (.bool _))) (cM rfl (ay rfl rfl (aI _ aa rfl rfl rfl) (ay rfl rfl (aM _ aa rfl rfl (rfl:_=some (AV.v (.int _ _)))) (ay rfl rfl (br (r:=false) _ _ rfl rfl rfl) (ay rfl rfl (aC _ (rfl:_=AV.v (.bool _))) (aW rfl rfl ah ?_))))))
 refine aW rfl rfl ah ?_
 refine aW rfl rfl ah ?_
 refine aW rfl rfl ah ?_
 refine ay rfl rfl (aG _ _ _ rfl (rfl:_=AV.v (.bool _))) (ai (aG _ _ _ rfl (rfl:_=AV.v (.bool _))) (aj (aS rfl rfl (aL (aq (aq ?_))))))
 refine aN (σ':=aA 80 [(1,_),(3,_),(4,_)] [((1,0),_)] [] []) kp ?_
 refine an (bz rfl rfl rfl (cI rfl rfl rfl (fa rfl rfl rfl (cM rfl (aW rfl rfl ah ?_)))))
 refine aW rfl rfl ah ?_
 refine aW rfl rfl ah ?_
 refine ai (aG _ _ _ rfl (rfl:_=AV.v (.bool _))) (aj (aS rfl rfl (aL (aH fun K14 hK14=> ?_))))
 refine am (ba rfl (aj (au ?_)))
 refine bD (α:=Nat) (fun j=> j≤L.length∧ ∀ q,q < j→t q=1) 80 [(1,_),(3,_),(4,_)] [((1,0),_)] (fun j=> [(5, .v (.int .i64 (j:Int)))]) (fun j=> []) [] [] (fun j=> L.length - j) 0 ?_ (by
  refine Le.mkJ [] [] rfl ?_ ?_ trivial trivial ?_
  ·exact ⟨(iP rfl),(iV rfl),(iV rfl),(bY ag),trivial⟩
  ·exact ⟨(ce rfl rfl rfl),trivial⟩
  ·kernel_rfl) ?_
 ·exact ⟨Nat.zero_le _,fun q hq=> by omega⟩
 intro j hj
 obtain ⟨hj,hall⟩:=hj
 have htj:=ht j
 refine aH fun K16 hK16=> ?_
 refine am (aP rfl (bz rfl rfl rfl (fA rfl rfl rfl (ai (bI _ aa rfl) (ai (bp _ _ rfl rfl rfl) (aj (aO rfl (fun hc67=> ?_) (fun hc67=> ?_))))))))
 ·skip
  refine bB (hK16 _ ?_)
  clear hK16;try clear K16
  refine aq (au (am (bz rfl rfl rfl (fA rfl rfl rfl (aP rfl (ai (bi _ _ aa rfl rfl _ rfl ab (by (simp only [aZ,bq,bo,bG,bE,bM,bF];omega)) ag) ?_))))))
  refine ai (cp _ aa rfl (by exact cL _ _ ab) rfl) ?_
  refine ai (aF aa al (h j ab) rfl rfl) ?_
  refine ba rfl (aj (am (aP rfl (aP rfl (ai (cg _ _ rfl rfl rfl) (aj (aO rfl (fun hc78=> ?_) (fun hc78=> ?_))))))))
  ·skip
   have hr:=hr0 j ab ab
   refine aq ?_
   refine aN (σ':=aA 80 [] [] [] []) kp ?_
   refine an (ba rfl (aj (aE (aX (.inr rfl) rfl (.tmp (rfl:_=AV.v (.int _ _))) (Le.out [] [] (bY ?_) rfl rfl rfl trivial trivial)))))
   rw [hr];rfl
  ·skip
   have hall1: ∀ q,q < j+1→t q=1:=fun q hq=> by
    by_cases h:q < j
    ·exact hall q h
    ·obtain rfl:q=j:=by omega
     omega
   refine cf ?_
   refine aN (σ':=aA 80 [(1,_),(3,_),(4,_),(5,_)] [((1,0),_)] [] []) kp ?_
   refine an (aP rfl (ai (bc _ _ rfl rfl (be ab)) ?_))
   refine ba rfl (ax (⟨j+1,?_,?_,?_⟩))
   ·exact ⟨by omega,hall1⟩
   ·skip
    refine Le.mkJ [] [] rfl ?_ ?_ trivial trivial ?_
    ·exact ⟨(iP rfl),(iV rfl),(iV rfl),(bY ag),trivial⟩
    ·exact ⟨(ce rfl rfl rfl),trivial⟩
    ·kernel_rfl
   ·omega
 ·skip
  have hr:=hr1 fun q hq=> hall q ab
  refine bK (id (hK14 _ ?_))
  clear hK14;try clear K14
  refine am (aP rfl (ba rfl (aj (aE (aX (.inr rfl) rfl (.tmp (rfl:_=AV.v (.int _ _))) (Le.out [] [] (bY ?_) rfl rfl rfl trivial trivial))))))
  rw [hr];rfl
theorem Dt (L:List Nd) (hL:L.length≤3) (t:Nat→Nat) (ht: ∀ j,t j≤2) (h: ∀ j,j < L.length→Spec Tryz.prog 203 (bj [mS (jQ L j)] []) (aT (.v (.int .i64 (t j:Int))) [])) (r:Nat) (hr1:(∀ j,j < L.length→t j=1)→r=1) (hr0: ∀ j,j < L.length→t j≠1→r=0):
  Spec Tryz.prog 203 (bj [.agg [.v (.int .i64 17), .v (.int .i64 0), .v (bt [45]), .sl L.length (kR L)]] []) (aT (.v (.int .i64 (r:Int))) []):=by
 refine Spec.ofN Tryz.func203 rfl Tryz.ntmps203 rfl ?_
 refine am (ai (bm (1,0) _ rfl rfl) (ba rfl (aj (aq (am (bz rfl rfl rfl (cI rfl rfl rfl (fa rfl rfl rfl (cM rfl (ay rfl rfl (aI _ aa rfl rfl rfl) ?_))))))))))
 refine ay rfl rfl (aM _ aa rfl rfl (rfl:_=some (AV.v (.int _ _)))) (ay rfl rfl (br (r:=false) _ _ rfl rfl rfl) (ai (aG _ _ _ rfl (rfl:_=AV.v (.bool _))) (cM rfl (ay rfl rfl (aI _ aa rfl rfl rfl) (ay rfl rfl (aM _ aa rfl rfl (rfl:_=some (AV.v (.int _ _)))) (ay rfl rfl (br (r:=false) _ _ rfl rfl rfl) (ai (aG _ _ _ rfl (rfl:_=AV.v (.bool _))) (aj (aS rfl rfl (aL ?_))))))))))
 refine aq (aq ?_)
 refine aN (σ':=aA 80 [(1,_)] [((1,0),_)] [] []) kp ?_
 refine an (bz rfl rfl rfl (cI rfl rfl rfl (fa rfl rfl rfl (aj (aS rfl rfl (aL (aq (am (bz rfl rfl rfl (cI rfl rfl rfl ?_))))))))))
 refine ai (cg (r:=true) _ _ rfl rfl rfl) (cM rfl (ay rfl rfl (aI _ aa rfl rfl rfl) (ay rfl rfl (aM _ aa rfl rfl (rfl:_=some (AV.v (.int _ _)))) (ay rfl rfl (cg (r:=false) _ _ rfl rfl rfl) (ai (aG _ _ _ rfl (rfl:_=AV.v (.bool _))) (cM rfl (aW rfl rfl ah ?_)))))))
 refine aW rfl rfl ah ?_
 refine aW rfl rfl ah ?_
 refine ai (aG _ _ _ rfl (rfl:_=AV.v (.bool _))) (aj (aS rfl rfl (aL (aq ?_))))
 refine aN (σ':=aA 80 [(1,_)] [((1,0),_)] [] []) kp ?_
 refine an (ba rfl (aj (am (ba rfl (aj (aq (am (bz rfl rfl rfl (cI rfl rfl rfl (jq rfl rfl rfl ?_))))))))))
 refine cM rfl (ay rfl rfl (aI _ aa rfl rfl rfl) (ay rfl rfl (aM _ aa rfl rfl (rfl:_=some (AV.v (.string _)))) (ay rfl rfl (aY (r:=false) _ _ Tryz.underlying9 rfl rfl rfl) (ai (aG _ _ _ rfl (rfl:_=AV.v (.bool _))) (cM rfl (ay rfl rfl (aI _ aa rfl rfl rfl) (ay rfl rfl (aM _ aa rfl rfl (rfl:_=some (AV.v (.int _ _)))) (ay rfl rfl (br (r:=false) _ _ rfl rfl rfl) (ay rfl rfl (aC _ (rfl:_=AV.v (.bool _))) (aW rfl rfl ah ?_))))))))))
 refine aW rfl rfl ah ?_
 refine aW rfl rfl ah ?_
 refine aW rfl rfl ah ?_
 refine ay rfl rfl (aG _ _ _ rfl (rfl:_=AV.v (.bool _))) (ai (aG _ _ _ rfl (rfl:_=AV.v (.bool _))) (aj (aS rfl rfl (aL (aq (aq ?_))))))
 refine aN (σ':=aA 80 [(1,_),(3,_),(4,_)] [((1,0),_)] [] []) kp ?_
 refine an (bz rfl rfl rfl (cI rfl rfl rfl (fa rfl rfl rfl (cM rfl (aW rfl rfl ah ?_)))))
 refine aW rfl rfl ah ?_
 refine aW rfl rfl ah ?_
 refine ai (aG _ _ _ rfl (rfl:_=AV.v (.bool _))) (aj (aS rfl rfl (aL (aH fun K14 hK14=> ?_))))
 refine am (ba rfl (aj (au ?_)))
 refine bD (α:=Nat) (fun j=> j≤L.length∧ ∀ q,q < j→t q=1) 80 [(1,_),(3,_),(4,_)] [((1,0),_)] (fun j=> [(5, .v (.int .i64 (j:Int)))]) (fun j=> []) [] [] (fun j=> L.length - j) 0 ?_ (by
  refine Le.mkJ [] [] rfl ?_ ?_ trivial trivial ?_
  ·exact ⟨(iP rfl),(iV rfl),(iV rfl),(bY ag),trivial⟩
  ·exact ⟨(ce rfl rfl rfl),trivial⟩
  ·kernel_rfl) ?_
 ·exact ⟨Nat.zero_le _,fun q hq=> by omega⟩
 intro j hj
 obtain ⟨hj,hall⟩:=hj
 have htj:=ht j
 refine aH fun K16 hK16=> ?_
 refine am (aP rfl (bz rfl rfl rfl (fA rfl rfl rfl (ai (bI _ aa rfl) (ai (bp _ _ rfl rfl rfl) (aj (aO rfl (fun hc67=> ?_) (fun hc67=> ?_))))))))
 ·skip
  refine bB (hK16 _ ?_)
  clear hK16;try clear K16
  refine aq (au (am (bz rfl rfl rfl (fA rfl rfl rfl (aP rfl (ai (bi _ _ aa rfl rfl _ rfl ab (by (simp only [aZ,bq,bo,bG,bE,bM,bF];omega)) ag) ?_))))))
  refine ai (cp _ aa rfl (by exact cL _ _ ab) rfl) ?_
  refine ai (aF aa al (h j ab) rfl rfl) ?_
  refine ba rfl (aj (am (aP rfl (aP rfl (ai (cg _ _ rfl rfl rfl) (aj (aO rfl (fun hc78=> ?_) (fun hc78=> ?_))))))))
  ·skip
   have hr:=hr0 j ab ab
   refine aq ?_
   refine aN (σ':=aA 80 [] [] [] []) kp ?_
   refine an (ba rfl (aj (aE (aX (.inr rfl) rfl (.tmp (rfl:_=AV.v (.int _ _))) (Le.out [] [] (bY ?_) rfl rfl rfl trivial trivial)))))
   rw [hr];rfl
  ·skip
   have hall1: ∀ q,q < j+1→t q=1:=fun q hq=> by
    by_cases h:q < j
    ·exact hall q h
    ·obtain rfl:q=j:=by omega
     omega
   refine cf ?_
   refine aN (σ':=aA 80 [(1,_),(3,_),(4,_),(5,_)] [((1,0),_)] [] []) kp ?_
   refine an (aP rfl (ai (bc _ _ rfl rfl (be ab)) ?_))
   refine ba rfl (ax (⟨j+1,?_,?_,?_⟩))
   ·exact ⟨by omega,hall1⟩
   ·skip
    refine Le.mkJ [] [] rfl ?_ ?_ trivial trivial ?_
    ·exact ⟨(iP rfl),(iV rfl),(iV rfl),(bY ag),trivial⟩
    ·exact ⟨(ce rfl rfl rfl),trivial⟩
    ·kernel_rfl
   ·omega
 ·skip
  have hr:=hr1 fun q hq=> hall q ab
  refine bK (id (hK14 _ ?_))
  clear hK14;try clear K14
  refine am (aP rfl (ba rfl (aj (aE (aX (.inr rfl) rfl (.tmp (rfl:_=AV.v (.int _ _))) (Le.out [] [] (bY ?_) rfl rfl rfl trivial trivial))))))
  rw [hr];rfl
theorem CE (L:List Nd) (hL:L.length≤3) (t:Nat→Nat) (ht: ∀ j,t j≤2) (h: ∀ j,j < L.length→Spec Tryz.prog 203 (bj [mS (jQ L j)] []) (aT (.v (.int .i64 (t j:Int))) [])) (r:Nat) (hr1:(∀ j,j < L.length→t j=2)→r=2) (hr0: ∀ j,j < L.length→t j≠2→r=0):
  Spec Tryz.prog 203 (bj [.agg [.v (.int .i64 17), .v (.int .i64 0), .v (bt [33]), .sl L.length (kR L)]] []) (aT (.v (.int .i64 (r:Int))) []):=by
 refine Spec.ofN Tryz.func203 rfl Tryz.ntmps203 rfl ?_
 refine am (ai (bm (1,0) _ rfl rfl) (ba rfl (aj (aq (am (bz rfl rfl rfl (cI rfl rfl rfl (fa rfl rfl rfl (cM rfl (ay rfl rfl (aI _ aa rfl rfl rfl) ?_))))))))))
 refine ay rfl rfl (aM _ aa rfl rfl (rfl:_=some (AV.v (.int _ _)))) (ay rfl rfl (br (r:=false) _ _ rfl rfl rfl) (ai (aG _ _ _ rfl (rfl:_=AV.v (.bool _))) (cM rfl (ay rfl rfl (aI _ aa rfl rfl rfl) (ay rfl rfl (aM _ aa rfl rfl (rfl:_=some (AV.v (.int _ _)))) (ay rfl rfl (br (r:=false) _ _ rfl rfl rfl) (ai (aG _ _ _ rfl (rfl:_=AV.v (.bool _))) (aj (aS rfl rfl (aL ?_))))))))))
 refine aq (aq ?_)
 refine aN (σ':=aA 80 [(1,_)] [((1,0),_)] [] []) kp ?_
 refine an (bz rfl rfl rfl (cI rfl rfl rfl (fa rfl rfl rfl (aj (aS rfl rfl (aL (aq (am (bz rfl rfl rfl (cI rfl rfl rfl ?_))))))))))
 refine ai (cg (r:=true) _ _ rfl rfl rfl) (cM rfl (ay rfl rfl (aI _ aa rfl rfl rfl) (ay rfl rfl (aM _ aa rfl rfl (rfl:_=some (AV.v (.int _ _)))) (ay rfl rfl (cg (r:=false) _ _ rfl rfl rfl) (ai (aG _ _ _ rfl (rfl:_=AV.v (.bool _))) (cM rfl (aW rfl rfl ah ?_)))))))
 refine aW rfl rfl ah ?_
 refine aW rfl rfl ah ?_
 refine ai (aG _ _ _ rfl (rfl:_=AV.v (.bool _))) (aj (aS rfl rfl (aL (aq ?_))))
 refine aN (σ':=aA 80 [(1,_)] [((1,0),_)] [] []) kp ?_
 refine an (ba rfl (aj (am (ba rfl (aj (aq (am (bz rfl rfl rfl (cI rfl rfl rfl (jq rfl rfl rfl ?_))))))))))
 refine cM rfl (ay rfl rfl (aI _ aa rfl rfl rfl) (ay rfl rfl (aM _ aa rfl rfl (rfl:_=some (AV.v (.string _)))) (ay rfl rfl (aY (r:=true) _ _ Tryz.underlying9 rfl rfl rfl) (ai (aG _ _ _ rfl (rfl:_=AV.v (.bool _))) (cM rfl (aW rfl rfl ah ?_))))))
 refine aW rfl rfl ah ?_
 refine aW rfl rfl ah ?_
 refine aW rfl rfl ah ?_
 refine mY rfl rfl (mY rfl rfl (mY rfl rfl (mY rfl rfl (aW rfl rfl ah ?_))))
 refine ai (aG _ _ _ rfl (rfl:_=AV.v (.bool _))) (aj (bC rfl rfl (aq ?_)))
 refine aN (σ':=aA 80 [(1,_)] [((1,0),_)] [] []) kp ?_
 refine an (ba rfl (aj (an (ba rfl (aj (aq (am (bz rfl rfl rfl (cI rfl rfl rfl (fa rfl rfl rfl ?_))))))))))
 refine cM rfl (aW rfl rfl ah ?_)
 refine aW rfl rfl ah ?_
 refine aW rfl rfl ah ?_
 refine ai (aG _ _ _ rfl (rfl:_=AV.v (.bool _))) (aj (aS rfl rfl (aL (aH fun K15 hK15=> ?_))))
 refine am (ba rfl (aj (au ?_)))
 refine bD (α:=Nat) (fun j=> j≤L.length∧ ∀ q,q < j→t q=2) 80 [(1,_),(3,_),(4,_)] [((1,0),_)] (fun j=> [(5, .v (.int .i64 (j:Int)))]) (fun j=> []) [] [] (fun j=> L.length - j) 0 ?_ (by
  refine Le.mkJ [] [] rfl ?_ ?_ trivial trivial ?_
  ·exact ⟨(iP rfl),(iV rfl),(iV rfl),(bY ag),trivial⟩
  ·exact ⟨(ce rfl rfl rfl),trivial⟩
  ·kernel_rfl) ?_
 ·exact ⟨Nat.zero_le _,fun q hq=> by omega⟩
 intro j hj
 obtain ⟨hj,hall⟩:=hj
 have htj:=ht j
 refine aH fun K17 hK17=> ?_
 refine am (aP rfl (bz rfl rfl rfl (fA rfl rfl rfl (ai (bI _ aa rfl) (ai (bp _ _ rfl rfl rfl) (aj (aO rfl (fun hc67=> ?_) (fun hc67=> ?_))))))))
 ·skip
  refine bB (hK17 _ ?_)
  clear hK17;try clear K17
  refine aq (au (am (bz rfl rfl rfl (fA rfl rfl rfl (aP rfl (ai (bi _ _ aa rfl rfl _ rfl ab (by (simp only [aZ,bq,bo,bG,bE,bM,bF];omega)) ag) ?_))))))
  refine ai (cp _ aa rfl (by exact cL _ _ ab) rfl) ?_
  refine ai (aF aa al (h j ab) rfl rfl) ?_
  refine ba rfl (aj (am (aP rfl (aP rfl (ai (cg _ _ rfl rfl rfl) (aj (aO rfl (fun hc78=> ?_) (fun hc78=> ?_))))))))
  ·skip
   have hr:=hr0 j ab ab
   refine aq ?_
   refine aN (σ':=aA 80 [] [] [] []) kp ?_
   refine an (ba rfl (aj (aE (aX (.inr rfl) rfl (.tmp (rfl:_=AV.v (.int _ _))) (Le.out [] [] (bY ?_) rfl rfl rfl trivial trivial)))))
   rw [hr];rfl
  ·skip
   have hall1: ∀ q,q < j+1→t q=2:=fun q hq=> by
    by_cases h:q < j
    ·exact hall q h
    ·obtain rfl:q=j:=by omega
     omega
   refine cf ?_
   refine aN (σ':=aA 80 [(1,_),(3,_),(4,_),(5,_)] [((1,0),_)] [] []) kp ?_
   refine an (aP rfl (ai (bc _ _ rfl rfl (be ab)) ?_))
   refine ba rfl (ax (⟨j+1,?_,?_,?_⟩))
   ·exact ⟨by omega,hall1⟩
   ·skip
    refine Le.mkJ [] [] rfl ?_ ?_ trivial trivial ?_
    ·exact ⟨(iP rfl),(iV rfl),(iV rfl),(bY ag),trivial⟩
    ·exact ⟨(ce rfl rfl rfl),trivial⟩
    ·kernel_rfl
   ·omega
 ·skip
  have hr:=hr1 fun q hq=> hall q ab
  refine bK (id (hK15 _ ?_))
  clear hK15;try clear K15
  refine am (aP rfl (ba rfl (aj (aE (aX (.inr rfl) rfl (.tmp (rfl:_=AV.v (.int _ _))) (Le.out [] [] (bY ?_) rfl rfl rfl trivial trivial))))))
  rw [hr];rfl
theorem sd (s:Tx) (hs1:s∈[[38,38],[124,124]]) (hs2:s∉vM) (L:List Nd) (hL:L.length≤3) (t:Nat→Nat) (ht: ∀ j,t j≤2) (h: ∀ j,j < L.length→Spec Tryz.prog 203 (bj [mS (jQ L j)] []) (aT (.v (.int .i64 (t j:Int))) [])) (r:Nat) (hr1:(∀ j,j < L.length→t j=2)→r=2) (hr0: ∀ j,j < L.length→t j≠2→r=0):
  Spec Tryz.prog 203 (bj [.agg [.v (.int .i64 18), .v (.int .i64 0), .v (bt s), .sl L.length (kR L)]] []) (aT (.v (.int .i64 (r:Int))) []):=by
 refine Spec.ofN Tryz.func203 rfl Tryz.ntmps203 rfl ?_
 refine am (ai (bm (1,0) _ rfl rfl) (ba rfl (aj (aq (am (bz rfl rfl rfl (cI rfl rfl rfl (fa rfl rfl rfl (cM rfl (ay rfl rfl (aI _ aa rfl rfl rfl) ?_))))))))))
 refine ay rfl rfl (aM _ aa rfl rfl (rfl:_=some (AV.v (.int _ _)))) (ay rfl rfl (br (r:=false) _ _ rfl rfl rfl) (ai (aG _ _ _ rfl (rfl:_=AV.v (.bool _))) (cM rfl (ay rfl rfl (aI _ aa rfl rfl rfl) (ay rfl rfl (aM _ aa rfl rfl (rfl:_=some (AV.v (.int _ _)))) (ay rfl rfl (br (r:=false) _ _ rfl rfl rfl) (ai (aG _ _ _ rfl (rfl:_=AV.v (.bool _))) (aj (aS rfl rfl (aL ?_))))))))))
 refine aq (aq ?_)
 refine aN (σ':=aA 80 [(1,_)] [((1,0),_)] [] []) kp ?_
 refine an (bz rfl rfl rfl (cI rfl rfl rfl (fa rfl rfl rfl (aj (aS rfl rfl (aL (aq (am (bz rfl rfl rfl (cI rfl rfl rfl ?_))))))))))
 refine ai (cg (r:=true) _ _ rfl rfl rfl) (cM rfl (ay rfl rfl (aI _ aa rfl rfl rfl) (ay rfl rfl (aM _ aa rfl rfl (rfl:_=some (AV.v (.int _ _)))) (ay rfl rfl (cg (r:=true) _ _ rfl rfl rfl) (ai (aG _ _ _ rfl (rfl:_=AV.v (.bool _))) (cM rfl (ay rfl rfl (aI _ aa rfl rfl rfl) (ay rfl rfl (aM _ aa rfl rfl (rfl:_=some (AV.v (.int _ _)))) (ay rfl rfl (cg (r:=false) _ _ rfl rfl rfl) (ai (aG _ _ _ rfl (rfl:_=AV.v (.bool _))) ?_))))))))))
 refine aj (aS rfl rfl (aL (aq ?_)))
 refine aN (σ':=aA 80 [(1,_)] [((1,0),_)] [] []) kp ?_
 refine an (ba rfl (aj (am (ba rfl (aj (aq (am (bz rfl rfl rfl (cI rfl rfl rfl (fa rfl rfl rfl ?_))))))))))
 refine cM rfl (aW rfl rfl ah ?_)
 refine aW rfl rfl ah ?_
 refine aW rfl rfl ah ?_
 refine ai (aG _ _ _ rfl (rfl:_=AV.v (.bool _))) (cM rfl (ay rfl rfl (aI _ aa rfl rfl rfl) (ay rfl rfl (aM _ aa rfl rfl (rfl:_=some (AV.v (.int _ _)))) (ay rfl rfl (br (r:=true) _ _ rfl rfl rfl) (ay rfl rfl (aC _ (rfl:_=AV.v (.bool _))) (ay rfl rfl (aU _ _ aa rfl ag (by (simp <;> rfl)) ah rfl) ?_))))))
 refine ay rfl rfl (aI _ aa rfl rfl rfl) (ay rfl rfl (aM _ aa rfl rfl (rfl:_=some (AV.v (.string _)))) (ay rfl rfl (aF aa al (fV [[38,38],[124,124]] 2 rfl ab s) rfl rfl) ?_))
 refine ay rfl rfl (aG _ _ _ rfl (rfl:_=AV.v (.bool _))) (ai (aG _ _ _ rfl (rfl:_=AV.v (.bool _))) (aj (bC rfl (decide_eq_true hs1) ?_)))
 refine aq ?_
 refine aN (σ':=aA 80 [(1,_)] [((1,0),_)] [] []) kp ?_
 refine an (ba rfl (aj (an (ba rfl (aj (aq (am (bz rfl rfl rfl (cI rfl rfl rfl (jq rfl rfl rfl ?_))))))))))
 refine cM rfl (ay rfl rfl (aI _ aa rfl rfl rfl) (ay rfl rfl (aM _ aa rfl rfl (rfl:_=some (AV.v (.string _)))) (ay rfl rfl (aF aa al (ls s) rfl rfl) ?_)))
 refine ai (aG _ _ _ rfl (rfl:_=AV.v (.bool _))) (aj (aS rfl (decide_eq_false hs2) ?_))
 refine aL (aH fun K15 hK15=> ?_)
 refine am (ba rfl (aj (au ?_)))
 refine bD (α:=Nat) (fun j=> j≤L.length∧ ∀ q,q < j→t q=2) 80 [(1,_),(3,_),(4,_)] [((1,0),_)] (fun j=> [(5, .v (.int .i64 (j:Int)))]) (fun j=> []) [] [] (fun j=> L.length - j) 0 ?_ (by
  refine Le.mkJ [] [] rfl ?_ ?_ trivial trivial ?_
  ·exact ⟨(iP rfl),(iV rfl),(iV rfl),(bY ag),trivial⟩
  ·exact ⟨(ce rfl rfl rfl),trivial⟩
  ·kernel_rfl) ?_
 ·exact ⟨Nat.zero_le _,fun q hq=> by omega⟩
 intro j hj
 obtain ⟨hj,hall⟩:=hj
 have htj:=ht j
 refine aH fun K17 hK17=> ?_
 refine am (aP rfl (bz rfl rfl rfl (fA rfl rfl rfl (ai (bI _ aa rfl) (ai (bp _ _ rfl rfl rfl) (aj (aO rfl (fun hc67=> ?_) (fun hc67=> ?_))))))))
 ·skip
  refine bB (hK17 _ ?_)
  clear hK17;try clear K17
  refine aq (au (am (bz rfl rfl rfl (fA rfl rfl rfl (aP rfl (ai (bi _ _ aa rfl rfl _ rfl ab (by (simp only [aZ,bq,bo,bG,bE,bM,bF];omega)) ag) ?_))))))
  refine ai (cp _ aa rfl (by exact cL _ _ ab) rfl) ?_
  refine ai (aF aa al (h j ab) rfl rfl) ?_
  refine ba rfl (aj (am (aP rfl (aP rfl (ai (cg _ _ rfl rfl rfl) (aj (aO rfl (fun hc78=> ?_) (fun hc78=> ?_))))))))
  ·skip
   have hr:=hr0 j ab ab
   refine aq ?_
   refine aN (σ':=aA 80 [] [] [] []) kp ?_
   refine an (ba rfl (aj (aE (aX (.inr rfl) rfl (.tmp (rfl:_=AV.v (.int _ _))) (Le.out [] [] (bY ?_) rfl rfl rfl trivial trivial)))))
   rw [hr];rfl
  ·skip
   have hall1: ∀ q,q < j+1→t q=2:=fun q hq=> by
    by_cases h:q < j
    ·exact hall q h
    ·obtain rfl:q=j:=by omega
     omega
   refine cf ?_
   refine aN (σ':=aA 80 [(1,_),(3,_),(4,_),(5,_)] [((1,0),_)] [] []) kp ?_
   refine an (aP rfl (ai (bc _ _ rfl rfl (be ab)) ?_))
   refine ba rfl (ax (⟨j+1,?_,?_,?_⟩))
   ·exact ⟨by omega,hall1⟩
   ·skip
    refine Le.mkJ [] [] rfl ?_ ?_ trivial trivial ?_
    ·exact ⟨(iP rfl),(iV rfl),(iV rfl),(bY ag),trivial⟩
    ·exact ⟨(ce rfl rfl rfl),trivial⟩
    ·kernel_rfl
   ·omega
 ·skip
  have hr:=hr1 fun q hq=> hall q ab
  refine bK (id (hK15 _ ?_))
  clear hK15;try clear K15
  refine am (aP rfl (ba rfl (aj (aE (aX (.inr rfl) rfl (.tmp (rfl:_=AV.v (.int _ _))) (Le.out [] [] (bY ?_) rfl rfl rfl trivial trivial))))))
  rw [hr];rfl
theorem DA (s:Tx) (hs1:s∉[[38,38],[124,124]]) (hs2:s∈vM) (L:List Nd) (hL:L.length≤3) (t:Nat→Nat) (ht: ∀ j,t j≤2) (h: ∀ j,j < L.length→Spec Tryz.prog 203 (bj [mS (jQ L j)] []) (aT (.v (.int .i64 (t j:Int))) [])) (r:Nat) (hr1:(∀ j,j < L.length→t j=1)→r=2) (hr0: ∀ j,j < L.length→t j≠1→r=0):
  Spec Tryz.prog 203 (bj [.agg [.v (.int .i64 18), .v (.int .i64 0), .v (bt s), .sl L.length (kR L)]] []) (aT (.v (.int .i64 (r:Int))) []):=by
 refine Spec.ofN Tryz.func203 rfl Tryz.ntmps203 rfl ?_
 refine am (ai (bm (1,0) _ rfl rfl) (ba rfl (aj (aq (am (bz rfl rfl rfl (cI rfl rfl rfl (fa rfl rfl rfl (cM rfl (ay rfl rfl (aI _ aa rfl rfl rfl) ?_))))))))))
 refine ay rfl rfl (aM _ aa rfl rfl (rfl:_=some (AV.v (.int _ _)))) (ay rfl rfl (br (r:=false) _ _ rfl rfl rfl) (ai (aG _ _ _ rfl (rfl:_=AV.v (.bool _))) (cM rfl (ay rfl rfl (aI _ aa rfl rfl rfl) (ay rfl rfl (aM _ aa rfl rfl (rfl:_=some (AV.v (.int _ _)))) (ay rfl rfl (br (r:=false) _ _ rfl rfl rfl) (ai (aG _ _ _ rfl (rfl:_=AV.v (.bool _))) (aj (aS rfl rfl (aL ?_))))))))))
 refine aq (aq ?_)
 refine aN (σ':=aA 80 [(1,_)] [((1,0),_)] [] []) kp ?_
 refine an (bz rfl rfl rfl (cI rfl rfl rfl (fa rfl rfl rfl (aj (aS rfl rfl (aL (aq (am (bz rfl rfl rfl (cI rfl rfl rfl ?_))))))))))
 refine ai (cg (r:=true) _ _ rfl rfl rfl) (cM rfl (ay rfl rfl (aI _ aa rfl rfl rfl) (ay rfl rfl (aM _ aa rfl rfl (rfl:_=some (AV.v (.int _ _)))) (ay rfl rfl (cg (r:=true) _ _ rfl rfl rfl) (ai (aG _ _ _ rfl (rfl:_=AV.v (.bool _))) (cM rfl (ay rfl rfl (aI _ aa rfl rfl rfl) (ay rfl rfl (aM _ aa rfl rfl (rfl:_=some (AV.v (.int _ _)))) (ay rfl rfl (cg (r:=false) _ _ rfl rfl rfl) (ai (aG _ _ _ rfl (rfl:_=AV.v (.bool _))) ?_))))))))))
 refine aj (aS rfl rfl (aL (aq ?_)))
 refine aN (σ':=aA 80 [(1,_)] [((1,0),_)] [] []) kp ?_
 refine an (ba rfl (aj (am (ba rfl (aj (aq (am (bz rfl rfl rfl (cI rfl rfl rfl (fa rfl rfl rfl ?_))))))))))
 refine cM rfl (aW rfl rfl ah ?_)
 refine aW rfl rfl ah ?_
 refine aW rfl rfl ah ?_
 refine ai (aG _ _ _ rfl (rfl:_=AV.v (.bool _))) (cM rfl (ay rfl rfl (aI _ aa rfl rfl rfl) (ay rfl rfl (aM _ aa rfl rfl (rfl:_=some (AV.v (.int _ _)))) (ay rfl rfl (br (r:=true) _ _ rfl rfl rfl) (ay rfl rfl (aC _ (rfl:_=AV.v (.bool _))) (ay rfl rfl (aU _ _ aa rfl ag (by (simp <;> rfl)) ah rfl) ?_))))))
 refine ay rfl rfl (aI _ aa rfl rfl rfl) (ay rfl rfl (aM _ aa rfl rfl (rfl:_=some (AV.v (.string _)))) (ay rfl rfl (aF aa al (fV [[38,38],[124,124]] 2 rfl ab s) rfl rfl) ?_))
 refine ay rfl rfl (aG _ _ _ rfl (rfl:_=AV.v (.bool _))) (ai (aG _ _ _ rfl (rfl:_=AV.v (.bool _))) (aj (aS rfl (decide_eq_false hs1) ?_)))
 refine aL (aq (aq ?_))
 refine aN (σ':=aA 80 [(1,_),(3,_),(4,_)] [((1,0),_)] [] []) kp ?_
 refine an (bz rfl rfl rfl (cI rfl rfl rfl (jq rfl rfl rfl (cM rfl (ay rfl rfl (aI _ aa rfl rfl rfl) (ay rfl rfl (aM _ aa rfl rfl (rfl:_=some (AV.v (.string _)))) (ay rfl rfl (aF aa al (ls s) rfl rfl) ?_)))))))
 refine ai (aG _ _ _ rfl (rfl:_=AV.v (.bool _))) (aj (bC rfl (decide_eq_true hs2) ?_))
 refine an (ba rfl (aj (aH fun K14 hK14=> ?_)))
 refine am (ba rfl (aj (au ?_)))
 refine bD (α:=Nat) (fun j=> j≤L.length∧ ∀ q,q < j→t q=1) 80 [(1,_),(3,_),(4,_)] [((1,0),_)] (fun j=> [(5, .v (.int .i64 (j:Int)))]) (fun j=> []) [] [] (fun j=> L.length - j) 0 ?_ (by
  refine Le.mkJ [] [] rfl ?_ ?_ trivial trivial ?_
  ·exact ⟨(iP rfl),(iV rfl),(iV rfl),(bY ag),trivial⟩
  ·exact ⟨(ce rfl rfl rfl),trivial⟩
  ·kernel_rfl) ?_
 ·exact ⟨Nat.zero_le _,fun q hq=> by omega⟩
 intro j hj
 obtain ⟨hj,hall⟩:=hj
 have htj:=ht j
 refine aH fun K16 hK16=> ?_
 refine am (aP rfl (bz rfl rfl rfl (fA rfl rfl rfl (ai (bI _ aa rfl) (ai (bp _ _ rfl rfl rfl) (aj (aO rfl (fun hc67=> ?_) (fun hc67=> ?_))))))))
 ·skip
  refine bB (hK16 _ ?_)
  clear hK16;try clear K16
  refine aq (au (am (bz rfl rfl rfl (fA rfl rfl rfl (aP rfl (ai (bi _ _ aa rfl rfl _ rfl ab (by (simp only [aZ,bq,bo,bG,bE,bM,bF];omega)) ag) ?_))))))
  refine ai (cp _ aa rfl (by exact cL _ _ ab) rfl) ?_
  refine ai (aF aa al (h j ab) rfl rfl) ?_
  refine ba rfl (aj (am (aP rfl (aP rfl (ai (cg _ _ rfl rfl rfl) (aj (aO rfl (fun hc78=> ?_) (fun hc78=> ?_))))))))
  ·skip
   have hr:=hr0 j ab ab
   refine aq ?_
   refine aN (σ':=aA 80 [] [] [] []) kp ?_
   refine an (ba rfl (aj (aE (aX (.inr rfl) rfl (.tmp (rfl:_=AV.v (.int _ _))) (Le.out [] [] (bY ?_) rfl rfl rfl trivial trivial)))))
   rw [hr];rfl
  ·skip
   have hall1: ∀ q,q < j+1→t q=1:=fun q hq=> by
    by_cases h:q < j
    ·exact hall q h
    ·obtain rfl:q=j:=by omega
     omega
   refine cf ?_
   refine aN (σ':=aA 80 [(1,_),(3,_),(4,_),(5,_)] [((1,0),_)] [] []) kp ?_
   refine an (aP rfl (ai (bc _ _ rfl rfl (be ab)) ?_))
   refine ba rfl (ax (⟨j+1,?_,?_,?_⟩))
   ·exact ⟨by omega,hall1⟩
   ·skip
    refine Le.mkJ [] [] rfl ?_ ?_ trivial trivial ?_
    ·exact ⟨(iP rfl),(iV rfl),(iV rfl),(bY ag),trivial⟩
    ·exact ⟨(ce rfl rfl rfl),trivial⟩
    ·kernel_rfl
   ·omega
 ·skip
  have hr:=hr1 fun q hq=> hall q ab
  refine bK (id (hK14 _ ?_))
  clear hK14;try clear K14
  refine am (aP rfl (ba rfl (aj (aE (aX (.inr rfl) rfl (.tmp (rfl:_=AV.v (.int _ _))) (Le.out [] [] (bY ?_) rfl rfl rfl trivial trivial))))))
  rw [hr];rfl
theorem wX (s:Tx) (hs1:s∉[[38,38],[124,124]]) (hs2:s∉vM) (L:List Nd) (hL:L.length≤3) (t:Nat→Nat) (ht: ∀ j,t j≤2) (h: ∀ j,j < L.length→Spec Tryz.prog 203 (bj [mS (jQ L j)] []) (aT (.v (.int .i64 (t j:Int))) [])) (r:Nat) (hr1:(∀ j,j < L.length→t j=1)→r=1) (hr0: ∀ j,j < L.length→t j≠1→r=0):
  Spec Tryz.prog 203 (bj [.agg [.v (.int .i64 18), .v (.int .i64 0), .v (bt s), .sl L.length (kR L)]] []) (aT (.v (.int .i64 (r:Int))) []):=by
 refine Spec.ofN Tryz.func203 rfl Tryz.ntmps203 rfl ?_
 refine am (ai (bm (1,0) _ rfl rfl) (ba rfl (aj (aq (am (bz rfl rfl rfl (cI rfl rfl rfl (fa rfl rfl rfl (cM rfl (ay rfl rfl (aI _ aa rfl rfl rfl) ?_))))))))))
 refine ay rfl rfl (aM _ aa rfl rfl (rfl:_=some (AV.v (.int _ _)))) (ay rfl rfl (br (r:=false) _ _ rfl rfl rfl) (ai (aG _ _ _ rfl (rfl:_=AV.v (.bool _))) (cM rfl (ay rfl rfl (aI _ aa rfl rfl rfl) (ay rfl rfl (aM _ aa rfl rfl (rfl:_=some (AV.v (.int _ _)))) (ay rfl rfl (br (r:=false) _ _ rfl rfl rfl) (ai (aG _ _ _ rfl (rfl:_=AV.v (.bool _))) (aj (aS rfl rfl (aL ?_))))))))))
 refine aq (aq ?_)
 refine aN (σ':=aA 80 [(1,_)] [((1,0),_)] [] []) kp ?_
 refine an (bz rfl rfl rfl (cI rfl rfl rfl (fa rfl rfl rfl (aj (aS rfl rfl (aL (aq (am (bz rfl rfl rfl (cI rfl rfl rfl ?_))))))))))
 refine ai (cg (r:=true) _ _ rfl rfl rfl) (cM rfl (ay rfl rfl (aI _ aa rfl rfl rfl) (ay rfl rfl (aM _ aa rfl rfl (rfl:_=some (AV.v (.int _ _)))) (ay rfl rfl (cg (r:=true) _ _ rfl rfl rfl) (ai (aG _ _ _ rfl (rfl:_=AV.v (.bool _))) (cM rfl (ay rfl rfl (aI _ aa rfl rfl rfl) (ay rfl rfl (aM _ aa rfl rfl (rfl:_=some (AV.v (.int _ _)))) (ay rfl rfl (cg (r:=false) _ _ rfl rfl rfl) (ai (aG _ _ _ rfl (rfl:_=AV.v (.bool _))) ?_))))))))))
 refine aj (aS rfl rfl (aL (aq ?_)))
 refine aN (σ':=aA 80 [(1,_)] [((1,0),_)] [] []) kp ?_
 refine an (ba rfl (aj (am (ba rfl (aj (aq (am (bz rfl rfl rfl (cI rfl rfl rfl (fa rfl rfl rfl ?_))))))))))
 refine cM rfl (aW rfl rfl ah ?_)
 refine aW rfl rfl ah ?_
 refine aW rfl rfl ah ?_
 refine ai (aG _ _ _ rfl (rfl:_=AV.v (.bool _))) (cM rfl (ay rfl rfl (aI _ aa rfl rfl rfl) (ay rfl rfl (aM _ aa rfl rfl (rfl:_=some (AV.v (.int _ _)))) (ay rfl rfl (br (r:=true) _ _ rfl rfl rfl) (ay rfl rfl (aC _ (rfl:_=AV.v (.bool _))) (ay rfl rfl (aU _ _ aa rfl ag (by (simp <;> rfl)) ah rfl) ?_))))))
 refine ay rfl rfl (aI _ aa rfl rfl rfl) (ay rfl rfl (aM _ aa rfl rfl (rfl:_=some (AV.v (.string _)))) (ay rfl rfl (aF aa al (fV [[38,38],[124,124]] 2 rfl ab s) rfl rfl) ?_))
 refine ay rfl rfl (aG _ _ _ rfl (rfl:_=AV.v (.bool _))) (ai (aG _ _ _ rfl (rfl:_=AV.v (.bool _))) (aj (aS rfl (decide_eq_false hs1) ?_)))
 refine aL (aq (aq ?_))
 refine aN (σ':=aA 80 [(1,_),(3,_),(4,_)] [((1,0),_)] [] []) kp ?_
 refine an (bz rfl rfl rfl (cI rfl rfl rfl (jq rfl rfl rfl (cM rfl (ay rfl rfl (aI _ aa rfl rfl rfl) (ay rfl rfl (aM _ aa rfl rfl (rfl:_=some (AV.v (.string _)))) (ay rfl rfl (aF aa al (ls s) rfl rfl) ?_)))))))
 refine ai (aG _ _ _ rfl (rfl:_=AV.v (.bool _))) (aj (aS rfl (decide_eq_false hs2) ?_))
 refine aL (aH fun K14 hK14=> ?_)
 refine am (ba rfl (aj (au ?_)))
 refine bD (α:=Nat) (fun j=> j≤L.length∧ ∀ q,q < j→t q=1) 80 [(1,_),(3,_),(4,_)] [((1,0),_)] (fun j=> [(5, .v (.int .i64 (j:Int)))]) (fun j=> []) [] [] (fun j=> L.length - j) 0 ?_ (by
  refine Le.mkJ [] [] rfl ?_ ?_ trivial trivial ?_
  ·exact ⟨(iP rfl),(iV rfl),(iV rfl),(bY ag),trivial⟩
  ·exact ⟨(ce rfl rfl rfl),trivial⟩
  ·kernel_rfl) ?_
 ·exact ⟨Nat.zero_le _,fun q hq=> by omega⟩
 intro j hj
 obtain ⟨hj,hall⟩:=hj
 have htj:=ht j
 refine aH fun K16 hK16=> ?_
 refine am (aP rfl (bz rfl rfl rfl (fA rfl rfl rfl (ai (bI _ aa rfl) (ai (bp _ _ rfl rfl rfl) (aj (aO rfl (fun hc67=> ?_) (fun hc67=> ?_))))))))
 ·skip
  refine bB (hK16 _ ?_)
  clear hK16;try clear K16
  refine aq (au (am (bz rfl rfl rfl (fA rfl rfl rfl (aP rfl (ai (bi _ _ aa rfl rfl _ rfl ab (by (simp only [aZ,bq,bo,bG,bE,bM,bF];omega)) ag) ?_))))))
  refine ai (cp _ aa rfl (by exact cL _ _ ab) rfl) ?_
  refine ai (aF aa al (h j ab) rfl rfl) ?_
  refine ba rfl (aj (am (aP rfl (aP rfl (ai (cg _ _ rfl rfl rfl) (aj (aO rfl (fun hc78=> ?_) (fun hc78=> ?_))))))))
  ·skip
   have hr:=hr0 j ab ab
   refine aq ?_
   refine aN (σ':=aA 80 [] [] [] []) kp ?_
   refine an (ba rfl (aj (aE (aX (.inr rfl) rfl (.tmp (rfl:_=AV.v (.int _ _))) (Le.out [] [] (bY ?_) rfl rfl rfl trivial trivial)))))
   rw [hr];rfl
  ·skip
   have hall1: ∀ q,q < j+1→t q=1:=fun q hq=> by
    by_cases h:q < j
    ·exact hall q h
    ·obtain rfl:q=j:=by omega
     omega
   refine cf ?_
   refine aN (σ':=aA 80 [(1,_),(3,_),(4,_),(5,_)] [((1,0),_)] [] []) kp ?_
   refine an (aP rfl (ai (bc _ _ rfl rfl (be ab)) ?_))
   refine ba rfl (ax (⟨j+1,?_,?_,?_⟩))
   ·exact ⟨by omega,hall1⟩
   ·skip
    refine Le.mkJ [] [] rfl ?_ ?_ trivial trivial ?_
    ·exact ⟨(iP rfl),(iV rfl),(iV rfl),(bY ag),trivial⟩
    ·exact ⟨(ce rfl rfl rfl),trivial⟩
    ·kernel_rfl
   ·omega
 ·skip
  have hr:=hr1 fun q hq=> hall q ab
  refine bK (id (hK14 _ ?_))
  clear hK14;try clear K14
  refine am (aP rfl (ba rfl (aj (aE (aX (.inr rfl) rfl (.tmp (rfl:_=AV.v (.int _ _))) (Le.out [] [] (bY ?_) rfl rfl rfl trivial trivial))))))
  rw [hr];rfl

theorem nE: ∀ e,fe e≤2
 | .int _=> by simp [fe] | .bool _=> by simp [fe] | .var _=> by simp [fe] | .name _=> by simp [fe]
 | .draw e=> by simp only [fe];split <;> omega
 | .neg e=> by simp only [fe];split <;> omega
 | .not e=> by simp only [fe];split <;> omega
 | .bin o a b=> by cases o <;> simp only [fe] <;> split <;> omega
 | .and a b=> by simp only [fe];split <;> omega
 | .or a b=> by simp only [fe];split <;> omega
def rm (a b:Ex) (j:Nat):Nat:=if j=0 then fe a else fe b
theorem nn (a b:Ex) (j:Nat):rm a b j≤2:=by unfold rm;split <;> exact nE _
theorem nr {a b:Ex} {op j:Nat} (hj:j < 2) (h:rm a b j≠op): ¬ (fe a=op∧fe b=op):=fun e=> by
 have:j=0∨j=1:=by omega
 rcases this with rfl | rfl
 ·exact h e.1
 ·exact h e.2
theorem qZ (o:Bo):o.txt∉([[38,38],[124,124]]:List Tx):=by cases o <;> decide
def Hf:Bo→Nat | .add=> 1 | .sub=> 1 | .mul=> 1 | .div=> 1 | _=> 2
abbrev tL (d:Nd) (t:Nat):Prop:=Spec Tryz.prog 203 (bj [mS d] []) (aT (.v (.int .i64 (t:Int))) [])
theorem qR {d:Nd} {t:Nat} (h:tL d t): ∀ j,j < [d].length→tL (jQ [d] j) t:=fun j hj=> by
 have:j=0:=by simpa using hj
 subst this
 exact h
theorem oe {d e:Nd} {a b:Ex} (h1:tL d (fe a)) (h2:tL e (fe b)): ∀ j,j < [d,e].length→tL (jQ [d,e] j) (rm a b j):=fun j hj=> by
 have hj:j < 2:=hj
 have:j=0∨j=1:=by omega
 rcases this with rfl | rfl
 ·exact h1
 ·exact h2
theorem eb (nm:List Tx): ∀ e:Ex,tL (dW nm e) (fe e)
 | .int n=> CT n.toNat
 | .bool b=> AM (if b then 1 else 0)
 | .var i=> Cy (nm.getD i [])
 | .name k=> AY (bltT.getD k [])
 | .draw e=> Ai [dW nm e] (by simp) (fun _=> fe e) (fun _=> nE e) (qR (eb nm e)) _ (fun h=> if_pos (h 0 (by simp))) (fun _ _ h=> if_neg h)
 | .neg e=> Dt [dW nm e] (by simp) (fun _=> fe e) (fun _=> nE e) (qR (eb nm e)) _ (fun h=> if_pos (h 0 (by simp))) (fun _ _ h=> if_neg h)
 | .not e=> CE [dW nm e] (by simp) (fun _=> fe e) (fun _=> nE e) (qR (eb nm e)) _ (fun h=> if_pos (h 0 (by simp))) (fun _ _ h=> if_neg h)
 | .and a b=> sd [38,38] ah ah [dW nm a,dW nm b] (by simp) (rm a b) (nn a b) (oe (eb nm a) (eb nm b)) _ (fun h=> if_pos ⟨h 0 (by simp),h 1 (by simp)⟩) (fun _ hj h=> if_neg (nr hj h))
 | .or a b=> sd [124,124] ah ah [dW nm a,dW nm b] (by simp) (rm a b) (nn a b) (oe (eb nm a) (eb nm b)) _ (fun h=> if_pos ⟨h 0 (by simp),h 1 (by simp)⟩) (fun _ hj h=> if_neg (nr hj h))
 | .bin o a b=> by
  have hty:fe (.bin o a b)=if fe a=1∧fe b=1 then Hf o else 0:=by cases o <;> rfl
  have hk:=oe (eb nm a) (eb nm b)
  by_cases ho:o.txt∈vM
  ·have h2:Hf o=2:=by cases o <;> first | rfl | (exact absurd ho ah)
   rw [h2] at hty
   exact DA o.txt (qZ o) ho [dW nm a,dW nm b] (by simp) (rm a b) (nn a b) hk _ (fun h=> hty.trans (if_pos ⟨h 0 (by simp),h 1 (by simp)⟩)) (fun _ hj h=> hty.trans (if_neg (nr hj h)))
  ·have h2:Hf o=1:=by cases o <;> first | rfl | (exact absurd ah ho)
   rw [h2] at hty
   exact wX o.txt (qZ o) ho [dW nm a,dW nm b] (by simp) (rm a b) (nn a b) hk _ (fun h=> hty.trans (if_pos ⟨h 0 (by simp),h 1 (by simp)⟩)) (fun _ hj h=> hty.trans (if_neg (nr hj h)))
theorem jv (n:Int) (s:Tx) (L:List Nd) (h: ∀ j,j < L.length→Spec Tryz.prog 166 (bj [mS (jQ L j)] []) (aT (.v (.bool true)) [])):
  Spec Tryz.prog 166 (bj [.agg [.v (.int .i64 11), .v (.int .i64 n), .v (bt s), .sl L.length (kR L)]] []) (aT (.v (.bool true)) []):=by
 refine Spec.ofN Tryz.func166 rfl Tryz.ntmps166 rfl ?_
 refine aq ?_
 refine kh 0 3 rfl rfl rfl fun hlen=> ?_
 unfold maxLen at hlen
 refine an (ai (bm (1,0) _ rfl rfl) (ci rfl (aj (aq (am (bz rfl rfl rfl (cI rfl rfl rfl (jq rfl rfl rfl (aj (bC rfl rfl ?_))))))))))
 refine aH fun K4 hK4=> ?_
 refine am (ba rfl (aj (au ?_)))
 refine bD (α:=Nat) (fun j=> j≤L.length) 73 [(1,_)] [((1,0),_)] (fun j=> [(3, .v (.int .i64 (j:Int)))]) (fun j=> []) [] [] (fun j=> L.length - j) 0 ?_ (by
  refine Le.mkJ [] [] rfl ?_ ?_ trivial trivial ?_
  ·exact ⟨(iP rfl),(bY ag),trivial⟩
  ·exact ⟨(ce rfl rfl rfl),trivial⟩
  ·kernel_rfl) ?_
 ·omega
 intro j hj
 refine aH fun K6 hK6=> ?_
 refine am (aP rfl (bz rfl rfl rfl (fA rfl rfl rfl (ai (bI _ aa rfl) (ai (bp _ _ rfl rfl rfl) (aj (aO rfl (fun hc17=> ?_) (fun hc17=> ?_))))))))
 ·skip
  refine bB (hK6 _ ?_)
  clear hK6;try clear K6
  refine aq (au (am (bz rfl rfl rfl (fA rfl rfl rfl (aP rfl (ai (bi _ _ aa rfl rfl _ rfl ab (by (simp only [aZ,bq,bo,bG,bE,bM,bF];omega)) ag) ?_))))))
  refine ai (cp _ aa rfl (by exact cL _ _ ab) rfl) ?_
  refine ai (aF aa al (h j ab) rfl rfl) ?_
  refine ci rfl (aj (am (cM rfl (ai (da (r:=false) _ rfl rfl) (aj (aS rfl rfl (cf (an (aP rfl (ai (bc _ _ rfl rfl (be ab)) ?_))))))))))
  refine ba rfl (ax (⟨j+1,?_,?_,?_⟩))
  ·omega
  ·skip
   refine Le.mkJ [] [] rfl ?_ ?_ trivial trivial ?_
   ·exact ⟨(iP rfl),(bY ag),trivial⟩
   ·exact ⟨(ce rfl rfl rfl),trivial⟩
   ·kernel_rfl
  ·omega
 ·skip
  refine bK (id (hK4 _ ?_))
  clear hK4;try clear K4
  refine am (ci rfl (aj (aE (aX (.inr rfl) rfl (.tmp (rfl:_=AV.v (.bool _))) (Le.out [] [] (hG ?_) rfl rfl rfl trivial trivial)))))
  rfl
theorem pv (k:Nat) (hk:k=2∨k=3) (n:Int) (s:Tx) (L:List Nd) (hL:0 < L.length) (ht:Spec Tryz.prog 203 (bj [mS (jQ L 0)] []) (aT (.v (.int .i64 2)) [])) (h: ∀ j,1≤j→j < L.length→Spec Tryz.prog 166 (bj [mS (jQ L j)] []) (aT (.v (.bool true)) [])):
  Spec Tryz.prog 166 (bj [.agg [.v (.int .i64 (k:Int)), .v (.int .i64 n), .v (bt s), .sl L.length (kR L)]] []) (aT (.v (.bool true)) []):=by
 refine Spec.ofN Tryz.func166 rfl Tryz.ntmps166 rfl ?_
 refine aq ?_
 refine kh 0 3 rfl rfl rfl fun hlen=> ?_
 unfold maxLen at hlen
 refine an (ai (bm (1,0) _ rfl rfl) (ci rfl (aj (aq (am (bz rfl rfl rfl (cI rfl rfl rfl (fa rfl rfl (beq_eq_false_iff_ne.2 ab) ?_))))))))
 refine aj (aS rfl rfl (aL (aq (am (bz rfl rfl rfl (cI rfl rfl rfl (ai (br _ _ rfl rfl rfl) (cM rfl (dx (fun hg31=> ?_) (fun hg31=> ?_))))))))))
 ·skip
  refine aW rfl rfl ah ?_
  refine aW rfl rfl ah ?_
  refine aW rfl rfl ah ?_
  refine ai (aG _ _ _ rfl (rfl:_=AV.v (.bool _))) (aj (bC rfl rfl (am (bz rfl rfl rfl (fA rfl rfl rfl (ai (bi _ _ aa rfl rfl 0 rfl hL (by simp only [bM];omega) rfl) ?_))))))
  refine ai (cp _ aa rfl (by exact cL L 0 hL) rfl) ?_
  refine ai (aF aa al (ht) rfl rfl) ?_
  refine ba rfl (aj (aH fun K7 hK7=> ?_))
  refine aq ?_
  refine aN (σ':=aA 73 [(1,_),(5,_)] [((1,0),_)] [] []) kp ?_
  refine an (ba rfl (aj (au ?_)))
  refine bD (α:=Nat) (fun j=> 1≤j∧j≤L.length) 73 [(1,_),(5,_)] [((1,0),_)] (fun j=> [(6, .v (.int .i64 (j:Int)))]) (fun j=> []) [] [] (fun j=> L.length - j) 1 ?_ (by
   refine Le.mkJ [] [] rfl ?_ ?_ trivial trivial ?_
   ·exact ⟨(iP rfl),(iV rfl),(bY ag),trivial⟩
   ·exact ⟨(ce rfl rfl rfl),trivial⟩
   ·kernel_rfl) ?_
  ·exact ⟨Nat.le_refl _,hL⟩
  intro j hj
  obtain ⟨hj1,hj2⟩:=hj
  refine aH fun K9 hK9=> ?_
  refine am (aP rfl (bz rfl rfl rfl (fA rfl rfl rfl (ai (bI _ aa rfl) (ai (bp _ _ rfl rfl rfl) (aj (aO rfl (fun hc45=> ?_) (fun hc45=> ?_))))))))
  ·skip
   refine bB (hK9 _ ?_)
   clear hK9;try clear K9
   refine aq (au (am (bz rfl rfl rfl (fA rfl rfl rfl (aP rfl (ai (bi _ _ aa rfl rfl _ rfl ab (by (simp only [aZ,bq,bo,bG,bE,bM,bF];omega)) ag) ?_))))))
   refine ai (cp _ aa rfl (by exact cL _ _ ab) rfl) ?_
   refine ai (aF aa al (h j hj1 ab) rfl rfl) ?_
   refine ci rfl (aj (am (cM rfl (ai (da (r:=false) _ rfl rfl) (aj (aS rfl rfl (cf (an (aP rfl (ai (bc _ _ rfl rfl (be ab)) ?_))))))))))
   refine ba rfl (ax (⟨j+1,?_,?_,?_⟩))
   ·omega
   ·skip
    refine Le.mkJ [] [] rfl ?_ ?_ trivial trivial ?_
    ·exact ⟨(iP rfl),(iV rfl),(bY ag),trivial⟩
    ·exact ⟨(ce rfl rfl rfl),trivial⟩
    ·kernel_rfl
   ·omega
  ·skip
   refine bK (id (hK7 _ ?_))
   clear hK7;try clear K7
   refine am (aP rfl (jq rfl rfl rfl (ci rfl (aj (aE (aX (.inr rfl) rfl (.tmp (rfl:_=AV.v (.bool _))) (Le.out [] [] (hG ?_) rfl rfl rfl trivial trivial)))))))
   rfl
 ·skip
  have hk3:k=3:=by omega
  refine ay rfl rfl (aI _ aa rfl rfl rfl) (ay rfl rfl (aM _ aa rfl rfl (rfl:_=some (AV.v (.int _ _)))) (ay rfl rfl (br (r:=true) _ _ rfl rfl (beq_iff_eq.2 ab)) ?_))
  refine ai (aG _ _ _ rfl (rfl:_=AV.v (.bool _))) (aj (bC rfl rfl (am (bz rfl rfl rfl (fA rfl rfl rfl (ai (bi _ _ aa rfl rfl 0 rfl hL (by simp only [bM];omega) rfl) ?_))))))
  refine ai (cp _ aa rfl (by exact cL L 0 hL) rfl) ?_
  refine ai (aF aa al (ht) rfl rfl) ?_
  refine ba rfl (aj (aH fun K16 hK16=> ?_))
  refine aq ?_
  refine aN (σ':=aA 73 [(1,_),(5,_)] [((1,0),_)] [] []) kp ?_
  refine an (ba rfl (aj (au ?_)))
  refine bD (α:=Nat) (fun j=> 1≤j∧j≤L.length) 73 [(1,_),(5,_)] [((1,0),_)] (fun j=> [(6, .v (.int .i64 (j:Int)))]) (fun j=> []) [] [] (fun j=> L.length - j) 1 ?_ (by
   refine Le.mkJ [] [] rfl ?_ ?_ trivial trivial ?_
   ·exact ⟨(iP rfl),(iV rfl),(bY ag),trivial⟩
   ·exact ⟨(ce rfl rfl rfl),trivial⟩
   ·kernel_rfl) ?_
  ·exact ⟨Nat.le_refl _,hL⟩
  intro j hj
  obtain ⟨hj1,hj2⟩:=hj
  refine aH fun K18 hK18=> ?_
  refine am (aP rfl (bz rfl rfl rfl (fA rfl rfl rfl (ai (bI _ aa rfl) (ai (bp _ _ rfl rfl rfl) (aj (aO rfl (fun hc45=> ?_) (fun hc45=> ?_))))))))
  ·skip
   refine bB (hK18 _ ?_)
   clear hK18;try clear K18
   refine aq (au (am (bz rfl rfl rfl (fA rfl rfl rfl (aP rfl (ai (bi _ _ aa rfl rfl _ rfl ab (by (simp only [aZ,bq,bo,bG,bE,bM,bF];omega)) ag) ?_))))))
   refine ai (cp _ aa rfl (by exact cL _ _ ab) rfl) ?_
   refine ai (aF aa al (h j hj1 ab) rfl rfl) ?_
   refine ci rfl (aj (am (cM rfl (ai (da (r:=false) _ rfl rfl) (aj (aS rfl rfl (cf (an (aP rfl (ai (bc _ _ rfl rfl (be ab)) ?_))))))))))
   refine ba rfl (ax (⟨j+1,?_,?_,?_⟩))
   ·omega
   ·skip
    refine Le.mkJ [] [] rfl ?_ ?_ trivial trivial ?_
    ·exact ⟨(iP rfl),(iV rfl),(bY ag),trivial⟩
    ·exact ⟨(ce rfl rfl rfl),trivial⟩
    ·kernel_rfl
   ·omega
  ·skip
   refine bK (id (hK16 _ ?_))
   clear hK16;try clear K16
   refine am (aP rfl (jq rfl rfl rfl (ci rfl (aj (aE (aX (.inr rfl) rfl (.tmp (rfl:_=AV.v (.bool _))) (Le.out [] [] (hG ?_) rfl rfl rfl trivial trivial)))))))
   rfl
theorem fq (k:Nat) (hk:k≠2∧k≠3∧k≠11) (n:Int) (s:Tx) (L:List Nd) (h: ∀ j,j < L.length→Spec Tryz.prog 203 (bj [mS (jQ L j)] []) (aT (.v (.int .i64 1)) [])):
  Spec Tryz.prog 166 (bj [.agg [.v (.int .i64 (k:Int)), .v (.int .i64 n), .v (bt s), .sl L.length (kR L)]] []) (aT (.v (.bool true)) []):=by
 refine Spec.ofN Tryz.func166 rfl Tryz.ntmps166 rfl ?_
 refine aq ?_
 refine kh 0 3 rfl rfl rfl fun hlen=> ?_
 unfold maxLen at hlen
 refine an (ai (bm (1,0) _ rfl rfl) (ci rfl (aj (aq (am (bz rfl rfl rfl (cI rfl rfl rfl (fa rfl rfl (beq_eq_false_iff_ne.2 ab) ?_))))))))
 refine aj (aS rfl rfl (aL (aq (am (bz rfl rfl rfl (cI rfl rfl rfl (fa rfl rfl (beq_eq_false_iff_ne.2 ab) ?_)))))))
 refine cM rfl (ay rfl rfl (aI _ aa rfl rfl rfl) (ay rfl rfl (aM _ aa rfl rfl (rfl:_=some (AV.v (.int _ _)))) (ay rfl rfl (br (r:=false) _ _ rfl rfl (beq_eq_false_iff_ne.2 ab)) ?_)))
 refine ai (aG _ _ _ rfl (rfl:_=AV.v (.bool _))) (aj (aS rfl rfl (aL (aH fun K6 hK6=> ?_))))
 refine am (ba rfl (aj (au ?_)))
 refine bD (α:=Nat) (fun j=> j≤L.length) 73 [(1,_)] [((1,0),_)] (fun j=> [(8, .v (.int .i64 (j:Int)))]) (fun j=> []) [] [] (fun j=> L.length - j) 0 ?_ (by
  refine Le.mkJ [] [] rfl ?_ ?_ trivial trivial ?_
  ·exact ⟨(iP rfl),(bY ag),trivial⟩
  ·exact ⟨(ce rfl rfl rfl),trivial⟩
  ·kernel_rfl) ?_
 ·omega
 intro j hj
 refine aH fun K8 hK8=> ?_
 refine am (aP rfl (bz rfl rfl rfl (fA rfl rfl rfl (ai (bI _ aa rfl) (ai (bp _ _ rfl rfl rfl) (aj (aO rfl (fun hc62=> ?_) (fun hc62=> ?_))))))))
 ·skip
  refine bB (hK8 _ ?_)
  clear hK8;try clear K8
  refine aq (au (am (bz rfl rfl rfl (fA rfl rfl rfl (aP rfl (ai (bi _ _ aa rfl rfl _ rfl ab (by (simp only [aZ,bq,bo,bG,bE,bM,bF];omega)) ag) ?_))))))
  refine ai (cp _ aa rfl (by exact cL _ _ ab) rfl) ?_
  refine ai (aF aa al (h j ab) rfl rfl) ?_
  refine ba rfl (aj (am (aP rfl (ai (cg (r:=false) _ _ rfl rfl rfl) (aj (aS rfl rfl (cf (an (aP rfl (ai (bc _ _ rfl rfl (be ab)) ?_))))))))))
  refine ba rfl (ax (⟨j+1,?_,?_,?_⟩))
  ·omega
  ·skip
   refine Le.mkJ [] [] rfl ?_ ?_ trivial trivial ?_
   ·exact ⟨(iP rfl),(bY ag),trivial⟩
   ·exact ⟨(ce rfl rfl rfl),trivial⟩
   ·kernel_rfl
  ·omega
 ·skip
  refine bK (id (hK6 _ ?_))
  clear hK6;try clear K6
  refine am (ci rfl (aj (aE (aX (.inr rfl) rfl (.tmp (rfl:_=AV.v (.bool _))) (Le.out [] [] (hG ?_) rfl rfl rfl trivial trivial)))))
  rfl
end Go.Proofs.YtmjnackchaahbaaGreat
