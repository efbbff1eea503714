/- Part 11 of the texts that the walk leans on: the machine, the walks, the plain laws. -/
import Derived.Test.YtmjnackchaahbaaGreatVoZ10
set_option linter.unusedSimpArgs false
set_option linter.unusedVariables false
namespace Go.Proofs.YtmjnackchaahbaaGreat
open Go.RowKit

theorem pt {s:Tx}: ∀ {f a:Nat} {l:List Tk},a≤s.length→lq f s a=some l→0 < l.length∧l.length+a≤s.length+1
  | 0,_,_,_,h=> by simp [lq] at h
  | f+1,a,l,ha,h=> by
    rcases kS h with ⟨_,rfl⟩ | ⟨hl,t,m,ht,hm,rfl⟩
    · exact ⟨by simp,by simp;omega⟩
    · obtain ⟨h1,h2⟩:=rW hl ht
      have h3:=tv (s:=s) (a:=a+t.t.length) h2 false
      obtain ⟨_,h4⟩:=pt h3.2 hm
      exact ⟨by simp,by rw [List.length_cons];omega⟩
theorem xm {s:Tx} {l:List Tk} (h:Br s=some l):0 < l.length∧l.length≤s.length+1:=by
  have:=pt (a:=qJ s false) (mx s false) h
  omega
theorem kO {T:List Tk}: ∀ (f:Nat) {N M:List Tx} (i:Nat),N.Perm M→fX T f N i=fX T f M i
  | 0,_,_,_,_=> rfl
  | f+1,N,M,i,h=> by
    unfold fX
    simp only [h.mem_iff,h.length_eq,kO f _ (h.append_right [(cY T i).t])]
theorem sg {T:List Tk} {f:Nat} {d v:List Tx} {i:Nat} {r:List Tx×List Tx×Nat} (h:ia T f d v i=some r): ∃ g,f=g+1∧
    (((cY T i).t=ku∧ ∃ l j,fX T g (d++v) (bS T i)=some (l,j)∧ia T g (d++l) v j=some r)∨
     ((cY T i).t≠ku∧(cY T i).t=lh∧ ∃ l j,fX T g (d++v) (bS T i)=some (l,j)∧ia T g d (v++l) j=some r)∨
     ((cY T i).t≠ku∧(cY T i).t≠lh∧r=(d,v,i))):=by
  cases f with
  | zero=> simp [ia] at h
  | succ g=>
    refine ⟨g,rfl,?_⟩
    unfold ia at h
    split at h
    · rename_i ht
      simp only [Option.bind_eq_bind,Option.bind_eq_some_iff] at h
      obtain ⟨⟨l,j⟩,hl,h⟩:=h
      exact .inl ⟨ht,l,j,hl,h⟩
    · rename_i ht
      split at h
      · rename_i ht2
        simp only [Option.bind_eq_bind,Option.bind_eq_some_iff] at h
        obtain ⟨⟨l,j⟩,hl,h⟩:=h
        exact .inr (.inl ⟨ht,ht2,l,j,hl,h⟩)
      · rename_i ht2
        exact .inr (.inr ⟨ht,ht2,(Option.some.inj h).symm⟩)
theorem wH {T:List Tk} {f:Nat} {l:List Hd} {i:Nat} {r:List Hd} (h:Dy T f l i=some r): ∃ g,f=g+1∧
    (((cY T i).k=0∧r=l)∨((cY T i).k≠0∧ ∃ j n j2 d j3,fR T Dq i=some j∧uy T j=some (n,j2)∧l.any (fun x=> decide (x.1=n))=false∧oT T g 1 j2=some (d,j3)∧Dy T g (oB l (n,d)) j3=some r)):=by
  cases f with
  | zero=> simp [Dy] at h
  | succ g=>
    refine ⟨g,rfl,?_⟩
    unfold Dy at h
    split at h
    · rename_i hk;exact .inl ⟨hk,(Option.some.inj h).symm⟩
    · rename_i hk
      simp only [Option.bind_eq_bind,Option.bind_eq_some_iff] at h
      obtain ⟨j,hj,⟨n,j2⟩,hn,h⟩:=h
      simp only at h
      split at h
      · cases h
      · rename_i hno
        simp only [Option.bind_eq_some_iff] at h
        obtain ⟨⟨d,j3⟩,hd,h⟩:=h
        exact .inr ⟨hk,j,n,j2,d,j3,hj,hn,Bool.eq_false_iff.2 hno,hd,h⟩
theorem yP (l:List Hd) (h:Hd):(oB l h).length=l.length+1:=by
  have e:=congrArg List.length (List.takeWhile_append_dropWhile (p:=fun x:Nat×Nd=> decide (x.1 < h.1)) (l:=l))
  unfold oB
  rw [List.length_append] at e ⊢
  rw [List.length_cons]
  omega
abbrev Ed (d v:List Tx) (l:List Hd):AV:= .agg [.sl d.length (dT d), .sl v.length (dT v), .sl l.length (lk l)]
theorem nE (s:Tx) (hs:s.length≤3000) (D V:List Tx) (L:List Hd) (h:qa s=some (D,V,L)):
    Spec Tryz.prog 96 (bk [.v (bt s)] []) (aW (.tup [Ed D V L, .v (.int .i64 0), .v (.int .i64 0)]) []):=by
  unfold qa at h
  simp only [Option.bind_eq_bind,Option.bind_eq_some_iff,Option.pure_def,Option.some.injEq,Prod.mk.injEq] at h
  obtain ⟨T,hT,⟨D',V',i⟩,hd,L',hL,rfl,rfl,rfl⟩:=h
  obtain ⟨hT0,hT1⟩:=xm hT
  have hTl:T.length≤100000:=by omega
  simp only at hL ⊢
  refine Spec.ofN Tryz.func96 rfl Tryz.ntmps96 rfl ?_
  refine am (ai (ax (2,0) aa rfl rfl) (aZ rfl (aZ rfl (aj (aq (am (dL rfl (ai (gn _ Tryz.underlying9 rfl) (ai (dB _ _ rfl rfl rfl) (aj ?_))))))))))
  refine aR rfl (decide_eq_false ab) ?_
  refine aJ (am (dL rfl (ai (aM aa al (rl s ab T hT) rfl rfl) ?_)))
  refine ai (aE _ (rfl:_=AV.tup _)) (ai (dh _ rfl (rfl:_=some (AV.sl _ _))) (ai (dh _ rfl (rfl:_=some (AV.v (.int _ _)))) (ai (dh _ rfl (rfl:_=some (AV.v (.int _ _)))) (kB rfl (aZ rfl (aZ rfl (aj (aq (aq ?_)))))))))
  refine aO (σ':=aB 114 [(2,_),(5,_),(6,_),(7,_)] [((2,0),_)] [] []) (by
    refine Le.mkJ [] [] rfl ?_ ?_ trivial trivial ?_
    · exact ⟨(iP rfl),(iS rfl),(iV rfl),(iV rfl),trivial⟩
    · exact ⟨(cI rfl rfl rfl),trivial⟩
    · kernel_rfl) ?_
  refine an (aS rfl (ai (cb (r:=false) _ _ rfl rfl rfl) (aj (aR rfl rfl (aJ (am (ez rfl (ai (ay _ aa rfl (by exact (rfl:_=some [_,_,_,_,_]))) ?_))))))))
  refine ai (bf (29,0) _ rfl rfl) (zm rfl (aj (am (ai (ax (9,0) aa rfl rfl) (aj (aG fun K9 hK9=> ?_))))))
  refine au ?_
  refine aO (Le.nilB (29,0) 4 (60,0) 9 1 rfl rfl rfl) ?_
  refine aO (Le.nilB (9,0) 0 (61,0) 9 1 rfl rfl rfl) ?_
  refine aO (Le.nilB (9,0) 1 (62,0) 9 1 rfl rfl rfl) ?_
  refine aO (Le.nil0 (9,0) 2 rfl rfl) ?_
  refine bB (α:=Nat×List Tx×List Tx×List Tx×Nat) (fun z=> z.2.2.2.1.Perm (z.2.1++z.2.2.1)∧z.2.2.2.2 < T.length∧z.2.2.2.1.length≤16∧ia T z.1 z.2.1 z.2.2.1 z.2.2.2.2=some (D',V',i)) 114 [(2,_),(8,_),(9,_)] [((2,0),_)] (fun z=> []) (fun z=> [((29,0), .box 222 [.sl T.length (qF T), .v (.int .i64 (z.2.2.2.2:Int)), .v (.int .i64 0), .v (.int .i64 0), .ref (60,0) 0 z.2.2.2.1.length]),((60,0), .row 9 1 (dT z.2.2.2.1)),((9,0), .box 64 [.ref (61,0) 0 z.2.1.length, .ref (62,0) 0 z.2.2.1.length, .sl 0 []]),((61,0), .row 9 1 (dT z.2.1)),((62,0), .row 9 1 (dT z.2.2.1))]) [] [] (fun z=> z.1) (3*T.length+10,[],[],[],0) ?_ (by
    refine Le.mkJ [] [] rfl ?_ ?_ trivial trivial ?_
    · exact ⟨(iP rfl),(iP rfl),(iP rfl),trivial⟩
    · exact ⟨(cI rfl rfl rfl),(fg rfl rfl rfl rfl lz),(fJ rfl rfl rfl ag),(fg rfl rfl rfl rfl lz),(fJ rfl rfl rfl ag),(fJ rfl rfl rfl ag),trivial⟩
    · kernel_rfl) ?_
  · exact ⟨.refl _,hT0,Nat.zero_le _,hd⟩
  intro z hz
  obtain ⟨z1,d,v,N,j⟩:=z
  obtain ⟨hp,hj,hNl,hz⟩:=hz
  obtain ⟨g,rfl,hm⟩:=sg hz
  simp only at hp hj hNl hm ⊢
  have hpl:=hp.length_eq
  rw [List.length_append] at hpl
  have htl:=dM hj
  refine aG fun K10 hK10=> ?_
  refine aG fun K11 hK11=> ?_
  refine an (bh rfl (ai (aN _ rfl rfl) (bv rfl rfl rfl (cG rfl rfl rfl (iY rfl rfl rfl (cP rfl (aA rfl rfl (aE _ (rfl:_=AV.ptr _ _)) (aA rfl rfl (dg aa [((0,9),(29,0)),((1,9),(60,0))] ?_ (el T j N hj) ob tr ae) ?_))))))))
  · repeat' (first | exact cW | refine cq ?_ ?_ | exact dD rfl)
  refine aA rfl rfl (aT _ _ Tryz.underlying9 rfl rfl rfl) (aA rfl rfl (aE _ (rfl:_=AV.v (.bool _))) (dH (fun hg39=> ?_) (fun hg39=> ?_)))
  · skip
    obtain ⟨l,j',hdp,hdz⟩: ∃ l j',fX T g N (bS T j)=some (l,j')∧ia T g (d++l) v j'=some (D',V',i):=by
      rcases hm with ⟨_,l,j',h1,h2⟩ | ⟨h,_⟩ | ⟨h,_⟩
      · exact ⟨l,j',(kO g _ hp).trans h1,h2⟩
      · exact absurd hg39 h
      · exact absurd hg39 h
    obtain ⟨hda,hdb,hdc⟩:=pw hTl g N j hj (l,j') hdp
    simp only at hda hdb hdc
    have hdl:(d++l).length=d.length+l.length:=by simp
    refine aU rfl rfl ah ?_
    refine aU rfl rfl ah ?_
    refine aU rfl rfl ah ?_
    refine aA rfl rfl (aH _ _ _ rfl (rfl:_=AV.v (.bool _))) (ai (aH _ _ _ rfl (rfl:_=AV.v (.bool _))) (az (hK11 _ ?_)))
    clear hK11;try clear K11
    refine bF rfl rfl (bz (hK10 _ ?_))
    clear hK10;try clear K10
    refine au (aq ?_)
    refine aO (σ':=aB 114 [(2,_),(8,_),(9,_)] [((2,0),_),((29,0),_),((60,0),_),((9,0),_),((61,0),_),((62,0),_)] [] []) (by
      refine Le.mkJ [] [] rfl ?_ ?_ trivial trivial ?_
      · exact ⟨(iP rfl),(iP rfl),(iP rfl),trivial⟩
      · exact ⟨(cI rfl rfl rfl),(cI rfl rfl rfl),(cI rfl rfl rfl),(cI rfl rfl rfl),(cI rfl rfl rfl),(cI rfl rfl rfl),trivial⟩
      · kernel_rfl) ?_
    refine an (bh rfl (ai (dg aa [((0,9),(29,0)),((1,9),(60,0))] ?_ (el T j N hj) ob tr ae) ?_))
    · repeat' (first | exact cW | refine cq ?_ ?_ | exact dD rfl)
    refine ai (aT _ _ Tryz.underlying9 rfl rfl rfl) (aj (bF rfl (beq_iff_eq.2 hg39) ?_))
    refine aO (σ':=aB 114 [(2,_),(8,_),(9,_)] [((2,0),_),((29,0), .box 222 [.sl T.length (qF T), .v (.int .i64 (j:Int)), .v (.int .i64 0), .v (.int .i64 0), .ref (60,0) 0 N.length]),((60,0), .row 9 1 (dT N)),((9,0),_),((61,0),_),((62,0),_)] [] []) (by
      refine Le.mkJ [] [] rfl ?_ ?_ trivial trivial ?_
      · exact ⟨(iP rfl),(iP rfl),(iP rfl),trivial⟩
      · exact ⟨(cI rfl rfl rfl),(cI rfl rfl rfl),(cI rfl rfl rfl),(cI rfl rfl rfl),(cI rfl rfl rfl),(cI rfl rfl rfl),trivial⟩
      · kernel_rfl) ?_
    refine bE 4 [48,49,50,51] [(29,0),(70,0),(60,0)] ae ae rfl (aK rfl) (rfl:_=[_,_,_,_]) (rfl:_=[_,_,_]) ?_
    refine ap (_,[]) (fun τ=> aI _ aa rfl rfl rfl) ?_
    refine eE rfl ?_
    refine ap (_,[]) (fun τ=> aL _ aa rfl rfl (rfl:_=some (AV.ref _ _ _))) ?_
    refine eF rfl ?_
    refine ap (_,[]) (fun τ=> aE _ (rfl:_=AV.ptr _ _)) ?_
    refine eD rfl ?_
    refine ap (_,[((29,0),_),((70,0),_),((60,0), .gone)]) (fun τ=> (cQ aa [((0,9),(29,0)),((1,9),(60,0)),((1,8),(70,0))] ?_ (hdc) ob tr tr rfl rfl ae ae)) ?_
    · repeat' (first | exact cW | refine cq ?_ ?_ | exact dD rfl)
    refine eI rfl (bi ⟨rfl,?_⟩)
    refine ai (dt (52,0) _ _ aa rfl rfl (by simp) (.sl (by simp)) ab rfl (oF _ _) hdl.symm) ?_
    refine bv rfl rfl rfl (bL rfl rfl rfl rfl rfl rfl (az (⟨(g,d++l,v,N++l,j'),?_,?_,?_⟩)))
    · exact ⟨(hp.append_right l).trans (by rw [List.append_assoc,List.append_assoc];exact List.perm_append_comm.append_left d),hda,by simp only [List.length_append];omega,hdz⟩
    · skip
      refine Le.mkJ [((60,0),(70,0)),((61,0),(52,0))] [] rfl ?_ ?_ trivial trivial ?_
      · exact ⟨(dD (id:=(2,0)) rfl),(dD (id:=(29,0)) rfl),(dD (id:=(9,0)) rfl),trivial⟩
      · exact ⟨(fg rfl rfl rfl rfl (by repeat' (first | exact Lv.v | exact bn | refine aC ?_ ?_))),(fg rfl rfl rfl rfl lz),(fJ rfl rfl rfl ag),(fg rfl rfl rfl rfl lz),(fJ rfl rfl rfl ag),(fJ rfl rfl rfl ag),trivial⟩
      · kernel_rfl
    · simp only;omega
  · skip
    refine aA rfl rfl (aE _ (rfl:_=AV.ptr _ _)) (aA rfl rfl (dg aa [((0,9),(29,0)),((1,9),(60,0))] ?_ (el T j N hj) ob tr ae) ?_)
    · repeat' (first | exact cW | refine cq ?_ ?_ | exact dD rfl)
    refine aA rfl rfl (aT _ _ Tryz.underlying9 rfl rfl rfl) (aA rfl rfl (aH _ _ _ rfl (rfl:_=AV.v (.bool _))) (ai (aH _ _ _ rfl (rfl:_=AV.v (.bool _))) (az (hK11 _ ?_))))
    clear hK11;try clear K11
    refine aV rfl (fun hc44=> ?_) (fun hc44=> ?_)
    · skip
      obtain ⟨l,j',hdp,hdz⟩: ∃ l j',fX T g N (bS T j)=some (l,j')∧ia T g d (v++l) j'=some (D',V',i):=by
        rcases hm with ⟨h,_⟩ | ⟨_,_,l,j',h1,h2⟩ | ⟨_,h,_⟩
        · exact absurd h hg39
        · exact ⟨l,j',(kO g _ hp).trans h1,h2⟩
        · exact absurd hc44 h
      obtain ⟨hda,hdb,hdc⟩:=pw hTl g N j hj (l,j') hdp
      simp only at hda hdb hdc
      have hvl:(v++l).length=v.length+l.length:=by simp
      refine bz (hK10 _ ?_)
      clear hK10;try clear K10
      refine au (aq ?_)
      refine aO (σ':=aB 114 [(2,_),(8,_),(9,_)] [((2,0),_),((29,0),_),((60,0),_),((9,0),_),((61,0),_),((62,0),_)] [] []) (by
        refine Le.mkJ [] [] rfl ?_ ?_ trivial trivial ?_
        · exact ⟨(iP rfl),(iP rfl),(iP rfl),trivial⟩
        · exact ⟨(cI rfl rfl rfl),(cI rfl rfl rfl),(cI rfl rfl rfl),(cI rfl rfl rfl),(cI rfl rfl rfl),(cI rfl rfl rfl),trivial⟩
        · kernel_rfl) ?_
      refine an (bh rfl (ai (dg aa [((0,9),(29,0)),((1,9),(60,0))] ?_ (el T j N hj) ob tr ae) ?_))
      · repeat' (first | exact cW | refine cq ?_ ?_ | exact dD rfl)
      refine ai (aT _ _ Tryz.underlying9 rfl rfl rfl) (aj (aR rfl (beq_eq_false_iff_ne.2 hg39) ?_))
      refine aO (σ':=aB 114 [(2,_),(8,_),(9,_)] [((2,0),_),((29,0), .box 222 [.sl T.length (qF T), .v (.int .i64 (j:Int)), .v (.int .i64 0), .v (.int .i64 0), .ref (60,0) 0 N.length]),((60,0), .row 9 1 (dT N)),((9,0),_),((61,0),_),((62,0),_)] [] []) (by
        refine Le.mkJ [] [] rfl ?_ ?_ trivial trivial ?_
        · exact ⟨(iP rfl),(iP rfl),(iP rfl),trivial⟩
        · exact ⟨(cI rfl rfl rfl),(cI rfl rfl rfl),(cI rfl rfl rfl),(cI rfl rfl rfl),(cI rfl rfl rfl),(cI rfl rfl rfl),trivial⟩
        · kernel_rfl) ?_
      refine bE 4 [54,55,56,57] [(29,0),(71,0),(60,0)] ae ae rfl (aK rfl) (rfl:_=[_,_,_,_]) (rfl:_=[_,_,_]) ?_
      refine ap (_,[]) (fun τ=> aI _ aa rfl rfl rfl) ?_
      refine eE rfl ?_
      refine ap (_,[]) (fun τ=> aL _ aa rfl rfl (rfl:_=some (AV.ref _ _ _))) ?_
      refine eF rfl ?_
      refine ap (_,[]) (fun τ=> aE _ (rfl:_=AV.ptr _ _)) ?_
      refine eD rfl ?_
      refine ap (_,[((29,0),_),((71,0),_),((60,0), .gone)]) (fun τ=> (cQ aa [((0,9),(29,0)),((1,9),(60,0)),((1,8),(71,0))] ?_ (hdc) ob tr tr rfl rfl ae ae)) ?_
      · repeat' (first | exact cW | refine cq ?_ ?_ | exact dD rfl)
      refine eI rfl (bi ⟨rfl,?_⟩)
      refine ai (dt (58,0) _ _ aa rfl rfl (by simp) (.sl (by simp)) ab rfl (oF _ _) hvl.symm) ?_
      refine bv rfl rfl rfl (bL rfl rfl rfl rfl rfl rfl (az (⟨(g,d,v++l,N++l,j'),?_,?_,?_⟩)))
      · exact ⟨(hp.append_right l).trans (by rw [List.append_assoc]),hda,by simp only [List.length_append];omega,hdz⟩
      · skip
        refine Le.mkJ [((60,0),(71,0)),((62,0),(58,0))] [] rfl ?_ ?_ trivial trivial ?_
        · exact ⟨(dD (id:=(2,0)) rfl),(dD (id:=(29,0)) rfl),(dD (id:=(9,0)) rfl),trivial⟩
        · exact ⟨(fg rfl rfl rfl rfl (by repeat' (first | exact Lv.v | exact bn | refine aC ?_ ?_))),(fg rfl rfl rfl rfl lz),(fJ rfl rfl rfl ag),(fg rfl rfl rfl rfl lz),(fJ rfl rfl rfl ag),(fJ rfl rfl rfl ag),trivial⟩
        · kernel_rfl
      · simp only;omega
    · skip
      have hrd:(D',V',i)=(d,v,j):=by
        rcases hm with ⟨h,_⟩ | ⟨_,h,_⟩ | ⟨_,_,h⟩
        · exact absurd h hg39
        · exact absurd h hc44
        · exact h
      obtain ⟨e1,e2,e3⟩:D'=d∧V'=v∧i=j:=⟨congrArg (·.1) hrd,congrArg (·.2.1) hrd,congrArg (·.2.2) hrd⟩
      clear hrd hm hz
      subst e1;subst e2;subst e3
      refine bK (id (hK9 _ ?_))
      clear hK9;try clear K9
      refine aG fun K14 hK14=> ?_
      refine au ?_
      refine aO (Le.frzB (29,0) 4 rfl rfl rfl rfl (ys:=dT N) (by simp [List.take_of_length_le]) (by simp)) ?_
      refine bB (α:=Nat×List Hd×Nat) (fun y=> y.2.1.length+y.1≤10*T.length+10∧y.2.2 < T.length∧Dy T y.1 y.2.1 y.2.2=some L') 114 [(2,_),(8,_),(9,_)] [((2,0),_),((61,0),_),((62,0),_)] (fun y=> []) (fun y=> [((29,0), .box 222 [.sl T.length (qF T), .v (.int .i64 (y.2.2:Int)), .v (.int .i64 0), .v (.int .i64 0), .sl N.length (dT N)]),((9,0), .box 64 [.ref (61,0) 0 D'.length, .ref (62,0) 0 V'.length, .sl y.2.1.length (lk y.2.1)])]) [] [] (fun y=> y.1) (10*T.length+10,[],i) ?_ (by
        refine Le.mkJ [] [] rfl ?_ ?_ trivial trivial ?_
        · exact ⟨(iP rfl),(iP rfl),(iP rfl),trivial⟩
        · exact ⟨(cI rfl rfl rfl),(cI rfl rfl rfl),(cI rfl rfl rfl),(fg rfl rfl rfl rfl lz),(fg rfl rfl rfl rfl lz),trivial⟩
        · kernel_rfl) ?_
      · exact ⟨by simp,hj,hL⟩
      intro y hy
      obtain ⟨y1,l,k⟩:=y
      obtain ⟨hyl,hk,hy⟩:=hy
      obtain ⟨g2,rfl,hm2⟩:=wH hy
      simp only at hyl hk hm2 ⊢
      refine aG fun K15 hK15=> ?_
      refine aq (bE 19 [60,61,62,63,64,65,66,67,68,69,70,71,72,73,74,75,76,77,78] [] ae ae rfl (aK rfl) (rfl:_=[_,_,_,_,_,_,_,_,_,_,_,_,_,_,_,_,_,_,_]) (rfl:_=[]) ?_)
      refine ap (_,[]) (fun τ=> aE _ (rfl:_=AV.ptr _ _)) ?_
      refine eE rfl ?_
      refine ap (_,[]) (fun τ=> aN _ rfl rfl) ?_
      refine eF rfl ?_
      refine ap (_,[]) (fun τ=> aI _ aa rfl rfl rfl) ?_
      refine eD rfl ?_
      refine ap (_,[]) (fun τ=> aL _ aa rfl rfl (rfl:_=some (AV.v (.int _ _)))) ?_
      refine eI rfl ?_
      refine ap (_,[]) (fun τ=> bT (r:=true) _ _ rfl rfl rfl) ?_
      refine eU rfl ?_
      refine ap (_,[]) (fun τ=> aE _ (rfl:_=AV.v (.bool _))) ?_
      refine fh rfl ?_
      refine bX (_,[]) rfl (fun τ=> rfl) (fun τ=> aE _ (rfl:_=AV.ptr _ _)) ?_
      refine fZ rfl ?_
      refine bX (_,[]) rfl (fun τ=> rfl) (fun τ=> aN _ rfl rfl) ?_
      refine jz rfl ?_
      refine bX (_,[]) rfl (fun τ=> rfl) (fun τ=> aI _ aa rfl rfl rfl) ?_
      refine jC rfl ?_
      refine bX (_,[]) rfl (fun τ=> rfl) (fun τ=> aL _ aa rfl rfl (rfl:_=some (AV.sl _ _))) ?_
      refine fK rfl ?_
      refine bX (_,[]) rfl (fun τ=> rfl) (fun τ=> aE _ (rfl:_=AV.ptr _ _)) ?_
      refine gl rfl ?_
      refine bX (_,[]) rfl (fun τ=> rfl) (fun τ=> aN _ rfl rfl) ?_
      refine kP rfl ?_
      refine bX (_,[]) rfl (fun τ=> rfl) (fun τ=> aI _ aa rfl rfl rfl) ?_
      refine lQ rfl ?_
      refine bX (_,[]) rfl (fun τ=> rfl) (fun τ=> aL _ aa rfl rfl (rfl:_=some (AV.v (.int _ _)))) ?_
      refine oX rfl ?_
      refine bX (_,[]) rfl (fun τ=> rfl) (fun τ=> bg _ _ aa rfl rfl _ rfl ab (by (simp only [ba,bo,bm,bC,bw,bJ,bD];omega)) ag) ?_
      refine vS rfl ?_
      refine bX (_,[]) rfl (fun τ=> rfl) (fun τ=> dk _ aa rfl rfl) ?_
      refine uM rfl ?_
      refine bX (_,[]) rfl (fun τ=> rfl) (fun τ=> bG _ aa rfl (by exact oo _ _ ab) rfl) ?_
      refine yY rfl ?_
      refine bX (_,[]) rfl (fun τ=> rfl) (fun τ=> cb _ _ rfl rfl rfl) ?_
      refine wF rfl ?_
      refine ap (_,[]) (fun τ=> aH _ _ _ rfl (rfl:_=AV.v (.bool _))) ?_
      refine wI rfl (bi ⟨rfl,?_⟩)
      refine aj (aV rfl (fun hc78=> ?_) (fun hc78=> ?_))
      · skip
        obtain ⟨_,j1,hn,j2,dd,j3,h1,h2,h3,h4,h5⟩:=hm2.resolve_left fun x=> by omega
        have hx1:=eX T k j1 N Dq hk hTl h1
        obtain ⟨ha2,_,hx2⟩:=qc (N:=N) hTl j1 (ik h1 hk) l ab _ h2 h3
        obtain ⟨ha3,hx3⟩:=tk (N:=N) hTl ab ha2 h4
        have hx4:=xg l ab (hn,dd)
        have hpl2:=yP l (hn,dd)
        simp only at ha2 ha3 hx2 hx3 hx4
        refine bz (hK15 _ ?_)
        clear hK15;try clear K15
        refine au (aq ?_)
        refine aO (σ':=aB 114 [(2,_),(8,_),(9,_)] [((2,0),_),((61,0),_),((62,0),_),((29,0),_),((9,0),_)] [] []) (by
          refine Le.mkJ [] [] rfl ?_ ?_ trivial trivial ?_
          · exact ⟨(iP rfl),(iP rfl),(iP rfl),trivial⟩
          · exact ⟨(cI rfl rfl rfl),(cI rfl rfl rfl),(cI rfl rfl rfl),(cI rfl rfl rfl),(cI rfl rfl rfl),trivial⟩
          · kernel_rfl) ?_
        refine an (bh rfl (ai (dg aa [((0,9),(29,0))] ?_ (hx1) ob tr ae) ?_))
        · repeat' (first | exact cW | refine cq ?_ ?_ | exact Lv.v | exact dD rfl)
        refine aj (aq (am (bh rfl (ai (aN _ rfl rfl) (bv rfl rfl rfl (cG rfl rfl rfl (ai (cb (r:=false) _ _ rfl rfl rfl) (aj (aR rfl rfl (aJ ?_))))))))))
        refine aG fun K20 hK20=> ?_
        refine an (bh rfl (bv rfl rfl rfl (fG rfl rfl rfl (ai (dg aa [((0,9),(29,0))] ?_ (hx2) ob tr ae) ?_))))
        · repeat' (first | exact cW | refine cq ?_ ?_ | exact Lv.sl | exact dD rfl)
        refine aZ rfl (az (hK20 _ ?_))
        clear hK20;try clear K20
        refine aG fun K21 hK21=> ?_
        refine an (bh rfl (ai (dg aa [((0,9),(29,0))] ?_ (hx3) ob tr ae) ?_))
        · repeat' (first | exact cW | refine cq ?_ ?_ | exact Lv.v | exact dD rfl)
        refine ai (ax (11,0) aa rfl rfl) (bL rfl rfl rfl rfl rfl rfl (az (hK21 _ ?_)))
        clear hK21;try clear K21
        refine aO (σ':=aB 114 [(2,_),(8,_),(9,_),(10,_),(11,_)] [((2,0),_),((61,0),_),((62,0),_),((29,0),_),((9,0),_),((11,0),_)] [] []) (by
          refine Le.mkJ [] [] rfl ?_ ?_ trivial trivial ?_
          · exact ⟨(iP rfl),(iP rfl),(iP rfl),(iV rfl),(iP rfl),trivial⟩
          · exact ⟨(cI rfl rfl rfl),(cI rfl rfl rfl),(cI rfl rfl rfl),(cI rfl rfl rfl),(cI rfl rfl rfl),(cI rfl rfl rfl),trivial⟩
          · kernel_rfl) ?_
        refine an (bv rfl rfl rfl (fG rfl rfl rfl (aS rfl (ai (aP _ aa rfl rfl rfl rfl) (ai (ay _ aa rfl (by exact (rfl:_=some [_,_,_,_,_]))) ?_)))))
        refine ai (aM aa al (hx4) rfl rfl) ?_
        refine bv rfl rfl rfl (bL rfl rfl rfl rfl rfl rfl (az (⟨(g2,oB l (hn,dd),j3),?_,?_,?_⟩)))
        · exact ⟨by simp only [hpl2];omega,ha3,h5⟩
        · skip
          refine Le.mkJ [] [] rfl ?_ ?_ trivial trivial ?_
          · exact ⟨(iP rfl),(iP rfl),(iP rfl),trivial⟩
          · exact ⟨(cI rfl rfl rfl),(cI rfl rfl rfl),(cI rfl rfl rfl),(fg rfl rfl rfl rfl lz),(fg rfl rfl rfl rfl lz),trivial⟩
          · kernel_rfl
        · simp only;omega
      · skip
        have hrl:=(hm2.resolve_right fun x=> x.1 ab).2
        subst hrl
        refine bK (id (hK14 _ ?_))
        clear hK14;try clear K14
        refine aq (aq ?_)
        refine aO (σ':=aB 114 [(2,_),(8,_),(9,_)] [((2,0),_),((61,0),_),((62,0),_),((29,0),_),((9,0),_)] [] []) (by
          refine Le.mkJ [] [] rfl ?_ ?_ trivial trivial ?_
          · exact ⟨(iP rfl),(iP rfl),(iP rfl),trivial⟩
          · exact ⟨(cI rfl rfl rfl),(cI rfl rfl rfl),(cI rfl rfl rfl),(cI rfl rfl rfl),(cI rfl rfl rfl),trivial⟩
          · kernel_rfl) ?_
        refine an (bh rfl (ai (aN _ rfl rfl) (bv rfl rfl rfl (cG rfl rfl rfl (ai (cb (r:=false) _ _ rfl rfl rfl) (aj (aR rfl rfl (aJ (am (ai (aP _ aa rfl rfl rfl rfl) ?_))))))))))
        exact bL rfl rfl rfl rfl rfl rfl (aZ rfl (aZ rfl (aj (aD (uJ (.inr rfl) rfl (.cellA aa rfl rfl rfl) (.tmp (rfl:_=AV.v _)) (.tmp (rfl:_=AV.v _)) (Le.out [] [(61,0),(62,0)] (.tup rfl (aC (.agg rfl (aC (gQ rfl rfl (by simp) rfl) (aC (gQ rfl rfl (by simp) rfl) lz))) lz)) rfl rfl rfl tr trivial))))))

def jA (l:List Nd) (j:Nat):Nd:=l.getD j ⟨0,0,[],0,[]⟩
theorem DO (l:List Nd) (k:Nat) (h:k < l.length):jA l k=l[k]:=by simp [jA,h]
theorem cH (l:List Nd) (k:Nat) (h:k < l.length):PV.ups (((kG l).drop (k*4)).take 4)=[.v (.int .i64 ((jA l k).k:Int)), .v (.int .i64 ((jA l k).n:Int)), .v (bt (jA l k).s), .sl (jA l k).kn (jA l k).kids]:=by
 rw [DO l k h,show ((kG l).drop (k*4)).take 4=l[k].row from nT Nd.row 4 (fun _=> rfl) l k h];rfl
theorem fF (l:List Tx) (n:Nat) (hn:l.length=n) (h1:n≤1000) (t:Tx):Spec Tryz.prog 204 (bk [.sl n (dT l), .v (bt t)] []) (aW (.v (.bool (decide (t∈l)))) []):=by
 refine Spec.ofN Tryz.func204 rfl Tryz.ntmps204 rfl ?_
 refine am (cw rfl (aj (aG fun K2 hK2=> ?_)))
 refine am (aZ rfl (aj (au ?_)))
 refine bB (α:=Nat) (fun k=> k≤n∧t∉l.take k) 18 [(0,_),(1,_)] [] (fun k=> [(5, .v (.int .i64 (k:Int)))]) (fun k=> []) [] [] (fun k=> n - k) 0 ?_ (by
  refine Le.mkJ [] [] rfl ?_ ?_ trivial trivial ?_
  ·exact ⟨(iS rfl),(iV rfl),(co ag),trivial⟩
  ·exact trivial
  ·kernel_rfl) ?_
 ·exact ⟨Nat.zero_le _,by simp⟩
 intro k hk
 obtain ⟨hk,hnt⟩:=hk
 refine aG fun K4 hK4=> ?_
 refine am (aS rfl (ez rfl (ai (bH _ aa rfl) (ai (bq _ _ rfl rfl rfl) (aj (aV rfl (fun hc9=> ?_) (fun hc9=> ?_)))))))
 ·skip
  refine bz (hK4 _ ?_)
  clear hK4;try clear K4
  refine aq (au (am (ez rfl (aS rfl (ai (bg _ _ aa rfl rfl _ rfl ab (by (simp only [ba,bo,bm,bC,bw,bJ,bD];omega)) (by exact Nat.mul_one _)) ?_)))))
  refine ai (bG _ aa rfl (by exact fu _ _ ab) rfl) ?_
  refine dL rfl (ai (aT _ _ Tryz.underlying9 rfl rfl rfl) (aj (aV rfl (fun hc17=> ?_) (fun hc17=> ?_))))
  ·skip
   refine am (cw rfl (aj (aD (aY (.inr rfl) rfl (.tmp (rfl:_=AV.v (.bool _))) (Le.out [] [] (gR ?_) rfl rfl rfl trivial trivial)))))
   exact decide_eq_true (hc17 ▸ iW ab)
  ·skip
   refine cg (an (aS rfl (ai (be _ _ rfl rfl (br ab)) ?_)))
   refine aZ rfl (az (⟨k+1,?_,?_,?_⟩))
   ·exact ⟨by omega,jo hnt ab hc17⟩
   ·skip
    refine Le.mkJ [] [] rfl ?_ ?_ trivial trivial ?_
    ·exact ⟨(iS rfl),(iV rfl),(co ag),trivial⟩
    ·exact trivial
    ·kernel_rfl
   ·omega
 ·skip
  have hall:t∉l:=by rwa [List.take_of_length_le ab] at hnt
  refine bK (id (hK2 _ ?_))
  clear hK2;try clear K2
  refine am (cw rfl (aj (aD (aY (.inr rfl) rfl (.tmp (rfl:_=AV.v (.bool _))) (Le.out [] [] (gR ?_) rfl rfl rfl trivial trivial)))))
  exact decide_eq_false hall
def vO:List Tx:=[[60],[60,61],[62],[62,61],[61,61],[33,61]]
theorem kW (t:Tx):Spec Tryz.prog 227 (bk [.v (bt t)] []) (aW (.v (.bool (decide (t∈vO)))) []):=by
 refine Spec.ofN Tryz.func227 rfl Tryz.ntmps227 rfl ?_
 refine am (cw rfl (aj (am (ai (aX _ _ aa rfl ag (by (simp <;> rfl)) ah rfl) ?_))))
 refine dL rfl (ai (aM aa al (fF vO 6 rfl ab t) rfl rfl) ?_)
 refine cw rfl (aj (aD (aY (.inr rfl) rfl (.tmp (rfl:_=AV.v (.bool _))) (Le.out [] [] (gR ?_) rfl rfl rfl trivial trivial))))
 rfl
theorem CW (n:Nat):Spec Tryz.prog 203 (bk [mW (nd 12 n [] [])] []) (aW (.v (.int .i64 1)) []):=by
 refine Spec.ofN Tryz.func203 rfl Tryz.ntmps203 rfl ?_
 refine am (ai (bf (1,0) _ rfl rfl) (aZ rfl (aj (aq (am (bv rfl rfl rfl (cG rfl rfl rfl (iY rfl rfl rfl (cP rfl (aU rfl rfl ah ?_))))))))))
 refine aU rfl rfl ah ?_
 refine aU rfl rfl ah ?_
 refine ai (aH _ _ _ rfl (rfl:_=AV.v (.bool _))) (cP rfl (aU rfl rfl ah ?_))
 refine aU rfl rfl ah ?_
 refine aU rfl rfl ah ?_
 refine ai (aH _ _ _ rfl (rfl:_=AV.v (.bool _))) (aj (bF rfl rfl (aq ?_)))
 refine aO (σ':=aB 80 [] [] [] []) kp ?_
 exact an (aZ rfl (aj (aD (aY (.inr rfl) rfl (.tmp (rfl:_=AV.v _)) (Le.out [] [] .v rfl rfl rfl trivial trivial)))))
theorem Cr (s:Tx):Spec Tryz.prog 203 (bk [mW (nd 14 0 s [])] []) (aW (.v (.int .i64 1)) []):=by
 refine Spec.ofN Tryz.func203 rfl Tryz.ntmps203 rfl ?_
 refine am (ai (bf (1,0) _ rfl rfl) (aZ rfl (aj (aq (am (bv rfl rfl rfl (cG rfl rfl rfl (eJ rfl rfl rfl (cP rfl (aA rfl rfl (aI _ aa rfl rfl rfl) ?_))))))))))
 refine aA rfl rfl (aL _ aa rfl rfl (rfl:_=some (AV.v (.int _ _)))) (aA rfl rfl (bT (r:=true) _ _ rfl rfl rfl) (ai (aH _ _ _ rfl (rfl:_=AV.v (.bool _))) (cP rfl (aU rfl rfl ah ?_))))
 refine aU rfl rfl ah ?_
 refine aU rfl rfl ah ?_
 refine ai (aH _ _ _ rfl (rfl:_=AV.v (.bool _))) (aj (bF rfl rfl (aq ?_)))
 refine aO (σ':=aB 80 [] [] [] []) kp ?_
 exact an (aZ rfl (aj (aD (aY (.inr rfl) rfl (.tmp (rfl:_=AV.v _)) (Le.out [] [] .v rfl rfl rfl trivial trivial)))))
theorem Bd (s:Tx):Spec Tryz.prog 203 (bk [mW (nd 15 0 s [])] []) (aW (.v (.int .i64 1)) []):=by
 refine Spec.ofN Tryz.func203 rfl Tryz.ntmps203 rfl ?_
 refine am (ai (bf (1,0) _ rfl rfl) (aZ rfl (aj (aq (am (bv rfl rfl rfl (cG rfl rfl rfl (eJ rfl rfl rfl (cP rfl (aA rfl rfl (aI _ aa rfl rfl rfl) ?_))))))))))
 refine aA rfl rfl (aL _ aa rfl rfl (rfl:_=some (AV.v (.int _ _)))) (aA rfl rfl (bT (r:=false) _ _ rfl rfl rfl) (ai (aH _ _ _ rfl (rfl:_=AV.v (.bool _))) (cP rfl (aA rfl rfl (aI _ aa rfl rfl rfl) (aA rfl rfl (aL _ aa rfl rfl (rfl:_=some (AV.v (.int _ _)))) (aA rfl rfl (bT (r:=true) _ _ rfl rfl rfl) (ai (aH _ _ _ rfl (rfl:_=AV.v (.bool _))) (aj (bF rfl rfl (aq ?_))))))))))
 refine aO (σ':=aB 80 [] [] [] []) kp ?_
 exact an (aZ rfl (aj (aD (aY (.inr rfl) rfl (.tmp (rfl:_=AV.v _)) (Le.out [] [] .v rfl rfl rfl trivial trivial)))))
theorem AJ (n:Nat):Spec Tryz.prog 203 (bk [mW (nd 13 n [] [])] []) (aW (.v (.int .i64 2)) []):=by
 refine Spec.ofN Tryz.func203 rfl Tryz.ntmps203 rfl ?_
 refine am (ai (bf (1,0) _ rfl rfl) (aZ rfl (aj (aq (am (bv rfl rfl rfl (cG rfl rfl rfl (eJ rfl rfl rfl (cP rfl (aA rfl rfl (aI _ aa rfl rfl rfl) ?_))))))))))
 refine aA rfl rfl (aL _ aa rfl rfl (rfl:_=some (AV.v (.int _ _)))) (aA rfl rfl (bT (r:=false) _ _ rfl rfl rfl) (ai (aH _ _ _ rfl (rfl:_=AV.v (.bool _))) (cP rfl (aA rfl rfl (aI _ aa rfl rfl rfl) (aA rfl rfl (aL _ aa rfl rfl (rfl:_=some (AV.v (.int _ _)))) (aA rfl rfl (bT (r:=false) _ _ rfl rfl rfl) (ai (aH _ _ _ rfl (rfl:_=AV.v (.bool _))) (aj (aR rfl rfl (aJ ?_))))))))))
 refine aq (aq ?_)
 refine aO (σ':=aB 80 [(1,_)] [((1,0),_)] [] []) kp ?_
 exact an (bv rfl rfl rfl (cG rfl rfl rfl (iY rfl rfl rfl (aj (bF rfl rfl (am (aZ rfl (aj (aD (aY (.inr rfl) rfl (.tmp (rfl:_=AV.v _)) (Le.out [] [] .v rfl rfl rfl trivial trivial)))))))))))
theorem Am (L:List Nd) (hL:L.length≤3) (t:Nat→Nat) (ht: ∀ j,t j≤2) (h: ∀ j,j < L.length→Spec Tryz.prog 203 (bk [mW (jA L j)] []) (aW (.v (.int .i64 (t j:Int))) [])) (r:Nat) (hr1:(∀ j,j < L.length→t j=1)→r=1) (hr0: ∀ j,j < L.length→t j≠1→r=0):
  Spec Tryz.prog 203 (bk [.agg [.v (.int .i64 16), .v (.int .i64 0), .v (bt []), .sl L.length (kG L)]] []) (aW (.v (.int .i64 (r:Int))) []):=by
 refine Spec.ofN Tryz.func203 rfl Tryz.ntmps203 rfl ?_
 refine am (ai (bf (1,0) _ rfl rfl) (aZ rfl (aj (aq (am (bv rfl rfl rfl (cG rfl rfl rfl (eJ rfl rfl rfl (cP rfl (aA rfl rfl (aI _ aa rfl rfl rfl) ?_))))))))))
 refine aA rfl rfl (aL _ aa rfl rfl (rfl:_=some (AV.v (.int _ _)))) (aA rfl rfl (bT (r:=false) _ _ rfl rfl rfl) (ai (aH _ _ _ rfl (rfl:_=AV.v (.bool _))) (cP rfl (aA rfl rfl (aI _ aa rfl rfl rfl) (aA rfl rfl (aL _ aa rfl rfl (rfl:_=some (AV.v (.int _ _)))) (aA rfl rfl (bT (r:=false) _ _ rfl rfl rfl) (ai (aH _ _ _ rfl (rfl:_=AV.v (.bool _))) (aj (aR rfl rfl (aJ ?_))))))))))
 refine aq (aq ?_)
 refine aO (σ':=aB 80 [(1,_)] [((1,0),_)] [] []) kp ?_
 refine an (bv rfl rfl rfl (cG rfl rfl rfl (eJ rfl rfl rfl (aj (aR rfl rfl (aJ (aq (am (bv rfl rfl rfl (cG rfl rfl rfl ?_))))))))))
 refine ai (cb (r:=false) _ _ rfl rfl rfl) (cP rfl (aU rfl rfl ah ?_))
 refine aU rfl rfl ah ?_
 refine aU rfl rfl ah ?_
 refine ai (aH _ _ _ rfl (rfl:_=AV.v (.bool _))) (cP rfl (aU rfl rfl ah ?_))
 refine aU rfl rfl ah ?_
 refine aU rfl rfl ah ?_
 refine ai (aH _ _ _ rfl (rfl:_=AV.v (.bool _))) (aj (aR rfl rfl (aJ (aq ?_))))
 refine aO (σ':=aB 80 [(1,_)] [((1,0),_)] [] []) kp ?_
 refine an (aZ rfl (aj (am (aZ rfl (aj (aq (am (bv rfl rfl rfl (cG rfl rfl rfl (eJ rfl rfl rfl ?_))))))))))
 refine cP rfl (aU rfl rfl ah ?_)
 refine aU rfl rfl ah ?_
 refine aU rfl rfl ah ?_
 refine ai (aH _ _ _ rfl (rfl:_=AV.v (.bool _))) (cP rfl (aA rfl rfl (aI _ aa rfl rfl rfl) (aA rfl rfl (aL _ aa rfl rfl (rfl:_=some (AV.v (.int _ _)))) (aA rfl rfl (bT (r:=false) _ _ rfl rfl rfl) (aA rfl rfl (aE _ (rfl:_=AV.v (.bool _))) (aU rfl rfl ah ?_))))))
 refine aU rfl rfl ah ?_
 refine aU rfl rfl ah ?_
 refine aU rfl rfl ah ?_
 refine aA rfl rfl (aH _ _ _ rfl (rfl:_=AV.v (.bool _))) (ai (aH _ _ _ rfl (rfl:_=AV.v (.bool _))) (aj (aR rfl rfl (aJ (aq (aq ?_))))))
 refine aO (σ':=aB 80 [(1,_),(3,_),(4,_)] [((1,0),_)] [] []) kp ?_
 refine an (bv rfl rfl rfl (cG rfl rfl rfl (eJ rfl rfl rfl (cP rfl (aU rfl rfl ah ?_)))))
 refine aU rfl rfl ah ?_
 refine aU rfl rfl ah ?_
 refine ai (aH _ _ _ rfl (rfl:_=AV.v (.bool _))) (aj (aR rfl rfl (aJ (aG fun K14 hK14=> ?_))))
 refine am (aZ rfl (aj (au ?_)))
 refine bB (α:=Nat) (fun j=> j≤L.length∧ ∀ q,q < j→t q=1) 80 [(1,_),(3,_),(4,_)] [((1,0),_)] (fun j=> [(5, .v (.int .i64 (j:Int)))]) (fun j=> []) [] [] (fun j=> L.length - j) 0 ?_ (by
  refine Le.mkJ [] [] rfl ?_ ?_ trivial trivial ?_
  ·exact ⟨(iP rfl),(iV rfl),(iV rfl),(co ag),trivial⟩
  ·exact ⟨(cI rfl rfl rfl),trivial⟩
  ·kernel_rfl) ?_
 ·exact ⟨Nat.zero_le _,fun q hq=> by omega⟩
 intro j hj
 obtain ⟨hj,hall⟩:=hj
 have htj:=ht j
 refine aG fun K16 hK16=> ?_
 refine am (aS rfl (bv rfl rfl rfl (fG rfl rfl rfl (ai (bH _ aa rfl) (ai (bq _ _ rfl rfl rfl) (aj (aV rfl (fun hc67=> ?_) (fun hc67=> ?_))))))))
 ·skip
  refine bz (hK16 _ ?_)
  clear hK16;try clear K16
  refine aq (au (am (bv rfl rfl rfl (fG rfl rfl rfl (aS rfl (ai (bg _ _ aa rfl rfl _ rfl ab (by (simp only [ba,bo,bm,bC,bw,bJ,bD];omega)) ag) ?_))))))
  refine ai (cj _ aa rfl (by exact cH _ _ ab) rfl) ?_
  refine ai (aM aa al (h j ab) rfl rfl) ?_
  refine aZ rfl (aj (am (aS rfl (aS rfl (ai (cb _ _ rfl rfl rfl) (aj (aV rfl (fun hc78=> ?_) (fun hc78=> ?_))))))))
  ·skip
   have hr:=hr0 j ab ab
   refine aq ?_
   refine aO (σ':=aB 80 [] [] [] []) kp ?_
   refine an (aZ rfl (aj (aD (aY (.inr rfl) rfl (.tmp (rfl:_=AV.v (.int _ _))) (Le.out [] [] (co ?_) rfl rfl rfl trivial trivial)))))
   rw [hr];rfl
  ·skip
   have hall1: ∀ q,q < j+1→t q=1:=fun q hq=> by
    by_cases h:q < j
    ·exact hall q h
    ·obtain rfl:q=j:=by omega
     omega
   refine cg ?_
   refine aO (σ':=aB 80 [(1,_),(3,_),(4,_),(5,_)] [((1,0),_)] [] []) kp ?_
   refine an (aS rfl (ai (be _ _ rfl rfl (br ab)) ?_))
   refine aZ rfl (az (⟨j+1,?_,?_,?_⟩))
   ·exact ⟨by omega,hall1⟩
   ·skip
    refine Le.mkJ [] [] rfl ?_ ?_ trivial trivial ?_
    ·exact ⟨(iP rfl),(iV rfl),(iV rfl),(co ag),trivial⟩
    ·exact ⟨(cI rfl rfl rfl),trivial⟩
    ·kernel_rfl
   ·omega
 ·skip
  have hr:=hr1 fun q hq=> hall q ab
  refine bK (id (hK14 _ ?_))
  clear hK14;try clear K14
  refine am (aS rfl (aZ rfl (aj (aD (aY (.inr rfl) rfl (.tmp (rfl:_=AV.v (.int _ _))) (Le.out [] [] (co ?_) rfl rfl rfl trivial trivial))))))
  rw [hr];rfl
theorem DK (L:List Nd) (hL:L.length≤3) (t:Nat→Nat) (ht: ∀ j,t j≤2) (h: ∀ j,j < L.length→Spec Tryz.prog 203 (bk [mW (jA L j)] []) (aW (.v (.int .i64 (t j:Int))) [])) (r:Nat) (hr1:(∀ j,j < L.length→t j=1)→r=1) (hr0: ∀ j,j < L.length→t j≠1→r=0):
  Spec Tryz.prog 203 (bk [.agg [.v (.int .i64 17), .v (.int .i64 0), .v (bt [45]), .sl L.length (kG L)]] []) (aW (.v (.int .i64 (r:Int))) []):=by
 refine Spec.ofN Tryz.func203 rfl Tryz.ntmps203 rfl ?_
 refine am (ai (bf (1,0) _ rfl rfl) (aZ rfl (aj (aq (am (bv rfl rfl rfl (cG rfl rfl rfl (eJ rfl rfl rfl (cP rfl (aA rfl rfl (aI _ aa rfl rfl rfl) ?_))))))))))
 refine aA rfl rfl (aL _ aa rfl rfl (rfl:_=some (AV.v (.int _ _)))) (aA rfl rfl (bT (r:=false) _ _ rfl rfl rfl) (ai (aH _ _ _ rfl (rfl:_=AV.v (.bool _))) (cP rfl (aA rfl rfl (aI _ aa rfl rfl rfl) (aA rfl rfl (aL _ aa rfl rfl (rfl:_=some (AV.v (.int _ _)))) (aA rfl rfl (bT (r:=false) _ _ rfl rfl rfl) (ai (aH _ _ _ rfl (rfl:_=AV.v (.bool _))) (aj (aR rfl rfl (aJ ?_))))))))))
 refine aq (aq ?_)
 refine aO (σ':=aB 80 [(1,_)] [((1,0),_)] [] []) kp ?_
 refine an (bv rfl rfl rfl (cG rfl rfl rfl (eJ rfl rfl rfl (aj (aR rfl rfl (aJ (aq (am (bv rfl rfl rfl (cG rfl rfl rfl ?_))))))))))
 refine ai (cb (r:=true) _ _ rfl rfl rfl) (cP rfl (aA rfl rfl (aI _ aa rfl rfl rfl) (aA rfl rfl (aL _ aa rfl rfl (rfl:_=some (AV.v (.int _ _)))) (aA rfl rfl (cb (r:=false) _ _ rfl rfl rfl) (ai (aH _ _ _ rfl (rfl:_=AV.v (.bool _))) (cP rfl (aU rfl rfl ah ?_)))))))
 refine aU rfl rfl ah ?_
 refine aU rfl rfl ah ?_
 refine ai (aH _ _ _ rfl (rfl:_=AV.v (.bool _))) (aj (aR rfl rfl (aJ (aq ?_))))
 refine aO (σ':=aB 80 [(1,_)] [((1,0),_)] [] []) kp ?_
 refine an (aZ rfl (aj (am (aZ rfl (aj (aq (am (bv rfl rfl rfl (cG rfl rfl rfl (iY rfl rfl rfl ?_))))))))))
 refine cP rfl (aA rfl rfl (aI _ aa rfl rfl rfl) (aA rfl rfl (aL _ aa rfl rfl (rfl:_=some (AV.v (.string _)))) (aA rfl rfl (aT (r:=false) _ _ Tryz.underlying9 rfl rfl rfl) (ai (aH _ _ _ rfl (rfl:_=AV.v (.bool _))) (cP rfl (aA rfl rfl (aI _ aa rfl rfl rfl) (aA rfl rfl (aL _ aa rfl rfl (rfl:_=some (AV.v (.int _ _)))) (aA rfl rfl (bT (r:=false) _ _ rfl rfl rfl) (aA rfl rfl (aE _ (rfl:_=AV.v (.bool _))) (aU rfl rfl ah ?_))))))))))
 refine aU rfl rfl ah ?_
 refine aU rfl rfl ah ?_
 refine aU rfl rfl ah ?_
 refine aA rfl rfl (aH _ _ _ rfl (rfl:_=AV.v (.bool _))) (ai (aH _ _ _ rfl (rfl:_=AV.v (.bool _))) (aj (aR rfl rfl (aJ (aq (aq ?_))))))
 refine aO (σ':=aB 80 [(1,_),(3,_),(4,_)] [((1,0),_)] [] []) kp ?_
 refine an (bv rfl rfl rfl (cG rfl rfl rfl (eJ rfl rfl rfl (cP rfl (aU rfl rfl ah ?_)))))
 refine aU rfl rfl ah ?_
 refine aU rfl rfl ah ?_
 refine ai (aH _ _ _ rfl (rfl:_=AV.v (.bool _))) (aj (aR rfl rfl (aJ (aG fun K14 hK14=> ?_))))
 refine am (aZ rfl (aj (au ?_)))
 refine bB (α:=Nat) (fun j=> j≤L.length∧ ∀ q,q < j→t q=1) 80 [(1,_),(3,_),(4,_)] [((1,0),_)] (fun j=> [(5, .v (.int .i64 (j:Int)))]) (fun j=> []) [] [] (fun j=> L.length - j) 0 ?_ (by
  refine Le.mkJ [] [] rfl ?_ ?_ trivial trivial ?_
  ·exact ⟨(iP rfl),(iV rfl),(iV rfl),(co ag),trivial⟩
  ·exact ⟨(cI rfl rfl rfl),trivial⟩
  ·kernel_rfl) ?_
 ·exact ⟨Nat.zero_le _,fun q hq=> by omega⟩
 intro j hj
 obtain ⟨hj,hall⟩:=hj
 have htj:=ht j
 refine aG fun K16 hK16=> ?_
 refine am (aS rfl (bv rfl rfl rfl (fG rfl rfl rfl (ai (bH _ aa rfl) (ai (bq _ _ rfl rfl rfl) (aj (aV rfl (fun hc67=> ?_) (fun hc67=> ?_))))))))
 ·skip
  refine bz (hK16 _ ?_)
  clear hK16;try clear K16
  refine aq (au (am (bv rfl rfl rfl (fG rfl rfl rfl (aS rfl (ai (bg _ _ aa rfl rfl _ rfl ab (by (simp only [ba,bo,bm,bC,bw,bJ,bD];omega)) ag) ?_))))))
  refine ai (cj _ aa rfl (by exact cH _ _ ab) rfl) ?_
  refine ai (aM aa al (h j ab) rfl rfl) ?_
  refine aZ rfl (aj (am (aS rfl (aS rfl (ai (cb _ _ rfl rfl rfl) (aj (aV rfl (fun hc78=> ?_) (fun hc78=> ?_))))))))
  ·skip
   have hr:=hr0 j ab ab
   refine aq ?_
   refine aO (σ':=aB 80 [] [] [] []) kp ?_
   refine an (aZ rfl (aj (aD (aY (.inr rfl) rfl (.tmp (rfl:_=AV.v (.int _ _))) (Le.out [] [] (co ?_) rfl rfl rfl trivial trivial)))))
   rw [hr];rfl
  ·skip
   have hall1: ∀ q,q < j+1→t q=1:=fun q hq=> by
    by_cases h:q < j
    ·exact hall q h
    ·obtain rfl:q=j:=by omega
     omega
   refine cg ?_
   refine aO (σ':=aB 80 [(1,_),(3,_),(4,_),(5,_)] [((1,0),_)] [] []) kp ?_
   refine an (aS rfl (ai (be _ _ rfl rfl (br ab)) ?_))
   refine aZ rfl (az (⟨j+1,?_,?_,?_⟩))
   ·exact ⟨by omega,hall1⟩
   ·skip
    refine Le.mkJ [] [] rfl ?_ ?_ trivial trivial ?_
    ·exact ⟨(iP rfl),(iV rfl),(iV rfl),(co ag),trivial⟩
    ·exact ⟨(cI rfl rfl rfl),trivial⟩
    ·kernel_rfl
   ·omega
 ·skip
  have hr:=hr1 fun q hq=> hall q ab
  refine bK (id (hK14 _ ?_))
  clear hK14;try clear K14
  refine am (aS rfl (aZ rfl (aj (aD (aY (.inr rfl) rfl (.tmp (rfl:_=AV.v (.int _ _))) (Le.out [] [] (co ?_) rfl rfl rfl trivial trivial))))))
  rw [hr];rfl
theorem Dc (L:List Nd) (hL:L.length≤3) (t:Nat→Nat) (ht: ∀ j,t j≤2) (h: ∀ j,j < L.length→Spec Tryz.prog 203 (bk [mW (jA L j)] []) (aW (.v (.int .i64 (t j:Int))) [])) (r:Nat) (hr1:(∀ j,j < L.length→t j=2)→r=2) (hr0: ∀ j,j < L.length→t j≠2→r=0):
  Spec Tryz.prog 203 (bk [.agg [.v (.int .i64 17), .v (.int .i64 0), .v (bt [33]), .sl L.length (kG L)]] []) (aW (.v (.int .i64 (r:Int))) []):=by
 refine Spec.ofN Tryz.func203 rfl Tryz.ntmps203 rfl ?_
 refine am (ai (bf (1,0) _ rfl rfl) (aZ rfl (aj (aq (am (bv rfl rfl rfl (cG rfl rfl rfl (eJ rfl rfl rfl (cP rfl (aA rfl rfl (aI _ aa rfl rfl rfl) ?_))))))))))
 refine aA rfl rfl (aL _ aa rfl rfl (rfl:_=some (AV.v (.int _ _)))) (aA rfl rfl (bT (r:=false) _ _ rfl rfl rfl) (ai (aH _ _ _ rfl (rfl:_=AV.v (.bool _))) (cP rfl (aA rfl rfl (aI _ aa rfl rfl rfl) (aA rfl rfl (aL _ aa rfl rfl (rfl:_=some (AV.v (.int _ _)))) (aA rfl rfl (bT (r:=false) _ _ rfl rfl rfl) (ai (aH _ _ _ rfl (rfl:_=AV.v (.bool _))) (aj (aR rfl rfl (aJ ?_))))))))))
 refine aq (aq ?_)
 refine aO (σ':=aB 80 [(1,_)] [((1,0),_)] [] []) kp ?_
 refine an (bv rfl rfl rfl (cG rfl rfl rfl (eJ rfl rfl rfl (aj (aR rfl rfl (aJ (aq (am (bv rfl rfl rfl (cG rfl rfl rfl ?_))))))))))
 refine ai (cb (r:=true) _ _ rfl rfl rfl) (cP rfl (aA rfl rfl (aI _ aa rfl rfl rfl) (aA rfl rfl (aL _ aa rfl rfl (rfl:_=some (AV.v (.int _ _)))) (aA rfl rfl (cb (r:=false) _ _ rfl rfl rfl) (ai (aH _ _ _ rfl (rfl:_=AV.v (.bool _))) (cP rfl (aU rfl rfl ah ?_)))))))
 refine aU rfl rfl ah ?_
 refine aU rfl rfl ah ?_
 refine ai (aH _ _ _ rfl (rfl:_=AV.v (.bool _))) (aj (aR rfl rfl (aJ (aq ?_))))
 refine aO (σ':=aB 80 [(1,_)] [((1,0),_)] [] []) kp ?_
 refine an (aZ rfl (aj (am (aZ rfl (aj (aq (am (bv rfl rfl rfl (cG rfl rfl rfl (iY rfl rfl rfl ?_))))))))))
 refine cP rfl (aA rfl rfl (aI _ aa rfl rfl rfl) (aA rfl rfl (aL _ aa rfl rfl (rfl:_=some (AV.v (.string _)))) (aA rfl rfl (aT (r:=true) _ _ Tryz.underlying9 rfl rfl rfl) (ai (aH _ _ _ rfl (rfl:_=AV.v (.bool _))) (cP rfl (aU rfl rfl ah ?_))))))
 refine aU rfl rfl ah ?_
 refine aU rfl rfl ah ?_
 refine aU rfl rfl ah ?_
 refine mP rfl rfl (mP rfl rfl (mP rfl rfl (mP rfl rfl (aU rfl rfl ah ?_))))
 refine ai (aH _ _ _ rfl (rfl:_=AV.v (.bool _))) (aj (bF rfl rfl (aq ?_)))
 refine aO (σ':=aB 80 [(1,_)] [((1,0),_)] [] []) kp ?_
 refine an (aZ rfl (aj (an (aZ rfl (aj (aq (am (bv rfl rfl rfl (cG rfl rfl rfl (eJ rfl rfl rfl ?_))))))))))
 refine cP rfl (aU rfl rfl ah ?_)
 refine aU rfl rfl ah ?_
 refine aU rfl rfl ah ?_
 refine ai (aH _ _ _ rfl (rfl:_=AV.v (.bool _))) (aj (aR rfl rfl (aJ (aG fun K15 hK15=> ?_))))
 refine am (aZ rfl (aj (au ?_)))
 refine bB (α:=Nat) (fun j=> j≤L.length∧ ∀ q,q < j→t q=2) 80 [(1,_),(3,_),(4,_)] [((1,0),_)] (fun j=> [(5, .v (.int .i64 (j:Int)))]) (fun j=> []) [] [] (fun j=> L.length - j) 0 ?_ (by
  refine Le.mkJ [] [] rfl ?_ ?_ trivial trivial ?_
  ·exact ⟨(iP rfl),(iV rfl),(iV rfl),(co ag),trivial⟩
  ·exact ⟨(cI rfl rfl rfl),trivial⟩
  ·kernel_rfl) ?_
 ·exact ⟨Nat.zero_le _,fun q hq=> by omega⟩
 intro j hj
 obtain ⟨hj,hall⟩:=hj
 have htj:=ht j
 refine aG fun K17 hK17=> ?_
 refine am (aS rfl (bv rfl rfl rfl (fG rfl rfl rfl (ai (bH _ aa rfl) (ai (bq _ _ rfl rfl rfl) (aj (aV rfl (fun hc67=> ?_) (fun hc67=> ?_))))))))
 ·skip
  refine bz (hK17 _ ?_)
  clear hK17;try clear K17
  refine aq (au (am (bv rfl rfl rfl (fG rfl rfl rfl (aS rfl (ai (bg _ _ aa rfl rfl _ rfl ab (by (simp only [ba,bo,bm,bC,bw,bJ,bD];omega)) ag) ?_))))))
  refine ai (cj _ aa rfl (by exact cH _ _ ab) rfl) ?_
  refine ai (aM aa al (h j ab) rfl rfl) ?_
  refine aZ rfl (aj (am (aS rfl (aS rfl (ai (cb _ _ rfl rfl rfl) (aj (aV rfl (fun hc78=> ?_) (fun hc78=> ?_))))))))
  ·skip
   have hr:=hr0 j ab ab
   refine aq ?_
   refine aO (σ':=aB 80 [] [] [] []) kp ?_
   refine an (aZ rfl (aj (aD (aY (.inr rfl) rfl (.tmp (rfl:_=AV.v (.int _ _))) (Le.out [] [] (co ?_) rfl rfl rfl trivial trivial)))))
   rw [hr];rfl
  ·skip
   have hall1: ∀ q,q < j+1→t q=2:=fun q hq=> by
    by_cases h:q < j
    ·exact hall q h
    ·obtain rfl:q=j:=by omega
     omega
   refine cg ?_
   refine aO (σ':=aB 80 [(1,_),(3,_),(4,_),(5,_)] [((1,0),_)] [] []) kp ?_
   refine an (aS rfl (ai (be _ _ rfl rfl (br ab)) ?_))
   refine aZ rfl (az (⟨j+1,?_,?_,?_⟩))
   ·exact ⟨by omega,hall1⟩
   ·skip
    refine Le.mkJ [] [] rfl ?_ ?_ trivial trivial ?_
    ·exact ⟨(iP rfl),(iV rfl),(iV rfl),(co ag),trivial⟩
    ·exact ⟨(cI rfl rfl rfl),trivial⟩
    ·kernel_rfl
   ·omega
 ·skip
  have hr:=hr1 fun q hq=> hall q ab
  refine bK (id (hK15 _ ?_))
  clear hK15;try clear K15
  refine am (aS rfl (aZ rfl (aj (aD (aY (.inr rfl) rfl (.tmp (rfl:_=AV.v (.int _ _))) (Le.out [] [] (co ?_) rfl rfl rfl trivial trivial))))))
  rw [hr];rfl
theorem sd (s:Tx) (hs1:s∈[[38,38],[124,124]]) (hs2:s∉vO) (L:List Nd) (hL:L.length≤3) (t:Nat→Nat) (ht: ∀ j,t j≤2) (h: ∀ j,j < L.length→Spec Tryz.prog 203 (bk [mW (jA L j)] []) (aW (.v (.int .i64 (t j:Int))) [])) (r:Nat) (hr1:(∀ j,j < L.length→t j=2)→r=2) (hr0: ∀ j,j < L.length→t j≠2→r=0):
  Spec Tryz.prog 203 (bk [.agg [.v (.int .i64 18), .v (.int .i64 0), .v (bt s), .sl L.length (kG L)]] []) (aW (.v (.int .i64 (r:Int))) []):=by
 refine Spec.ofN Tryz.func203 rfl Tryz.ntmps203 rfl ?_
 refine am (ai (bf (1,0) _ rfl rfl) (aZ rfl (aj (aq (am (bv rfl rfl rfl (cG rfl rfl rfl (eJ rfl rfl rfl (cP rfl (aA rfl rfl (aI _ aa rfl rfl rfl) ?_))))))))))
 refine aA rfl rfl (aL _ aa rfl rfl (rfl:_=some (AV.v (.int _ _)))) (aA rfl rfl (bT (r:=false) _ _ rfl rfl rfl) (ai (aH _ _ _ rfl (rfl:_=AV.v (.bool _))) (cP rfl (aA rfl rfl (aI _ aa rfl rfl rfl) (aA rfl rfl (aL _ aa rfl rfl (rfl:_=some (AV.v (.int _ _)))) (aA rfl rfl (bT (r:=false) _ _ rfl rfl rfl) (ai (aH _ _ _ rfl (rfl:_=AV.v (.bool _))) (aj (aR rfl rfl (aJ ?_))))))))))
 refine aq (aq ?_)
 refine aO (σ':=aB 80 [(1,_)] [((1,0),_)] [] []) kp ?_
 refine an (bv rfl rfl rfl (cG rfl rfl rfl (eJ rfl rfl rfl (aj (aR rfl rfl (aJ (aq (am (bv rfl rfl rfl (cG rfl rfl rfl ?_))))))))))
 refine ai (cb (r:=true) _ _ rfl rfl rfl) (cP rfl (aA rfl rfl (aI _ aa rfl rfl rfl) (aA rfl rfl (aL _ aa rfl rfl (rfl:_=some (AV.v (.int _ _)))) (aA rfl rfl (cb (r:=true) _ _ rfl rfl rfl) (ai (aH _ _ _ rfl (rfl:_=AV.v (.bool _))) (cP rfl (aA rfl rfl (aI _ aa rfl rfl rfl) (aA rfl rfl (aL _ aa rfl rfl (rfl:_=some (AV.v (.int _ _)))) (aA rfl rfl (cb (r:=false) _ _ rfl rfl rfl) (ai (aH _ _ _ rfl (rfl:_=AV.v (.bool _))) ?_))))))))))
 refine aj (aR rfl rfl (aJ (aq ?_)))
 refine aO (σ':=aB 80 [(1,_)] [((1,0),_)] [] []) kp ?_
 refine an (aZ rfl (aj (am (aZ rfl (aj (aq (am (bv rfl rfl rfl (cG rfl rfl rfl (eJ rfl rfl rfl ?_))))))))))
 refine cP rfl (aU rfl rfl ah ?_)
 refine aU rfl rfl ah ?_
 refine aU rfl rfl ah ?_
 refine ai (aH _ _ _ rfl (rfl:_=AV.v (.bool _))) (cP rfl (aA rfl rfl (aI _ aa rfl rfl rfl) (aA rfl rfl (aL _ aa rfl rfl (rfl:_=some (AV.v (.int _ _)))) (aA rfl rfl (bT (r:=true) _ _ rfl rfl rfl) (aA rfl rfl (aE _ (rfl:_=AV.v (.bool _))) (aA rfl rfl (aX _ _ aa rfl ag (by (simp <;> rfl)) ah rfl) ?_))))))
 refine aA rfl rfl (aI _ aa rfl rfl rfl) (aA rfl rfl (aL _ aa rfl rfl (rfl:_=some (AV.v (.string _)))) (aA rfl rfl (aM aa al (fF [[38,38],[124,124]] 2 rfl ab s) rfl rfl) ?_))
 refine aA rfl rfl (aH _ _ _ rfl (rfl:_=AV.v (.bool _))) (ai (aH _ _ _ rfl (rfl:_=AV.v (.bool _))) (aj (bF rfl (decide_eq_true hs1) ?_)))
 refine aq ?_
 refine aO (σ':=aB 80 [(1,_)] [((1,0),_)] [] []) kp ?_
 refine an (aZ rfl (aj (an (aZ rfl (aj (aq (am (bv rfl rfl rfl (cG rfl rfl rfl (iY rfl rfl rfl ?_))))))))))
 refine cP rfl (aA rfl rfl (aI _ aa rfl rfl rfl) (aA rfl rfl (aL _ aa rfl rfl (rfl:_=some (AV.v (.string _)))) (aA rfl rfl (aM aa al (kW s) rfl rfl) ?_)))
 refine ai (aH _ _ _ rfl (rfl:_=AV.v (.bool _))) (aj (aR rfl (decide_eq_false hs2) ?_))
 refine aJ (aG fun K15 hK15=> ?_)
 refine am (aZ rfl (aj (au ?_)))
 refine bB (α:=Nat) (fun j=> j≤L.length∧ ∀ q,q < j→t q=2) 80 [(1,_),(3,_),(4,_)] [((1,0),_)] (fun j=> [(5, .v (.int .i64 (j:Int)))]) (fun j=> []) [] [] (fun j=> L.length - j) 0 ?_ (by
  refine Le.mkJ [] [] rfl ?_ ?_ trivial trivial ?_
  ·exact ⟨(iP rfl),(iV rfl),(iV rfl),(co ag),trivial⟩
  ·exact ⟨(cI rfl rfl rfl),trivial⟩
  ·kernel_rfl) ?_
 ·exact ⟨Nat.zero_le _,fun q hq=> by omega⟩
 intro j hj
 obtain ⟨hj,hall⟩:=hj
 have htj:=ht j
 refine aG fun K17 hK17=> ?_
 refine am (aS rfl (bv rfl rfl rfl (fG rfl rfl rfl (ai (bH _ aa rfl) (ai (bq _ _ rfl rfl rfl) (aj (aV rfl (fun hc67=> ?_) (fun hc67=> ?_))))))))
 ·skip
  refine bz (hK17 _ ?_)
  clear hK17;try clear K17
  refine aq (au (am (bv rfl rfl rfl (fG rfl rfl rfl (aS rfl (ai (bg _ _ aa rfl rfl _ rfl ab (by (simp only [ba,bo,bm,bC,bw,bJ,bD];omega)) ag) ?_))))))
  refine ai (cj _ aa rfl (by exact cH _ _ ab) rfl) ?_
  refine ai (aM aa al (h j ab) rfl rfl) ?_
  refine aZ rfl (aj (am (aS rfl (aS rfl (ai (cb _ _ rfl rfl rfl) (aj (aV rfl (fun hc78=> ?_) (fun hc78=> ?_))))))))
  ·skip
   have hr:=hr0 j ab ab
   refine aq ?_
   refine aO (σ':=aB 80 [] [] [] []) kp ?_
   refine an (aZ rfl (aj (aD (aY (.inr rfl) rfl (.tmp (rfl:_=AV.v (.int _ _))) (Le.out [] [] (co ?_) rfl rfl rfl trivial trivial)))))
   rw [hr];rfl
  ·skip
   have hall1: ∀ q,q < j+1→t q=2:=fun q hq=> by
    by_cases h:q < j
    ·exact hall q h
    ·obtain rfl:q=j:=by omega
     omega
   refine cg ?_
   refine aO (σ':=aB 80 [(1,_),(3,_),(4,_),(5,_)] [((1,0),_)] [] []) kp ?_
   refine an (aS rfl (ai (be _ _ rfl rfl (br ab)) ?_))
   refine aZ rfl (az (⟨j+1,?_,?_,?_⟩))
   ·exact ⟨by omega,hall1⟩
   ·skip
    refine Le.mkJ [] [] rfl ?_ ?_ trivial trivial ?_
    ·exact ⟨(iP rfl),(iV rfl),(iV rfl),(co ag),trivial⟩
    ·exact ⟨(cI rfl rfl rfl),trivial⟩
    ·kernel_rfl
   ·omega
 ·skip
  have hr:=hr1 fun q hq=> hall q ab
  refine bK (id (hK15 _ ?_))
  clear hK15;try clear K15
  refine am (aS rfl (aZ rfl (aj (aD (aY (.inr rfl) rfl (.tmp (rfl:_=AV.v (.int _ _))) (Le.out [] [] (co ?_) rfl rfl rfl trivial trivial))))))
  rw [hr];rfl
theorem Dv (s:Tx) (hs1:s∉[[38,38],[124,124]]) (hs2:s∈vO) (L:List Nd) (hL:L.length≤3) (t:Nat→Nat) (ht: ∀ j,t j≤2) (h: ∀ j,j < L.length→Spec Tryz.prog 203 (bk [mW (jA L j)] []) (aW (.v (.int .i64 (t j:Int))) [])) (r:Nat) (hr1:(∀ j,j < L.length→t j=1)→r=2) (hr0: ∀ j,j < L.length→t j≠1→r=0):
  Spec Tryz.prog 203 (bk [.agg [.v (.int .i64 18), .v (.int .i64 0), .v (bt s), .sl L.length (kG L)]] []) (aW (.v (.int .i64 (r:Int))) []):=by
 refine Spec.ofN Tryz.func203 rfl Tryz.ntmps203 rfl ?_
 refine am (ai (bf (1,0) _ rfl rfl) (aZ rfl (aj (aq (am (bv rfl rfl rfl (cG rfl rfl rfl (eJ rfl rfl rfl (cP rfl (aA rfl rfl (aI _ aa rfl rfl rfl) ?_))))))))))
 refine aA rfl rfl (aL _ aa rfl rfl (rfl:_=some (AV.v (.int _ _)))) (aA rfl rfl (bT (r:=false) _ _ rfl rfl rfl) (ai (aH _ _ _ rfl (rfl:_=AV.v (.bool _))) (cP rfl (aA rfl rfl (aI _ aa rfl rfl rfl) (aA rfl rfl (aL _ aa rfl rfl (rfl:_=some (AV.v (.int _ _)))) (aA rfl rfl (bT (r:=false) _ _ rfl rfl rfl) (ai (aH _ _ _ rfl (rfl:_=AV.v (.bool _))) (aj (aR rfl rfl (aJ ?_))))))))))
 refine aq (aq ?_)
 refine aO (σ':=aB 80 [(1,_)] [((1,0),_)] [] []) kp ?_
 refine an (bv rfl rfl rfl (cG rfl rfl rfl (eJ rfl rfl rfl (aj (aR rfl rfl (aJ (aq (am (bv rfl rfl rfl (cG rfl rfl rfl ?_))))))))))
 refine ai (cb (r:=true) _ _ rfl rfl rfl) (cP rfl (aA rfl rfl (aI _ aa rfl rfl rfl) (aA rfl rfl (aL _ aa rfl rfl (rfl:_=some (AV.v (.int _ _)))) (aA rfl rfl (cb (r:=true) _ _ rfl rfl rfl) (ai (aH _ _ _ rfl (rfl:_=AV.v (.bool _))) (cP rfl (aA rfl rfl (aI _ aa rfl rfl rfl) (aA rfl rfl (aL _ aa rfl rfl (rfl:_=some (AV.v (.int _ _)))) (aA rfl rfl (cb (r:=false) _ _ rfl rfl rfl) (ai (aH _ _ _ rfl (rfl:_=AV.v (.bool _))) ?_))))))))))
 refine aj (aR rfl rfl (aJ (aq ?_)))
 refine aO (σ':=aB 80 [(1,_)] [((1,0),_)] [] []) kp ?_
 refine an (aZ rfl (aj (am (aZ rfl (aj (aq (am (bv rfl rfl rfl (cG rfl rfl rfl (eJ rfl rfl rfl ?_))))))))))
 refine cP rfl (aU rfl rfl ah ?_)
 refine aU rfl rfl ah ?_
 refine aU rfl rfl ah ?_
 refine ai (aH _ _ _ rfl (rfl:_=AV.v (.bool _))) (cP rfl (aA rfl rfl (aI _ aa rfl rfl rfl) (aA rfl rfl (aL _ aa rfl rfl (rfl:_=some (AV.v (.int _ _)))) (aA rfl rfl (bT (r:=true) _ _ rfl rfl rfl) (aA rfl rfl (aE _ (rfl:_=AV.v (.bool _))) (aA rfl rfl (aX _ _ aa rfl ag (by (simp <;> rfl)) ah rfl) ?_))))))
 refine aA rfl rfl (aI _ aa rfl rfl rfl) (aA rfl rfl (aL _ aa rfl rfl (rfl:_=some (AV.v (.string _)))) (aA rfl rfl (aM aa al (fF [[38,38],[124,124]] 2 rfl ab s) rfl rfl) ?_))
 refine aA rfl rfl (aH _ _ _ rfl (rfl:_=AV.v (.bool _))) (ai (aH _ _ _ rfl (rfl:_=AV.v (.bool _))) (aj (aR rfl (decide_eq_false hs1) ?_)))
 refine aJ (aq (aq ?_))
 refine aO (σ':=aB 80 [(1,_),(3,_),(4,_)] [((1,0),_)] [] []) kp ?_
 refine an (bv rfl rfl rfl (cG rfl rfl rfl (iY rfl rfl rfl (cP rfl (aA rfl rfl (aI _ aa rfl rfl rfl) (aA rfl rfl (aL _ aa rfl rfl (rfl:_=some (AV.v (.string _)))) (aA rfl rfl (aM aa al (kW s) rfl rfl) ?_)))))))
 refine ai (aH _ _ _ rfl (rfl:_=AV.v (.bool _))) (aj (bF rfl (decide_eq_true hs2) ?_))
 refine an (aZ rfl (aj (aG fun K14 hK14=> ?_)))
 refine am (aZ rfl (aj (au ?_)))
 refine bB (α:=Nat) (fun j=> j≤L.length∧ ∀ q,q < j→t q=1) 80 [(1,_),(3,_),(4,_)] [((1,0),_)] (fun j=> [(5, .v (.int .i64 (j:Int)))]) (fun j=> []) [] [] (fun j=> L.length - j) 0 ?_ (by
  refine Le.mkJ [] [] rfl ?_ ?_ trivial trivial ?_
  ·exact ⟨(iP rfl),(iV rfl),(iV rfl),(co ag),trivial⟩
  ·exact ⟨(cI rfl rfl rfl),trivial⟩
  ·kernel_rfl) ?_
 ·exact ⟨Nat.zero_le _,fun q hq=> by omega⟩
 intro j hj
 obtain ⟨hj,hall⟩:=hj
 have htj:=ht j
 refine aG fun K16 hK16=> ?_
 refine am (aS rfl (bv rfl rfl rfl (fG rfl rfl rfl (ai (bH _ aa rfl) (ai (bq _ _ rfl rfl rfl) (aj (aV rfl (fun hc67=> ?_) (fun hc67=> ?_))))))))
 ·skip
  refine bz (hK16 _ ?_)
  clear hK16;try clear K16
  refine aq (au (am (bv rfl rfl rfl (fG rfl rfl rfl (aS rfl (ai (bg _ _ aa rfl rfl _ rfl ab (by (simp only [ba,bo,bm,bC,bw,bJ,bD];omega)) ag) ?_))))))
  refine ai (cj _ aa rfl (by exact cH _ _ ab) rfl) ?_
  refine ai (aM aa al (h j ab) rfl rfl) ?_
  refine aZ rfl (aj (am (aS rfl (aS rfl (ai (cb _ _ rfl rfl rfl) (aj (aV rfl (fun hc78=> ?_) (fun hc78=> ?_))))))))
  ·skip
   have hr:=hr0 j ab ab
   refine aq ?_
   refine aO (σ':=aB 80 [] [] [] []) kp ?_
   refine an (aZ rfl (aj (aD (aY (.inr rfl) rfl (.tmp (rfl:_=AV.v (.int _ _))) (Le.out [] [] (co ?_) rfl rfl rfl trivial trivial)))))
   rw [hr];rfl
  ·skip
   have hall1: ∀ q,q < j+1→t q=1:=fun q hq=> by
    by_cases h:q < j
    ·exact hall q h
    ·obtain rfl:q=j:=by omega
     omega
   refine cg ?_
   refine aO (σ':=aB 80 [(1,_),(3,_),(4,_),(5,_)] [((1,0),_)] [] []) kp ?_
   refine an (aS rfl (ai (be _ _ rfl rfl (br ab)) ?_))
   refine aZ rfl (az (⟨j+1,?_,?_,?_⟩))
   ·exact ⟨by omega,hall1⟩
   ·skip
    refine Le.mkJ [] [] rfl ?_ ?_ trivial trivial ?_
    ·exact ⟨(iP rfl),(iV rfl),(iV rfl),(co ag),trivial⟩
    ·exact ⟨(cI rfl rfl rfl),trivial⟩
    ·kernel_rfl
   ·omega
 ·skip
  have hr:=hr1 fun q hq=> hall q ab
  refine bK (id (hK14 _ ?_))
  clear hK14;try clear K14
  refine am (aS rfl (aZ rfl (aj (aD (aY (.inr rfl) rfl (.tmp (rfl:_=AV.v (.int _ _))) (Le.out [] [] (co ?_) rfl rfl rfl trivial trivial))))))
  rw [hr];rfl
theorem xX (s:Tx) (hs1:s∉[[38,38],[124,124]]) (hs2:s∉vO) (L:List Nd) (hL:L.length≤3) (t:Nat→Nat) (ht: ∀ j,t j≤2) (h: ∀ j,j < L.length→Spec Tryz.prog 203 (bk [mW (jA L j)] []) (aW (.v (.int .i64 (t j:Int))) [])) (r:Nat) (hr1:(∀ j,j < L.length→t j=1)→r=1) (hr0: ∀ j,j < L.length→t j≠1→r=0):
  Spec Tryz.prog 203 (bk [.agg [.v (.int .i64 18), .v (.int .i64 0), .v (bt s), .sl L.length (kG L)]] []) (aW (.v (.int .i64 (r:Int))) []):=by
 refine Spec.ofN Tryz.func203 rfl Tryz.ntmps203 rfl ?_
 refine am (ai (bf (1,0) _ rfl rfl) (aZ rfl (aj (aq (am (bv rfl rfl rfl (cG rfl rfl rfl (eJ rfl rfl rfl (cP rfl (aA rfl rfl (aI _ aa rfl rfl rfl) ?_))))))))))
 refine aA rfl rfl (aL _ aa rfl rfl (rfl:_=some (AV.v (.int _ _)))) (aA rfl rfl (bT (r:=false) _ _ rfl rfl rfl) (ai (aH _ _ _ rfl (rfl:_=AV.v (.bool _))) (cP rfl (aA rfl rfl (aI _ aa rfl rfl rfl) (aA rfl rfl (aL _ aa rfl rfl (rfl:_=some (AV.v (.int _ _)))) (aA rfl rfl (bT (r:=false) _ _ rfl rfl rfl) (ai (aH _ _ _ rfl (rfl:_=AV.v (.bool _))) (aj (aR rfl rfl (aJ ?_))))))))))
 refine aq (aq ?_)
 refine aO (σ':=aB 80 [(1,_)] [((1,0),_)] [] []) kp ?_
 refine an (bv rfl rfl rfl (cG rfl rfl rfl (eJ rfl rfl rfl (aj (aR rfl rfl (aJ (aq (am (bv rfl rfl rfl (cG rfl rfl rfl ?_))))))))))
 refine ai (cb (r:=true) _ _ rfl rfl rfl) (cP rfl (aA rfl rfl (aI _ aa rfl rfl rfl) (aA rfl rfl (aL _ aa rfl rfl (rfl:_=some (AV.v (.int _ _)))) (aA rfl rfl (cb (r:=true) _ _ rfl rfl rfl) (ai (aH _ _ _ rfl (rfl:_=AV.v (.bool _))) (cP rfl (aA rfl rfl (aI _ aa rfl rfl rfl) (aA rfl rfl (aL _ aa rfl rfl (rfl:_=some (AV.v (.int _ _)))) (aA rfl rfl (cb (r:=false) _ _ rfl rfl rfl) (ai (aH _ _ _ rfl (rfl:_=AV.v (.bool _))) ?_))))))))))
 refine aj (aR rfl rfl (aJ (aq ?_)))
 refine aO (σ':=aB 80 [(1,_)] [((1,0),_)] [] []) kp ?_
 refine an (aZ rfl (aj (am (aZ rfl (aj (aq (am (bv rfl rfl rfl (cG rfl rfl rfl (eJ rfl rfl rfl ?_))))))))))
 refine cP rfl (aU rfl rfl ah ?_)
 refine aU rfl rfl ah ?_
 refine aU rfl rfl ah ?_
 refine ai (aH _ _ _ rfl (rfl:_=AV.v (.bool _))) (cP rfl (aA rfl rfl (aI _ aa rfl rfl rfl) (aA rfl rfl (aL _ aa rfl rfl (rfl:_=some (AV.v (.int _ _)))) (aA rfl rfl (bT (r:=true) _ _ rfl rfl rfl) (aA rfl rfl (aE _ (rfl:_=AV.v (.bool _))) (aA rfl rfl (aX _ _ aa rfl ag (by (simp <;> rfl)) ah rfl) ?_))))))
 refine aA rfl rfl (aI _ aa rfl rfl rfl) (aA rfl rfl (aL _ aa rfl rfl (rfl:_=some (AV.v (.string _)))) (aA rfl rfl (aM aa al (fF [[38,38],[124,124]] 2 rfl ab s) rfl rfl) ?_))
 refine aA rfl rfl (aH _ _ _ rfl (rfl:_=AV.v (.bool _))) (ai (aH _ _ _ rfl (rfl:_=AV.v (.bool _))) (aj (aR rfl (decide_eq_false hs1) ?_)))
 refine aJ (aq (aq ?_))
 refine aO (σ':=aB 80 [(1,_),(3,_),(4,_)] [((1,0),_)] [] []) kp ?_
 refine an (bv rfl rfl rfl (cG rfl rfl rfl (iY rfl rfl rfl (cP rfl (aA rfl rfl (aI _ aa rfl rfl rfl) (aA rfl rfl (aL _ aa rfl rfl (rfl:_=some (AV.v (.string _)))) (aA rfl rfl (aM aa al (kW s) rfl rfl) ?_)))))))
 refine ai (aH _ _ _ rfl (rfl:_=AV.v (.bool _))) (aj (aR rfl (decide_eq_false hs2) ?_))
 refine aJ (aG fun K14 hK14=> ?_)
 refine am (aZ rfl (aj (au ?_)))
 refine bB (α:=Nat) (fun j=> j≤L.length∧ ∀ q,q < j→t q=1) 80 [(1,_),(3,_),(4,_)] [((1,0),_)] (fun j=> [(5, .v (.int .i64 (j:Int)))]) (fun j=> []) [] [] (fun j=> L.length - j) 0 ?_ (by
  refine Le.mkJ [] [] rfl ?_ ?_ trivial trivial ?_
  ·exact ⟨(iP rfl),(iV rfl),(iV rfl),(co ag),trivial⟩
  ·exact ⟨(cI rfl rfl rfl),trivial⟩
  ·kernel_rfl) ?_
 ·exact ⟨Nat.zero_le _,fun q hq=> by omega⟩
 intro j hj
 obtain ⟨hj,hall⟩:=hj
 have htj:=ht j
 refine aG fun K16 hK16=> ?_
 refine am (aS rfl (bv rfl rfl rfl (fG rfl rfl rfl (ai (bH _ aa rfl) (ai (bq _ _ rfl rfl rfl) (aj (aV rfl (fun hc67=> ?_) (fun hc67=> ?_))))))))
 ·skip
  refine bz (hK16 _ ?_)
  clear hK16;try clear K16
  refine aq (au (am (bv rfl rfl rfl (fG rfl rfl rfl (aS rfl (ai (bg _ _ aa rfl rfl _ rfl ab (by (simp only [ba,bo,bm,bC,bw,bJ,bD];omega)) ag) ?_))))))
  refine ai (cj _ aa rfl (by exact cH _ _ ab) rfl) ?_
  refine ai (aM aa al (h j ab) rfl rfl) ?_
  refine aZ rfl (aj (am (aS rfl (aS rfl (ai (cb _ _ rfl rfl rfl) (aj (aV rfl (fun hc78=> ?_) (fun hc78=> ?_))))))))
  ·skip
   have hr:=hr0 j ab ab
   refine aq ?_
   refine aO (σ':=aB 80 [] [] [] []) kp ?_
   refine an (aZ rfl (aj (aD (aY (.inr rfl) rfl (.tmp (rfl:_=AV.v (.int _ _))) (Le.out [] [] (co ?_) rfl rfl rfl trivial trivial)))))
   rw [hr];rfl
  ·skip
   have hall1: ∀ q,q < j+1→t q=1:=fun q hq=> by
    by_cases h:q < j
    ·exact hall q h
    ·obtain rfl:q=j:=by omega
     omega
   refine cg ?_
   refine aO (σ':=aB 80 [(1,_),(3,_),(4,_),(5,_)] [((1,0),_)] [] []) kp ?_
   refine an (aS rfl (ai (be _ _ rfl rfl (br ab)) ?_))
   refine aZ rfl (az (⟨j+1,?_,?_,?_⟩))
   ·exact ⟨by omega,hall1⟩
   ·skip
    refine Le.mkJ [] [] rfl ?_ ?_ trivial trivial ?_
    ·exact ⟨(iP rfl),(iV rfl),(iV rfl),(co ag),trivial⟩
    ·exact ⟨(cI rfl rfl rfl),trivial⟩
    ·kernel_rfl
   ·omega
 ·skip
  have hr:=hr1 fun q hq=> hall q ab
  refine bK (id (hK14 _ ?_))
  clear hK14;try clear K14
  refine am (aS rfl (aZ rfl (aj (aD (aY (.inr rfl) rfl (.tmp (rfl:_=AV.v (.int _ _))) (Le.out [] [] (co ?_) rfl rfl rfl trivial trivial))))))
  rw [hr];rfl

theorem nz: ∀ e,eM e≤2
 | .int _=> by simp [eM] | .bool _=> by simp [eM] | .var _=> by simp [eM] | .name _=> by simp [eM]
 | .draw e=> by simp only [eM];split <;> omega
 | .neg e=> by simp only [eM];split <;> omega
 | .not e=> by simp only [eM];split <;> omega
 | .bin o a b=> by cases o <;> simp only [eM] <;> split <;> omega
 | .and a b=> by simp only [eM];split <;> omega
 | .or a b=> by simp only [eM];split <;> omega
def ru (a b:Ex) (j:Nat):Nat:=if j=0 then eM a else eM b
theorem nu (a b:Ex) (j:Nat):ru a b j≤2:=by unfold ru;split <;> exact nz _
theorem nn {a b:Ex} {op j:Nat} (hj:j < 2) (h:ru a b j≠op): ¬ (eM a=op∧eM b=op):=fun e=> by
 have:j=0∨j=1:=by omega
 rcases this with rfl | rfl
 ·exact h e.1
 ·exact h e.2
theorem rp (o:Bo):o.txt∉([[38,38],[124,124]]:List Tx):=by cases o <;> decide
def Kv:Bo→Nat | .add=> 1 | .sub=> 1 | .mul=> 1 | .div=> 1 | _=> 2
abbrev tD (d:Nd) (t:Nat):Prop:=Spec Tryz.prog 203 (bk [mW d] []) (aW (.v (.int .i64 (t:Int))) [])
theorem qE {d:Nd} {t:Nat} (h:tD d t): ∀ j,j < [d].length→tD (jA [d] j) t:=fun j hj=> by
 have:j=0:=by simpa using hj
 subst this
 exact h
theorem og {d e:Nd} {a b:Ex} (h1:tD d (eM a)) (h2:tD e (eM b)): ∀ j,j < [d,e].length→tD (jA [d,e] j) (ru a b j):=fun j hj=> by
 have hj:j < 2:=hj
 have:j=0∨j=1:=by omega
 rcases this with rfl | rfl
 ·exact h1
 ·exact h2
theorem dU (nm:List Tx): ∀ e:Ex,tD (dR nm e) (eM e)
 | .int n=> CW n.toNat
 | .bool b=> AJ (if b then 1 else 0)
 | .var i=> Cr (nm.getD i [])
 | .name k=> Bd (bltT.getD k [])
 | .draw e=> Am [dR nm e] (by simp) (fun _=> eM e) (fun _=> nz e) (qE (dU nm e)) _ (fun h=> if_pos (h 0 (by simp))) (fun _ _ h=> if_neg h)
 | .neg e=> DK [dR nm e] (by simp) (fun _=> eM e) (fun _=> nz e) (qE (dU nm e)) _ (fun h=> if_pos (h 0 (by simp))) (fun _ _ h=> if_neg h)
 | .not e=> Dc [dR nm e] (by simp) (fun _=> eM e) (fun _=> nz e) (qE (dU nm e)) _ (fun h=> if_pos (h 0 (by simp))) (fun _ _ h=> if_neg h)
 | .and a b=> sd [38,38] ah ah [dR nm a,dR nm b] (by simp) (ru a b) (nu a b) (og (dU nm a) (dU nm b)) _ (fun h=> if_pos ⟨h 0 (by simp),h 1 (by simp)⟩) (fun _ hj h=> if_neg (nn hj h))
 | .or a b=> sd [124,124] ah ah [dR nm a,dR nm b] (by simp) (ru a b) (nu a b) (og (dU nm a) (dU nm b)) _ (fun h=> if_pos ⟨h 0 (by simp),h 1 (by simp)⟩) (fun _ hj h=> if_neg (nn hj h))
 | .bin o a b=> by
  have hty:eM (.bin o a b)=if eM a=1∧eM b=1 then Kv o else 0:=by cases o <;> rfl
  have hk:=og (dU nm a) (dU nm b)
  by_cases ho:o.txt∈vO
  ·have h2:Kv o=2:=by cases o <;> first | rfl | (exact absurd ho ah)
   rw [h2] at hty
   exact Dv o.txt (rp o) ho [dR nm a,dR nm b] (by simp) (ru a b) (nu a b) hk _ (fun h=> hty.trans (if_pos ⟨h 0 (by simp),h 1 (by simp)⟩)) (fun _ hj h=> hty.trans (if_neg (nn hj h)))
  ·have h2:Kv o=1:=by cases o <;> first | rfl | (exact absurd ah ho)
   rw [h2] at hty
   exact xX o.txt (rp o) ho [dR nm a,dR nm b] (by simp) (ru a b) (nu a b) hk _ (fun h=> hty.trans (if_pos ⟨h 0 (by simp),h 1 (by simp)⟩)) (fun _ hj h=> hty.trans (if_neg (nn hj h)))
theorem jp (n:Int) (s:Tx) (L:List Nd) (h: ∀ j,j < L.length→Spec Tryz.prog 166 (bk [mW (jA L j)] []) (aW (.v (.bool true)) [])):
  Spec Tryz.prog 166 (bk [.agg [.v (.int .i64 11), .v (.int .i64 n), .v (bt s), .sl L.length (kG L)]] []) (aW (.v (.bool true)) []):=by
 refine Spec.ofN Tryz.func166 rfl Tryz.ntmps166 rfl ?_
 refine aq ?_
 refine jF 0 3 rfl rfl rfl fun hlen=> ?_
 unfold maxLen at hlen
 refine an (ai (bf (1,0) _ rfl rfl) (cw rfl (aj (aq (am (bv rfl rfl rfl (cG rfl rfl rfl (iY rfl rfl rfl (aj (bF rfl rfl ?_))))))))))
 refine aG fun K4 hK4=> ?_
 refine am (aZ rfl (aj (au ?_)))
 refine bB (α:=Nat) (fun j=> j≤L.length) 73 [(1,_)] [((1,0),_)] (fun j=> [(3, .v (.int .i64 (j:Int)))]) (fun j=> []) [] [] (fun j=> L.length - j) 0 ?_ (by
  refine Le.mkJ [] [] rfl ?_ ?_ trivial trivial ?_
  ·exact ⟨(iP rfl),(co ag),trivial⟩
  ·exact ⟨(cI rfl rfl rfl),trivial⟩
  ·kernel_rfl) ?_
 ·omega
 intro j hj
 refine aG fun K6 hK6=> ?_
 refine am (aS rfl (bv rfl rfl rfl (fG rfl rfl rfl (ai (bH _ aa rfl) (ai (bq _ _ rfl rfl rfl) (aj (aV rfl (fun hc17=> ?_) (fun hc17=> ?_))))))))
 ·skip
  refine bz (hK6 _ ?_)
  clear hK6;try clear K6
  refine aq (au (am (bv rfl rfl rfl (fG rfl rfl rfl (aS rfl (ai (bg _ _ aa rfl rfl _ rfl ab (by (simp only [ba,bo,bm,bC,bw,bJ,bD];omega)) ag) ?_))))))
  refine ai (cj _ aa rfl (by exact cH _ _ ab) rfl) ?_
  refine ai (aM aa al (h j ab) rfl rfl) ?_
  refine cw rfl (aj (am (cP rfl (ai (cT (r:=false) _ rfl rfl) (aj (aR rfl rfl (cg (an (aS rfl (ai (be _ _ rfl rfl (br ab)) ?_))))))))))
  refine aZ rfl (az (⟨j+1,?_,?_,?_⟩))
  ·omega
  ·skip
   refine Le.mkJ [] [] rfl ?_ ?_ trivial trivial ?_
   ·exact ⟨(iP rfl),(co ag),trivial⟩
   ·exact ⟨(cI rfl rfl rfl),trivial⟩
   ·kernel_rfl
  ·omega
 ·skip
  refine bK (id (hK4 _ ?_))
  clear hK4;try clear K4
  refine am (cw rfl (aj (aD (aY (.inr rfl) rfl (.tmp (rfl:_=AV.v (.bool _))) (Le.out [] [] (gR ?_) rfl rfl rfl trivial trivial)))))
  rfl
theorem pB (k:Nat) (hk:k=2∨k=3) (n:Int) (s:Tx) (L:List Nd) (hL:0 < L.length) (ht:Spec Tryz.prog 203 (bk [mW (jA L 0)] []) (aW (.v (.int .i64 2)) [])) (h: ∀ j,1≤j→j < L.length→Spec Tryz.prog 166 (bk [mW (jA L j)] []) (aW (.v (.bool true)) [])):
  Spec Tryz.prog 166 (bk [.agg [.v (.int .i64 (k:Int)), .v (.int .i64 n), .v (bt s), .sl L.length (kG L)]] []) (aW (.v (.bool true)) []):=by
 refine Spec.ofN Tryz.func166 rfl Tryz.ntmps166 rfl ?_
 refine aq ?_
 refine jF 0 3 rfl rfl rfl fun hlen=> ?_
 unfold maxLen at hlen
 refine an (ai (bf (1,0) _ rfl rfl) (cw rfl (aj (aq (am (bv rfl rfl rfl (cG rfl rfl rfl (eJ rfl rfl (beq_eq_false_iff_ne.2 ab) ?_))))))))
 refine aj (aR rfl rfl (aJ (aq (am (bv rfl rfl rfl (cG rfl rfl rfl (ai (bT _ _ rfl rfl rfl) (cP rfl (dH (fun hg31=> ?_) (fun hg31=> ?_))))))))))
 ·skip
  refine aU rfl rfl ah ?_
  refine aU rfl rfl ah ?_
  refine aU rfl rfl ah ?_
  refine ai (aH _ _ _ rfl (rfl:_=AV.v (.bool _))) (aj (bF rfl rfl (am (bv rfl rfl rfl (fG rfl rfl rfl (ai (bg _ _ aa rfl rfl 0 rfl hL (by simp only [bJ];omega) rfl) ?_))))))
  refine ai (cj _ aa rfl (by exact cH L 0 hL) rfl) ?_
  refine ai (aM aa al (ht) rfl rfl) ?_
  refine aZ rfl (aj (aG fun K7 hK7=> ?_))
  refine aq ?_
  refine aO (σ':=aB 73 [(1,_),(5,_)] [((1,0),_)] [] []) kp ?_
  refine an (aZ rfl (aj (au ?_)))
  refine bB (α:=Nat) (fun j=> 1≤j∧j≤L.length) 73 [(1,_),(5,_)] [((1,0),_)] (fun j=> [(6, .v (.int .i64 (j:Int)))]) (fun j=> []) [] [] (fun j=> L.length - j) 1 ?_ (by
   refine Le.mkJ [] [] rfl ?_ ?_ trivial trivial ?_
   ·exact ⟨(iP rfl),(iV rfl),(co ag),trivial⟩
   ·exact ⟨(cI rfl rfl rfl),trivial⟩
   ·kernel_rfl) ?_
  ·exact ⟨Nat.le_refl _,hL⟩
  intro j hj
  obtain ⟨hj1,hj2⟩:=hj
  refine aG fun K9 hK9=> ?_
  refine am (aS rfl (bv rfl rfl rfl (fG rfl rfl rfl (ai (bH _ aa rfl) (ai (bq _ _ rfl rfl rfl) (aj (aV rfl (fun hc45=> ?_) (fun hc45=> ?_))))))))
  ·skip
   refine bz (hK9 _ ?_)
   clear hK9;try clear K9
   refine aq (au (am (bv rfl rfl rfl (fG rfl rfl rfl (aS rfl (ai (bg _ _ aa rfl rfl _ rfl ab (by (simp only [ba,bo,bm,bC,bw,bJ,bD];omega)) ag) ?_))))))
   refine ai (cj _ aa rfl (by exact cH _ _ ab) rfl) ?_
   refine ai (aM aa al (h j hj1 ab) rfl rfl) ?_
   refine cw rfl (aj (am (cP rfl (ai (cT (r:=false) _ rfl rfl) (aj (aR rfl rfl (cg (an (aS rfl (ai (be _ _ rfl rfl (br ab)) ?_))))))))))
   refine aZ rfl (az (⟨j+1,?_,?_,?_⟩))
   ·omega
   ·skip
    refine Le.mkJ [] [] rfl ?_ ?_ trivial trivial ?_
    ·exact ⟨(iP rfl),(iV rfl),(co ag),trivial⟩
    ·exact ⟨(cI rfl rfl rfl),trivial⟩
    ·kernel_rfl
   ·omega
  ·skip
   refine bK (id (hK7 _ ?_))
   clear hK7;try clear K7
   refine am (aS rfl (iY rfl rfl rfl (cw rfl (aj (aD (aY (.inr rfl) rfl (.tmp (rfl:_=AV.v (.bool _))) (Le.out [] [] (gR ?_) rfl rfl rfl trivial trivial)))))))
   rfl
 ·skip
  have hk3:k=3:=by omega
  refine aA rfl rfl (aI _ aa rfl rfl rfl) (aA rfl rfl (aL _ aa rfl rfl (rfl:_=some (AV.v (.int _ _)))) (aA rfl rfl (bT (r:=true) _ _ rfl rfl (beq_iff_eq.2 ab)) ?_))
  refine ai (aH _ _ _ rfl (rfl:_=AV.v (.bool _))) (aj (bF rfl rfl (am (bv rfl rfl rfl (fG rfl rfl rfl (ai (bg _ _ aa rfl rfl 0 rfl hL (by simp only [bJ];omega) rfl) ?_))))))
  refine ai (cj _ aa rfl (by exact cH L 0 hL) rfl) ?_
  refine ai (aM aa al (ht) rfl rfl) ?_
  refine aZ rfl (aj (aG fun K16 hK16=> ?_))
  refine aq ?_
  refine aO (σ':=aB 73 [(1,_),(5,_)] [((1,0),_)] [] []) kp ?_
  refine an (aZ rfl (aj (au ?_)))
  refine bB (α:=Nat) (fun j=> 1≤j∧j≤L.length) 73 [(1,_),(5,_)] [((1,0),_)] (fun j=> [(6, .v (.int .i64 (j:Int)))]) (fun j=> []) [] [] (fun j=> L.length - j) 1 ?_ (by
   refine Le.mkJ [] [] rfl ?_ ?_ trivial trivial ?_
   ·exact ⟨(iP rfl),(iV rfl),(co ag),trivial⟩
   ·exact ⟨(cI rfl rfl rfl),trivial⟩
   ·kernel_rfl) ?_
  ·exact ⟨Nat.le_refl _,hL⟩
  intro j hj
  obtain ⟨hj1,hj2⟩:=hj
  refine aG fun K18 hK18=> ?_
  refine am (aS rfl (bv rfl rfl rfl (fG rfl rfl rfl (ai (bH _ aa rfl) (ai (bq _ _ rfl rfl rfl) (aj (aV rfl (fun hc45=> ?_) (fun hc45=> ?_))))))))
  ·skip
   refine bz (hK18 _ ?_)
   clear hK18;try clear K18
   refine aq (au (am (bv rfl rfl rfl (fG rfl rfl rfl (aS rfl (ai (bg _ _ aa rfl rfl _ rfl ab (by (simp only [ba,bo,bm,bC,bw,bJ,bD];omega)) ag) ?_))))))
   refine ai (cj _ aa rfl (by exact cH _ _ ab) rfl) ?_
   refine ai (aM aa al (h j hj1 ab) rfl rfl) ?_
   refine cw rfl (aj (am (cP rfl (ai (cT (r:=false) _ rfl rfl) (aj (aR rfl rfl (cg (an (aS rfl (ai (be _ _ rfl rfl (br ab)) ?_))))))))))
   refine aZ rfl (az (⟨j+1,?_,?_,?_⟩))
   ·omega
   ·skip
    refine Le.mkJ [] [] rfl ?_ ?_ trivial trivial ?_
    ·exact ⟨(iP rfl),(iV rfl),(co ag),trivial⟩
    ·exact ⟨(cI rfl rfl rfl),trivial⟩
    ·kernel_rfl
   ·omega
  ·skip
   refine bK (id (hK16 _ ?_))
   clear hK16;try clear K16
   refine am (aS rfl (iY rfl rfl rfl (cw rfl (aj (aD (aY (.inr rfl) rfl (.tmp (rfl:_=AV.v (.bool _))) (Le.out [] [] (gR ?_) rfl rfl rfl trivial trivial)))))))
   rfl
theorem eO (k:Nat) (hk:k≠2∧k≠3∧k≠11) (n:Int) (s:Tx) (L:List Nd) (h: ∀ j,j < L.length→Spec Tryz.prog 203 (bk [mW (jA L j)] []) (aW (.v (.int .i64 1)) [])):
  Spec Tryz.prog 166 (bk [.agg [.v (.int .i64 (k:Int)), .v (.int .i64 n), .v (bt s), .sl L.length (kG L)]] []) (aW (.v (.bool true)) []):=by
 refine Spec.ofN Tryz.func166 rfl Tryz.ntmps166 rfl ?_
 refine aq ?_
 refine jF 0 3 rfl rfl rfl fun hlen=> ?_
 unfold maxLen at hlen
 refine an (ai (bf (1,0) _ rfl rfl) (cw rfl (aj (aq (am (bv rfl rfl rfl (cG rfl rfl rfl (eJ rfl rfl (beq_eq_false_iff_ne.2 ab) ?_))))))))
 refine aj (aR rfl rfl (aJ (aq (am (bv rfl rfl rfl (cG rfl rfl rfl (eJ rfl rfl (beq_eq_false_iff_ne.2 ab) ?_)))))))
 refine cP rfl (aA rfl rfl (aI _ aa rfl rfl rfl) (aA rfl rfl (aL _ aa rfl rfl (rfl:_=some (AV.v (.int _ _)))) (aA rfl rfl (bT (r:=false) _ _ rfl rfl (beq_eq_false_iff_ne.2 ab)) ?_)))
 refine ai (aH _ _ _ rfl (rfl:_=AV.v (.bool _))) (aj (aR rfl rfl (aJ (aG fun K6 hK6=> ?_))))
 refine am (aZ rfl (aj (au ?_)))
 refine bB (α:=Nat) (fun j=> j≤L.length) 73 [(1,_)] [((1,0),_)] (fun j=> [(8, .v (.int .i64 (j:Int)))]) (fun j=> []) [] [] (fun j=> L.length - j) 0 ?_ (by
  refine Le.mkJ [] [] rfl ?_ ?_ trivial trivial ?_
  ·exact ⟨(iP rfl),(co ag),trivial⟩
  ·exact ⟨(cI rfl rfl rfl),trivial⟩
  ·kernel_rfl) ?_
 ·omega
 intro j hj
 refine aG fun K8 hK8=> ?_
 refine am (aS rfl (bv rfl rfl rfl (fG rfl rfl rfl (ai (bH _ aa rfl) (ai (bq _ _ rfl rfl rfl) (aj (aV rfl (fun hc62=> ?_) (fun hc62=> ?_))))))))
 ·skip
  refine bz (hK8 _ ?_)
  clear hK8;try clear K8
  refine aq (au (am (bv rfl rfl rfl (fG rfl rfl rfl (aS rfl (ai (bg _ _ aa rfl rfl _ rfl ab (by (simp only [ba,bo,bm,bC,bw,bJ,bD];omega)) ag) ?_))))))
  refine ai (cj _ aa rfl (by exact cH _ _ ab) rfl) ?_
  refine ai (aM aa al (h j ab) rfl rfl) ?_
  refine aZ rfl (aj (am (aS rfl (ai (cb (r:=false) _ _ rfl rfl rfl) (aj (aR rfl rfl (cg (an (aS rfl (ai (be _ _ rfl rfl (br ab)) ?_))))))))))
  refine aZ rfl (az (⟨j+1,?_,?_,?_⟩))
  ·omega
  ·skip
   refine Le.mkJ [] [] rfl ?_ ?_ trivial trivial ?_
   ·exact ⟨(iP rfl),(co ag),trivial⟩
   ·exact ⟨(cI rfl rfl rfl),trivial⟩
   ·kernel_rfl
  ·omega
 ·skip
  refine bK (id (hK6 _ ?_))
  clear hK6;try clear K6
  refine am (cw rfl (aj (aD (aY (.inr rfl) rfl (.tmp (rfl:_=AV.v (.bool _))) (Le.out [] [] (gR ?_) rfl rfl rfl trivial trivial)))))
  rfl
end Go.Proofs.YtmjnackchaahbaaGreat
