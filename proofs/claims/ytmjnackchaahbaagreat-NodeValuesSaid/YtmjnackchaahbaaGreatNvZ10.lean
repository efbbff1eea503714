/- part 10 -/
import Derived.Test.YtmjnackchaahbaaGreatNvZ9
set_option linter.unusedSimpArgs false
set_option linter.unusedVariables false
set_option maxHeartbeats 2000000
namespace Go.Proofs.YtmjnackchaahbaaGreat
open Go.RowKit

theorem rx {s:Tx}: ∀ {f a:Nat} {l:List Tk},a≤s.length→nx f s a=some l→0 < l.length∧l.length+a≤s.length+1
  | 0,_,_,_,h=> by simp [nx] at h
  | f+1,a,l,ha,h=> by
    rcases mO h with ⟨_,rfl⟩ | ⟨hl,t,m,ht,hm,rfl⟩
    · exact ⟨by simp,by simp;omega⟩
    obtain ⟨h1,h2⟩:=tW hl ht
    have h3:=wk (s:=s) (a:=a+t.t.length) h2 false
    obtain ⟨_,h4⟩:=rx h3.2 hm
    exact ⟨by simp,by rw [List.length_cons];omega⟩
theorem BO {s:Tx} {l:List Tk} (h:GC s=some l):0 < l.length∧l.length≤s.length+1:=by
  have:=rx (a:=tU s false) (nW s false) h
  omega
theorem mx {T:List Tk}: ∀ (f:Nat) {N M:List Tx} (i:Nat),N.Perm M→gw T f N i=gw T f M i
  | 0,_,_,_,_=> rfl
  | f+1,N,M,i,h=> by
    unfold gw
    simp only [h.mem_iff,h.length_eq,mx f _ (h.append_right [(cN T i).t])]
theorem vQ {T:List Tk} {f:Nat} {d v:List Tx} {i:Nat} {r:List Tx×List Tx×Nat} (h:iQ T f d v i=some r): ∃ g,f=g+1∧
    (((cN T i).t=lW∧ ∃ l j,gw T g (d++v) (br T i)=some (l,j)∧iQ T g (d++l) v j=some r)∨
     ((cN T i).t≠lW∧(cN T i).t=mF∧ ∃ l j,gw T g (d++v) (br T i)=some (l,j)∧iQ T g d (v++l) j=some r)∨
     ((cN T i).t≠lW∧(cN T i).t≠mF∧r=(d,v,i))):=by
  cases f with
  | zero=> simp [iQ] at h
  | succ g=>
    refine ⟨g,rfl,?_⟩
    unfold iQ at h
    split at h
    · rename_i ht
      simp only [Option.bind_eq_bind,Option.bind_eq_some_iff] at h
      obtain ⟨⟨l,j⟩,hl,h⟩:=h
      exact .inl ⟨ht,l,j,hl,h⟩
    rename_i ht
    split at h
    · rename_i ht2
      simp only [Option.bind_eq_bind,Option.bind_eq_some_iff] at h
      obtain ⟨⟨l,j⟩,hl,h⟩:=h
      exact .inr (.inl ⟨ht,ht2,l,j,hl,h⟩)
    rename_i ht2
    exact .inr (.inr ⟨ht,ht2,(Option.some.inj h).symm⟩)
theorem Bb {T:List Tk} {f:Nat} {l:List Hd} {i:Nat} {r:List Hd} (h:Ik T f l i=some r): ∃ g,f=g+1∧
    (((cN T i).k=0∧r=l)∨((cN T i).k≠0∧ ∃ j n j2 d j3,gm T IH i=some j∧xH T j=some (n,j2)∧l.any (fun x=> decide (x.1=n))=false∧ra T g 1 j2=some (d,j3)∧Ik T g (pY l (n,d)) j3=some r)):=by
  cases f with
  | zero=> simp [Ik] at h
  | succ g=>
    refine ⟨g,rfl,?_⟩
    unfold Ik at h
    split at h
    · rename_i hk;exact .inl ⟨hk,(Option.some.inj h).symm⟩
    rename_i hk
    simp only [Option.bind_eq_bind,Option.bind_eq_some_iff] at h
    obtain ⟨j,hj,⟨n,j2⟩,hn,h⟩:=h
    simp only at h
    split at h
    · cases h
    rename_i hno
    simp only [Option.bind_eq_some_iff] at h
    obtain ⟨⟨d,j3⟩,hd,h⟩:=h
    exact .inr ⟨hk,j,n,j2,d,j3,hj,hn,Bool.eq_false_iff.2 hno,hd,h⟩
theorem Dp (l:List Hd) (h:Hd):(pY l h).length=l.length+1:=by
  have e:=congrArg List.length (List.takeWhile_append_dropWhile (p:=fun x:Nat×Nd=> decide (x.1 < h.1)) (l:=l))
  unfold pY
  rw [List.length_append] at e ⊢
  rw [List.length_cons]
  omega
abbrev JG (d v:List Tx) (l:List Hd):AV:= .agg [.sl d.length (eM d), .sl v.length (eM v), .sl l.length (me l)]
theorem qF (s:Tx) (hs:s.length≤3000) (D V:List Tx) (L:List Hd) (h:fN s=some (D,V,L)):
    Spec Tryz.prog 96 (aI [.v (bt s)] []) (aA (.tup [JG D V L, .v (.int .i64 0), .v (.int .i64 0)]) []):=by
  unfold fN at h
  simp only [Option.bind_eq_bind,Option.bind_eq_some_iff,Option.pure_def,Option.some.injEq,Prod.mk.injEq] at h
  obtain ⟨T,hT,⟨D',V',i⟩,hd,L',hL,rfl,rfl,rfl⟩:=h
  obtain ⟨hT0,hT1⟩:=BO hT
  have hTl:T.length≤100000:=by omega
  simp only at hL ⊢
  refine Spec.ofN Tryz.func96 rfl Tryz.ntmps96 rfl ?_
  refine go 11 ?_
  refine cP rfl (decide_eq_false ab) ?_
  refine cO (aG (tP rfl (aj (ap aa al (vk s ab T hT) rfl rfl) ?_)))
  refine go 9 ?_
  refine aE ?_
  refine aB (σ':=an 114 [(2,_),(5,_),(6,_),(7,_)] [((2,0),_)] [] []) (by
    refine Le.mkJ [] [] rfl ?_ ?_ trivial trivial ?_
    · exact ⟨(iP rfl),(iS rfl),(iV rfl),(iV rfl),trivial⟩
    · exact ⟨(bN rfl rfl rfl),trivial⟩
    kernel_rfl) ?_
  refine go 15 ?_
  refine aF fun K9 hK9=> ?_
  refine aH ?_
  refine aB (Le.nilB (29,0) 4 (60,0) 9 1 rfl rfl rfl) ?_
  refine aB (Le.nilB (9,0) 0 (61,0) 9 1 rfl rfl rfl) ?_
  refine aB (Le.nilB (9,0) 1 (62,0) 9 1 rfl rfl rfl) ?_
  refine aB (Le.nil0 (9,0) 2 rfl rfl) ?_
  refine aS (α:=Nat×List Tx×List Tx×List Tx×Nat) (fun z=> z.2.2.2.1.Perm (z.2.1++z.2.2.1)∧z.2.2.2.2 < T.length∧z.2.2.2.1.length≤16∧iQ T z.1 z.2.1 z.2.2.1 z.2.2.2.2=some (D',V',i)) 114 [(2,_),(8,_),(9,_)] [((2,0),_)] (fun z=> []) (fun z=> [((29,0), .box 222 [.sl T.length (tJ T), .v (.int .i64 (z.2.2.2.2:Int)), .v (.int .i64 0), .v (.int .i64 0), .ref (60,0) 0 z.2.2.2.1.length]),((60,0), .row 9 1 (eM z.2.2.2.1)),((9,0), .box 64 [.ref (61,0) 0 z.2.1.length, .ref (62,0) 0 z.2.2.1.length, .sl 0 []]),((61,0), .row 9 1 (eM z.2.1)),((62,0), .row 9 1 (eM z.2.2.1))]) [] [] (fun z=> z.1) (3*T.length+10,[],[],[],0) ?_ (by
    refine Le.mkJ [] [] rfl ?_ ?_ trivial trivial ?_
    · exact ⟨(iP rfl),(iP rfl),(iP rfl),trivial⟩
    · exact ⟨(bN rfl rfl rfl),(cI rfl rfl rfl rfl lz),(cD rfl rfl rfl ag),(cI rfl rfl rfl rfl lz),(cD rfl rfl rfl ag),(cD rfl rfl rfl ag),trivial⟩
    kernel_rfl) ?_
  · exact ⟨.refl _,hT0,Nat.zero_le _,hd⟩
  intro z hz
  obtain ⟨z1,d,v,N,j⟩:=z
  obtain ⟨hp,hj,hNl,hz⟩:=hz
  obtain ⟨g,rfl,hm⟩:=vQ hz
  simp only at hp hj hNl hm ⊢
  have hpl:=hp.length_eq
  rw [List.length_append] at hpl
  have htl:=dJ hj
  refine aF fun K10 hK10=> ?_
  refine aF fun K11 hK11=> ?_
  refine go 8 ?_
  refine aZ rfl rfl (dC aa [((0,9),(29,0)),((1,9),(60,0))] ?_ (eG T j N hj) ob tr ae) ?_
  · repeat' (first | exact dc | refine cC ?_ ?_ | exact bv rfl)
  refine aZ rfl rfl (cW _ _ Tryz.underlying9 rfl rfl rfl) (go 1 ?_)
  refine cj (fun hg39=> ?_) (fun hg39=> ?_)
  · skip
    obtain ⟨l,j',hdp,hdz⟩: ∃ l j',gw T g N (br T j)=some (l,j')∧iQ T g (d++l) v j'=some (D',V',i):=by
      rcases hm with ⟨_,l,j',h1,h2⟩ | ⟨h,_⟩ | ⟨h,_⟩
      · exact ⟨l,j',(mx g _ hp).trans h1,h2⟩
      · exact absurd hg39 h
      exact absurd hg39 h
    obtain ⟨hda,hdb,hdc⟩:=rz hTl g N j hj (l,j') hdp
    simp only at hda hdb hdc
    have hdl:(d++l).length=d.length+l.length:=by simp
    refine go 5 ?_
    refine ay (hK11 _ ?_)
    refine fX rfl rfl (aR (hK10 _ ?_))
    refine aH (aE ?_)
    refine aB (σ':=an 114 [(2,_),(8,_),(9,_)] [((2,0),_),((29,0),_),((60,0),_),((9,0),_),((61,0),_),((62,0),_)] [] []) (by
      refine Le.mkJ [] [] rfl ?_ ?_ trivial trivial ?_
      · exact ⟨(iP rfl),(iP rfl),(iP rfl),trivial⟩
      · exact ⟨(bN rfl rfl rfl),(bN rfl rfl rfl),(bN rfl rfl rfl),(bN rfl rfl rfl),(bN rfl rfl rfl),(bN rfl rfl rfl),trivial⟩
      kernel_rfl) ?_
    refine aD (dW rfl (aj (dC aa [((0,9),(29,0)),((1,9),(60,0))] ?_ (eG T j N hj) ob tr ae) ?_))
    · repeat' (first | exact dc | refine cC ?_ ?_ | exact bv rfl)
    refine aj (cW _ _ Tryz.underlying9 rfl rfl rfl) (am (fX rfl (beq_iff_eq.2 hg39) ?_))
    refine aB (σ':=an 114 [(2,_),(8,_),(9,_)] [((2,0),_),((29,0), .box 222 [.sl T.length (tJ T), .v (.int .i64 (j:Int)), .v (.int .i64 0), .v (.int .i64 0), .ref (60,0) 0 N.length]),((60,0), .row 9 1 (eM N)),((9,0),_),((61,0),_),((62,0),_)] [] []) (by
      refine Le.mkJ [] [] rfl ?_ ?_ trivial trivial ?_
      · exact ⟨(iP rfl),(iP rfl),(iP rfl),trivial⟩
      · exact ⟨(bN rfl rfl rfl),(bN rfl rfl rfl),(bN rfl rfl rfl),(bN rfl rfl rfl),(bN rfl rfl rfl),(bN rfl rfl rfl),trivial⟩
      kernel_rfl) ?_
    refine dA 4 [(29,0),(70,0),(60,0)] ?_
    refine go 6 ?_
    refine aC (_,[((29,0),_),((70,0),_),((60,0), .gone)]) (fun τ=> (bu aa [((0,9),(29,0)),((1,9),(60,0)),((1,8),(70,0))] ?_ (hdc) ob tr tr rfl rfl ae ae)) ?_
    · repeat' (first | exact dc | refine cC ?_ ?_ | exact bv rfl)
    refine go 1 ?_
    refine ci ⟨rfl,?_⟩
    refine aj (bG (52,0) _ _ aa rfl rfl (by simp) (.sl (by simp)) ab rfl (pI _ _) hdl.symm) ?_
    refine go 2 ?_
    refine ay (⟨(g,d++l,v,N++l,j'),?_,?_,?_⟩)
    · exact ⟨(hp.append_right l).trans (by rw [List.append_assoc,List.append_assoc];exact List.perm_append_comm.append_left d),hda,by simp only [List.length_append];omega,hdz⟩
    · skip
      refine Le.mkJ [((60,0),(70,0)),((61,0),(52,0))] [] rfl ?_ ?_ trivial trivial ?_
      · exact ⟨(bv (id:=(2,0)) rfl),(bv (id:=(29,0)) rfl),(bv (id:=(9,0)) rfl),trivial⟩
      · exact ⟨(cI rfl rfl rfl rfl (by repeat' (first | exact Lv.v | exact aK | refine ai ?_ ?_))),(cI rfl rfl rfl rfl lz),(cD rfl rfl rfl ag),(cI rfl rfl rfl rfl lz),(cD rfl rfl rfl ag),(cD rfl rfl rfl ag),trivial⟩
      kernel_rfl
    simp only;omega
  refine go 1 ?_
  refine aZ rfl rfl (dC aa [((0,9),(29,0)),((1,9),(60,0))] ?_ (eG T j N hj) ob tr ae) ?_
  · repeat' (first | exact dc | refine cC ?_ ?_ | exact bv rfl)
  refine aZ rfl rfl (cW _ _ Tryz.underlying9 rfl rfl rfl) (go 2 ?_)
  refine ay (hK11 _ ?_)
  refine ax rfl (fun hc44=> ?_) (fun hc44=> ?_)
  · skip
    obtain ⟨l,j',hdp,hdz⟩: ∃ l j',gw T g N (br T j)=some (l,j')∧iQ T g d (v++l) j'=some (D',V',i):=by
      rcases hm with ⟨h,_⟩ | ⟨_,_,l,j',h1,h2⟩ | ⟨_,h,_⟩
      · exact absurd h hg39
      · exact ⟨l,j',(mx g _ hp).trans h1,h2⟩
      exact absurd hc44 h
    obtain ⟨hda,hdb,hdc⟩:=rz hTl g N j hj (l,j') hdp
    simp only at hda hdb hdc
    have hvl:(v++l).length=v.length+l.length:=by simp
    refine aR (hK10 _ ?_)
    refine aH (aE ?_)
    refine aB (σ':=an 114 [(2,_),(8,_),(9,_)] [((2,0),_),((29,0),_),((60,0),_),((9,0),_),((61,0),_),((62,0),_)] [] []) (by
      refine Le.mkJ [] [] rfl ?_ ?_ trivial trivial ?_
      · exact ⟨(iP rfl),(iP rfl),(iP rfl),trivial⟩
      · exact ⟨(bN rfl rfl rfl),(bN rfl rfl rfl),(bN rfl rfl rfl),(bN rfl rfl rfl),(bN rfl rfl rfl),(bN rfl rfl rfl),trivial⟩
      kernel_rfl) ?_
    refine aD (dW rfl (aj (dC aa [((0,9),(29,0)),((1,9),(60,0))] ?_ (eG T j N hj) ob tr ae) ?_))
    · repeat' (first | exact dc | refine cC ?_ ?_ | exact bv rfl)
    refine aj (cW _ _ Tryz.underlying9 rfl rfl rfl) (am (cP rfl (beq_eq_false_iff_ne.2 hg39) ?_))
    refine aB (σ':=an 114 [(2,_),(8,_),(9,_)] [((2,0),_),((29,0), .box 222 [.sl T.length (tJ T), .v (.int .i64 (j:Int)), .v (.int .i64 0), .v (.int .i64 0), .ref (60,0) 0 N.length]),((60,0), .row 9 1 (eM N)),((9,0),_),((61,0),_),((62,0),_)] [] []) (by
      refine Le.mkJ [] [] rfl ?_ ?_ trivial trivial ?_
      · exact ⟨(iP rfl),(iP rfl),(iP rfl),trivial⟩
      · exact ⟨(bN rfl rfl rfl),(bN rfl rfl rfl),(bN rfl rfl rfl),(bN rfl rfl rfl),(bN rfl rfl rfl),(bN rfl rfl rfl),trivial⟩
      kernel_rfl) ?_
    refine dA 4 [(29,0),(71,0),(60,0)] ?_
    refine go 6 ?_
    refine aC (_,[((29,0),_),((71,0),_),((60,0), .gone)]) (fun τ=> (bu aa [((0,9),(29,0)),((1,9),(60,0)),((1,8),(71,0))] ?_ (hdc) ob tr tr rfl rfl ae ae)) ?_
    · repeat' (first | exact dc | refine cC ?_ ?_ | exact bv rfl)
    refine go 1 ?_
    refine ci ⟨rfl,?_⟩
    refine aj (bG (58,0) _ _ aa rfl rfl (by simp) (.sl (by simp)) ab rfl (pI _ _) hvl.symm) ?_
    refine go 2 ?_
    refine ay (⟨(g,d,v++l,N++l,j'),?_,?_,?_⟩)
    · exact ⟨(hp.append_right l).trans (by rw [List.append_assoc]),hda,by simp only [List.length_append];omega,hdz⟩
    · skip
      refine Le.mkJ [((60,0),(71,0)),((62,0),(58,0))] [] rfl ?_ ?_ trivial trivial ?_
      · exact ⟨(bv (id:=(2,0)) rfl),(bv (id:=(29,0)) rfl),(bv (id:=(9,0)) rfl),trivial⟩
      · exact ⟨(cI rfl rfl rfl rfl (by repeat' (first | exact Lv.v | exact aK | refine ai ?_ ?_))),(cI rfl rfl rfl rfl lz),(cD rfl rfl rfl ag),(cI rfl rfl rfl rfl lz),(cD rfl rfl rfl ag),(cD rfl rfl rfl ag),trivial⟩
      kernel_rfl
    simp only;omega
  have hrd:(D',V',i)=(d,v,j):=by
    rcases hm with ⟨h,_⟩ | ⟨_,h,_⟩ | ⟨_,_,h⟩
    · exact absurd h hg39
    · exact absurd h hc44
    exact h
  obtain ⟨e1,e2,e3⟩:D'=d∧V'=v∧i=j:=⟨congrArg (·.1) hrd,congrArg (·.2.1) hrd,congrArg (·.2.2) hrd⟩
  clear hrd hm hz
  subst e1;subst e2;subst e3
  refine aW (id (hK9 _ ?_))
  refine aF fun K14 hK14=> ?_
  refine aH ?_
  refine aB (Le.frzB (29,0) 4 rfl rfl rfl rfl (ys:=eM N) (by simp [List.take_of_length_le]) (by simp)) ?_
  refine aS (α:=Nat×List Hd×Nat) (fun y=> y.2.1.length+y.1≤10*T.length+10∧y.2.2 < T.length∧Ik T y.1 y.2.1 y.2.2=some L') 114 [(2,_),(8,_),(9,_)] [((2,0),_),((61,0),_),((62,0),_)] (fun y=> []) (fun y=> [((29,0), .box 222 [.sl T.length (tJ T), .v (.int .i64 (y.2.2:Int)), .v (.int .i64 0), .v (.int .i64 0), .sl N.length (eM N)]),((9,0), .box 64 [.ref (61,0) 0 D'.length, .ref (62,0) 0 V'.length, .sl y.2.1.length (me y.2.1)])]) [] [] (fun y=> y.1) (10*T.length+10,[],i) ?_ (by
    refine Le.mkJ [] [] rfl ?_ ?_ trivial trivial ?_
    · exact ⟨(iP rfl),(iP rfl),(iP rfl),trivial⟩
    · exact ⟨(bN rfl rfl rfl),(bN rfl rfl rfl),(bN rfl rfl rfl),(cI rfl rfl rfl rfl lz),(cI rfl rfl rfl rfl lz),trivial⟩
    kernel_rfl) ?_
  · exact ⟨by simp,hj,hL⟩
  intro y hy
  obtain ⟨y1,l,k⟩:=y
  obtain ⟨hyl,hk,hy⟩:=hy
  obtain ⟨g2,rfl,hm2⟩:=Bb hy
  simp only at hyl hk hm2 ⊢
  refine aF fun K15 hK15=> ?_
  refine aE (dA 19 [] ?_)
  refine go 28 ?_
  refine ew (_,[]) rfl (fun τ=> rfl) (fun τ=> aQ _ _ aa rfl rfl _ rfl ab (by (simp only [aq,aJ,aM,bf,bc,bk,bg];omega)) ag) ?_
  refine go 3 ?_
  refine ew (_,[]) rfl (fun τ=> rfl) (fun τ=> bl _ aa rfl (by exact qI _ _ ab) rfl) ?_
  refine go 1 ?_
  refine ew (_,[]) rfl (fun τ=> rfl) (fun τ=> cV _ _ rfl rfl rfl) ?_
  refine go 5 ?_
  refine ax rfl (fun hc78=> ?_) (fun hc78=> ?_)
  · skip
    obtain ⟨_,j1,hn,j2,dd,j3,h1,h2,h3,h4,h5⟩:=hm2.resolve_left fun x=> by omega
    have hx1:=fl T k j1 N IH hk hTl h1
    obtain ⟨ha2,_,hx2⟩:=tA (N:=N) hTl j1 (ju h1 hk) l ab _ h2 h3
    obtain ⟨ha3,hx3⟩:=wF (N:=N) hTl ab ha2 h4
    have hx4:=Cn l ab (hn,dd)
    have hpl2:=Dp l (hn,dd)
    simp only at ha2 ha3 hx2 hx3 hx4
    refine aR (hK15 _ ?_)
    refine aH (aE ?_)
    refine aB (σ':=an 114 [(2,_),(8,_),(9,_)] [((2,0),_),((61,0),_),((62,0),_),((29,0),_),((9,0),_)] [] []) (by
      refine Le.mkJ [] [] rfl ?_ ?_ trivial trivial ?_
      · exact ⟨(iP rfl),(iP rfl),(iP rfl),trivial⟩
      · exact ⟨(bN rfl rfl rfl),(bN rfl rfl rfl),(bN rfl rfl rfl),(bN rfl rfl rfl),(bN rfl rfl rfl),trivial⟩
      kernel_rfl) ?_
    refine aD (dW rfl (aj (dC aa [((0,9),(29,0))] ?_ (hx1) ob tr ae) ?_))
    · repeat' (first | exact dc | refine cC ?_ ?_ | exact Lv.v | exact bv rfl)
    refine go 11 ?_
    refine aF fun K20 hK20=> ?_
    refine go 4 ?_
    refine aj (dC aa [((0,9),(29,0))] ?_ (hx2) ob tr ae) ?_
    · repeat' (first | exact dc | refine cC ?_ ?_ | exact Lv.sl | exact bv rfl)
    refine cp rfl (ay (hK20 _ ?_))
    refine aF fun K21 hK21=> ?_
    refine aD (dW rfl (aj (dC aa [((0,9),(29,0))] ?_ (hx3) ob tr ae) ?_))
    · repeat' (first | exact dc | refine cC ?_ ?_ | exact Lv.v | exact bv rfl)
    refine go 2 ?_
    refine ay (hK21 _ ?_)
    refine aB (σ':=an 114 [(2,_),(8,_),(9,_),(10,_),(11,_)] [((2,0),_),((61,0),_),((62,0),_),((29,0),_),((9,0),_),((11,0),_)] [] []) (by
      refine Le.mkJ [] [] rfl ?_ ?_ trivial trivial ?_
      · exact ⟨(iP rfl),(iP rfl),(iP rfl),(iV rfl),(iP rfl),trivial⟩
      · exact ⟨(bN rfl rfl rfl),(bN rfl rfl rfl),(bN rfl rfl rfl),(bN rfl rfl rfl),(bN rfl rfl rfl),(bN rfl rfl rfl),trivial⟩
      kernel_rfl) ?_
    refine go 6 ?_
    refine aj (ap aa al (hx4) rfl rfl) ?_
    refine go 2 ?_
    refine ay (⟨(g2,pY l (hn,dd),j3),?_,?_,?_⟩)
    · exact ⟨by simp only [hpl2];omega,ha3,h5⟩
    · skip
      refine Le.mkJ [] [] rfl ?_ ?_ trivial trivial ?_
      · exact ⟨(iP rfl),(iP rfl),(iP rfl),trivial⟩
      · exact ⟨(bN rfl rfl rfl),(bN rfl rfl rfl),(bN rfl rfl rfl),(cI rfl rfl rfl rfl lz),(cI rfl rfl rfl rfl lz),trivial⟩
      kernel_rfl
    simp only;omega
  have hrl:=(hm2.resolve_right fun x=> x.1 ab).2
  subst hrl
  refine aW (id (hK14 _ ?_))
  refine aE (aE ?_)
  refine aB (σ':=an 114 [(2,_),(8,_),(9,_)] [((2,0),_),((61,0),_),((62,0),_),((29,0),_),((9,0),_)] [] []) (by
    refine Le.mkJ [] [] rfl ?_ ?_ trivial trivial ?_
    · exact ⟨(iP rfl),(iP rfl),(iP rfl),trivial⟩
    · exact ⟨(bN rfl rfl rfl),(bN rfl rfl rfl),(bN rfl rfl rfl),(bN rfl rfl rfl),(bN rfl rfl rfl),trivial⟩
    kernel_rfl) ?_
  refine go 15 ?_
  exact au (AL (.inr rfl) rfl (.cellA aa rfl rfl rfl) (.tmp kM) (.tmp kM) (Le.out [] [(61,0),(62,0)] (.tup rfl (ai (.agg rfl (ai (dI rfl rfl (by simp) rfl) (ai (dI rfl rfl (by simp) rfl) lz))) lz)) rfl rfl rfl tr trivial))
end Go.Proofs.YtmjnackchaahbaaGreat

set_option maxHeartbeats 2000000
namespace Go.Proofs.YtmjnackchaahbaaGreat
open Go.RowKit

def kP (l:List Nd) (j:Nat):Nd:=l.getD j ⟨0,0,[],0,[]⟩
theorem HC (l:List Nd) (k:Nat) (h:k < l.length):kP l k=l[k]:=by simp [kP,h]
theorem cm (l:List Nd) (k:Nat) (h:k < l.length):PV.ups (((mw l).drop (k*4)).take 4)=[.v (.int .i64 ((kP l k).k:Int)), .v (.int .i64 ((kP l k).n:Int)), .v (bt (kP l k).s), .sl (kP l k).kn (kP l k).kids]:=by
 rw [HC l k h,show ((mw l).drop (k*4)).take 4=l[k].row from ml Nd.row 4 (fun _=> rfl) l k h];rfl
theorem fR (l:List Tx) (n:Nat) (hn:l.length=n) (h1:n≤1000) (t:Tx):Spec Tryz.prog 204 (aI [.sl n (eM l), .v (bt t)] []) (aA (.v (.bool (decide (t∈l)))) []):=by
 refine Spec.ofN Tryz.func204 rfl Tryz.ntmps204 rfl ?_
 refine aG (gn rfl (am (aF fun K2 hK2=> ?_)))
 refine aG (cp rfl (am (aH ?_)))
 refine aS (α:=Nat) (fun k=> k≤n∧t∉l.take k) 18 [(0,_),(1,_)] [] (fun k=> [(5, .v (.int .i64 (k:Int)))]) (fun k=> []) [] [] (fun k=> n - k) 0 ?_ (kj [] [] []) ?_
 ·exact ⟨Nat.zero_le _,by simp⟩
 intro k hk
 obtain ⟨hk,hnt⟩:=hk
 refine aF fun K4 hK4=> ?_
 refine go 6 ?_
 refine ax rfl (fun hc9=> ?_) (fun hc9=> ?_)
 ·refine aR (hK4 _ ?_)
  refine aE (aH (aG (gT rfl (bV rfl (aj (aQ _ _ aa rfl rfl _ rfl ab (by (simp only [aq,aJ,aM,bf,bc,bk,bg];omega)) (by exact Nat.mul_one _)) ?_)))))
  refine aj (bl _ aa rfl (by exact jx _ _ ab) rfl) ?_
  refine tP rfl (aj (cW _ _ Tryz.underlying9 rfl rfl rfl) (am (ax rfl (fun hc17=> ?_) (fun hc17=> ?_))))
  ·refine aG (gn rfl (am (au (qZ rfl rfl ?_))))
   exact decide_eq_true (hc17 ▸ jN ab)
  refine go 5 ?_
  refine ay (⟨k+1,?_,?_,?_⟩)
  ·exact ⟨by omega,kw hnt ab hc17⟩
  ·exact kj [] [] []
  omega
 have hall:t∉l:=by rwa [List.take_of_length_le ab] at hnt
 refine aW (id (hK2 _ ?_))
 refine aG (gn rfl (am (au (qZ rfl rfl ?_))))
 exact decide_eq_false hall
def zK:List Tx:=[[60],[60,61],[62],[62,61],[61,61],[33,61]]
theorem mD (t:Tx):Spec Tryz.prog 227 (aI [.v (bt t)] []) (aA (.v (.bool (decide (t∈zK)))) []):=by
 refine Spec.ofN Tryz.func227 rfl Tryz.ntmps227 rfl ?_
 refine go 6 ?_
 refine aj (ap aa al (fR zK 6 rfl ab t) rfl rfl) ?_
 refine gn rfl (am (au (qZ rfl rfl ?_)))
 rfl
theorem Jh (n:Nat):Spec Tryz.prog 203 (aI [pk (nd 12 n [] [])] []) (aA (.v (.int .i64 1)) []):=by
 refine Spec.ofN Tryz.func203 rfl Tryz.ntmps203 rfl ?_
 refine go 21 ?_
 refine aE ?_
 refine aB (σ':=an 80 [] [] [] []) kp ?_
 exact aD (cp rfl (am (au (eb rfl rfl))))
theorem Ir (s:Tx):Spec Tryz.prog 203 (aI [pk (nd 14 0 s [])] []) (aA (.v (.int .i64 1)) []):=by
 refine Spec.ofN Tryz.func203 rfl Tryz.ntmps203 rfl ?_
 refine go 21 ?_
 refine aE ?_
 refine aB (σ':=an 80 [] [] [] []) kp ?_
 exact aD (cp rfl (am (au (eb rfl rfl))))
theorem EW (s:Tx):Spec Tryz.prog 203 (aI [pk (nd 15 0 s [])] []) (aA (.v (.int .i64 1)) []):=by
 refine Spec.ofN Tryz.func203 rfl Tryz.ntmps203 rfl ?_
 refine go 21 ?_
 refine aE ?_
 refine aB (σ':=an 80 [] [] [] []) kp ?_
 exact aD (cp rfl (am (au (eb rfl rfl))))
theorem FG (n:Nat):Spec Tryz.prog 203 (aI [pk (nd 13 n [] [])] []) (aA (.v (.int .i64 2)) []):=by
 refine Spec.ofN Tryz.func203 rfl Tryz.ntmps203 rfl ?_
 refine go 23 ?_
 refine aE ?_
 refine aB (σ':=an 80 [(1,_)] [((1,0),_)] [] []) kp ?_
 refine go 9 ?_
 exact au (eb rfl rfl)
theorem Gc (L:List Nd) (hL:L.length≤3) (t:Nat→Nat) (ht: ∀ j,t j≤2) (h: ∀ j,j < L.length→Spec Tryz.prog 203 (aI [pk (kP L j)] []) (aA (.v (.int .i64 (t j:Int))) [])) (r:Nat) (hr1:(∀ j,j < L.length→t j=1)→r=1) (hr0: ∀ j,j < L.length→t j≠1→r=0):
  Spec Tryz.prog 203 (aI [.agg [.v (.int .i64 16), .v (.int .i64 0), .v (bt []), .sl L.length (mw L)]] []) (aA (.v (.int .i64 (r:Int))) []):=by
 refine Spec.ofN Tryz.func203 rfl Tryz.ntmps203 rfl ?_
 refine go 23 ?_
 refine aE ?_
 refine aB (σ':=an 80 [(1,_)] [((1,0),_)] [] []) kp ?_
 refine go 25 ?_
 refine aE ?_
 refine aB (σ':=an 80 [(1,_)] [((1,0),_)] [] []) kp ?_
 refine go 31 ?_
 refine aE ?_
 refine aB (σ':=an 80 [(1,_),(3,_),(4,_)] [((1,0),_)] [] []) kp ?_
 refine go 12 ?_
 refine aF fun K14 hK14=> ?_
 refine aG (cp rfl (am (aH ?_)))
 refine aS (α:=Nat) (fun j=> j≤L.length∧ ∀ q,q < j→t q=1) 80 [(1,_),(3,_),(4,_)] [((1,0),_)] (fun j=> [(5, .v (.int .i64 (j:Int)))]) (fun j=> []) [] [] (fun j=> L.length - j) 0 ?_ (kj [0] [] []) ?_
 ·exact ⟨Nat.zero_le _,fun q hq=> by omega⟩
 intro j hj
 obtain ⟨hj,hall⟩:=hj
 have htj:=ht j
 refine aF fun K16 hK16=> ?_
 refine go 7 ?_
 refine ax rfl (fun hc67=> ?_) (fun hc67=> ?_)
 ·refine aR (hK16 _ ?_)
  refine go 6 ?_
  refine aj (aQ _ _ aa rfl rfl _ rfl ab (by (simp only [aq,aJ,aM,bf,bc,bk,bg];omega)) ag) ?_
  refine aj (bs _ aa rfl (by exact cm _ _ ab) rfl) ?_
  refine aj (ap aa al (h j ab) rfl rfl) ?_
  refine go 5 ?_
  refine aj (cV _ _ rfl rfl rfl) (am (ax rfl (fun hc78=> ?_) (fun hc78=> ?_)))
  ·have hr:=hr0 j ab ab
   refine aE ?_
   refine aB (σ':=an 80 [] [] [] []) kp ?_
   refine aD (cp rfl (am (au (rJ rfl rfl ?_))))
   rw [hr];rfl
  have hall1: ∀ q,q < j+1→t q=1:=fun q hq=> by
   by_cases h:q < j
   ·exact hall q h
   obtain rfl:q=j:=by omega
   omega
  refine kH ?_
  refine aB (σ':=an 80 [(1,_),(3,_),(4,_),(5,_)] [((1,0),_)] [] []) kp ?_
  refine go 4 ?_
  refine ay (⟨j+1,?_,?_,?_⟩)
  ·exact ⟨by omega,hall1⟩
  ·exact kj [0] [] []
  omega
 have hr:=hr1 fun q hq=> hall q ab
 refine aW (id (hK14 _ ?_))
 refine aG (bV rfl (cp rfl (am (au (rJ rfl rfl ?_)))))
 rw [hr];rfl
theorem Jd (L:List Nd) (hL:L.length≤3) (t:Nat→Nat) (ht: ∀ j,t j≤2) (h: ∀ j,j < L.length→Spec Tryz.prog 203 (aI [pk (kP L j)] []) (aA (.v (.int .i64 (t j:Int))) [])) (r:Nat) (hr1:(∀ j,j < L.length→t j=1)→r=1) (hr0: ∀ j,j < L.length→t j≠1→r=0):
  Spec Tryz.prog 203 (aI [.agg [.v (.int .i64 17), .v (.int .i64 0), .v (bt [45]), .sl L.length (mw L)]] []) (aA (.v (.int .i64 (r:Int))) []):=by
 refine Spec.ofN Tryz.func203 rfl Tryz.ntmps203 rfl ?_
 refine go 23 ?_
 refine aE ?_
 refine aB (σ':=an 80 [(1,_)] [((1,0),_)] [] []) kp ?_
 refine go 25 ?_
 refine aE ?_
 refine aB (σ':=an 80 [(1,_)] [((1,0),_)] [] []) kp ?_
 refine go 31 ?_
 refine aE ?_
 refine aB (σ':=an 80 [(1,_),(3,_),(4,_)] [((1,0),_)] [] []) kp ?_
 refine go 12 ?_
 refine aF fun K14 hK14=> ?_
 refine aG (cp rfl (am (aH ?_)))
 refine aS (α:=Nat) (fun j=> j≤L.length∧ ∀ q,q < j→t q=1) 80 [(1,_),(3,_),(4,_)] [((1,0),_)] (fun j=> [(5, .v (.int .i64 (j:Int)))]) (fun j=> []) [] [] (fun j=> L.length - j) 0 ?_ (kj [0] [] []) ?_
 ·exact ⟨Nat.zero_le _,fun q hq=> by omega⟩
 intro j hj
 obtain ⟨hj,hall⟩:=hj
 have htj:=ht j
 refine aF fun K16 hK16=> ?_
 refine go 7 ?_
 refine ax rfl (fun hc67=> ?_) (fun hc67=> ?_)
 ·refine aR (hK16 _ ?_)
  refine go 6 ?_
  refine aj (aQ _ _ aa rfl rfl _ rfl ab (by (simp only [aq,aJ,aM,bf,bc,bk,bg];omega)) ag) ?_
  refine aj (bs _ aa rfl (by exact cm _ _ ab) rfl) ?_
  refine aj (ap aa al (h j ab) rfl rfl) ?_
  refine go 5 ?_
  refine aj (cV _ _ rfl rfl rfl) (am (ax rfl (fun hc78=> ?_) (fun hc78=> ?_)))
  ·have hr:=hr0 j ab ab
   refine aE ?_
   refine aB (σ':=an 80 [] [] [] []) kp ?_
   refine aD (cp rfl (am (au (rJ rfl rfl ?_))))
   rw [hr];rfl
  have hall1: ∀ q,q < j+1→t q=1:=fun q hq=> by
   by_cases h:q < j
   ·exact hall q h
   obtain rfl:q=j:=by omega
   omega
  refine kH ?_
  refine aB (σ':=an 80 [(1,_),(3,_),(4,_),(5,_)] [((1,0),_)] [] []) kp ?_
  refine go 4 ?_
  refine ay (⟨j+1,?_,?_,?_⟩)
  ·exact ⟨by omega,hall1⟩
  ·exact kj [0] [] []
  omega
 have hr:=hr1 fun q hq=> hall q ab
 refine aW (id (hK14 _ ?_))
 refine aG (bV rfl (cp rfl (am (au (rJ rfl rfl ?_)))))
 rw [hr];rfl
theorem IP (L:List Nd) (hL:L.length≤3) (t:Nat→Nat) (ht: ∀ j,t j≤2) (h: ∀ j,j < L.length→Spec Tryz.prog 203 (aI [pk (kP L j)] []) (aA (.v (.int .i64 (t j:Int))) [])) (r:Nat) (hr1:(∀ j,j < L.length→t j=2)→r=2) (hr0: ∀ j,j < L.length→t j≠2→r=0):
  Spec Tryz.prog 203 (aI [.agg [.v (.int .i64 17), .v (.int .i64 0), .v (bt [33]), .sl L.length (mw L)]] []) (aA (.v (.int .i64 (r:Int))) []):=by
 refine Spec.ofN Tryz.func203 rfl Tryz.ntmps203 rfl ?_
 refine go 23 ?_
 refine aE ?_
 refine aB (σ':=an 80 [(1,_)] [((1,0),_)] [] []) kp ?_
 refine go 25 ?_
 refine aE ?_
 refine aB (σ':=an 80 [(1,_)] [((1,0),_)] [] []) kp ?_
 refine go 29 ?_
 refine aE ?_
 refine aB (σ':=an 80 [(1,_)] [((1,0),_)] [] []) kp ?_
 refine go 19 ?_
 refine aF fun K15 hK15=> ?_
 refine aG (cp rfl (am (aH ?_)))
 refine aS (α:=Nat) (fun j=> j≤L.length∧ ∀ q,q < j→t q=2) 80 [(1,_),(3,_),(4,_)] [((1,0),_)] (fun j=> [(5, .v (.int .i64 (j:Int)))]) (fun j=> []) [] [] (fun j=> L.length - j) 0 ?_ (kj [0] [] []) ?_
 ·exact ⟨Nat.zero_le _,fun q hq=> by omega⟩
 intro j hj
 obtain ⟨hj,hall⟩:=hj
 have htj:=ht j
 refine aF fun K17 hK17=> ?_
 refine go 7 ?_
 refine ax rfl (fun hc67=> ?_) (fun hc67=> ?_)
 ·refine aR (hK17 _ ?_)
  refine go 6 ?_
  refine aj (aQ _ _ aa rfl rfl _ rfl ab (by (simp only [aq,aJ,aM,bf,bc,bk,bg];omega)) ag) ?_
  refine aj (bs _ aa rfl (by exact cm _ _ ab) rfl) ?_
  refine aj (ap aa al (h j ab) rfl rfl) ?_
  refine go 5 ?_
  refine aj (cV _ _ rfl rfl rfl) (am (ax rfl (fun hc78=> ?_) (fun hc78=> ?_)))
  ·have hr:=hr0 j ab ab
   refine aE ?_
   refine aB (σ':=an 80 [] [] [] []) kp ?_
   refine aD (cp rfl (am (au (rJ rfl rfl ?_))))
   rw [hr];rfl
  have hall1: ∀ q,q < j+1→t q=2:=fun q hq=> by
   by_cases h:q < j
   ·exact hall q h
   obtain rfl:q=j:=by omega
   omega
  refine kH ?_
  refine aB (σ':=an 80 [(1,_),(3,_),(4,_),(5,_)] [((1,0),_)] [] []) kp ?_
  refine go 4 ?_
  refine ay (⟨j+1,?_,?_,?_⟩)
  ·exact ⟨by omega,hall1⟩
  ·exact kj [0] [] []
  omega
 have hr:=hr1 fun q hq=> hall q ab
 refine aW (id (hK15 _ ?_))
 refine aG (bV rfl (cp rfl (am (au (rJ rfl rfl ?_)))))
 rw [hr];rfl
theorem vp (s:Tx) (hs1:s∈[[38,38],[124,124]]) (hs2:s∉zK) (L:List Nd) (hL:L.length≤3) (t:Nat→Nat) (ht: ∀ j,t j≤2) (h: ∀ j,j < L.length→Spec Tryz.prog 203 (aI [pk (kP L j)] []) (aA (.v (.int .i64 (t j:Int))) [])) (r:Nat) (hr1:(∀ j,j < L.length→t j=2)→r=2) (hr0: ∀ j,j < L.length→t j≠2→r=0):
  Spec Tryz.prog 203 (aI [.agg [.v (.int .i64 18), .v (.int .i64 0), .v (bt s), .sl L.length (mw L)]] []) (aA (.v (.int .i64 (r:Int))) []):=by
 refine Spec.ofN Tryz.func203 rfl Tryz.ntmps203 rfl ?_
 refine go 23 ?_
 refine aE ?_
 refine aB (σ':=an 80 [(1,_)] [((1,0),_)] [] []) kp ?_
 refine go 25 ?_
 refine aE ?_
 refine aB (σ':=an 80 [(1,_)] [((1,0),_)] [] []) kp ?_
 refine go 24 ?_
 refine aZ rfl rfl (ap aa al (fR [[38,38],[124,124]] 2 rfl ab s) rfl rfl) ?_
 refine go 3 ?_
 refine fX rfl (decide_eq_true hs1) ?_
 refine aE ?_
 refine aB (σ':=an 80 [(1,_)] [((1,0),_)] [] []) kp ?_
 refine go 14 ?_
 refine aZ rfl rfl (ap aa al (mD s) rfl rfl) ?_
 refine go 2 ?_
 refine cP rfl (decide_eq_false hs2) ?_
 refine cO (aF fun K15 hK15=> ?_)
 refine aG (cp rfl (am (aH ?_)))
 refine aS (α:=Nat) (fun j=> j≤L.length∧ ∀ q,q < j→t q=2) 80 [(1,_),(3,_),(4,_)] [((1,0),_)] (fun j=> [(5, .v (.int .i64 (j:Int)))]) (fun j=> []) [] [] (fun j=> L.length - j) 0 ?_ (kj [0] [] []) ?_
 ·exact ⟨Nat.zero_le _,fun q hq=> by omega⟩
 intro j hj
 obtain ⟨hj,hall⟩:=hj
 have htj:=ht j
 refine aF fun K17 hK17=> ?_
 refine go 7 ?_
 refine ax rfl (fun hc67=> ?_) (fun hc67=> ?_)
 ·refine aR (hK17 _ ?_)
  refine go 6 ?_
  refine aj (aQ _ _ aa rfl rfl _ rfl ab (by (simp only [aq,aJ,aM,bf,bc,bk,bg];omega)) ag) ?_
  refine aj (bs _ aa rfl (by exact cm _ _ ab) rfl) ?_
  refine aj (ap aa al (h j ab) rfl rfl) ?_
  refine go 5 ?_
  refine aj (cV _ _ rfl rfl rfl) (am (ax rfl (fun hc78=> ?_) (fun hc78=> ?_)))
  ·have hr:=hr0 j ab ab
   refine aE ?_
   refine aB (σ':=an 80 [] [] [] []) kp ?_
   refine aD (cp rfl (am (au (rJ rfl rfl ?_))))
   rw [hr];rfl
  have hall1: ∀ q,q < j+1→t q=2:=fun q hq=> by
   by_cases h:q < j
   ·exact hall q h
   obtain rfl:q=j:=by omega
   omega
  refine kH ?_
  refine aB (σ':=an 80 [(1,_),(3,_),(4,_),(5,_)] [((1,0),_)] [] []) kp ?_
  refine go 4 ?_
  refine ay (⟨j+1,?_,?_,?_⟩)
  ·exact ⟨by omega,hall1⟩
  ·exact kj [0] [] []
  omega
 have hr:=hr1 fun q hq=> hall q ab
 refine aW (id (hK15 _ ?_))
 refine aG (bV rfl (cp rfl (am (au (rJ rfl rfl ?_)))))
 rw [hr];rfl
theorem IB (s:Tx) (hs1:s∉[[38,38],[124,124]]) (hs2:s∈zK) (L:List Nd) (hL:L.length≤3) (t:Nat→Nat) (ht: ∀ j,t j≤2) (h: ∀ j,j < L.length→Spec Tryz.prog 203 (aI [pk (kP L j)] []) (aA (.v (.int .i64 (t j:Int))) [])) (r:Nat) (hr1:(∀ j,j < L.length→t j=1)→r=2) (hr0: ∀ j,j < L.length→t j≠1→r=0):
  Spec Tryz.prog 203 (aI [.agg [.v (.int .i64 18), .v (.int .i64 0), .v (bt s), .sl L.length (mw L)]] []) (aA (.v (.int .i64 (r:Int))) []):=by
 refine Spec.ofN Tryz.func203 rfl Tryz.ntmps203 rfl ?_
 refine go 23 ?_
 refine aE ?_
 refine aB (σ':=an 80 [(1,_)] [((1,0),_)] [] []) kp ?_
 refine go 25 ?_
 refine aE ?_
 refine aB (σ':=an 80 [(1,_)] [((1,0),_)] [] []) kp ?_
 refine go 24 ?_
 refine aZ rfl rfl (ap aa al (fR [[38,38],[124,124]] 2 rfl ab s) rfl rfl) ?_
 refine go 3 ?_
 refine cP rfl (decide_eq_false hs1) ?_
 refine cO (aE (aE ?_))
 refine aB (σ':=an 80 [(1,_),(3,_),(4,_)] [((1,0),_)] [] []) kp ?_
 refine go 7 ?_
 refine aZ rfl rfl (ap aa al (mD s) rfl rfl) ?_
 refine go 2 ?_
 refine fX rfl (decide_eq_true hs2) ?_
 refine aD (cp rfl (am (aF fun K14 hK14=> ?_)))
 refine aG (cp rfl (am (aH ?_)))
 refine aS (α:=Nat) (fun j=> j≤L.length∧ ∀ q,q < j→t q=1) 80 [(1,_),(3,_),(4,_)] [((1,0),_)] (fun j=> [(5, .v (.int .i64 (j:Int)))]) (fun j=> []) [] [] (fun j=> L.length - j) 0 ?_ (kj [0] [] []) ?_
 ·exact ⟨Nat.zero_le _,fun q hq=> by omega⟩
 intro j hj
 obtain ⟨hj,hall⟩:=hj
 have htj:=ht j
 refine aF fun K16 hK16=> ?_
 refine go 7 ?_
 refine ax rfl (fun hc67=> ?_) (fun hc67=> ?_)
 ·refine aR (hK16 _ ?_)
  refine go 6 ?_
  refine aj (aQ _ _ aa rfl rfl _ rfl ab (by (simp only [aq,aJ,aM,bf,bc,bk,bg];omega)) ag) ?_
  refine aj (bs _ aa rfl (by exact cm _ _ ab) rfl) ?_
  refine aj (ap aa al (h j ab) rfl rfl) ?_
  refine go 5 ?_
  refine aj (cV _ _ rfl rfl rfl) (am (ax rfl (fun hc78=> ?_) (fun hc78=> ?_)))
  ·have hr:=hr0 j ab ab
   refine aE ?_
   refine aB (σ':=an 80 [] [] [] []) kp ?_
   refine aD (cp rfl (am (au (rJ rfl rfl ?_))))
   rw [hr];rfl
  have hall1: ∀ q,q < j+1→t q=1:=fun q hq=> by
   by_cases h:q < j
   ·exact hall q h
   obtain rfl:q=j:=by omega
   omega
  refine kH ?_
  refine aB (σ':=an 80 [(1,_),(3,_),(4,_),(5,_)] [((1,0),_)] [] []) kp ?_
  refine go 4 ?_
  refine ay (⟨j+1,?_,?_,?_⟩)
  ·exact ⟨by omega,hall1⟩
  ·exact kj [0] [] []
  omega
 have hr:=hr1 fun q hq=> hall q ab
 refine aW (id (hK14 _ ?_))
 refine aG (bV rfl (cp rfl (am (au (rJ rfl rfl ?_)))))
 rw [hr];rfl
theorem Ci (s:Tx) (hs1:s∉[[38,38],[124,124]]) (hs2:s∉zK) (L:List Nd) (hL:L.length≤3) (t:Nat→Nat) (ht: ∀ j,t j≤2) (h: ∀ j,j < L.length→Spec Tryz.prog 203 (aI [pk (kP L j)] []) (aA (.v (.int .i64 (t j:Int))) [])) (r:Nat) (hr1:(∀ j,j < L.length→t j=1)→r=1) (hr0: ∀ j,j < L.length→t j≠1→r=0):
  Spec Tryz.prog 203 (aI [.agg [.v (.int .i64 18), .v (.int .i64 0), .v (bt s), .sl L.length (mw L)]] []) (aA (.v (.int .i64 (r:Int))) []):=by
 refine Spec.ofN Tryz.func203 rfl Tryz.ntmps203 rfl ?_
 refine go 23 ?_
 refine aE ?_
 refine aB (σ':=an 80 [(1,_)] [((1,0),_)] [] []) kp ?_
 refine go 25 ?_
 refine aE ?_
 refine aB (σ':=an 80 [(1,_)] [((1,0),_)] [] []) kp ?_
 refine go 24 ?_
 refine aZ rfl rfl (ap aa al (fR [[38,38],[124,124]] 2 rfl ab s) rfl rfl) ?_
 refine go 3 ?_
 refine cP rfl (decide_eq_false hs1) ?_
 refine cO (aE (aE ?_))
 refine aB (σ':=an 80 [(1,_),(3,_),(4,_)] [((1,0),_)] [] []) kp ?_
 refine go 7 ?_
 refine aZ rfl rfl (ap aa al (mD s) rfl rfl) ?_
 refine go 2 ?_
 refine cP rfl (decide_eq_false hs2) ?_
 refine cO (aF fun K14 hK14=> ?_)
 refine aG (cp rfl (am (aH ?_)))
 refine aS (α:=Nat) (fun j=> j≤L.length∧ ∀ q,q < j→t q=1) 80 [(1,_),(3,_),(4,_)] [((1,0),_)] (fun j=> [(5, .v (.int .i64 (j:Int)))]) (fun j=> []) [] [] (fun j=> L.length - j) 0 ?_ (kj [0] [] []) ?_
 ·exact ⟨Nat.zero_le _,fun q hq=> by omega⟩
 intro j hj
 obtain ⟨hj,hall⟩:=hj
 have htj:=ht j
 refine aF fun K16 hK16=> ?_
 refine go 7 ?_
 refine ax rfl (fun hc67=> ?_) (fun hc67=> ?_)
 ·refine aR (hK16 _ ?_)
  refine go 6 ?_
  refine aj (aQ _ _ aa rfl rfl _ rfl ab (by (simp only [aq,aJ,aM,bf,bc,bk,bg];omega)) ag) ?_
  refine aj (bs _ aa rfl (by exact cm _ _ ab) rfl) ?_
  refine aj (ap aa al (h j ab) rfl rfl) ?_
  refine go 5 ?_
  refine aj (cV _ _ rfl rfl rfl) (am (ax rfl (fun hc78=> ?_) (fun hc78=> ?_)))
  ·have hr:=hr0 j ab ab
   refine aE ?_
   refine aB (σ':=an 80 [] [] [] []) kp ?_
   refine aD (cp rfl (am (au (rJ rfl rfl ?_))))
   rw [hr];rfl
  have hall1: ∀ q,q < j+1→t q=1:=fun q hq=> by
   by_cases h:q < j
   ·exact hall q h
   obtain rfl:q=j:=by omega
   omega
  refine kH ?_
  refine aB (σ':=an 80 [(1,_),(3,_),(4,_),(5,_)] [((1,0),_)] [] []) kp ?_
  refine go 4 ?_
  refine ay (⟨j+1,?_,?_,?_⟩)
  ·exact ⟨by omega,hall1⟩
  ·exact kj [0] [] []
  omega
 have hr:=hr1 fun q hq=> hall q ab
 refine aW (id (hK14 _ ?_))
 refine aG (bV rfl (cp rfl (am (au (rJ rfl rfl ?_)))))
 rw [hr];rfl
end Go.Proofs.YtmjnackchaahbaaGreat

set_option maxHeartbeats 2000000
namespace Go.Proofs.YtmjnackchaahbaaGreat
open Go.RowKit

theorem pD: ∀ e,eY e≤2
 | .int _=> by simp [eY] | .bool _=> by simp [eY] | .var _=> by simp [eY] | .name _=> by simp [eY]
 | .draw e=> by simp only [eY];split <;> omega
 | .neg e=> by simp only [eY];split <;> omega
 | .not e=> by simp only [eY];split <;> omega
 | .bin o a b=> by cases o <;> simp only [eY] <;> split <;> omega
 | .and a b=> by simp only [eY];split <;> omega
 | .or a b=> by simp only [eY];split <;> omega
def vb (a b:Ex) (j:Nat):Nat:=if j=0 then eY a else eY b
theorem pC (a b:Ex) (j:Nat):vb a b j≤2:=by unfold vb;split <;> exact pD _
theorem pG {a b:Ex} {op j:Nat} (hj:j < 2) (h:vb a b j≠op): ¬ (eY a=op∧eY b=op):=fun e=> by
 have:j=0∨j=1:=by omega
 rcases this with rfl | rfl
 ·exact h e.1
 exact h e.2
theorem uw (o:Bo):o.txt∉([[38,38],[124,124]]:List Tx):=by cases o <;> decide
def Ni:Bo→Nat | .add=> 1 | .sub=> 1 | .mul=> 1 | .div=> 1 | _=> 2
abbrev wB (d:Nd) (t:Nat):Prop:=Spec Tryz.prog 203 (aI [pk d] []) (aA (.v (.int .i64 (t:Int))) [])
theorem tC {d:Nd} {t:Nat} (h:wB d t): ∀ j,j < [d].length→wB (kP [d] j) t:=fun j hj=> by
 have:j=0:=by simpa using hj
 subst this
 exact h
theorem qX {d e:Nd} {a b:Ex} (h1:wB d (eY a)) (h2:wB e (eY b)): ∀ j,j < [d,e].length→wB (kP [d,e] j) (vb a b j):=fun j hj=> by
 have hj:j < 2:=hj
 have:j=0∨j=1:=by omega
 rcases this with rfl | rfl
 ·exact h1
 exact h2
theorem dY (nm:List Tx): ∀ e:Ex,wB (eo nm e) (eY e)
 | .int n=> Jh n.toNat
 | .bool b=> FG (if b then 1 else 0)
 | .var i=> Ir (nm.getD i [])
 | .name k=> EW (bltT.getD k [])
 | .draw e=> Gc [eo nm e] (by simp) (fun _=> eY e) (fun _=> pD e) (tC (dY nm e)) _ (fun h=> if_pos (h 0 (by simp))) (fun _ _ h=> if_neg h)
 | .neg e=> Jd [eo nm e] (by simp) (fun _=> eY e) (fun _=> pD e) (tC (dY nm e)) _ (fun h=> if_pos (h 0 (by simp))) (fun _ _ h=> if_neg h)
 | .not e=> IP [eo nm e] (by simp) (fun _=> eY e) (fun _=> pD e) (tC (dY nm e)) _ (fun h=> if_pos (h 0 (by simp))) (fun _ _ h=> if_neg h)
 | .and a b=> vp [38,38] ah ah [eo nm a,eo nm b] (by simp) (vb a b) (pC a b) (qX (dY nm a) (dY nm b)) _ (fun h=> if_pos ⟨h 0 (by simp),h 1 (by simp)⟩) (fun _ hj h=> if_neg (pG hj h))
 | .or a b=> vp [124,124] ah ah [eo nm a,eo nm b] (by simp) (vb a b) (pC a b) (qX (dY nm a) (dY nm b)) _ (fun h=> if_pos ⟨h 0 (by simp),h 1 (by simp)⟩) (fun _ hj h=> if_neg (pG hj h))
 | .bin o a b=> by
  have hty:eY (.bin o a b)=if eY a=1∧eY b=1 then Ni o else 0:=by cases o <;> rfl
  have hk:=qX (dY nm a) (dY nm b)
  by_cases ho:o.txt∈zK
  ·have h2:Ni o=2:=by cases o <;> first | rfl | (exact absurd ho ah)
   rw [h2] at hty
   exact IB o.txt (uw o) ho [eo nm a,eo nm b] (by simp) (vb a b) (pC a b) hk _ (fun h=> hty.trans (if_pos ⟨h 0 (by simp),h 1 (by simp)⟩)) (fun _ hj h=> hty.trans (if_neg (pG hj h)))
  have h2:Ni o=1:=by cases o <;> first | rfl | (exact absurd ah ho)
  rw [h2] at hty
  exact Ci o.txt (uw o) ho [eo nm a,eo nm b] (by simp) (vb a b) (pC a b) hk _ (fun h=> hty.trans (if_pos ⟨h 0 (by simp),h 1 (by simp)⟩)) (fun _ hj h=> hty.trans (if_neg (pG hj h)))
theorem ki (n:Int) (s:Tx) (L:List Nd) (h: ∀ j,j < L.length→Spec Tryz.prog 166 (aI [pk (kP L j)] []) (aA (.v (.bool true)) [])):
  Spec Tryz.prog 166 (aI [.agg [.v (.int .i64 11), .v (.int .i64 n), .v (bt s), .sl L.length (mw L)]] []) (aA (.v (.bool true)) []):=by
 refine Spec.ofN Tryz.func166 rfl Tryz.ntmps166 rfl ?_
 refine aE ?_
 refine lC 0 3 rfl rfl rfl fun hlen=> ?_
 unfold maxLen at hlen
 refine go 11 ?_
 refine aF fun K4 hK4=> ?_
 refine aG (cp rfl (am (aH ?_)))
 refine aS (α:=Nat) (fun j=> j≤L.length) 73 [(1,_)] [((1,0),_)] (fun j=> [(3, .v (.int .i64 (j:Int)))]) (fun j=> []) [] [] (fun j=> L.length - j) 0 ?_ (kj [0] [] []) ?_
 ·omega
 intro j hj
 refine aF fun K6 hK6=> ?_
 refine go 7 ?_
 refine ax rfl (fun hc17=> ?_) (fun hc17=> ?_)
 ·refine aR (hK6 _ ?_)
  refine go 6 ?_
  refine aj (aQ _ _ aa rfl rfl _ rfl ab (by (simp only [aq,aJ,aM,bf,bc,bk,bg];omega)) ag) ?_
  refine aj (bs _ aa rfl (by exact cm _ _ ab) rfl) ?_
  refine aj (ap aa al (h j ab) rfl rfl) ?_
  refine go 12 ?_
  refine ay (⟨j+1,?_,?_,?_⟩)
  ·omega
  ·exact kj [0] [] []
  omega
 refine aW (id (hK4 _ ?_))
 refine aG (gn rfl (am (au (qZ rfl rfl ?_))))
 rfl
theorem sh (k:Nat) (hk:k=2∨k=3) (n:Int) (s:Tx) (L:List Nd) (hL:0 < L.length) (ht:Spec Tryz.prog 203 (aI [pk (kP L 0)] []) (aA (.v (.int .i64 2)) [])) (h: ∀ j,1≤j→j < L.length→Spec Tryz.prog 166 (aI [pk (kP L j)] []) (aA (.v (.bool true)) [])):
  Spec Tryz.prog 166 (aI [.agg [.v (.int .i64 (k:Int)), .v (.int .i64 n), .v (bt s), .sl L.length (mw L)]] []) (aA (.v (.bool true)) []):=by
 refine Spec.ofN Tryz.func166 rfl Tryz.ntmps166 rfl ?_
 refine aE ?_
 refine lC 0 3 rfl rfl rfl fun hlen=> ?_
 unfold maxLen at hlen
 refine go 8 ?_
 refine Av rfl rfl (beq_eq_false_iff_ne.2 ab) ?_
 refine go 7 ?_
 refine aj (bb _ _ rfl rfl rfl) (FV rfl (cj (fun hg31=> ?_) (fun hg31=> ?_)))
 ·refine go 9 ?_
  refine aj (aQ _ _ aa rfl rfl 0 rfl hL (by simp only [bk];omega) rfl) ?_
  refine aj (bs _ aa rfl (by exact cm L 0 hL) rfl) ?_
  refine aj (ap aa al (ht) rfl rfl) ?_
  refine cp rfl (am (aF fun K7 hK7=> ?_))
  refine aE ?_
  refine aB (σ':=an 73 [(1,_),(5,_)] [((1,0),_)] [] []) kp ?_
  refine aD (cp rfl (am (aH ?_)))
  refine aS (α:=Nat) (fun j=> 1≤j∧j≤L.length) 73 [(1,_),(5,_)] [((1,0),_)] (fun j=> [(6, .v (.int .i64 (j:Int)))]) (fun j=> []) [] [] (fun j=> L.length - j) 1 ?_ (kj [0] [] []) ?_
  ·exact ⟨Nat.le_refl _,hL⟩
  intro j hj
  obtain ⟨hj1,hj2⟩:=hj
  refine aF fun K9 hK9=> ?_
  refine go 7 ?_
  refine ax rfl (fun hc45=> ?_) (fun hc45=> ?_)
  ·refine aR (hK9 _ ?_)
   refine go 6 ?_
   refine aj (aQ _ _ aa rfl rfl _ rfl ab (by (simp only [aq,aJ,aM,bf,bc,bk,bg];omega)) ag) ?_
   refine aj (bs _ aa rfl (by exact cm _ _ ab) rfl) ?_
   refine aj (ap aa al (h j hj1 ab) rfl rfl) ?_
   refine go 12 ?_
   refine ay (⟨j+1,?_,?_,?_⟩)
   ·omega
   ·exact kj [0] [] []
   omega
  refine aW (id (hK7 _ ?_))
  refine go 5 ?_
  refine au (qZ rfl rfl ?_)
  rfl
 have hk3:k=3:=by omega
 refine go 2 ?_
 refine aZ rfl rfl (bb (r:=true) _ _ rfl rfl (beq_iff_eq.2 ab)) ?_
 refine go 6 ?_
 refine aj (aQ _ _ aa rfl rfl 0 rfl hL (by simp only [bk];omega) rfl) ?_
 refine aj (bs _ aa rfl (by exact cm L 0 hL) rfl) ?_
 refine aj (ap aa al (ht) rfl rfl) ?_
 refine cp rfl (am (aF fun K16 hK16=> ?_))
 refine aE ?_
 refine aB (σ':=an 73 [(1,_),(5,_)] [((1,0),_)] [] []) kp ?_
 refine aD (cp rfl (am (aH ?_)))
 refine aS (α:=Nat) (fun j=> 1≤j∧j≤L.length) 73 [(1,_),(5,_)] [((1,0),_)] (fun j=> [(6, .v (.int .i64 (j:Int)))]) (fun j=> []) [] [] (fun j=> L.length - j) 1 ?_ (kj [0] [] []) ?_
 ·exact ⟨Nat.le_refl _,hL⟩
 intro j hj
 obtain ⟨hj1,hj2⟩:=hj
 refine aF fun K18 hK18=> ?_
 refine go 7 ?_
 refine ax rfl (fun hc45=> ?_) (fun hc45=> ?_)
 ·refine aR (hK18 _ ?_)
  refine go 6 ?_
  refine aj (aQ _ _ aa rfl rfl _ rfl ab (by (simp only [aq,aJ,aM,bf,bc,bk,bg];omega)) ag) ?_
  refine aj (bs _ aa rfl (by exact cm _ _ ab) rfl) ?_
  refine aj (ap aa al (h j hj1 ab) rfl rfl) ?_
  refine go 12 ?_
  refine ay (⟨j+1,?_,?_,?_⟩)
  ·omega
  ·exact kj [0] [] []
  omega
 refine aW (id (hK16 _ ?_))
 refine go 5 ?_
 refine au (qZ rfl rfl ?_)
 rfl
theorem fc (k:Nat) (hk:k≠2∧k≠3∧k≠11) (n:Int) (s:Tx) (L:List Nd) (h: ∀ j,j < L.length→Spec Tryz.prog 203 (aI [pk (kP L j)] []) (aA (.v (.int .i64 1)) [])):
  Spec Tryz.prog 166 (aI [.agg [.v (.int .i64 (k:Int)), .v (.int .i64 n), .v (bt s), .sl L.length (mw L)]] []) (aA (.v (.bool true)) []):=by
 refine Spec.ofN Tryz.func166 rfl Tryz.ntmps166 rfl ?_
 refine aE ?_
 refine lC 0 3 rfl rfl rfl fun hlen=> ?_
 unfold maxLen at hlen
 refine go 8 ?_
 refine Av rfl rfl (beq_eq_false_iff_ne.2 ab) ?_
 refine go 7 ?_
 refine Av rfl rfl (beq_eq_false_iff_ne.2 ab) ?_
 refine go 3 ?_
 refine aZ rfl rfl (bb (r:=false) _ _ rfl rfl (beq_eq_false_iff_ne.2 ab)) ?_
 refine go 4 ?_
 refine aF fun K6 hK6=> ?_
 refine aG (cp rfl (am (aH ?_)))
 refine aS (α:=Nat) (fun j=> j≤L.length) 73 [(1,_)] [((1,0),_)] (fun j=> [(8, .v (.int .i64 (j:Int)))]) (fun j=> []) [] [] (fun j=> L.length - j) 0 ?_ (kj [0] [] []) ?_
 ·omega
 intro j hj
 refine aF fun K8 hK8=> ?_
 refine go 7 ?_
 refine ax rfl (fun hc62=> ?_) (fun hc62=> ?_)
 ·refine aR (hK8 _ ?_)
  refine go 6 ?_
  refine aj (aQ _ _ aa rfl rfl _ rfl ab (by (simp only [aq,aJ,aM,bf,bc,bk,bg];omega)) ag) ?_
  refine aj (bs _ aa rfl (by exact cm _ _ ab) rfl) ?_
  refine aj (ap aa al (h j ab) rfl rfl) ?_
  refine go 12 ?_
  refine ay (⟨j+1,?_,?_,?_⟩)
  ·omega
  ·exact kj [0] [] []
  omega
 refine aW (id (hK6 _ ?_))
 refine aG (gn rfl (am (au (qZ rfl rfl ?_))))
 rfl
end Go.Proofs.YtmjnackchaahbaaGreat

set_option maxHeartbeats 2000000
namespace Go.Proofs.YtmjnackchaahbaaGreat
open Go.RowKit

abbrev MQ (d:Nd):Prop:=Spec Tryz.prog 166 (aI [pk d] []) (aA (.v (.bool true)) [])
theorem jk {nm:List Tx} {e:Ex} (h:oQ e=true):wB (eo nm e) 1:=by
 have:=Nat.eq_of_beq_eq_true h
 have h2:=dY nm e
 rwa [this] at h2
theorem Jw {P:Nd→Prop} {d:Nd} (h:P d): ∀ j,j < [d].length→P (kP [d] j):=fun j hj=> by
 have:j=0:=by simpa using hj
 subst this
 exact h
theorem LR {P:Nd→Prop} {d e:Nd} (h:P d) (h':P e): ∀ j,j < [d,e].length→P (kP [d,e] j):=fun j hj=> by
 have hj:j < 2:=hj
 have:j=0∨j=1:=by omega
 rcases this with rfl | rfl
 ·exact h
 exact h'
theorem LU {P:Nd→Prop} {d e f:Nd} (h:P d) (h':P e) (h2:P f): ∀ j,j < [d,e,f].length→P (kP [d,e,f] j):=fun j hj=> by
 have hj:j < 3:=hj
 have:j=0∨j=1∨j=2:=by omega
 rcases this with rfl | rfl | rfl
 ·exact h
 ·exact h'
 exact h2
theorem Ct {P:Nd→Prop}: ∀ j,j < ([]:List Nd).length→P (kP [] j):=fun j hj=> by simp at hj
theorem Nf {P:Nd→Prop} {d:Nd} {l:List Nd} (h:P d) (h': ∀ j,j < l.length→P (kP l j)): ∀ j,j < (d::l).length→P (kP (d::l) j):=fun j hj=> by
 cases j with
 | zero=> exact h
 | succ j=> exact h' j (by simpa using hj)
mutual
theorem ED (nm:List Tx): ∀ s:Sm,zJ s=true→MQ (EX nm s)
 | .assign i e,h=> fc 1 ab 0 (nm.getD i []) [eo nm e] (Jw (P:=fun d=> wB d 1) (jk h))
 | .send t k a b,h=> by
  simp only [zJ,Bool.and_eq_true] at h
  exact fc 4 ab k [] [eo nm t,eo nm a,eo nm b] (LU (P:=fun d=> wB d 1) (jk h.1.1) (jk h.1.2) (jk h.2))
 | .timer k,_=> fc 5 ab k [] [] (Ct (P:=fun d=> wB d 1))
 | .cancel k,_=> fc 6 ab k [] [] (Ct (P:=fun d=> wB d 1))
 | .sync,_=> fc 7 ab 0 [] [] (Ct (P:=fun d=> wB d 1))
 | .stop,_=> fc 10 ab 0 [] [] (Ct (P:=fun d=> wB d 1))
 | .reply a b,h=> by
  simp only [zJ,Bool.and_eq_true] at h
  exact fc 8 ab 0 [] [eo nm a,eo nm b] (LR (P:=fun d=> wB d 1) (jk h.1) (jk h.2))
 | .fail e,h=> fc 9 ab 0 [] [eo nm e] (Jw (P:=fun d=> wB d 1) (jk h))
 | .loop c b,h=> by
  simp only [zJ,Bool.and_eq_true] at h
  have h1:=dY nm c
  rw [Nat.eq_of_beq_eq_true h.1] at h1
  refine sh 3 (.inr rfl) 0 [] [eo nm c,nd 11 0 [] (ix nm b)] (by simp) h1 fun j h1 hj=> ?_
  have hj:j < 2:=hj
  obtain rfl:j=1:=by omega
  exact ki 0 [] (ix nm b) (nQ nm b h.2)
 | .ite c a b,h=> by
  simp only [zJ,Bool.and_eq_true] at h
  have h1:=dY nm c
  rw [Nat.eq_of_beq_eq_true h.1.1] at h1
  refine sh 2 (.inl rfl) 0 [] [eo nm c,nd 11 0 [] (ix nm a),nd 11 0 [] (ix nm b)] (by simp) h1 fun j h1 hj=> ?_
  have hj:j < 3:=hj
  have:j=1∨j=2:=by omega
  rcases this with rfl | rfl
  ·exact ki 0 [] (ix nm a) (nQ nm a h.1.2)
  exact ki 0 [] (ix nm b) (nQ nm b h.2)
theorem nQ (nm:List Tx): ∀ b:Bk,qv b=true→ ∀ j,j < (ix nm b).length→MQ (kP (ix nm b) j)
 | .nil,_=> Ct
 | .cons s b,h=> by
  simp only [qv,Bool.and_eq_true] at h
  exact Nf (ED nm s h.1) (nQ nm b h.2)
end
theorem FR (nm:List Tx) (b:Bk) (h:qv b=true):MQ (iy nm b):=ki 0 [] (ix nm b) (nQ nm b h)

def ie (s:Tx) (l:List Tx):List Tx:=if s∈l then l else l++[s]
section
variable (nm:List Tx)
def sy:Ex→List Tx→List Tx
 | .int _,l=> l | .bool _,l=> l | .name _,l=> l
 | .var i,l=> ie (nm.getD i []) l
 | .draw e,l=> sy e l | .neg e,l=> sy e l | .not e,l=> sy e l
 | .bin _ a b,l=> sy b (sy a l)
 | .and a b,l=> sy b (sy a l)
 | .or a b,l=> sy b (sy a l)
mutual
def MY:Sm→List Tx→List Tx
 | .assign i e,l=> sy nm e (ie (nm.getD i []) l)
 | .send t _ a b,l=> sy nm b (sy nm a (sy nm t l))
 | .timer _,l=> l | .cancel _,l=> l | .sync,l=> l | .stop,l=> l
 | .reply a b,l=> sy nm b (sy nm a l)
 | .fail e,l=> sy nm e l
 | .loop c b,l=> EA b (sy nm c l)
 | .ite c a b,l=> EA b (EA a (sy nm c l))
def EA:Bk→List Tx→List Tx
 | .nil,l=> l
 | .cons s b,l=> EA b (MY s l)
end
def GN (l:List Tx):Prop:=l.Nodup∧ ∀ x∈l,x∈nm
end
theorem GN.len {nm l:List Tx} (h:GN nm l):l.length≤nm.length:=h.1.length_le_of_subset fun x hx=> h.2 x hx
theorem GN.add {nm l:List Tx} (h:GN nm l) {i:Nat} (hi:i < nm.length):GN nm (ie (nm.getD i []) l):=by
 unfold ie
 split
 ·exact h
 rename_i hn
 refine ⟨List.nodup_append.2 ⟨h.1,by simp,fun a ha b hb e=> hn (by rw [List.mem_singleton.1 hb] at e;exact e ▸ ha)⟩,fun x hx=> ?_⟩
 rcases List.mem_append.1 hx with hx | hx
 ·exact h.2 x hx
 rw [List.mem_singleton.1 hx];exact jN hi
theorem GN.nil {nm:List Tx}:GN nm []:=⟨.nil,fun x hx=> by simp at hx⟩
theorem vO (n:Int) (s:Tx) (L:List Nd) (l:List Tx) (hs:s∉l) (hl:l.length≤1000) (F:Nat→List Tx) (hF:F 0=l++[s]) (h: ∀ j,j < L.length→Spec Tryz.prog 167 (aI [pk (kP L j), .sl (F j).length (eM (F j))] []) (aA (.sl (F (j+1)).length (eM (F (j+1)))) [])):
  Spec Tryz.prog 167 (aI [.agg [.v (.int .i64 1), .v (.int .i64 n), .v (bt s), .sl L.length (mw L)], .sl l.length (eM l)] []) (aA (.sl (F L.length).length (eM (F L.length))) []):=by
 refine Spec.ofN Tryz.func167 rfl Tryz.ntmps167 rfl ?_
 refine aE ?_
 refine lC 0 3 rfl rfl rfl fun hlen=> ?_
 unfold maxLen at hlen
 refine aD (aj (dX (2,0) _ rfl rfl) (aj (aX _ ea) (go 15 ?_)))
 refine aZ rfl rfl (ap aa al (fR l _ rfl ab s) rfl rfl) ?_
 refine go 3 ?_
 refine fX rfl (by rw [decide_eq_false hs];rfl) ?_
 refine aE ?_
 refine aB (σ':=an 45 [(1,_),(2,_)] [((2,0),_)] [] []) kp ?_
 refine aD (aj (aX _ ea) (am (aG (aj (bZ _ ea) (gT rfl (aj (sL (24,0) _ _ aa rfl (.sl (by simp)) ab rfl) ?_))))))
 refine go 7 ?_
 refine aj (bG (29,0) _ _ aa rfl rfl (by simp) (.sl rfl) ab rfl (nH _ _) (show l.length+1=(l++[s]).length by simp)) ?_
 refine dZ rfl (am (aF fun K6 hK6=> ?_))
 refine aG (cp rfl (am (aH ?_)))
 refine aB (Le.frzS 1 (ys:=eM (l++[s])) rfl rfl rfl (by rw [List.drop_zero,Nat.mul_one];exact List.take_of_length_le (by simp)) (by simp)) ?_
 refine aS (α:=Nat) (fun j=> j≤L.length) 45 [(2,_)] [((2,0),_)] (fun j=> [(6, .v (.int .i64 (j:Int))),(1, .sl (F j).length (eM (F j)))]) (fun j=> []) [] [] (fun j=> L.length - j) 0 ?_ (by
  refine Le.mkJ [] [] rfl ?_ ?_ trivial trivial ?_
  ·exact ⟨(iP rfl),(aN ag),(cL (by rw [hF]) (by rw [hF])),trivial⟩
  ·exact ⟨(bN rfl rfl rfl),trivial⟩
  kernel_rfl) ?_
 ·omega
 intro j hj
 refine aF fun K8 hK8=> ?_
 refine go 7 ?_
 refine ax rfl (fun hc34=> ?_) (fun hc34=> ?_)
 ·refine aR (hK8 _ ?_)
  refine go 6 ?_
  refine aj (aQ _ _ aa rfl rfl _ rfl ab (by (simp only [aq,aJ,aM,bf,bc,bk,bg];omega)) ag) ?_
  refine aj (bs _ aa rfl (by exact cm _ _ ab) rfl) ?_
  refine gT rfl (aj (ap aa al (h j ab) rfl rfl) ?_)
  refine go 6 ?_
  refine ay (⟨j+1,?_,?_,?_⟩)
  ·omega
  ·exact kj [0] [] []
  omega
 obtain rfl:j=L.length:=by omega
 refine aW (id (hK6 _ ?_))
 exact aG (gT rfl (Ee rfl (am (au (qW rfl rfl)))))
theorem uX (n:Int) (s:Tx) (L:List Nd) (l:List Tx) (hs:s∈l) (hl:l.length≤1000) (F:Nat→List Tx) (hF:F 0=l) (h: ∀ j,j < L.length→Spec Tryz.prog 167 (aI [pk (kP L j), .sl (F j).length (eM (F j))] []) (aA (.sl (F (j+1)).length (eM (F (j+1)))) [])):
  Spec Tryz.prog 167 (aI [.agg [.v (.int .i64 1), .v (.int .i64 n), .v (bt s), .sl L.length (mw L)], .sl l.length (eM l)] []) (aA (.sl (F L.length).length (eM (F L.length))) []):=by
 refine Spec.ofN Tryz.func167 rfl Tryz.ntmps167 rfl ?_
 refine aE ?_
 refine lC 0 3 rfl rfl rfl fun hlen=> ?_
 unfold maxLen at hlen
 refine aD (aj (dX (2,0) _ rfl rfl) (aj (aX _ ea) (go 15 ?_)))
 refine aZ rfl rfl (ap aa al (fR l _ rfl ab s) rfl rfl) ?_
 refine go 3 ?_
 refine cP rfl (by rw [decide_eq_true hs];rfl) ?_
 refine cO (aF fun K4 hK4=> ?_)
 refine aE ?_
 refine aB (σ':=an 45 [(1,_),(2,_)] [((2,0),_)] [] []) kp ?_
 refine aD (cp rfl (am (aH ?_)))
 refine aS (α:=Nat) (fun j=> j≤L.length) 45 [(2,_)] [((2,0),_)] (fun j=> [(6, .v (.int .i64 (j:Int))),(1, .sl (F j).length (eM (F j)))]) (fun j=> []) [] [] (fun j=> L.length - j) 0 ?_ (by
  refine Le.mkJ [] [] rfl ?_ ?_ trivial trivial ?_
  ·exact ⟨(iP rfl),(aN ag),(cL (by rw [hF]) (by rw [hF])),trivial⟩
  ·exact ⟨(bN rfl rfl rfl),trivial⟩
  kernel_rfl) ?_
 ·omega
 intro j hj
 refine aF fun K6 hK6=> ?_
 refine go 7 ?_
 refine ax rfl (fun hc34=> ?_) (fun hc34=> ?_)
 ·refine aR (hK6 _ ?_)
  refine go 6 ?_
  refine aj (aQ _ _ aa rfl rfl _ rfl ab (by (simp only [aq,aJ,aM,bf,bc,bk,bg];omega)) ag) ?_
  refine aj (bs _ aa rfl (by exact cm _ _ ab) rfl) ?_
  refine gT rfl (aj (ap aa al (h j ab) rfl rfl) ?_)
  refine go 6 ?_
  refine ay (⟨j+1,?_,?_,?_⟩)
  ·omega
  ·exact kj [0] [] []
  omega
 obtain rfl:j=L.length:=by omega
 refine aW (id (hK4 _ ?_))
 exact aG (gT rfl (Ee rfl (am (au (qW rfl rfl)))))
theorem sW (n:Int) (s:Tx) (L:List Nd) (l:List Tx) (hs:s∉l) (hl:l.length≤1000) (F:Nat→List Tx) (hF:F 0=l++[s]) (h: ∀ j,j < L.length→Spec Tryz.prog 167 (aI [pk (kP L j), .sl (F j).length (eM (F j))] []) (aA (.sl (F (j+1)).length (eM (F (j+1)))) [])):
  Spec Tryz.prog 167 (aI [.agg [.v (.int .i64 14), .v (.int .i64 n), .v (bt s), .sl L.length (mw L)], .sl l.length (eM l)] []) (aA (.sl (F L.length).length (eM (F L.length))) []):=by
 refine Spec.ofN Tryz.func167 rfl Tryz.ntmps167 rfl ?_
 refine aE ?_
 refine lC 0 3 rfl rfl rfl fun hlen=> ?_
 unfold maxLen at hlen
 refine aD (aj (dX (2,0) _ rfl rfl) (aj (aX _ ea) (go 15 ?_)))
 refine aZ rfl rfl (ap aa al (fR l _ rfl ab s) rfl rfl) ?_
 refine go 3 ?_
 refine fX rfl (by rw [decide_eq_false hs];rfl) ?_
 refine aE ?_
 refine aB (σ':=an 45 [(1,_),(2,_)] [((2,0),_)] [] []) kp ?_
 refine aD (aj (aX _ ea) (am (aG (aj (bZ _ ea) (gT rfl (aj (sL (24,0) _ _ aa rfl (.sl (by simp)) ab rfl) ?_))))))
 refine go 7 ?_
 refine aj (bG (29,0) _ _ aa rfl rfl (by simp) (.sl rfl) ab rfl (nH _ _) (show l.length+1=(l++[s]).length by simp)) ?_
 refine dZ rfl (am (aF fun K6 hK6=> ?_))
 refine aG (cp rfl (am (aH ?_)))
 refine aB (Le.frzS 1 (ys:=eM (l++[s])) rfl rfl rfl (by rw [List.drop_zero,Nat.mul_one];exact List.take_of_length_le (by simp)) (by simp)) ?_
 refine aS (α:=Nat) (fun j=> j≤L.length) 45 [(2,_)] [((2,0),_)] (fun j=> [(6, .v (.int .i64 (j:Int))),(1, .sl (F j).length (eM (F j)))]) (fun j=> []) [] [] (fun j=> L.length - j) 0 ?_ (by
  refine Le.mkJ [] [] rfl ?_ ?_ trivial trivial ?_
  ·exact ⟨(iP rfl),(aN ag),(cL (by rw [hF]) (by rw [hF])),trivial⟩
  ·exact ⟨(bN rfl rfl rfl),trivial⟩
  kernel_rfl) ?_
 ·omega
 intro j hj
 refine aF fun K8 hK8=> ?_
 refine go 7 ?_
 refine ax rfl (fun hc34=> ?_) (fun hc34=> ?_)
 ·refine aR (hK8 _ ?_)
  refine go 6 ?_
  refine aj (aQ _ _ aa rfl rfl _ rfl ab (by (simp only [aq,aJ,aM,bf,bc,bk,bg];omega)) ag) ?_
  refine aj (bs _ aa rfl (by exact cm _ _ ab) rfl) ?_
  refine gT rfl (aj (ap aa al (h j ab) rfl rfl) ?_)
  refine go 6 ?_
  refine ay (⟨j+1,?_,?_,?_⟩)
  ·omega
  ·exact kj [0] [] []
  omega
 obtain rfl:j=L.length:=by omega
 refine aW (id (hK6 _ ?_))
 exact aG (gT rfl (Ee rfl (am (au (qW rfl rfl)))))
theorem tG (n:Int) (s:Tx) (L:List Nd) (l:List Tx) (hs:s∈l) (hl:l.length≤1000) (F:Nat→List Tx) (hF:F 0=l) (h: ∀ j,j < L.length→Spec Tryz.prog 167 (aI [pk (kP L j), .sl (F j).length (eM (F j))] []) (aA (.sl (F (j+1)).length (eM (F (j+1)))) [])):
  Spec Tryz.prog 167 (aI [.agg [.v (.int .i64 14), .v (.int .i64 n), .v (bt s), .sl L.length (mw L)], .sl l.length (eM l)] []) (aA (.sl (F L.length).length (eM (F L.length))) []):=by
 refine Spec.ofN Tryz.func167 rfl Tryz.ntmps167 rfl ?_
 refine aE ?_
 refine lC 0 3 rfl rfl rfl fun hlen=> ?_
 unfold maxLen at hlen
 refine aD (aj (dX (2,0) _ rfl rfl) (aj (aX _ ea) (go 15 ?_)))
 refine aZ rfl rfl (ap aa al (fR l _ rfl ab s) rfl rfl) ?_
 refine go 3 ?_
 refine cP rfl (by rw [decide_eq_true hs];rfl) ?_
 refine cO (aF fun K4 hK4=> ?_)
 refine aE ?_
 refine aB (σ':=an 45 [(1,_),(2,_)] [((2,0),_)] [] []) kp ?_
 refine aD (cp rfl (am (aH ?_)))
 refine aS (α:=Nat) (fun j=> j≤L.length) 45 [(2,_)] [((2,0),_)] (fun j=> [(6, .v (.int .i64 (j:Int))),(1, .sl (F j).length (eM (F j)))]) (fun j=> []) [] [] (fun j=> L.length - j) 0 ?_ (by
  refine Le.mkJ [] [] rfl ?_ ?_ trivial trivial ?_
  ·exact ⟨(iP rfl),(aN ag),(cL (by rw [hF]) (by rw [hF])),trivial⟩
  ·exact ⟨(bN rfl rfl rfl),trivial⟩
  kernel_rfl) ?_
 ·omega
 intro j hj
 refine aF fun K6 hK6=> ?_
 refine go 7 ?_
 refine ax rfl (fun hc34=> ?_) (fun hc34=> ?_)
 ·refine aR (hK6 _ ?_)
  refine go 6 ?_
  refine aj (aQ _ _ aa rfl rfl _ rfl ab (by (simp only [aq,aJ,aM,bf,bc,bk,bg];omega)) ag) ?_
  refine aj (bs _ aa rfl (by exact cm _ _ ab) rfl) ?_
  refine gT rfl (aj (ap aa al (h j ab) rfl rfl) ?_)
  refine go 6 ?_
  refine ay (⟨j+1,?_,?_,?_⟩)
  ·omega
  ·exact kj [0] [] []
  omega
 obtain rfl:j=L.length:=by omega
 refine aW (id (hK4 _ ?_))
 exact aG (gT rfl (Ee rfl (am (au (qW rfl rfl)))))
theorem uC (k:Nat) (hk:k≠1∧k≠14) (n:Int) (s:Tx) (L:List Nd) (l:List Tx) (hl:l.length≤1000) (F:Nat→List Tx) (hF:F 0=l) (h: ∀ j,j < L.length→Spec Tryz.prog 167 (aI [pk (kP L j), .sl (F j).length (eM (F j))] []) (aA (.sl (F (j+1)).length (eM (F (j+1)))) [])):
  Spec Tryz.prog 167 (aI [.agg [.v (.int .i64 (k:Int)), .v (.int .i64 n), .v (bt s), .sl L.length (mw L)], .sl l.length (eM l)] []) (aA (.sl (F L.length).length (eM (F L.length))) []):=by
 refine Spec.ofN Tryz.func167 rfl Tryz.ntmps167 rfl ?_
 refine aE ?_
 refine lC 0 3 rfl rfl rfl fun hlen=> ?_
 unfold maxLen at hlen
 refine aD (aj (dX (2,0) _ rfl rfl) (aj (aX _ ea) (go 5 ?_)))
 refine Av rfl rfl (beq_eq_false_iff_ne.2 ab) ?_
 refine go 3 ?_
 refine aZ rfl rfl (bb (r:=false) _ _ rfl rfl (beq_eq_false_iff_ne.2 ab)) ?_
 refine go 11 ?_
 refine aF fun K4 hK4=> ?_
 refine aE ?_
 refine aB (σ':=an 45 [(1,_),(2,_)] [((2,0),_)] [] []) kp ?_
 refine aD (cp rfl (am (aH ?_)))
 refine aS (α:=Nat) (fun j=> j≤L.length) 45 [(2,_)] [((2,0),_)] (fun j=> [(6, .v (.int .i64 (j:Int))),(1, .sl (F j).length (eM (F j)))]) (fun j=> []) [] [] (fun j=> L.length - j) 0 ?_ (by
  refine Le.mkJ [] [] rfl ?_ ?_ trivial trivial ?_
  ·exact ⟨(iP rfl),(aN ag),(cL (by rw [hF]) (by rw [hF])),trivial⟩
  ·exact ⟨(bN rfl rfl rfl),trivial⟩
  kernel_rfl) ?_
 ·omega
 intro j hj
 refine aF fun K6 hK6=> ?_
 refine go 7 ?_
 refine ax rfl (fun hc34=> ?_) (fun hc34=> ?_)
 ·refine aR (hK6 _ ?_)
  refine go 6 ?_
  refine aj (aQ _ _ aa rfl rfl _ rfl ab (by (simp only [aq,aJ,aM,bf,bc,bk,bg];omega)) ag) ?_
  refine aj (bs _ aa rfl (by exact cm _ _ ab) rfl) ?_
  refine gT rfl (aj (ap aa al (h j ab) rfl rfl) ?_)
  refine go 6 ?_
  refine ay (⟨j+1,?_,?_,?_⟩)
  ·omega
  ·exact kj [0] [] []
  omega
 obtain rfl:j=L.length:=by omega
 refine aW (id (hK4 _ ?_))
 exact aG (gT rfl (Ee rfl (am (au (qW rfl rfl)))))
def fq (fs:List (List Tx→List Tx)) (l:List Tx):List Tx:=fs.foldl (fun l f=> f l) l
theorem kk {fs:List (List Tx→List Tx)} {l:List Tx} {j:Nat} (h:j < fs.length):fq (fs.take (j+1)) l=fs.getD j id (fq (fs.take j) l):=by
 rw [List.take_succ_eq_append_getElem h]
 unfold fq
 rw [List.foldl_append,List.getD_eq_getElem?_getD,List.getElem?_eq_getElem h];rfl
abbrev Ag (nm:List Tx) (d:Nd) (f:List Tx→List Tx):Prop:= ∀ l,GN nm l→Spec Tryz.prog 167 (aI [pk d, .sl l.length (eM l)] []) (aA (.sl (f l).length (eM (f l))) [])∧GN nm (f l)
section
variable {nm:List Tx} (hnm:nm.length≤16) {L:List Nd} {fs:List (List Tx→List Tx)} (hfs:fs.length=L.length) (h: ∀ j,j < L.length→Ag nm (kP L j) (fs.getD j id))
theorem pX (hfs:fs.length=L.length) (h: ∀ j,j < L.length→Ag nm (kP L j) (fs.getD j id)) {l:List Tx} (hl:GN nm l): ∀ j,j≤L.length→GN nm (fq (fs.take j) l)
 | 0,_=> by simpa [fq] using hl
 | j+1,hj=> by
  rw [kk ab]
  exact (h j ab _ (pX hfs h hl j ab)).2
theorem bY (hnm:nm.length≤16) (hfs:fs.length=L.length) (h: ∀ j,j < L.length→Ag nm (kP L j) (fs.getD j id)) (k:Nat) (hk:k≠1∧k≠14) (n:Nat) (s:Tx):Ag nm (nd k n s L) (fq fs):=fun l hl=> by
 have hg:=pX hfs h hl
 have he:fq (fs.take L.length) l=fq fs l:=by rw [← hfs,List.take_length]
 have hw:=uC k hk n s L l (by have:=hl.len;omega) (fun j=> fq (fs.take j) l) rfl fun j hj=> by
  rw [show fq (fs.take (j+1)) l=_ from kk ab]
  exact (h j hj _ (hg j ab)).1
 rw [he] at hw
 exact ⟨hw,he ▸ hg _ (Nat.le_refl _)⟩
theorem zn (hnm:nm.length≤16) (hfs:fs.length=L.length) (h: ∀ j,j < L.length→Ag nm (kP L j) (fs.getD j id)) (n:Nat) {i:Nat} (hi:i < nm.length):Ag nm (nd 1 n (nm.getD i []) L) (fun l=> fq fs (ie (nm.getD i []) l)):=fun l hl=> by
 have hg:=pX hfs h (hl.add hi)
 have he:fq (fs.take L.length) (ie (nm.getD i []) l)=fq fs (ie (nm.getD i []) l):=by rw [← hfs,List.take_length]
 have hkid: ∀ j,j < L.length→_:=fun j hj=> (h j hj _ (hg j ab)).1
 have hll:=hl.len
 show Spec _ _ _ (aA (.sl (fq fs (ie (nm.getD i []) l)).length (eM (fq fs (ie (nm.getD i []) l)))) [])∧GN nm (fq fs (ie (nm.getD i []) l))
 rw [← he]
 refine ⟨?_,hg _ (Nat.le_refl _)⟩
 by_cases hs:nm.getD i []∈l
 ·exact uX n _ L l hs ab (fun j=> fq (fs.take j) (ie (nm.getD i []) l)) (by show ie _ l=l;unfold ie;rw [if_pos hs]) fun j hj=> by
   rw [show fq (fs.take (j+1)) (ie (nm.getD i []) l)=_ from kk ab]
   exact hkid j hj
 exact vO n _ L l hs ab (fun j=> fq (fs.take j) (ie (nm.getD i []) l)) (by show ie _ l=_;unfold ie;rw [if_neg hs]) fun j hj=> by
  rw [show fq (fs.take (j+1)) (ie (nm.getD i []) l)=_ from kk ab]
  exact hkid j hj
end
theorem zu {nm:List Tx} (hnm:nm.length≤16) {i:Nat} (hi:i < nm.length):Ag nm (nd 14 0 (nm.getD i []) []) (ie (nm.getD i [])):=fun l hl=> by
 have hll:=hl.len
 refine ⟨?_,hl.add hi⟩
 by_cases hs:nm.getD i []∈l
 ·exact tG 0 _ [] l hs ab (fun _=> ie (nm.getD i []) l) (by show ie _ l=l;unfold ie;rw [if_pos hs]) fun j hj=> by simp at hj
 exact sW 0 _ [] l hs ab (fun _=> ie (nm.getD i []) l) (by show ie _ l=_;unfold ie;rw [if_neg hs]) fun j hj=> by simp at hj
section
variable {nm:List Tx}
abbrev En (nm:List Tx) (L:List Nd) (fs:List (List Tx→List Tx)):Prop:= ∀ j,j < L.length→Ag nm (kP L j) (fs.getD j id)
theorem sw:En nm [] []:=fun j hj=> by simp at hj
theorem qY {d:Nd} {f:List Tx→List Tx} {L:List Nd} {fs:List (List Tx→List Tx)} (h:Ag nm d f) (h':En nm L fs):En nm (d::L) (f::fs):=fun j hj=> by
 cases j with
 | zero=> exact h
 | succ j=> exact h' j (by simpa using hj)
theorem cZ (hnm:nm.length≤16): ∀ e:Ex,gJ nm.length e→Ag nm (eo nm e) (sy nm e)
 | .int _,_=> bY hnm rfl sw 12 ab _ _
 | .bool _,_=> bY hnm rfl sw 13 ab _ _
 | .name _,_=> bY hnm rfl sw 15 ab _ _
 | .var i,h=> zu hnm h
 | .draw e,h=> bY hnm rfl (qY (cZ hnm e h) sw) 16 ab _ _
 | .neg e,h=> bY hnm rfl (qY (cZ hnm e h) sw) 17 ab _ _
 | .not e,h=> bY hnm rfl (qY (cZ hnm e h) sw) 17 ab _ _
 | .bin _ a b,h=> bY hnm rfl (qY (cZ hnm a h.1) (qY (cZ hnm b h.2) sw)) 18 ab _ _
 | .and a b,h=> bY hnm rfl (qY (cZ hnm a h.1) (qY (cZ hnm b h.2) sw)) 18 ab _ _
 | .or a b,h=> bY hnm rfl (qY (cZ hnm a h.1) (qY (cZ hnm b h.2) sw)) 18 ab _ _
def Hg (nm:List Tx):Bk→List (List Tx→List Tx)
 | .nil=> []
 | .cons s b=> MY nm s::Hg nm b
theorem xD (nm:List Tx): ∀ b:Bk,(Hg nm b).length=(ix nm b).length
 | .nil=> by simp [Hg,ix]
 | .cons s b=> by simp [Hg,ix,xD nm b]
theorem vG (nm:List Tx): ∀ (b:Bk) (l:List Tx),fq (Hg nm b) l=EA nm b l
 | .nil,l=> rfl
 | .cons s b,l=> by rw [EA,← vG nm b];rfl
theorem lT (hnm:nm.length≤16) {b:Bk} (h:En nm (ix nm b) (Hg nm b)):Ag nm (iy nm b) (EA nm b):=by
 have:=bY hnm (xD nm b) h 11 ab 0 []
 rwa [show fq (Hg nm b)=EA nm b from funext (vG nm b)] at this
mutual
theorem Bs (hnm:nm.length≤16): ∀ s:Sm,fW nm.length s→Ag nm (EX nm s) (MY nm s)
 | .assign i e,h=> by rw [fW] at h;exact zn hnm rfl (qY (cZ hnm e h.2) sw) 0 h.1
 | .send t k a b,h=> by rw [fW] at h;exact bY hnm rfl (qY (cZ hnm t h.2.1) (qY (cZ hnm a h.2.2.1) (qY (cZ hnm b h.2.2.2) sw))) 4 ab _ _
 | .timer _,_=> bY hnm rfl sw 5 ab _ _
 | .cancel _,_=> bY hnm rfl sw 6 ab _ _
 | .sync,_=> bY hnm rfl sw 7 ab _ _
 | .stop,_=> bY hnm rfl sw 10 ab _ _
 | .reply a b,h=> by rw [fW] at h;exact bY hnm rfl (qY (cZ hnm a h.1) (qY (cZ hnm b h.2) sw)) 8 ab _ _
 | .fail e,h=> by rw [fW] at h;exact bY hnm rfl (qY (cZ hnm e h) sw) 9 ab _ _
 | .loop c b,h=> by rw [fW] at h;exact bY hnm rfl (qY (cZ hnm c h.1) (qY (lT hnm (lB hnm b h.2)) sw)) 3 ab _ _
 | .ite c a b,h=> by rw [fW] at h;exact bY hnm rfl (qY (cZ hnm c h.1) (qY (lT hnm (lB hnm a h.2.1)) (qY (lT hnm (lB hnm b h.2.2)) sw))) 2 ab _ _
theorem lB (hnm:nm.length≤16): ∀ b:Bk,kN nm.length b→En nm (ix nm b) (Hg nm b)
 | .nil,_=> sw
 | .cons s b,h=> by rw [kN] at h;exact qY (Bs hnm s h.1) (lB hnm b h.2)
end
theorem Du (hnm:nm.length≤16) (b:Bk) (h:kN nm.length b):Ag nm (iy nm b) (EA nm b):=lT hnm (lB hnm b h)
end
end Go.Proofs.YtmjnackchaahbaaGreat

set_option maxHeartbeats 2000000
namespace Go.Proofs.YtmjnackchaahbaaGreat
open Go.RowKit

theorem mG {l:List Tx} (h:l.Nodup) {i j:Nat} (hi:i < l.length) (hj:j < l.length) (e:l.getD i []=l.getD j []):i=j:=by
 rw [List.getD_eq_getElem?_getD,List.getD_eq_getElem?_getD,List.getElem?_eq_getElem hi,List.getElem?_eq_getElem hj] at e
 have h:=List.pairwise_iff_getElem.1 h
 rcases Nat.lt_trichotomy i j with hlt | rfl | hlt
 ·exact absurd (Option.some.inj (by simpa using e)) (h i j hi hj hlt)
 ·rfl
 exact absurd (Option.some.inj (by simpa using e)).symm (h j i hj hi hlt)
theorem rU {a b:List Tx} {k:Nat} (h:k < a.length):a.getD k []=(a++b).getD k []:=by
 rw [List.getD_eq_getElem?_getD,List.getD_eq_getElem?_getD,List.getElem?_append_left h]
theorem getD_right {a b:List Tx} {k:Nat}:b.getD k []=(a++b).getD (a.length+k) []:=by
 rw [List.getD_eq_getElem?_getD,List.getD_eq_getElem?_getD,List.getElem?_append_right ab,Nat.add_sub_cancel_left]
theorem mH (d v:List Tx) (on:List PV) (no:Nat) (hn:(d++v).Nodup) (hl:(d++v).length≤1000) (i:Nat) (hi:i < (d++v).length):
  Spec Tryz.prog 121 (aI [.agg [.sl d.length (eM d), .sl v.length (eM v), .sl no on], .v (bt ((d++v).getD i []))] []) (aA (.v (.int .i64 (i:Int))) []):=by
 have hl2:(d++v).length=d.length+v.length:=List.length_append
 refine Spec.ofN Tryz.func121 rfl Tryz.ntmps121 rfl ?_
 refine go 4 ?_
 refine aF fun K2 hK2=> ?_
 refine aG (cp rfl (am (aH ?_)))
 refine aS (α:=Nat) (fun k=> k≤d.length∧k≤i) 41 [(1,_),(2,_)] [((2,0),_)] (fun k=> [(5, .v (.int .i64 (k:Int)))]) (fun k=> []) [] [] (fun k=> d.length - k) 0 ?_ (kj [0] [] []) ?_
 ·exact ⟨Nat.zero_le _,Nat.zero_le _⟩
 intro k hk
 obtain ⟨hk,hki⟩:=hk
 refine aF fun K4 hK4=> ?_
 refine go 7 ?_
 refine ax rfl (fun hc11=> ?_) (fun hc11=> ?_)
 ·refine aR (hK4 _ ?_)
  refine go 6 ?_
  refine aj (aQ _ _ aa rfl rfl _ rfl ab (by (simp only [aq,aJ,aM,bf,bc,bk,bg,List.length_map];omega)) (by exact Nat.mul_one _)) ?_
  refine aj (bl _ aa rfl (by exact jx _ _ ab) rfl) ?_
  refine tP rfl (aj (cW _ _ Tryz.underlying9 rfl rfl rfl) (am (ax rfl (fun hc20=> ?_) (fun hc20=> ?_))))
  ·have he:k=i:=mG hn ab hi ((rU ab).symm.trans hc20)
   refine aG (bV rfl (cp rfl (am (au (rJ rfl rfl ?_)))))
   rw [he]
  have he:k≠i:=fun e=> hc20 ((rU ab).trans (by rw [e]))
  refine go 5 ?_
  refine ay (⟨k+1,?_,?_,?_⟩)
  ·exact ⟨by omega,by omega⟩
  ·exact kj [0] [] []
  omega
 refine aW (id (hK2 _ ?_))
 refine aE (aG (cp rfl (am (aH ?_))))
 refine aS (α:=Nat) (fun q=> q≤v.length∧d.length+q≤i) 41 [(1,_),(2,_)] [((2,0),_)] (fun q=> [(6, .v (.int .i64 (q:Int)))]) (fun q=> []) [] [] (fun q=> v.length - q) 0 ?_ (kj [0] [] []) ?_
 ·exact ⟨Nat.zero_le _,by omega⟩
 intro q hq
 obtain ⟨hq,hqi⟩:=hq
 refine aF fun K11 hK11=> ?_
 refine go 7 ?_
 refine ax rfl (fun hc26=> ?_) (fun hc26=> ?_)
 ·refine aR (hK11 _ ?_)
  refine go 6 ?_
  refine aj (aQ _ _ aa rfl rfl _ rfl ab (by (simp only [aq,aJ,aM,bf,bc,bk,bg,List.length_map];omega)) (by exact Nat.mul_one _)) ?_
  refine aj (bl _ aa rfl (by exact jx _ _ ab) rfl) ?_
  refine tP rfl (aj (cW _ _ Tryz.underlying9 rfl rfl rfl) (am (ax rfl (fun hc35=> ?_) (fun hc35=> ?_))))
  ·have he:d.length+q=i:=mG hn ab hi (getD_right.symm.trans hc35)
   refine go 8 ?_
   refine au (rJ rfl rfl ?_)
   omega
  have he:d.length+q≠i:=fun e=> hc35 (getD_right.trans (by rw [e]))
  refine go 5 ?_
  refine ay (⟨q+1,?_,?_,?_⟩)
  ·exact ⟨by omega,by omega⟩
  ·exact kj [0] [] []
  omega
 exact absurd hqi ab
theorem Ch (ons:List (Nat×Bk)) (nm:List Tx) (k:Nat) (h:k < ons.length):oH (ons.map fun p=> (p.1,iy nm p.2)) k=((ons[k]).1,iy nm (ons[k]).2):=by
 rw [oM _ _ (by simpa using h),List.getElem_map]
theorem uf (l:List Hd) (k:Nat) (h:k < l.length):PV.ups (((me l).drop (k*5+1)).take 4)=[.v (.int .i64 ((oH l k).2.k:Int)), .v (.int .i64 ((oH l k).2.n:Int)), .v (bt (oH l k).2.s), .sl (oH l k).2.kn (oH l k).2.kids]:=by
 have e:=ml rV 5 (fun _=> rfl) l k h
 have:((me l).drop (k*5+1)).take 4=(((l.flatMap rV).drop (k*5)).take 5).drop 1:=by
  rw [List.drop_take,List.drop_drop];rfl
 rw [this,e,oM l k h];rfl
theorem qc (d v:List Tx) (ons:List (Nat×Bk)) (hn:(d++v).Nodup) (hl:(d++v).length≤16) (ho: ∀ p∈ons,kN (d++v).length p.2) (hw: ∀ p∈ons,qv p.2=true) (hc:ons.length≤1000):
  Spec Tryz.prog 97 (aI [JG d v (ons.map fun p=> (p.1,iy (d++v) p.2))] []) (aA (.v (.int .i64 0)) []):=by
 obtain ⟨H,hH⟩: ∃ H,H=ons.map fun p=> (p.1,iy (d++v) p.2):=⟨_,rfl⟩
 have hHl:H.length=ons.length:=by rw [hH,List.length_map]
 rw [← hH]
 have hHk: ∀ k (h:k < ons.length),oH H k=((ons[k]).1,iy (d++v) (ons[k]).2):=fun k h=> by rw [hH];exact Ch ons _ k h
 clear hH
 refine Spec.ofN Tryz.func97 rfl Tryz.ntmps97 rfl ?_
 refine go 4 ?_
 refine aF fun K2 hK2=> ?_
 refine aG (cp rfl (am (aH ?_)))
 refine aS (α:=Nat) (fun k=> k≤H.length) 43 [(1,_)] [((1,0),_)] (fun k=> [(3, .v (.int .i64 (k:Int)))]) (fun k=> []) [] [] (fun k=> H.length - k) 0 ?_ (kj [0] [] []) ?_
 ·omega
 intro k hk
 refine aF fun K4 hK4=> ?_
 refine go 7 ?_
 refine ax rfl (fun hc11=> ?_) (fun hc11=> ?_)
 ·have hk2:k < ons.length:=by omega
  obtain ⟨b,hb⟩: ∃ b,b=(ons[k]).2:=⟨_,rfl⟩
  have hkH:=hHk k hk2
  rw [← hb] at hkH
  have hwb:=FR (d++v) b (hb ▸ hw _ (List.getElem_mem hk2))
  obtain ⟨hnb,hng⟩:=Du hl b (hb ▸ ho _ (List.getElem_mem hk2)) [] GN.nil
  have hbody:=uf H k ab
  rw [hkH] at hbody
  generalize EA (d++v) b []=M at hnb hng
  have hMl:=hng.len
  refine aR (hK4 _ ?_)
  refine aF fun K6 hK6=> ?_
  refine go 5 ?_
  refine aj (aQ _ _ aa rfl rfl _ rfl ab (by (simp only [aq,aJ,aM,bf,bc,bk,bg,List.length_map];omega)) ag) ?_
  refine aj (eJ _ aa rfl rfl) (aj (bs _ aa rfl (by exact hbody) rfl) ?_)
  refine aj (ap aa al (hwb) rfl rfl) ?_
  refine go 9 ?_
  refine aE ?_
  refine aB (σ':=an 43 [(1,_),(3,_)] [((1,0),_)] [] []) kp ?_
  refine go 4 ?_
  refine aj (aQ _ _ aa rfl rfl _ rfl ab (by (simp only [aq,aJ,aM,bf,bc,bk,bg,List.length_map];omega)) ag) ?_
  refine aj (eJ _ aa rfl rfl) (aj (bs _ aa rfl (by exact hbody) rfl) ?_)
  refine aj (ap aa al (hnb) rfl rfl) ?_
  refine go 6 ?_
  refine aS (α:=Nat) (fun q=> q≤M.length) 43 [(1,_),(3,_),(5,_)] [((1,0),_)] (fun q=> [(6, .v (.int .i64 (q:Int)))]) (fun q=> []) [] [] (fun q=> M.length - q) 0 ?_ (kj [0] [] []) ?_
  ·omega
  intro q hq
  refine aF fun K12 hK12=> ?_
  refine go 6 ?_
  refine ax rfl (fun hc33=> ?_) (fun hc33=> ?_)
  ·obtain ⟨i,hi,hiq⟩: ∃ i,i < (d++v).length∧M.getD q []=(d++v).getD i []:=by
    have hm:=hng.2 _ (jN (show q < M.length by omega))
    obtain ⟨i,hi,he⟩:=List.getElem_of_mem hm
    exact ⟨i,hi,by rw [List.getD_eq_getElem?_getD (l:=d++v),List.getElem?_eq_getElem hi,← he];rfl⟩
   have hix:=mH d v (me H) H.length hn ab i hi
   rw [← hiq] at hix
   refine aR (hK12 _ ?_)
   refine aE (aH (aE ?_))
   refine aB (σ':=an 43 [(1,_),(3,_),(5,_),(6,_)] [((1,0),_)] [] []) kp ?_
   refine dA 7 [] ?_
   refine go 6 ?_
   refine aC (_,[]) (fun τ=> aQ _ _ aa rfl rfl _ rfl ab (by (simp only [aq,aJ,aM,bf,bc,bk,bg,List.length_map];omega)) (by exact Nat.mul_one _)) ?_
   refine go 1 ?_
   refine aC (_,[]) (fun τ=> bl _ aa rfl (by exact jx _ _ ab) rfl) ?_
   refine go 1 ?_
   refine aC (_,[]) (fun τ=> (ap aa al (hix) rfl rfl)) ?_
   refine go 1 ?_
   refine aC (_,[]) (fun τ=> cT (r:=false) _ _ rfl rfl (decide_eq_false ab)) ?_
   refine go 9 ?_
   refine ay (⟨q+1,?_,?_,?_⟩)
   ·omega
   ·exact kj [0] [] []
   omega
  refine aW (id (hK6 _ ?_))
  refine go 4 ?_
  refine ay (⟨k+1,?_,?_,?_⟩)
  ·omega
  ·exact kj [0] [] []
  omega
 refine aW (id (hK2 _ ?_))
 exact aG (cp rfl (am (au (eb rfl rfl))))
end Go.Proofs.YtmjnackchaahbaaGreat

set_option maxHeartbeats 2000000
namespace Go.Proofs.YtmjnackchaahbaaGreat
open Go.RowKit

theorem nG (C:List et):((inl C).drop 0).take (C.length*2)=inl C:=List.take_of_length_le (by rw [List.drop_zero,bm];exact Nat.le_refl _)
theorem lq (C:List et):0+C.length*2≤(inl C).length:=by rw [bm,Nat.zero_add];exact Nat.le_refl _
theorem yz (l:List Tx) (n:Nat) (hn:l.length=n) (h1:n≤1000) (hd:l.Nodup) (i:Nat) (hi:i < n):Spec Tryz.prog 122 (aI [.sl n (eM l), .v (bt (l.getD i []))] []) (aA (.v (.int .i64 (i:Int))) []):=by
 refine Spec.ofN Tryz.func122 rfl Tryz.ntmps122 rfl ?_
 refine go 8 ?_
 refine aS (α:=Nat) (fun k=> k≤n∧k≤i) 19 [(0,_),(1,_)] [] (fun k=> [(5, .v (.int .i64 (k:Int)))]) (fun k=> []) [] [] (fun k=> n - k) 0 ?_ (kj [] [] []) ?_
 ·exact ⟨Nat.zero_le _,Nat.zero_le _⟩
 intro k hk
 obtain ⟨hk,hki⟩:=hk
 refine aF fun K4 hK4=> ?_
 refine go 6 ?_
 refine ax rfl (fun hc9=> ?_) (fun hc9=> ?_)
 ·refine aR (hK4 _ ?_)
  refine aE (aH (aG (gT rfl (bV rfl (aj (aQ _ _ aa rfl rfl _ rfl ab (by (simp only [aq,aJ,aM,bf,bc,bk,bg,bm];omega)) (by exact Nat.mul_one _)) ?_)))))
  refine aj (bl _ aa rfl (by exact jx _ _ ab) rfl) ?_
  refine tP rfl (aj (cW _ _ Tryz.underlying9 rfl rfl rfl) (am (ax rfl (fun hc17=> ?_) (fun hc17=> ?_))))
  ·have he:k=i:=mG hd ab ab hc17
   refine aG (bV rfl (cp rfl (am (au (rJ rfl rfl ?_)))))
   rw [he]
  have he:k≠i:=fun e=> hc17 (by rw [e])
  refine go 5 ?_
  refine ay (⟨k+1,?_,?_,?_⟩)
  ·exact ⟨by omega,by omega⟩
  ·exact kj [] [] []
  omega
 exact absurd hki ab
theorem pj:Spec Tryz.prog 123 (aI [] []) (aA (.sl 9 (eM bltT)) []):=by
 refine Spec.ofN Tryz.func123 rfl Tryz.ntmps123 rfl ?_
 refine aG (aj (aX _ ea) (go 5 ?_))
 exact au (qW rfl rfl)
theorem Be:Spec Tryz.prog 126 (aI [.v (bt [43])] []) (aA (.sl (Bo.add).code.length (inl (Bo.add).code)) []):=by
 refine Spec.ofN Tryz.func126 rfl Tryz.ntmps126 rfl ?_
 refine aG (aj (aX _ ea) (go 16 ?_))
 exact au (qW rfl rfl)
theorem AE:Spec Tryz.prog 126 (aI [.v (bt [45])] []) (aA (.sl (Bo.sub).code.length (inl (Bo.sub).code)) []):=by
 refine Spec.ofN Tryz.func126 rfl Tryz.ntmps126 rfl ?_
 refine aG (aj (aX _ ea) (go 21 ?_))
 exact au (qW rfl rfl)
theorem CJ:Spec Tryz.prog 126 (aI [.v (bt [42])] []) (aA (.sl (Bo.mul).code.length (inl (Bo.mul).code)) []):=by
 refine Spec.ofN Tryz.func126 rfl Tryz.ntmps126 rfl ?_
 refine aG (aj (aX _ ea) (go 26 ?_))
 exact au (qW rfl rfl)
theorem CK:Spec Tryz.prog 126 (aI [.v (bt [47])] []) (aA (.sl (Bo.div).code.length (inl (Bo.div).code)) []):=by
 refine Spec.ofN Tryz.func126 rfl Tryz.ntmps126 rfl ?_
 refine aG (aj (aX _ ea) (go 31 ?_))
 exact au (qW rfl rfl)
theorem Fj:Spec Tryz.prog 126 (aI [.v (bt [60])] []) (aA (.sl (Bo.lt).code.length (inl (Bo.lt).code)) []):=by
 refine Spec.ofN Tryz.func126 rfl Tryz.ntmps126 rfl ?_
 refine aG (aj (aX _ ea) (go 36 ?_))
 exact au (qW rfl rfl)
theorem Fr:Spec Tryz.prog 126 (aI [.v (bt [60,61])] []) (aA (.sl (Bo.le).code.length (inl (Bo.le).code)) []):=by
 refine Spec.ofN Tryz.func126 rfl Tryz.ntmps126 rfl ?_
 refine aG (aj (aX _ ea) (go 41 ?_))
 exact au (qW rfl rfl)
theorem Fp:Spec Tryz.prog 126 (aI [.v (bt [61,61])] []) (aA (.sl (Bo.eq).code.length (inl (Bo.eq).code)) []):=by
 refine Spec.ofN Tryz.func126 rfl Tryz.ntmps126 rfl ?_
 refine aG (aj (aX _ ea) (go 41 ?_))
 refine aE ?_
 refine aB (σ':=an 45 [] [] [] []) kp ?_
 refine go 5 ?_
 exact au (qW rfl rfl)
theorem GY:Spec Tryz.prog 126 (aI [.v (bt [62])] []) (aA (.sl (Bo.gt).code.length (inl (Bo.gt).code)) []):=by
 refine Spec.ofN Tryz.func126 rfl Tryz.ntmps126 rfl ?_
 refine aG (aj (aX _ ea) (go 41 ?_))
 refine aE ?_
 refine aB (σ':=an 45 [(3,_)] [] [] []) kp ?_
 refine go 11 ?_
 exact au (qW rfl rfl)
theorem Gn:Spec Tryz.prog 126 (aI [.v (bt [62,61])] []) (aA (.sl (Bo.ge).code.length (inl (Bo.ge).code)) []):=by
 refine Spec.ofN Tryz.func126 rfl Tryz.ntmps126 rfl ?_
 refine aG (aj (aX _ ea) (go 41 ?_))
 refine aE ?_
 refine aB (σ':=an 45 [(3,_)] [] [] []) kp ?_
 refine go 16 ?_
 exact au (qW rfl rfl)
theorem Gk:Spec Tryz.prog 126 (aI [.v (bt [33,61])] []) (aA (.sl (Bo.ne).code.length (inl (Bo.ne).code)) []):=by
 refine Spec.ofN Tryz.func126 rfl Tryz.ntmps126 rfl ?_
 refine aG (aj (aX _ ea) (go 41 ?_))
 refine aE ?_
 refine aB (σ':=an 45 [(3,_)] [] [] []) kp ?_
 refine go 17 ?_
 exact au (qW rfl rfl)
theorem zL (o:Bo):Spec Tryz.prog 126 (aI [.v (bt o.txt)] []) (aA (.sl o.code.length (inl o.code)) []):=by
 cases o
 ·exact Be
 ·exact AE
 ·exact CJ
 ·exact CK
 ·exact Fj
 ·exact Fr
 ·exact Fp
 ·exact GY
 ·exact Gn
 exact Gk

abbrev Cd:=Nat→List et
abbrev CoS (u:AV) (d:Nd) (c:Cd):Prop:= ∀ a,a+(c a).length≤1000000→Spec Tryz.prog 91 (aI [u,pk d, .v (.int .i64 (a:Int))] []) (aA (.ref (0,8) 0 (c a).length) [((0,8), .row 48 2 (inl (c a)))])
def cB:List Cd→Nat→List et
 | [],_=> []
 | c::cs,a=> c a++cB cs (a+(c a).length)
theorem qo: ∀ (l m:List Cd) (a:Nat),cB (l++m) a=cB l a++cB m (a+(cB l a).length)
 | [],m,a=> by simp [cB]
 | c::l,m,a=> by simp only [List.cons_append,cB,qo l m,List.append_assoc,List.length_append,Nat.add_assoc]
theorem yQ {cs:List Cd} {j a:Nat} (h:j < cs.length):cB (cs.take (j+1)) a=cB (cs.take j) a++(cs.getD j fun _=> []) (a+(cB (cs.take j) a).length):=by
 rw [List.take_succ_eq_append_getElem h,qo]
 simp [cB,h]
theorem rM {cs:List Cd} {j a:Nat}:(cB (cs.take j) a).length≤(cB cs a).length:=by
 conv=> rhs;rw [← List.take_append_drop j cs,qo]
 rw [List.length_append];omega
abbrev mK (u:AV) (L:List Nd) (cs:List Cd):Prop:= ∀ j,j < L.length→CoS u (kP L j) (cs.getD j fun _=> [])
theorem EV {u:AV}:mK u [] []:=fun j hj=> by simp at hj
theorem zo {u:AV} {d:Nd} {c:Cd} {L:List Nd} {cs:List Cd} (h:CoS u d c) (h':mK u L cs):mK u (d::L) (c::cs):=fun j hj=> by
 cases j with
 | zero=> exact h
 | succ j=> exact h' j (by simpa using hj)
section
variable {d v:List Tx} {no:Nat} {on:List PV}
abbrev uu (d v:List Tx) (no:Nat) (on:List PV):AV:= .agg [.sl d.length (eM d), .sl v.length (eM v), .sl no on]
theorem di (L:List Nd) (cs:List Cd) (hc:cs.length=L.length) (hk:mK (uu d v no on) L cs) (a:Nat) (ha:a+(cB cs a).length≤1000000):
  Spec Tryz.prog 125 (aI [uu d v no on, .sl L.length (mw L), .v (.int .i64 (a:Int))] []) (aA (.ref (0,8) 0 (cB cs a).length) [((0,8), .row 48 2 (inl (cB cs a)))]):=by
 refine Spec.ofN Tryz.func125 rfl Tryz.ntmps125 rfl ?_
 refine aE ?_
 refine IZ 1 rfl rfl fun hlen=> ?_
 unfold maxLen at hlen
 refine aD (aj (dX (3,0) _ rfl rfl) (aj (aX _ ea) (am (aG (aj (pJ (7,0) _ 48 2 rfl rfl) ?_)))))
 refine am (aF fun K3 hK3=> ?_)
 refine aG (cp rfl (am (aH ?_)))
 refine aS (α:=Nat) (fun j=> j≤L.length) 28 [(1,_),(2,_),(3,_)] [((3,0),_)] (fun j=> [(8, .v (.int .i64 (j:Int))),(7, .ref (7,0) 0 (cB (cs.take j) a).length)]) (fun j=> [((7,0), .row 48 2 (inl (cB (cs.take j) a)))]) [] [] (fun j=> L.length - j) 0 ?_ (kj [0,2] [] []) ?_
 ·omega
 intro j hj
 have htk:(cB (cs.take j) a).length≤(cB cs a).length:=rM
 refine aF fun K5 hK5=> ?_
 refine go 6 ?_
 refine ax rfl (fun hc12=> ?_) (fun hc12=> ?_)
 ·have hs:=yQ (cs:=cs) (j:=j) (a:=a) ab
  have htk1:(cB (cs.take (j+1)) a).length≤(cB cs a).length:=rM
  have hsl:=congrArg List.length hs
  rw [List.length_append] at hsl
  have hcj:=hk j ab (a+(cB (cs.take j) a).length) ab
  generalize (cs.getD j fun _=> []) (a+(cB (cs.take j) a).length)=C at hs hsl hcj
  refine aR (hK5 _ ?_)
  refine aE (aH ?_)
  refine aB (σ':=an 28 [(1,_),(2,_),(3,_),(7,_),(8,_)] [((3,0),_),((7,0),_)] [] []) kp ?_
  refine dA 11 [(50,0)] ?_
  refine go 8 ?_
  refine aC (_,[]) (fun τ=> aQ _ _ aa rfl rfl _ rfl ab (by (simp only [aq,aJ,aM,bf,bc,bk,bg,bm];omega)) ag) ?_
  refine go 1 ?_
  refine aC (_,[]) (fun τ=> bs _ aa rfl (by exact cm _ _ ab) rfl) ?_
  refine go 9 ?_
  refine aC (_,[((50,0),_)]) (fun τ=> (bu aa [((0,8),(50,0))] ar (hcj.toI) trivial tr tr rfl rfl ae ae)) ?_
  refine go 1 ?_
  refine ci ⟨rfl,?_⟩
  refine aj (bG (26,0) _ _ aa rfl rfl (bm _).symm (.ref rfl (nG _) (lq _)) ab rfl (lP _ _) hsl.symm) ?_
  refine go 6 ?_
  refine ay (⟨j+1,?_,?_,?_⟩)
  ·omega
  ·refine Le.mkJ [((7,0),(26,0))] [] rfl ?_ ?_ trivial trivial ?_
   ·exact ⟨(by repeat' (exact Lv.sl)),(by repeat' (exact Lv.v)),(bv (id:=(3,0)) rfl),(aN ag),(ca rfl ag),trivial⟩
   ·exact ⟨(cI rfl rfl rfl rfl (by repeat' (first | exact Lv.sl | exact aK | refine ai ?_ ?_))),(cD rfl rfl rfl (by (rw [hs]))),trivial⟩
   kernel_rfl
  omega
 obtain rfl:j=cs.length:=by omega
 rw [List.take_length]
 refine aW (id (hK3 _ ?_))
 exact aG (ij rfl (dZ rfl (am (au (lQ [((0,8),(7,0))])))))
theorem pF (N:Nd) (c:Cd) (h:CoS (uu d v no on) N c) (n:Int) (a:Nat) (ha:a+(c a).length≤1000000):
  Spec Tryz.prog 187 (aI [uu d v no on, .sl 1 (mw [N]), .v (.int .i64 n), .v (.int .i64 (a:Int))] []) (aA (.ref (0,8) 0 (c a).length) [((0,8), .row 48 2 (inl (c a)))]):=by
 have hc:=h a ha
 refine Spec.ofN Tryz.func187 rfl Tryz.ntmps187 rfl ?_
 refine aG (aj (dX (4,0) _ rfl rfl) (aj (aX _ ea) (go 8 ?_)))
 refine aE ?_
 refine aB (σ':=an 21 [(1,_),(3,_),(4,_)] [((4,0),_)] [] []) kp ?_
 refine dA 5 [] ?_
 refine go 4 ?_
 refine aC (_,[]) (fun τ=> aQ _ _ aa rfl rfl 0 rfl ab (by simp [mw,Nd.row]) rfl) ?_
 refine go 1 ?_
 refine aC (_,[]) (fun τ=> bs _ aa rfl (by exact cm [N] 0 (by simp)) rfl) ?_
 refine go 4 ?_
 refine aj (bM aa [((0,8),(50,0))] ar (hc.toI) trivial tr ae) ?_
 exact dZ rfl (am (au (lQ [((0,8),(50,0))])))
theorem uN (n:Int) (a:Nat):
  Spec Tryz.prog 187 (aI [uu d v no on, .sl 0 [], .v (.int .i64 n), .v (.int .i64 (a:Int))] []) (aA (.ref (0,8) 0 1) [((0,8), .row 48 2 (inl [{ op:= .push,n:=n }]))]):=by
 refine Spec.ofN Tryz.func187 rfl Tryz.ntmps187 rfl ?_
 refine aG (aj (dX (4,0) _ rfl rfl) (aj (aX _ ea) (go 12 ?_)))
 refine aj (gp (20,0) _ _ aa rfl ag (by (simp <;> rfl)) ah rfl rfl) ?_
 exact dZ rfl (am (au (lQ [((0,8),(20,0))])))
def Hr (c y z:Cd) (a:Nat):List et:=
 c a++[{ op:= .unl,n:=((a+(c a).length+1+(y (a+(c a).length+1)).length+1:Nat):Int) }]++y (a+(c a).length+1)++
  [{ op:= .jump,n:=((a+(c a).length+1+(y (a+(c a).length+1)).length+1+(z (a+(c a).length+1+(y (a+(c a).length+1)).length+1)).length:Nat):Int) }]++z (a+(c a).length+1+(y (a+(c a).length+1)).length+1)
abbrev Qm (u:AV) (l:AV) (n:Int) (c:Cd):Prop:= ∀ a,a+(c a).length≤1000000→Spec Tryz.prog 187 (aI [u,l, .v (.int .i64 n), .v (.int .i64 (a:Int))] []) (aA (.ref (0,8) 0 (c a).length) [((0,8), .row 48 2 (inl (c a)))])
theorem lH (N:Nd) (c y z:Cd) (hc:CoS (uu d v no on) N c) (ly lz:Nat) (ys zs:List PV) (n:Int) (hy:Qm (uu d v no on) (.sl ly ys) n y) (hz:Qm (uu d v no on) (.sl lz zs) n z) (a:Nat) (ha:a+(Hr c y z a).length≤1000000):
  Spec Tryz.prog 124 (aI [uu d v no on,pk N, .sl ly ys, .sl lz zs, .v (.int .i64 n), .v (.int .i64 (a:Int))] []) (aA (.ref (0,8) 0 (Hr c y z a).length) [((0,8), .row 48 2 (inl (Hr c y z a)))]):=by
 have hb: ∃ b,b=Hr c y z a:=⟨_,rfl⟩
 obtain ⟨b,hb⟩:=hb
 rw [← hb] at ha ⊢
 unfold Hr at hb
 have hbl:=congrArg List.length hb
 simp only [List.length_append,List.length_cons,List.length_nil] at hbl
 have h1:=hc a ab
 generalize c a=C at h1 hb hbl
 have h2:=hy (a+C.length+1) ab
 generalize y (a+C.length+1)=Y at h2 hb hbl
 obtain ⟨f,hf⟩: ∃ f,f=a+C.length+1+Y.length+1:=⟨_,rfl⟩
 rw [← hf] at hb hbl
 have h3:=hz f ab
 generalize z f=Z at h3 hb hbl
 refine Spec.ofN Tryz.func124 rfl Tryz.ntmps124 rfl ?_
 refine go 3 ?_
 refine aj (aX _ ea) (go 5 ?_)
 refine aj (bM aa [((0,8),(50,0))] ar (h1.toI) trivial tr ae) ?_
 refine dZ rfl (am (aF fun K3 hK3=> ?_))
 refine go 9 ?_
 refine aj (bM aa [((0,8),(51,0))] ar (h2.toI) trivial tr ae) ?_
 refine dZ rfl (ay (hK3 _ ?_))
 refine aE ?_
 refine aB (σ':=an 63 [(3,_),(4,_),(5,_),(6,_),(13,_),(14,_)] [((6,0),_),((50,0),_),((51,0),_)] [] []) kp ?_
 refine go 9 ?_
 refine aj (eI (r:=(f:Int)) _ _ rfl rfl ((bQ ab).trans ab)) ?_
 refine cp rfl (am (aF fun K5 hK5=> ?_))
 refine go 5 ?_
 refine aj (bM aa [((0,8),(52,0))] ar (h3.toI) trivial tr ae) ?_
 refine dZ rfl (ay (hK5 _ ?_))
 refine aE ?_
 refine aB (σ':=an 63 [(13,_),(14,_),(15,_),(16,_)] [((50,0),_),((51,0),_),((52,0),_)] [] []) kp ?_
 refine go 5 ?_
 refine aj (bG (48,0) _ _ aa rfl rfl (bm _).symm (.sl rfl) ab rfl (eQ _ { op:= .unl,n:=f }) (show C.length+1=(C++[({ op:= .unl,n:=f }:et)]).length by simp)) ?_
 refine go 5 ?_
 refine aj (bG (51,1) _ _ aa rfl rfl (bm _).symm (.ref rfl (nG _) (lq _)) (by simp;omega) rfl (lP _ _) (show (C++[({ op:= .unl,n:=f }:et)]).length+Y.length=(C++[({ op:= .unl,n:=f }:et)]++Y).length by simp;omega)) ?_
 refine go 10 ?_
 refine aj (bG (59,0) _ _ aa rfl rfl (bm _).symm (.sl rfl) (by simp;omega) rfl (eQ _ { op:= .jump,n:=((f+Z.length:Nat):Int) }) (show (C++[({ op:= .unl,n:=f }:et)]++Y).length+1=(C++[({ op:= .unl,n:=f }:et)]++Y++[({ op:= .jump,n:=((f+Z.length:Nat):Int) }:et)]).length by simp;omega)) ?_
 refine dZ rfl (am (aE ?_))
 refine aB (σ':=an 63 [(13,_),(16,_)] [((52,0),_),((59,0),_)] [] []) kp ?_
 refine aD (ij rfl (ij rfl (aj (bG (62,0) _ _ aa rfl rfl (bm _).symm (.ref rfl (nG _) (lq _)) (by simp;omega) rfl ((lP _ _).trans (congrArg inl hb.symm)) (show _+Z.length=b.length by simp;omega)) ?_)))
 exact dZ rfl (am (au (lQ [((0,8),(62,0))])))
end
end Go.Proofs.YtmjnackchaahbaaGreat
