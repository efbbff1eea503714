/- Part 11 of the texts that the walk leans on: the machine, the walks, the plain laws. -/
import Derived.Test.YtmjnackchaahbaaGreatVtZ10
set_option linter.unusedSimpArgs false
set_option linter.unusedVariables false
namespace Go.Proofs.YtmjnackchaahbaaGreat
open Go.RowKit

theorem oC {s:Tx}: ∀ {f a:Nat} {l:List Tk},a≤s.length→lc f s a=some l→0 < l.length∧l.length+a≤s.length+1
  | 0,_,_,_,h=> by simp [lc] at h
  | f+1,a,l,ha,h=> by
    rcases kz h with ⟨_,rfl⟩ | ⟨hl,t,m,ht,hm,rfl⟩
    · exact ⟨by simp,by simp;omega⟩
    · obtain ⟨h1,h2⟩:=pT hl ht
      have h3:=rR (s:=s) (a:=a+t.t.length) h2 false
      obtain ⟨_,h4⟩:=oC h3.2 hm
      exact ⟨by simp,by rw [List.length_cons];omega⟩
theorem vN {s:Tx} {l:List Tk} (h:ya s=some l):0 < l.length∧l.length≤s.length+1:=by
  have:=oC (a:=pH s false) (lD s false) h
  omega
theorem ks {T:List Tk}: ∀ (f:Nat) {N M:List Tx} (i:Nat),N.Perm M→ft T f N i=ft T f M i
  | 0,_,_,_,_=> rfl
  | f+1,N,M,i,h=> by
    unfold ft
    simp only [h.mem_iff,h.length_eq,ks f _ (h.append_right [(cK T i).t])]
theorem pM {T:List Tk} {f:Nat} {d v:List Tx} {i:Nat} {r:List Tx×List Tx×Nat} (h:gv T f d v i=some r): ∃ g,f=g+1∧
    (((cK T i).t=jL∧ ∃ l j,ft T g (d++v) (bK T i)=some (l,j)∧gv T g (d++l) v j=some r)∨
     ((cK T i).t≠jL∧(cK T i).t=ku∧ ∃ l j,ft T g (d++v) (bK T i)=some (l,j)∧gv T g d (v++l) j=some r)∨
     ((cK T i).t≠jL∧(cK T i).t≠ku∧r=(d,v,i))):=by
  cases f with
  | zero=> simp [gv] at h
  | succ g=>
    refine ⟨g,rfl,?_⟩
    unfold gv at h
    split at h
    · rename_i ht
      simp only [Option.bind_eq_bind,Option.bind_eq_some_iff] at h
      obtain ⟨⟨l,j⟩,hl,h⟩:=h
      exact .inl ⟨ht,l,j,hl,h⟩
    · rename_i ht
      split at h
      · rename_i ht2
        simp only [Option.bind_eq_bind,Option.bind_eq_some_iff] at h
        obtain ⟨⟨l,j⟩,hl,h⟩:=h
        exact .inr (.inl ⟨ht,ht2,l,j,hl,h⟩)
      · rename_i ht2
        exact .inr (.inr ⟨ht,ht2,(Option.some.inj h).symm⟩)
theorem vO {T:List Tk} {f:Nat} {l:List Hd} {i:Nat} {r:List Hd} (h:Au T f l i=some r): ∃ g,f=g+1∧
    (((cK T i).k=0∧r=l)∨((cK T i).k≠0∧ ∃ j n j2 d j3,fi T Ba i=some j∧sA T j=some (n,j2)∧l.any (fun x=> decide (x.1=n))=false∧nL T g 1 j2=some (d,j3)∧Au T g (na l (n,d)) j3=some r)):=by
  cases f with
  | zero=> simp [Au] at h
  | succ g=>
    refine ⟨g,rfl,?_⟩
    unfold Au at h
    split at h
    · rename_i hk;exact .inl ⟨hk,(Option.some.inj h).symm⟩
    · rename_i hk
      simp only [Option.bind_eq_bind,Option.bind_eq_some_iff] at h
      obtain ⟨j,hj,⟨n,j2⟩,hn,h⟩:=h
      simp only at h
      split at h
      · cases h
      · rename_i hno
        simp only [Option.bind_eq_some_iff] at h
        obtain ⟨⟨d,j3⟩,hd,h⟩:=h
        exact .inr ⟨hk,j,n,j2,d,j3,hj,hn,Bool.eq_false_iff.2 hno,hd,h⟩
theorem uN (l:List Hd) (h:Hd):(na l h).length=l.length+1:=by
  have e:=congrArg List.length (List.takeWhile_append_dropWhile (p:=fun x:Nat×Nd=> decide (x.1 < h.1)) (l:=l))
  unfold na
  rw [List.length_append] at e ⊢
  rw [List.length_cons]
  omega
abbrev Dd (d v:List Tx) (l:List Hd):AV:= .agg [.sl d.length (ed d), .sl v.length (ed v), .sl l.length (kU l)]
theorem nB (s:Tx) (hs:s.length≤3000) (D V:List Tx) (L:List Hd) (h:oM s=some (D,V,L)):
    Spec Tryz.prog 96 (bf [.v (bt s)] []) (aL (.tup [Dd D V L, .v (.int .i64 0), .v (.int .i64 0)]) []):=by
  unfold oM at h
  simp only [Option.bind_eq_bind,Option.bind_eq_some_iff,Option.pure_def,Option.some.injEq,Prod.mk.injEq] at h
  obtain ⟨T,hT,⟨D',V',i⟩,hd,L',hL,rfl,rfl,rfl⟩:=h
  obtain ⟨hT0,hT1⟩:=vN hT
  have hTl:T.length≤100000:=by omega
  simp only at hL ⊢
  refine Spec.ofN Tryz.func96 rfl Tryz.ntmps96 rfl ?_
  refine am (aj (aR (2,0) aa rfl rfl) (bc rfl (bc rfl (ai (aq (am (dv rfl (aj (fH _ Tryz.underlying9 rfl) (aj (gj _ _ rfl rfl rfl) (ai ?_))))))))))
  refine aS rfl (decide_eq_false ab) ?_
  refine aO (am (dv rfl (aj (aC aa al (qh s ab T hT) rfl rfl) ?_)))
  refine aj (aH _ (rfl:_=AV.tup _)) (aj (dl _ rfl (rfl:_=some (AV.sl _ _))) (aj (dl _ rfl (rfl:_=some (AV.v (.int _ _)))) (aj (dl _ rfl (rfl:_=some (AV.v (.int _ _)))) (jS rfl (bc rfl (bc rfl (ai (aq (aq ?_)))))))))
  refine aQ (σ':=aA 114 [(2,_),(5,_),(6,_),(7,_)] [((2,0),_)] [] []) (by
    refine Le.mkJ [] [] rfl ?_ ?_ trivial trivial ?_
    · exact ⟨(iP rfl),(iS rfl),(iV rfl),(iV rfl),trivial⟩
    · exact ⟨(cH rfl rfl rfl),trivial⟩
    · kernel_rfl) ?_
  refine an (aV rfl (aj (bY (r:=false) _ _ rfl rfl rfl) (ai (aS rfl rfl (aO (am (eT rfl (aj (aF _ aa rfl (by exact (rfl:_=some [_,_,_,_,_]))) ?_))))))))
  refine aj (bg (29,0) _ rfl rfl) (CX rfl (ai (am (aj (aR (9,0) aa rfl rfl) (ai (aT fun K9 hK9=> ?_))))))
  refine au ?_
  refine aQ (Le.nilB (29,0) 4 (60,0) 9 1 rfl rfl rfl) ?_
  refine aQ (Le.nilB (9,0) 0 (61,0) 9 1 rfl rfl rfl) ?_
  refine aQ (Le.nilB (9,0) 1 (62,0) 9 1 rfl rfl rfl) ?_
  refine aQ (Le.nil0 (9,0) 2 rfl rfl) ?_
  refine bv (α:=Nat×List Tx×List Tx×List Tx×Nat) (fun z=> z.2.2.2.1.Perm (z.2.1++z.2.2.1)∧z.2.2.2.2 < T.length∧z.2.2.2.1.length≤16∧gv T z.1 z.2.1 z.2.2.1 z.2.2.2.2=some (D',V',i)) 114 [(2,_),(8,_),(9,_)] [((2,0),_)] (fun z=> []) (fun z=> [((29,0), .box 222 [.sl T.length (pi T), .v (.int .i64 (z.2.2.2.2:Int)), .v (.int .i64 0), .v (.int .i64 0), .ref (60,0) 0 z.2.2.2.1.length]),((60,0), .row 9 1 (ed z.2.2.2.1)),((9,0), .box 64 [.ref (61,0) 0 z.2.1.length, .ref (62,0) 0 z.2.2.1.length, .sl 0 []]),((61,0), .row 9 1 (ed z.2.1)),((62,0), .row 9 1 (ed z.2.2.1))]) [] [] (fun z=> z.1) (3*T.length+10,[],[],[],0) ?_ (by
    refine Le.mkJ [] [] rfl ?_ ?_ trivial trivial ?_
    · exact ⟨(iP rfl),(iP rfl),(iP rfl),trivial⟩
    · exact ⟨(cH rfl rfl rfl),(gz rfl rfl rfl rfl lz),(gJ rfl rfl rfl ag),(gz rfl rfl rfl rfl lz),(gJ rfl rfl rfl ag),(gJ rfl rfl rfl ag),trivial⟩
    · kernel_rfl) ?_
  · exact ⟨.refl _,hT0,Nat.zero_le _,hd⟩
  intro z hz
  obtain ⟨z1,d,v,N,j⟩:=z
  obtain ⟨hp,hj,hNl,hz⟩:=hz
  obtain ⟨g,rfl,hm⟩:=pM hz
  simp only at hp hj hNl hm ⊢
  have hpl:=hp.length_eq
  rw [List.length_append] at hpl
  have htl:=dy hj
  refine aT fun K10 hK10=> ?_
  refine aT fun K11 hK11=> ?_
  refine an (bN rfl (aj (aJ _ rfl rfl) (bu rfl rfl rfl (cw rfl rfl rfl (jv rfl rfl rfl (cE rfl (ax rfl rfl (aH _ (rfl:_=AV.ptr _ _)) (ax rfl rfl (dm aa [((0,9),(29,0)),((1,9),(60,0))] ?_ (dW T j N hj) ob tr ae) ?_))))))))
  · repeat' (first | exact cW | refine cG ?_ ?_ | exact eg rfl)
  refine ax rfl rfl (aK _ _ Tryz.underlying9 rfl rfl rfl) (ax rfl rfl (aH _ (rfl:_=AV.v (.bool _))) (dw (fun hg39=> ?_) (fun hg39=> ?_)))
  · skip
    obtain ⟨l,j',hdp,hdz⟩: ∃ l j',ft T g N (bK T j)=some (l,j')∧gv T g (d++l) v j'=some (D',V',i):=by
      rcases hm with ⟨_,l,j',h1,h2⟩ | ⟨h,_⟩ | ⟨h,_⟩
      · exact ⟨l,j',(ks g _ hp).trans h1,h2⟩
      · exact absurd hg39 h
      · exact absurd hg39 h
    obtain ⟨hda,hdb,hdc⟩:=nV hTl g N j hj (l,j') hdp
    simp only at hda hdb hdc
    have hdl:(d++l).length=d.length+l.length:=by simp
    refine aN rfl rfl ah ?_
    refine aN rfl rfl ah ?_
    refine aN rfl rfl ah ?_
    refine ax rfl rfl (az _ _ _ rfl (rfl:_=AV.v (.bool _))) (aj (az _ _ _ rfl (rfl:_=AV.v (.bool _))) (aI (hK11 _ ?_)))
    clear hK11;try clear K11
    refine bR rfl rfl (bA (hK10 _ ?_))
    clear hK10;try clear K10
    refine au (aq ?_)
    refine aQ (σ':=aA 114 [(2,_),(8,_),(9,_)] [((2,0),_),((29,0),_),((60,0),_),((9,0),_),((61,0),_),((62,0),_)] [] []) (by
      refine Le.mkJ [] [] rfl ?_ ?_ trivial trivial ?_
      · exact ⟨(iP rfl),(iP rfl),(iP rfl),trivial⟩
      · exact ⟨(cH rfl rfl rfl),(cH rfl rfl rfl),(cH rfl rfl rfl),(cH rfl rfl rfl),(cH rfl rfl rfl),(cH rfl rfl rfl),trivial⟩
      · kernel_rfl) ?_
    refine an (bN rfl (aj (dm aa [((0,9),(29,0)),((1,9),(60,0))] ?_ (dW T j N hj) ob tr ae) ?_))
    · repeat' (first | exact cW | refine cG ?_ ?_ | exact eg rfl)
    refine aj (aK _ _ Tryz.underlying9 rfl rfl rfl) (ai (bR rfl (beq_iff_eq.2 hg39) ?_))
    refine aQ (σ':=aA 114 [(2,_),(8,_),(9,_)] [((2,0),_),((29,0), .box 222 [.sl T.length (pi T), .v (.int .i64 (j:Int)), .v (.int .i64 0), .v (.int .i64 0), .ref (60,0) 0 N.length]),((60,0), .row 9 1 (ed N)),((9,0),_),((61,0),_),((62,0),_)] [] []) (by
      refine Le.mkJ [] [] rfl ?_ ?_ trivial trivial ?_
      · exact ⟨(iP rfl),(iP rfl),(iP rfl),trivial⟩
      · exact ⟨(cH rfl rfl rfl),(cH rfl rfl rfl),(cH rfl rfl rfl),(cH rfl rfl rfl),(cH rfl rfl rfl),(cH rfl rfl rfl),trivial⟩
      · kernel_rfl) ?_
    refine bT 4 [48,49,50,51] [(29,0),(70,0),(60,0)] ae ae rfl (aM rfl) (rfl:_=[_,_,_,_]) (rfl:_=[_,_,_]) ?_
    refine ap (_,[]) (fun τ=> aD _ aa rfl rfl rfl) ?_
    refine fO rfl ?_
    refine ap (_,[]) (fun τ=> aG _ aa rfl rfl (rfl:_=some (AV.ref _ _ _))) ?_
    refine fR rfl ?_
    refine ap (_,[]) (fun τ=> aH _ (rfl:_=AV.ptr _ _)) ?_
    refine fT rfl ?_
    refine ap (_,[((29,0),_),((70,0),_),((60,0), .gone)]) (fun τ=> (eb aa [((0,9),(29,0)),((1,9),(60,0)),((1,8),(70,0))] ?_ (hdc) ob tr tr rfl rfl ae ae)) ?_
    · repeat' (first | exact cW | refine cG ?_ ?_ | exact eg rfl)
    refine fP rfl (bw ⟨rfl,?_⟩)
    refine aj (de (52,0) _ _ aa rfl rfl (by simp) (.sl (by simp)) ab rfl (mQ _ _) hdl.symm) ?_
    refine bu rfl rfl rfl (cF rfl rfl rfl rfl rfl rfl (aI (⟨(g,d++l,v,N++l,j'),?_,?_,?_⟩)))
    · exact ⟨(hp.append_right l).trans (by rw [List.append_assoc,List.append_assoc];exact List.perm_append_comm.append_left d),hda,by simp only [List.length_append];omega,hdz⟩
    · skip
      refine Le.mkJ [((60,0),(70,0)),((61,0),(52,0))] [] rfl ?_ ?_ trivial trivial ?_
      · exact ⟨(eg (id:=(2,0)) rfl),(eg (id:=(29,0)) rfl),(eg (id:=(9,0)) rfl),trivial⟩
      · exact ⟨(gz rfl rfl rfl rfl (by repeat' (first | exact Lv.v | exact br | refine aB ?_ ?_))),(gz rfl rfl rfl rfl lz),(gJ rfl rfl rfl ag),(gz rfl rfl rfl rfl lz),(gJ rfl rfl rfl ag),(gJ rfl rfl rfl ag),trivial⟩
      · kernel_rfl
    · simp only;omega
  · skip
    refine ax rfl rfl (aH _ (rfl:_=AV.ptr _ _)) (ax rfl rfl (dm aa [((0,9),(29,0)),((1,9),(60,0))] ?_ (dW T j N hj) ob tr ae) ?_)
    · repeat' (first | exact cW | refine cG ?_ ?_ | exact eg rfl)
    refine ax rfl rfl (aK _ _ Tryz.underlying9 rfl rfl rfl) (ax rfl rfl (az _ _ _ rfl (rfl:_=AV.v (.bool _))) (aj (az _ _ _ rfl (rfl:_=AV.v (.bool _))) (aI (hK11 _ ?_))))
    clear hK11;try clear K11
    refine aP rfl (fun hc44=> ?_) (fun hc44=> ?_)
    · skip
      obtain ⟨l,j',hdp,hdz⟩: ∃ l j',ft T g N (bK T j)=some (l,j')∧gv T g d (v++l) j'=some (D',V',i):=by
        rcases hm with ⟨h,_⟩ | ⟨_,_,l,j',h1,h2⟩ | ⟨_,h,_⟩
        · exact absurd h hg39
        · exact ⟨l,j',(ks g _ hp).trans h1,h2⟩
        · exact absurd hc44 h
      obtain ⟨hda,hdb,hdc⟩:=nV hTl g N j hj (l,j') hdp
      simp only at hda hdb hdc
      have hvl:(v++l).length=v.length+l.length:=by simp
      refine bA (hK10 _ ?_)
      clear hK10;try clear K10
      refine au (aq ?_)
      refine aQ (σ':=aA 114 [(2,_),(8,_),(9,_)] [((2,0),_),((29,0),_),((60,0),_),((9,0),_),((61,0),_),((62,0),_)] [] []) (by
        refine Le.mkJ [] [] rfl ?_ ?_ trivial trivial ?_
        · exact ⟨(iP rfl),(iP rfl),(iP rfl),trivial⟩
        · exact ⟨(cH rfl rfl rfl),(cH rfl rfl rfl),(cH rfl rfl rfl),(cH rfl rfl rfl),(cH rfl rfl rfl),(cH rfl rfl rfl),trivial⟩
        · kernel_rfl) ?_
      refine an (bN rfl (aj (dm aa [((0,9),(29,0)),((1,9),(60,0))] ?_ (dW T j N hj) ob tr ae) ?_))
      · repeat' (first | exact cW | refine cG ?_ ?_ | exact eg rfl)
      refine aj (aK _ _ Tryz.underlying9 rfl rfl rfl) (ai (aS rfl (beq_eq_false_iff_ne.2 hg39) ?_))
      refine aQ (σ':=aA 114 [(2,_),(8,_),(9,_)] [((2,0),_),((29,0), .box 222 [.sl T.length (pi T), .v (.int .i64 (j:Int)), .v (.int .i64 0), .v (.int .i64 0), .ref (60,0) 0 N.length]),((60,0), .row 9 1 (ed N)),((9,0),_),((61,0),_),((62,0),_)] [] []) (by
        refine Le.mkJ [] [] rfl ?_ ?_ trivial trivial ?_
        · exact ⟨(iP rfl),(iP rfl),(iP rfl),trivial⟩
        · exact ⟨(cH rfl rfl rfl),(cH rfl rfl rfl),(cH rfl rfl rfl),(cH rfl rfl rfl),(cH rfl rfl rfl),(cH rfl rfl rfl),trivial⟩
        · kernel_rfl) ?_
      refine bT 4 [54,55,56,57] [(29,0),(71,0),(60,0)] ae ae rfl (aM rfl) (rfl:_=[_,_,_,_]) (rfl:_=[_,_,_]) ?_
      refine ap (_,[]) (fun τ=> aD _ aa rfl rfl rfl) ?_
      refine fO rfl ?_
      refine ap (_,[]) (fun τ=> aG _ aa rfl rfl (rfl:_=some (AV.ref _ _ _))) ?_
      refine fR rfl ?_
      refine ap (_,[]) (fun τ=> aH _ (rfl:_=AV.ptr _ _)) ?_
      refine fT rfl ?_
      refine ap (_,[((29,0),_),((71,0),_),((60,0), .gone)]) (fun τ=> (eb aa [((0,9),(29,0)),((1,9),(60,0)),((1,8),(71,0))] ?_ (hdc) ob tr tr rfl rfl ae ae)) ?_
      · repeat' (first | exact cW | refine cG ?_ ?_ | exact eg rfl)
      refine fP rfl (bw ⟨rfl,?_⟩)
      refine aj (de (58,0) _ _ aa rfl rfl (by simp) (.sl (by simp)) ab rfl (mQ _ _) hvl.symm) ?_
      refine bu rfl rfl rfl (cF rfl rfl rfl rfl rfl rfl (aI (⟨(g,d,v++l,N++l,j'),?_,?_,?_⟩)))
      · exact ⟨(hp.append_right l).trans (by rw [List.append_assoc]),hda,by simp only [List.length_append];omega,hdz⟩
      · skip
        refine Le.mkJ [((60,0),(71,0)),((62,0),(58,0))] [] rfl ?_ ?_ trivial trivial ?_
        · exact ⟨(eg (id:=(2,0)) rfl),(eg (id:=(29,0)) rfl),(eg (id:=(9,0)) rfl),trivial⟩
        · exact ⟨(gz rfl rfl rfl rfl (by repeat' (first | exact Lv.v | exact br | refine aB ?_ ?_))),(gz rfl rfl rfl rfl lz),(gJ rfl rfl rfl ag),(gz rfl rfl rfl rfl lz),(gJ rfl rfl rfl ag),(gJ rfl rfl rfl ag),trivial⟩
        · kernel_rfl
      · simp only;omega
    · skip
      have hrd:(D',V',i)=(d,v,j):=by
        rcases hm with ⟨h,_⟩ | ⟨_,h,_⟩ | ⟨_,_,h⟩
        · exact absurd h hg39
        · exact absurd h hc44
        · exact h
      obtain ⟨e1,e2,e3⟩:D'=d∧V'=v∧i=j:=⟨congrArg (·.1) hrd,congrArg (·.2.1) hrd,congrArg (·.2.2) hrd⟩
      clear hrd hm hz
      subst e1;subst e2;subst e3
      refine bI (id (hK9 _ ?_))
      clear hK9;try clear K9
      refine aT fun K14 hK14=> ?_
      refine au ?_
      refine aQ (Le.frzB (29,0) 4 rfl rfl rfl rfl (ys:=ed N) (by simp [List.take_of_length_le]) (by simp)) ?_
      refine bv (α:=Nat×List Hd×Nat) (fun y=> y.2.1.length+y.1≤10*T.length+10∧y.2.2 < T.length∧Au T y.1 y.2.1 y.2.2=some L') 114 [(2,_),(8,_),(9,_)] [((2,0),_),((61,0),_),((62,0),_)] (fun y=> []) (fun y=> [((29,0), .box 222 [.sl T.length (pi T), .v (.int .i64 (y.2.2:Int)), .v (.int .i64 0), .v (.int .i64 0), .sl N.length (ed N)]),((9,0), .box 64 [.ref (61,0) 0 D'.length, .ref (62,0) 0 V'.length, .sl y.2.1.length (kU y.2.1)])]) [] [] (fun y=> y.1) (10*T.length+10,[],i) ?_ (by
        refine Le.mkJ [] [] rfl ?_ ?_ trivial trivial ?_
        · exact ⟨(iP rfl),(iP rfl),(iP rfl),trivial⟩
        · exact ⟨(cH rfl rfl rfl),(cH rfl rfl rfl),(cH rfl rfl rfl),(gz rfl rfl rfl rfl lz),(gz rfl rfl rfl rfl lz),trivial⟩
        · kernel_rfl) ?_
      · exact ⟨by simp,hj,hL⟩
      intro y hy
      obtain ⟨y1,l,k⟩:=y
      obtain ⟨hyl,hk,hy⟩:=hy
      obtain ⟨g2,rfl,hm2⟩:=vO hy
      simp only at hyl hk hm2 ⊢
      refine aT fun K15 hK15=> ?_
      refine aq (bT 19 [60,61,62,63,64,65,66,67,68,69,70,71,72,73,74,75,76,77,78] [] ae ae rfl (aM rfl) (rfl:_=[_,_,_,_,_,_,_,_,_,_,_,_,_,_,_,_,_,_,_]) (rfl:_=[]) ?_)
      refine ap (_,[]) (fun τ=> aH _ (rfl:_=AV.ptr _ _)) ?_
      refine fO rfl ?_
      refine ap (_,[]) (fun τ=> aJ _ rfl rfl) ?_
      refine fR rfl ?_
      refine ap (_,[]) (fun τ=> aD _ aa rfl rfl rfl) ?_
      refine fT rfl ?_
      refine ap (_,[]) (fun τ=> aG _ aa rfl rfl (rfl:_=some (AV.v (.int _ _)))) ?_
      refine fP rfl ?_
      refine ap (_,[]) (fun τ=> bH (r:=true) _ _ rfl rfl rfl) ?_
      refine gb rfl ?_
      refine ap (_,[]) (fun τ=> aH _ (rfl:_=AV.v (.bool _))) ?_
      refine gC rfl ?_
      refine bO (_,[]) rfl (fun τ=> rfl) (fun τ=> aH _ (rfl:_=AV.ptr _ _)) ?_
      refine iy rfl ?_
      refine bO (_,[]) rfl (fun τ=> rfl) (fun τ=> aJ _ rfl rfl) ?_
      refine jy rfl ?_
      refine bO (_,[]) rfl (fun τ=> rfl) (fun τ=> aD _ aa rfl rfl rfl) ?_
      refine jr rfl ?_
      refine bO (_,[]) rfl (fun τ=> rfl) (fun τ=> aG _ aa rfl rfl (rfl:_=some (AV.sl _ _))) ?_
      refine fq rfl ?_
      refine bO (_,[]) rfl (fun τ=> rfl) (fun τ=> aH _ (rfl:_=AV.ptr _ _)) ?_
      refine fv rfl ?_
      refine bO (_,[]) rfl (fun τ=> rfl) (fun τ=> aJ _ rfl rfl) ?_
      refine jf rfl ?_
      refine bO (_,[]) rfl (fun τ=> rfl) (fun τ=> aD _ aa rfl rfl rfl) ?_
      refine jR rfl ?_
      refine bO (_,[]) rfl (fun τ=> rfl) (fun τ=> aG _ aa rfl rfl (rfl:_=some (AV.v (.int _ _)))) ?_
      refine mh rfl ?_
      refine bO (_,[]) rfl (fun τ=> rfl) (fun τ=> bl _ _ aa rfl rfl _ rfl ab (by (simp only [aU,bj,bh,bq,bp,bE,bs];omega)) ag) ?_
      refine qp rfl ?_
      refine bO (_,[]) rfl (fun τ=> rfl) (fun τ=> cQ _ aa rfl rfl) ?_
      refine qC rfl ?_
      refine bO (_,[]) rfl (fun τ=> rfl) (fun τ=> bU _ aa rfl (by exact nr _ _ ab) rfl) ?_
      refine rH rfl ?_
      refine bO (_,[]) rfl (fun τ=> rfl) (fun τ=> bY _ _ rfl rfl rfl) ?_
      refine rA rfl ?_
      refine ap (_,[]) (fun τ=> az _ _ _ rfl (rfl:_=AV.v (.bool _))) ?_
      refine ru rfl (bw ⟨rfl,?_⟩)
      refine ai (aP rfl (fun hc78=> ?_) (fun hc78=> ?_))
      · skip
        obtain ⟨_,j1,hn,j2,dd,j3,h1,h2,h3,h4,h5⟩:=hm2.resolve_left fun x=> by omega
        have hx1:=ev T k j1 N Ba hk hTl h1
        obtain ⟨ha2,_,hx2⟩:=pq (N:=N) hTl j1 (gH h1 hk) l ab _ h2 h3
        obtain ⟨ha3,hx3⟩:=qT (N:=N) hTl ab ha2 h4
        have hx4:=wp l ab (hn,dd)
        have hpl2:=uN l (hn,dd)
        simp only at ha2 ha3 hx2 hx3 hx4
        refine bA (hK15 _ ?_)
        clear hK15;try clear K15
        refine au (aq ?_)
        refine aQ (σ':=aA 114 [(2,_),(8,_),(9,_)] [((2,0),_),((61,0),_),((62,0),_),((29,0),_),((9,0),_)] [] []) (by
          refine Le.mkJ [] [] rfl ?_ ?_ trivial trivial ?_
          · exact ⟨(iP rfl),(iP rfl),(iP rfl),trivial⟩
          · exact ⟨(cH rfl rfl rfl),(cH rfl rfl rfl),(cH rfl rfl rfl),(cH rfl rfl rfl),(cH rfl rfl rfl),trivial⟩
          · kernel_rfl) ?_
        refine an (bN rfl (aj (dm aa [((0,9),(29,0))] ?_ (hx1) ob tr ae) ?_))
        · repeat' (first | exact cW | refine cG ?_ ?_ | exact Lv.v | exact eg rfl)
        refine ai (aq (am (bN rfl (aj (aJ _ rfl rfl) (bu rfl rfl rfl (cw rfl rfl rfl (aj (bY (r:=false) _ _ rfl rfl rfl) (ai (aS rfl rfl (aO ?_))))))))))
        refine aT fun K20 hK20=> ?_
        refine an (bN rfl (bu rfl rfl rfl (eY rfl rfl rfl (aj (dm aa [((0,9),(29,0))] ?_ (hx2) ob tr ae) ?_))))
        · repeat' (first | exact cW | refine cG ?_ ?_ | exact Lv.sl | exact eg rfl)
        refine bc rfl (aI (hK20 _ ?_))
        clear hK20;try clear K20
        refine aT fun K21 hK21=> ?_
        refine an (bN rfl (aj (dm aa [((0,9),(29,0))] ?_ (hx3) ob tr ae) ?_))
        · repeat' (first | exact cW | refine cG ?_ ?_ | exact Lv.v | exact eg rfl)
        refine aj (aR (11,0) aa rfl rfl) (cF rfl rfl rfl rfl rfl rfl (aI (hK21 _ ?_)))
        clear hK21;try clear K21
        refine aQ (σ':=aA 114 [(2,_),(8,_),(9,_),(10,_),(11,_)] [((2,0),_),((61,0),_),((62,0),_),((29,0),_),((9,0),_),((11,0),_)] [] []) (by
          refine Le.mkJ [] [] rfl ?_ ?_ trivial trivial ?_
          · exact ⟨(iP rfl),(iP rfl),(iP rfl),(iV rfl),(iP rfl),trivial⟩
          · exact ⟨(cH rfl rfl rfl),(cH rfl rfl rfl),(cH rfl rfl rfl),(cH rfl rfl rfl),(cH rfl rfl rfl),(cH rfl rfl rfl),trivial⟩
          · kernel_rfl) ?_
        refine an (bu rfl rfl rfl (eY rfl rfl rfl (aV rfl (aj (aX _ aa rfl rfl rfl rfl) (aj (aF _ aa rfl (by exact (rfl:_=some [_,_,_,_,_]))) ?_)))))
        refine aj (aC aa al (hx4) rfl rfl) ?_
        refine bu rfl rfl rfl (cF rfl rfl rfl rfl rfl rfl (aI (⟨(g2,na l (hn,dd),j3),?_,?_,?_⟩)))
        · exact ⟨by simp only [hpl2];omega,ha3,h5⟩
        · skip
          refine Le.mkJ [] [] rfl ?_ ?_ trivial trivial ?_
          · exact ⟨(iP rfl),(iP rfl),(iP rfl),trivial⟩
          · exact ⟨(cH rfl rfl rfl),(cH rfl rfl rfl),(cH rfl rfl rfl),(gz rfl rfl rfl rfl lz),(gz rfl rfl rfl rfl lz),trivial⟩
          · kernel_rfl
        · simp only;omega
      · skip
        have hrl:=(hm2.resolve_right fun x=> x.1 ab).2
        subst hrl
        refine bI (id (hK14 _ ?_))
        clear hK14;try clear K14
        refine aq (aq ?_)
        refine aQ (σ':=aA 114 [(2,_),(8,_),(9,_)] [((2,0),_),((61,0),_),((62,0),_),((29,0),_),((9,0),_)] [] []) (by
          refine Le.mkJ [] [] rfl ?_ ?_ trivial trivial ?_
          · exact ⟨(iP rfl),(iP rfl),(iP rfl),trivial⟩
          · exact ⟨(cH rfl rfl rfl),(cH rfl rfl rfl),(cH rfl rfl rfl),(cH rfl rfl rfl),(cH rfl rfl rfl),trivial⟩
          · kernel_rfl) ?_
        refine an (bN rfl (aj (aJ _ rfl rfl) (bu rfl rfl rfl (cw rfl rfl rfl (aj (bY (r:=false) _ _ rfl rfl rfl) (ai (aS rfl rfl (aO (am (aj (aX _ aa rfl rfl rfl rfl) ?_))))))))))
        exact cF rfl rfl rfl rfl rfl rfl (bc rfl (bc rfl (ai (aE (yT (.inr rfl) rfl (.cellA aa rfl rfl rfl) (.tmp (rfl:_=AV.v _)) (.tmp (rfl:_=AV.v _)) (Le.out [] [(61,0),(62,0)] (.tup rfl (aB (.agg rfl (aB (iL rfl rfl (by simp) rfl) (aB (iL rfl rfl (by simp) rfl) lz))) lz)) rfl rfl rfl tr trivial))))))

def iJ (l:List Nd) (j:Nat):Nd:=l.getD j ⟨0,0,[],0,[]⟩
theorem Ay (l:List Nd) (k:Nat) (h:k < l.length):iJ l k=l[k]:=by simp [iJ,h]
theorem cp (l:List Nd) (k:Nat) (h:k < l.length):PV.ups (((ko l).drop (k*4)).take 4)=[.v (.int .i64 ((iJ l k).k:Int)), .v (.int .i64 ((iJ l k).n:Int)), .v (bt (iJ l k).s), .sl (iJ l k).kn (iJ l k).kids]:=by
 rw [Ay l k h,show ((ko l).drop (k*4)).take 4=l[k].row from nc Nd.row 4 (fun _=> rfl) l k h];rfl
theorem eW (l:List Tx) (n:Nat) (hn:l.length=n) (h1:n≤1000) (t:Tx):Spec Tryz.prog 204 (bf [.sl n (ed l), .v (bt t)] []) (aL (.v (.bool (decide (t∈l)))) []):=by
 refine Spec.ofN Tryz.func204 rfl Tryz.ntmps204 rfl ?_
 refine am (ce rfl (ai (aT fun K2 hK2=> ?_)))
 refine am (bc rfl (ai (au ?_)))
 refine bv (α:=Nat) (fun k=> k≤n∧t∉l.take k) 18 [(0,_),(1,_)] [] (fun k=> [(5, .v (.int .i64 (k:Int)))]) (fun k=> []) [] [] (fun k=> n - k) 0 ?_ (by
  refine Le.mkJ [] [] rfl ?_ ?_ trivial trivial ?_
  ·exact ⟨(iS rfl),(iV rfl),(cd ag),trivial⟩
  ·exact trivial
  ·kernel_rfl) ?_
 ·exact ⟨Nat.zero_le _,by simp⟩
 intro k hk
 obtain ⟨hk,hnt⟩:=hk
 refine aT fun K4 hK4=> ?_
 refine am (aV rfl (eT rfl (aj (bD _ aa rfl) (aj (bo _ _ rfl rfl rfl) (ai (aP rfl (fun hc9=> ?_) (fun hc9=> ?_)))))))
 ·skip
  refine bA (hK4 _ ?_)
  clear hK4;try clear K4
  refine aq (au (am (eT rfl (aV rfl (aj (bl _ _ aa rfl rfl _ rfl ab (by (simp only [aU,bj,bh,bq,bp,bE,bs];omega)) (by exact Nat.mul_one _)) ?_)))))
  refine aj (bU _ aa rfl (by exact ik _ _ ab) rfl) ?_
  refine dv rfl (aj (aK _ _ Tryz.underlying9 rfl rfl rfl) (ai (aP rfl (fun hc17=> ?_) (fun hc17=> ?_))))
  ·skip
   refine am (ce rfl (ai (aE (aW (.inr rfl) rfl (.tmp (rfl:_=AV.v (.bool _))) (Le.out [] [] (gy ?_) rfl rfl rfl trivial trivial)))))
   exact decide_eq_true (hc17 ▸ gO ab)
  ·skip
   refine cf (an (aV rfl (aj (aZ _ _ rfl rfl (bJ ab)) ?_)))
   refine bc rfl (aI (⟨k+1,?_,?_,?_⟩))
   ·exact ⟨by omega,iz hnt ab hc17⟩
   ·skip
    refine Le.mkJ [] [] rfl ?_ ?_ trivial trivial ?_
    ·exact ⟨(iS rfl),(iV rfl),(cd ag),trivial⟩
    ·exact trivial
    ·kernel_rfl
   ·omega
 ·skip
  have hall:t∉l:=by rwa [List.take_of_length_le ab] at hnt
  refine bI (id (hK2 _ ?_))
  clear hK2;try clear K2
  refine am (ce rfl (ai (aE (aW (.inr rfl) rfl (.tmp (rfl:_=AV.v (.bool _))) (Le.out [] [] (gy ?_) rfl rfl rfl trivial trivial)))))
  exact decide_eq_false hall
def tJ:List Tx:=[[60],[60,61],[62],[62,61],[61,61],[33,61]]
theorem kr (t:Tx):Spec Tryz.prog 227 (bf [.v (bt t)] []) (aL (.v (.bool (decide (t∈tJ)))) []):=by
 refine Spec.ofN Tryz.func227 rfl Tryz.ntmps227 rfl ?_
 refine am (ce rfl (ai (am (aj (bi _ _ aa rfl ag (by (simp <;> rfl)) ah rfl) ?_))))
 refine dv rfl (aj (aC aa al (eW tJ 6 rfl ab t) rfl rfl) ?_)
 refine ce rfl (ai (aE (aW (.inr rfl) rfl (.tmp (rfl:_=AV.v (.bool _))) (Le.out [] [] (gy ?_) rfl rfl rfl trivial trivial))))
 rfl
theorem AM (n:Nat):Spec Tryz.prog 203 (bf [me (nd 12 n [] [])] []) (aL (.v (.int .i64 1)) []):=by
 refine Spec.ofN Tryz.func203 rfl Tryz.ntmps203 rfl ?_
 refine am (aj (bg (1,0) _ rfl rfl) (bc rfl (ai (aq (am (bu rfl rfl rfl (cw rfl rfl rfl (jv rfl rfl rfl (cE rfl (aN rfl rfl ah ?_))))))))))
 refine aN rfl rfl ah ?_
 refine aN rfl rfl ah ?_
 refine aj (az _ _ _ rfl (rfl:_=AV.v (.bool _))) (cE rfl (aN rfl rfl ah ?_))
 refine aN rfl rfl ah ?_
 refine aN rfl rfl ah ?_
 refine aj (az _ _ _ rfl (rfl:_=AV.v (.bool _))) (ai (bR rfl rfl (aq ?_)))
 refine aQ (σ':=aA 80 [] [] [] []) kp ?_
 exact an (bc rfl (ai (aE (aW (.inr rfl) rfl (.tmp (rfl:_=AV.v _)) (Le.out [] [] .v rfl rfl rfl trivial trivial)))))
theorem Bt (s:Tx):Spec Tryz.prog 203 (bf [me (nd 14 0 s [])] []) (aL (.v (.int .i64 1)) []):=by
 refine Spec.ofN Tryz.func203 rfl Tryz.ntmps203 rfl ?_
 refine am (aj (bg (1,0) _ rfl rfl) (bc rfl (ai (aq (am (bu rfl rfl rfl (cw rfl rfl rfl (fJ rfl rfl rfl (cE rfl (ax rfl rfl (aD _ aa rfl rfl rfl) ?_))))))))))
 refine ax rfl rfl (aG _ aa rfl rfl (rfl:_=some (AV.v (.int _ _)))) (ax rfl rfl (bH (r:=true) _ _ rfl rfl rfl) (aj (az _ _ _ rfl (rfl:_=AV.v (.bool _))) (cE rfl (aN rfl rfl ah ?_))))
 refine aN rfl rfl ah ?_
 refine aN rfl rfl ah ?_
 refine aj (az _ _ _ rfl (rfl:_=AV.v (.bool _))) (ai (bR rfl rfl (aq ?_)))
 refine aQ (σ':=aA 80 [] [] [] []) kp ?_
 exact an (bc rfl (ai (aE (aW (.inr rfl) rfl (.tmp (rfl:_=AV.v _)) (Le.out [] [] .v rfl rfl rfl trivial trivial)))))
theorem xA (s:Tx):Spec Tryz.prog 203 (bf [me (nd 15 0 s [])] []) (aL (.v (.int .i64 1)) []):=by
 refine Spec.ofN Tryz.func203 rfl Tryz.ntmps203 rfl ?_
 refine am (aj (bg (1,0) _ rfl rfl) (bc rfl (ai (aq (am (bu rfl rfl rfl (cw rfl rfl rfl (fJ rfl rfl rfl (cE rfl (ax rfl rfl (aD _ aa rfl rfl rfl) ?_))))))))))
 refine ax rfl rfl (aG _ aa rfl rfl (rfl:_=some (AV.v (.int _ _)))) (ax rfl rfl (bH (r:=false) _ _ rfl rfl rfl) (aj (az _ _ _ rfl (rfl:_=AV.v (.bool _))) (cE rfl (ax rfl rfl (aD _ aa rfl rfl rfl) (ax rfl rfl (aG _ aa rfl rfl (rfl:_=some (AV.v (.int _ _)))) (ax rfl rfl (bH (r:=true) _ _ rfl rfl rfl) (aj (az _ _ _ rfl (rfl:_=AV.v (.bool _))) (ai (bR rfl rfl (aq ?_))))))))))
 refine aQ (σ':=aA 80 [] [] [] []) kp ?_
 exact an (bc rfl (ai (aE (aW (.inr rfl) rfl (.tmp (rfl:_=AV.v _)) (Le.out [] [] .v rfl rfl rfl trivial trivial)))))
theorem xB (n:Nat):Spec Tryz.prog 203 (bf [me (nd 13 n [] [])] []) (aL (.v (.int .i64 2)) []):=by
 refine Spec.ofN Tryz.func203 rfl Tryz.ntmps203 rfl ?_
 refine am (aj (bg (1,0) _ rfl rfl) (bc rfl (ai (aq (am (bu rfl rfl rfl (cw rfl rfl rfl (fJ rfl rfl rfl (cE rfl (ax rfl rfl (aD _ aa rfl rfl rfl) ?_))))))))))
 refine ax rfl rfl (aG _ aa rfl rfl (rfl:_=some (AV.v (.int _ _)))) (ax rfl rfl (bH (r:=false) _ _ rfl rfl rfl) (aj (az _ _ _ rfl (rfl:_=AV.v (.bool _))) (cE rfl (ax rfl rfl (aD _ aa rfl rfl rfl) (ax rfl rfl (aG _ aa rfl rfl (rfl:_=some (AV.v (.int _ _)))) (ax rfl rfl (bH (r:=false) _ _ rfl rfl rfl) (aj (az _ _ _ rfl (rfl:_=AV.v (.bool _))) (ai (aS rfl rfl (aO ?_))))))))))
 refine aq (aq ?_)
 refine aQ (σ':=aA 80 [(1,_)] [((1,0),_)] [] []) kp ?_
 exact an (bu rfl rfl rfl (cw rfl rfl rfl (jv rfl rfl rfl (ai (bR rfl rfl (am (bc rfl (ai (aE (aW (.inr rfl) rfl (.tmp (rfl:_=AV.v _)) (Le.out [] [] .v rfl rfl rfl trivial trivial)))))))))))
theorem yX (L:List Nd) (hL:L.length≤3) (t:Nat→Nat) (ht: ∀ j,t j≤2) (h: ∀ j,j < L.length→Spec Tryz.prog 203 (bf [me (iJ L j)] []) (aL (.v (.int .i64 (t j:Int))) [])) (r:Nat) (hr1:(∀ j,j < L.length→t j=1)→r=1) (hr0: ∀ j,j < L.length→t j≠1→r=0):
  Spec Tryz.prog 203 (bf [.agg [.v (.int .i64 16), .v (.int .i64 0), .v (bt []), .sl L.length (ko L)]] []) (aL (.v (.int .i64 (r:Int))) []):=by
 refine Spec.ofN Tryz.func203 rfl Tryz.ntmps203 rfl ?_
 refine am (aj (bg (1,0) _ rfl rfl) (bc rfl (ai (aq (am (bu rfl rfl rfl (cw rfl rfl rfl (fJ rfl rfl rfl (cE rfl (ax rfl rfl (aD _ aa rfl rfl rfl) ?_))))))))))
 refine ax rfl rfl (aG _ aa rfl rfl (rfl:_=some (AV.v (.int _ _)))) (ax rfl rfl (bH (r:=false) _ _ rfl rfl rfl) (aj (az _ _ _ rfl (rfl:_=AV.v (.bool _))) (cE rfl (ax rfl rfl (aD _ aa rfl rfl rfl) (ax rfl rfl (aG _ aa rfl rfl (rfl:_=some (AV.v (.int _ _)))) (ax rfl rfl (bH (r:=false) _ _ rfl rfl rfl) (aj (az _ _ _ rfl (rfl:_=AV.v (.bool _))) (ai (aS rfl rfl (aO ?_))))))))))
 refine aq (aq ?_)
 refine aQ (σ':=aA 80 [(1,_)] [((1,0),_)] [] []) kp ?_
 refine an (bu rfl rfl rfl (cw rfl rfl rfl (fJ rfl rfl rfl (ai (aS rfl rfl (aO (aq (am (bu rfl rfl rfl (cw rfl rfl rfl ?_))))))))))
 refine aj (bY (r:=false) _ _ rfl rfl rfl) (cE rfl (aN rfl rfl ah ?_))
 refine aN rfl rfl ah ?_
 refine aN rfl rfl ah ?_
 refine aj (az _ _ _ rfl (rfl:_=AV.v (.bool _))) (cE rfl (aN rfl rfl ah ?_))
 refine aN rfl rfl ah ?_
 refine aN rfl rfl ah ?_
 refine aj (az _ _ _ rfl (rfl:_=AV.v (.bool _))) (ai (aS rfl rfl (aO (aq ?_))))
 refine aQ (σ':=aA 80 [(1,_)] [((1,0),_)] [] []) kp ?_
 refine an (bc rfl (ai (am (bc rfl (ai (aq (am (bu rfl rfl rfl (cw rfl rfl rfl (fJ rfl rfl rfl ?_))))))))))
 refine cE rfl (aN rfl rfl ah ?_)
 refine aN rfl rfl ah ?_
 refine aN rfl rfl ah ?_
 refine aj (az _ _ _ rfl (rfl:_=AV.v (.bool _))) (cE rfl (ax rfl rfl (aD _ aa rfl rfl rfl) (ax rfl rfl (aG _ aa rfl rfl (rfl:_=some (AV.v (.int _ _)))) (ax rfl rfl (bH (r:=false) _ _ rfl rfl rfl) (ax rfl rfl (aH _ (rfl:_=AV.v (.bool _))) (aN rfl rfl ah ?_))))))
 refine aN rfl rfl ah ?_
 refine aN rfl rfl ah ?_
 refine aN rfl rfl ah ?_
 refine ax rfl rfl (az _ _ _ rfl (rfl:_=AV.v (.bool _))) (aj (az _ _ _ rfl (rfl:_=AV.v (.bool _))) (ai (aS rfl rfl (aO (aq (aq ?_))))))
 refine aQ (σ':=aA 80 [(1,_),(3,_),(4,_)] [((1,0),_)] [] []) kp ?_
 refine an (bu rfl rfl rfl (cw rfl rfl rfl (fJ rfl rfl rfl (cE rfl (aN rfl rfl ah ?_)))))
 refine aN rfl rfl ah ?_
 refine aN rfl rfl ah ?_
 refine aj (az _ _ _ rfl (rfl:_=AV.v (.bool _))) (ai (aS rfl rfl (aO (aT fun K14 hK14=> ?_))))
 refine am (bc rfl (ai (au ?_)))
 refine bv (α:=Nat) (fun j=> j≤L.length∧ ∀ q,q < j→t q=1) 80 [(1,_),(3,_),(4,_)] [((1,0),_)] (fun j=> [(5, .v (.int .i64 (j:Int)))]) (fun j=> []) [] [] (fun j=> L.length - j) 0 ?_ (by
  refine Le.mkJ [] [] rfl ?_ ?_ trivial trivial ?_
  ·exact ⟨(iP rfl),(iV rfl),(iV rfl),(cd ag),trivial⟩
  ·exact ⟨(cH rfl rfl rfl),trivial⟩
  ·kernel_rfl) ?_
 ·exact ⟨Nat.zero_le _,fun q hq=> by omega⟩
 intro j hj
 obtain ⟨hj,hall⟩:=hj
 have htj:=ht j
 refine aT fun K16 hK16=> ?_
 refine am (aV rfl (bu rfl rfl rfl (eY rfl rfl rfl (aj (bD _ aa rfl) (aj (bo _ _ rfl rfl rfl) (ai (aP rfl (fun hc67=> ?_) (fun hc67=> ?_))))))))
 ·skip
  refine bA (hK16 _ ?_)
  clear hK16;try clear K16
  refine aq (au (am (bu rfl rfl rfl (eY rfl rfl rfl (aV rfl (aj (bl _ _ aa rfl rfl _ rfl ab (by (simp only [aU,bj,bh,bq,bp,bE,bs];omega)) ag) ?_))))))
  refine aj (bZ _ aa rfl (by exact cp _ _ ab) rfl) ?_
  refine aj (aC aa al (h j ab) rfl rfl) ?_
  refine bc rfl (ai (am (aV rfl (aV rfl (aj (bY _ _ rfl rfl rfl) (ai (aP rfl (fun hc78=> ?_) (fun hc78=> ?_))))))))
  ·skip
   have hr:=hr0 j ab ab
   refine aq ?_
   refine aQ (σ':=aA 80 [] [] [] []) kp ?_
   refine an (bc rfl (ai (aE (aW (.inr rfl) rfl (.tmp (rfl:_=AV.v (.int _ _))) (Le.out [] [] (cd ?_) rfl rfl rfl trivial trivial)))))
   rw [hr];rfl
  ·skip
   have hall1: ∀ q,q < j+1→t q=1:=fun q hq=> by
    by_cases h:q < j
    ·exact hall q h
    ·obtain rfl:q=j:=by omega
     omega
   refine cf ?_
   refine aQ (σ':=aA 80 [(1,_),(3,_),(4,_),(5,_)] [((1,0),_)] [] []) kp ?_
   refine an (aV rfl (aj (aZ _ _ rfl rfl (bJ ab)) ?_))
   refine bc rfl (aI (⟨j+1,?_,?_,?_⟩))
   ·exact ⟨by omega,hall1⟩
   ·skip
    refine Le.mkJ [] [] rfl ?_ ?_ trivial trivial ?_
    ·exact ⟨(iP rfl),(iV rfl),(iV rfl),(cd ag),trivial⟩
    ·exact ⟨(cH rfl rfl rfl),trivial⟩
    ·kernel_rfl
   ·omega
 ·skip
  have hr:=hr1 fun q hq=> hall q ab
  refine bI (id (hK14 _ ?_))
  clear hK14;try clear K14
  refine am (aV rfl (bc rfl (ai (aE (aW (.inr rfl) rfl (.tmp (rfl:_=AV.v (.int _ _))) (Le.out [] [] (cd ?_) rfl rfl rfl trivial trivial))))))
  rw [hr];rfl
theorem AL (L:List Nd) (hL:L.length≤3) (t:Nat→Nat) (ht: ∀ j,t j≤2) (h: ∀ j,j < L.length→Spec Tryz.prog 203 (bf [me (iJ L j)] []) (aL (.v (.int .i64 (t j:Int))) [])) (r:Nat) (hr1:(∀ j,j < L.length→t j=1)→r=1) (hr0: ∀ j,j < L.length→t j≠1→r=0):
  Spec Tryz.prog 203 (bf [.agg [.v (.int .i64 17), .v (.int .i64 0), .v (bt [45]), .sl L.length (ko L)]] []) (aL (.v (.int .i64 (r:Int))) []):=by
 refine Spec.ofN Tryz.func203 rfl Tryz.ntmps203 rfl ?_
 refine am (aj (bg (1,0) _ rfl rfl) (bc rfl (ai (aq (am (bu rfl rfl rfl (cw rfl rfl rfl (fJ rfl rfl rfl (cE rfl (ax rfl rfl (aD _ aa rfl rfl rfl) ?_))))))))))
 refine ax rfl rfl (aG _ aa rfl rfl (rfl:_=some (AV.v (.int _ _)))) (ax rfl rfl (bH (r:=false) _ _ rfl rfl rfl) (aj (az _ _ _ rfl (rfl:_=AV.v (.bool _))) (cE rfl (ax rfl rfl (aD _ aa rfl rfl rfl) (ax rfl rfl (aG _ aa rfl rfl (rfl:_=some (AV.v (.int _ _)))) (ax rfl rfl (bH (r:=false) _ _ rfl rfl rfl) (aj (az _ _ _ rfl (rfl:_=AV.v (.bool _))) (ai (aS rfl rfl (aO ?_))))))))))
 refine aq (aq ?_)
 refine aQ (σ':=aA 80 [(1,_)] [((1,0),_)] [] []) kp ?_
 refine an (bu rfl rfl rfl (cw rfl rfl rfl (fJ rfl rfl rfl (ai (aS rfl rfl (aO (aq (am (bu rfl rfl rfl (cw rfl rfl rfl ?_))))))))))
 refine aj (bY (r:=true) _ _ rfl rfl rfl) (cE rfl (ax rfl rfl (aD _ aa rfl rfl rfl) (ax rfl rfl (aG _ aa rfl rfl (rfl:_=some (AV.v (.int _ _)))) (ax rfl rfl (bY (r:=false) _ _ rfl rfl rfl) (aj (az _ _ _ rfl (rfl:_=AV.v (.bool _))) (cE rfl (aN rfl rfl ah ?_)))))))
 refine aN rfl rfl ah ?_
 refine aN rfl rfl ah ?_
 refine aj (az _ _ _ rfl (rfl:_=AV.v (.bool _))) (ai (aS rfl rfl (aO (aq ?_))))
 refine aQ (σ':=aA 80 [(1,_)] [((1,0),_)] [] []) kp ?_
 refine an (bc rfl (ai (am (bc rfl (ai (aq (am (bu rfl rfl rfl (cw rfl rfl rfl (jv rfl rfl rfl ?_))))))))))
 refine cE rfl (ax rfl rfl (aD _ aa rfl rfl rfl) (ax rfl rfl (aG _ aa rfl rfl (rfl:_=some (AV.v (.string _)))) (ax rfl rfl (aK (r:=false) _ _ Tryz.underlying9 rfl rfl rfl) (aj (az _ _ _ rfl (rfl:_=AV.v (.bool _))) (cE rfl (ax rfl rfl (aD _ aa rfl rfl rfl) (ax rfl rfl (aG _ aa rfl rfl (rfl:_=some (AV.v (.int _ _)))) (ax rfl rfl (bH (r:=false) _ _ rfl rfl rfl) (ax rfl rfl (aH _ (rfl:_=AV.v (.bool _))) (aN rfl rfl ah ?_))))))))))
 refine aN rfl rfl ah ?_
 refine aN rfl rfl ah ?_
 refine aN rfl rfl ah ?_
 refine ax rfl rfl (az _ _ _ rfl (rfl:_=AV.v (.bool _))) (aj (az _ _ _ rfl (rfl:_=AV.v (.bool _))) (ai (aS rfl rfl (aO (aq (aq ?_))))))
 refine aQ (σ':=aA 80 [(1,_),(3,_),(4,_)] [((1,0),_)] [] []) kp ?_
 refine an (bu rfl rfl rfl (cw rfl rfl rfl (fJ rfl rfl rfl (cE rfl (aN rfl rfl ah ?_)))))
 refine aN rfl rfl ah ?_
 refine aN rfl rfl ah ?_
 refine aj (az _ _ _ rfl (rfl:_=AV.v (.bool _))) (ai (aS rfl rfl (aO (aT fun K14 hK14=> ?_))))
 refine am (bc rfl (ai (au ?_)))
 refine bv (α:=Nat) (fun j=> j≤L.length∧ ∀ q,q < j→t q=1) 80 [(1,_),(3,_),(4,_)] [((1,0),_)] (fun j=> [(5, .v (.int .i64 (j:Int)))]) (fun j=> []) [] [] (fun j=> L.length - j) 0 ?_ (by
  refine Le.mkJ [] [] rfl ?_ ?_ trivial trivial ?_
  ·exact ⟨(iP rfl),(iV rfl),(iV rfl),(cd ag),trivial⟩
  ·exact ⟨(cH rfl rfl rfl),trivial⟩
  ·kernel_rfl) ?_
 ·exact ⟨Nat.zero_le _,fun q hq=> by omega⟩
 intro j hj
 obtain ⟨hj,hall⟩:=hj
 have htj:=ht j
 refine aT fun K16 hK16=> ?_
 refine am (aV rfl (bu rfl rfl rfl (eY rfl rfl rfl (aj (bD _ aa rfl) (aj (bo _ _ rfl rfl rfl) (ai (aP rfl (fun hc67=> ?_) (fun hc67=> ?_))))))))
 ·skip
  refine bA (hK16 _ ?_)
  clear hK16;try clear K16
  refine aq (au (am (bu rfl rfl rfl (eY rfl rfl rfl (aV rfl (aj (bl _ _ aa rfl rfl _ rfl ab (by (simp only [aU,bj,bh,bq,bp,bE,bs];omega)) ag) ?_))))))
  refine aj (bZ _ aa rfl (by exact cp _ _ ab) rfl) ?_
  refine aj (aC aa al (h j ab) rfl rfl) ?_
  refine bc rfl (ai (am (aV rfl (aV rfl (aj (bY _ _ rfl rfl rfl) (ai (aP rfl (fun hc78=> ?_) (fun hc78=> ?_))))))))
  ·skip
   have hr:=hr0 j ab ab
   refine aq ?_
   refine aQ (σ':=aA 80 [] [] [] []) kp ?_
   refine an (bc rfl (ai (aE (aW (.inr rfl) rfl (.tmp (rfl:_=AV.v (.int _ _))) (Le.out [] [] (cd ?_) rfl rfl rfl trivial trivial)))))
   rw [hr];rfl
  ·skip
   have hall1: ∀ q,q < j+1→t q=1:=fun q hq=> by
    by_cases h:q < j
    ·exact hall q h
    ·obtain rfl:q=j:=by omega
     omega
   refine cf ?_
   refine aQ (σ':=aA 80 [(1,_),(3,_),(4,_),(5,_)] [((1,0),_)] [] []) kp ?_
   refine an (aV rfl (aj (aZ _ _ rfl rfl (bJ ab)) ?_))
   refine bc rfl (aI (⟨j+1,?_,?_,?_⟩))
   ·exact ⟨by omega,hall1⟩
   ·skip
    refine Le.mkJ [] [] rfl ?_ ?_ trivial trivial ?_
    ·exact ⟨(iP rfl),(iV rfl),(iV rfl),(cd ag),trivial⟩
    ·exact ⟨(cH rfl rfl rfl),trivial⟩
    ·kernel_rfl
   ·omega
 ·skip
  have hr:=hr1 fun q hq=> hall q ab
  refine bI (id (hK14 _ ?_))
  clear hK14;try clear K14
  refine am (aV rfl (bc rfl (ai (aE (aW (.inr rfl) rfl (.tmp (rfl:_=AV.v (.int _ _))) (Le.out [] [] (cd ?_) rfl rfl rfl trivial trivial))))))
  rw [hr];rfl
theorem BY (L:List Nd) (hL:L.length≤3) (t:Nat→Nat) (ht: ∀ j,t j≤2) (h: ∀ j,j < L.length→Spec Tryz.prog 203 (bf [me (iJ L j)] []) (aL (.v (.int .i64 (t j:Int))) [])) (r:Nat) (hr1:(∀ j,j < L.length→t j=2)→r=2) (hr0: ∀ j,j < L.length→t j≠2→r=0):
  Spec Tryz.prog 203 (bf [.agg [.v (.int .i64 17), .v (.int .i64 0), .v (bt [33]), .sl L.length (ko L)]] []) (aL (.v (.int .i64 (r:Int))) []):=by
 refine Spec.ofN Tryz.func203 rfl Tryz.ntmps203 rfl ?_
 refine am (aj (bg (1,0) _ rfl rfl) (bc rfl (ai (aq (am (bu rfl rfl rfl (cw rfl rfl rfl (fJ rfl rfl rfl (cE rfl (ax rfl rfl (aD _ aa rfl rfl rfl) ?_))))))))))
 refine ax rfl rfl (aG _ aa rfl rfl (rfl:_=some (AV.v (.int _ _)))) (ax rfl rfl (bH (r:=false) _ _ rfl rfl rfl) (aj (az _ _ _ rfl (rfl:_=AV.v (.bool _))) (cE rfl (ax rfl rfl (aD _ aa rfl rfl rfl) (ax rfl rfl (aG _ aa rfl rfl (rfl:_=some (AV.v (.int _ _)))) (ax rfl rfl (bH (r:=false) _ _ rfl rfl rfl) (aj (az _ _ _ rfl (rfl:_=AV.v (.bool _))) (ai (aS rfl rfl (aO ?_))))))))))
 refine aq (aq ?_)
 refine aQ (σ':=aA 80 [(1,_)] [((1,0),_)] [] []) kp ?_
 refine an (bu rfl rfl rfl (cw rfl rfl rfl (fJ rfl rfl rfl (ai (aS rfl rfl (aO (aq (am (bu rfl rfl rfl (cw rfl rfl rfl ?_))))))))))
 refine aj (bY (r:=true) _ _ rfl rfl rfl) (cE rfl (ax rfl rfl (aD _ aa rfl rfl rfl) (ax rfl rfl (aG _ aa rfl rfl (rfl:_=some (AV.v (.int _ _)))) (ax rfl rfl (bY (r:=false) _ _ rfl rfl rfl) (aj (az _ _ _ rfl (rfl:_=AV.v (.bool _))) (cE rfl (aN rfl rfl ah ?_)))))))
 refine aN rfl rfl ah ?_
 refine aN rfl rfl ah ?_
 refine aj (az _ _ _ rfl (rfl:_=AV.v (.bool _))) (ai (aS rfl rfl (aO (aq ?_))))
 refine aQ (σ':=aA 80 [(1,_)] [((1,0),_)] [] []) kp ?_
 refine an (bc rfl (ai (am (bc rfl (ai (aq (am (bu rfl rfl rfl (cw rfl rfl rfl (jv rfl rfl rfl ?_))))))))))
 refine cE rfl (ax rfl rfl (aD _ aa rfl rfl rfl) (ax rfl rfl (aG _ aa rfl rfl (rfl:_=some (AV.v (.string _)))) (ax rfl rfl (aK (r:=true) _ _ Tryz.underlying9 rfl rfl rfl) (aj (az _ _ _ rfl (rfl:_=AV.v (.bool _))) (cE rfl (aN rfl rfl ah ?_))))))
 refine aN rfl rfl ah ?_
 refine aN rfl rfl ah ?_
 refine aN rfl rfl ah ?_
 refine lQ rfl rfl (lQ rfl rfl (lQ rfl rfl (lQ rfl rfl (aN rfl rfl ah ?_))))
 refine aj (az _ _ _ rfl (rfl:_=AV.v (.bool _))) (ai (bR rfl rfl (aq ?_)))
 refine aQ (σ':=aA 80 [(1,_)] [((1,0),_)] [] []) kp ?_
 refine an (bc rfl (ai (an (bc rfl (ai (aq (am (bu rfl rfl rfl (cw rfl rfl rfl (fJ rfl rfl rfl ?_))))))))))
 refine cE rfl (aN rfl rfl ah ?_)
 refine aN rfl rfl ah ?_
 refine aN rfl rfl ah ?_
 refine aj (az _ _ _ rfl (rfl:_=AV.v (.bool _))) (ai (aS rfl rfl (aO (aT fun K15 hK15=> ?_))))
 refine am (bc rfl (ai (au ?_)))
 refine bv (α:=Nat) (fun j=> j≤L.length∧ ∀ q,q < j→t q=2) 80 [(1,_),(3,_),(4,_)] [((1,0),_)] (fun j=> [(5, .v (.int .i64 (j:Int)))]) (fun j=> []) [] [] (fun j=> L.length - j) 0 ?_ (by
  refine Le.mkJ [] [] rfl ?_ ?_ trivial trivial ?_
  ·exact ⟨(iP rfl),(iV rfl),(iV rfl),(cd ag),trivial⟩
  ·exact ⟨(cH rfl rfl rfl),trivial⟩
  ·kernel_rfl) ?_
 ·exact ⟨Nat.zero_le _,fun q hq=> by omega⟩
 intro j hj
 obtain ⟨hj,hall⟩:=hj
 have htj:=ht j
 refine aT fun K17 hK17=> ?_
 refine am (aV rfl (bu rfl rfl rfl (eY rfl rfl rfl (aj (bD _ aa rfl) (aj (bo _ _ rfl rfl rfl) (ai (aP rfl (fun hc67=> ?_) (fun hc67=> ?_))))))))
 ·skip
  refine bA (hK17 _ ?_)
  clear hK17;try clear K17
  refine aq (au (am (bu rfl rfl rfl (eY rfl rfl rfl (aV rfl (aj (bl _ _ aa rfl rfl _ rfl ab (by (simp only [aU,bj,bh,bq,bp,bE,bs];omega)) ag) ?_))))))
  refine aj (bZ _ aa rfl (by exact cp _ _ ab) rfl) ?_
  refine aj (aC aa al (h j ab) rfl rfl) ?_
  refine bc rfl (ai (am (aV rfl (aV rfl (aj (bY _ _ rfl rfl rfl) (ai (aP rfl (fun hc78=> ?_) (fun hc78=> ?_))))))))
  ·skip
   have hr:=hr0 j ab ab
   refine aq ?_
   refine aQ (σ':=aA 80 [] [] [] []) kp ?_
   refine an (bc rfl (ai (aE (aW (.inr rfl) rfl (.tmp (rfl:_=AV.v (.int _ _))) (Le.out [] [] (cd ?_) rfl rfl rfl trivial trivial)))))
   rw [hr];rfl
  ·skip
   have hall1: ∀ q,q < j+1→t q=2:=fun q hq=> by
    by_cases h:q < j
    ·exact hall q h
    ·obtain rfl:q=j:=by omega
     omega
   refine cf ?_
   refine aQ (σ':=aA 80 [(1,_),(3,_),(4,_),(5,_)] [((1,0),_)] [] []) kp ?_
   refine an (aV rfl (aj (aZ _ _ rfl rfl (bJ ab)) ?_))
   refine bc rfl (aI (⟨j+1,?_,?_,?_⟩))
   ·exact ⟨by omega,hall1⟩
   ·skip
    refine Le.mkJ [] [] rfl ?_ ?_ trivial trivial ?_
    ·exact ⟨(iP rfl),(iV rfl),(iV rfl),(cd ag),trivial⟩
    ·exact ⟨(cH rfl rfl rfl),trivial⟩
    ·kernel_rfl
   ·omega
 ·skip
  have hr:=hr1 fun q hq=> hall q ab
  refine bI (id (hK15 _ ?_))
  clear hK15;try clear K15
  refine am (aV rfl (bc rfl (ai (aE (aW (.inr rfl) rfl (.tmp (rfl:_=AV.v (.int _ _))) (Le.out [] [] (cd ?_) rfl rfl rfl trivial trivial))))))
  rw [hr];rfl
theorem qn (s:Tx) (hs1:s∈[[38,38],[124,124]]) (hs2:s∉tJ) (L:List Nd) (hL:L.length≤3) (t:Nat→Nat) (ht: ∀ j,t j≤2) (h: ∀ j,j < L.length→Spec Tryz.prog 203 (bf [me (iJ L j)] []) (aL (.v (.int .i64 (t j:Int))) [])) (r:Nat) (hr1:(∀ j,j < L.length→t j=2)→r=2) (hr0: ∀ j,j < L.length→t j≠2→r=0):
  Spec Tryz.prog 203 (bf [.agg [.v (.int .i64 18), .v (.int .i64 0), .v (bt s), .sl L.length (ko L)]] []) (aL (.v (.int .i64 (r:Int))) []):=by
 refine Spec.ofN Tryz.func203 rfl Tryz.ntmps203 rfl ?_
 refine am (aj (bg (1,0) _ rfl rfl) (bc rfl (ai (aq (am (bu rfl rfl rfl (cw rfl rfl rfl (fJ rfl rfl rfl (cE rfl (ax rfl rfl (aD _ aa rfl rfl rfl) ?_))))))))))
 refine ax rfl rfl (aG _ aa rfl rfl (rfl:_=some (AV.v (.int _ _)))) (ax rfl rfl (bH (r:=false) _ _ rfl rfl rfl) (aj (az _ _ _ rfl (rfl:_=AV.v (.bool _))) (cE rfl (ax rfl rfl (aD _ aa rfl rfl rfl) (ax rfl rfl (aG _ aa rfl rfl (rfl:_=some (AV.v (.int _ _)))) (ax rfl rfl (bH (r:=false) _ _ rfl rfl rfl) (aj (az _ _ _ rfl (rfl:_=AV.v (.bool _))) (ai (aS rfl rfl (aO ?_))))))))))
 refine aq (aq ?_)
 refine aQ (σ':=aA 80 [(1,_)] [((1,0),_)] [] []) kp ?_
 refine an (bu rfl rfl rfl (cw rfl rfl rfl (fJ rfl rfl rfl (ai (aS rfl rfl (aO (aq (am (bu rfl rfl rfl (cw rfl rfl rfl ?_))))))))))
 refine aj (bY (r:=true) _ _ rfl rfl rfl) (cE rfl (ax rfl rfl (aD _ aa rfl rfl rfl) (ax rfl rfl (aG _ aa rfl rfl (rfl:_=some (AV.v (.int _ _)))) (ax rfl rfl (bY (r:=true) _ _ rfl rfl rfl) (aj (az _ _ _ rfl (rfl:_=AV.v (.bool _))) (cE rfl (ax rfl rfl (aD _ aa rfl rfl rfl) (ax rfl rfl (aG _ aa rfl rfl (rfl:_=some (AV.v (.int _ _)))) (ax rfl rfl (bY (r:=false) _ _ rfl rfl rfl) (aj (az _ _ _ rfl (rfl:_=AV.v (.bool _))) ?_))))))))))
 refine ai (aS rfl rfl (aO (aq ?_)))
 refine aQ (σ':=aA 80 [(1,_)] [((1,0),_)] [] []) kp ?_
 refine an (bc rfl (ai (am (bc rfl (ai (aq (am (bu rfl rfl rfl (cw rfl rfl rfl (fJ rfl rfl rfl ?_))))))))))
 refine cE rfl (aN rfl rfl ah ?_)
 refine aN rfl rfl ah ?_
 refine aN rfl rfl ah ?_
 refine aj (az _ _ _ rfl (rfl:_=AV.v (.bool _))) (cE rfl (ax rfl rfl (aD _ aa rfl rfl rfl) (ax rfl rfl (aG _ aa rfl rfl (rfl:_=some (AV.v (.int _ _)))) (ax rfl rfl (bH (r:=true) _ _ rfl rfl rfl) (ax rfl rfl (aH _ (rfl:_=AV.v (.bool _))) (ax rfl rfl (bi _ _ aa rfl ag (by (simp <;> rfl)) ah rfl) ?_))))))
 refine ax rfl rfl (aD _ aa rfl rfl rfl) (ax rfl rfl (aG _ aa rfl rfl (rfl:_=some (AV.v (.string _)))) (ax rfl rfl (aC aa al (eW [[38,38],[124,124]] 2 rfl ab s) rfl rfl) ?_))
 refine ax rfl rfl (az _ _ _ rfl (rfl:_=AV.v (.bool _))) (aj (az _ _ _ rfl (rfl:_=AV.v (.bool _))) (ai (bR rfl (decide_eq_true hs1) ?_)))
 refine aq ?_
 refine aQ (σ':=aA 80 [(1,_)] [((1,0),_)] [] []) kp ?_
 refine an (bc rfl (ai (an (bc rfl (ai (aq (am (bu rfl rfl rfl (cw rfl rfl rfl (jv rfl rfl rfl ?_))))))))))
 refine cE rfl (ax rfl rfl (aD _ aa rfl rfl rfl) (ax rfl rfl (aG _ aa rfl rfl (rfl:_=some (AV.v (.string _)))) (ax rfl rfl (aC aa al (kr s) rfl rfl) ?_)))
 refine aj (az _ _ _ rfl (rfl:_=AV.v (.bool _))) (ai (aS rfl (decide_eq_false hs2) ?_))
 refine aO (aT fun K15 hK15=> ?_)
 refine am (bc rfl (ai (au ?_)))
 refine bv (α:=Nat) (fun j=> j≤L.length∧ ∀ q,q < j→t q=2) 80 [(1,_),(3,_),(4,_)] [((1,0),_)] (fun j=> [(5, .v (.int .i64 (j:Int)))]) (fun j=> []) [] [] (fun j=> L.length - j) 0 ?_ (by
  refine Le.mkJ [] [] rfl ?_ ?_ trivial trivial ?_
  ·exact ⟨(iP rfl),(iV rfl),(iV rfl),(cd ag),trivial⟩
  ·exact ⟨(cH rfl rfl rfl),trivial⟩
  ·kernel_rfl) ?_
 ·exact ⟨Nat.zero_le _,fun q hq=> by omega⟩
 intro j hj
 obtain ⟨hj,hall⟩:=hj
 have htj:=ht j
 refine aT fun K17 hK17=> ?_
 refine am (aV rfl (bu rfl rfl rfl (eY rfl rfl rfl (aj (bD _ aa rfl) (aj (bo _ _ rfl rfl rfl) (ai (aP rfl (fun hc67=> ?_) (fun hc67=> ?_))))))))
 ·skip
  refine bA (hK17 _ ?_)
  clear hK17;try clear K17
  refine aq (au (am (bu rfl rfl rfl (eY rfl rfl rfl (aV rfl (aj (bl _ _ aa rfl rfl _ rfl ab (by (simp only [aU,bj,bh,bq,bp,bE,bs];omega)) ag) ?_))))))
  refine aj (bZ _ aa rfl (by exact cp _ _ ab) rfl) ?_
  refine aj (aC aa al (h j ab) rfl rfl) ?_
  refine bc rfl (ai (am (aV rfl (aV rfl (aj (bY _ _ rfl rfl rfl) (ai (aP rfl (fun hc78=> ?_) (fun hc78=> ?_))))))))
  ·skip
   have hr:=hr0 j ab ab
   refine aq ?_
   refine aQ (σ':=aA 80 [] [] [] []) kp ?_
   refine an (bc rfl (ai (aE (aW (.inr rfl) rfl (.tmp (rfl:_=AV.v (.int _ _))) (Le.out [] [] (cd ?_) rfl rfl rfl trivial trivial)))))
   rw [hr];rfl
  ·skip
   have hall1: ∀ q,q < j+1→t q=2:=fun q hq=> by
    by_cases h:q < j
    ·exact hall q h
    ·obtain rfl:q=j:=by omega
     omega
   refine cf ?_
   refine aQ (σ':=aA 80 [(1,_),(3,_),(4,_),(5,_)] [((1,0),_)] [] []) kp ?_
   refine an (aV rfl (aj (aZ _ _ rfl rfl (bJ ab)) ?_))
   refine bc rfl (aI (⟨j+1,?_,?_,?_⟩))
   ·exact ⟨by omega,hall1⟩
   ·skip
    refine Le.mkJ [] [] rfl ?_ ?_ trivial trivial ?_
    ·exact ⟨(iP rfl),(iV rfl),(iV rfl),(cd ag),trivial⟩
    ·exact ⟨(cH rfl rfl rfl),trivial⟩
    ·kernel_rfl
   ·omega
 ·skip
  have hr:=hr1 fun q hq=> hall q ab
  refine bI (id (hK15 _ ?_))
  clear hK15;try clear K15
  refine am (aV rfl (bc rfl (ai (aE (aW (.inr rfl) rfl (.tmp (rfl:_=AV.v (.int _ _))) (Le.out [] [] (cd ?_) rfl rfl rfl trivial trivial))))))
  rw [hr];rfl
theorem Be (s:Tx) (hs1:s∉[[38,38],[124,124]]) (hs2:s∈tJ) (L:List Nd) (hL:L.length≤3) (t:Nat→Nat) (ht: ∀ j,t j≤2) (h: ∀ j,j < L.length→Spec Tryz.prog 203 (bf [me (iJ L j)] []) (aL (.v (.int .i64 (t j:Int))) [])) (r:Nat) (hr1:(∀ j,j < L.length→t j=1)→r=2) (hr0: ∀ j,j < L.length→t j≠1→r=0):
  Spec Tryz.prog 203 (bf [.agg [.v (.int .i64 18), .v (.int .i64 0), .v (bt s), .sl L.length (ko L)]] []) (aL (.v (.int .i64 (r:Int))) []):=by
 refine Spec.ofN Tryz.func203 rfl Tryz.ntmps203 rfl ?_
 refine am (aj (bg (1,0) _ rfl rfl) (bc rfl (ai (aq (am (bu rfl rfl rfl (cw rfl rfl rfl (fJ rfl rfl rfl (cE rfl (ax rfl rfl (aD _ aa rfl rfl rfl) ?_))))))))))
 refine ax rfl rfl (aG _ aa rfl rfl (rfl:_=some (AV.v (.int _ _)))) (ax rfl rfl (bH (r:=false) _ _ rfl rfl rfl) (aj (az _ _ _ rfl (rfl:_=AV.v (.bool _))) (cE rfl (ax rfl rfl (aD _ aa rfl rfl rfl) (ax rfl rfl (aG _ aa rfl rfl (rfl:_=some (AV.v (.int _ _)))) (ax rfl rfl (bH (r:=false) _ _ rfl rfl rfl) (aj (az _ _ _ rfl (rfl:_=AV.v (.bool _))) (ai (aS rfl rfl (aO ?_))))))))))
 refine aq (aq ?_)
 refine aQ (σ':=aA 80 [(1,_)] [((1,0),_)] [] []) kp ?_
 refine an (bu rfl rfl rfl (cw rfl rfl rfl (fJ rfl rfl rfl (ai (aS rfl rfl (aO (aq (am (bu rfl rfl rfl (cw rfl rfl rfl ?_))))))))))
 refine aj (bY (r:=true) _ _ rfl rfl rfl) (cE rfl (ax rfl rfl (aD _ aa rfl rfl rfl) (ax rfl rfl (aG _ aa rfl rfl (rfl:_=some (AV.v (.int _ _)))) (ax rfl rfl (bY (r:=true) _ _ rfl rfl rfl) (aj (az _ _ _ rfl (rfl:_=AV.v (.bool _))) (cE rfl (ax rfl rfl (aD _ aa rfl rfl rfl) (ax rfl rfl (aG _ aa rfl rfl (rfl:_=some (AV.v (.int _ _)))) (ax rfl rfl (bY (r:=false) _ _ rfl rfl rfl) (aj (az _ _ _ rfl (rfl:_=AV.v (.bool _))) ?_))))))))))
 refine ai (aS rfl rfl (aO (aq ?_)))
 refine aQ (σ':=aA 80 [(1,_)] [((1,0),_)] [] []) kp ?_
 refine an (bc rfl (ai (am (bc rfl (ai (aq (am (bu rfl rfl rfl (cw rfl rfl rfl (fJ rfl rfl rfl ?_))))))))))
 refine cE rfl (aN rfl rfl ah ?_)
 refine aN rfl rfl ah ?_
 refine aN rfl rfl ah ?_
 refine aj (az _ _ _ rfl (rfl:_=AV.v (.bool _))) (cE rfl (ax rfl rfl (aD _ aa rfl rfl rfl) (ax rfl rfl (aG _ aa rfl rfl (rfl:_=some (AV.v (.int _ _)))) (ax rfl rfl (bH (r:=true) _ _ rfl rfl rfl) (ax rfl rfl (aH _ (rfl:_=AV.v (.bool _))) (ax rfl rfl (bi _ _ aa rfl ag (by (simp <;> rfl)) ah rfl) ?_))))))
 refine ax rfl rfl (aD _ aa rfl rfl rfl) (ax rfl rfl (aG _ aa rfl rfl (rfl:_=some (AV.v (.string _)))) (ax rfl rfl (aC aa al (eW [[38,38],[124,124]] 2 rfl ab s) rfl rfl) ?_))
 refine ax rfl rfl (az _ _ _ rfl (rfl:_=AV.v (.bool _))) (aj (az _ _ _ rfl (rfl:_=AV.v (.bool _))) (ai (aS rfl (decide_eq_false hs1) ?_)))
 refine aO (aq (aq ?_))
 refine aQ (σ':=aA 80 [(1,_),(3,_),(4,_)] [((1,0),_)] [] []) kp ?_
 refine an (bu rfl rfl rfl (cw rfl rfl rfl (jv rfl rfl rfl (cE rfl (ax rfl rfl (aD _ aa rfl rfl rfl) (ax rfl rfl (aG _ aa rfl rfl (rfl:_=some (AV.v (.string _)))) (ax rfl rfl (aC aa al (kr s) rfl rfl) ?_)))))))
 refine aj (az _ _ _ rfl (rfl:_=AV.v (.bool _))) (ai (bR rfl (decide_eq_true hs2) ?_))
 refine an (bc rfl (ai (aT fun K14 hK14=> ?_)))
 refine am (bc rfl (ai (au ?_)))
 refine bv (α:=Nat) (fun j=> j≤L.length∧ ∀ q,q < j→t q=1) 80 [(1,_),(3,_),(4,_)] [((1,0),_)] (fun j=> [(5, .v (.int .i64 (j:Int)))]) (fun j=> []) [] [] (fun j=> L.length - j) 0 ?_ (by
  refine Le.mkJ [] [] rfl ?_ ?_ trivial trivial ?_
  ·exact ⟨(iP rfl),(iV rfl),(iV rfl),(cd ag),trivial⟩
  ·exact ⟨(cH rfl rfl rfl),trivial⟩
  ·kernel_rfl) ?_
 ·exact ⟨Nat.zero_le _,fun q hq=> by omega⟩
 intro j hj
 obtain ⟨hj,hall⟩:=hj
 have htj:=ht j
 refine aT fun K16 hK16=> ?_
 refine am (aV rfl (bu rfl rfl rfl (eY rfl rfl rfl (aj (bD _ aa rfl) (aj (bo _ _ rfl rfl rfl) (ai (aP rfl (fun hc67=> ?_) (fun hc67=> ?_))))))))
 ·skip
  refine bA (hK16 _ ?_)
  clear hK16;try clear K16
  refine aq (au (am (bu rfl rfl rfl (eY rfl rfl rfl (aV rfl (aj (bl _ _ aa rfl rfl _ rfl ab (by (simp only [aU,bj,bh,bq,bp,bE,bs];omega)) ag) ?_))))))
  refine aj (bZ _ aa rfl (by exact cp _ _ ab) rfl) ?_
  refine aj (aC aa al (h j ab) rfl rfl) ?_
  refine bc rfl (ai (am (aV rfl (aV rfl (aj (bY _ _ rfl rfl rfl) (ai (aP rfl (fun hc78=> ?_) (fun hc78=> ?_))))))))
  ·skip
   have hr:=hr0 j ab ab
   refine aq ?_
   refine aQ (σ':=aA 80 [] [] [] []) kp ?_
   refine an (bc rfl (ai (aE (aW (.inr rfl) rfl (.tmp (rfl:_=AV.v (.int _ _))) (Le.out [] [] (cd ?_) rfl rfl rfl trivial trivial)))))
   rw [hr];rfl
  ·skip
   have hall1: ∀ q,q < j+1→t q=1:=fun q hq=> by
    by_cases h:q < j
    ·exact hall q h
    ·obtain rfl:q=j:=by omega
     omega
   refine cf ?_
   refine aQ (σ':=aA 80 [(1,_),(3,_),(4,_),(5,_)] [((1,0),_)] [] []) kp ?_
   refine an (aV rfl (aj (aZ _ _ rfl rfl (bJ ab)) ?_))
   refine bc rfl (aI (⟨j+1,?_,?_,?_⟩))
   ·exact ⟨by omega,hall1⟩
   ·skip
    refine Le.mkJ [] [] rfl ?_ ?_ trivial trivial ?_
    ·exact ⟨(iP rfl),(iV rfl),(iV rfl),(cd ag),trivial⟩
    ·exact ⟨(cH rfl rfl rfl),trivial⟩
    ·kernel_rfl
   ·omega
 ·skip
  have hr:=hr1 fun q hq=> hall q ab
  refine bI (id (hK14 _ ?_))
  clear hK14;try clear K14
  refine am (aV rfl (bc rfl (ai (aE (aW (.inr rfl) rfl (.tmp (rfl:_=AV.v (.int _ _))) (Le.out [] [] (cd ?_) rfl rfl rfl trivial trivial))))))
  rw [hr];rfl
theorem wC (s:Tx) (hs1:s∉[[38,38],[124,124]]) (hs2:s∉tJ) (L:List Nd) (hL:L.length≤3) (t:Nat→Nat) (ht: ∀ j,t j≤2) (h: ∀ j,j < L.length→Spec Tryz.prog 203 (bf [me (iJ L j)] []) (aL (.v (.int .i64 (t j:Int))) [])) (r:Nat) (hr1:(∀ j,j < L.length→t j=1)→r=1) (hr0: ∀ j,j < L.length→t j≠1→r=0):
  Spec Tryz.prog 203 (bf [.agg [.v (.int .i64 18), .v (.int .i64 0), .v (bt s), .sl L.length (ko L)]] []) (aL (.v (.int .i64 (r:Int))) []):=by
 refine Spec.ofN Tryz.func203 rfl Tryz.ntmps203 rfl ?_
 refine am (aj (bg (1,0) _ rfl rfl) (bc rfl (ai (aq (am (bu rfl rfl rfl (cw rfl rfl rfl (fJ rfl rfl rfl (cE rfl (ax rfl rfl (aD _ aa rfl rfl rfl) ?_))))))))))
 refine ax rfl rfl (aG _ aa rfl rfl (rfl:_=some (AV.v (.int _ _)))) (ax rfl rfl (bH (r:=false) _ _ rfl rfl rfl) (aj (az _ _ _ rfl (rfl:_=AV.v (.bool _))) (cE rfl (ax rfl rfl (aD _ aa rfl rfl rfl) (ax rfl rfl (aG _ aa rfl rfl (rfl:_=some (AV.v (.int _ _)))) (ax rfl rfl (bH (r:=false) _ _ rfl rfl rfl) (aj (az _ _ _ rfl (rfl:_=AV.v (.bool _))) (ai (aS rfl rfl (aO ?_))))))))))
 refine aq (aq ?_)
 refine aQ (σ':=aA 80 [(1,_)] [((1,0),_)] [] []) kp ?_
 refine an (bu rfl rfl rfl (cw rfl rfl rfl (fJ rfl rfl rfl (ai (aS rfl rfl (aO (aq (am (bu rfl rfl rfl (cw rfl rfl rfl ?_))))))))))
 refine aj (bY (r:=true) _ _ rfl rfl rfl) (cE rfl (ax rfl rfl (aD _ aa rfl rfl rfl) (ax rfl rfl (aG _ aa rfl rfl (rfl:_=some (AV.v (.int _ _)))) (ax rfl rfl (bY (r:=true) _ _ rfl rfl rfl) (aj (az _ _ _ rfl (rfl:_=AV.v (.bool _))) (cE rfl (ax rfl rfl (aD _ aa rfl rfl rfl) (ax rfl rfl (aG _ aa rfl rfl (rfl:_=some (AV.v (.int _ _)))) (ax rfl rfl (bY (r:=false) _ _ rfl rfl rfl) (aj (az _ _ _ rfl (rfl:_=AV.v (.bool _))) ?_))))))))))
 refine ai (aS rfl rfl (aO (aq ?_)))
 refine aQ (σ':=aA 80 [(1,_)] [((1,0),_)] [] []) kp ?_
 refine an (bc rfl (ai (am (bc rfl (ai (aq (am (bu rfl rfl rfl (cw rfl rfl rfl (fJ rfl rfl rfl ?_))))))))))
 refine cE rfl (aN rfl rfl ah ?_)
 refine aN rfl rfl ah ?_
 refine aN rfl rfl ah ?_
 refine aj (az _ _ _ rfl (rfl:_=AV.v (.bool _))) (cE rfl (ax rfl rfl (aD _ aa rfl rfl rfl) (ax rfl rfl (aG _ aa rfl rfl (rfl:_=some (AV.v (.int _ _)))) (ax rfl rfl (bH (r:=true) _ _ rfl rfl rfl) (ax rfl rfl (aH _ (rfl:_=AV.v (.bool _))) (ax rfl rfl (bi _ _ aa rfl ag (by (simp <;> rfl)) ah rfl) ?_))))))
 refine ax rfl rfl (aD _ aa rfl rfl rfl) (ax rfl rfl (aG _ aa rfl rfl (rfl:_=some (AV.v (.string _)))) (ax rfl rfl (aC aa al (eW [[38,38],[124,124]] 2 rfl ab s) rfl rfl) ?_))
 refine ax rfl rfl (az _ _ _ rfl (rfl:_=AV.v (.bool _))) (aj (az _ _ _ rfl (rfl:_=AV.v (.bool _))) (ai (aS rfl (decide_eq_false hs1) ?_)))
 refine aO (aq (aq ?_))
 refine aQ (σ':=aA 80 [(1,_),(3,_),(4,_)] [((1,0),_)] [] []) kp ?_
 refine an (bu rfl rfl rfl (cw rfl rfl rfl (jv rfl rfl rfl (cE rfl (ax rfl rfl (aD _ aa rfl rfl rfl) (ax rfl rfl (aG _ aa rfl rfl (rfl:_=some (AV.v (.string _)))) (ax rfl rfl (aC aa al (kr s) rfl rfl) ?_)))))))
 refine aj (az _ _ _ rfl (rfl:_=AV.v (.bool _))) (ai (aS rfl (decide_eq_false hs2) ?_))
 refine aO (aT fun K14 hK14=> ?_)
 refine am (bc rfl (ai (au ?_)))
 refine bv (α:=Nat) (fun j=> j≤L.length∧ ∀ q,q < j→t q=1) 80 [(1,_),(3,_),(4,_)] [((1,0),_)] (fun j=> [(5, .v (.int .i64 (j:Int)))]) (fun j=> []) [] [] (fun j=> L.length - j) 0 ?_ (by
  refine Le.mkJ [] [] rfl ?_ ?_ trivial trivial ?_
  ·exact ⟨(iP rfl),(iV rfl),(iV rfl),(cd ag),trivial⟩
  ·exact ⟨(cH rfl rfl rfl),trivial⟩
  ·kernel_rfl) ?_
 ·exact ⟨Nat.zero_le _,fun q hq=> by omega⟩
 intro j hj
 obtain ⟨hj,hall⟩:=hj
 have htj:=ht j
 refine aT fun K16 hK16=> ?_
 refine am (aV rfl (bu rfl rfl rfl (eY rfl rfl rfl (aj (bD _ aa rfl) (aj (bo _ _ rfl rfl rfl) (ai (aP rfl (fun hc67=> ?_) (fun hc67=> ?_))))))))
 ·skip
  refine bA (hK16 _ ?_)
  clear hK16;try clear K16
  refine aq (au (am (bu rfl rfl rfl (eY rfl rfl rfl (aV rfl (aj (bl _ _ aa rfl rfl _ rfl ab (by (simp only [aU,bj,bh,bq,bp,bE,bs];omega)) ag) ?_))))))
  refine aj (bZ _ aa rfl (by exact cp _ _ ab) rfl) ?_
  refine aj (aC aa al (h j ab) rfl rfl) ?_
  refine bc rfl (ai (am (aV rfl (aV rfl (aj (bY _ _ rfl rfl rfl) (ai (aP rfl (fun hc78=> ?_) (fun hc78=> ?_))))))))
  ·skip
   have hr:=hr0 j ab ab
   refine aq ?_
   refine aQ (σ':=aA 80 [] [] [] []) kp ?_
   refine an (bc rfl (ai (aE (aW (.inr rfl) rfl (.tmp (rfl:_=AV.v (.int _ _))) (Le.out [] [] (cd ?_) rfl rfl rfl trivial trivial)))))
   rw [hr];rfl
  ·skip
   have hall1: ∀ q,q < j+1→t q=1:=fun q hq=> by
    by_cases h:q < j
    ·exact hall q h
    ·obtain rfl:q=j:=by omega
     omega
   refine cf ?_
   refine aQ (σ':=aA 80 [(1,_),(3,_),(4,_),(5,_)] [((1,0),_)] [] []) kp ?_
   refine an (aV rfl (aj (aZ _ _ rfl rfl (bJ ab)) ?_))
   refine bc rfl (aI (⟨j+1,?_,?_,?_⟩))
   ·exact ⟨by omega,hall1⟩
   ·skip
    refine Le.mkJ [] [] rfl ?_ ?_ trivial trivial ?_
    ·exact ⟨(iP rfl),(iV rfl),(iV rfl),(cd ag),trivial⟩
    ·exact ⟨(cH rfl rfl rfl),trivial⟩
    ·kernel_rfl
   ·omega
 ·skip
  have hr:=hr1 fun q hq=> hall q ab
  refine bI (id (hK14 _ ?_))
  clear hK14;try clear K14
  refine am (aV rfl (bc rfl (ai (aE (aW (.inr rfl) rfl (.tmp (rfl:_=AV.v (.int _ _))) (Le.out [] [] (cd ?_) rfl rfl rfl trivial trivial))))))
  rw [hr];rfl

theorem mq: ∀ e,ei e≤2
 | .int _=> by simp [ei] | .bool _=> by simp [ei] | .var _=> by simp [ei] | .name _=> by simp [ei]
 | .draw e=> by simp only [ei];split <;> omega
 | .neg e=> by simp only [ei];split <;> omega
 | .not e=> by simp only [ei];split <;> omega
 | .bin o a b=> by cases o <;> simp only [ei] <;> split <;> omega
 | .and a b=> by simp only [ei];split <;> omega
 | .or a b=> by simp only [ei];split <;> omega
def qO (a b:Ex) (j:Nat):Nat:=if j=0 then ei a else ei b
theorem my (a b:Ex) (j:Nat):qO a b j≤2:=by unfold qO;split <;> exact mq _
theorem mt {a b:Ex} {op j:Nat} (hj:j < 2) (h:qO a b j≠op): ¬ (ei a=op∧ei b=op):=fun e=> by
 have:j=0∨j=1:=by omega
 rcases this with rfl | rfl
 ·exact h e.1
 ·exact h e.2
theorem qQ (o:Bo):o.txt∉([[38,38],[124,124]]:List Tx):=by cases o <;> decide
def Jk:Bo→Nat | .add=> 1 | .sub=> 1 | .mul=> 1 | .div=> 1 | _=> 2
abbrev rG (d:Nd) (t:Nat):Prop:=Spec Tryz.prog 203 (bf [me d] []) (aL (.v (.int .i64 (t:Int))) [])
theorem oW {d:Nd} {t:Nat} (h:rG d t): ∀ j,j < [d].length→rG (iJ [d] j) t:=fun j hj=> by
 have:j=0:=by simpa using hj
 subst this
 exact h
theorem nE {d e:Nd} {a b:Ex} (h1:rG d (ei a)) (h2:rG e (ei b)): ∀ j,j < [d,e].length→rG (iJ [d,e] j) (qO a b j):=fun j hj=> by
 have hj:j < 2:=hj
 have:j=0∨j=1:=by omega
 rcases this with rfl | rfl
 ·exact h1
 ·exact h2
theorem dE (nm:List Tx): ∀ e:Ex,rG (dK nm e) (ei e)
 | .int n=> AM n.toNat
 | .bool b=> xB (if b then 1 else 0)
 | .var i=> Bt (nm.getD i [])
 | .name k=> xA (bltT.getD k [])
 | .draw e=> yX [dK nm e] (by simp) (fun _=> ei e) (fun _=> mq e) (oW (dE nm e)) _ (fun h=> if_pos (h 0 (by simp))) (fun _ _ h=> if_neg h)
 | .neg e=> AL [dK nm e] (by simp) (fun _=> ei e) (fun _=> mq e) (oW (dE nm e)) _ (fun h=> if_pos (h 0 (by simp))) (fun _ _ h=> if_neg h)
 | .not e=> BY [dK nm e] (by simp) (fun _=> ei e) (fun _=> mq e) (oW (dE nm e)) _ (fun h=> if_pos (h 0 (by simp))) (fun _ _ h=> if_neg h)
 | .and a b=> qn [38,38] ah ah [dK nm a,dK nm b] (by simp) (qO a b) (my a b) (nE (dE nm a) (dE nm b)) _ (fun h=> if_pos ⟨h 0 (by simp),h 1 (by simp)⟩) (fun _ hj h=> if_neg (mt hj h))
 | .or a b=> qn [124,124] ah ah [dK nm a,dK nm b] (by simp) (qO a b) (my a b) (nE (dE nm a) (dE nm b)) _ (fun h=> if_pos ⟨h 0 (by simp),h 1 (by simp)⟩) (fun _ hj h=> if_neg (mt hj h))
 | .bin o a b=> by
  have hty:ei (.bin o a b)=if ei a=1∧ei b=1 then Jk o else 0:=by cases o <;> rfl
  have hk:=nE (dE nm a) (dE nm b)
  by_cases ho:o.txt∈tJ
  ·have h2:Jk o=2:=by cases o <;> first | rfl | (exact absurd ho ah)
   rw [h2] at hty
   exact Be o.txt (qQ o) ho [dK nm a,dK nm b] (by simp) (qO a b) (my a b) hk _ (fun h=> hty.trans (if_pos ⟨h 0 (by simp),h 1 (by simp)⟩)) (fun _ hj h=> hty.trans (if_neg (mt hj h)))
  ·have h2:Jk o=1:=by cases o <;> first | rfl | (exact absurd ah ho)
   rw [h2] at hty
   exact wC o.txt (qQ o) ho [dK nm a,dK nm b] (by simp) (qO a b) (my a b) hk _ (fun h=> hty.trans (if_pos ⟨h 0 (by simp),h 1 (by simp)⟩)) (fun _ hj h=> hty.trans (if_neg (mt hj h)))
theorem hQ (n:Int) (s:Tx) (L:List Nd) (h: ∀ j,j < L.length→Spec Tryz.prog 166 (bf [me (iJ L j)] []) (aL (.v (.bool true)) [])):
  Spec Tryz.prog 166 (bf [.agg [.v (.int .i64 11), .v (.int .i64 n), .v (bt s), .sl L.length (ko L)]] []) (aL (.v (.bool true)) []):=by
 refine Spec.ofN Tryz.func166 rfl Tryz.ntmps166 rfl ?_
 refine aq ?_
 refine jA 0 3 rfl rfl rfl fun hlen=> ?_
 unfold maxLen at hlen
 refine an (aj (bg (1,0) _ rfl rfl) (ce rfl (ai (aq (am (bu rfl rfl rfl (cw rfl rfl rfl (jv rfl rfl rfl (ai (bR rfl rfl ?_))))))))))
 refine aT fun K4 hK4=> ?_
 refine am (bc rfl (ai (au ?_)))
 refine bv (α:=Nat) (fun j=> j≤L.length) 73 [(1,_)] [((1,0),_)] (fun j=> [(3, .v (.int .i64 (j:Int)))]) (fun j=> []) [] [] (fun j=> L.length - j) 0 ?_ (by
  refine Le.mkJ [] [] rfl ?_ ?_ trivial trivial ?_
  ·exact ⟨(iP rfl),(cd ag),trivial⟩
  ·exact ⟨(cH rfl rfl rfl),trivial⟩
  ·kernel_rfl) ?_
 ·omega
 intro j hj
 refine aT fun K6 hK6=> ?_
 refine am (aV rfl (bu rfl rfl rfl (eY rfl rfl rfl (aj (bD _ aa rfl) (aj (bo _ _ rfl rfl rfl) (ai (aP rfl (fun hc17=> ?_) (fun hc17=> ?_))))))))
 ·skip
  refine bA (hK6 _ ?_)
  clear hK6;try clear K6
  refine aq (au (am (bu rfl rfl rfl (eY rfl rfl rfl (aV rfl (aj (bl _ _ aa rfl rfl _ rfl ab (by (simp only [aU,bj,bh,bq,bp,bE,bs];omega)) ag) ?_))))))
  refine aj (bZ _ aa rfl (by exact cp _ _ ab) rfl) ?_
  refine aj (aC aa al (h j ab) rfl rfl) ?_
  refine ce rfl (ai (am (cE rfl (aj (cL (r:=false) _ rfl rfl) (ai (aS rfl rfl (cf (an (aV rfl (aj (aZ _ _ rfl rfl (bJ ab)) ?_))))))))))
  refine bc rfl (aI (⟨j+1,?_,?_,?_⟩))
  ·omega
  ·skip
   refine Le.mkJ [] [] rfl ?_ ?_ trivial trivial ?_
   ·exact ⟨(iP rfl),(cd ag),trivial⟩
   ·exact ⟨(cH rfl rfl rfl),trivial⟩
   ·kernel_rfl
  ·omega
 ·skip
  refine bI (id (hK4 _ ?_))
  clear hK4;try clear K4
  refine am (ce rfl (ai (aE (aW (.inr rfl) rfl (.tmp (rfl:_=AV.v (.bool _))) (Le.out [] [] (gy ?_) rfl rfl rfl trivial trivial)))))
  rfl
theorem nZ (k:Nat) (hk:k=2∨k=3) (n:Int) (s:Tx) (L:List Nd) (hL:0 < L.length) (ht:Spec Tryz.prog 203 (bf [me (iJ L 0)] []) (aL (.v (.int .i64 2)) [])) (h: ∀ j,1≤j→j < L.length→Spec Tryz.prog 166 (bf [me (iJ L j)] []) (aL (.v (.bool true)) [])):
  Spec Tryz.prog 166 (bf [.agg [.v (.int .i64 (k:Int)), .v (.int .i64 n), .v (bt s), .sl L.length (ko L)]] []) (aL (.v (.bool true)) []):=by
 refine Spec.ofN Tryz.func166 rfl Tryz.ntmps166 rfl ?_
 refine aq ?_
 refine jA 0 3 rfl rfl rfl fun hlen=> ?_
 unfold maxLen at hlen
 refine an (aj (bg (1,0) _ rfl rfl) (ce rfl (ai (aq (am (bu rfl rfl rfl (cw rfl rfl rfl (fJ rfl rfl (beq_eq_false_iff_ne.2 ab) ?_))))))))
 refine ai (aS rfl rfl (aO (aq (am (bu rfl rfl rfl (cw rfl rfl rfl (aj (bH _ _ rfl rfl rfl) (cE rfl (dw (fun hg31=> ?_) (fun hg31=> ?_))))))))))
 ·skip
  refine aN rfl rfl ah ?_
  refine aN rfl rfl ah ?_
  refine aN rfl rfl ah ?_
  refine aj (az _ _ _ rfl (rfl:_=AV.v (.bool _))) (ai (bR rfl rfl (am (bu rfl rfl rfl (eY rfl rfl rfl (aj (bl _ _ aa rfl rfl 0 rfl hL (by simp only [bE];omega) rfl) ?_))))))
  refine aj (bZ _ aa rfl (by exact cp L 0 hL) rfl) ?_
  refine aj (aC aa al (ht) rfl rfl) ?_
  refine bc rfl (ai (aT fun K7 hK7=> ?_))
  refine aq ?_
  refine aQ (σ':=aA 73 [(1,_),(5,_)] [((1,0),_)] [] []) kp ?_
  refine an (bc rfl (ai (au ?_)))
  refine bv (α:=Nat) (fun j=> 1≤j∧j≤L.length) 73 [(1,_),(5,_)] [((1,0),_)] (fun j=> [(6, .v (.int .i64 (j:Int)))]) (fun j=> []) [] [] (fun j=> L.length - j) 1 ?_ (by
   refine Le.mkJ [] [] rfl ?_ ?_ trivial trivial ?_
   ·exact ⟨(iP rfl),(iV rfl),(cd ag),trivial⟩
   ·exact ⟨(cH rfl rfl rfl),trivial⟩
   ·kernel_rfl) ?_
  ·exact ⟨Nat.le_refl _,hL⟩
  intro j hj
  obtain ⟨hj1,hj2⟩:=hj
  refine aT fun K9 hK9=> ?_
  refine am (aV rfl (bu rfl rfl rfl (eY rfl rfl rfl (aj (bD _ aa rfl) (aj (bo _ _ rfl rfl rfl) (ai (aP rfl (fun hc45=> ?_) (fun hc45=> ?_))))))))
  ·skip
   refine bA (hK9 _ ?_)
   clear hK9;try clear K9
   refine aq (au (am (bu rfl rfl rfl (eY rfl rfl rfl (aV rfl (aj (bl _ _ aa rfl rfl _ rfl ab (by (simp only [aU,bj,bh,bq,bp,bE,bs];omega)) ag) ?_))))))
   refine aj (bZ _ aa rfl (by exact cp _ _ ab) rfl) ?_
   refine aj (aC aa al (h j hj1 ab) rfl rfl) ?_
   refine ce rfl (ai (am (cE rfl (aj (cL (r:=false) _ rfl rfl) (ai (aS rfl rfl (cf (an (aV rfl (aj (aZ _ _ rfl rfl (bJ ab)) ?_))))))))))
   refine bc rfl (aI (⟨j+1,?_,?_,?_⟩))
   ·omega
   ·skip
    refine Le.mkJ [] [] rfl ?_ ?_ trivial trivial ?_
    ·exact ⟨(iP rfl),(iV rfl),(cd ag),trivial⟩
    ·exact ⟨(cH rfl rfl rfl),trivial⟩
    ·kernel_rfl
   ·omega
  ·skip
   refine bI (id (hK7 _ ?_))
   clear hK7;try clear K7
   refine am (aV rfl (jv rfl rfl rfl (ce rfl (ai (aE (aW (.inr rfl) rfl (.tmp (rfl:_=AV.v (.bool _))) (Le.out [] [] (gy ?_) rfl rfl rfl trivial trivial)))))))
   rfl
 ·skip
  have hk3:k=3:=by omega
  refine ax rfl rfl (aD _ aa rfl rfl rfl) (ax rfl rfl (aG _ aa rfl rfl (rfl:_=some (AV.v (.int _ _)))) (ax rfl rfl (bH (r:=true) _ _ rfl rfl (beq_iff_eq.2 ab)) ?_))
  refine aj (az _ _ _ rfl (rfl:_=AV.v (.bool _))) (ai (bR rfl rfl (am (bu rfl rfl rfl (eY rfl rfl rfl (aj (bl _ _ aa rfl rfl 0 rfl hL (by simp only [bE];omega) rfl) ?_))))))
  refine aj (bZ _ aa rfl (by exact cp L 0 hL) rfl) ?_
  refine aj (aC aa al (ht) rfl rfl) ?_
  refine bc rfl (ai (aT fun K16 hK16=> ?_))
  refine aq ?_
  refine aQ (σ':=aA 73 [(1,_),(5,_)] [((1,0),_)] [] []) kp ?_
  refine an (bc rfl (ai (au ?_)))
  refine bv (α:=Nat) (fun j=> 1≤j∧j≤L.length) 73 [(1,_),(5,_)] [((1,0),_)] (fun j=> [(6, .v (.int .i64 (j:Int)))]) (fun j=> []) [] [] (fun j=> L.length - j) 1 ?_ (by
   refine Le.mkJ [] [] rfl ?_ ?_ trivial trivial ?_
   ·exact ⟨(iP rfl),(iV rfl),(cd ag),trivial⟩
   ·exact ⟨(cH rfl rfl rfl),trivial⟩
   ·kernel_rfl) ?_
  ·exact ⟨Nat.le_refl _,hL⟩
  intro j hj
  obtain ⟨hj1,hj2⟩:=hj
  refine aT fun K18 hK18=> ?_
  refine am (aV rfl (bu rfl rfl rfl (eY rfl rfl rfl (aj (bD _ aa rfl) (aj (bo _ _ rfl rfl rfl) (ai (aP rfl (fun hc45=> ?_) (fun hc45=> ?_))))))))
  ·skip
   refine bA (hK18 _ ?_)
   clear hK18;try clear K18
   refine aq (au (am (bu rfl rfl rfl (eY rfl rfl rfl (aV rfl (aj (bl _ _ aa rfl rfl _ rfl ab (by (simp only [aU,bj,bh,bq,bp,bE,bs];omega)) ag) ?_))))))
   refine aj (bZ _ aa rfl (by exact cp _ _ ab) rfl) ?_
   refine aj (aC aa al (h j hj1 ab) rfl rfl) ?_
   refine ce rfl (ai (am (cE rfl (aj (cL (r:=false) _ rfl rfl) (ai (aS rfl rfl (cf (an (aV rfl (aj (aZ _ _ rfl rfl (bJ ab)) ?_))))))))))
   refine bc rfl (aI (⟨j+1,?_,?_,?_⟩))
   ·omega
   ·skip
    refine Le.mkJ [] [] rfl ?_ ?_ trivial trivial ?_
    ·exact ⟨(iP rfl),(iV rfl),(cd ag),trivial⟩
    ·exact ⟨(cH rfl rfl rfl),trivial⟩
    ·kernel_rfl
   ·omega
  ·skip
   refine bI (id (hK16 _ ?_))
   clear hK16;try clear K16
   refine am (aV rfl (jv rfl rfl rfl (ce rfl (ai (aE (aW (.inr rfl) rfl (.tmp (rfl:_=AV.v (.bool _))) (Le.out [] [] (gy ?_) rfl rfl rfl trivial trivial)))))))
   rfl
theorem ek (k:Nat) (hk:k≠2∧k≠3∧k≠11) (n:Int) (s:Tx) (L:List Nd) (h: ∀ j,j < L.length→Spec Tryz.prog 203 (bf [me (iJ L j)] []) (aL (.v (.int .i64 1)) [])):
  Spec Tryz.prog 166 (bf [.agg [.v (.int .i64 (k:Int)), .v (.int .i64 n), .v (bt s), .sl L.length (ko L)]] []) (aL (.v (.bool true)) []):=by
 refine Spec.ofN Tryz.func166 rfl Tryz.ntmps166 rfl ?_
 refine aq ?_
 refine jA 0 3 rfl rfl rfl fun hlen=> ?_
 unfold maxLen at hlen
 refine an (aj (bg (1,0) _ rfl rfl) (ce rfl (ai (aq (am (bu rfl rfl rfl (cw rfl rfl rfl (fJ rfl rfl (beq_eq_false_iff_ne.2 ab) ?_))))))))
 refine ai (aS rfl rfl (aO (aq (am (bu rfl rfl rfl (cw rfl rfl rfl (fJ rfl rfl (beq_eq_false_iff_ne.2 ab) ?_)))))))
 refine cE rfl (ax rfl rfl (aD _ aa rfl rfl rfl) (ax rfl rfl (aG _ aa rfl rfl (rfl:_=some (AV.v (.int _ _)))) (ax rfl rfl (bH (r:=false) _ _ rfl rfl (beq_eq_false_iff_ne.2 ab)) ?_)))
 refine aj (az _ _ _ rfl (rfl:_=AV.v (.bool _))) (ai (aS rfl rfl (aO (aT fun K6 hK6=> ?_))))
 refine am (bc rfl (ai (au ?_)))
 refine bv (α:=Nat) (fun j=> j≤L.length) 73 [(1,_)] [((1,0),_)] (fun j=> [(8, .v (.int .i64 (j:Int)))]) (fun j=> []) [] [] (fun j=> L.length - j) 0 ?_ (by
  refine Le.mkJ [] [] rfl ?_ ?_ trivial trivial ?_
  ·exact ⟨(iP rfl),(cd ag),trivial⟩
  ·exact ⟨(cH rfl rfl rfl),trivial⟩
  ·kernel_rfl) ?_
 ·omega
 intro j hj
 refine aT fun K8 hK8=> ?_
 refine am (aV rfl (bu rfl rfl rfl (eY rfl rfl rfl (aj (bD _ aa rfl) (aj (bo _ _ rfl rfl rfl) (ai (aP rfl (fun hc62=> ?_) (fun hc62=> ?_))))))))
 ·skip
  refine bA (hK8 _ ?_)
  clear hK8;try clear K8
  refine aq (au (am (bu rfl rfl rfl (eY rfl rfl rfl (aV rfl (aj (bl _ _ aa rfl rfl _ rfl ab (by (simp only [aU,bj,bh,bq,bp,bE,bs];omega)) ag) ?_))))))
  refine aj (bZ _ aa rfl (by exact cp _ _ ab) rfl) ?_
  refine aj (aC aa al (h j ab) rfl rfl) ?_
  refine bc rfl (ai (am (aV rfl (aj (bY (r:=false) _ _ rfl rfl rfl) (ai (aS rfl rfl (cf (an (aV rfl (aj (aZ _ _ rfl rfl (bJ ab)) ?_))))))))))
  refine bc rfl (aI (⟨j+1,?_,?_,?_⟩))
  ·omega
  ·skip
   refine Le.mkJ [] [] rfl ?_ ?_ trivial trivial ?_
   ·exact ⟨(iP rfl),(cd ag),trivial⟩
   ·exact ⟨(cH rfl rfl rfl),trivial⟩
   ·kernel_rfl
  ·omega
 ·skip
  refine bI (id (hK6 _ ?_))
  clear hK6;try clear K6
  refine am (ce rfl (ai (aE (aW (.inr rfl) rfl (.tmp (rfl:_=AV.v (.bool _))) (Le.out [] [] (gy ?_) rfl rfl rfl trivial trivial)))))
  rfl
end Go.Proofs.YtmjnackchaahbaaGreat
