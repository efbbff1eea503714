/- Part 10 of the texts that the walk leans on: the machine, the walks, the plain laws. -/
import Derived.Test.YtmjnackchaahbaaGreatVaZ9
set_option linter.unusedSimpArgs false
set_option linter.unusedVariables false
namespace Go.Proofs.YtmjnackchaahbaaGreat
open Go.RowKit

abbrev mQ (d:Nd):AV:= .agg [.v (.int .i64 (d.k:Int)), .v (.int .i64 (d.n:Int)), .v (bt d.s), .sl d.kn d.kids]
abbrev PO (T:List Tk) (N:List Tx) (r:Nd×Nat):St:=bg (mQ r.1) (dD T r.2 N) [(0,9)] [(0,9)]
structure PE (T:List Tk) (N:List Tx) (f:Nat):Prop where
 expr: ∀ lv pr i r,lv≤20→1≤pr∧pr≤7→i < T.length→fP T f lv pr i=some r→r.2 < T.length∧Spec Tryz.prog 226 (be [.ptr (0,9) 0, .v (.int .i64 (lv:Int)), .v (.int .i64 (pr:Int))] (dD T i N)) (PO T N r)
 un: ∀ s lv pr i r,lv≤20→1≤pr∧pr≤7→i < T.length→EJ T f s lv pr i=some r→r.2 < T.length∧Spec Tryz.prog 235 (be [.ptr (0,9) 0, .v (bt s), .v (.int .i64 (lv:Int)), .v (.int .i64 (pr:Int))] (dD T i N)) (PO T N r)
 bin: ∀ lv pr i r,lv≤20→(1≤pr∧pr≤6∧pr≠3)→i < T.length→vK T f lv pr i=some r→r.2 < T.length∧Spec Tryz.prog 236 (be [.ptr (0,9) 0, .v (.int .i64 (lv:Int)), .v (.int .i64 (pr:Int))] (dD T i N)) (PO T N r)
 nest: ∀ lv i r,lv≤20→i < T.length→pe T f lv i=some r→r.2 < T.length∧Spec Tryz.prog 240 (be [.ptr (0,9) 0, .v (.int .i64 (lv:Int))] (dD T i N)) (PO T N r)
 prim: ∀ lv i r,lv≤20→i < T.length→rp T f lv i=some r→r.2 < T.length∧Spec Tryz.prog 237 (be [.ptr (0,9) 0, .v (.int .i64 (lv:Int))] (dD T i N)) (PO T N r)
section
variable {T:List Tk} {N:List Tx}
theorem vy (f:Nat) (ih:PE T N f) (lv pr i:Nat) (r:Nd×Nat) (hl:lv≤20) (hp:1≤pr∧pr≤7) (hi:i < T.length) (h:fP T (f+1) lv pr i=some r):
  r.2 < T.length∧Spec Tryz.prog 226 (be [.ptr (0,9) 0, .v (.int .i64 (lv:Int)), .v (.int .i64 (pr:Int))] (dD T i N)) (PO T N r):=by
 unfold fP at h
 by_cases h1:pr=3∧(cX T i).t=[33]
 ·rw [if_pos h1] at h
  obtain ⟨ha,hb⟩:=ih.un _ _ _ _ _ hl ab hi h
  refine ⟨ha,?_⟩
  obtain ⟨rfl,h1⟩:=h1
  refine Spec.ofNI Tryz.func226 rfl Tryz.ntmps226 rfl ?_
  refine am (ai (ay (6,0) aa rfl rfl) (aj (aq (am (bj rfl (ai (aS _ rfl rfl) (bF rfl rfl rfl (cI rfl rfl rfl (ai (bY (r:=false) _ _ rfl rfl rfl) (aj ?_))))))))))
  refine aQ rfl rfl (aI (am (bj rfl (ai (bs aa _ _ ar (bT T i N hi) tr rfl ae (by simp)) ?_))))
  refine jb rfl (aj (aq (am (aR rfl (jc rfl rfl rfl (cH rfl (ax rfl rfl (aD _ (rfl:_=AV.v (.string _))) (ax rfl rfl (aT (r:=true) _ _ Tryz.underlying9 rfl rfl (by rw [h1];rfl)) ?_))))))))
  refine ai (aF _ _ _ rfl (rfl:_=AV.v (.bool _))) (aj (bD rfl rfl (aq ?_)))
  refine aM (σ':=aB 50 [(0,_),(1,_),(6,_),(7,_)] [((0,9),_),((6,0),_)] [(0,9)] [(0,9)]) kp ?_
  exact an (bj rfl (dJ rfl (aR rfl (ai (aO (hb)) (bO rfl rfl rfl rfl rfl rfl (aj (aC (aY (.inr rfl) rfl (.cellA aa rfl rfl rfl) (Le.outI [] [] (.agg rfl lz) rfl rfl rfl trivial ob tr rfl)))))))))
 rw [if_neg h1] at h
 by_cases h2:pr=3
 ·rw [if_pos h2] at h
  obtain ⟨ha,hb⟩:=ih.bin _ _ _ _ hl ab hi h
  refine ⟨ha,?_⟩
  subst h2
  have h1:(cX T i).t≠[33]:=fun e=> h1 ⟨rfl,e⟩
  refine Spec.ofNI Tryz.func226 rfl Tryz.ntmps226 rfl ?_
  refine am (ai (ay (6,0) aa rfl rfl) (aj (aq (am (bj rfl (ai (aS _ rfl rfl) (bF rfl rfl rfl (cI rfl rfl rfl (ai (bY (r:=false) _ _ rfl rfl rfl) (aj ?_))))))))))
  refine aQ rfl rfl (aI (am (bj rfl (ai (bs aa _ _ ar (bT T i N hi) tr rfl ae (by simp)) ?_))))
  refine jb rfl (aj (aq (am (aR rfl (jc rfl rfl rfl (cH rfl (ax rfl rfl (aD _ (rfl:_=AV.v (.string _))) (ax rfl rfl (aT (r:=false) _ _ Tryz.underlying9 rfl rfl (beq_eq_false_iff_ne.2 h1)) ?_))))))))
  refine ai (aF _ _ _ rfl (rfl:_=AV.v (.bool _))) (aj (aQ rfl rfl (aI (aq (aq ?_)))))
  refine aM (σ':=aB 50 [(0,_),(1,_),(2,_),(6,_),(7,_)] [((0,9),_),((6,0),_)] [(0,9)] [(0,9)]) kp ?_
  refine an (aR rfl (jc rfl rfl rfl (aj (bD rfl rfl (am (bj rfl (aR rfl (ai (aO (hb)) (bO rfl rfl rfl rfl rfl rfl (aj ?_))))))))))
  exact aC (aY (.inr rfl) rfl (.cellA aa rfl rfl rfl) (Le.outI [] [] (.agg rfl lz) rfl rfl rfl trivial ob tr rfl))
 rw [if_neg h2] at h
 by_cases h3:pr=7∧(cX T i).t=[45]
 ·rw [if_pos h3] at h
  obtain ⟨ha,hb⟩:=ih.un _ _ _ _ _ hl ab hi h
  refine ⟨ha,?_⟩
  obtain ⟨rfl,h3⟩:=h3
  refine Spec.ofNI Tryz.func226 rfl Tryz.ntmps226 rfl ?_
  refine am (ai (ay (6,0) aa rfl rfl) (aj (aq (am (bj rfl (ai (aS _ rfl rfl) (bF rfl rfl rfl (cI rfl rfl rfl (ai (bY (r:=false) _ _ rfl rfl rfl) (aj ?_))))))))))
  refine aQ rfl rfl (aI (am (bj rfl (ai (bs aa _ _ ar (bT T i N hi) tr rfl ae (by simp)) ?_))))
  refine jb rfl (aj (aq (am (aR rfl (eI rfl rfl rfl (cH rfl (aX rfl rfl ah ?_)))))))
  refine aX rfl rfl ah ?_
  refine ai (aF _ _ _ rfl (rfl:_=AV.v (.bool _))) (aj (aQ rfl rfl (aI (aq (aq ?_)))))
  refine aM (σ':=aB 50 [(0,_),(1,_),(2,_),(6,_),(7,_)] [((0,9),_),((6,0),_)] [(0,9)] [(0,9)]) kp ?_
  refine an (aR rfl (eI rfl rfl rfl (aj (aQ rfl rfl (aI (aq (am (aR rfl (jc rfl rfl rfl (cH rfl ?_))))))))))
  refine ax rfl rfl (aD _ (rfl:_=AV.v (.string _))) (ax rfl rfl (aT (r:=true) _ _ Tryz.underlying9 rfl rfl (by rw [h3];rfl)) ?_)
  refine ai (aF _ _ _ rfl (rfl:_=AV.v (.bool _))) (aj (bD rfl rfl (am (bj rfl (dJ rfl (aR rfl (ai (aO (hb)) (bO rfl rfl rfl rfl rfl rfl (aj (aC ?_))))))))))
  exact aY (.inr rfl) rfl (.cellA aa rfl rfl rfl) (Le.outI [] [] (.agg rfl lz) rfl rfl rfl trivial ob tr rfl)
 rw [if_neg h3] at h
 by_cases h4:pr=7
 ·rw [if_pos h4] at h
  obtain ⟨ha,hb⟩:=ih.prim _ _ _ hl hi h
  refine ⟨ha,?_⟩
  subst h4
  have h3:(cX T i).t≠[45]:=fun e=> h3 ⟨rfl,e⟩
  refine Spec.ofNI Tryz.func226 rfl Tryz.ntmps226 rfl ?_
  refine am (ai (ay (6,0) aa rfl rfl) (aj (aq (am (bj rfl (ai (aS _ rfl rfl) (bF rfl rfl rfl (cI rfl rfl rfl (ai (bY (r:=false) _ _ rfl rfl rfl) (aj ?_))))))))))
  refine aQ rfl rfl (aI (am (bj rfl (ai (bs aa _ _ ar (bT T i N hi) tr rfl ae (by simp)) ?_))))
  refine jb rfl (aj (aq (am (aR rfl (eI rfl rfl rfl (cH rfl (aX rfl rfl ah ?_)))))))
  refine aX rfl rfl ah ?_
  refine ai (aF _ _ _ rfl (rfl:_=AV.v (.bool _))) (aj (aQ rfl rfl (aI (aq (aq ?_)))))
  refine aM (σ':=aB 50 [(0,_),(1,_),(2,_),(6,_),(7,_)] [((0,9),_),((6,0),_)] [(0,9)] [(0,9)]) kp ?_
  refine an (aR rfl (eI rfl rfl rfl (aj (aQ rfl rfl (aI (aq (am (aR rfl (jc rfl rfl rfl (cH rfl ?_))))))))))
  refine ax rfl rfl (aD _ (rfl:_=AV.v (.string _))) (ax rfl rfl (aT (r:=false) _ _ Tryz.underlying9 rfl rfl (beq_eq_false_iff_ne.2 h3)) ?_)
  refine ai (aF _ _ _ rfl (rfl:_=AV.v (.bool _))) (aj (aQ rfl rfl (aI (aq (am (aR rfl (jc rfl rfl rfl (aj (bD rfl rfl (aG fun K13 hK13=> ?_))))))))))
  refine an (bj rfl (aR rfl (ai (aO (hb)) (bO rfl rfl rfl rfl rfl rfl (az (hK13 _ ?_))))))
  clear hK13;try clear K13
  exact aC (aY (.inr rfl) rfl (.cellA aa rfl rfl rfl) (Le.outI [] [] (.agg rfl lz) rfl rfl rfl trivial ob tr rfl))
 rw [if_neg h4] at h
 obtain ⟨ha,hb⟩:=ih.bin _ _ _ _ hl ab hi h
 refine ⟨ha,?_⟩
 refine Spec.ofNI Tryz.func226 rfl Tryz.ntmps226 rfl ?_
 refine am (ai (ay (6,0) aa rfl rfl) (aj (aq (am (bj rfl (ai (aS _ rfl rfl) (bF rfl rfl rfl (cI rfl rfl rfl (ai (bY (r:=false) _ _ rfl rfl rfl) (aj ?_))))))))))
 refine aQ rfl rfl (aI (am (bj rfl (ai (bs aa _ _ ar (bT T i N hi) tr rfl ae (by simp)) ?_))))
 refine jb rfl (aj (aq (am (aR rfl (eI rfl rfl (beq_eq_false_iff_ne.2 ab) ?_)))))
 refine cH rfl (aX rfl rfl ah ?_)
 refine aX rfl rfl ah ?_
 refine ai (aF _ _ _ rfl (rfl:_=AV.v (.bool _))) (aj (aQ rfl rfl (aI (aq (aq ?_)))))
 refine aM (σ':=aB 50 [(0,_),(1,_),(2,_),(6,_),(7,_)] [((0,9),_),((6,0),_)] [(0,9)] [(0,9)]) kp ?_
 refine an (aR rfl (eI rfl rfl (beq_eq_false_iff_ne.2 ab) ?_))
 refine aj (aQ rfl rfl (aI (aq (am (aR rfl (eI rfl rfl (beq_eq_false_iff_ne.2 ab) ?_))))))
 refine cH rfl (aX rfl rfl ah ?_)
 refine aX rfl rfl ah ?_
 refine ai (aF _ _ _ rfl (rfl:_=AV.v (.bool _))) (aj (aQ rfl rfl (aI (aq (am (aR rfl (eI rfl rfl (beq_eq_false_iff_ne.2 ab) ?_)))))))
 refine aj (aQ rfl rfl (aI (aG fun K13 hK13=> ?_)))
 refine an (bj rfl (aR rfl (aR rfl (ai (aO (hb)) (bO rfl rfl rfl rfl rfl rfl (az (hK13 _ ?_)))))))
 clear hK13;try clear K13
 exact aC (aY (.inr rfl) rfl (.cellA aa rfl rfl rfl) (Le.outI [] [] (.agg rfl lz) rfl rfl rfl trivial ob tr rfl))
theorem As (hT:T.length≤100000) (f:Nat) (ih:PE T N f) (s:Tx) (lv pr i:Nat) (r:Nd×Nat) (hl:lv≤20) (hp:1≤pr∧pr≤7) (hi:i < T.length) (h:EJ T (f+1) s lv pr i=some r):
  r.2 < T.length∧Spec Tryz.prog 235 (be [.ptr (0,9) 0, .v (bt s), .v (.int .i64 (lv:Int)), .v (.int .i64 (pr:Int))] (dD T i N)) (PO T N r):=by
 unfold EJ at h
 simp only [Option.bind_eq_bind,Option.bind_eq_some_iff,Option.pure_def,Option.some.injEq] at h
 obtain ⟨j,hj,⟨d,j2⟩,hd,rfl⟩:=h
 have ho:=jn hj
 have hjl:=ip ho.2 hi
 obtain ⟨ha,hb⟩:=ih.expr _ _ _ _ ho.1 hp hjl hd
 have hopen:=mm T i j N s (lv+1) hi hT hj
 refine ⟨ha,?_⟩
 refine Spec.ofNI Tryz.func235 rfl Tryz.ntmps235 rfl ?_
 refine am (ai (ay (8,0) aa rfl rfl) (aj (am (bj rfl (dJ rfl (aR rfl (ai (bc _ _ rfl rfl (bq ab)) ?_)))))))
 refine ai (aO (hopen)) (aj (aG fun K3 hK3=> ?_))
 refine an (bj rfl (aR rfl (ai (bc _ _ rfl rfl (bq ab)) ?_)))
 refine aR rfl (ai (aO (hb)) (ai (ay (9,0) aa rfl rfl) (bO rfl rfl rfl rfl rfl rfl (az (hK3 _ ?_)))))
 clear hK3;try clear K3
 refine am (dJ rfl (ai (aP _ aa rfl rfl rfl rfl) (ai (aU _ _ aa rfl ag (by (simp <;> rfl)) ah rfl) ?_)))
 refine ai (aA _ aa rfl (by exact (rfl:_=some [_,_,_,_]))) ?_
 exact bO rfl rfl rfl rfl rfl rfl (aj (aC (aY (.inr rfl) rfl (.cellA aa rfl rfl rfl) (Le.outI [] [] (.agg rfl lz) rfl rfl rfl trivial ob tr rfl))))
theorem uO (hT:T.length≤100000) (f:Nat) (ih:PE T N f) (lv i:Nat) (r:Nd×Nat) (hl:lv≤20) (hi:i < T.length) (h:pe T (f+1) lv i=some r):
  r.2 < T.length∧Spec Tryz.prog 240 (be [.ptr (0,9) 0, .v (.int .i64 (lv:Int))] (dD T i N)) (PO T N r):=by
 unfold pe at h
 simp only [Option.bind_eq_bind,Option.bind_eq_some_iff,Option.pure_def,Option.some.injEq] at h
 obtain ⟨j,hj,⟨d,j2⟩,hd,j3,hj3,rfl⟩:=h
 have ho:=jn hj
 have hjl:=ip ho.2 hi
 obtain ⟨ha,hb⟩:=ih.expr _ _ _ _ ho.1 ab hjl hd
 have hopen:=mm T i j N [40] (lv+1) hi hT hj
 have hexp:=fb T j2 j3 N [41] ha hT hj3
 refine ⟨ip hj3 ha,?_⟩
 refine Spec.ofNI Tryz.func240 rfl Tryz.ntmps240 rfl ?_
 refine am (ai (ay (4,0) aa rfl rfl) (aj (am (bj rfl (aR rfl (ai (bc _ _ rfl rfl (bq ab)) ?_))))))
 refine ai (aO (hopen)) (aj (aG fun K3 hK3=> ?_))
 refine an (bj rfl (aR rfl (ai (bc _ _ rfl rfl (bq ab)) ?_)))
 refine ai (aO (hb)) (ai (ay (5,0) aa rfl rfl) (bO rfl rfl rfl rfl rfl rfl (az (hK3 _ ?_))))
 clear hK3;try clear K3
 refine aG fun K4 hK4=> ?_
 refine an (bj rfl (ai (aO (hexp)) (az (hK4 _ ?_))))
 clear hK4;try clear K4
 exact am (ai (aP _ aa rfl rfl rfl rfl) (bO rfl rfl rfl rfl rfl rfl (aj (aC (aY (.inr rfl) rfl (.cellA aa rfl rfl rfl) (Le.outI [] [] (.agg rfl lz) rfl rfl rfl trivial ob tr rfl))))))
theorem wC (hT:T.length≤100000) (f:Nat) (ih:PE T N f) (lv i:Nat) (r:Nd×Nat) (hl:lv≤20) (hi:i < T.length) (h:rp T (f+1) lv i=some r):
  r.2 < T.length∧Spec Tryz.prog 237 (be [.ptr (0,9) 0, .v (.int .i64 (lv:Int))] (dD T i N)) (PO T N r):=by
 have htl:=dM hi
 have htake:=cm T i N hi hT
 unfold rp at h
 simp only at h
 by_cases h1:(cX T i).t=[40]
 ·rw [if_pos h1] at h
  obtain ⟨ha,hb⟩:=ih.nest _ _ _ hl hi h
  refine ⟨ha,?_⟩
  refine Spec.ofNI Tryz.func237 rfl Tryz.ntmps237 rfl ?_
  refine am (ai (ay (4,0) aa rfl rfl) (aj (aq (bE 11 [8,9,10,11,12,13,14,15,16,17,5] [(5,0)] ae ae rfl (aL rfl) (rfl:_=[_,_,_,_,_,_,_,_,_,_,_]) (rfl:_=[_]) ?_))))
  refine ap (_,[]) (fun τ=> aD _ (rfl:_=AV.ptr _ _)) ?_
  refine eL rfl ?_
  refine ap (_,[]) (fun τ=> aS _ rfl rfl) ?_
  refine eK rfl ?_
  refine ap (_,[]) (fun τ=> aK _ aa rfl rfl rfl) ?_
  refine eM rfl ?_
  refine ap (_,[]) (fun τ=> aN _ aa rfl rfl (rfl:_=some (AV.sl _ _))) ?_
  refine eP rfl ?_
  refine ap (_,[]) (fun τ=> aD _ (rfl:_=AV.ptr _ _)) ?_
  refine fe rfl ?_
  refine ap (_,[]) (fun τ=> aS _ rfl rfl) ?_
  refine fB rfl ?_
  refine ap (_,[]) (fun τ=> aK _ aa rfl rfl rfl) ?_
  refine gy rfl ?_
  refine ap (_,[]) (fun τ=> aN _ aa rfl rfl (rfl:_=some (AV.v (.int _ _)))) ?_
  refine jS rfl ?_
  refine ap (_,[]) (fun τ=> bf _ _ aa rfl rfl _ rfl ab (by (simp only [aZ,bm,bl,bw,bv];omega)) ag) ?_
  refine kd rfl ?_
  refine ap (_,[]) (fun τ=> cg _ aa rfl (by exact lP _ _ hi) rfl) ?_
  refine fW rfl ?_
  refine ap (_,[((5,0),_)]) (fun τ=> ay (5,0) aa rfl rfl) ?_
  refine gA rfl (bh ⟨rfl,?_⟩)
  refine bO rfl rfl rfl rfl rfl rfl (aj (aq (am (bF rfl rfl rfl (ai (aN _ aa rfl rfl (rfl:_=some (AV.v (.string _)))) (ai (aT (r:=true) _ _ Tryz.underlying9 rfl rfl (by rw [h1];rfl)) ?_))))))
  refine aj (bD rfl rfl (aq ?_))
  refine aM (σ':=aB 72 [(0,_),(1,_),(4,_)] [((0,9),_),((4,0),_)] [(0,9)] [(0,9)]) kp ?_
  exact an (bj rfl (aR rfl (ai (aO (hb)) (bO rfl rfl rfl rfl rfl rfl (aj (aC (aY (.inr rfl) rfl (.cellA aa rfl rfl rfl) (Le.outI [] [] (.agg rfl lz) rfl rfl rfl trivial ob tr rfl))))))))
 rw [if_neg h1] at h
 by_cases h2:(cX T i).t=ze
 ·rw [if_pos h2] at h
  simp only [Option.bind_eq_bind,Option.bind_eq_some_iff,Option.pure_def,Option.some.injEq] at h
  obtain ⟨⟨d,j⟩,hd,rfl⟩:=h
  obtain ⟨ha,hb⟩:=ih.nest _ _ _ hl htl hd
  refine ⟨ha,?_⟩
  refine Spec.ofNI Tryz.func237 rfl Tryz.ntmps237 rfl ?_
  refine am (ai (ay (4,0) aa rfl rfl) (aj (aq (bE 11 [8,9,10,11,12,13,14,15,16,17,5] [(5,0)] ae ae rfl (aL rfl) (rfl:_=[_,_,_,_,_,_,_,_,_,_,_]) (rfl:_=[_]) ?_))))
  refine ap (_,[]) (fun τ=> aD _ (rfl:_=AV.ptr _ _)) ?_
  refine eL rfl ?_
  refine ap (_,[]) (fun τ=> aS _ rfl rfl) ?_
  refine eK rfl ?_
  refine ap (_,[]) (fun τ=> aK _ aa rfl rfl rfl) ?_
  refine eM rfl ?_
  refine ap (_,[]) (fun τ=> aN _ aa rfl rfl (rfl:_=some (AV.sl _ _))) ?_
  refine eP rfl ?_
  refine ap (_,[]) (fun τ=> aD _ (rfl:_=AV.ptr _ _)) ?_
  refine fe rfl ?_
  refine ap (_,[]) (fun τ=> aS _ rfl rfl) ?_
  refine fB rfl ?_
  refine ap (_,[]) (fun τ=> aK _ aa rfl rfl rfl) ?_
  refine gy rfl ?_
  refine ap (_,[]) (fun τ=> aN _ aa rfl rfl (rfl:_=some (AV.v (.int _ _)))) ?_
  refine jS rfl ?_
  refine ap (_,[]) (fun τ=> bf _ _ aa rfl rfl _ rfl ab (by (simp only [aZ,bm,bl,bw,bv];omega)) ag) ?_
  refine kd rfl ?_
  refine ap (_,[]) (fun τ=> cg _ aa rfl (by exact lP _ _ hi) rfl) ?_
  refine fW rfl ?_
  refine ap (_,[((5,0),_)]) (fun τ=> ay (5,0) aa rfl rfl) ?_
  refine gA rfl (bh ⟨rfl,?_⟩)
  refine bO rfl rfl rfl rfl rfl rfl (aj (aq (am (bF rfl rfl rfl (ai (aN _ aa rfl rfl (rfl:_=some (AV.v (.string _)))) (ai (aT (r:=false) _ _ Tryz.underlying9 rfl rfl (beq_eq_false_iff_ne.2 h1)) ?_))))))
  refine aj (aQ rfl rfl (aI (aq (aq ?_))))
  refine aM (σ':=aB 72 [(0,_),(1,_),(4,_),(5,_)] [((0,9),_),((4,0),_),((5,0),_)] [(0,9)] [(0,9)]) kp ?_
  refine an (bF rfl rfl rfl (ai (aN _ aa rfl rfl (rfl:_=some (AV.v (.string _)))) (ai (aT (r:=true) _ _ Tryz.underlying9 rfl rfl (by rw [h2];rfl)) ?_)))
  refine aj (bD rfl rfl (am (bj rfl (ai (aO (htake)) (aj (aG fun K8 hK8=> ?_))))))
  refine an (bj rfl (aR rfl (ai (aO (hb)) (ai (ay (6,0) aa rfl rfl) (bO rfl rfl rfl rfl rfl rfl (az (hK8 _ ?_)))))))
  clear hK8;try clear K8
  refine am (ai (aP _ aa rfl rfl rfl rfl) (ai (aU _ _ aa rfl ag (by (simp <;> rfl)) ah rfl) ?_))
  refine ai (aA _ aa rfl (by exact (rfl:_=some [_,_,_,_]))) ?_
  exact bO rfl rfl rfl rfl rfl rfl (aj (aC (aY (.inr rfl) rfl (.cellA aa rfl rfl rfl) (Le.outI [] [] (.agg rfl lz) rfl rfl rfl trivial ob tr rfl))))
 rw [if_neg h2] at h
 have hr:r.2=bQ T i:=by
  repeat' split at h
  all_goals first | (rw [← Option.some.inj h];done) | cases h
 refine ⟨by rw [hr];exact htl,?_⟩
 refine Spec.ofNI Tryz.func237 rfl Tryz.ntmps237 rfl ?_
 refine am (ai (ay (4,0) aa rfl rfl) (aj (aq (bE 11 [8,9,10,11,12,13,14,15,16,17,5] [(5,0)] ae ae rfl (aL rfl) (rfl:_=[_,_,_,_,_,_,_,_,_,_,_]) (rfl:_=[_]) ?_))))
 refine ap (_,[]) (fun τ=> aD _ (rfl:_=AV.ptr _ _)) ?_
 refine eL rfl ?_
 refine ap (_,[]) (fun τ=> aS _ rfl rfl) ?_
 refine eK rfl ?_
 refine ap (_,[]) (fun τ=> aK _ aa rfl rfl rfl) ?_
 refine eM rfl ?_
 refine ap (_,[]) (fun τ=> aN _ aa rfl rfl (rfl:_=some (AV.sl _ _))) ?_
 refine eP rfl ?_
 refine ap (_,[]) (fun τ=> aD _ (rfl:_=AV.ptr _ _)) ?_
 refine fe rfl ?_
 refine ap (_,[]) (fun τ=> aS _ rfl rfl) ?_
 refine fB rfl ?_
 refine ap (_,[]) (fun τ=> aK _ aa rfl rfl rfl) ?_
 refine gy rfl ?_
 refine ap (_,[]) (fun τ=> aN _ aa rfl rfl (rfl:_=some (AV.v (.int _ _)))) ?_
 refine jS rfl ?_
 refine ap (_,[]) (fun τ=> bf _ _ aa rfl rfl _ rfl ab (by (simp only [aZ,bm,bl,bw,bv];omega)) ag) ?_
 refine kd rfl ?_
 refine ap (_,[]) (fun τ=> cg _ aa rfl (by exact lP _ _ hi) rfl) ?_
 refine fW rfl ?_
 refine ap (_,[((5,0),_)]) (fun τ=> ay (5,0) aa rfl rfl) ?_
 refine gA rfl (bh ⟨rfl,?_⟩)
 refine bO rfl rfl rfl rfl rfl rfl (aj (aq (am (bF rfl rfl rfl (ai (aN _ aa rfl rfl (rfl:_=some (AV.v (.string _)))) (ai (aT (r:=false) _ _ Tryz.underlying9 rfl rfl (beq_eq_false_iff_ne.2 h1)) ?_))))))
 refine aj (aQ rfl rfl (aI (aq (aq ?_))))
 refine aM (σ':=aB 72 [(0,_),(1,_),(4,_),(5,_)] [((0,9),_),((4,0),_),((5,0),_)] [(0,9)] [(0,9)]) kp ?_
 refine an (bF rfl rfl rfl (ai (aN _ aa rfl rfl (rfl:_=some (AV.v (.string _)))) (ai (aT (r:=false) _ _ Tryz.underlying9 rfl rfl (beq_eq_false_iff_ne.2 h2)) ?_)))
 refine aj (aQ rfl rfl (aI (am (ai (aA _ aa rfl (by exact (rfl:_=some [_,_,_,_]))) ?_))))
 refine ai (ay (7,0) aa rfl rfl) (bO rfl rfl rfl rfl rfl rfl (aj (aG fun K8 hK8=> ?_)))
 refine am (bF rfl rfl rfl (cI rfl rfl rfl (ai (bR _ _ rfl rfl rfl) (aj (aV rfl (fun hc38=> ?_) (fun hc38=> ?_))))))
 ·skip
  rw [if_pos ab] at h
  obtain rfl:=Option.some.inj h
  refine an (bF rfl rfl rfl (cI rfl rfl rfl (ai (aA _ aa rfl (by exact (rfl:_=some [_,_,_,_]))) ?_)))
  refine bO rfl rfl rfl rfl rfl rfl (az (hK8 _ ?_))
  clear hK8;try clear K8
  refine am (bj rfl (ai (aO (htake)) (aj (aq ?_))))
  refine aM (σ':=aB 72 [(4,_),(7,_)] [((4,0),_),((7,0),_),((0,9),_)] [(0,9)] [(0,9)]) kp ?_
  exact an (ai (aP _ aa rfl rfl rfl rfl) (bO rfl rfl rfl rfl rfl rfl (aj (aC (aY (.inr rfl) rfl (.cellA aa rfl rfl rfl) (Le.outI [] [] (.agg rfl lz) rfl rfl rfl trivial ob tr rfl))))))
 ·skip
  rw [if_neg ab] at h
  refine am (bF rfl rfl rfl (ai (aN _ aa rfl rfl (rfl:_=some (AV.v (.string _)))) (ai (aT _ _ Tryz.underlying9 rfl rfl rfl) (aj (aV rfl (fun hc44=> ?_) (fun hc44=> ?_))))))
  ·skip
   rw [if_pos (show (cX T i).t=tq from hc44)] at h
   obtain rfl:=Option.some.inj h
   refine an (ai (aA _ aa rfl (by exact (rfl:_=some [_,_,_,_]))) ?_)
   refine bO rfl rfl rfl rfl rfl rfl (az (hK8 _ ?_))
   clear hK8;try clear K8
   refine am (bj rfl (ai (aO (htake)) (aj (aq ?_))))
   refine aM (σ':=aB 72 [(4,_),(7,_)] [((4,0),_),((7,0),_),((0,9),_)] [(0,9)] [(0,9)]) kp ?_
   exact an (ai (aP _ aa rfl rfl rfl rfl) (bO rfl rfl rfl rfl rfl rfl (aj (aC (aY (.inr rfl) rfl (.cellA aa rfl rfl rfl) (Le.outI [] [] (.agg rfl lz) rfl rfl rfl trivial ob tr rfl))))))
  ·skip
   rw [if_neg (show ¬ (cX T i).t=tq from hc44)] at h
   refine am (bF rfl rfl rfl (ai (aN _ aa rfl rfl (rfl:_=some (AV.v (.string _)))) (ai (aT _ _ Tryz.underlying9 rfl rfl rfl) (aj (aV rfl (fun hc48=> ?_) (fun hc48=> ?_))))))
   ·skip
    rw [if_pos (show (cX T i).t=pZ from hc48)] at h
    obtain rfl:=Option.some.inj h
    refine aM (σ':=aB 72 [(0,_),(4,_),(7,_)] [((0,9),_),((4,0),_),((7,0),_)] [(0,9)] [(0,9)]) kp ?_
    refine an (ai (aA _ aa rfl (by exact (rfl:_=some [_,_,_,_]))) ?_)
    refine bO rfl rfl rfl rfl rfl rfl (az (hK8 _ ?_))
    clear hK8;try clear K8
    exact am (bj rfl (ai (aO (htake)) (aj (am (ai (aP _ aa rfl rfl rfl rfl) (bO rfl rfl rfl rfl rfl rfl (aj (aC (aY (.inr rfl) rfl (.cellA aa rfl rfl rfl) (Le.outI [] [] (.agg rfl lz) rfl rfl rfl trivial ob tr rfl))))))))))
   ·skip
    rw [if_neg (show ¬ (cX T i).t=pZ from hc48)] at h
    refine aq ?_
    refine aM (σ':=aB 72 [(0,_),(4,_),(5,_),(7,_)] [((0,9),_),((4,0),_),((5,0),_),((7,0),_)] [(0,9)] [(0,9)]) kp ?_
    refine bE 4 [50,51,52,53] [] ae ae rfl (aL rfl) (rfl:_=[_,_,_,_]) (rfl:_=[]) ?_
    refine ap (_,[]) (fun τ=> (aJ aa (by repeat' (exact dK)) (eD) rfl rfl)) ?_
    refine eL rfl ?_
    refine ap (_,[]) (fun τ=> aK _ aa rfl rfl rfl) ?_
    refine eK rfl ?_
    refine ap (_,[]) (fun τ=> aN _ aa rfl rfl (rfl:_=some (AV.v (.string _)))) ?_
    refine eM rfl ?_
    refine ap (_,[]) (fun τ=> (aJ aa al (cw bltT 9 rfl ab (cX T i).t) rfl rfl)) ?_
    refine eP rfl (bh ⟨rfl,?_⟩)
    refine aj (aV rfl (fun hc53=> ?_) (fun hc53=> ?_))
    ·skip
     rw [if_pos hc53] at h
     obtain rfl:=Option.some.inj h
     refine an (bF rfl rfl rfl (ai (aN _ aa rfl rfl (rfl:_=some (AV.v (.string _)))) (ai (aA _ aa rfl (by exact (rfl:_=some [_,_,_,_]))) ?_)))
     refine bO rfl rfl rfl rfl rfl rfl (az (hK8 _ ?_))
     clear hK8;try clear K8
     exact am (bj rfl (ai (aO (htake)) (aj (am (ai (aP _ aa rfl rfl rfl rfl) (bO rfl rfl rfl rfl rfl rfl (aj (aC (aY (.inr rfl) rfl (.cellA aa rfl rfl rfl) (Le.outI [] [] (.agg rfl lz) rfl rfl rfl trivial ob tr rfl))))))))))
    ·skip
     rw [if_neg hc53] at h
     refine am (bj rfl (ai (bs aa _ _ ar (dC T i N hi) tr rfl ae (by simp)) ?_))
     refine aj (aV rfl (fun hc58=> ?_) (fun hc58=> ?_))
     ·skip
      rw [if_pos hc58] at h
      obtain rfl:=Option.some.inj h
      refine an (bF rfl rfl rfl (ai (aN _ aa rfl rfl (rfl:_=some (AV.v (.string _)))) (ai (aA _ aa rfl (by exact (rfl:_=some [_,_,_,_]))) ?_)))
      refine bO rfl rfl rfl rfl rfl rfl (az (hK8 _ ?_))
      clear hK8;try clear K8
      exact am (bj rfl (ai (aO (htake)) (aj (am (ai (aP _ aa rfl rfl rfl rfl) (bO rfl rfl rfl rfl rfl rfl (aj (aC (aY (.inr rfl) rfl (.cellA aa rfl rfl rfl) (Le.outI [] [] (.agg rfl lz) rfl rfl rfl trivial ob tr rfl))))))))))
     ·skip
      exact absurd h (by rw [if_neg (by simp [hc58])];exact fun e=> by cases e)
theorem BA (pr:Nat) (h:1≤pr∧pr≤6∧pr≠3):([PV.v (.slice none 0 0), .sl 1 (dU [[124,124]]), .sl 1 (dU [[38,38]]), .v (.slice none 0 0), .sl 6 (dU [[60],[60,61],[62],[62,61],[61,61],[33,61]]), .sl 2 (dU [[43],[45]]), .sl 2 (dU [[42],[47]])]:List PV)[pr]? =some (.sl (opsP.getD pr []).length (dU (opsP.getD pr []))):=by
 have:pr=1∨pr=2∨pr=4∨pr=5∨pr=6:=by omega
 rcases this with rfl | rfl | rfl | rfl | rfl <;> rfl
theorem Bm (pr:Nat):(opsP.getD pr []).length≤6:=by
 unfold opsP
 match pr with
 | 0=> decide | 1=> decide | 2=> decide | 3=> decide | 4=> decide | 5=> decide | 6=> decide
 | n+7=> simp
theorem nC {f lv pr:Nat} {d:Nd} {i:Nat} {r:Nd×Nat} (h:ma T f lv pr d i=some r): ∃ g,f=g+1∧((cX T i).t∉opsP.getD pr []∧r=(d,i)∨(cX T i).t∈opsP.getD pr []∧ ∃ e j,fP T g lv (pr+1) (bQ T i)=some (e,j)∧
  (pr=4∧r=(nd 18 0 (cX T i).t [d,e],j)∨pr≠4∧ma T g lv pr (nd 18 0 (cX T i).t [d,e]) j=some r)):=by
 cases f with
 | zero=> simp [ma] at h
 | succ g=>
  refine ⟨g,rfl,?_⟩
  unfold ma at h
  split at h
  ·rename_i hm
   simp only [Option.bind_eq_bind,Option.bind_eq_some_iff,Option.pure_def] at h
   obtain ⟨⟨e,j⟩,he,h⟩:=h
   refine .inr ⟨hm,e,j,he,?_⟩
   split at h
   ·rename_i h4;exact .inl ⟨h4,(Option.some.inj h).symm⟩
   ·rename_i h4;exact .inr ⟨h4,h⟩
  ·rename_i hm;exact .inl ⟨hm,(Option.some.inj h).symm⟩
theorem xe (hT:T.length≤100000) (f:Nat) (ih: ∀ g,g≤f→PE T N g) (lv pr i:Nat) (r:Nd×Nat) (hl:lv≤20) (hp:1≤pr∧pr≤6∧pr≠3) (hi:i < T.length) (h:vK T (f+1) lv pr i=some r):
  r.2 < T.length∧Spec Tryz.prog 236 (be [.ptr (0,9) 0, .v (.int .i64 (lv:Int)), .v (.int .i64 (pr:Int))] (dD T i N)) (PO T N r):=by
 unfold vK at h
 simp only [Option.bind_eq_bind,Option.bind_eq_some_iff] at h
 obtain ⟨⟨d,j⟩,hd,h⟩:=h
 simp only at h
 obtain ⟨ha,hb⟩:=(ih f (Nat.le_refl _)).expr _ _ _ _ hl ab hi hd
 have hend: ∀ (g:Nat) (d:Nd) (i:Nat),g≤f→i < T.length→ma T g lv pr d i=some r→r.2 < T.length:=by
  intro g
  induction g with
  | zero=> intro d i _ _ h;simp [ma] at h
  | succ g ihg=>
   intro d i hg hi h
   obtain ⟨g',hg',h | ⟨_,e,j,he,h⟩⟩:=nC h
   ·rw [h.2];exact hi
   ·obtain rfl:g=g':=by omega
    have hj:=((ih g ab).expr _ _ _ _ hl ab (dM hi) he).1
    rcases h with h | h
    ·rw [h.2];exact hj
    ·exact ihg _ _ ab hj h.2
 refine ⟨hend f d j (Nat.le_refl _) ha h,?_⟩
 have hol:=Bm pr
 refine Spec.ofNI Tryz.func236 rfl Tryz.ntmps236 rfl ?_
 refine am (ai (ay (6,0) aa rfl rfl) (aj (am (ai (aU _ _ aa rfl ag (by (simp <;> rfl)) ah rfl) ?_))))
 refine ai (aU _ _ aa rfl ag (by (simp <;> rfl)) ah rfl) ?_
 refine ai (aU _ _ aa rfl ag (by (simp <;> rfl)) ah rfl) ?_
 refine ai (aU _ _ aa rfl ag (by (simp <;> rfl)) ah rfl) ?_
 refine ai (aU _ _ aa rfl ag (by (simp <;> rfl)) ah rfl) ?_
 refine ai (aU _ _ aa rfl ag (by (simp <;> rfl)) ah rfl) ?_
 refine jO rfl (aj (am (bj rfl (aR rfl (aR rfl (ai (bc _ _ rfl rfl (bq ab)) ?_))))))
 refine ai (aO (hb)) (ai (ay (8,0) aa rfl rfl) (bO rfl rfl rfl rfl rfl rfl (aj (aG fun K4 hK4=> ?_))))
 refine au ?_
 refine bC (α:=Nat×Nd×Nat) (fun z=> z.1≤f∧z.2.2 < T.length∧ma T z.1 lv pr z.2.1 z.2.2=some r) 53 [(0,_),(1,_),(2,_),(6,_),(7,_),(8,_)] [((6,0),_)] (fun z=> []) (fun z=> [((0,9), .box 222 [.sl T.length (qf T), .v (.int .i64 (z.2.2:Int)), .v (.int .i64 0), .v (.int .i64 0), .sl N.length (dU N)]),((8,0), .box 71 [.v (.int .i64 (z.2.1.k:Int)), .v (.int .i64 (z.2.1.n:Int)), .v (bt z.2.1.s), .sl z.2.1.kn z.2.1.kids])]) [(0,9)] [(0,9)] (fun z=> z.1) (f,d,j) ?_ (by
  refine Le.mkJ [] [] rfl ?_ ?_ trivial tr ?_
  ·exact ⟨(iP rfl),(iV rfl),(iV rfl),(iP rfl),(iS rfl),(iP rfl),trivial⟩
  ·exact ⟨(cG rfl rfl rfl),(fH rfl rfl rfl rfl lz),(fH rfl rfl rfl rfl (nB (nB (aH (by repeat' (exact Lv.v)) lz)))),trivial⟩
  ·kernel_rfl) ?_
 ·exact ⟨Nat.le_refl _,ha,h⟩
 intro z hz
 obtain ⟨z1,z2,z3⟩:=z
 obtain ⟨hz1,hz2,hz3⟩:=hz
 obtain ⟨g,rfl,hm⟩:=nC hz3
 simp only at hz1 hz2 hm ⊢
 refine aG fun K5 hK5=> ?_
 refine aq (bE 14 [22,23,24,25,26,27,28,29,30,31,32,33,34,35] [] ae ae rfl (aL rfl) (rfl:_=[_,_,_,_,_,_,_,_,_,_,_,_,_,_]) (rfl:_=[]) ?_)
 refine ap (_,[]) (fun τ=> aD _ (rfl:_=AV.ptr _ _)) ?_
 refine eL rfl ?_
 refine ap (_,[]) (fun τ=> aS _ rfl rfl) ?_
 refine eK rfl ?_
 refine ap (_,[]) (fun τ=> aK _ aa rfl rfl rfl) ?_
 refine eM rfl ?_
 refine ap (_,[]) (fun τ=> aN _ aa rfl rfl (rfl:_=some (AV.v (.int _ _)))) ?_
 refine eP rfl ?_
 refine ap (_,[]) (fun τ=> bR (r:=true) _ _ rfl rfl rfl) ?_
 refine fe rfl ?_
 refine ap (_,[]) (fun τ=> aD _ (rfl:_=AV.v (.bool _))) ?_
 refine fB rfl ?_
 refine bV (_,[]) rfl (fun τ=> rfl) (fun τ=> aD _ (rfl:_=AV.sl _ _)) ?_
 refine gy rfl ?_
 refine bV (_,[]) rfl (fun τ=> rfl) (fun τ=> aD _ (rfl:_=AV.v (.int _ _))) ?_
 refine jS rfl ?_
 refine bV (_,[]) rfl (fun τ=> rfl) (fun τ=> bf _ _ aa rfl rfl _ rfl ab ah (by exact Nat.mul_one _)) ?_
 refine kd rfl ?_
 refine bV (_,[]) rfl (fun τ=> rfl) (fun τ=> bB _ aa rfl (by exact BA pr hp) rfl) ?_
 refine fW rfl ?_
 refine bV (_,[]) rfl (fun τ=> rfl) (fun τ=> aD _ (rfl:_=AV.ptr _ _)) ?_
 refine gA rfl ?_
 refine bV (_,[]) rfl (fun τ=> rfl) (fun τ=> (bs aa _ _ ar (bT T z3 N hz2) tr rfl ae (by simp))) ?_
 refine kA rfl ?_
 refine bV (_,[]) rfl (fun τ=> rfl) (fun τ=> (aJ aa al (cw (opsP.getD pr []) _ rfl ab (cX T z3).t) rfl rfl)) ?_
 refine kP rfl ?_
 refine ap (_,[]) (fun τ=> aF _ _ _ rfl (rfl:_=AV.v (.bool _))) ?_
 refine nK rfl (bh ⟨rfl,?_⟩)
 refine aj (aV rfl (fun hc35=> ?_) (fun hc35=> ?_))
 ·skip
  obtain ⟨_,e,je,he,hm⟩:=hm.resolve_left fun x=> x.1 hc35
  obtain ⟨hea,heb⟩:=(ih g ab).expr _ _ _ _ hl ab (dM hz2) he
  refine bA (hK5 _ ?_)
  clear hK5;try clear K5
  refine au (am (bj rfl (ai (bs aa _ _ ar (bT T z3 N hz2) tr rfl ae (by simp)) ?_)))
  refine jb rfl (aj (aq ?_))
  refine aM (σ':=aB 53 [(0,_),(1,_),(2,_),(6,_),(7,_),(8,_),(9,_)] [((6,0),_),((0,9),_),((8,0),_)] [(0,9)] [(0,9)]) kp ?_
  refine an (bj rfl (ai (aO (cm T z3 N hz2 hT)) ?_))
  refine aj (aG fun K9 hK9=> ?_)
  refine an (bj rfl (aR rfl (aR rfl (ai (bc _ _ rfl rfl (bq ab)) ?_))))
  refine ai (aO (heb)) (ai (ay (10,0) aa rfl rfl) (bO rfl rfl rfl rfl rfl rfl (az (hK9 _ ?_))))
  clear hK9;try clear K9
  refine am (dJ rfl (ai (aP _ aa rfl rfl rfl rfl) (ai (aP _ aa rfl rfl rfl rfl) (ai (aU _ _ aa rfl ag (by (simp <;> rfl)) ah rfl) ?_))))
  refine ai (aA _ aa rfl (by exact (rfl:_=some [_,_,_,_]))) ?_
  refine bO rfl rfl rfl rfl rfl rfl (aj (aq ?_))
  refine aM (σ':=aB 53 [(0,_),(1,_),(2,_),(6,_),(7,_),(8,_)] [((6,0),_),((0,9),_),((8,0),_)] [(0,9)] [(0,9)]) kp ?_
  refine an (aR rfl (ai (bR _ _ rfl rfl rfl) (aj (aV rfl (fun hc51=> ?_) (fun hc51=> ?_)))))
  ·skip
   have hr:=(hm.resolve_right fun x=> x.1 ab).2
   subst hr
   refine bL (id (hK4 _ ?_))
   clear hK4;try clear K4
   exact am (ai (aP _ aa rfl rfl rfl rfl) (bO rfl rfl rfl rfl rfl rfl (aj (aC (aY (.inr rfl) rfl (.cellA aa rfl rfl rfl) (Le.outI [] [] (.agg rfl lz) rfl rfl rfl trivial ob tr rfl))))))
  ·skip
   have hm:=(hm.resolve_left fun x=> hc51 ab).2
   refine bA (⟨(g,nd 18 0 (cX T z3).t [z2,e],je),?_,?_,?_⟩)
   ·exact ⟨by simp only;omega,hea,hm⟩
   ·skip
    refine Le.mkJ [] [] rfl ?_ ?_ trivial tr ?_
    ·exact ⟨(iP rfl),(iV rfl),(iV rfl),(iP rfl),(iS rfl),(iP rfl),trivial⟩
    ·exact ⟨(cG rfl rfl rfl),(fH rfl rfl rfl rfl lz),(fH rfl rfl rfl rfl (nB (nB (aH (by repeat' (exact Lv.v)) lz)))),trivial⟩
    ·kernel_rfl
   ·simp only;omega
 ·skip
  have hr:=(hm.resolve_right fun x=> hc35 x.1).2
  subst hr
  refine bL (id (hK4 _ ?_))
  clear hK4;try clear K4
  exact am (ai (aP _ aa rfl rfl rfl rfl) (bO rfl rfl rfl rfl rfl rfl (aj (aC (aY (.inr rfl) rfl (.cellA aa rfl rfl rfl) (Le.outI [] [] (.agg rfl lz) rfl rfl rfl trivial ob tr rfl))))))
theorem DP (hT:T.length≤100000): ∀ f g,g≤f→PE T N g:=by
 intro f
 induction f with
 | zero=>
  intro g hg
  obtain rfl:g=0:=by omega
  exact ⟨fun _ _ _ _ _ _ _ h=> by simp [fP] at h,fun _ _ _ _ _ _ _ _ h=> by simp [EJ] at h,fun _ _ _ _ _ _ _ h=> by simp [vK] at h,fun _ _ _ _ _ h=> by simp [pe] at h,fun _ _ _ _ _ h=> by simp [rp] at h⟩
 | succ f ih=>
  intro g hg
  rcases Nat.lt_or_ge g (f+1) with h | h
  ·exact ih g ab
  ·obtain rfl:g=f+1:=by omega
   exact ⟨vy f (ih f (Nat.le_refl _)),As hT f (ih f (Nat.le_refl _)),xe hT f ih,uO hT f (ih f (Nat.le_refl _)),wC hT f (ih f (Nat.le_refl _))⟩
theorem vk (hT:T.length≤100000) {f lv i:Nat} {r:Nd×Nat} (hl:lv≤20) (hi:i < T.length) (h:fP T f lv 1 i=some r):r.2 < T.length∧Spec Tryz.prog 226 (be [.ptr (0,9) 0, .v (.int .i64 (lv:Int)), .v (.int .i64 1)] (dD T i N)) (PO T N r):=
 (DP hT f f (Nat.le_refl _)).expr lv 1 i r hl ab hi h
end

structure PS (T:List Tk) (N:List Tx) (f:Nat):Prop where
 stm: ∀ lv i r,lv≤20→i < T.length→vT T f lv i=some r→r.2 < T.length∧Spec Tryz.prog 202 (be [.ptr (0,9) 0, .v (.int .i64 (lv:Int))] (dD T i N)) (PO T N r)
 blk: ∀ lv i r,lv≤21→i < T.length→oZ T f lv i=some r→r.2 < T.length∧Spec Tryz.prog 164 (be [.ptr (0,9) 0, .v (.int .i64 (lv:Int))] (dD T i N)) (PO T N r)
def zC:List Tx:=[tK,jg,nE,gq,jI,nT,lO,nS,nV]
theorem fm {T:List Tk} {i:Nat} (h:tD (cX T i).t=true):dZ T i=false:=by unfold dZ;rw [h];simp
section
variable {T:List Tk} {N:List Tx}
theorem wp (hT:T.length≤100000) (lv i:Nat) (hl:lv≤20) (hi:i < T.length) (hn:dZ T i=true) {d:Nd} {j1 j2 j3:Nat} (h1:Spec Tryz.prog 162 (be [.ptr (0,9) 0, .v (bt [61])] (dD T (bQ T i) N)) (bg (.tup []) (dD T j1 N) [(0,9)] [(0,9)])) (h2:Spec Tryz.prog 226 (be [.ptr (0,9) 0, .v (.int .i64 (lv:Int)), .v (.int .i64 1)] (dD T j1 N)) (PO T N (d,j2))) (h3:Spec Tryz.prog 162 (be [.ptr (0,9) 0, .v (bt [59])] (dD T j2 N)) (bg (.tup []) (dD T j3 N) [(0,9)] [(0,9)])):
  Spec Tryz.prog 202 (be [.ptr (0,9) 0, .v (.int .i64 (lv:Int))] (dD T i N)) (PO T N (nd 1 0 (cX T i).t [d],j3)):=by
 refine Spec.ofNI Tryz.func202 rfl Tryz.ntmps202 rfl ?_
 refine am (ai (ay (4,0) aa rfl rfl) (aj (am (bj rfl (ai (bs aa _ _ ar (bT T i N hi) tr rfl ae (by simp)) ?_)))))
 refine jb rfl (aj (am (ai (aA _ aa rfl (by exact (rfl:_=some [_,_,_,_]))) ?_)))
 refine ai (ay (6,0) aa rfl rfl) (bO rfl rfl rfl rfl rfl rfl (aj (aq (am (bj rfl (ai (bs aa _ _ ar (dC T i N hi) tr rfl ae (by simp)) ?_))))))
 refine aj (bD rfl hn (am (bj rfl (ai (aO (cm T i N hi hT)) ?_))))
 refine aj (aG fun K7 hK7=> ?_)
 refine an (bj rfl (ai (aO (h1)) (az (hK7 _ ?_))))
 clear hK7;try clear K7
 refine aG fun K8 hK8=> ?_
 refine an (dJ rfl (bj rfl (aR rfl (ai (aO (h2)) (ai (aU _ _ aa rfl ag (by (simp <;> rfl)) ah rfl) ?_)))))
 refine ai (aA _ aa rfl (by exact (rfl:_=some [_,_,_,_]))) ?_
 refine bO rfl rfl rfl rfl rfl rfl (az (hK8 _ ?_))
 clear hK8;try clear K8
 refine aG fun K9 hK9=> ?_
 refine aM (σ':=aB 145 [(0,_),(4,_),(6,_)] [((0,9),_),((4,0),_),((6,0),_)] [(0,9)] [(0,9)]) kp ?_
 refine an (bj rfl (ai (aO (h3)) (az (hK9 _ ?_))))
 clear hK9;try clear K9
 exact am (ai (aP _ aa rfl rfl rfl rfl) (bO rfl rfl rfl rfl rfl rfl (aj (aC (aY (.inr rfl) rfl (.cellA aa rfl rfl rfl) (Le.outI [] [] (.agg rfl lz) rfl rfl rfl trivial ob tr rfl))))))
theorem yK (hT:T.length≤100000) (lv i:Nat) (hl:lv≤20) (hi:i < T.length) (ht:(cX T i).t=jg) {c x:Nd} {j1 j2:Nat} (h1:Spec Tryz.prog 226 (be [.ptr (0,9) 0, .v (.int .i64 (lv:Int)), .v (.int .i64 1)] (dD T (bQ T i) N)) (PO T N (c,j1))) (h2:Spec Tryz.prog 164 (be [.ptr (0,9) 0, .v (.int .i64 ((lv+1:Nat):Int))] (dD T j1 N)) (PO T N (x,j2))):
  Spec Tryz.prog 202 (be [.ptr (0,9) 0, .v (.int .i64 (lv:Int))] (dD T i N)) (PO T N (nd 3 0 [] [c,x],j2)):=by
 have hnx:=bT T i N hi
 have hn:dZ T i=false:=fm (by rw [ht];rfl)
 rw [ht] at hnx
 refine Spec.ofNI Tryz.func202 rfl Tryz.ntmps202 rfl ?_
 refine am (ai (ay (4,0) aa rfl rfl) (aj (am (bj rfl (ai (bs aa _ _ ar (hnx) tr rfl ae (by simp)) ?_)))))
 refine jb rfl (aj (am (ai (aA _ aa rfl (by exact (rfl:_=some [_,_,_,_]))) ?_)))
 refine ai (ay (6,0) aa rfl rfl) (bO rfl rfl rfl rfl rfl rfl (aj (aq (am (bj rfl (ai (bs aa _ _ ar (dC T i N hi) tr rfl ae (by simp)) ?_))))))
 refine aj (aQ rfl hn (aI (aq (am (ai (aU _ _ aa rfl ag (by (simp <;> rfl)) ah rfl) ?_)))))
 refine dJ rfl (ai (aJ aa al (cw zC 9 rfl ab jg) rfl rfl) ?_)
 refine ai (cN (r:=false) _ rfl rfl) (aj (aQ rfl rfl (aI (am (bj rfl (ai (aO (cm T i N hi hT)) ?_))))))
 refine aj (aq (aq ?_))
 refine aM (σ':=aB 145 [(0,_),(1,_),(4,_),(5,_),(6,_)] [((0,9),_),((4,0),_),((6,0),_)] [(0,9)] [(0,9)]) kp ?_
 refine an (dJ rfl (aj (au (aq (am (ai (aT (r:=false) _ _ Tryz.underlying9 rfl rfl rfl) (cq rfl (aj (aQ rfl rfl (an ?_))))))))))
 refine ai (aT (r:=true) _ _ Tryz.underlying9 rfl rfl rfl) (cq rfl (aj (bD rfl rfl (aG fun K13 hK13=> ?_))))
 refine an (bj rfl (aR rfl (ai (aO (h1)) (ai (ay (7,0) aa rfl rfl) (bO rfl rfl rfl rfl rfl rfl (az (hK13 _ ?_)))))))
 clear hK13;try clear K13
 refine aG fun K14 hK14=> ?_
 refine aM (σ':=aB 145 [(0,_),(1,_),(4,_),(5,_),(7,_)] [((0,9),_),((4,0),_),((7,0),_)] [(0,9)] [(0,9)]) kp ?_
 refine bE 5 [53,54,55,56,57] [(0,9)] ae ae rfl (aL rfl) (rfl:_=[_,_,_,_,_]) (rfl:_=[_,_]) ?_
 refine ap (_,[]) (fun τ=> aP _ aa rfl rfl rfl rfl) ?_
 refine eL rfl ?_
 refine ap (_,[]) (fun τ=> aD _ (rfl:_=AV.ptr _ _)) ?_
 refine eK rfl ?_
 refine ap (_,[]) (fun τ=> aD _ (rfl:_=AV.v (.int _ _))) ?_
 refine eM rfl ?_
 refine ap (_,[]) (fun τ=> bc _ _ rfl rfl (bq ab)) ?_
 refine eP rfl ?_
 refine ap (_,[((0,9),_)]) (fun τ=> (ck aa ar (h2) ob rfl rfl ae)) ?_
 refine fe rfl (bh ⟨rfl,?_⟩)
 refine ai (aU _ _ aa rfl ag (by (simp <;> rfl)) ah rfl) ?_
 refine jO rfl (az (hK14 _ ?_))
 clear hK14;try clear K14
 refine aq (am (dJ rfl (ai (aT (r:=true) _ _ Tryz.underlying9 rfl rfl rfl) (aj (bD rfl rfl (am (ep rfl (ai (aA _ aa rfl (by exact (rfl:_=some [_,_,_,_]))) ?_))))))))
 exact bO rfl rfl rfl rfl rfl rfl (aj (aC (aY (.inr rfl) rfl (.cellA aa rfl rfl rfl) (Le.outI [] [] (.agg rfl lz) rfl rfl rfl trivial ob tr rfl))))
theorem Fx (hT:T.length≤100000) (lv i:Nat) (hl:lv≤20) (hi:i < T.length) (ht:(cX T i).t=tK) {c x:Nd} {j1 j2:Nat} (h1:Spec Tryz.prog 226 (be [.ptr (0,9) 0, .v (.int .i64 (lv:Int)), .v (.int .i64 1)] (dD T (bQ T i) N)) (PO T N (c,j1))) (h2:Spec Tryz.prog 164 (be [.ptr (0,9) 0, .v (.int .i64 ((lv+1:Nat):Int))] (dD T j1 N)) (PO T N (x,j2))) (hj:j2 < T.length) (he:(cX T j2).t≠qy):
  Spec Tryz.prog 202 (be [.ptr (0,9) 0, .v (.int .i64 (lv:Int))] (dD T i N)) (PO T N (nd 2 0 [] [c,x,nd 11 0 [] []],j2)):=by
 have hnx:=bT T i N hi
 have hn:dZ T i=false:=fm (by rw [ht];rfl)
 rw [ht] at hnx
 refine Spec.ofNI Tryz.func202 rfl Tryz.ntmps202 rfl ?_
 refine am (ai (ay (4,0) aa rfl rfl) (aj (am (bj rfl (ai (bs aa _ _ ar (hnx) tr rfl ae (by simp)) ?_)))))
 refine jb rfl (aj (am (ai (aA _ aa rfl (by exact (rfl:_=some [_,_,_,_]))) ?_)))
 refine ai (ay (6,0) aa rfl rfl) (bO rfl rfl rfl rfl rfl rfl (aj (aq (am (bj rfl (ai (bs aa _ _ ar (dC T i N hi) tr rfl ae (by simp)) ?_))))))
 refine aj (aQ rfl hn (aI (aq (am (ai (aU _ _ aa rfl ag (by (simp <;> rfl)) ah rfl) ?_)))))
 refine dJ rfl (ai (aJ aa al (cw zC 9 rfl ab tK) rfl rfl) ?_)
 refine ai (cN (r:=false) _ rfl rfl) (aj (aQ rfl rfl (aI (am (bj rfl (ai (aO (cm T i N hi hT)) ?_))))))
 refine aj (aq (aq ?_))
 refine aM (σ':=aB 145 [(0,_),(1,_),(4,_),(5,_),(6,_)] [((0,9),_),((4,0),_),((6,0),_)] [(0,9)] [(0,9)]) kp ?_
 refine an (dJ rfl (aj (au (aq (am (ai (aT (r:=true) _ _ Tryz.underlying9 rfl rfl rfl) (cq rfl (aj (bD rfl rfl (aI ?_))))))))))
 refine bD rfl rfl (aG fun K13 hK13=> ?_)
 refine an (bj rfl (aR rfl (ai (aO (h1)) (ai (ay (7,0) aa rfl rfl) (bO rfl rfl rfl rfl rfl rfl (az (hK13 _ ?_)))))))
 clear hK13;try clear K13
 refine aG fun K14 hK14=> ?_
 refine aM (σ':=aB 145 [(0,_),(1,_),(4,_),(5,_),(7,_)] [((0,9),_),((4,0),_),((7,0),_)] [(0,9)] [(0,9)]) kp ?_
 refine bE 5 [53,54,55,56,57] [(0,9)] ae ae rfl (aL rfl) (rfl:_=[_,_,_,_,_]) (rfl:_=[_,_]) ?_
 refine ap (_,[]) (fun τ=> aP _ aa rfl rfl rfl rfl) ?_
 refine eL rfl ?_
 refine ap (_,[]) (fun τ=> aD _ (rfl:_=AV.ptr _ _)) ?_
 refine eK rfl ?_
 refine ap (_,[]) (fun τ=> aD _ (rfl:_=AV.v (.int _ _))) ?_
 refine eM rfl ?_
 refine ap (_,[]) (fun τ=> bc _ _ rfl rfl (bq ab)) ?_
 refine eP rfl ?_
 refine ap (_,[((0,9),_)]) (fun τ=> (ck aa ar (h2) ob rfl rfl ae)) ?_
 refine fe rfl (bh ⟨rfl,?_⟩)
 refine ai (kf (58,0) _ _ aa rfl ag (by (simp <;> rfl)) ah rfl rfl) ?_
 refine eZ rfl (az (hK14 _ ?_))
 clear hK14;try clear K14
 refine aq (am (dJ rfl (ai (aT (r:=false) _ _ Tryz.underlying9 rfl rfl rfl) (aj (aQ rfl rfl (aI (am (ai (aA _ aa rfl (by exact (rfl:_=some [_,_,_,_]))) ?_))))))))
 refine ai (ay (9,0) aa rfl rfl) (bO rfl rfl rfl rfl rfl rfl (aj (aq (am (bj rfl (ai (aS _ rfl rfl) (bF rfl rfl rfl (cI rfl rfl rfl (jc rfl rfl rfl (cH rfl ?_))))))))))
 refine ax rfl rfl (aD _ (rfl:_=AV.ptr _ _)) (ax rfl rfl (bs aa _ _ ar (bT T j2 N hj) tr rfl ae (by simp)) ?_)
 refine ax rfl rfl (aT (r:=false) _ _ Tryz.underlying9 rfl rfl (beq_eq_false_iff_ne.2 he)) ?_
 refine ai (aF _ _ _ rfl (rfl:_=AV.v (.bool _))) (aj (aQ rfl rfl (aI (aq ?_))))
 refine aM (σ':=aB 145 [(4,_),(8,_),(9,_)] [((4,0),_),((58,0),_),((9,0),_),((0,9),_)] [(0,9)] [(0,9)]) kp ?_
 refine an (gG rfl (cB (Le.nil0 (9,0) 3 rfl rfl) ?_))
 refine ai (aP _ aa rfl rfl rfl rfl) (ai (aU _ _ aa rfl ag (by (simp <;> rfl)) ah rfl) ?_)
 refine ai (dg (83,0) _ _ aa rfl rfl ag (by (refine .sl ?_;(simp [da];done))) ab rfl (rfl) (rfl)) ?_
 refine ai (aA _ aa rfl (by exact (rfl:_=some [_,_,_,_]))) ?_
 exact bO rfl rfl rfl rfl rfl rfl (aj (aC (aY (.inr rfl) rfl (.cellA aa rfl rfl rfl) (Le.outI [] [(83,0)] (.agg rfl (aH .v (aH .v (aH .v (aH (iy rfl rfl rfl rfl) br))))) rfl rfl rfl tr ob tr rfl))))
theorem uN (hT:T.length≤100000) (lv i:Nat) (hl:lv≤20) (hi:i < T.length) (ht:(cX T i).t=tK) {c x y:Nd} {j1 j2 j3:Nat} (h1:Spec Tryz.prog 226 (be [.ptr (0,9) 0, .v (.int .i64 (lv:Int)), .v (.int .i64 1)] (dD T (bQ T i) N)) (PO T N (c,j1))) (h2:Spec Tryz.prog 164 (be [.ptr (0,9) 0, .v (.int .i64 ((lv+1:Nat):Int))] (dD T j1 N)) (PO T N (x,j2))) (hj:j2 < T.length) (he:(cX T j2).t=qy) (h3:Spec Tryz.prog 164 (be [.ptr (0,9) 0, .v (.int .i64 ((lv+1:Nat):Int))] (dD T (bQ T j2) N)) (PO T N (y,j3))):
  Spec Tryz.prog 202 (be [.ptr (0,9) 0, .v (.int .i64 (lv:Int))] (dD T i N)) (PO T N (nd 2 0 [] [c,x,y],j3)):=by
 have hnx:=bT T i N hi
 have hn:dZ T i=false:=fm (by rw [ht];rfl)
 rw [ht] at hnx
 refine Spec.ofNI Tryz.func202 rfl Tryz.ntmps202 rfl ?_
 refine am (ai (ay (4,0) aa rfl rfl) (aj (am (bj rfl (ai (bs aa _ _ ar (hnx) tr rfl ae (by simp)) ?_)))))
 refine jb rfl (aj (am (ai (aA _ aa rfl (by exact (rfl:_=some [_,_,_,_]))) ?_)))
 refine ai (ay (6,0) aa rfl rfl) (bO rfl rfl rfl rfl rfl rfl (aj (aq (am (bj rfl (ai (bs aa _ _ ar (dC T i N hi) tr rfl ae (by simp)) ?_))))))
 refine aj (aQ rfl hn (aI (aq (am (ai (aU _ _ aa rfl ag (by (simp <;> rfl)) ah rfl) ?_)))))
 refine dJ rfl (ai (aJ aa al (cw zC 9 rfl ab tK) rfl rfl) ?_)
 refine ai (cN (r:=false) _ rfl rfl) (aj (aQ rfl rfl (aI (am (bj rfl (ai (aO (cm T i N hi hT)) ?_))))))
 refine aj (aq (aq ?_))
 refine aM (σ':=aB 145 [(0,_),(1,_),(4,_),(5,_),(6,_)] [((0,9),_),((4,0),_),((6,0),_)] [(0,9)] [(0,9)]) kp ?_
 refine an (dJ rfl (aj (au (aq (am (ai (aT (r:=true) _ _ Tryz.underlying9 rfl rfl rfl) (cq rfl (aj (bD rfl rfl (aI ?_))))))))))
 refine bD rfl rfl (aG fun K13 hK13=> ?_)
 refine an (bj rfl (aR rfl (ai (aO (h1)) (ai (ay (7,0) aa rfl rfl) (bO rfl rfl rfl rfl rfl rfl (az (hK13 _ ?_)))))))
 clear hK13;try clear K13
 refine aG fun K14 hK14=> ?_
 refine aM (σ':=aB 145 [(0,_),(1,_),(4,_),(5,_),(7,_)] [((0,9),_),((4,0),_),((7,0),_)] [(0,9)] [(0,9)]) kp ?_
 refine bE 5 [53,54,55,56,57] [(0,9)] ae ae rfl (aL rfl) (rfl:_=[_,_,_,_,_]) (rfl:_=[_,_]) ?_
 refine ap (_,[]) (fun τ=> aP _ aa rfl rfl rfl rfl) ?_
 refine eL rfl ?_
 refine ap (_,[]) (fun τ=> aD _ (rfl:_=AV.ptr _ _)) ?_
 refine eK rfl ?_
 refine ap (_,[]) (fun τ=> aD _ (rfl:_=AV.v (.int _ _))) ?_
 refine eM rfl ?_
 refine ap (_,[]) (fun τ=> bc _ _ rfl rfl (bq ab)) ?_
 refine eP rfl ?_
 refine ap (_,[((0,9),_)]) (fun τ=> (ck aa ar (h2) ob rfl rfl ae)) ?_
 refine fe rfl (bh ⟨rfl,?_⟩)
 refine ai (kf (58,0) _ _ aa rfl ag (by (simp <;> rfl)) ah rfl rfl) ?_
 refine eZ rfl (az (hK14 _ ?_))
 clear hK14;try clear K14
 refine aq (am (dJ rfl (ai (aT (r:=false) _ _ Tryz.underlying9 rfl rfl rfl) (aj (aQ rfl rfl (aI (am (ai (aA _ aa rfl (by exact (rfl:_=some [_,_,_,_]))) ?_))))))))
 refine ai (ay (9,0) aa rfl rfl) (bO rfl rfl rfl rfl rfl rfl (aj (aG fun K18 hK18=> ?_)))
 refine am (bj rfl (ai (aS _ rfl rfl) (bF rfl rfl rfl (cI rfl rfl rfl (jc rfl rfl rfl (cH rfl (ax rfl rfl (aD _ (rfl:_=AV.ptr _ _)) (ax rfl rfl (bs aa _ _ ar (bT T j2 N hj) tr rfl ae (by simp)) ?_))))))))
 refine ax rfl rfl (aT (r:=true) _ _ Tryz.underlying9 rfl rfl (beq_iff_eq.2 he)) ?_
 refine ai (aF _ _ _ rfl (rfl:_=AV.v (.bool _))) (aj (bD rfl rfl (aG fun K20 hK20=> ?_)))
 refine aM (σ':=aB 145 [(0,_),(1,_),(4,_),(8,_),(9,_)] [((0,9),_),((4,0),_),((58,0),_),((9,0),_)] [(0,9)] [(0,9)]) kp ?_
 refine an (bj rfl (ai (aO (cm T j2 N hj hT)) ?_))
 refine az (hK20 _ ?_)
 clear hK20;try clear K20
 refine an (bj rfl (aR rfl (ai (bc _ _ rfl rfl (bq ab)) ?_)))
 refine ai (aO (h3)) (bO rfl rfl rfl rfl rfl rfl (az (hK18 _ ?_)))
 clear hK18;try clear K18
 refine am (gG rfl (ai (aP _ aa rfl rfl rfl rfl) (ai (aU _ _ aa rfl ag (by (simp <;> rfl)) ah rfl) ?_)))
 refine ai (dg (83,0) _ _ aa rfl rfl ag (by (refine .sl ?_;(simp [da];done))) ab rfl (rfl) (rfl)) ?_
 refine ai (aA _ aa rfl (by exact (rfl:_=some [_,_,_,_]))) ?_
 exact bO rfl rfl rfl rfl rfl rfl (aj (aC (aY (.inr rfl) rfl (.cellA aa rfl rfl rfl) (Le.outI [] [(83,0)] (.agg rfl (aH .v (aH .v (aH .v (aH (iy rfl rfl rfl rfl) br))))) rfl rfl rfl tr ob tr rfl))))
theorem Ci (hT:T.length≤100000) (lv i:Nat) (hl:lv≤20) (hi:i < T.length) (ht:(cX T i).t=nE) {x y z:Nd} {k j1 j2 j3 j4 j5 j6 j7 j8:Nat} (h1:Spec Tryz.prog 226 (be [.ptr (0,9) 0, .v (.int .i64 (lv:Int)), .v (.int .i64 1)] (dD T (bQ T i) N)) (PO T N (x,j1))) (h2:Spec Tryz.prog 162 (be [.ptr (0,9) 0, .v (bt [44])] (dD T j1 N)) (bg (.tup []) (dD T j2 N) [(0,9)] [(0,9)])) (h3:Spec Tryz.prog 200 (be [.ptr (0,9) 0, .v (.int .i64 29)] (dD T j2 N)) (bg (.v (.int .i64 (k:Int))) (dD T j3 N) [(0,9)] [(0,9)])) (h4:Spec Tryz.prog 162 (be [.ptr (0,9) 0, .v (bt [44])] (dD T j3 N)) (bg (.tup []) (dD T j4 N) [(0,9)] [(0,9)])) (h5:Spec Tryz.prog 226 (be [.ptr (0,9) 0, .v (.int .i64 (lv:Int)), .v (.int .i64 1)] (dD T j4 N)) (PO T N (y,j5))) (h6:Spec Tryz.prog 162 (be [.ptr (0,9) 0, .v (bt [44])] (dD T j5 N)) (bg (.tup []) (dD T j6 N) [(0,9)] [(0,9)])) (h7:Spec Tryz.prog 226 (be [.ptr (0,9) 0, .v (.int .i64 (lv:Int)), .v (.int .i64 1)] (dD T j6 N)) (PO T N (z,j7))) (h8:Spec Tryz.prog 162 (be [.ptr (0,9) 0, .v (bt [59])] (dD T j7 N)) (bg (.tup []) (dD T j8 N) [(0,9)] [(0,9)])):
  Spec Tryz.prog 202 (be [.ptr (0,9) 0, .v (.int .i64 (lv:Int))] (dD T i N)) (PO T N (nd 4 k [] [x,y,z],j8)):=by
 have hnx:=bT T i N hi
 have hn:dZ T i=false:=fm (by rw [ht];rfl)
 rw [ht] at hnx
 refine Spec.ofNI Tryz.func202 rfl Tryz.ntmps202 rfl ?_
 refine am (ai (ay (4,0) aa rfl rfl) (aj (am (bj rfl (ai (bs aa _ _ ar (hnx) tr rfl ae (by simp)) ?_)))))
 refine jb rfl (aj (am (ai (aA _ aa rfl (by exact (rfl:_=some [_,_,_,_]))) ?_)))
 refine ai (ay (6,0) aa rfl rfl) (bO rfl rfl rfl rfl rfl rfl (aj (aq (am (bj rfl (ai (bs aa _ _ ar (dC T i N hi) tr rfl ae (by simp)) ?_))))))
 refine aj (aQ rfl hn (aI (aq (am (ai (aU _ _ aa rfl ag (by (simp <;> rfl)) ah rfl) ?_)))))
 refine dJ rfl (ai (aJ aa al (cw zC 9 rfl ab nE) rfl rfl) ?_)
 refine ai (cN (r:=false) _ rfl rfl) (aj (aQ rfl rfl (aI (am (bj rfl (ai (aO (cm T i N hi hT)) ?_))))))
 refine aj (aG fun K9 hK9=> ?_)
 refine aq ?_
 refine aM (σ':=aB 145 [(0,_),(1,_),(4,_),(5,_),(6,_)] [((0,9),_),((4,0),_),((6,0),_)] [(0,9)] [(0,9)]) kp ?_
 refine an (dJ rfl (aj (au (aq (am (ai (aT (r:=false) _ _ Tryz.underlying9 rfl rfl rfl) (cq rfl (aj (aQ rfl rfl (an ?_))))))))))
 refine ai (aT (r:=false) _ _ Tryz.underlying9 rfl rfl rfl) (cq rfl (aj (aQ rfl rfl (am (ai (aT (r:=true) _ _ Tryz.underlying9 rfl rfl rfl) (cq rfl (aj (bD rfl rfl (aG fun K14 hK14=> ?_)))))))))
 refine an (bj rfl (aR rfl (ai (aO (h1)) (ai (ay (10,0) aa rfl rfl) (bO rfl rfl rfl rfl rfl rfl (az (hK14 _ ?_)))))))
 clear hK14;try clear K14
 refine aG fun K15 hK15=> ?_
 refine an (bj rfl (ai (aO (h2)) (az (hK15 _ ?_))))
 clear hK15;try clear K15
 refine aG fun K16 hK16=> ?_
 refine an (bj rfl (ai (aO (h3)) (ba rfl (az (hK16 _ ?_)))))
 clear hK16;try clear K16
 refine aG fun K17 hK17=> ?_
 refine aM (σ':=aB 145 [(0,_),(1,_),(4,_),(6,_),(10,_),(11,_)] [((0,9),_),((4,0),_),((6,0),_),((10,0),_)] [(0,9)] [(0,9)]) kp ?_
 refine an (bj rfl (ai (aO (h4)) (az (hK17 _ ?_))))
 clear hK17;try clear K17
 refine aG fun K18 hK18=> ?_
 refine an (bj rfl (aR rfl (ai (aO (h5)) (ai (ay (12,0) aa rfl rfl) (bO rfl rfl rfl rfl rfl rfl (az (hK18 _ ?_)))))))
 clear hK18;try clear K18
 refine aG fun K19 hK19=> ?_
 refine an (bj rfl (ai (aO (h6)) (az (hK19 _ ?_))))
 clear hK19;try clear K19
 refine aM (σ':=aB 145 [(0,_),(1,_),(4,_),(6,_),(10,_),(11,_),(12,_)] [((0,9),_),((4,0),_),((6,0),_),((10,0),_),((12,0),_)] [(0,9)] [(0,9)]) kp ?_
 refine bE 7 [101,102,103,104,105,106,107] [(0,9)] ae ae rfl (aL rfl) (rfl:_=[_,_,_,_,_,_,_]) (rfl:_=[_,_]) ?_
 refine ap (_,[]) (fun τ=> aD _ (rfl:_=AV.v (.int _ _))) ?_
 refine eL rfl ?_
 refine ap (_,[]) (fun τ=> aP _ aa rfl rfl rfl rfl) ?_
 refine eK rfl ?_
 refine ap (_,[]) (fun τ=> aP _ aa rfl rfl rfl rfl) ?_
 refine eM rfl ?_
 refine ap (_,[]) (fun τ=> aD _ (rfl:_=AV.ptr _ _)) ?_
 refine eP rfl ?_
 refine ap (_,[]) (fun τ=> aD _ (rfl:_=AV.v (.int _ _))) ?_
 refine fe rfl ?_
 refine ap (_,[((0,9),_)]) (fun τ=> (ck aa ar (h7) ob rfl rfl ae)) ?_
 refine fB rfl ?_
 refine ap (_,[]) (fun τ=> aU _ _ aa rfl ag (by (simp;exact ⟨rfl,rfl⟩)) ah rfl) ?_
 refine gy rfl (bh ⟨rfl,?_⟩)
 refine ai (aA _ aa rfl (by exact (rfl:_=some [_,_,_,_]))) ?_
 refine bO rfl rfl rfl rfl rfl rfl (az (hK9 _ ?_))
 clear hK9;try clear K9
 refine aG fun K20 hK20=> ?_
 refine an (bj rfl (ai (aO (h8)) (az (hK20 _ ?_))))
 clear hK20;try clear K20
 exact am (ai (aP _ aa rfl rfl rfl rfl) (bO rfl rfl rfl rfl rfl rfl (aj (aC (aY (.inr rfl) rfl (.cellA aa rfl rfl rfl) (Le.outI [] [] (.agg rfl lz) rfl rfl rfl trivial ob tr rfl))))))
theorem wM (hT:T.length≤100000) (lv i:Nat) (hl:lv≤20) (hi:i < T.length) (ht:(cX T i).t=gq) {k j1 j2:Nat} (h1:Spec Tryz.prog 200 (be [.ptr (0,9) 0, .v (.int .i64 7)] (dD T (bQ T i) N)) (bg (.v (.int .i64 (k:Int))) (dD T j1 N) [(0,9)] [(0,9)])) (h2:Spec Tryz.prog 162 (be [.ptr (0,9) 0, .v (bt [59])] (dD T j1 N)) (bg (.tup []) (dD T j2 N) [(0,9)] [(0,9)])):
  Spec Tryz.prog 202 (be [.ptr (0,9) 0, .v (.int .i64 (lv:Int))] (dD T i N)) (PO T N (nd 5 k [] [],j2)):=by
 have hnx:=bT T i N hi
 have hn:dZ T i=false:=fm (by rw [ht];rfl)
 rw [ht] at hnx
 refine Spec.ofNI Tryz.func202 rfl Tryz.ntmps202 rfl ?_
 refine am (ai (ay (4,0) aa rfl rfl) (aj (am (bj rfl (ai (bs aa _ _ ar (hnx) tr rfl ae (by simp)) ?_)))))
 refine jb rfl (aj (am (ai (aA _ aa rfl (by exact (rfl:_=some [_,_,_,_]))) ?_)))
 refine ai (ay (6,0) aa rfl rfl) (bO rfl rfl rfl rfl rfl rfl (aj (aq (am (bj rfl (ai (bs aa _ _ ar (dC T i N hi) tr rfl ae (by simp)) ?_))))))
 refine aj (aQ rfl hn (aI (aq (am (ai (aU _ _ aa rfl ag (by (simp <;> rfl)) ah rfl) ?_)))))
 refine dJ rfl (ai (aJ aa al (cw zC 9 rfl ab gq) rfl rfl) ?_)
 refine ai (cN (r:=false) _ rfl rfl) (aj (aQ rfl rfl (aI (am (bj rfl (ai (aO (cm T i N hi hT)) ?_))))))
 refine aj (aG fun K9 hK9=> ?_)
 refine aq ?_
 refine aM (σ':=aB 145 [(0,_),(1,_),(4,_),(5,_),(6,_)] [((0,9),_),((4,0),_),((6,0),_)] [(0,9)] [(0,9)]) kp ?_
 refine an (dJ rfl (aj (au (aq (am (ai (aT (r:=false) _ _ Tryz.underlying9 rfl rfl rfl) (cq rfl (aj (aQ rfl rfl (an ?_))))))))))
 refine ai (aT (r:=false) _ _ Tryz.underlying9 rfl rfl rfl) (cq rfl (aj (aQ rfl rfl (am (ai (aT (r:=false) _ _ Tryz.underlying9 rfl rfl rfl) (cq rfl (aj (aQ rfl rfl (am (ai (aT (r:=true) _ _ Tryz.underlying9 rfl rfl rfl) ?_))))))))))
 refine cq rfl (aj (bD rfl rfl (an (bj rfl (ai (aO (h1)) (ai (aA _ aa rfl (by exact (rfl:_=some [_,_,_,_]))) ?_))))))
 refine bO rfl rfl rfl rfl rfl rfl (az (hK9 _ ?_))
 clear hK9;try clear K9
 refine aG fun K15 hK15=> ?_
 refine an (bj rfl (ai (aO (h2)) (az (hK15 _ ?_))))
 clear hK15;try clear K15
 refine aq ?_
 refine aM (σ':=aB 145 [(4,_),(6,_)] [((4,0),_),((6,0),_),((0,9),_)] [(0,9)] [(0,9)]) kp ?_
 exact an (ai (aP _ aa rfl rfl rfl rfl) (bO rfl rfl rfl rfl rfl rfl (aj (aC (aY (.inr rfl) rfl (.cellA aa rfl rfl rfl) (Le.outI [] [] (.agg rfl lz) rfl rfl rfl trivial ob tr rfl))))))
theorem ww (hT:T.length≤100000) (lv i:Nat) (hl:lv≤20) (hi:i < T.length) (ht:(cX T i).t=jI) {k j1 j2:Nat} (h1:Spec Tryz.prog 200 (be [.ptr (0,9) 0, .v (.int .i64 7)] (dD T (bQ T i) N)) (bg (.v (.int .i64 (k:Int))) (dD T j1 N) [(0,9)] [(0,9)])) (h2:Spec Tryz.prog 162 (be [.ptr (0,9) 0, .v (bt [59])] (dD T j1 N)) (bg (.tup []) (dD T j2 N) [(0,9)] [(0,9)])):
  Spec Tryz.prog 202 (be [.ptr (0,9) 0, .v (.int .i64 (lv:Int))] (dD T i N)) (PO T N (nd 6 k [] [],j2)):=by
 have hnx:=bT T i N hi
 have hn:dZ T i=false:=fm (by rw [ht];rfl)
 rw [ht] at hnx
 refine Spec.ofNI Tryz.func202 rfl Tryz.ntmps202 rfl ?_
 refine am (ai (ay (4,0) aa rfl rfl) (aj (am (bj rfl (ai (bs aa _ _ ar (hnx) tr rfl ae (by simp)) ?_)))))
 refine jb rfl (aj (am (ai (aA _ aa rfl (by exact (rfl:_=some [_,_,_,_]))) ?_)))
 refine ai (ay (6,0) aa rfl rfl) (bO rfl rfl rfl rfl rfl rfl (aj (aq (am (bj rfl (ai (bs aa _ _ ar (dC T i N hi) tr rfl ae (by simp)) ?_))))))
 refine aj (aQ rfl hn (aI (aq (am (ai (aU _ _ aa rfl ag (by (simp <;> rfl)) ah rfl) ?_)))))
 refine dJ rfl (ai (aJ aa al (cw zC 9 rfl ab jI) rfl rfl) ?_)
 refine ai (cN (r:=false) _ rfl rfl) (aj (aQ rfl rfl (aI (am (bj rfl (ai (aO (cm T i N hi hT)) ?_))))))
 refine aj (aG fun K9 hK9=> ?_)
 refine aq ?_
 refine aM (σ':=aB 145 [(0,_),(1,_),(4,_),(5,_),(6,_)] [((0,9),_),((4,0),_),((6,0),_)] [(0,9)] [(0,9)]) kp ?_
 refine an (dJ rfl (aj (au (aq (am (ai (aT (r:=false) _ _ Tryz.underlying9 rfl rfl rfl) (cq rfl (aj (aQ rfl rfl (an ?_))))))))))
 refine ai (aT (r:=false) _ _ Tryz.underlying9 rfl rfl rfl) (cq rfl (aj (aQ rfl rfl (am (ai (aT (r:=false) _ _ Tryz.underlying9 rfl rfl rfl) (cq rfl (aj (aQ rfl rfl (am (ai (aT (r:=false) _ _ Tryz.underlying9 rfl rfl rfl) ?_))))))))))
 refine cq rfl (aj (aQ rfl rfl (am (ai (aT (r:=true) _ _ Tryz.underlying9 rfl rfl rfl) (cq rfl (aj (bD rfl rfl (an (bj rfl (ai (aO (h1)) ?_))))))))))
 refine ai (aA _ aa rfl (by exact (rfl:_=some [_,_,_,_]))) ?_
 refine bO rfl rfl rfl rfl rfl rfl (az (hK9 _ ?_))
 clear hK9;try clear K9
 refine aG fun K16 hK16=> ?_
 refine aM (σ':=aB 145 [(0,_),(4,_),(6,_)] [((0,9),_),((4,0),_),((6,0),_)] [(0,9)] [(0,9)]) kp ?_
 refine an (bj rfl (ai (aO (h2)) (az (hK16 _ ?_))))
 clear hK16;try clear K16
 exact am (ai (aP _ aa rfl rfl rfl rfl) (bO rfl rfl rfl rfl rfl rfl (aj (aC (aY (.inr rfl) rfl (.cellA aa rfl rfl rfl) (Le.outI [] [] (.agg rfl lz) rfl rfl rfl trivial ob tr rfl))))))
theorem wJ (hT:T.length≤100000) (lv i:Nat) (hl:lv≤20) (hi:i < T.length) (ht:(cX T i).t=lO) {x y:Nd} {j1 j2 j3 j4:Nat} (h1:Spec Tryz.prog 226 (be [.ptr (0,9) 0, .v (.int .i64 (lv:Int)), .v (.int .i64 1)] (dD T (bQ T i) N)) (PO T N (x,j1))) (h2:Spec Tryz.prog 162 (be [.ptr (0,9) 0, .v (bt [44])] (dD T j1 N)) (bg (.tup []) (dD T j2 N) [(0,9)] [(0,9)])) (h3:Spec Tryz.prog 226 (be [.ptr (0,9) 0, .v (.int .i64 (lv:Int)), .v (.int .i64 1)] (dD T j2 N)) (PO T N (y,j3))) (h4:Spec Tryz.prog 162 (be [.ptr (0,9) 0, .v (bt [59])] (dD T j3 N)) (bg (.tup []) (dD T j4 N) [(0,9)] [(0,9)])):
  Spec Tryz.prog 202 (be [.ptr (0,9) 0, .v (.int .i64 (lv:Int))] (dD T i N)) (PO T N (nd 8 0 [] [x,y],j4)):=by
 have hnx:=bT T i N hi
 have hn:dZ T i=false:=fm (by rw [ht];rfl)
 rw [ht] at hnx
 refine Spec.ofNI Tryz.func202 rfl Tryz.ntmps202 rfl ?_
 refine am (ai (ay (4,0) aa rfl rfl) (aj (am (bj rfl (ai (bs aa _ _ ar (hnx) tr rfl ae (by simp)) ?_)))))
 refine jb rfl (aj (am (ai (aA _ aa rfl (by exact (rfl:_=some [_,_,_,_]))) ?_)))
 refine ai (ay (6,0) aa rfl rfl) (bO rfl rfl rfl rfl rfl rfl (aj (aq (am (bj rfl (ai (bs aa _ _ ar (dC T i N hi) tr rfl ae (by simp)) ?_))))))
 refine aj (aQ rfl hn (aI (aq (am (ai (aU _ _ aa rfl ag (by (simp <;> rfl)) ah rfl) ?_)))))
 refine dJ rfl (ai (aJ aa al (cw zC 9 rfl ab lO) rfl rfl) ?_)
 refine ai (cN (r:=false) _ rfl rfl) (aj (aQ rfl rfl (aI (am (bj rfl (ai (aO (cm T i N hi hT)) ?_))))))
 refine aj (aG fun K9 hK9=> ?_)
 refine aq ?_
 refine aM (σ':=aB 145 [(0,_),(1,_),(4,_),(5,_),(6,_)] [((0,9),_),((4,0),_),((6,0),_)] [(0,9)] [(0,9)]) kp ?_
 refine an (dJ rfl (aj (au (aq (am (ai (aT (r:=false) _ _ Tryz.underlying9 rfl rfl rfl) (cq rfl (aj (aQ rfl rfl (an ?_))))))))))
 refine ai (aT (r:=false) _ _ Tryz.underlying9 rfl rfl rfl) (cq rfl (aj (aQ rfl rfl (am (ai (aT (r:=false) _ _ Tryz.underlying9 rfl rfl rfl) (cq rfl (aj (aQ rfl rfl (am (ai (aT (r:=false) _ _ Tryz.underlying9 rfl rfl rfl) ?_))))))))))
 refine cq rfl (aj (aQ rfl rfl (am (ai (aT (r:=false) _ _ Tryz.underlying9 rfl rfl rfl) (cq rfl (aj (aQ rfl rfl (am (ai (aT (r:=true) _ _ Tryz.underlying9 rfl rfl rfl) (cq rfl ?_))))))))))
 refine aj (bD rfl rfl (aG fun K17 hK17=> ?_))
 refine an (bj rfl (aR rfl (ai (aO (h1)) (ai (ay (13,0) aa rfl rfl) (bO rfl rfl rfl rfl rfl rfl (az (hK17 _ ?_)))))))
 clear hK17;try clear K17
 refine aG fun K18 hK18=> ?_
 refine aM (σ':=aB 145 [(0,_),(1,_),(4,_),(6,_),(13,_)] [((0,9),_),((4,0),_),((6,0),_),((13,0),_)] [(0,9)] [(0,9)]) kp ?_
 refine an (bj rfl (ai (aO (h2)) (az (hK18 _ ?_))))
 clear hK18;try clear K18
 refine bE 4 [126,127,128,129] [(0,9)] ae ae rfl (aL rfl) (rfl:_=[_,_,_,_]) (rfl:_=[_,_,_]) ?_
 refine ap (_,[]) (fun τ=> aP _ aa rfl rfl rfl rfl) ?_
 refine eL rfl ?_
 refine ap (_,[]) (fun τ=> aD _ (rfl:_=AV.ptr _ _)) ?_
 refine eK rfl ?_
 refine ap (_,[]) (fun τ=> aD _ (rfl:_=AV.v (.int _ _))) ?_
 refine eM rfl ?_
 refine ap (_,[((0,9),_)]) (fun τ=> (ck aa ar (h3) ob rfl rfl ae)) ?_
 refine eP rfl (bh ⟨rfl,?_⟩)
 refine ai (aU _ _ aa rfl ag (by (simp <;> rfl)) ah rfl) ?_
 refine ai (aA _ aa rfl (by exact (rfl:_=some [_,_,_,_]))) ?_
 refine bO rfl rfl rfl rfl rfl rfl (az (hK9 _ ?_))
 clear hK9;try clear K9
 refine aG fun K19 hK19=> ?_
 refine an (bj rfl (ai (aO (h4)) (az (hK19 _ ?_))))
 clear hK19;try clear K19
 exact am (ai (aP _ aa rfl rfl rfl rfl) (bO rfl rfl rfl rfl rfl rfl (aj (aC (aY (.inr rfl) rfl (.cellA aa rfl rfl rfl) (Le.outI [] [] (.agg rfl lz) rfl rfl rfl trivial ob tr rfl))))))
theorem BY (hT:T.length≤100000) (lv i:Nat) (hl:lv≤20) (hi:i < T.length) (ht:(cX T i).t=nS) {x:Nd} {j1 j2:Nat} (h1:Spec Tryz.prog 226 (be [.ptr (0,9) 0, .v (.int .i64 (lv:Int)), .v (.int .i64 1)] (dD T (bQ T i) N)) (PO T N (x,j1))) (h2:Spec Tryz.prog 162 (be [.ptr (0,9) 0, .v (bt [59])] (dD T j1 N)) (bg (.tup []) (dD T j2 N) [(0,9)] [(0,9)])):
  Spec Tryz.prog 202 (be [.ptr (0,9) 0, .v (.int .i64 (lv:Int))] (dD T i N)) (PO T N (nd 9 0 [] [x],j2)):=by
 have hnx:=bT T i N hi
 have hn:dZ T i=false:=fm (by rw [ht];rfl)
 rw [ht] at hnx
 refine Spec.ofNI Tryz.func202 rfl Tryz.ntmps202 rfl ?_
 refine am (ai (ay (4,0) aa rfl rfl) (aj (am (bj rfl (ai (bs aa _ _ ar (hnx) tr rfl ae (by simp)) ?_)))))
 refine jb rfl (aj (am (ai (aA _ aa rfl (by exact (rfl:_=some [_,_,_,_]))) ?_)))
 refine ai (ay (6,0) aa rfl rfl) (bO rfl rfl rfl rfl rfl rfl (aj (aq (am (bj rfl (ai (bs aa _ _ ar (dC T i N hi) tr rfl ae (by simp)) ?_))))))
 refine aj (aQ rfl hn (aI (aq (am (ai (aU _ _ aa rfl ag (by (simp <;> rfl)) ah rfl) ?_)))))
 refine dJ rfl (ai (aJ aa al (cw zC 9 rfl ab nS) rfl rfl) ?_)
 refine ai (cN (r:=false) _ rfl rfl) (aj (aQ rfl rfl (aI (am (bj rfl (ai (aO (cm T i N hi hT)) ?_))))))
 refine aj (aG fun K9 hK9=> ?_)
 refine aq ?_
 refine aM (σ':=aB 145 [(0,_),(1,_),(4,_),(5,_),(6,_)] [((0,9),_),((4,0),_),((6,0),_)] [(0,9)] [(0,9)]) kp ?_
 refine an (dJ rfl (aj (au (aq (am (ai (aT (r:=false) _ _ Tryz.underlying9 rfl rfl rfl) (cq rfl (aj (aQ rfl rfl (an ?_))))))))))
 refine ai (aT (r:=false) _ _ Tryz.underlying9 rfl rfl rfl) (cq rfl (aj (aQ rfl rfl (am (ai (aT (r:=false) _ _ Tryz.underlying9 rfl rfl rfl) (cq rfl (aj (aQ rfl rfl (am (ai (aT (r:=false) _ _ Tryz.underlying9 rfl rfl rfl) ?_))))))))))
 refine cq rfl (aj (aQ rfl rfl (am (ai (aT (r:=false) _ _ Tryz.underlying9 rfl rfl rfl) (cq rfl (aj (aQ rfl rfl (am (ai (aT (r:=false) _ _ Tryz.underlying9 rfl rfl rfl) (cq rfl ?_))))))))))
 refine aj (aQ rfl rfl (am (ai (aT (r:=true) _ _ Tryz.underlying9 rfl rfl rfl) (cq rfl (aj (bD rfl rfl ?_))))))
 refine aM (σ':=aB 145 [(0,_),(1,_),(4,_),(6,_)] [((0,9),_),((4,0),_),((6,0),_)] [(0,9)] [(0,9)]) kp ?_
 refine an (bj rfl (aR rfl (ai (aO (h1)) (ai (aU _ _ aa rfl ag (by (simp <;> rfl)) ah rfl) ?_))))
 refine ai (aA _ aa rfl (by exact (rfl:_=some [_,_,_,_]))) ?_
 refine bO rfl rfl rfl rfl rfl rfl (az (hK9 _ ?_))
 clear hK9;try clear K9
 refine aG fun K18 hK18=> ?_
 refine an (bj rfl (ai (aO (h2)) (az (hK18 _ ?_))))
 clear hK18;try clear K18
 exact am (ai (aP _ aa rfl rfl rfl rfl) (bO rfl rfl rfl rfl rfl rfl (aj (aC (aY (.inr rfl) rfl (.cellA aa rfl rfl rfl) (Le.outI [] [] (.agg rfl lz) rfl rfl rfl trivial ob tr rfl))))))
theorem BP (hT:T.length≤100000) (lv i:Nat) (hl:lv≤20) (hi:i < T.length) (ht:(cX T i).t=nT) {j1:Nat} (h1:Spec Tryz.prog 162 (be [.ptr (0,9) 0, .v (bt [59])] (dD T (bQ T i) N)) (bg (.tup []) (dD T j1 N) [(0,9)] [(0,9)])):
  Spec Tryz.prog 202 (be [.ptr (0,9) 0, .v (.int .i64 (lv:Int))] (dD T i N)) (PO T N (nd 7 0 [] [],j1)):=by
 have hnx:=bT T i N hi
 have hn:dZ T i=false:=fm (by rw [ht];rfl)
 rw [ht] at hnx
 refine Spec.ofNI Tryz.func202 rfl Tryz.ntmps202 rfl ?_
 refine am (ai (ay (4,0) aa rfl rfl) (aj (am (bj rfl (ai (bs aa _ _ ar (hnx) tr rfl ae (by simp)) ?_)))))
 refine jb rfl (aj (am (ai (aA _ aa rfl (by exact (rfl:_=some [_,_,_,_]))) ?_)))
 refine ai (ay (6,0) aa rfl rfl) (bO rfl rfl rfl rfl rfl rfl (aj (aq (am (bj rfl (ai (bs aa _ _ ar (dC T i N hi) tr rfl ae (by simp)) ?_))))))
 refine aj (aQ rfl hn (aI (aq (am (ai (aU _ _ aa rfl ag (by (simp <;> rfl)) ah rfl) ?_)))))
 refine dJ rfl (ai (aJ aa al (cw zC 9 rfl ab nT) rfl rfl) ?_)
 refine ai (cN (r:=false) _ rfl rfl) (aj (aQ rfl rfl (aI (am (bj rfl (ai (aO (cm T i N hi hT)) ?_))))))
 refine aj (aq (aq ?_))
 refine aM (σ':=aB 145 [(0,_),(1,_),(4,_),(5,_),(6,_)] [((0,9),_),((4,0),_),((6,0),_)] [(0,9)] [(0,9)]) kp ?_
 refine an (dJ rfl (aj (au (aq (am (ai (aT (r:=false) _ _ Tryz.underlying9 rfl rfl rfl) (cq rfl (aj (aQ rfl rfl (an ?_))))))))))
 refine ai (aT (r:=false) _ _ Tryz.underlying9 rfl rfl rfl) (cq rfl (aj (aQ rfl rfl (am (ai (aT (r:=false) _ _ Tryz.underlying9 rfl rfl rfl) (cq rfl (aj (aQ rfl rfl (am (ai (aT (r:=false) _ _ Tryz.underlying9 rfl rfl rfl) ?_))))))))))
 refine cq rfl (aj (aQ rfl rfl (am (ai (aT (r:=false) _ _ Tryz.underlying9 rfl rfl rfl) (cq rfl (aj (aQ rfl rfl (am (ai (aT (r:=false) _ _ Tryz.underlying9 rfl rfl rfl) (cq rfl ?_))))))))))
 refine aj (aQ rfl rfl (am (ai (aT (r:=false) _ _ Tryz.underlying9 rfl rfl rfl) (cq rfl (aj (aQ rfl rfl (aq ?_)))))))
 refine aM (σ':=aB 145 [(0,_),(4,_),(6,_),(45,_)] [((0,9),_),((4,0),_),((6,0),_)] [(0,9)] [(0,9)]) kp ?_
 refine an (ai (aT (r:=true) _ _ Tryz.underlying9 rfl rfl rfl) (cq rfl (aj (bD rfl rfl (an (bF rfl rfl rfl (bO rfl rfl rfl rfl rfl rfl (fT (aG fun K19 hK19=> ?_)))))))))
 refine an (bj rfl (ai (aO (h1)) (az (hK19 _ ?_))))
 clear hK19;try clear K19
 exact am (ai (aP _ aa rfl rfl rfl rfl) (bO rfl rfl rfl rfl rfl rfl (aj (aC (aY (.inr rfl) rfl (.cellA aa rfl rfl rfl) (Le.outI [] [] (.agg rfl lz) rfl rfl rfl trivial ob tr rfl))))))
theorem AL (hT:T.length≤100000) (lv i:Nat) (hl:lv≤20) (hi:i < T.length) (ht:(cX T i).t=nV) {j1:Nat} (h1:Spec Tryz.prog 162 (be [.ptr (0,9) 0, .v (bt [59])] (dD T (bQ T i) N)) (bg (.tup []) (dD T j1 N) [(0,9)] [(0,9)])):
  Spec Tryz.prog 202 (be [.ptr (0,9) 0, .v (.int .i64 (lv:Int))] (dD T i N)) (PO T N (nd 10 0 [] [],j1)):=by
 have hnx:=bT T i N hi
 have hn:dZ T i=false:=fm (by rw [ht];rfl)
 rw [ht] at hnx
 refine Spec.ofNI Tryz.func202 rfl Tryz.ntmps202 rfl ?_
 refine am (ai (ay (4,0) aa rfl rfl) (aj (am (bj rfl (ai (bs aa _ _ ar (hnx) tr rfl ae (by simp)) ?_)))))
 refine jb rfl (aj (am (ai (aA _ aa rfl (by exact (rfl:_=some [_,_,_,_]))) ?_)))
 refine ai (ay (6,0) aa rfl rfl) (bO rfl rfl rfl rfl rfl rfl (aj (aq (am (bj rfl (ai (bs aa _ _ ar (dC T i N hi) tr rfl ae (by simp)) ?_))))))
 refine aj (aQ rfl hn (aI (aq (am (ai (aU _ _ aa rfl ag (by (simp <;> rfl)) ah rfl) ?_)))))
 refine dJ rfl (ai (aJ aa al (cw zC 9 rfl ab nV) rfl rfl) ?_)
 refine ai (cN (r:=false) _ rfl rfl) (aj (aQ rfl rfl (aI (am (bj rfl (ai (aO (cm T i N hi hT)) ?_))))))
 refine aj (aq (aq ?_))
 refine aM (σ':=aB 145 [(0,_),(1,_),(4,_),(5,_),(6,_)] [((0,9),_),((4,0),_),((6,0),_)] [(0,9)] [(0,9)]) kp ?_
 refine an (dJ rfl (aj (au (aq (am (ai (aT (r:=false) _ _ Tryz.underlying9 rfl rfl rfl) (cq rfl (aj (aQ rfl rfl (an ?_))))))))))
 refine ai (aT (r:=false) _ _ Tryz.underlying9 rfl rfl rfl) (cq rfl (aj (aQ rfl rfl (am (ai (aT (r:=false) _ _ Tryz.underlying9 rfl rfl rfl) (cq rfl (aj (aQ rfl rfl (am (ai (aT (r:=false) _ _ Tryz.underlying9 rfl rfl rfl) ?_))))))))))
 refine cq rfl (aj (aQ rfl rfl (am (ai (aT (r:=false) _ _ Tryz.underlying9 rfl rfl rfl) (cq rfl (aj (aQ rfl rfl (am (ai (aT (r:=false) _ _ Tryz.underlying9 rfl rfl rfl) (cq rfl ?_))))))))))
 refine aj (aQ rfl rfl (am (ai (aT (r:=false) _ _ Tryz.underlying9 rfl rfl rfl) (cq rfl (aj (aQ rfl rfl (aq ?_)))))))
 refine aM (σ':=aB 145 [(0,_),(4,_),(6,_),(45,_)] [((0,9),_),((4,0),_),((6,0),_)] [(0,9)] [(0,9)]) kp ?_
 refine an (ai (aT (r:=false) _ _ Tryz.underlying9 rfl rfl rfl) (cq rfl (aj (aQ rfl rfl (an (bF rfl rfl rfl (bO rfl rfl rfl rfl rfl rfl (fT (aG fun K19 hK19=> ?_)))))))))
 refine an (bj rfl (ai (aO (h1)) (az (hK19 _ ?_))))
 clear hK19;try clear K19
 exact am (ai (aP _ aa rfl rfl rfl rfl) (bO rfl rfl rfl rfl rfl rfl (aj (aC (aY (.inr rfl) rfl (.cellA aa rfl rfl rfl) (Le.outI [] [] (.agg rfl lz) rfl rfl rfl trivial ob tr rfl))))))
end

def kL (l:List Nd):List PV:=l.flatMap Nd.row
theorem bJ (l:List Nd):(kL l).length=l.length*4:=mr Nd.row 4 (fun _=> rfl) l
theorem rS (l:List Nd) (d:Nd):kL l++d.row=kL (l++[d]):=lE Nd.row l d
theorem nU {T:List Tk} {g lv i:Nat} {r:List Nd×Nat} (h:lu T g lv i=some r): ∃ f,g=f+1∧((cX T i).t=[125]∧r=([],i)∨(cX T i).t≠[125]∧ ∃ d j l k,vT T f lv i=some (d,j)∧lu T f lv j=some (l,k)∧r=(d::l,k)):=by
 cases g with
 | zero=> simp [lu] at h
 | succ f=>
  refine ⟨f,rfl,?_⟩
  unfold lu at h
  split at h
  ·rename_i ht;exact .inl ⟨ht,(Option.some.inj h).symm⟩
  ·rename_i ht
   simp only [Option.bind_eq_bind,Option.bind_eq_some_iff,Option.pure_def] at h
   obtain ⟨⟨d,j⟩,hd,⟨l,k⟩,hl,h⟩:=h
   exact .inr ⟨ht,d,j,l,k,hd,hl,(Option.some.inj h).symm⟩
section
variable {T:List Tk} {N:List Tx}
theorem xX (hT:T.length≤100000) (f:Nat) (hf:f≤2000000) (ih: ∀ g,g≤f→PS T N g) (lv i:Nat) (r:Nd×Nat) (hl:lv≤21) (hi:i < T.length) (h:oZ T (f+1) lv i=some r):
  r.2 < T.length∧Spec Tryz.prog 164 (be [.ptr (0,9) 0, .v (.int .i64 (lv:Int))] (dD T i N)) (PO T N r):=by
 unfold oZ at h
 simp only [Option.bind_eq_bind,Option.bind_eq_some_iff,Option.pure_def,Option.some.injEq] at h
 obtain ⟨j,hj,⟨L,j2⟩,hL,j3,hj3,rfl⟩:=h
 have ho:=jn hj
 have hjl:=ip ho.2 hi
 have hl':=ho.1
 have hopen:=mm T i j N [123] lv hi hT hj
 simp only at hj3 ⊢
 have hend: ∀ (g i:Nat) (r:List Nd×Nat),g≤f→i < T.length→lu T g lv i=some r→r.2 < T.length:=by
  intro g
  induction g with
  | zero=> intro i r _ _ h;simp [lu] at h
  | succ g ihg=>
   intro i r hg hi h
   obtain ⟨g',hg',h | ⟨_,d,j,l,k,hd,hm,h⟩⟩:=nU h
   ·rw [h.2];exact hi
   ·obtain rfl:g=g':=by omega
    rw [h]
    exact ihg j (l,k) ab ((ih g ab).stm _ _ _ hl' hi hd).1 hm
 have hj2:=hend f j _ (Nat.le_refl _) hjl hL
 refine ⟨ip hj3 hj2,?_⟩
 refine Spec.ofNI Tryz.func164 rfl Tryz.ntmps164 rfl ?_
 refine am (ai (ay (4,0) aa rfl rfl) (aj (am (ai (aA _ aa rfl (by exact (rfl:_=some [_,_,_,_]))) ?_))))
 refine ai (ay (5,0) aa rfl rfl) (bO rfl rfl rfl rfl rfl rfl (aj (aq ?_)))
 refine aM (Le.nilB (5,0) 3 (60,0) 71 4 rfl rfl rfl) ?_
 refine an (bj rfl (aR rfl (ai (aO (hopen)) (aj (aG fun K4 hK4=> ?_)))))
 refine au ?_
 refine bC (α:=Nat×List Nd×Nat) (fun z=> z.1≤f∧z.2.1.length+z.1=f∧z.2.2 < T.length∧ ∃ l,lu T z.1 lv z.2.2=some (l,j2)∧L=z.2.1++l) 31 [(0,_),(1,_),(4,_),(5,_)] [((4,0),_)] (fun z=> []) (fun z=> [((0,9), .box 222 [.sl T.length (qf T), .v (.int .i64 (z.2.2:Int)), .v (.int .i64 0), .v (.int .i64 0), .sl N.length (dU N)]),((5,0), .box 71 [.v (.int .i64 11), .v (.int .i64 0), .v (bt []), .ref (60,0) 0 z.2.1.length]),((60,0), .row 71 4 (kL z.2.1))]) [(0,9)] [(0,9)] (fun z=> z.1) (f,[],j) ?_ (by
  refine Le.mkJ [] [] rfl ?_ ?_ trivial tr ?_
  ·exact ⟨(iP rfl),(iV rfl),(iP rfl),(iP rfl),trivial⟩
  ·exact ⟨(cG rfl rfl rfl),(fH rfl rfl rfl rfl lz),(fH rfl rfl rfl rfl (nB (nB (aH (by repeat' (exact Lv.v)) lz)))),(gH rfl rfl rfl ag),trivial⟩
  ·kernel_rfl) ?_
 ·exact ⟨Nat.le_refl _,Nat.zero_add _,hjl,L,hL,rfl⟩
 intro z hz
 obtain ⟨z1,z2,z3⟩:=z
 obtain ⟨hz1,hz2,hz3,l,hz4,hz5⟩:=hz
 obtain ⟨g,rfl,hm⟩:=nU hz4
 simp only at hz1 hz2 hz3 hz5 hm ⊢
 refine aG fun K5 hK5=> ?_
 refine am (bj rfl (ai (aS _ rfl rfl) (bF rfl rfl rfl (cI rfl rfl rfl (jc rfl rfl rfl (cH rfl (ax rfl rfl (aD _ (rfl:_=AV.ptr _ _)) (ax rfl rfl (bs aa _ _ ar (bT T z3 N hz3) tr rfl ae (by simp)) ?_))))))))
 refine ax rfl rfl (qB _ _ Tryz.underlying9 rfl rfl rfl) (ai (aF _ _ _ rfl (rfl:_=AV.v (.bool _))) (aj (aV rfl (fun hc19=> ?_) (fun hc19=> ?_))))
 ·skip
  obtain ⟨_,d,jd,l',k',hd,hm',hr⟩:=hm.resolve_left fun x=> hc19 x.1
  obtain ⟨rfl,rfl⟩:=Prod.mk.inj hr
  obtain ⟨hda,hdb⟩:=(ih g ab).stm _ _ _ hl' hz3 hd
  have hlen:(z2++[d]).length=z2.length+1:=by simp
  refine bA (hK5 _ ?_)
  clear hK5;try clear K5
  refine au ?_
  refine aM (σ':=aB 31 [(0,_),(1,_),(4,_),(5,_)] [((4,0),_),((0,9),_),((5,0),_),((60,0),_)] [(0,9)] [(0,9)]) kp ?_
  refine bE 6 [20,21,22,23,24,25] [(0,9)] ae ae rfl (aL rfl) (rfl:_=[_,_,_,_,_,_]) (rfl:_=[_,_,_]) ?_
  refine ap (_,[]) (fun τ=> aK _ aa rfl rfl rfl) ?_
  refine eL rfl ?_
  refine ap (_,[]) (fun τ=> aN _ aa rfl rfl (rfl:_=some (AV.ref _ _ _))) ?_
  refine eK rfl ?_
  refine ap (_,[]) (fun τ=> aD _ (rfl:_=AV.ptr _ _)) ?_
  refine eM rfl ?_
  refine ap (_,[]) (fun τ=> aD _ (rfl:_=AV.v (.int _ _))) ?_
  refine eP rfl ?_
  refine ap (_,[((0,9),_)]) (fun τ=> (ck aa ar (hdb) ob rfl rfl ae)) ?_
  refine fe rfl ?_
  refine ap (_,[]) (fun τ=> aU _ _ aa rfl ag (by (simp <;> rfl)) ah rfl) ?_
  refine fB rfl (bh ⟨rfl,?_⟩)
  refine ai (dg (26,0) _ _ aa rfl rfl (bJ _).symm (.sl rfl) ab rfl (rS _ d) hlen.symm) ?_
  refine bF rfl rfl rfl (bO rfl rfl rfl rfl rfl rfl (az (⟨(g,z2++[d],jd),?_,?_,?_⟩)))
  ·exact ⟨by simp only;omega,by simp only;omega,hda,l',hm',by rw [hz5];simp⟩
  ·skip
   refine Le.mkJ [((60,0),(26,0))] [] rfl ?_ ?_ trivial tr ?_
   ·exact ⟨(dL (id:=(0,9)) rfl),(by repeat' (exact Lv.v)),(dL (id:=(4,0)) rfl),(dL (id:=(5,0)) rfl),trivial⟩
   ·exact ⟨(fH rfl rfl rfl rfl (by repeat' (first | exact Lv.v | exact br | refine aH ?_ ?_))),(fH rfl rfl rfl rfl lz),(fH rfl rfl rfl rfl (nB (nB (aH (by repeat' (exact Lv.v)) lz)))),(gH rfl rfl rfl ag),trivial⟩
   ·kernel_rfl
  ·simp only;omega
 ·skip
  obtain ⟨_,hr⟩:=hm.resolve_right fun x=> x.1 hc19
  obtain ⟨rfl,rfl⟩:=Prod.mk.inj hr
  rw [List.append_nil] at hz5
  subst hz5
  have hexp:=fb T j2 j3 N [125] hj2 hT hj3
  refine bL (id (hK4 _ ?_))
  clear hK4;try clear K4
  exact am (bj rfl (ai (aO (hexp)) (aj (am (ai (aP _ aa rfl rfl rfl rfl) (bO rfl rfl rfl rfl rfl rfl (aj (aC (aY (.inr rfl) rfl (.cellA aa rfl rfl rfl) (Le.outI [] [(60,0)] (.agg rfl (aH .v (aH .v (aH .v (aH (iy rfl rfl (bJ _).symm rfl) br))))) rfl rfl rfl tr ob tr rfl))))))))))
theorem qu {T:List Tk} {most i:Nat} {r:Nat×Nat} (h:mZ T most i=some r) (hi:i < T.length):r.2 < T.length:=by
 unfold mZ at h
 split at h
 ·rw [← Option.some.inj h];exact dM hi
 ·cases h
theorem zr (hT:T.length≤100000) (f:Nat) (ih:PS T N f) (lv i:Nat) (r:Nd×Nat) (hl:lv≤20) (hi:i < T.length) (h:vT T (f+1) lv i=some r):
  r.2 < T.length∧Spec Tryz.prog 202 (be [.ptr (0,9) 0, .v (.int .i64 (lv:Int))] (dD T i N)) (PO T N r):=by
 have htl:=dM hi
 have hx:=fun {i:Nat} {r:Nd×Nat} (hi:i < T.length) (h:fP T f lv 1 i=some r)=> vk (N:=N) hT hl hi h
 have hb:=fun {i:Nat} {r:Nd×Nat} (hi:i < T.length) (h:oZ T f (lv+1) i=some r)=> ih.blk (lv+1) i r ab hi h
 have he:=fun {i j:Nat} {s:Tx} (hi:i < T.length) (h:fU T s i=some j)=> And.intro (ip h hi) (fb T i j N s hi hT h)
 have hn:=fun {i most:Nat} {r:Nat×Nat} (hm:most≤1000) (hi:i < T.length) (h:mZ T most i=some r)=> And.intro (qu h hi) (jW T i N most hi hT hm r h)
 unfold vT at h
 simp only at h
 by_cases h0:dZ T i=true
 ·rw [if_pos h0] at h
  simp only [Option.bind_eq_bind,Option.bind_eq_some_iff,Option.pure_def,Option.some.injEq] at h
  obtain ⟨j1,e1,⟨d,j2⟩,e2,j3,e3,rfl⟩:=h
  obtain ⟨a1,b1⟩:=he htl e1
  obtain ⟨a2,b2⟩:=hx a1 e2
  obtain ⟨a3,b3⟩:=he a2 e3
  exact ⟨a3,wp hT lv i hl hi h0 b1 b2 b3⟩
 rw [if_neg h0] at h
 by_cases h1:(cX T i).t=tK∨(cX T i).t=jg
 ·rw [if_pos h1] at h
  simp only [Option.bind_eq_bind,Option.bind_eq_some_iff,Option.pure_def] at h
  obtain ⟨⟨c,j1⟩,e1,⟨x,j2⟩,e2,h⟩:=h
  obtain ⟨a1,b1⟩:=hx htl e1
  obtain ⟨a2,b2⟩:=hb a1 e2
  simp only at h
  by_cases hw:(cX T i).t=jg
  ·rw [if_pos hw] at h
   obtain rfl:=Option.some.inj h
   exact ⟨a2,yK hT lv i hl hi hw b1 b2⟩
  ·rw [if_neg hw] at h
   have hf:=h1.resolve_right hw
   by_cases hel:(cX T j2).t=qy
   ·rw [if_pos hel] at h
    simp only [Option.bind_eq_some_iff,Option.some.injEq] at h
    obtain ⟨⟨y,j3⟩,e3,rfl⟩:=h
    obtain ⟨a3,b3⟩:=hb (dM a2) e3
    exact ⟨a3,uN hT lv i hl hi hf b1 b2 a2 hel b3⟩
   ·rw [if_neg hel] at h
    obtain rfl:=Option.some.inj h
    exact ⟨a2,Fx hT lv i hl hi hf b1 b2 a2 hel⟩
 rw [if_neg h1] at h
 by_cases h2:(cX T i).t=nE
 ·rw [if_pos h2] at h
  simp only [Option.bind_eq_bind,Option.bind_eq_some_iff,Option.pure_def,Option.some.injEq] at h
  obtain ⟨⟨x,j1⟩,e1,j2,e2,⟨k,j3⟩,e3,j4,e4,⟨y,j5⟩,e5,j6,e6,⟨z,j7⟩,e7,j8,e8,rfl⟩:=h
  obtain ⟨a1,b1⟩:=hx htl e1
  obtain ⟨a2,b2⟩:=he a1 e2
  obtain ⟨a3,b3⟩:=hn ab a2 e3
  obtain ⟨a4,b4⟩:=he a3 e4
  obtain ⟨a5,b5⟩:=hx a4 e5
  obtain ⟨a6,b6⟩:=he a5 e6
  obtain ⟨a7,b7⟩:=hx a6 e7
  obtain ⟨a8,b8⟩:=he a7 e8
  exact ⟨a8,Ci hT lv i hl hi h2 b1 b2 b3 b4 b5 b6 b7 b8⟩
 rw [if_neg h2] at h
 by_cases h3:(cX T i).t=gq
 ·rw [if_pos h3] at h
  simp only [Option.bind_eq_bind,Option.bind_eq_some_iff,Option.pure_def,Option.some.injEq] at h
  obtain ⟨⟨k,j1⟩,e1,j2,e2,rfl⟩:=h
  obtain ⟨a1,b1⟩:=hn ab htl e1
  obtain ⟨a2,b2⟩:=he a1 e2
  exact ⟨a2,wM hT lv i hl hi h3 b1 b2⟩
 rw [if_neg h3] at h
 by_cases h4:(cX T i).t=jI
 ·rw [if_pos h4] at h
  simp only [Option.bind_eq_bind,Option.bind_eq_some_iff,Option.pure_def,Option.some.injEq] at h
  obtain ⟨⟨k,j1⟩,e1,j2,e2,rfl⟩:=h
  obtain ⟨a1,b1⟩:=hn ab htl e1
  obtain ⟨a2,b2⟩:=he a1 e2
  exact ⟨a2,ww hT lv i hl hi h4 b1 b2⟩
 rw [if_neg h4] at h
 by_cases h5:(cX T i).t=lO
 ·rw [if_pos h5] at h
  simp only [Option.bind_eq_bind,Option.bind_eq_some_iff,Option.pure_def,Option.some.injEq] at h
  obtain ⟨⟨x,j1⟩,e1,j2,e2,⟨y,j3⟩,e3,j4,e4,rfl⟩:=h
  obtain ⟨a1,b1⟩:=hx htl e1
  obtain ⟨a2,b2⟩:=he a1 e2
  obtain ⟨a3,b3⟩:=hx a2 e3
  obtain ⟨a4,b4⟩:=he a3 e4
  exact ⟨a4,wJ hT lv i hl hi h5 b1 b2 b3 b4⟩
 rw [if_neg h5] at h
 by_cases h6:(cX T i).t=nS
 ·rw [if_pos h6] at h
  simp only [Option.bind_eq_bind,Option.bind_eq_some_iff,Option.pure_def,Option.some.injEq] at h
  obtain ⟨⟨x,j1⟩,e1,j2,e2,rfl⟩:=h
  obtain ⟨a1,b1⟩:=hx htl e1
  obtain ⟨a2,b2⟩:=he a1 e2
  exact ⟨a2,BY hT lv i hl hi h6 b1 b2⟩
 rw [if_neg h6] at h
 by_cases h7:(cX T i).t=nT
 ·rw [if_pos h7] at h
  simp only [Option.bind_eq_bind,Option.bind_eq_some_iff,Option.pure_def,Option.some.injEq] at h
  obtain ⟨j1,e1,rfl⟩:=h
  obtain ⟨a1,b1⟩:=he htl e1
  exact ⟨a1,BP hT lv i hl hi h7 b1⟩
 rw [if_neg h7] at h
 by_cases h8:(cX T i).t=nV
 ·rw [if_pos h8] at h
  simp only [Option.bind_eq_bind,Option.bind_eq_some_iff,Option.pure_def,Option.some.injEq] at h
  obtain ⟨j1,e1,rfl⟩:=h
  obtain ⟨a1,b1⟩:=he htl e1
  exact ⟨a1,AL hT lv i hl hi h8 b1⟩
 rw [if_neg h8] at h
 cases h
theorem DA (hT:T.length≤100000): ∀ f,f≤2000000→ ∀ g,g≤f→PS T N g:=by
 intro f
 induction f with
 | zero=>
  intro _ g hg
  obtain rfl:g=0:=by omega
  exact ⟨fun _ _ _ _ _ h=> by simp [vT] at h,fun _ _ _ _ _ h=> by simp [oZ] at h⟩
 | succ f ih=>
  intro hf g hg
  rcases Nat.lt_or_ge g (f+1) with h | h
  ·exact ih ab g ab
  ·obtain rfl:g=f+1:=by omega
   exact ⟨zr hT f (ih ab f (Nat.le_refl _)),xX hT f ab (ih ab)⟩
theorem sT (hT:T.length≤100000) {f i:Nat} {r:Nd×Nat} (hf:f≤2000000) (hi:i < T.length) (h:oZ T f 1 i=some r):r.2 < T.length∧Spec Tryz.prog 164 (be [.ptr (0,9) 0, .v (.int .i64 1)] (dD T i N)) (PO T N r):=
 (DA hT f hf f (Nat.le_refl _)).blk 1 i r ab hi h
end

class MthV (P:Program) (t:TypeId) (name:String) (f e:outParam TypeId):Prop where
  out: ∀ (ad:Addr) (w:World),(method (P.types.size+Made.depth) t (.pointer (some ad)) name).run P w=((loadVar e ad).run P w).andThen fun v w'=> .ok (f,v) w'
theorem ry {P:Program} {t:TypeId} {ad:Addr} {nm:String} {w:World}:(Builtin.ssaWrapNilChk_ #[t] t #[.pointer (some ad),strVal "",strVal nm]).run P w= .ok (.pointer (some ad)) w:=rfl
theorem xo {P:Program} {n:Nat} {t e f:TypeId} {name:String} {i:TypeInfo} {m:Method} {ad:Addr} {w:World} (hi:P.info? t=some i) (hfind:i.methods.find? (·.name==name)=some m) (hpath:m.path= #[]) (hfunc:m.func=some (f,false))
    (hu:P.underlying t=some (.pointer e)):(method (n+1) t (.pointer (some ad)) name).run P w=((loadVar e ad).run P w).andThen fun v w'=> .ok (f,v) w':=by
  have h1:(typeInfo t).run P w= .ok i w:=by simp [typeInfo,Sem.run,hi]
  have h2:(underlying t).run P w= .ok (.pointer e) w:=by simp [underlying,Sem.run,hu]
  simp only [method,Sem.run_bind,h1,Result.andThen_ok,hfind,hpath,hfunc,follow,Sem.run_pure,receiverAt,h2,Place.get]
  simp only [Array.isEmpty_empty,if_true,Sem.run_bind,ry,Result.andThen_ok,asAddr,Sem.run_pure]
def Ct (P:Program) (t:TypeId) (name:String):Option (TypeId×TypeId):=
  match P.info? t with
  | some i=> match i.methods.find? (·.name==name) with
    | some m=> match m.path.isEmpty,m.func,P.underlying t with
      | true,some (f,false),some (.pointer e)=> some (f,e)
      | _,_,_=> none
    | none=> none
  | none=> none
theorem MthV.of {P:Program} {t e f:TypeId} {name:String} (h:Ct P t name=some (f,e)):MthV P t name f e:=by
  refine ⟨fun ad w=> ?_⟩
  obtain ⟨n,hn⟩: ∃ n,P.types.size+Made.depth=n+1:=⟨_,rfl⟩
  rw [hn]
  unfold Ct at h
  split at h
  · rename_i i hi
    split at h
    · rename_i m hm
      split at h
      · rename_i f' e' hp hf hu
        cases h
        exact xo hi hm (by simpa using hp) hf hu
      · cases h
    · cases h
  · cases h
section
variable {P:Program} {σ:St} {o:Oper} {t:TypeId} {name:String} {f:FuncId} {x:Operand} {xs:Array Operand} {ats:Array TypeId}
end
section
variable {P:Program} {σ:St} {dd:Option Tmp} {op:Op} {ty:TypeId} {f:FuncId} {avs:List AV}
end
theorem Le.incT {σ:St} (id:aE) (h:σ.ob id= .free):Le (σ.setInc id true) σ:=by
  intro K ι S a w R
  refine ⟨ι,S,R.keeps,R.S0,R.Slt,R.nt,R.df,R.fr,R.cl,R.clo,R.ob,R.dom,R.inj,fun i B g h1 h2=> ?_,R.pin,R.pf⟩
  obtain ⟨h3,h4,h5⟩:=R.sep i B g h1 h2
  refine ⟨h3,h4,fun h6=> h5 ?_⟩
  have h7:(bif gE i id then true else σ.inc i)=false:=h6
  cases hb:gE i id with
  | true=> rw [hb] at h7;cases h7
  | false=> rw [hb] at h7;exact h7
theorem nY {P:Program} {σ:St} {z:List Value} {T e:TypeId} {size bytes:Nat} {dd:Option Tmp} {ty:TypeId} (id':aE) (s x:Operand) (E:Elem P T e size bytes z) {id:aE} {n:Nat} {xs:List PV} (hs:σ.eval s= .ref id 0 n) (hid:σ.ob id= .obj (.row e size xs)) (hl:n*size=xs.length) {m:Nat} {news:List PV} (hx:SrcAV σ (σ.eval x) size m news) (hb:(n+m)*bytes≤140737488355328) (hid':σ.ob id'= .free)
    {b:Bool} (hi:σ.inc id=b) (hi':σ.inc id'=b) {ys:List PV} (hy:xs++news=ys) {k:Nat} (hk:n+m=k):Stp P dd (.call { callee:= .builtin .append,args:= #[s,x],argTypes:= #[T,T] }) ty σ (((σ.setOb id .gone).setOb id' (.obj (.row e size ys))).put dd (.ref id' 0 k)):=by
  have h:=dg (P:=P) (dd:=dd) (ty:=ty) id' s x E hs hid hl hx hb hid' hy hk
  rwa [hi,St.setInc_same (by exact hi')] at h

theorem lc {T:List Tk} {f:Nat} {seen:List Tx} {i:Nat} {r:List Tx×Nat} (h:fZ T f seen i=some r): ∃ g,f=g+1∧dZ T i=true∧(cX T i).t∉seen∧seen.length < 16∧
  ((cX T (bQ T i)).t=[44]∧(∃ l j,fZ T g (seen++[(cX T i).t]) (bQ T (bQ T i))=some (l,j)∧r=((cX T i).t::l,j))∨(cX T (bQ T i)).t≠[44]∧ ∃ j,fU T [59] (bQ T i)=some j∧r=([(cX T i).t],j)):=by
 cases f with
 | zero=> simp [fZ] at h
 | succ g=>
  refine ⟨g,rfl,?_⟩
  unfold fZ at h
  split at h
  ·cases h
  ·rename_i hn
   refine ⟨?_,fun hm=> hn (.inr (.inl hm)),Nat.lt_of_not_le fun hl=> hn (.inr (.inr hl)),?_⟩
   ·cases hb:dZ T i with
    | true=> rfl
    | false=> exact absurd (.inl hb) hn
   ·split at h
    ·rename_i ht
     simp only [Option.bind_eq_bind,Option.bind_eq_some_iff,Option.pure_def] at h
     obtain ⟨⟨l,j⟩,hl,h⟩:=h
     exact .inl ⟨ht,l,j,hl,(Option.some.inj h).symm⟩
    ·rename_i ht
     simp only [Option.bind_eq_bind,Option.bind_eq_some_iff,Option.pure_def] at h
     obtain ⟨j,hj,h⟩:=h
     exact .inr ⟨ht,j,hj,(Option.some.inj h).symm⟩
section
variable {T:List Tk}
theorem pR (hT:T.length≤100000) (f:Nat) (N:List Tx) (i0:Nat) (hi:i0 < T.length) (r:List Tx×Nat) (h:fZ T f N (bQ T i0)=some r):
  r.2 < T.length∧N.length+r.1.length≤16∧Spec Tryz.prog 161 (be [.ptr (0,9) 0] (Al T i0 N))
   (bg (.sl r.1.length (dU r.1)) [((0,9), .box 222 [.sl T.length (qf T), .v (.int .i64 (r.2:Int)), .v (.int .i64 0), .v (.int .i64 0), .ref (1,8) 0 (N++r.1).length]),((1,8), .row 9 1 (dU (N++r.1)))] [(0,9),(1,8)] [(0,9)]):=by
 have htl:=dM hi
 have hend: ∀ (g:Nat) (seen:List Tx) (i:Nat) (r:List Tx×Nat),i < T.length→fZ T g seen i=some r→r.2 < T.length∧seen.length+r.1.length≤16:=by
  intro g
  induction g with
  | zero=> intro seen i r _ h;simp [fZ] at h
  | succ g ihg=>
   intro seen i r hi h
   obtain ⟨g',hg',_,_,hs,⟨_,l,j,hl,rfl⟩ | ⟨_,j,hj,rfl⟩⟩:=lc h
   ·obtain rfl:g=g':=by omega
    obtain ⟨h1,h2⟩:=ihg _ _ _ (dM (dM hi)) hl
    simp only [List.length_append,List.length_cons,List.length_nil] at h2 ⊢
    exact ⟨h1,by omega⟩
   ·exact ⟨ip hj (dM hi),by simp;omega⟩
 obtain ⟨ha,hb⟩:=hend f N _ r htl h
 refine ⟨ha,by omega,?_⟩
 have hNl:N.length < 16:=by obtain ⟨_,_,_,_,hs,_⟩:=lc h;exact hs
 refine Spec.ofNI Tryz.func161 rfl Tryz.ntmps161 rfl ?_
 refine am (ai (bH _ (rfl:_=AV.v (.slice _ _ _))) (aj (am (ai (nZ (3,0) _ 9 1 rfl rfl) ?_))))
 refine aj (am (bj rfl (ai (db aa [] ar (jk T i0 N hi hT) ob tr ae) ?_)))
 refine aj (aG fun K4 hK4=> ?_)
 refine au ?_
 refine bC (α:=Nat×List Tx×Nat) (fun z=> (N++z.2.1).length≤16∧z.2.1.length≤16∧z.2.2 < T.length∧ ∃ l,fZ T z.1 (N++z.2.1) z.2.2=some (l,r.2)∧r.1=z.2.1++l) 76 [(0,_)] [] (fun z=> [(3, .ref (3,0) 0 z.2.1.length)]) (fun z=> [((0,9), .box 222 [.sl T.length (qf T), .v (.int .i64 (z.2.2:Int)), .v (.int .i64 0), .v (.int .i64 0), .ref (1,9) 0 (N++z.2.1).length]),((1,9), .row 9 1 (dU (N++z.2.1))),((3,0), .row 9 1 (dU z.2.1))]) [(0,9),(1,9)] [(0,9)] (fun z=> z.1) (f,[],bQ T i0) ?_ (by
  refine Le.mkJ [] [] rfl ?_ ?_ trivial tr ?_
  ·exact ⟨(iP rfl),(dc rfl ag),trivial⟩
  ·exact ⟨(fH rfl rfl rfl rfl (aH (iO ag ag) (nB (nB (nB (aH (dc rfl (by (simp only [List.append_nil]))) br)))))),(gH rfl rfl rfl (by (simp only [List.append_nil]))),(gH rfl rfl rfl ag),trivial⟩
  ·kernel_rfl) ?_
 ·exact ⟨by simp;omega,Nat.zero_le _,htl,r.1,by rw [List.append_nil];exact h,rfl⟩
 intro z hz
 obtain ⟨z1,z2,z3⟩:=z
 obtain ⟨hz1,hz2,hz3,l,hz4,hz5⟩:=hz
 obtain ⟨g,rfl,hn,hs,hsl,hm⟩:=lc hz4
 simp only at hz1 hz2 hz3 hz5 hn hs hsl hm ⊢
 have htz:=dM hz3
 have hl1:(z2++[(cX T z3).t]).length=z2.length+1:=by simp
 have hl2:(N++(z2++[(cX T z3).t])).length=(N++z2).length+1:=by simp;omega
 have ha2:dU (N++z2)++[PV.v (bt (cX T z3).t)]=dU (N++(z2++[(cX T z3).t])):=by rw [lZ,List.append_assoc]
 refine aq (am (bj rfl (ai (aS _ rfl rfl) (bF rfl rfl rfl (cI rfl rfl rfl (jc rfl rfl rfl (aj (bD rfl rfl (aI (au ?_))))))))))
 refine aq (am (bj rfl (ai (bs aa _ _ ar (tM T z3 (N++z2) hz3) tr rfl ae (by simp)) ?_)))
 refine ai (cN (r:=false) _ rfl (by rw [hn];rfl)) ?_
 refine aj (aQ rfl rfl (aq ?_))
 refine aM (σ':=aB 76 [(0,_),(3,_)] [((0,9),_),((1,9),_),((3,0),_)] [(0,9),(1,9)] [(0,9)]) kp ?_
 refine bE 7 [20,21,22,23,24,25,26] [] ae ae rfl (aL rfl) (rfl:_=[_,_,_,_,_,_,_]) (rfl:_=[]) ?_
 refine ap (_,[]) (fun τ=> aD _ (rfl:_=AV.ptr _ _)) ?_
 refine eL rfl ?_
 refine ap (_,[]) (fun τ=> aS _ rfl rfl) ?_
 refine eK rfl ?_
 refine ap (_,[]) (fun τ=> aK _ aa rfl rfl rfl) ?_
 refine eM rfl ?_
 refine ap (_,[]) (fun τ=> aN _ aa rfl rfl (rfl:_=some (AV.ref _ _ _))) ?_
 refine eP rfl ?_
 refine ap (_,[]) (fun τ=> aD _ (rfl:_=AV.ptr _ _)) ?_
 refine fe rfl ?_
 refine ap (_,[]) (fun τ=> (bs aa _ _ ar (eu T z3 (N++z2) hz3) tr rfl ae (by simp))) ?_
 refine fB rfl ?_
 refine ap (_,[]) (fun τ=> (uM aa aw (cw (N++z2) _ rfl ab (cX T z3).t) rfl)) ?_
 refine gy rfl (bh ⟨rfl,?_⟩)
 refine aj (aQ rfl (decide_eq_false hs) ?_)
 refine am (bj rfl (ai (aS _ rfl rfl) (bF rfl rfl rfl (ai (aN _ aa rfl rfl (rfl:_=some (AV.ref _ _ _))) (ai (dz _ aa rfl rfl) (ai (eF _ _ rfl rfl rfl) (aj (aQ rfl (decide_eq_false ab) ?_))))))))
 refine aI (aq (am (bj rfl (ai (aS _ rfl rfl) (bF rfl rfl rfl (cI rfl rfl rfl (ai (bY (r:=false) _ _ rfl rfl rfl) (aj (aQ rfl rfl (aI ?_))))))))))
 refine aq ?_
 refine aM (σ':=aB 76 [(0,_),(3,_)] [((0,9),_),((1,9),_),((3,0),_)] [(0,9),(1,9)] [(0,9)]) kp ?_
 refine an (gG rfl (bj rfl (ai (bs aa _ _ ar (eu T z3 (N++z2) hz3) tr rfl ae (by simp)) ?_)))
 refine ai (aU _ _ aa rfl ag (by (simp <;> rfl)) ah rfl) ?_
 refine ai (dg (54,0) _ _ aa rfl rfl (by simp) (.sl rfl) ab rfl (lZ _ _) hl1.symm) ?_
 refine eZ rfl (aj (aq ?_))
 refine aM (σ':=aB 76 [(0,_),(3,_)] [((0,9),_),((1,9),_),((54,0),_)] [(0,9),(1,9)] [(0,9)]) kp ?_
 refine aM (Le.incT (63,0) rfl) ?_
 refine yh 9 [55,56,57,58,59,60,61,62,63] [(1,9),(63,0)] [[],[],[],[(1,9)],[(1,9)],[(1,9)],[(1,9)],[(1,9)],[]] ae ae rfl (aL rfl) (rfl:_=[_,_,_,_,_,_,_,_,_]) (rfl:_=[_,_,_]) ?_
 refine ap (_,[]) (fun τ=> aD _ (rfl:_=AV.ptr _ _)) ?_
 refine eL rfl ?_
 refine ap (_,[]) (fun τ=> aD _ (rfl:_=AV.ptr _ _)) ?_
 refine eK rfl ?_
 refine ap (_,[]) (fun τ=> aS _ rfl rfl) ?_
 refine eM rfl ?_
 refine ap (_,[]) (fun τ=> aK _ aa rfl rfl rfl) ?_
 refine eP rfl ?_
 refine ap (_,[]) (fun τ=> aN _ aa rfl rfl (rfl:_=some (AV.ref _ _ _))) ?_
 refine fe rfl ?_
 refine ap (_,[]) (fun τ=> aD _ (rfl:_=AV.ptr _ _)) ?_
 refine fB rfl ?_
 refine ap (_,[]) (fun τ=> (bs aa _ _ ar (eu T z3 (N++z2) hz3) tr rfl ae (by simp))) ?_
 refine gy rfl ?_
 refine ap (_,[]) (fun τ=> aU _ _ aa rfl ag (by (simp <;> rfl)) ah rfl) ?_
 refine jS rfl ?_
 refine ap (_,[((1,9), .gone),((63,0),_)]) (fun τ=> nY (b:=true) (63,0) _ _ aa rfl (uA rfl (by exact rE) rfl) (by simp) (.sl rfl) ab rfl rfl rfl ha2 hl2.symm) ?_
 refine kd rfl (bh ⟨⟨rfl,by kernel_rfl⟩,?_⟩)
 refine ai (aS _ rfl rfl) (bF rfl rfl rfl (bO rfl rfl rfl rfl rfl rfl (aj (aG fun K15 hK15=> ?_))))
 refine aM (σ':=aB 76 [(0,_),(3,_)] [((0,9), .box _ [_,_,_,_, .ref (1,9) _ _]),((54,0),_),((1,9),_)] [(0,9),(1,9)] [(0,9)]) (by
  refine Le.mkJ [((1,9),(63,0))] [] rfl ?_ ?_ trivial tr ?_
  ·exact ⟨(EF [(0,9),(54,0)] rfl (rfl:_=AV.ptr _ _) rfl),(EF [(0,9),(54,0)] rfl (rfl:_=AV.ref _ _ _) rfl),trivial⟩
  ·exact ⟨(fH rfl rfl rfl rfl (aH (by exact EF [(0,9),(54,0)] rfl (rfl:_=AV.sl _ _) rfl) (aH (by exact EF [(0,9),(54,0)] rfl (rfl:_=AV.v _) rfl) (aH (by exact EF [(0,9),(54,0)] rfl (rfl:_=AV.v _) rfl) (aH (by exact EF [(0,9),(54,0)] rfl (rfl:_=AV.v _) rfl) lz))))),(gH rfl rfl rfl rfl),(gH rfl rfl rfl rfl),trivial⟩
  ·kernel_rfl) ?_
 refine an (bj rfl (ai (db aa [] ar (jk T z3 (N++(z2++[(cX T z3).t])) hz3 hT) ob tr ae) ?_))
 refine az (hK15 _ ?_)
 clear hK15;try clear K15
 refine aG fun K16 hK16=> ?_
 refine am (bj rfl (ai (bs aa _ _ ar (eu T (bQ T z3) (N++(z2++[(cX T z3).t])) htz) tr rfl ae (by simp)) ?_))
 refine ai (qB _ _ Tryz.underlying9 rfl rfl rfl) (aj (aV rfl (fun hc70=> ?_) (fun hc70=> ?_)))
 ·skip
  obtain ⟨_,j,hj,hr⟩:=hm.resolve_left fun x=> hc70 x.1
  obtain ⟨rfl,rfl⟩:=Prod.mk.inj hr
  have hexp:=qp T (bQ T z3) r.2 (N++(z2++[(cX T z3).t])) [59] htz hT hj
  refine bL (id (hK4 _ ?_))
  clear hK4;try clear K4
  refine am (bj rfl (ai (db aa [] ar (hexp) ob tr ae) ?_))
  exact aj (am (gG rfl (eZ rfl (aj (aC (aY (.inr rfl) rfl (.tmp (rfl:_=AV.ref _ _ _)) (Le.outI [((1,8),(1,9))] [(54,0)] (by rw [hz5];exact iy rfl rfl (by simp) rfl) rfl rfl rfl tr ⟨⟨rfl,⟨_,rfl, .box rfl (aH .sl (aH .v (aH .v (aH .v (aH (dc rfl (by rw [hz5])) br)))))⟩,rfl⟩,⟨rfl,⟨_,rfl, .rowE (by rw [hz5])⟩,rfl⟩,trivial⟩ tr rfl)))))))
 ·skip
  obtain ⟨_,l',j',hd',hr⟩:=hm.resolve_right fun x=> x.1 hc70
  obtain ⟨rfl,rfl⟩:=Prod.mk.inj hr
  refine bA (hK16 _ ?_)
  clear hK16;try clear K16
  refine an (bj rfl (ai (db aa [] ar (jk T (bQ T z3) (N++(z2++[(cX T z3).t])) htz hT) ob tr ae) ?_))
  refine az (⟨(g,z2++[(cX T z3).t],bQ T (bQ T z3)),?_,?_,?_⟩)
  ·exact ⟨by simp only [hl2];omega,by simp only [hl1];simp only [List.length_append] at hsl;omega,dM htz,l',by rw [← List.append_assoc];exact hd',by rw [hz5];simp⟩
  ·skip
   refine Le.mkJ [((3,0),(54,0))] [] rfl ?_ ?_ trivial tr ?_
   ·exact ⟨(dL (id:=(0,9)) rfl),(dc rfl ag),trivial⟩
   ·exact ⟨(fH rfl rfl rfl rfl lz),(gH rfl rfl rfl ag),(gH rfl rfl rfl ag),trivial⟩
   ·kernel_rfl
  ·simp only;omega
end
end Go.Proofs.YtmjnackchaahbaaGreat
