/- Part 10 of the texts that the walk leans on: the machine, the walks, the plain laws. -/
import Derived.Test.YtmjnackchaahbaaGreatVcZ9
set_option linter.unusedSimpArgs false
set_option linter.unusedVariables false
namespace Go.Proofs.YtmjnackchaahbaaGreat
open Go.RowKit

abbrev mA (d:Nd):AV:= .agg [.v (.int .i64 (d.k:Int)), .v (.int .i64 (d.n:Int)), .v (bt d.s), .sl d.kn d.kids]
abbrev PO (T:List Tk) (N:List Tx) (r:Nd×Nat):St:=bg (mA r.1) (dH T r.2 N) [(0,9)] [(0,9)]
structure PE (T:List Tk) (N:List Tx) (f:Nat):Prop where
 expr: ∀ lv pr i r,lv≤20→1≤pr∧pr≤7→i < T.length→fS T f lv pr i=some r→r.2 < T.length∧Spec Tryz.prog 226 (be [.ptr (0,9) 0, .v (.int .i64 (lv:Int)), .v (.int .i64 (pr:Int))] (dH T i N)) (PO T N r)
 un: ∀ s lv pr i r,lv≤20→1≤pr∧pr≤7→i < T.length→El T f s lv pr i=some r→r.2 < T.length∧Spec Tryz.prog 235 (be [.ptr (0,9) 0, .v (bt s), .v (.int .i64 (lv:Int)), .v (.int .i64 (pr:Int))] (dH T i N)) (PO T N r)
 bin: ∀ lv pr i r,lv≤20→(1≤pr∧pr≤6∧pr≠3)→i < T.length→vL T f lv pr i=some r→r.2 < T.length∧Spec Tryz.prog 236 (be [.ptr (0,9) 0, .v (.int .i64 (lv:Int)), .v (.int .i64 (pr:Int))] (dH T i N)) (PO T N r)
 nest: ∀ lv i r,lv≤20→i < T.length→pj T f lv i=some r→r.2 < T.length∧Spec Tryz.prog 240 (be [.ptr (0,9) 0, .v (.int .i64 (lv:Int))] (dH T i N)) (PO T N r)
 prim: ∀ lv i r,lv≤20→i < T.length→rN T f lv i=some r→r.2 < T.length∧Spec Tryz.prog 237 (be [.ptr (0,9) 0, .v (.int .i64 (lv:Int))] (dH T i N)) (PO T N r)
section
variable {T:List Tk} {N:List Tx}
theorem uS (f:Nat) (ih:PE T N f) (lv pr i:Nat) (r:Nd×Nat) (hl:lv≤20) (hp:1≤pr∧pr≤7) (hi:i < T.length) (h:fS T (f+1) lv pr i=some r):
  r.2 < T.length∧Spec Tryz.prog 226 (be [.ptr (0,9) 0, .v (.int .i64 (lv:Int)), .v (.int .i64 (pr:Int))] (dH T i N)) (PO T N r):=by
 unfold fS at h
 by_cases h1:pr=3∧(cX T i).t=[33]
 ·rw [if_pos h1] at h
  obtain ⟨ha,hb⟩:=ih.un _ _ _ _ _ hl ab hi h
  refine ⟨ha,?_⟩
  obtain ⟨rfl,h1⟩:=h1
  refine Spec.ofNI Tryz.func226 rfl Tryz.ntmps226 rfl ?_
  refine am (ai (ay (6,0) aa rfl rfl) (aj (aq (am (bi rfl (ai (aT _ rfl rfl) (bE rfl rfl rfl (cK rfl rfl rfl (ai (bX (r:=false) _ _ rfl rfl rfl) (aj ?_))))))))))
  refine aP rfl rfl (aH (am (bi rfl (ai (br aa _ _ ar (bU T i N hi) tr rfl ae (by simp)) ?_))))
  refine iY rfl (aj (aq (am (aQ rfl (iX rfl rfl rfl (cL rfl (ax rfl rfl (aE _ (rfl:_=AV.v (.string _))) (ax rfl rfl (aV (r:=true) _ _ Tryz.underlying9 rfl rfl (by rw [h1];rfl)) ?_))))))))
  refine ai (aD _ _ _ rfl (rfl:_=AV.v (.bool _))) (aj (bD rfl rfl (aq ?_)))
  refine aN (σ':=aB 50 [(0,_),(1,_),(6,_),(7,_)] [((0,9),_),((6,0),_)] [(0,9)] [(0,9)]) kp ?_
  exact an (bi rfl (dK rfl (aQ rfl (ai (aO (hb)) (bQ rfl rfl rfl rfl rfl rfl (aj (aC (aY (.inr rfl) rfl (.cellA aa rfl rfl rfl) (Le.outI [] [] (.agg rfl lz) rfl rfl rfl trivial ob tr rfl)))))))))
 rw [if_neg h1] at h
 by_cases h2:pr=3
 ·rw [if_pos h2] at h
  obtain ⟨ha,hb⟩:=ih.bin _ _ _ _ hl ab hi h
  refine ⟨ha,?_⟩
  subst h2
  have h1:(cX T i).t≠[33]:=fun e=> h1 ⟨rfl,e⟩
  refine Spec.ofNI Tryz.func226 rfl Tryz.ntmps226 rfl ?_
  refine am (ai (ay (6,0) aa rfl rfl) (aj (aq (am (bi rfl (ai (aT _ rfl rfl) (bE rfl rfl rfl (cK rfl rfl rfl (ai (bX (r:=false) _ _ rfl rfl rfl) (aj ?_))))))))))
  refine aP rfl rfl (aH (am (bi rfl (ai (br aa _ _ ar (bU T i N hi) tr rfl ae (by simp)) ?_))))
  refine iY rfl (aj (aq (am (aQ rfl (iX rfl rfl rfl (cL rfl (ax rfl rfl (aE _ (rfl:_=AV.v (.string _))) (ax rfl rfl (aV (r:=false) _ _ Tryz.underlying9 rfl rfl (beq_eq_false_iff_ne.2 h1)) ?_))))))))
  refine ai (aD _ _ _ rfl (rfl:_=AV.v (.bool _))) (aj (aP rfl rfl (aH (aq (aq ?_)))))
  refine aN (σ':=aB 50 [(0,_),(1,_),(2,_),(6,_),(7,_)] [((0,9),_),((6,0),_)] [(0,9)] [(0,9)]) kp ?_
  refine an (aQ rfl (iX rfl rfl rfl (aj (bD rfl rfl (am (bi rfl (aQ rfl (ai (aO (hb)) (bQ rfl rfl rfl rfl rfl rfl (aj ?_))))))))))
  exact aC (aY (.inr rfl) rfl (.cellA aa rfl rfl rfl) (Le.outI [] [] (.agg rfl lz) rfl rfl rfl trivial ob tr rfl))
 rw [if_neg h2] at h
 by_cases h3:pr=7∧(cX T i).t=[45]
 ·rw [if_pos h3] at h
  obtain ⟨ha,hb⟩:=ih.un _ _ _ _ _ hl ab hi h
  refine ⟨ha,?_⟩
  obtain ⟨rfl,h3⟩:=h3
  refine Spec.ofNI Tryz.func226 rfl Tryz.ntmps226 rfl ?_
  refine am (ai (ay (6,0) aa rfl rfl) (aj (aq (am (bi rfl (ai (aT _ rfl rfl) (bE rfl rfl rfl (cK rfl rfl rfl (ai (bX (r:=false) _ _ rfl rfl rfl) (aj ?_))))))))))
  refine aP rfl rfl (aH (am (bi rfl (ai (br aa _ _ ar (bU T i N hi) tr rfl ae (by simp)) ?_))))
  refine iY rfl (aj (aq (am (aQ rfl (eG rfl rfl rfl (cL rfl (aR rfl rfl ah ?_)))))))
  refine aR rfl rfl ah ?_
  refine ai (aD _ _ _ rfl (rfl:_=AV.v (.bool _))) (aj (aP rfl rfl (aH (aq (aq ?_)))))
  refine aN (σ':=aB 50 [(0,_),(1,_),(2,_),(6,_),(7,_)] [((0,9),_),((6,0),_)] [(0,9)] [(0,9)]) kp ?_
  refine an (aQ rfl (eG rfl rfl rfl (aj (aP rfl rfl (aH (aq (am (aQ rfl (iX rfl rfl rfl (cL rfl ?_))))))))))
  refine ax rfl rfl (aE _ (rfl:_=AV.v (.string _))) (ax rfl rfl (aV (r:=true) _ _ Tryz.underlying9 rfl rfl (by rw [h3];rfl)) ?_)
  refine ai (aD _ _ _ rfl (rfl:_=AV.v (.bool _))) (aj (bD rfl rfl (am (bi rfl (dK rfl (aQ rfl (ai (aO (hb)) (bQ rfl rfl rfl rfl rfl rfl (aj (aC ?_))))))))))
  exact aY (.inr rfl) rfl (.cellA aa rfl rfl rfl) (Le.outI [] [] (.agg rfl lz) rfl rfl rfl trivial ob tr rfl)
 rw [if_neg h3] at h
 by_cases h4:pr=7
 ·rw [if_pos h4] at h
  obtain ⟨ha,hb⟩:=ih.prim _ _ _ hl hi h
  refine ⟨ha,?_⟩
  subst h4
  have h3:(cX T i).t≠[45]:=fun e=> h3 ⟨rfl,e⟩
  refine Spec.ofNI Tryz.func226 rfl Tryz.ntmps226 rfl ?_
  refine am (ai (ay (6,0) aa rfl rfl) (aj (aq (am (bi rfl (ai (aT _ rfl rfl) (bE rfl rfl rfl (cK rfl rfl rfl (ai (bX (r:=false) _ _ rfl rfl rfl) (aj ?_))))))))))
  refine aP rfl rfl (aH (am (bi rfl (ai (br aa _ _ ar (bU T i N hi) tr rfl ae (by simp)) ?_))))
  refine iY rfl (aj (aq (am (aQ rfl (eG rfl rfl rfl (cL rfl (aR rfl rfl ah ?_)))))))
  refine aR rfl rfl ah ?_
  refine ai (aD _ _ _ rfl (rfl:_=AV.v (.bool _))) (aj (aP rfl rfl (aH (aq (aq ?_)))))
  refine aN (σ':=aB 50 [(0,_),(1,_),(2,_),(6,_),(7,_)] [((0,9),_),((6,0),_)] [(0,9)] [(0,9)]) kp ?_
  refine an (aQ rfl (eG rfl rfl rfl (aj (aP rfl rfl (aH (aq (am (aQ rfl (iX rfl rfl rfl (cL rfl ?_))))))))))
  refine ax rfl rfl (aE _ (rfl:_=AV.v (.string _))) (ax rfl rfl (aV (r:=false) _ _ Tryz.underlying9 rfl rfl (beq_eq_false_iff_ne.2 h3)) ?_)
  refine ai (aD _ _ _ rfl (rfl:_=AV.v (.bool _))) (aj (aP rfl rfl (aH (aq (am (aQ rfl (iX rfl rfl rfl (aj (bD rfl rfl (aG fun K13 hK13=> ?_))))))))))
  refine an (bi rfl (aQ rfl (ai (aO (hb)) (bQ rfl rfl rfl rfl rfl rfl (az (hK13 _ ?_))))))
  clear hK13;try clear K13
  exact aC (aY (.inr rfl) rfl (.cellA aa rfl rfl rfl) (Le.outI [] [] (.agg rfl lz) rfl rfl rfl trivial ob tr rfl))
 rw [if_neg h4] at h
 obtain ⟨ha,hb⟩:=ih.bin _ _ _ _ hl ab hi h
 refine ⟨ha,?_⟩
 refine Spec.ofNI Tryz.func226 rfl Tryz.ntmps226 rfl ?_
 refine am (ai (ay (6,0) aa rfl rfl) (aj (aq (am (bi rfl (ai (aT _ rfl rfl) (bE rfl rfl rfl (cK rfl rfl rfl (ai (bX (r:=false) _ _ rfl rfl rfl) (aj ?_))))))))))
 refine aP rfl rfl (aH (am (bi rfl (ai (br aa _ _ ar (bU T i N hi) tr rfl ae (by simp)) ?_))))
 refine iY rfl (aj (aq (am (aQ rfl (eG rfl rfl (beq_eq_false_iff_ne.2 ab) ?_)))))
 refine cL rfl (aR rfl rfl ah ?_)
 refine aR rfl rfl ah ?_
 refine ai (aD _ _ _ rfl (rfl:_=AV.v (.bool _))) (aj (aP rfl rfl (aH (aq (aq ?_)))))
 refine aN (σ':=aB 50 [(0,_),(1,_),(2,_),(6,_),(7,_)] [((0,9),_),((6,0),_)] [(0,9)] [(0,9)]) kp ?_
 refine an (aQ rfl (eG rfl rfl (beq_eq_false_iff_ne.2 ab) ?_))
 refine aj (aP rfl rfl (aH (aq (am (aQ rfl (eG rfl rfl (beq_eq_false_iff_ne.2 ab) ?_))))))
 refine cL rfl (aR rfl rfl ah ?_)
 refine aR rfl rfl ah ?_
 refine ai (aD _ _ _ rfl (rfl:_=AV.v (.bool _))) (aj (aP rfl rfl (aH (aq (am (aQ rfl (eG rfl rfl (beq_eq_false_iff_ne.2 ab) ?_)))))))
 refine aj (aP rfl rfl (aH (aG fun K13 hK13=> ?_)))
 refine an (bi rfl (aQ rfl (aQ rfl (ai (aO (hb)) (bQ rfl rfl rfl rfl rfl rfl (az (hK13 _ ?_)))))))
 clear hK13;try clear K13
 exact aC (aY (.inr rfl) rfl (.cellA aa rfl rfl rfl) (Le.outI [] [] (.agg rfl lz) rfl rfl rfl trivial ob tr rfl))
theorem zX (hT:T.length≤100000) (f:Nat) (ih:PE T N f) (s:Tx) (lv pr i:Nat) (r:Nd×Nat) (hl:lv≤20) (hp:1≤pr∧pr≤7) (hi:i < T.length) (h:El T (f+1) s lv pr i=some r):
  r.2 < T.length∧Spec Tryz.prog 235 (be [.ptr (0,9) 0, .v (bt s), .v (.int .i64 (lv:Int)), .v (.int .i64 (pr:Int))] (dH T i N)) (PO T N r):=by
 unfold El at h
 simp only [Option.bind_eq_bind,Option.bind_eq_some_iff,Option.pure_def,Option.some.injEq] at h
 obtain ⟨j,hj,⟨d,j2⟩,hd,rfl⟩:=h
 have ho:=ji hj
 have hjl:=ij ho.2 hi
 obtain ⟨ha,hb⟩:=ih.expr _ _ _ _ ho.1 hp hjl hd
 have hopen:=ms T i j N s (lv+1) hi hT hj
 refine ⟨ha,?_⟩
 refine Spec.ofNI Tryz.func235 rfl Tryz.ntmps235 rfl ?_
 refine am (ai (ay (8,0) aa rfl rfl) (aj (am (bi rfl (dK rfl (aQ rfl (ai (bc _ _ rfl rfl (bp ab)) ?_)))))))
 refine ai (aO (hopen)) (aj (aG fun K3 hK3=> ?_))
 refine an (bi rfl (aQ rfl (ai (bc _ _ rfl rfl (bp ab)) ?_)))
 refine aQ rfl (ai (aO (hb)) (ai (ay (9,0) aa rfl rfl) (bQ rfl rfl rfl rfl rfl rfl (az (hK3 _ ?_)))))
 clear hK3;try clear K3
 refine am (dK rfl (ai (aS _ aa rfl rfl rfl rfl) (ai (aW _ _ aa rfl ag (by (simp <;> rfl)) ah rfl) ?_)))
 refine ai (aA _ aa rfl (by exact (rfl:_=some [_,_,_,_]))) ?_
 exact bQ rfl rfl rfl rfl rfl rfl (aj (aC (aY (.inr rfl) rfl (.cellA aa rfl rfl rfl) (Le.outI [] [] (.agg rfl lz) rfl rfl rfl trivial ob tr rfl))))
theorem uW (hT:T.length≤100000) (f:Nat) (ih:PE T N f) (lv i:Nat) (r:Nd×Nat) (hl:lv≤20) (hi:i < T.length) (h:pj T (f+1) lv i=some r):
  r.2 < T.length∧Spec Tryz.prog 240 (be [.ptr (0,9) 0, .v (.int .i64 (lv:Int))] (dH T i N)) (PO T N r):=by
 unfold pj at h
 simp only [Option.bind_eq_bind,Option.bind_eq_some_iff,Option.pure_def,Option.some.injEq] at h
 obtain ⟨j,hj,⟨d,j2⟩,hd,j3,hj3,rfl⟩:=h
 have ho:=ji hj
 have hjl:=ij ho.2 hi
 obtain ⟨ha,hb⟩:=ih.expr _ _ _ _ ho.1 ab hjl hd
 have hopen:=ms T i j N [40] (lv+1) hi hT hj
 have hexp:=eX T j2 j3 N [41] ha hT hj3
 refine ⟨ij hj3 ha,?_⟩
 refine Spec.ofNI Tryz.func240 rfl Tryz.ntmps240 rfl ?_
 refine am (ai (ay (4,0) aa rfl rfl) (aj (am (bi rfl (aQ rfl (ai (bc _ _ rfl rfl (bp ab)) ?_))))))
 refine ai (aO (hopen)) (aj (aG fun K3 hK3=> ?_))
 refine an (bi rfl (aQ rfl (ai (bc _ _ rfl rfl (bp ab)) ?_)))
 refine ai (aO (hb)) (ai (ay (5,0) aa rfl rfl) (bQ rfl rfl rfl rfl rfl rfl (az (hK3 _ ?_))))
 clear hK3;try clear K3
 refine aG fun K4 hK4=> ?_
 refine an (bi rfl (ai (aO (hexp)) (az (hK4 _ ?_))))
 clear hK4;try clear K4
 exact am (ai (aS _ aa rfl rfl rfl rfl) (bQ rfl rfl rfl rfl rfl rfl (aj (aC (aY (.inr rfl) rfl (.cellA aa rfl rfl rfl) (Le.outI [] [] (.agg rfl lz) rfl rfl rfl trivial ob tr rfl))))))
theorem uX (hT:T.length≤100000) (f:Nat) (ih:PE T N f) (lv i:Nat) (r:Nd×Nat) (hl:lv≤20) (hi:i < T.length) (h:rN T (f+1) lv i=some r):
  r.2 < T.length∧Spec Tryz.prog 237 (be [.ptr (0,9) 0, .v (.int .i64 (lv:Int))] (dH T i N)) (PO T N r):=by
 have htl:=dN hi
 have htake:=cq T i N hi hT
 unfold rN at h
 simp only at h
 by_cases h1:(cX T i).t=[40]
 ·rw [if_pos h1] at h
  obtain ⟨ha,hb⟩:=ih.nest _ _ _ hl hi h
  refine ⟨ha,?_⟩
  refine Spec.ofNI Tryz.func237 rfl Tryz.ntmps237 rfl ?_
  refine am (ai (ay (4,0) aa rfl rfl) (aj (aq (bG 11 [8,9,10,11,12,13,14,15,16,17,5] [(5,0)] ae ae rfl (aL rfl) (rfl:_=[_,_,_,_,_,_,_,_,_,_,_]) (rfl:_=[_]) ?_))))
  refine ap (_,[]) (fun τ=> aE _ (rfl:_=AV.ptr _ _)) ?_
  refine eK rfl ?_
  refine ap (_,[]) (fun τ=> aT _ rfl rfl) ?_
  refine eJ rfl ?_
  refine ap (_,[]) (fun τ=> aJ _ aa rfl rfl rfl) ?_
  refine eI rfl ?_
  refine ap (_,[]) (fun τ=> aM _ aa rfl rfl (rfl:_=some (AV.sl _ _))) ?_
  refine eO rfl ?_
  refine ap (_,[]) (fun τ=> aE _ (rfl:_=AV.ptr _ _)) ?_
  refine fa rfl ?_
  refine ap (_,[]) (fun τ=> aT _ rfl rfl) ?_
  refine fC rfl ?_
  refine ap (_,[]) (fun τ=> aJ _ aa rfl rfl rfl) ?_
  refine gv rfl ?_
  refine ap (_,[]) (fun τ=> aM _ aa rfl rfl (rfl:_=some (AV.v (.int _ _)))) ?_
  refine jI rfl ?_
  refine ap (_,[]) (fun τ=> bf _ _ aa rfl rfl _ rfl ab (by (simp only [ba,bn,bm,bz,bw];omega)) ag) ?_
  refine jQ rfl ?_
  refine ap (_,[]) (fun τ=> cg _ aa rfl (by exact lT _ _ hi) rfl) ?_
  refine fW rfl ?_
  refine ap (_,[((5,0),_)]) (fun τ=> ay (5,0) aa rfl rfl) ?_
  refine gx rfl (bh ⟨rfl,?_⟩)
  refine bQ rfl rfl rfl rfl rfl rfl (aj (aq (am (bE rfl rfl rfl (ai (aM _ aa rfl rfl (rfl:_=some (AV.v (.string _)))) (ai (aV (r:=true) _ _ Tryz.underlying9 rfl rfl (by rw [h1];rfl)) ?_))))))
  refine aj (bD rfl rfl (aq ?_))
  refine aN (σ':=aB 72 [(0,_),(1,_),(4,_)] [((0,9),_),((4,0),_)] [(0,9)] [(0,9)]) kp ?_
  exact an (bi rfl (aQ rfl (ai (aO (hb)) (bQ rfl rfl rfl rfl rfl rfl (aj (aC (aY (.inr rfl) rfl (.cellA aa rfl rfl rfl) (Le.outI [] [] (.agg rfl lz) rfl rfl rfl trivial ob tr rfl))))))))
 rw [if_neg h1] at h
 by_cases h2:(cX T i).t=yI
 ·rw [if_pos h2] at h
  simp only [Option.bind_eq_bind,Option.bind_eq_some_iff,Option.pure_def,Option.some.injEq] at h
  obtain ⟨⟨d,j⟩,hd,rfl⟩:=h
  obtain ⟨ha,hb⟩:=ih.nest _ _ _ hl htl hd
  refine ⟨ha,?_⟩
  refine Spec.ofNI Tryz.func237 rfl Tryz.ntmps237 rfl ?_
  refine am (ai (ay (4,0) aa rfl rfl) (aj (aq (bG 11 [8,9,10,11,12,13,14,15,16,17,5] [(5,0)] ae ae rfl (aL rfl) (rfl:_=[_,_,_,_,_,_,_,_,_,_,_]) (rfl:_=[_]) ?_))))
  refine ap (_,[]) (fun τ=> aE _ (rfl:_=AV.ptr _ _)) ?_
  refine eK rfl ?_
  refine ap (_,[]) (fun τ=> aT _ rfl rfl) ?_
  refine eJ rfl ?_
  refine ap (_,[]) (fun τ=> aJ _ aa rfl rfl rfl) ?_
  refine eI rfl ?_
  refine ap (_,[]) (fun τ=> aM _ aa rfl rfl (rfl:_=some (AV.sl _ _))) ?_
  refine eO rfl ?_
  refine ap (_,[]) (fun τ=> aE _ (rfl:_=AV.ptr _ _)) ?_
  refine fa rfl ?_
  refine ap (_,[]) (fun τ=> aT _ rfl rfl) ?_
  refine fC rfl ?_
  refine ap (_,[]) (fun τ=> aJ _ aa rfl rfl rfl) ?_
  refine gv rfl ?_
  refine ap (_,[]) (fun τ=> aM _ aa rfl rfl (rfl:_=some (AV.v (.int _ _)))) ?_
  refine jI rfl ?_
  refine ap (_,[]) (fun τ=> bf _ _ aa rfl rfl _ rfl ab (by (simp only [ba,bn,bm,bz,bw];omega)) ag) ?_
  refine jQ rfl ?_
  refine ap (_,[]) (fun τ=> cg _ aa rfl (by exact lT _ _ hi) rfl) ?_
  refine fW rfl ?_
  refine ap (_,[((5,0),_)]) (fun τ=> ay (5,0) aa rfl rfl) ?_
  refine gx rfl (bh ⟨rfl,?_⟩)
  refine bQ rfl rfl rfl rfl rfl rfl (aj (aq (am (bE rfl rfl rfl (ai (aM _ aa rfl rfl (rfl:_=some (AV.v (.string _)))) (ai (aV (r:=false) _ _ Tryz.underlying9 rfl rfl (beq_eq_false_iff_ne.2 h1)) ?_))))))
  refine aj (aP rfl rfl (aH (aq (aq ?_))))
  refine aN (σ':=aB 72 [(0,_),(1,_),(4,_),(5,_)] [((0,9),_),((4,0),_),((5,0),_)] [(0,9)] [(0,9)]) kp ?_
  refine an (bE rfl rfl rfl (ai (aM _ aa rfl rfl (rfl:_=some (AV.v (.string _)))) (ai (aV (r:=true) _ _ Tryz.underlying9 rfl rfl (by rw [h2];rfl)) ?_)))
  refine aj (bD rfl rfl (am (bi rfl (ai (aO (htake)) (aj (aG fun K8 hK8=> ?_))))))
  refine an (bi rfl (aQ rfl (ai (aO (hb)) (ai (ay (6,0) aa rfl rfl) (bQ rfl rfl rfl rfl rfl rfl (az (hK8 _ ?_)))))))
  clear hK8;try clear K8
  refine am (ai (aS _ aa rfl rfl rfl rfl) (ai (aW _ _ aa rfl ag (by (simp <;> rfl)) ah rfl) ?_))
  refine ai (aA _ aa rfl (by exact (rfl:_=some [_,_,_,_]))) ?_
  exact bQ rfl rfl rfl rfl rfl rfl (aj (aC (aY (.inr rfl) rfl (.cellA aa rfl rfl rfl) (Le.outI [] [] (.agg rfl lz) rfl rfl rfl trivial ob tr rfl))))
 rw [if_neg h2] at h
 have hr:r.2=bS T i:=by
  repeat' split at h
  all_goals first | (rw [← Option.some.inj h];done) | cases h
 refine ⟨by rw [hr];exact htl,?_⟩
 refine Spec.ofNI Tryz.func237 rfl Tryz.ntmps237 rfl ?_
 refine am (ai (ay (4,0) aa rfl rfl) (aj (aq (bG 11 [8,9,10,11,12,13,14,15,16,17,5] [(5,0)] ae ae rfl (aL rfl) (rfl:_=[_,_,_,_,_,_,_,_,_,_,_]) (rfl:_=[_]) ?_))))
 refine ap (_,[]) (fun τ=> aE _ (rfl:_=AV.ptr _ _)) ?_
 refine eK rfl ?_
 refine ap (_,[]) (fun τ=> aT _ rfl rfl) ?_
 refine eJ rfl ?_
 refine ap (_,[]) (fun τ=> aJ _ aa rfl rfl rfl) ?_
 refine eI rfl ?_
 refine ap (_,[]) (fun τ=> aM _ aa rfl rfl (rfl:_=some (AV.sl _ _))) ?_
 refine eO rfl ?_
 refine ap (_,[]) (fun τ=> aE _ (rfl:_=AV.ptr _ _)) ?_
 refine fa rfl ?_
 refine ap (_,[]) (fun τ=> aT _ rfl rfl) ?_
 refine fC rfl ?_
 refine ap (_,[]) (fun τ=> aJ _ aa rfl rfl rfl) ?_
 refine gv rfl ?_
 refine ap (_,[]) (fun τ=> aM _ aa rfl rfl (rfl:_=some (AV.v (.int _ _)))) ?_
 refine jI rfl ?_
 refine ap (_,[]) (fun τ=> bf _ _ aa rfl rfl _ rfl ab (by (simp only [ba,bn,bm,bz,bw];omega)) ag) ?_
 refine jQ rfl ?_
 refine ap (_,[]) (fun τ=> cg _ aa rfl (by exact lT _ _ hi) rfl) ?_
 refine fW rfl ?_
 refine ap (_,[((5,0),_)]) (fun τ=> ay (5,0) aa rfl rfl) ?_
 refine gx rfl (bh ⟨rfl,?_⟩)
 refine bQ rfl rfl rfl rfl rfl rfl (aj (aq (am (bE rfl rfl rfl (ai (aM _ aa rfl rfl (rfl:_=some (AV.v (.string _)))) (ai (aV (r:=false) _ _ Tryz.underlying9 rfl rfl (beq_eq_false_iff_ne.2 h1)) ?_))))))
 refine aj (aP rfl rfl (aH (aq (aq ?_))))
 refine aN (σ':=aB 72 [(0,_),(1,_),(4,_),(5,_)] [((0,9),_),((4,0),_),((5,0),_)] [(0,9)] [(0,9)]) kp ?_
 refine an (bE rfl rfl rfl (ai (aM _ aa rfl rfl (rfl:_=some (AV.v (.string _)))) (ai (aV (r:=false) _ _ Tryz.underlying9 rfl rfl (beq_eq_false_iff_ne.2 h2)) ?_)))
 refine aj (aP rfl rfl (aH (am (ai (aA _ aa rfl (by exact (rfl:_=some [_,_,_,_]))) ?_))))
 refine ai (ay (7,0) aa rfl rfl) (bQ rfl rfl rfl rfl rfl rfl (aj (aG fun K8 hK8=> ?_)))
 refine am (bE rfl rfl rfl (cK rfl rfl rfl (ai (bP _ _ rfl rfl rfl) (aj (aU rfl (fun hc38=> ?_) (fun hc38=> ?_))))))
 ·skip
  rw [if_pos ab] at h
  obtain rfl:=Option.some.inj h
  refine an (bE rfl rfl rfl (cK rfl rfl rfl (ai (aA _ aa rfl (by exact (rfl:_=some [_,_,_,_]))) ?_)))
  refine bQ rfl rfl rfl rfl rfl rfl (az (hK8 _ ?_))
  clear hK8;try clear K8
  refine am (bi rfl (ai (aO (htake)) (aj (aq ?_))))
  refine aN (σ':=aB 72 [(4,_),(7,_)] [((4,0),_),((7,0),_),((0,9),_)] [(0,9)] [(0,9)]) kp ?_
  exact an (ai (aS _ aa rfl rfl rfl rfl) (bQ rfl rfl rfl rfl rfl rfl (aj (aC (aY (.inr rfl) rfl (.cellA aa rfl rfl rfl) (Le.outI [] [] (.agg rfl lz) rfl rfl rfl trivial ob tr rfl))))))
 ·skip
  rw [if_neg ab] at h
  refine am (bE rfl rfl rfl (ai (aM _ aa rfl rfl (rfl:_=some (AV.v (.string _)))) (ai (aV _ _ Tryz.underlying9 rfl rfl rfl) (aj (aU rfl (fun hc44=> ?_) (fun hc44=> ?_))))))
  ·skip
   rw [if_pos (show (cX T i).t=sx from hc44)] at h
   obtain rfl:=Option.some.inj h
   refine an (ai (aA _ aa rfl (by exact (rfl:_=some [_,_,_,_]))) ?_)
   refine bQ rfl rfl rfl rfl rfl rfl (az (hK8 _ ?_))
   clear hK8;try clear K8
   refine am (bi rfl (ai (aO (htake)) (aj (aq ?_))))
   refine aN (σ':=aB 72 [(4,_),(7,_)] [((4,0),_),((7,0),_),((0,9),_)] [(0,9)] [(0,9)]) kp ?_
   exact an (ai (aS _ aa rfl rfl rfl rfl) (bQ rfl rfl rfl rfl rfl rfl (aj (aC (aY (.inr rfl) rfl (.cellA aa rfl rfl rfl) (Le.outI [] [] (.agg rfl lz) rfl rfl rfl trivial ob tr rfl))))))
  ·skip
   rw [if_neg (show ¬ (cX T i).t=sx from hc44)] at h
   refine am (bE rfl rfl rfl (ai (aM _ aa rfl rfl (rfl:_=some (AV.v (.string _)))) (ai (aV _ _ Tryz.underlying9 rfl rfl rfl) (aj (aU rfl (fun hc48=> ?_) (fun hc48=> ?_))))))
   ·skip
    rw [if_pos (show (cX T i).t=qD from hc48)] at h
    obtain rfl:=Option.some.inj h
    refine aN (σ':=aB 72 [(0,_),(4,_),(7,_)] [((0,9),_),((4,0),_),((7,0),_)] [(0,9)] [(0,9)]) kp ?_
    refine an (ai (aA _ aa rfl (by exact (rfl:_=some [_,_,_,_]))) ?_)
    refine bQ rfl rfl rfl rfl rfl rfl (az (hK8 _ ?_))
    clear hK8;try clear K8
    exact am (bi rfl (ai (aO (htake)) (aj (am (ai (aS _ aa rfl rfl rfl rfl) (bQ rfl rfl rfl rfl rfl rfl (aj (aC (aY (.inr rfl) rfl (.cellA aa rfl rfl rfl) (Le.outI [] [] (.agg rfl lz) rfl rfl rfl trivial ob tr rfl))))))))))
   ·skip
    rw [if_neg (show ¬ (cX T i).t=qD from hc48)] at h
    refine aq ?_
    refine aN (σ':=aB 72 [(0,_),(4,_),(5,_),(7,_)] [((0,9),_),((4,0),_),((5,0),_),((7,0),_)] [(0,9)] [(0,9)]) kp ?_
    refine bG 4 [50,51,52,53] [] ae ae rfl (aL rfl) (rfl:_=[_,_,_,_]) (rfl:_=[]) ?_
    refine ap (_,[]) (fun τ=> (aK aa (by repeat' (exact dL)) (eA) rfl rfl)) ?_
    refine eK rfl ?_
    refine ap (_,[]) (fun τ=> aJ _ aa rfl rfl rfl) ?_
    refine eJ rfl ?_
    refine ap (_,[]) (fun τ=> aM _ aa rfl rfl (rfl:_=some (AV.v (.string _)))) ?_
    refine eI rfl ?_
    refine ap (_,[]) (fun τ=> (aK aa al (cB bltT 9 rfl ab (cX T i).t) rfl rfl)) ?_
    refine eO rfl (bh ⟨rfl,?_⟩)
    refine aj (aU rfl (fun hc53=> ?_) (fun hc53=> ?_))
    ·skip
     rw [if_pos hc53] at h
     obtain rfl:=Option.some.inj h
     refine an (bE rfl rfl rfl (ai (aM _ aa rfl rfl (rfl:_=some (AV.v (.string _)))) (ai (aA _ aa rfl (by exact (rfl:_=some [_,_,_,_]))) ?_)))
     refine bQ rfl rfl rfl rfl rfl rfl (az (hK8 _ ?_))
     clear hK8;try clear K8
     exact am (bi rfl (ai (aO (htake)) (aj (am (ai (aS _ aa rfl rfl rfl rfl) (bQ rfl rfl rfl rfl rfl rfl (aj (aC (aY (.inr rfl) rfl (.cellA aa rfl rfl rfl) (Le.outI [] [] (.agg rfl lz) rfl rfl rfl trivial ob tr rfl))))))))))
    ·skip
     rw [if_neg hc53] at h
     refine am (bi rfl (ai (br aa _ _ ar (dE T i N hi) tr rfl ae (by simp)) ?_))
     refine aj (aU rfl (fun hc58=> ?_) (fun hc58=> ?_))
     ·skip
      rw [if_pos hc58] at h
      obtain rfl:=Option.some.inj h
      refine an (bE rfl rfl rfl (ai (aM _ aa rfl rfl (rfl:_=some (AV.v (.string _)))) (ai (aA _ aa rfl (by exact (rfl:_=some [_,_,_,_]))) ?_)))
      refine bQ rfl rfl rfl rfl rfl rfl (az (hK8 _ ?_))
      clear hK8;try clear K8
      exact am (bi rfl (ai (aO (htake)) (aj (am (ai (aS _ aa rfl rfl rfl rfl) (bQ rfl rfl rfl rfl rfl rfl (aj (aC (aY (.inr rfl) rfl (.cellA aa rfl rfl rfl) (Le.outI [] [] (.agg rfl lz) rfl rfl rfl trivial ob tr rfl))))))))))
     ·skip
      exact absurd h (by rw [if_neg (by simp [hc58])];exact fun e=> by cases e)
theorem Br (pr:Nat) (h:1≤pr∧pr≤6∧pr≠3):([PV.v (.slice none 0 0), .sl 1 (dT [[124,124]]), .sl 1 (dT [[38,38]]), .v (.slice none 0 0), .sl 6 (dT [[60],[60,61],[62],[62,61],[61,61],[33,61]]), .sl 2 (dT [[43],[45]]), .sl 2 (dT [[42],[47]])]:List PV)[pr]? =some (.sl (opsP.getD pr []).length (dT (opsP.getD pr []))):=by
 have:pr=1∨pr=2∨pr=4∨pr=5∨pr=6:=by omega
 rcases this with rfl | rfl | rfl | rfl | rfl <;> rfl
theorem Am (pr:Nat):(opsP.getD pr []).length≤6:=by
 unfold opsP
 match pr with
 | 0=> decide | 1=> decide | 2=> decide | 3=> decide | 4=> decide | 5=> decide | 6=> decide
 | n+7=> simp
theorem nH {f lv pr:Nat} {d:Nd} {i:Nat} {r:Nd×Nat} (h:lu T f lv pr d i=some r): ∃ g,f=g+1∧((cX T i).t∉opsP.getD pr []∧r=(d,i)∨(cX T i).t∈opsP.getD pr []∧ ∃ e j,fS T g lv (pr+1) (bS T i)=some (e,j)∧
  (pr=4∧r=(nd 18 0 (cX T i).t [d,e],j)∨pr≠4∧lu T g lv pr (nd 18 0 (cX T i).t [d,e]) j=some r)):=by
 cases f with
 | zero=> simp [lu] at h
 | succ g=>
  refine ⟨g,rfl,?_⟩
  unfold lu at h
  split at h
  ·rename_i hm
   simp only [Option.bind_eq_bind,Option.bind_eq_some_iff,Option.pure_def] at h
   obtain ⟨⟨e,j⟩,he,h⟩:=h
   refine .inr ⟨hm,e,j,he,?_⟩
   split at h
   ·rename_i h4;exact .inl ⟨h4,(Option.some.inj h).symm⟩
   ·rename_i h4;exact .inr ⟨h4,h⟩
  ·rename_i hm;exact .inl ⟨hm,(Option.some.inj h).symm⟩
theorem xb (hT:T.length≤100000) (f:Nat) (ih: ∀ g,g≤f→PE T N g) (lv pr i:Nat) (r:Nd×Nat) (hl:lv≤20) (hp:1≤pr∧pr≤6∧pr≠3) (hi:i < T.length) (h:vL T (f+1) lv pr i=some r):
  r.2 < T.length∧Spec Tryz.prog 236 (be [.ptr (0,9) 0, .v (.int .i64 (lv:Int)), .v (.int .i64 (pr:Int))] (dH T i N)) (PO T N r):=by
 unfold vL at h
 simp only [Option.bind_eq_bind,Option.bind_eq_some_iff] at h
 obtain ⟨⟨d,j⟩,hd,h⟩:=h
 simp only at h
 obtain ⟨ha,hb⟩:=(ih f (Nat.le_refl _)).expr _ _ _ _ hl ab hi hd
 have hend: ∀ (g:Nat) (d:Nd) (i:Nat),g≤f→i < T.length→lu T g lv pr d i=some r→r.2 < T.length:=by
  intro g
  induction g with
  | zero=> intro d i _ _ h;simp [lu] at h
  | succ g ihg=>
   intro d i hg hi h
   obtain ⟨g',hg',h | ⟨_,e,j,he,h⟩⟩:=nH h
   ·rw [h.2];exact hi
   ·obtain rfl:g=g':=by omega
    have hj:=((ih g ab).expr _ _ _ _ hl ab (dN hi) he).1
    rcases h with h | h
    ·rw [h.2];exact hj
    ·exact ihg _ _ ab hj h.2
 refine ⟨hend f d j (Nat.le_refl _) ha h,?_⟩
 have hol:=Am pr
 refine Spec.ofNI Tryz.func236 rfl Tryz.ntmps236 rfl ?_
 refine am (ai (ay (6,0) aa rfl rfl) (aj (am (ai (aW _ _ aa rfl ag (by (simp <;> rfl)) ah rfl) ?_))))
 refine ai (aW _ _ aa rfl ag (by (simp <;> rfl)) ah rfl) ?_
 refine ai (aW _ _ aa rfl ag (by (simp <;> rfl)) ah rfl) ?_
 refine ai (aW _ _ aa rfl ag (by (simp <;> rfl)) ah rfl) ?_
 refine ai (aW _ _ aa rfl ag (by (simp <;> rfl)) ah rfl) ?_
 refine ai (aW _ _ aa rfl ag (by (simp <;> rfl)) ah rfl) ?_
 refine lf rfl (aj (am (bi rfl (aQ rfl (aQ rfl (ai (bc _ _ rfl rfl (bp ab)) ?_))))))
 refine ai (aO (hb)) (ai (ay (8,0) aa rfl rfl) (bQ rfl rfl rfl rfl rfl rfl (aj (aG fun K4 hK4=> ?_))))
 refine au ?_
 refine bB (α:=Nat×Nd×Nat) (fun z=> z.1≤f∧z.2.2 < T.length∧lu T z.1 lv pr z.2.1 z.2.2=some r) 53 [(0,_),(1,_),(2,_),(6,_),(7,_),(8,_)] [((6,0),_)] (fun z=> []) (fun z=> [((0,9), .box 222 [.sl T.length (qv T), .v (.int .i64 (z.2.2:Int)), .v (.int .i64 0), .v (.int .i64 0), .sl N.length (dT N)]),((8,0), .box 71 [.v (.int .i64 (z.2.1.k:Int)), .v (.int .i64 (z.2.1.n:Int)), .v (bt z.2.1.s), .sl z.2.1.kn z.2.1.kids])]) [(0,9)] [(0,9)] (fun z=> z.1) (f,d,j) ?_ (by
  refine Le.mkJ [] [] rfl ?_ ?_ trivial tr ?_
  ·exact ⟨(iP rfl),(iV rfl),(iV rfl),(iP rfl),(iS rfl),(iP rfl),trivial⟩
  ·exact ⟨(cD rfl rfl rfl),(fM rfl rfl rfl rfl lz),(fM rfl rfl rfl rfl (nI (nI (aI (by repeat' (exact Lv.v)) lz)))),trivial⟩
  ·kernel_rfl) ?_
 ·exact ⟨Nat.le_refl _,ha,h⟩
 intro z hz
 obtain ⟨z1,z2,z3⟩:=z
 obtain ⟨hz1,hz2,hz3⟩:=hz
 obtain ⟨g,rfl,hm⟩:=nH hz3
 simp only at hz1 hz2 hm ⊢
 refine aG fun K5 hK5=> ?_
 refine aq (bG 14 [22,23,24,25,26,27,28,29,30,31,32,33,34,35] [] ae ae rfl (aL rfl) (rfl:_=[_,_,_,_,_,_,_,_,_,_,_,_,_,_]) (rfl:_=[]) ?_)
 refine ap (_,[]) (fun τ=> aE _ (rfl:_=AV.ptr _ _)) ?_
 refine eK rfl ?_
 refine ap (_,[]) (fun τ=> aT _ rfl rfl) ?_
 refine eJ rfl ?_
 refine ap (_,[]) (fun τ=> aJ _ aa rfl rfl rfl) ?_
 refine eI rfl ?_
 refine ap (_,[]) (fun τ=> aM _ aa rfl rfl (rfl:_=some (AV.v (.int _ _)))) ?_
 refine eO rfl ?_
 refine ap (_,[]) (fun τ=> bP (r:=true) _ _ rfl rfl rfl) ?_
 refine fa rfl ?_
 refine ap (_,[]) (fun τ=> aE _ (rfl:_=AV.v (.bool _))) ?_
 refine fC rfl ?_
 refine bN (_,[]) rfl (fun τ=> rfl) (fun τ=> aE _ (rfl:_=AV.sl _ _)) ?_
 refine gv rfl ?_
 refine bN (_,[]) rfl (fun τ=> rfl) (fun τ=> aE _ (rfl:_=AV.v (.int _ _))) ?_
 refine jI rfl ?_
 refine bN (_,[]) rfl (fun τ=> rfl) (fun τ=> bf _ _ aa rfl rfl _ rfl ab ah (by exact Nat.mul_one _)) ?_
 refine jQ rfl ?_
 refine bN (_,[]) rfl (fun τ=> rfl) (fun τ=> bC _ aa rfl (by exact Br pr hp) rfl) ?_
 refine fW rfl ?_
 refine bN (_,[]) rfl (fun τ=> rfl) (fun τ=> aE _ (rfl:_=AV.ptr _ _)) ?_
 refine gx rfl ?_
 refine bN (_,[]) rfl (fun τ=> rfl) (fun τ=> (br aa _ _ ar (bU T z3 N hz2) tr rfl ae (by simp))) ?_
 refine kA rfl ?_
 refine bN (_,[]) rfl (fun τ=> rfl) (fun τ=> (aK aa al (cB (opsP.getD pr []) _ rfl ab (cX T z3).t) rfl rfl)) ?_
 refine kx rfl ?_
 refine ap (_,[]) (fun τ=> aD _ _ _ rfl (rfl:_=AV.v (.bool _))) ?_
 refine mO rfl (bh ⟨rfl,?_⟩)
 refine aj (aU rfl (fun hc35=> ?_) (fun hc35=> ?_))
 ·skip
  obtain ⟨_,e,je,he,hm⟩:=hm.resolve_left fun x=> x.1 hc35
  obtain ⟨hea,heb⟩:=(ih g ab).expr _ _ _ _ hl ab (dN hz2) he
  refine bu (hK5 _ ?_)
  clear hK5;try clear K5
  refine au (am (bi rfl (ai (br aa _ _ ar (bU T z3 N hz2) tr rfl ae (by simp)) ?_)))
  refine iY rfl (aj (aq ?_))
  refine aN (σ':=aB 53 [(0,_),(1,_),(2,_),(6,_),(7,_),(8,_),(9,_)] [((6,0),_),((0,9),_),((8,0),_)] [(0,9)] [(0,9)]) kp ?_
  refine an (bi rfl (ai (aO (cq T z3 N hz2 hT)) ?_))
  refine aj (aG fun K9 hK9=> ?_)
  refine an (bi rfl (aQ rfl (aQ rfl (ai (bc _ _ rfl rfl (bp ab)) ?_))))
  refine ai (aO (heb)) (ai (ay (10,0) aa rfl rfl) (bQ rfl rfl rfl rfl rfl rfl (az (hK9 _ ?_))))
  clear hK9;try clear K9
  refine am (dK rfl (ai (aS _ aa rfl rfl rfl rfl) (ai (aS _ aa rfl rfl rfl rfl) (ai (aW _ _ aa rfl ag (by (simp <;> rfl)) ah rfl) ?_))))
  refine ai (aA _ aa rfl (by exact (rfl:_=some [_,_,_,_]))) ?_
  refine bQ rfl rfl rfl rfl rfl rfl (aj (aq ?_))
  refine aN (σ':=aB 53 [(0,_),(1,_),(2,_),(6,_),(7,_),(8,_)] [((6,0),_),((0,9),_),((8,0),_)] [(0,9)] [(0,9)]) kp ?_
  refine an (aQ rfl (ai (bP _ _ rfl rfl rfl) (aj (aU rfl (fun hc51=> ?_) (fun hc51=> ?_)))))
  ·skip
   have hr:=(hm.resolve_right fun x=> x.1 ab).2
   subst hr
   refine bK (id (hK4 _ ?_))
   clear hK4;try clear K4
   exact am (ai (aS _ aa rfl rfl rfl rfl) (bQ rfl rfl rfl rfl rfl rfl (aj (aC (aY (.inr rfl) rfl (.cellA aa rfl rfl rfl) (Le.outI [] [] (.agg rfl lz) rfl rfl rfl trivial ob tr rfl))))))
  ·skip
   have hm:=(hm.resolve_left fun x=> hc51 ab).2
   refine bu (⟨(g,nd 18 0 (cX T z3).t [z2,e],je),?_,?_,?_⟩)
   ·exact ⟨by simp only;omega,hea,hm⟩
   ·skip
    refine Le.mkJ [] [] rfl ?_ ?_ trivial tr ?_
    ·exact ⟨(iP rfl),(iV rfl),(iV rfl),(iP rfl),(iS rfl),(iP rfl),trivial⟩
    ·exact ⟨(cD rfl rfl rfl),(fM rfl rfl rfl rfl lz),(fM rfl rfl rfl rfl (nI (nI (aI (by repeat' (exact Lv.v)) lz)))),trivial⟩
    ·kernel_rfl
   ·simp only;omega
 ·skip
  have hr:=(hm.resolve_right fun x=> hc35 x.1).2
  subst hr
  refine bK (id (hK4 _ ?_))
  clear hK4;try clear K4
  exact am (ai (aS _ aa rfl rfl rfl rfl) (bQ rfl rfl rfl rfl rfl rfl (aj (aC (aY (.inr rfl) rfl (.cellA aa rfl rfl rfl) (Le.outI [] [] (.agg rfl lz) rfl rfl rfl trivial ob tr rfl))))))
theorem CF (hT:T.length≤100000): ∀ f g,g≤f→PE T N g:=by
 intro f
 induction f with
 | zero=>
  intro g hg
  obtain rfl:g=0:=by omega
  exact ⟨fun _ _ _ _ _ _ _ h=> by simp [fS] at h,fun _ _ _ _ _ _ _ _ h=> by simp [El] at h,fun _ _ _ _ _ _ _ h=> by simp [vL] at h,fun _ _ _ _ _ h=> by simp [pj] at h,fun _ _ _ _ _ h=> by simp [rN] at h⟩
 | succ f ih=>
  intro g hg
  rcases Nat.lt_or_ge g (f+1) with h | h
  ·exact ih g ab
  ·obtain rfl:g=f+1:=by omega
   exact ⟨uS f (ih f (Nat.le_refl _)),zX hT f (ih f (Nat.le_refl _)),xb hT f ih,uW hT f (ih f (Nat.le_refl _)),uX hT f (ih f (Nat.le_refl _))⟩
theorem wa (hT:T.length≤100000) {f lv i:Nat} {r:Nd×Nat} (hl:lv≤20) (hi:i < T.length) (h:fS T f lv 1 i=some r):r.2 < T.length∧Spec Tryz.prog 226 (be [.ptr (0,9) 0, .v (.int .i64 (lv:Int)), .v (.int .i64 1)] (dH T i N)) (PO T N r):=
 (CF hT f f (Nat.le_refl _)).expr lv 1 i r hl ab hi h
end

structure PS (T:List Tk) (N:List Tx) (f:Nat):Prop where
 stm: ∀ lv i r,lv≤20→i < T.length→uJ T f lv i=some r→r.2 < T.length∧Spec Tryz.prog 202 (be [.ptr (0,9) 0, .v (.int .i64 (lv:Int))] (dH T i N)) (PO T N r)
 blk: ∀ lv i r,lv≤21→i < T.length→oO T f lv i=some r→r.2 < T.length∧Spec Tryz.prog 164 (be [.ptr (0,9) 0, .v (.int .i64 (lv:Int))] (dH T i N)) (PO T N r)
def zn:List Tx:=[tn,jk,nx,gm,jL,nD,lS,nZ,nC]
theorem fq {T:List Tk} {i:Nat} (h:tv (cX T i).t=true):dW T i=false:=by unfold dW;rw [h];simp
section
variable {T:List Tk} {N:List Tx}
theorem uz (hT:T.length≤100000) (lv i:Nat) (hl:lv≤20) (hi:i < T.length) (hn:dW T i=true) {d:Nd} {j1 j2 j3:Nat} (h1:Spec Tryz.prog 162 (be [.ptr (0,9) 0, .v (bt [61])] (dH T (bS T i) N)) (bg (.tup []) (dH T j1 N) [(0,9)] [(0,9)])) (h2:Spec Tryz.prog 226 (be [.ptr (0,9) 0, .v (.int .i64 (lv:Int)), .v (.int .i64 1)] (dH T j1 N)) (PO T N (d,j2))) (h3:Spec Tryz.prog 162 (be [.ptr (0,9) 0, .v (bt [59])] (dH T j2 N)) (bg (.tup []) (dH T j3 N) [(0,9)] [(0,9)])):
  Spec Tryz.prog 202 (be [.ptr (0,9) 0, .v (.int .i64 (lv:Int))] (dH T i N)) (PO T N (nd 1 0 (cX T i).t [d],j3)):=by
 refine Spec.ofNI Tryz.func202 rfl Tryz.ntmps202 rfl ?_
 refine am (ai (ay (4,0) aa rfl rfl) (aj (am (bi rfl (ai (br aa _ _ ar (bU T i N hi) tr rfl ae (by simp)) ?_)))))
 refine iY rfl (aj (am (ai (aA _ aa rfl (by exact (rfl:_=some [_,_,_,_]))) ?_)))
 refine ai (ay (6,0) aa rfl rfl) (bQ rfl rfl rfl rfl rfl rfl (aj (aq (am (bi rfl (ai (br aa _ _ ar (dE T i N hi) tr rfl ae (by simp)) ?_))))))
 refine aj (bD rfl hn (am (bi rfl (ai (aO (cq T i N hi hT)) ?_))))
 refine aj (aG fun K7 hK7=> ?_)
 refine an (bi rfl (ai (aO (h1)) (az (hK7 _ ?_))))
 clear hK7;try clear K7
 refine aG fun K8 hK8=> ?_
 refine an (dK rfl (bi rfl (aQ rfl (ai (aO (h2)) (ai (aW _ _ aa rfl ag (by (simp <;> rfl)) ah rfl) ?_)))))
 refine ai (aA _ aa rfl (by exact (rfl:_=some [_,_,_,_]))) ?_
 refine bQ rfl rfl rfl rfl rfl rfl (az (hK8 _ ?_))
 clear hK8;try clear K8
 refine aG fun K9 hK9=> ?_
 refine aN (σ':=aB 145 [(0,_),(4,_),(6,_)] [((0,9),_),((4,0),_),((6,0),_)] [(0,9)] [(0,9)]) kp ?_
 refine an (bi rfl (ai (aO (h3)) (az (hK9 _ ?_))))
 clear hK9;try clear K9
 exact am (ai (aS _ aa rfl rfl rfl rfl) (bQ rfl rfl rfl rfl rfl rfl (aj (aC (aY (.inr rfl) rfl (.cellA aa rfl rfl rfl) (Le.outI [] [] (.agg rfl lz) rfl rfl rfl trivial ob tr rfl))))))
theorem yj (hT:T.length≤100000) (lv i:Nat) (hl:lv≤20) (hi:i < T.length) (ht:(cX T i).t=jk) {c x:Nd} {j1 j2:Nat} (h1:Spec Tryz.prog 226 (be [.ptr (0,9) 0, .v (.int .i64 (lv:Int)), .v (.int .i64 1)] (dH T (bS T i) N)) (PO T N (c,j1))) (h2:Spec Tryz.prog 164 (be [.ptr (0,9) 0, .v (.int .i64 ((lv+1:Nat):Int))] (dH T j1 N)) (PO T N (x,j2))):
  Spec Tryz.prog 202 (be [.ptr (0,9) 0, .v (.int .i64 (lv:Int))] (dH T i N)) (PO T N (nd 3 0 [] [c,x],j2)):=by
 have hnx:=bU T i N hi
 have hn:dW T i=false:=fq (by rw [ht];rfl)
 rw [ht] at hnx
 refine Spec.ofNI Tryz.func202 rfl Tryz.ntmps202 rfl ?_
 refine am (ai (ay (4,0) aa rfl rfl) (aj (am (bi rfl (ai (br aa _ _ ar (hnx) tr rfl ae (by simp)) ?_)))))
 refine iY rfl (aj (am (ai (aA _ aa rfl (by exact (rfl:_=some [_,_,_,_]))) ?_)))
 refine ai (ay (6,0) aa rfl rfl) (bQ rfl rfl rfl rfl rfl rfl (aj (aq (am (bi rfl (ai (br aa _ _ ar (dE T i N hi) tr rfl ae (by simp)) ?_))))))
 refine aj (aP rfl hn (aH (aq (am (ai (aW _ _ aa rfl ag (by (simp <;> rfl)) ah rfl) ?_)))))
 refine dK rfl (ai (aK aa al (cB zn 9 rfl ab jk) rfl rfl) ?_)
 refine ai (cR (r:=false) _ rfl rfl) (aj (aP rfl rfl (aH (am (bi rfl (ai (aO (cq T i N hi hT)) ?_))))))
 refine aj (aq (aq ?_))
 refine aN (σ':=aB 145 [(0,_),(1,_),(4,_),(5,_),(6,_)] [((0,9),_),((4,0),_),((6,0),_)] [(0,9)] [(0,9)]) kp ?_
 refine an (dK rfl (aj (au (aq (am (ai (aV (r:=false) _ _ Tryz.underlying9 rfl rfl rfl) (cm rfl (aj (aP rfl rfl (an ?_))))))))))
 refine ai (aV (r:=true) _ _ Tryz.underlying9 rfl rfl rfl) (cm rfl (aj (bD rfl rfl (aG fun K13 hK13=> ?_))))
 refine an (bi rfl (aQ rfl (ai (aO (h1)) (ai (ay (7,0) aa rfl rfl) (bQ rfl rfl rfl rfl rfl rfl (az (hK13 _ ?_)))))))
 clear hK13;try clear K13
 refine aG fun K14 hK14=> ?_
 refine aN (σ':=aB 145 [(0,_),(1,_),(4,_),(5,_),(7,_)] [((0,9),_),((4,0),_),((7,0),_)] [(0,9)] [(0,9)]) kp ?_
 refine bG 5 [53,54,55,56,57] [(0,9)] ae ae rfl (aL rfl) (rfl:_=[_,_,_,_,_]) (rfl:_=[_,_]) ?_
 refine ap (_,[]) (fun τ=> aS _ aa rfl rfl rfl rfl) ?_
 refine eK rfl ?_
 refine ap (_,[]) (fun τ=> aE _ (rfl:_=AV.ptr _ _)) ?_
 refine eJ rfl ?_
 refine ap (_,[]) (fun τ=> aE _ (rfl:_=AV.v (.int _ _))) ?_
 refine eI rfl ?_
 refine ap (_,[]) (fun τ=> bc _ _ rfl rfl (bp ab)) ?_
 refine eO rfl ?_
 refine ap (_,[((0,9),_)]) (fun τ=> (cp aa ar (h2) ob rfl rfl ae)) ?_
 refine fa rfl (bh ⟨rfl,?_⟩)
 refine ai (aW _ _ aa rfl ag (by (simp <;> rfl)) ah rfl) ?_
 refine lf rfl (az (hK14 _ ?_))
 clear hK14;try clear K14
 refine aq (am (dK rfl (ai (aV (r:=true) _ _ Tryz.underlying9 rfl rfl rfl) (aj (bD rfl rfl (am (eN rfl (ai (aA _ aa rfl (by exact (rfl:_=some [_,_,_,_]))) ?_))))))))
 exact bQ rfl rfl rfl rfl rfl rfl (aj (aC (aY (.inr rfl) rfl (.cellA aa rfl rfl rfl) (Le.outI [] [] (.agg rfl lz) rfl rfl rfl trivial ob tr rfl))))
theorem Fj (hT:T.length≤100000) (lv i:Nat) (hl:lv≤20) (hi:i < T.length) (ht:(cX T i).t=tn) {c x:Nd} {j1 j2:Nat} (h1:Spec Tryz.prog 226 (be [.ptr (0,9) 0, .v (.int .i64 (lv:Int)), .v (.int .i64 1)] (dH T (bS T i) N)) (PO T N (c,j1))) (h2:Spec Tryz.prog 164 (be [.ptr (0,9) 0, .v (.int .i64 ((lv+1:Nat):Int))] (dH T j1 N)) (PO T N (x,j2))) (hj:j2 < T.length) (he:(cX T j2).t≠qg):
  Spec Tryz.prog 202 (be [.ptr (0,9) 0, .v (.int .i64 (lv:Int))] (dH T i N)) (PO T N (nd 2 0 [] [c,x,nd 11 0 [] []],j2)):=by
 have hnx:=bU T i N hi
 have hn:dW T i=false:=fq (by rw [ht];rfl)
 rw [ht] at hnx
 refine Spec.ofNI Tryz.func202 rfl Tryz.ntmps202 rfl ?_
 refine am (ai (ay (4,0) aa rfl rfl) (aj (am (bi rfl (ai (br aa _ _ ar (hnx) tr rfl ae (by simp)) ?_)))))
 refine iY rfl (aj (am (ai (aA _ aa rfl (by exact (rfl:_=some [_,_,_,_]))) ?_)))
 refine ai (ay (6,0) aa rfl rfl) (bQ rfl rfl rfl rfl rfl rfl (aj (aq (am (bi rfl (ai (br aa _ _ ar (dE T i N hi) tr rfl ae (by simp)) ?_))))))
 refine aj (aP rfl hn (aH (aq (am (ai (aW _ _ aa rfl ag (by (simp <;> rfl)) ah rfl) ?_)))))
 refine dK rfl (ai (aK aa al (cB zn 9 rfl ab tn) rfl rfl) ?_)
 refine ai (cR (r:=false) _ rfl rfl) (aj (aP rfl rfl (aH (am (bi rfl (ai (aO (cq T i N hi hT)) ?_))))))
 refine aj (aq (aq ?_))
 refine aN (σ':=aB 145 [(0,_),(1,_),(4,_),(5,_),(6,_)] [((0,9),_),((4,0),_),((6,0),_)] [(0,9)] [(0,9)]) kp ?_
 refine an (dK rfl (aj (au (aq (am (ai (aV (r:=true) _ _ Tryz.underlying9 rfl rfl rfl) (cm rfl (aj (bD rfl rfl (aH ?_))))))))))
 refine bD rfl rfl (aG fun K13 hK13=> ?_)
 refine an (bi rfl (aQ rfl (ai (aO (h1)) (ai (ay (7,0) aa rfl rfl) (bQ rfl rfl rfl rfl rfl rfl (az (hK13 _ ?_)))))))
 clear hK13;try clear K13
 refine aG fun K14 hK14=> ?_
 refine aN (σ':=aB 145 [(0,_),(1,_),(4,_),(5,_),(7,_)] [((0,9),_),((4,0),_),((7,0),_)] [(0,9)] [(0,9)]) kp ?_
 refine bG 5 [53,54,55,56,57] [(0,9)] ae ae rfl (aL rfl) (rfl:_=[_,_,_,_,_]) (rfl:_=[_,_]) ?_
 refine ap (_,[]) (fun τ=> aS _ aa rfl rfl rfl rfl) ?_
 refine eK rfl ?_
 refine ap (_,[]) (fun τ=> aE _ (rfl:_=AV.ptr _ _)) ?_
 refine eJ rfl ?_
 refine ap (_,[]) (fun τ=> aE _ (rfl:_=AV.v (.int _ _))) ?_
 refine eI rfl ?_
 refine ap (_,[]) (fun τ=> bc _ _ rfl rfl (bp ab)) ?_
 refine eO rfl ?_
 refine ap (_,[((0,9),_)]) (fun τ=> (cp aa ar (h2) ob rfl rfl ae)) ?_
 refine fa rfl (bh ⟨rfl,?_⟩)
 refine ai (jS (58,0) _ _ aa rfl ag (by (simp <;> rfl)) ah rfl rfl) ?_
 refine eZ rfl (az (hK14 _ ?_))
 clear hK14;try clear K14
 refine aq (am (dK rfl (ai (aV (r:=false) _ _ Tryz.underlying9 rfl rfl rfl) (aj (aP rfl rfl (aH (am (ai (aA _ aa rfl (by exact (rfl:_=some [_,_,_,_]))) ?_))))))))
 refine ai (ay (9,0) aa rfl rfl) (bQ rfl rfl rfl rfl rfl rfl (aj (aq (am (bi rfl (ai (aT _ rfl rfl) (bE rfl rfl rfl (cK rfl rfl rfl (iX rfl rfl rfl (cL rfl ?_))))))))))
 refine ax rfl rfl (aE _ (rfl:_=AV.ptr _ _)) (ax rfl rfl (br aa _ _ ar (bU T j2 N hj) tr rfl ae (by simp)) ?_)
 refine ax rfl rfl (aV (r:=false) _ _ Tryz.underlying9 rfl rfl (beq_eq_false_iff_ne.2 he)) ?_
 refine ai (aD _ _ _ rfl (rfl:_=AV.v (.bool _))) (aj (aP rfl rfl (aH (aq ?_))))
 refine aN (σ':=aB 145 [(4,_),(8,_),(9,_)] [((4,0),_),((58,0),_),((9,0),_),((0,9),_)] [(0,9)] [(0,9)]) kp ?_
 refine an (gD rfl (cE (Le.nil0 (9,0) 3 rfl rfl) ?_))
 refine ai (aS _ aa rfl rfl rfl rfl) (ai (aW _ _ aa rfl ag (by (simp <;> rfl)) ah rfl) ?_)
 refine ai (dq (83,0) _ _ aa rfl rfl ag (by (refine .sl ?_;(simp [dk];done))) ab rfl (rfl) (rfl)) ?_
 refine ai (aA _ aa rfl (by exact (rfl:_=some [_,_,_,_]))) ?_
 exact bQ rfl rfl rfl rfl rfl rfl (aj (aC (aY (.inr rfl) rfl (.cellA aa rfl rfl rfl) (Le.outI [] [(83,0)] (.agg rfl (aI .v (aI .v (aI .v (aI (iq rfl rfl rfl rfl) bv))))) rfl rfl rfl tr ob tr rfl))))
theorem uY (hT:T.length≤100000) (lv i:Nat) (hl:lv≤20) (hi:i < T.length) (ht:(cX T i).t=tn) {c x y:Nd} {j1 j2 j3:Nat} (h1:Spec Tryz.prog 226 (be [.ptr (0,9) 0, .v (.int .i64 (lv:Int)), .v (.int .i64 1)] (dH T (bS T i) N)) (PO T N (c,j1))) (h2:Spec Tryz.prog 164 (be [.ptr (0,9) 0, .v (.int .i64 ((lv+1:Nat):Int))] (dH T j1 N)) (PO T N (x,j2))) (hj:j2 < T.length) (he:(cX T j2).t=qg) (h3:Spec Tryz.prog 164 (be [.ptr (0,9) 0, .v (.int .i64 ((lv+1:Nat):Int))] (dH T (bS T j2) N)) (PO T N (y,j3))):
  Spec Tryz.prog 202 (be [.ptr (0,9) 0, .v (.int .i64 (lv:Int))] (dH T i N)) (PO T N (nd 2 0 [] [c,x,y],j3)):=by
 have hnx:=bU T i N hi
 have hn:dW T i=false:=fq (by rw [ht];rfl)
 rw [ht] at hnx
 refine Spec.ofNI Tryz.func202 rfl Tryz.ntmps202 rfl ?_
 refine am (ai (ay (4,0) aa rfl rfl) (aj (am (bi rfl (ai (br aa _ _ ar (hnx) tr rfl ae (by simp)) ?_)))))
 refine iY rfl (aj (am (ai (aA _ aa rfl (by exact (rfl:_=some [_,_,_,_]))) ?_)))
 refine ai (ay (6,0) aa rfl rfl) (bQ rfl rfl rfl rfl rfl rfl (aj (aq (am (bi rfl (ai (br aa _ _ ar (dE T i N hi) tr rfl ae (by simp)) ?_))))))
 refine aj (aP rfl hn (aH (aq (am (ai (aW _ _ aa rfl ag (by (simp <;> rfl)) ah rfl) ?_)))))
 refine dK rfl (ai (aK aa al (cB zn 9 rfl ab tn) rfl rfl) ?_)
 refine ai (cR (r:=false) _ rfl rfl) (aj (aP rfl rfl (aH (am (bi rfl (ai (aO (cq T i N hi hT)) ?_))))))
 refine aj (aq (aq ?_))
 refine aN (σ':=aB 145 [(0,_),(1,_),(4,_),(5,_),(6,_)] [((0,9),_),((4,0),_),((6,0),_)] [(0,9)] [(0,9)]) kp ?_
 refine an (dK rfl (aj (au (aq (am (ai (aV (r:=true) _ _ Tryz.underlying9 rfl rfl rfl) (cm rfl (aj (bD rfl rfl (aH ?_))))))))))
 refine bD rfl rfl (aG fun K13 hK13=> ?_)
 refine an (bi rfl (aQ rfl (ai (aO (h1)) (ai (ay (7,0) aa rfl rfl) (bQ rfl rfl rfl rfl rfl rfl (az (hK13 _ ?_)))))))
 clear hK13;try clear K13
 refine aG fun K14 hK14=> ?_
 refine aN (σ':=aB 145 [(0,_),(1,_),(4,_),(5,_),(7,_)] [((0,9),_),((4,0),_),((7,0),_)] [(0,9)] [(0,9)]) kp ?_
 refine bG 5 [53,54,55,56,57] [(0,9)] ae ae rfl (aL rfl) (rfl:_=[_,_,_,_,_]) (rfl:_=[_,_]) ?_
 refine ap (_,[]) (fun τ=> aS _ aa rfl rfl rfl rfl) ?_
 refine eK rfl ?_
 refine ap (_,[]) (fun τ=> aE _ (rfl:_=AV.ptr _ _)) ?_
 refine eJ rfl ?_
 refine ap (_,[]) (fun τ=> aE _ (rfl:_=AV.v (.int _ _))) ?_
 refine eI rfl ?_
 refine ap (_,[]) (fun τ=> bc _ _ rfl rfl (bp ab)) ?_
 refine eO rfl ?_
 refine ap (_,[((0,9),_)]) (fun τ=> (cp aa ar (h2) ob rfl rfl ae)) ?_
 refine fa rfl (bh ⟨rfl,?_⟩)
 refine ai (jS (58,0) _ _ aa rfl ag (by (simp <;> rfl)) ah rfl rfl) ?_
 refine eZ rfl (az (hK14 _ ?_))
 clear hK14;try clear K14
 refine aq (am (dK rfl (ai (aV (r:=false) _ _ Tryz.underlying9 rfl rfl rfl) (aj (aP rfl rfl (aH (am (ai (aA _ aa rfl (by exact (rfl:_=some [_,_,_,_]))) ?_))))))))
 refine ai (ay (9,0) aa rfl rfl) (bQ rfl rfl rfl rfl rfl rfl (aj (aG fun K18 hK18=> ?_)))
 refine am (bi rfl (ai (aT _ rfl rfl) (bE rfl rfl rfl (cK rfl rfl rfl (iX rfl rfl rfl (cL rfl (ax rfl rfl (aE _ (rfl:_=AV.ptr _ _)) (ax rfl rfl (br aa _ _ ar (bU T j2 N hj) tr rfl ae (by simp)) ?_))))))))
 refine ax rfl rfl (aV (r:=true) _ _ Tryz.underlying9 rfl rfl (beq_iff_eq.2 he)) ?_
 refine ai (aD _ _ _ rfl (rfl:_=AV.v (.bool _))) (aj (bD rfl rfl (aG fun K20 hK20=> ?_)))
 refine aN (σ':=aB 145 [(0,_),(1,_),(4,_),(8,_),(9,_)] [((0,9),_),((4,0),_),((58,0),_),((9,0),_)] [(0,9)] [(0,9)]) kp ?_
 refine an (bi rfl (ai (aO (cq T j2 N hj hT)) ?_))
 refine az (hK20 _ ?_)
 clear hK20;try clear K20
 refine an (bi rfl (aQ rfl (ai (bc _ _ rfl rfl (bp ab)) ?_)))
 refine ai (aO (h3)) (bQ rfl rfl rfl rfl rfl rfl (az (hK18 _ ?_)))
 clear hK18;try clear K18
 refine am (gD rfl (ai (aS _ aa rfl rfl rfl rfl) (ai (aW _ _ aa rfl ag (by (simp <;> rfl)) ah rfl) ?_)))
 refine ai (dq (83,0) _ _ aa rfl rfl ag (by (refine .sl ?_;(simp [dk];done))) ab rfl (rfl) (rfl)) ?_
 refine ai (aA _ aa rfl (by exact (rfl:_=some [_,_,_,_]))) ?_
 exact bQ rfl rfl rfl rfl rfl rfl (aj (aC (aY (.inr rfl) rfl (.cellA aa rfl rfl rfl) (Le.outI [] [(83,0)] (.agg rfl (aI .v (aI .v (aI .v (aI (iq rfl rfl rfl rfl) bv))))) rfl rfl rfl tr ob tr rfl))))
theorem zR (hT:T.length≤100000) (lv i:Nat) (hl:lv≤20) (hi:i < T.length) (ht:(cX T i).t=nx) {x y z:Nd} {k j1 j2 j3 j4 j5 j6 j7 j8:Nat} (h1:Spec Tryz.prog 226 (be [.ptr (0,9) 0, .v (.int .i64 (lv:Int)), .v (.int .i64 1)] (dH T (bS T i) N)) (PO T N (x,j1))) (h2:Spec Tryz.prog 162 (be [.ptr (0,9) 0, .v (bt [44])] (dH T j1 N)) (bg (.tup []) (dH T j2 N) [(0,9)] [(0,9)])) (h3:Spec Tryz.prog 200 (be [.ptr (0,9) 0, .v (.int .i64 29)] (dH T j2 N)) (bg (.v (.int .i64 (k:Int))) (dH T j3 N) [(0,9)] [(0,9)])) (h4:Spec Tryz.prog 162 (be [.ptr (0,9) 0, .v (bt [44])] (dH T j3 N)) (bg (.tup []) (dH T j4 N) [(0,9)] [(0,9)])) (h5:Spec Tryz.prog 226 (be [.ptr (0,9) 0, .v (.int .i64 (lv:Int)), .v (.int .i64 1)] (dH T j4 N)) (PO T N (y,j5))) (h6:Spec Tryz.prog 162 (be [.ptr (0,9) 0, .v (bt [44])] (dH T j5 N)) (bg (.tup []) (dH T j6 N) [(0,9)] [(0,9)])) (h7:Spec Tryz.prog 226 (be [.ptr (0,9) 0, .v (.int .i64 (lv:Int)), .v (.int .i64 1)] (dH T j6 N)) (PO T N (z,j7))) (h8:Spec Tryz.prog 162 (be [.ptr (0,9) 0, .v (bt [59])] (dH T j7 N)) (bg (.tup []) (dH T j8 N) [(0,9)] [(0,9)])):
  Spec Tryz.prog 202 (be [.ptr (0,9) 0, .v (.int .i64 (lv:Int))] (dH T i N)) (PO T N (nd 4 k [] [x,y,z],j8)):=by
 have hnx:=bU T i N hi
 have hn:dW T i=false:=fq (by rw [ht];rfl)
 rw [ht] at hnx
 refine Spec.ofNI Tryz.func202 rfl Tryz.ntmps202 rfl ?_
 refine am (ai (ay (4,0) aa rfl rfl) (aj (am (bi rfl (ai (br aa _ _ ar (hnx) tr rfl ae (by simp)) ?_)))))
 refine iY rfl (aj (am (ai (aA _ aa rfl (by exact (rfl:_=some [_,_,_,_]))) ?_)))
 refine ai (ay (6,0) aa rfl rfl) (bQ rfl rfl rfl rfl rfl rfl (aj (aq (am (bi rfl (ai (br aa _ _ ar (dE T i N hi) tr rfl ae (by simp)) ?_))))))
 refine aj (aP rfl hn (aH (aq (am (ai (aW _ _ aa rfl ag (by (simp <;> rfl)) ah rfl) ?_)))))
 refine dK rfl (ai (aK aa al (cB zn 9 rfl ab nx) rfl rfl) ?_)
 refine ai (cR (r:=false) _ rfl rfl) (aj (aP rfl rfl (aH (am (bi rfl (ai (aO (cq T i N hi hT)) ?_))))))
 refine aj (aG fun K9 hK9=> ?_)
 refine aq ?_
 refine aN (σ':=aB 145 [(0,_),(1,_),(4,_),(5,_),(6,_)] [((0,9),_),((4,0),_),((6,0),_)] [(0,9)] [(0,9)]) kp ?_
 refine an (dK rfl (aj (au (aq (am (ai (aV (r:=false) _ _ Tryz.underlying9 rfl rfl rfl) (cm rfl (aj (aP rfl rfl (an ?_))))))))))
 refine ai (aV (r:=false) _ _ Tryz.underlying9 rfl rfl rfl) (cm rfl (aj (aP rfl rfl (am (ai (aV (r:=true) _ _ Tryz.underlying9 rfl rfl rfl) (cm rfl (aj (bD rfl rfl (aG fun K14 hK14=> ?_)))))))))
 refine an (bi rfl (aQ rfl (ai (aO (h1)) (ai (ay (10,0) aa rfl rfl) (bQ rfl rfl rfl rfl rfl rfl (az (hK14 _ ?_)))))))
 clear hK14;try clear K14
 refine aG fun K15 hK15=> ?_
 refine an (bi rfl (ai (aO (h2)) (az (hK15 _ ?_))))
 clear hK15;try clear K15
 refine aG fun K16 hK16=> ?_
 refine an (bi rfl (ai (aO (h3)) (aZ rfl (az (hK16 _ ?_)))))
 clear hK16;try clear K16
 refine aG fun K17 hK17=> ?_
 refine aN (σ':=aB 145 [(0,_),(1,_),(4,_),(6,_),(10,_),(11,_)] [((0,9),_),((4,0),_),((6,0),_),((10,0),_)] [(0,9)] [(0,9)]) kp ?_
 refine an (bi rfl (ai (aO (h4)) (az (hK17 _ ?_))))
 clear hK17;try clear K17
 refine aG fun K18 hK18=> ?_
 refine an (bi rfl (aQ rfl (ai (aO (h5)) (ai (ay (12,0) aa rfl rfl) (bQ rfl rfl rfl rfl rfl rfl (az (hK18 _ ?_)))))))
 clear hK18;try clear K18
 refine aG fun K19 hK19=> ?_
 refine an (bi rfl (ai (aO (h6)) (az (hK19 _ ?_))))
 clear hK19;try clear K19
 refine aN (σ':=aB 145 [(0,_),(1,_),(4,_),(6,_),(10,_),(11,_),(12,_)] [((0,9),_),((4,0),_),((6,0),_),((10,0),_),((12,0),_)] [(0,9)] [(0,9)]) kp ?_
 refine bG 7 [101,102,103,104,105,106,107] [(0,9)] ae ae rfl (aL rfl) (rfl:_=[_,_,_,_,_,_,_]) (rfl:_=[_,_]) ?_
 refine ap (_,[]) (fun τ=> aE _ (rfl:_=AV.v (.int _ _))) ?_
 refine eK rfl ?_
 refine ap (_,[]) (fun τ=> aS _ aa rfl rfl rfl rfl) ?_
 refine eJ rfl ?_
 refine ap (_,[]) (fun τ=> aS _ aa rfl rfl rfl rfl) ?_
 refine eI rfl ?_
 refine ap (_,[]) (fun τ=> aE _ (rfl:_=AV.ptr _ _)) ?_
 refine eO rfl ?_
 refine ap (_,[]) (fun τ=> aE _ (rfl:_=AV.v (.int _ _))) ?_
 refine fa rfl ?_
 refine ap (_,[((0,9),_)]) (fun τ=> (cp aa ar (h7) ob rfl rfl ae)) ?_
 refine fC rfl ?_
 refine ap (_,[]) (fun τ=> aW _ _ aa rfl ag (by (simp;exact ⟨rfl,rfl⟩)) ah rfl) ?_
 refine gv rfl (bh ⟨rfl,?_⟩)
 refine ai (aA _ aa rfl (by exact (rfl:_=some [_,_,_,_]))) ?_
 refine bQ rfl rfl rfl rfl rfl rfl (az (hK9 _ ?_))
 clear hK9;try clear K9
 refine aG fun K20 hK20=> ?_
 refine an (bi rfl (ai (aO (h8)) (az (hK20 _ ?_))))
 clear hK20;try clear K20
 exact am (ai (aS _ aa rfl rfl rfl rfl) (bQ rfl rfl rfl rfl rfl rfl (aj (aC (aY (.inr rfl) rfl (.cellA aa rfl rfl rfl) (Le.outI [] [] (.agg rfl lz) rfl rfl rfl trivial ob tr rfl))))))
theorem wN (hT:T.length≤100000) (lv i:Nat) (hl:lv≤20) (hi:i < T.length) (ht:(cX T i).t=gm) {k j1 j2:Nat} (h1:Spec Tryz.prog 200 (be [.ptr (0,9) 0, .v (.int .i64 7)] (dH T (bS T i) N)) (bg (.v (.int .i64 (k:Int))) (dH T j1 N) [(0,9)] [(0,9)])) (h2:Spec Tryz.prog 162 (be [.ptr (0,9) 0, .v (bt [59])] (dH T j1 N)) (bg (.tup []) (dH T j2 N) [(0,9)] [(0,9)])):
  Spec Tryz.prog 202 (be [.ptr (0,9) 0, .v (.int .i64 (lv:Int))] (dH T i N)) (PO T N (nd 5 k [] [],j2)):=by
 have hnx:=bU T i N hi
 have hn:dW T i=false:=fq (by rw [ht];rfl)
 rw [ht] at hnx
 refine Spec.ofNI Tryz.func202 rfl Tryz.ntmps202 rfl ?_
 refine am (ai (ay (4,0) aa rfl rfl) (aj (am (bi rfl (ai (br aa _ _ ar (hnx) tr rfl ae (by simp)) ?_)))))
 refine iY rfl (aj (am (ai (aA _ aa rfl (by exact (rfl:_=some [_,_,_,_]))) ?_)))
 refine ai (ay (6,0) aa rfl rfl) (bQ rfl rfl rfl rfl rfl rfl (aj (aq (am (bi rfl (ai (br aa _ _ ar (dE T i N hi) tr rfl ae (by simp)) ?_))))))
 refine aj (aP rfl hn (aH (aq (am (ai (aW _ _ aa rfl ag (by (simp <;> rfl)) ah rfl) ?_)))))
 refine dK rfl (ai (aK aa al (cB zn 9 rfl ab gm) rfl rfl) ?_)
 refine ai (cR (r:=false) _ rfl rfl) (aj (aP rfl rfl (aH (am (bi rfl (ai (aO (cq T i N hi hT)) ?_))))))
 refine aj (aG fun K9 hK9=> ?_)
 refine aq ?_
 refine aN (σ':=aB 145 [(0,_),(1,_),(4,_),(5,_),(6,_)] [((0,9),_),((4,0),_),((6,0),_)] [(0,9)] [(0,9)]) kp ?_
 refine an (dK rfl (aj (au (aq (am (ai (aV (r:=false) _ _ Tryz.underlying9 rfl rfl rfl) (cm rfl (aj (aP rfl rfl (an ?_))))))))))
 refine ai (aV (r:=false) _ _ Tryz.underlying9 rfl rfl rfl) (cm rfl (aj (aP rfl rfl (am (ai (aV (r:=false) _ _ Tryz.underlying9 rfl rfl rfl) (cm rfl (aj (aP rfl rfl (am (ai (aV (r:=true) _ _ Tryz.underlying9 rfl rfl rfl) ?_))))))))))
 refine cm rfl (aj (bD rfl rfl (an (bi rfl (ai (aO (h1)) (ai (aA _ aa rfl (by exact (rfl:_=some [_,_,_,_]))) ?_))))))
 refine bQ rfl rfl rfl rfl rfl rfl (az (hK9 _ ?_))
 clear hK9;try clear K9
 refine aG fun K15 hK15=> ?_
 refine an (bi rfl (ai (aO (h2)) (az (hK15 _ ?_))))
 clear hK15;try clear K15
 refine aq ?_
 refine aN (σ':=aB 145 [(4,_),(6,_)] [((4,0),_),((6,0),_),((0,9),_)] [(0,9)] [(0,9)]) kp ?_
 exact an (ai (aS _ aa rfl rfl rfl rfl) (bQ rfl rfl rfl rfl rfl rfl (aj (aC (aY (.inr rfl) rfl (.cellA aa rfl rfl rfl) (Le.outI [] [] (.agg rfl lz) rfl rfl rfl trivial ob tr rfl))))))
theorem vS (hT:T.length≤100000) (lv i:Nat) (hl:lv≤20) (hi:i < T.length) (ht:(cX T i).t=jL) {k j1 j2:Nat} (h1:Spec Tryz.prog 200 (be [.ptr (0,9) 0, .v (.int .i64 7)] (dH T (bS T i) N)) (bg (.v (.int .i64 (k:Int))) (dH T j1 N) [(0,9)] [(0,9)])) (h2:Spec Tryz.prog 162 (be [.ptr (0,9) 0, .v (bt [59])] (dH T j1 N)) (bg (.tup []) (dH T j2 N) [(0,9)] [(0,9)])):
  Spec Tryz.prog 202 (be [.ptr (0,9) 0, .v (.int .i64 (lv:Int))] (dH T i N)) (PO T N (nd 6 k [] [],j2)):=by
 have hnx:=bU T i N hi
 have hn:dW T i=false:=fq (by rw [ht];rfl)
 rw [ht] at hnx
 refine Spec.ofNI Tryz.func202 rfl Tryz.ntmps202 rfl ?_
 refine am (ai (ay (4,0) aa rfl rfl) (aj (am (bi rfl (ai (br aa _ _ ar (hnx) tr rfl ae (by simp)) ?_)))))
 refine iY rfl (aj (am (ai (aA _ aa rfl (by exact (rfl:_=some [_,_,_,_]))) ?_)))
 refine ai (ay (6,0) aa rfl rfl) (bQ rfl rfl rfl rfl rfl rfl (aj (aq (am (bi rfl (ai (br aa _ _ ar (dE T i N hi) tr rfl ae (by simp)) ?_))))))
 refine aj (aP rfl hn (aH (aq (am (ai (aW _ _ aa rfl ag (by (simp <;> rfl)) ah rfl) ?_)))))
 refine dK rfl (ai (aK aa al (cB zn 9 rfl ab jL) rfl rfl) ?_)
 refine ai (cR (r:=false) _ rfl rfl) (aj (aP rfl rfl (aH (am (bi rfl (ai (aO (cq T i N hi hT)) ?_))))))
 refine aj (aG fun K9 hK9=> ?_)
 refine aq ?_
 refine aN (σ':=aB 145 [(0,_),(1,_),(4,_),(5,_),(6,_)] [((0,9),_),((4,0),_),((6,0),_)] [(0,9)] [(0,9)]) kp ?_
 refine an (dK rfl (aj (au (aq (am (ai (aV (r:=false) _ _ Tryz.underlying9 rfl rfl rfl) (cm rfl (aj (aP rfl rfl (an ?_))))))))))
 refine ai (aV (r:=false) _ _ Tryz.underlying9 rfl rfl rfl) (cm rfl (aj (aP rfl rfl (am (ai (aV (r:=false) _ _ Tryz.underlying9 rfl rfl rfl) (cm rfl (aj (aP rfl rfl (am (ai (aV (r:=false) _ _ Tryz.underlying9 rfl rfl rfl) ?_))))))))))
 refine cm rfl (aj (aP rfl rfl (am (ai (aV (r:=true) _ _ Tryz.underlying9 rfl rfl rfl) (cm rfl (aj (bD rfl rfl (an (bi rfl (ai (aO (h1)) ?_))))))))))
 refine ai (aA _ aa rfl (by exact (rfl:_=some [_,_,_,_]))) ?_
 refine bQ rfl rfl rfl rfl rfl rfl (az (hK9 _ ?_))
 clear hK9;try clear K9
 refine aG fun K16 hK16=> ?_
 refine aN (σ':=aB 145 [(0,_),(4,_),(6,_)] [((0,9),_),((4,0),_),((6,0),_)] [(0,9)] [(0,9)]) kp ?_
 refine an (bi rfl (ai (aO (h2)) (az (hK16 _ ?_))))
 clear hK16;try clear K16
 exact am (ai (aS _ aa rfl rfl rfl rfl) (bQ rfl rfl rfl rfl rfl rfl (aj (aC (aY (.inr rfl) rfl (.cellA aa rfl rfl rfl) (Le.outI [] [] (.agg rfl lz) rfl rfl rfl trivial ob tr rfl))))))
theorem yh (hT:T.length≤100000) (lv i:Nat) (hl:lv≤20) (hi:i < T.length) (ht:(cX T i).t=lS) {x y:Nd} {j1 j2 j3 j4:Nat} (h1:Spec Tryz.prog 226 (be [.ptr (0,9) 0, .v (.int .i64 (lv:Int)), .v (.int .i64 1)] (dH T (bS T i) N)) (PO T N (x,j1))) (h2:Spec Tryz.prog 162 (be [.ptr (0,9) 0, .v (bt [44])] (dH T j1 N)) (bg (.tup []) (dH T j2 N) [(0,9)] [(0,9)])) (h3:Spec Tryz.prog 226 (be [.ptr (0,9) 0, .v (.int .i64 (lv:Int)), .v (.int .i64 1)] (dH T j2 N)) (PO T N (y,j3))) (h4:Spec Tryz.prog 162 (be [.ptr (0,9) 0, .v (bt [59])] (dH T j3 N)) (bg (.tup []) (dH T j4 N) [(0,9)] [(0,9)])):
  Spec Tryz.prog 202 (be [.ptr (0,9) 0, .v (.int .i64 (lv:Int))] (dH T i N)) (PO T N (nd 8 0 [] [x,y],j4)):=by
 have hnx:=bU T i N hi
 have hn:dW T i=false:=fq (by rw [ht];rfl)
 rw [ht] at hnx
 refine Spec.ofNI Tryz.func202 rfl Tryz.ntmps202 rfl ?_
 refine am (ai (ay (4,0) aa rfl rfl) (aj (am (bi rfl (ai (br aa _ _ ar (hnx) tr rfl ae (by simp)) ?_)))))
 refine iY rfl (aj (am (ai (aA _ aa rfl (by exact (rfl:_=some [_,_,_,_]))) ?_)))
 refine ai (ay (6,0) aa rfl rfl) (bQ rfl rfl rfl rfl rfl rfl (aj (aq (am (bi rfl (ai (br aa _ _ ar (dE T i N hi) tr rfl ae (by simp)) ?_))))))
 refine aj (aP rfl hn (aH (aq (am (ai (aW _ _ aa rfl ag (by (simp <;> rfl)) ah rfl) ?_)))))
 refine dK rfl (ai (aK aa al (cB zn 9 rfl ab lS) rfl rfl) ?_)
 refine ai (cR (r:=false) _ rfl rfl) (aj (aP rfl rfl (aH (am (bi rfl (ai (aO (cq T i N hi hT)) ?_))))))
 refine aj (aG fun K9 hK9=> ?_)
 refine aq ?_
 refine aN (σ':=aB 145 [(0,_),(1,_),(4,_),(5,_),(6,_)] [((0,9),_),((4,0),_),((6,0),_)] [(0,9)] [(0,9)]) kp ?_
 refine an (dK rfl (aj (au (aq (am (ai (aV (r:=false) _ _ Tryz.underlying9 rfl rfl rfl) (cm rfl (aj (aP rfl rfl (an ?_))))))))))
 refine ai (aV (r:=false) _ _ Tryz.underlying9 rfl rfl rfl) (cm rfl (aj (aP rfl rfl (am (ai (aV (r:=false) _ _ Tryz.underlying9 rfl rfl rfl) (cm rfl (aj (aP rfl rfl (am (ai (aV (r:=false) _ _ Tryz.underlying9 rfl rfl rfl) ?_))))))))))
 refine cm rfl (aj (aP rfl rfl (am (ai (aV (r:=false) _ _ Tryz.underlying9 rfl rfl rfl) (cm rfl (aj (aP rfl rfl (am (ai (aV (r:=true) _ _ Tryz.underlying9 rfl rfl rfl) (cm rfl ?_))))))))))
 refine aj (bD rfl rfl (aG fun K17 hK17=> ?_))
 refine an (bi rfl (aQ rfl (ai (aO (h1)) (ai (ay (13,0) aa rfl rfl) (bQ rfl rfl rfl rfl rfl rfl (az (hK17 _ ?_)))))))
 clear hK17;try clear K17
 refine aG fun K18 hK18=> ?_
 refine aN (σ':=aB 145 [(0,_),(1,_),(4,_),(6,_),(13,_)] [((0,9),_),((4,0),_),((6,0),_),((13,0),_)] [(0,9)] [(0,9)]) kp ?_
 refine an (bi rfl (ai (aO (h2)) (az (hK18 _ ?_))))
 clear hK18;try clear K18
 refine bG 4 [126,127,128,129] [(0,9)] ae ae rfl (aL rfl) (rfl:_=[_,_,_,_]) (rfl:_=[_,_,_]) ?_
 refine ap (_,[]) (fun τ=> aS _ aa rfl rfl rfl rfl) ?_
 refine eK rfl ?_
 refine ap (_,[]) (fun τ=> aE _ (rfl:_=AV.ptr _ _)) ?_
 refine eJ rfl ?_
 refine ap (_,[]) (fun τ=> aE _ (rfl:_=AV.v (.int _ _))) ?_
 refine eI rfl ?_
 refine ap (_,[((0,9),_)]) (fun τ=> (cp aa ar (h3) ob rfl rfl ae)) ?_
 refine eO rfl (bh ⟨rfl,?_⟩)
 refine ai (aW _ _ aa rfl ag (by (simp <;> rfl)) ah rfl) ?_
 refine ai (aA _ aa rfl (by exact (rfl:_=some [_,_,_,_]))) ?_
 refine bQ rfl rfl rfl rfl rfl rfl (az (hK9 _ ?_))
 clear hK9;try clear K9
 refine aG fun K19 hK19=> ?_
 refine an (bi rfl (ai (aO (h4)) (az (hK19 _ ?_))))
 clear hK19;try clear K19
 exact am (ai (aS _ aa rfl rfl rfl rfl) (bQ rfl rfl rfl rfl rfl rfl (aj (aC (aY (.inr rfl) rfl (.cellA aa rfl rfl rfl) (Le.outI [] [] (.agg rfl lz) rfl rfl rfl trivial ob tr rfl))))))
theorem Ay (hT:T.length≤100000) (lv i:Nat) (hl:lv≤20) (hi:i < T.length) (ht:(cX T i).t=nZ) {x:Nd} {j1 j2:Nat} (h1:Spec Tryz.prog 226 (be [.ptr (0,9) 0, .v (.int .i64 (lv:Int)), .v (.int .i64 1)] (dH T (bS T i) N)) (PO T N (x,j1))) (h2:Spec Tryz.prog 162 (be [.ptr (0,9) 0, .v (bt [59])] (dH T j1 N)) (bg (.tup []) (dH T j2 N) [(0,9)] [(0,9)])):
  Spec Tryz.prog 202 (be [.ptr (0,9) 0, .v (.int .i64 (lv:Int))] (dH T i N)) (PO T N (nd 9 0 [] [x],j2)):=by
 have hnx:=bU T i N hi
 have hn:dW T i=false:=fq (by rw [ht];rfl)
 rw [ht] at hnx
 refine Spec.ofNI Tryz.func202 rfl Tryz.ntmps202 rfl ?_
 refine am (ai (ay (4,0) aa rfl rfl) (aj (am (bi rfl (ai (br aa _ _ ar (hnx) tr rfl ae (by simp)) ?_)))))
 refine iY rfl (aj (am (ai (aA _ aa rfl (by exact (rfl:_=some [_,_,_,_]))) ?_)))
 refine ai (ay (6,0) aa rfl rfl) (bQ rfl rfl rfl rfl rfl rfl (aj (aq (am (bi rfl (ai (br aa _ _ ar (dE T i N hi) tr rfl ae (by simp)) ?_))))))
 refine aj (aP rfl hn (aH (aq (am (ai (aW _ _ aa rfl ag (by (simp <;> rfl)) ah rfl) ?_)))))
 refine dK rfl (ai (aK aa al (cB zn 9 rfl ab nZ) rfl rfl) ?_)
 refine ai (cR (r:=false) _ rfl rfl) (aj (aP rfl rfl (aH (am (bi rfl (ai (aO (cq T i N hi hT)) ?_))))))
 refine aj (aG fun K9 hK9=> ?_)
 refine aq ?_
 refine aN (σ':=aB 145 [(0,_),(1,_),(4,_),(5,_),(6,_)] [((0,9),_),((4,0),_),((6,0),_)] [(0,9)] [(0,9)]) kp ?_
 refine an (dK rfl (aj (au (aq (am (ai (aV (r:=false) _ _ Tryz.underlying9 rfl rfl rfl) (cm rfl (aj (aP rfl rfl (an ?_))))))))))
 refine ai (aV (r:=false) _ _ Tryz.underlying9 rfl rfl rfl) (cm rfl (aj (aP rfl rfl (am (ai (aV (r:=false) _ _ Tryz.underlying9 rfl rfl rfl) (cm rfl (aj (aP rfl rfl (am (ai (aV (r:=false) _ _ Tryz.underlying9 rfl rfl rfl) ?_))))))))))
 refine cm rfl (aj (aP rfl rfl (am (ai (aV (r:=false) _ _ Tryz.underlying9 rfl rfl rfl) (cm rfl (aj (aP rfl rfl (am (ai (aV (r:=false) _ _ Tryz.underlying9 rfl rfl rfl) (cm rfl ?_))))))))))
 refine aj (aP rfl rfl (am (ai (aV (r:=true) _ _ Tryz.underlying9 rfl rfl rfl) (cm rfl (aj (bD rfl rfl ?_))))))
 refine aN (σ':=aB 145 [(0,_),(1,_),(4,_),(6,_)] [((0,9),_),((4,0),_),((6,0),_)] [(0,9)] [(0,9)]) kp ?_
 refine an (bi rfl (aQ rfl (ai (aO (h1)) (ai (aW _ _ aa rfl ag (by (simp <;> rfl)) ah rfl) ?_))))
 refine ai (aA _ aa rfl (by exact (rfl:_=some [_,_,_,_]))) ?_
 refine bQ rfl rfl rfl rfl rfl rfl (az (hK9 _ ?_))
 clear hK9;try clear K9
 refine aG fun K18 hK18=> ?_
 refine an (bi rfl (ai (aO (h2)) (az (hK18 _ ?_))))
 clear hK18;try clear K18
 exact am (ai (aS _ aa rfl rfl rfl rfl) (bQ rfl rfl rfl rfl rfl rfl (aj (aC (aY (.inr rfl) rfl (.cellA aa rfl rfl rfl) (Le.outI [] [] (.agg rfl lz) rfl rfl rfl trivial ob tr rfl))))))
theorem Bz (hT:T.length≤100000) (lv i:Nat) (hl:lv≤20) (hi:i < T.length) (ht:(cX T i).t=nD) {j1:Nat} (h1:Spec Tryz.prog 162 (be [.ptr (0,9) 0, .v (bt [59])] (dH T (bS T i) N)) (bg (.tup []) (dH T j1 N) [(0,9)] [(0,9)])):
  Spec Tryz.prog 202 (be [.ptr (0,9) 0, .v (.int .i64 (lv:Int))] (dH T i N)) (PO T N (nd 7 0 [] [],j1)):=by
 have hnx:=bU T i N hi
 have hn:dW T i=false:=fq (by rw [ht];rfl)
 rw [ht] at hnx
 refine Spec.ofNI Tryz.func202 rfl Tryz.ntmps202 rfl ?_
 refine am (ai (ay (4,0) aa rfl rfl) (aj (am (bi rfl (ai (br aa _ _ ar (hnx) tr rfl ae (by simp)) ?_)))))
 refine iY rfl (aj (am (ai (aA _ aa rfl (by exact (rfl:_=some [_,_,_,_]))) ?_)))
 refine ai (ay (6,0) aa rfl rfl) (bQ rfl rfl rfl rfl rfl rfl (aj (aq (am (bi rfl (ai (br aa _ _ ar (dE T i N hi) tr rfl ae (by simp)) ?_))))))
 refine aj (aP rfl hn (aH (aq (am (ai (aW _ _ aa rfl ag (by (simp <;> rfl)) ah rfl) ?_)))))
 refine dK rfl (ai (aK aa al (cB zn 9 rfl ab nD) rfl rfl) ?_)
 refine ai (cR (r:=false) _ rfl rfl) (aj (aP rfl rfl (aH (am (bi rfl (ai (aO (cq T i N hi hT)) ?_))))))
 refine aj (aq (aq ?_))
 refine aN (σ':=aB 145 [(0,_),(1,_),(4,_),(5,_),(6,_)] [((0,9),_),((4,0),_),((6,0),_)] [(0,9)] [(0,9)]) kp ?_
 refine an (dK rfl (aj (au (aq (am (ai (aV (r:=false) _ _ Tryz.underlying9 rfl rfl rfl) (cm rfl (aj (aP rfl rfl (an ?_))))))))))
 refine ai (aV (r:=false) _ _ Tryz.underlying9 rfl rfl rfl) (cm rfl (aj (aP rfl rfl (am (ai (aV (r:=false) _ _ Tryz.underlying9 rfl rfl rfl) (cm rfl (aj (aP rfl rfl (am (ai (aV (r:=false) _ _ Tryz.underlying9 rfl rfl rfl) ?_))))))))))
 refine cm rfl (aj (aP rfl rfl (am (ai (aV (r:=false) _ _ Tryz.underlying9 rfl rfl rfl) (cm rfl (aj (aP rfl rfl (am (ai (aV (r:=false) _ _ Tryz.underlying9 rfl rfl rfl) (cm rfl ?_))))))))))
 refine aj (aP rfl rfl (am (ai (aV (r:=false) _ _ Tryz.underlying9 rfl rfl rfl) (cm rfl (aj (aP rfl rfl (aq ?_)))))))
 refine aN (σ':=aB 145 [(0,_),(4,_),(6,_),(45,_)] [((0,9),_),((4,0),_),((6,0),_)] [(0,9)] [(0,9)]) kp ?_
 refine an (ai (aV (r:=true) _ _ Tryz.underlying9 rfl rfl rfl) (cm rfl (aj (bD rfl rfl (an (bE rfl rfl rfl (bQ rfl rfl rfl rfl rfl rfl (fc (aG fun K19 hK19=> ?_)))))))))
 refine an (bi rfl (ai (aO (h1)) (az (hK19 _ ?_))))
 clear hK19;try clear K19
 exact am (ai (aS _ aa rfl rfl rfl rfl) (bQ rfl rfl rfl rfl rfl rfl (aj (aC (aY (.inr rfl) rfl (.cellA aa rfl rfl rfl) (Le.outI [] [] (.agg rfl lz) rfl rfl rfl trivial ob tr rfl))))))
theorem AM (hT:T.length≤100000) (lv i:Nat) (hl:lv≤20) (hi:i < T.length) (ht:(cX T i).t=nC) {j1:Nat} (h1:Spec Tryz.prog 162 (be [.ptr (0,9) 0, .v (bt [59])] (dH T (bS T i) N)) (bg (.tup []) (dH T j1 N) [(0,9)] [(0,9)])):
  Spec Tryz.prog 202 (be [.ptr (0,9) 0, .v (.int .i64 (lv:Int))] (dH T i N)) (PO T N (nd 10 0 [] [],j1)):=by
 have hnx:=bU T i N hi
 have hn:dW T i=false:=fq (by rw [ht];rfl)
 rw [ht] at hnx
 refine Spec.ofNI Tryz.func202 rfl Tryz.ntmps202 rfl ?_
 refine am (ai (ay (4,0) aa rfl rfl) (aj (am (bi rfl (ai (br aa _ _ ar (hnx) tr rfl ae (by simp)) ?_)))))
 refine iY rfl (aj (am (ai (aA _ aa rfl (by exact (rfl:_=some [_,_,_,_]))) ?_)))
 refine ai (ay (6,0) aa rfl rfl) (bQ rfl rfl rfl rfl rfl rfl (aj (aq (am (bi rfl (ai (br aa _ _ ar (dE T i N hi) tr rfl ae (by simp)) ?_))))))
 refine aj (aP rfl hn (aH (aq (am (ai (aW _ _ aa rfl ag (by (simp <;> rfl)) ah rfl) ?_)))))
 refine dK rfl (ai (aK aa al (cB zn 9 rfl ab nC) rfl rfl) ?_)
 refine ai (cR (r:=false) _ rfl rfl) (aj (aP rfl rfl (aH (am (bi rfl (ai (aO (cq T i N hi hT)) ?_))))))
 refine aj (aq (aq ?_))
 refine aN (σ':=aB 145 [(0,_),(1,_),(4,_),(5,_),(6,_)] [((0,9),_),((4,0),_),((6,0),_)] [(0,9)] [(0,9)]) kp ?_
 refine an (dK rfl (aj (au (aq (am (ai (aV (r:=false) _ _ Tryz.underlying9 rfl rfl rfl) (cm rfl (aj (aP rfl rfl (an ?_))))))))))
 refine ai (aV (r:=false) _ _ Tryz.underlying9 rfl rfl rfl) (cm rfl (aj (aP rfl rfl (am (ai (aV (r:=false) _ _ Tryz.underlying9 rfl rfl rfl) (cm rfl (aj (aP rfl rfl (am (ai (aV (r:=false) _ _ Tryz.underlying9 rfl rfl rfl) ?_))))))))))
 refine cm rfl (aj (aP rfl rfl (am (ai (aV (r:=false) _ _ Tryz.underlying9 rfl rfl rfl) (cm rfl (aj (aP rfl rfl (am (ai (aV (r:=false) _ _ Tryz.underlying9 rfl rfl rfl) (cm rfl ?_))))))))))
 refine aj (aP rfl rfl (am (ai (aV (r:=false) _ _ Tryz.underlying9 rfl rfl rfl) (cm rfl (aj (aP rfl rfl (aq ?_)))))))
 refine aN (σ':=aB 145 [(0,_),(4,_),(6,_),(45,_)] [((0,9),_),((4,0),_),((6,0),_)] [(0,9)] [(0,9)]) kp ?_
 refine an (ai (aV (r:=false) _ _ Tryz.underlying9 rfl rfl rfl) (cm rfl (aj (aP rfl rfl (an (bE rfl rfl rfl (bQ rfl rfl rfl rfl rfl rfl (fc (aG fun K19 hK19=> ?_)))))))))
 refine an (bi rfl (ai (aO (h1)) (az (hK19 _ ?_))))
 clear hK19;try clear K19
 exact am (ai (aS _ aa rfl rfl rfl rfl) (bQ rfl rfl rfl rfl rfl rfl (aj (aC (aY (.inr rfl) rfl (.cellA aa rfl rfl rfl) (Le.outI [] [] (.agg rfl lz) rfl rfl rfl trivial ob tr rfl))))))
end

def kC (l:List Nd):List PV:=l.flatMap Nd.row
theorem bJ (l:List Nd):(kC l).length=l.length*4:=mt Nd.row 4 (fun _=> rfl) l
theorem qL (l:List Nd) (d:Nd):kC l++d.row=kC (l++[d]):=lG Nd.row l d
theorem nQ {T:List Tk} {g lv i:Nat} {r:List Nd×Nat} (h:lI T g lv i=some r): ∃ f,g=f+1∧((cX T i).t=[125]∧r=([],i)∨(cX T i).t≠[125]∧ ∃ d j l k,uJ T f lv i=some (d,j)∧lI T f lv j=some (l,k)∧r=(d::l,k)):=by
 cases g with
 | zero=> simp [lI] at h
 | succ f=>
  refine ⟨f,rfl,?_⟩
  unfold lI at h
  split at h
  ·rename_i ht;exact .inl ⟨ht,(Option.some.inj h).symm⟩
  ·rename_i ht
   simp only [Option.bind_eq_bind,Option.bind_eq_some_iff,Option.pure_def] at h
   obtain ⟨⟨d,j⟩,hd,⟨l,k⟩,hl,h⟩:=h
   exact .inr ⟨ht,d,j,l,k,hd,hl,(Option.some.inj h).symm⟩
section
variable {T:List Tk} {N:List Tx}
theorem yu (hT:T.length≤100000) (f:Nat) (hf:f≤2000000) (ih: ∀ g,g≤f→PS T N g) (lv i:Nat) (r:Nd×Nat) (hl:lv≤21) (hi:i < T.length) (h:oO T (f+1) lv i=some r):
  r.2 < T.length∧Spec Tryz.prog 164 (be [.ptr (0,9) 0, .v (.int .i64 (lv:Int))] (dH T i N)) (PO T N r):=by
 unfold oO at h
 simp only [Option.bind_eq_bind,Option.bind_eq_some_iff,Option.pure_def,Option.some.injEq] at h
 obtain ⟨j,hj,⟨L,j2⟩,hL,j3,hj3,rfl⟩:=h
 have ho:=ji hj
 have hjl:=ij ho.2 hi
 have hl':=ho.1
 have hopen:=ms T i j N [123] lv hi hT hj
 simp only at hj3 ⊢
 have hend: ∀ (g i:Nat) (r:List Nd×Nat),g≤f→i < T.length→lI T g lv i=some r→r.2 < T.length:=by
  intro g
  induction g with
  | zero=> intro i r _ _ h;simp [lI] at h
  | succ g ihg=>
   intro i r hg hi h
   obtain ⟨g',hg',h | ⟨_,d,j,l,k,hd,hm,h⟩⟩:=nQ h
   ·rw [h.2];exact hi
   ·obtain rfl:g=g':=by omega
    rw [h]
    exact ihg j (l,k) ab ((ih g ab).stm _ _ _ hl' hi hd).1 hm
 have hj2:=hend f j _ (Nat.le_refl _) hjl hL
 refine ⟨ij hj3 hj2,?_⟩
 refine Spec.ofNI Tryz.func164 rfl Tryz.ntmps164 rfl ?_
 refine am (ai (ay (4,0) aa rfl rfl) (aj (am (ai (aA _ aa rfl (by exact (rfl:_=some [_,_,_,_]))) ?_))))
 refine ai (ay (5,0) aa rfl rfl) (bQ rfl rfl rfl rfl rfl rfl (aj (aq ?_)))
 refine aN (Le.nilB (5,0) 3 (60,0) 71 4 rfl rfl rfl) ?_
 refine an (bi rfl (aQ rfl (ai (aO (hopen)) (aj (aG fun K4 hK4=> ?_)))))
 refine au ?_
 refine bB (α:=Nat×List Nd×Nat) (fun z=> z.1≤f∧z.2.1.length+z.1=f∧z.2.2 < T.length∧ ∃ l,lI T z.1 lv z.2.2=some (l,j2)∧L=z.2.1++l) 31 [(0,_),(1,_),(4,_),(5,_)] [((4,0),_)] (fun z=> []) (fun z=> [((0,9), .box 222 [.sl T.length (qv T), .v (.int .i64 (z.2.2:Int)), .v (.int .i64 0), .v (.int .i64 0), .sl N.length (dT N)]),((5,0), .box 71 [.v (.int .i64 11), .v (.int .i64 0), .v (bt []), .ref (60,0) 0 z.2.1.length]),((60,0), .row 71 4 (kC z.2.1))]) [(0,9)] [(0,9)] (fun z=> z.1) (f,[],j) ?_ (by
  refine Le.mkJ [] [] rfl ?_ ?_ trivial tr ?_
  ·exact ⟨(iP rfl),(iV rfl),(iP rfl),(iP rfl),trivial⟩
  ·exact ⟨(cD rfl rfl rfl),(fM rfl rfl rfl rfl lz),(fM rfl rfl rfl rfl (nI (nI (aI (by repeat' (exact Lv.v)) lz)))),(gJ rfl rfl rfl ag),trivial⟩
  ·kernel_rfl) ?_
 ·exact ⟨Nat.le_refl _,Nat.zero_add _,hjl,L,hL,rfl⟩
 intro z hz
 obtain ⟨z1,z2,z3⟩:=z
 obtain ⟨hz1,hz2,hz3,l,hz4,hz5⟩:=hz
 obtain ⟨g,rfl,hm⟩:=nQ hz4
 simp only at hz1 hz2 hz3 hz5 hm ⊢
 refine aG fun K5 hK5=> ?_
 refine am (bi rfl (ai (aT _ rfl rfl) (bE rfl rfl rfl (cK rfl rfl rfl (iX rfl rfl rfl (cL rfl (ax rfl rfl (aE _ (rfl:_=AV.ptr _ _)) (ax rfl rfl (br aa _ _ ar (bU T z3 N hz3) tr rfl ae (by simp)) ?_))))))))
 refine ax rfl rfl (qt _ _ Tryz.underlying9 rfl rfl rfl) (ai (aD _ _ _ rfl (rfl:_=AV.v (.bool _))) (aj (aU rfl (fun hc19=> ?_) (fun hc19=> ?_))))
 ·skip
  obtain ⟨_,d,jd,l',k',hd,hm',hr⟩:=hm.resolve_left fun x=> hc19 x.1
  obtain ⟨rfl,rfl⟩:=Prod.mk.inj hr
  obtain ⟨hda,hdb⟩:=(ih g ab).stm _ _ _ hl' hz3 hd
  have hlen:(z2++[d]).length=z2.length+1:=by simp
  refine bu (hK5 _ ?_)
  clear hK5;try clear K5
  refine au ?_
  refine aN (σ':=aB 31 [(0,_),(1,_),(4,_),(5,_)] [((4,0),_),((0,9),_),((5,0),_),((60,0),_)] [(0,9)] [(0,9)]) kp ?_
  refine bG 6 [20,21,22,23,24,25] [(0,9)] ae ae rfl (aL rfl) (rfl:_=[_,_,_,_,_,_]) (rfl:_=[_,_,_]) ?_
  refine ap (_,[]) (fun τ=> aJ _ aa rfl rfl rfl) ?_
  refine eK rfl ?_
  refine ap (_,[]) (fun τ=> aM _ aa rfl rfl (rfl:_=some (AV.ref _ _ _))) ?_
  refine eJ rfl ?_
  refine ap (_,[]) (fun τ=> aE _ (rfl:_=AV.ptr _ _)) ?_
  refine eI rfl ?_
  refine ap (_,[]) (fun τ=> aE _ (rfl:_=AV.v (.int _ _))) ?_
  refine eO rfl ?_
  refine ap (_,[((0,9),_)]) (fun τ=> (cp aa ar (hdb) ob rfl rfl ae)) ?_
  refine fa rfl ?_
  refine ap (_,[]) (fun τ=> aW _ _ aa rfl ag (by (simp <;> rfl)) ah rfl) ?_
  refine fC rfl (bh ⟨rfl,?_⟩)
  refine ai (dq (26,0) _ _ aa rfl rfl (bJ _).symm (.sl rfl) ab rfl (qL _ d) hlen.symm) ?_
  refine bE rfl rfl rfl (bQ rfl rfl rfl rfl rfl rfl (az (⟨(g,z2++[d],jd),?_,?_,?_⟩)))
  ·exact ⟨by simp only;omega,by simp only;omega,hda,l',hm',by rw [hz5];simp⟩
  ·skip
   refine Le.mkJ [((60,0),(26,0))] [] rfl ?_ ?_ trivial tr ?_
   ·exact ⟨(dX (id:=(0,9)) rfl),(by repeat' (exact Lv.v)),(dX (id:=(4,0)) rfl),(dX (id:=(5,0)) rfl),trivial⟩
   ·exact ⟨(fM rfl rfl rfl rfl (by repeat' (first | exact Lv.v | exact bv | refine aI ?_ ?_))),(fM rfl rfl rfl rfl lz),(fM rfl rfl rfl rfl (nI (nI (aI (by repeat' (exact Lv.v)) lz)))),(gJ rfl rfl rfl ag),trivial⟩
   ·kernel_rfl
  ·simp only;omega
 ·skip
  obtain ⟨_,hr⟩:=hm.resolve_right fun x=> x.1 hc19
  obtain ⟨rfl,rfl⟩:=Prod.mk.inj hr
  rw [List.append_nil] at hz5
  subst hz5
  have hexp:=eX T j2 j3 N [125] hj2 hT hj3
  refine bK (id (hK4 _ ?_))
  clear hK4;try clear K4
  exact am (bi rfl (ai (aO (hexp)) (aj (am (ai (aS _ aa rfl rfl rfl rfl) (bQ rfl rfl rfl rfl rfl rfl (aj (aC (aY (.inr rfl) rfl (.cellA aa rfl rfl rfl) (Le.outI [] [(60,0)] (.agg rfl (aI .v (aI .v (aI .v (aI (iq rfl rfl (bJ _).symm rfl) bv))))) rfl rfl rfl tr ob tr rfl))))))))))
theorem qF {T:List Tk} {most i:Nat} {r:Nat×Nat} (h:mR T most i=some r) (hi:i < T.length):r.2 < T.length:=by
 unfold mR at h
 split at h
 ·rw [← Option.some.inj h];exact dN hi
 ·cases h
theorem xc (hT:T.length≤100000) (f:Nat) (ih:PS T N f) (lv i:Nat) (r:Nd×Nat) (hl:lv≤20) (hi:i < T.length) (h:uJ T (f+1) lv i=some r):
  r.2 < T.length∧Spec Tryz.prog 202 (be [.ptr (0,9) 0, .v (.int .i64 (lv:Int))] (dH T i N)) (PO T N r):=by
 have htl:=dN hi
 have hx:=fun {i:Nat} {r:Nd×Nat} (hi:i < T.length) (h:fS T f lv 1 i=some r)=> wa (N:=N) hT hl hi h
 have hb:=fun {i:Nat} {r:Nd×Nat} (hi:i < T.length) (h:oO T f (lv+1) i=some r)=> ih.blk (lv+1) i r ab hi h
 have he:=fun {i j:Nat} {s:Tx} (hi:i < T.length) (h:fL T s i=some j)=> And.intro (ij h hi) (eX T i j N s hi hT h)
 have hn:=fun {i most:Nat} {r:Nat×Nat} (hm:most≤1000) (hi:i < T.length) (h:mR T most i=some r)=> And.intro (qF h hi) (jZ T i N most hi hT hm r h)
 unfold uJ at h
 simp only at h
 by_cases h0:dW T i=true
 ·rw [if_pos h0] at h
  simp only [Option.bind_eq_bind,Option.bind_eq_some_iff,Option.pure_def,Option.some.injEq] at h
  obtain ⟨j1,e1,⟨d,j2⟩,e2,j3,e3,rfl⟩:=h
  obtain ⟨a1,b1⟩:=he htl e1
  obtain ⟨a2,b2⟩:=hx a1 e2
  obtain ⟨a3,b3⟩:=he a2 e3
  exact ⟨a3,uz hT lv i hl hi h0 b1 b2 b3⟩
 rw [if_neg h0] at h
 by_cases h1:(cX T i).t=tn∨(cX T i).t=jk
 ·rw [if_pos h1] at h
  simp only [Option.bind_eq_bind,Option.bind_eq_some_iff,Option.pure_def] at h
  obtain ⟨⟨c,j1⟩,e1,⟨x,j2⟩,e2,h⟩:=h
  obtain ⟨a1,b1⟩:=hx htl e1
  obtain ⟨a2,b2⟩:=hb a1 e2
  simp only at h
  by_cases hw:(cX T i).t=jk
  ·rw [if_pos hw] at h
   obtain rfl:=Option.some.inj h
   exact ⟨a2,yj hT lv i hl hi hw b1 b2⟩
  ·rw [if_neg hw] at h
   have hf:=h1.resolve_right hw
   by_cases hel:(cX T j2).t=qg
   ·rw [if_pos hel] at h
    simp only [Option.bind_eq_some_iff,Option.some.injEq] at h
    obtain ⟨⟨y,j3⟩,e3,rfl⟩:=h
    obtain ⟨a3,b3⟩:=hb (dN a2) e3
    exact ⟨a3,uY hT lv i hl hi hf b1 b2 a2 hel b3⟩
   ·rw [if_neg hel] at h
    obtain rfl:=Option.some.inj h
    exact ⟨a2,Fj hT lv i hl hi hf b1 b2 a2 hel⟩
 rw [if_neg h1] at h
 by_cases h2:(cX T i).t=nx
 ·rw [if_pos h2] at h
  simp only [Option.bind_eq_bind,Option.bind_eq_some_iff,Option.pure_def,Option.some.injEq] at h
  obtain ⟨⟨x,j1⟩,e1,j2,e2,⟨k,j3⟩,e3,j4,e4,⟨y,j5⟩,e5,j6,e6,⟨z,j7⟩,e7,j8,e8,rfl⟩:=h
  obtain ⟨a1,b1⟩:=hx htl e1
  obtain ⟨a2,b2⟩:=he a1 e2
  obtain ⟨a3,b3⟩:=hn ab a2 e3
  obtain ⟨a4,b4⟩:=he a3 e4
  obtain ⟨a5,b5⟩:=hx a4 e5
  obtain ⟨a6,b6⟩:=he a5 e6
  obtain ⟨a7,b7⟩:=hx a6 e7
  obtain ⟨a8,b8⟩:=he a7 e8
  exact ⟨a8,zR hT lv i hl hi h2 b1 b2 b3 b4 b5 b6 b7 b8⟩
 rw [if_neg h2] at h
 by_cases h3:(cX T i).t=gm
 ·rw [if_pos h3] at h
  simp only [Option.bind_eq_bind,Option.bind_eq_some_iff,Option.pure_def,Option.some.injEq] at h
  obtain ⟨⟨k,j1⟩,e1,j2,e2,rfl⟩:=h
  obtain ⟨a1,b1⟩:=hn ab htl e1
  obtain ⟨a2,b2⟩:=he a1 e2
  exact ⟨a2,wN hT lv i hl hi h3 b1 b2⟩
 rw [if_neg h3] at h
 by_cases h4:(cX T i).t=jL
 ·rw [if_pos h4] at h
  simp only [Option.bind_eq_bind,Option.bind_eq_some_iff,Option.pure_def,Option.some.injEq] at h
  obtain ⟨⟨k,j1⟩,e1,j2,e2,rfl⟩:=h
  obtain ⟨a1,b1⟩:=hn ab htl e1
  obtain ⟨a2,b2⟩:=he a1 e2
  exact ⟨a2,vS hT lv i hl hi h4 b1 b2⟩
 rw [if_neg h4] at h
 by_cases h5:(cX T i).t=lS
 ·rw [if_pos h5] at h
  simp only [Option.bind_eq_bind,Option.bind_eq_some_iff,Option.pure_def,Option.some.injEq] at h
  obtain ⟨⟨x,j1⟩,e1,j2,e2,⟨y,j3⟩,e3,j4,e4,rfl⟩:=h
  obtain ⟨a1,b1⟩:=hx htl e1
  obtain ⟨a2,b2⟩:=he a1 e2
  obtain ⟨a3,b3⟩:=hx a2 e3
  obtain ⟨a4,b4⟩:=he a3 e4
  exact ⟨a4,yh hT lv i hl hi h5 b1 b2 b3 b4⟩
 rw [if_neg h5] at h
 by_cases h6:(cX T i).t=nZ
 ·rw [if_pos h6] at h
  simp only [Option.bind_eq_bind,Option.bind_eq_some_iff,Option.pure_def,Option.some.injEq] at h
  obtain ⟨⟨x,j1⟩,e1,j2,e2,rfl⟩:=h
  obtain ⟨a1,b1⟩:=hx htl e1
  obtain ⟨a2,b2⟩:=he a1 e2
  exact ⟨a2,Ay hT lv i hl hi h6 b1 b2⟩
 rw [if_neg h6] at h
 by_cases h7:(cX T i).t=nD
 ·rw [if_pos h7] at h
  simp only [Option.bind_eq_bind,Option.bind_eq_some_iff,Option.pure_def,Option.some.injEq] at h
  obtain ⟨j1,e1,rfl⟩:=h
  obtain ⟨a1,b1⟩:=he htl e1
  exact ⟨a1,Bz hT lv i hl hi h7 b1⟩
 rw [if_neg h7] at h
 by_cases h8:(cX T i).t=nC
 ·rw [if_pos h8] at h
  simp only [Option.bind_eq_bind,Option.bind_eq_some_iff,Option.pure_def,Option.some.injEq] at h
  obtain ⟨j1,e1,rfl⟩:=h
  obtain ⟨a1,b1⟩:=he htl e1
  exact ⟨a1,AM hT lv i hl hi h8 b1⟩
 rw [if_neg h8] at h
 cases h
theorem DK (hT:T.length≤100000): ∀ f,f≤2000000→ ∀ g,g≤f→PS T N g:=by
 intro f
 induction f with
 | zero=>
  intro _ g hg
  obtain rfl:g=0:=by omega
  exact ⟨fun _ _ _ _ _ h=> by simp [uJ] at h,fun _ _ _ _ _ h=> by simp [oO] at h⟩
 | succ f ih=>
  intro hf g hg
  rcases Nat.lt_or_ge g (f+1) with h | h
  ·exact ih ab g ab
  ·obtain rfl:g=f+1:=by omega
   exact ⟨xc hT f (ih ab f (Nat.le_refl _)),yu hT f ab (ih ab)⟩
theorem tE (hT:T.length≤100000) {f i:Nat} {r:Nd×Nat} (hf:f≤2000000) (hi:i < T.length) (h:oO T f 1 i=some r):r.2 < T.length∧Spec Tryz.prog 164 (be [.ptr (0,9) 0, .v (.int .i64 1)] (dH T i N)) (PO T N r):=
 (DK hT f hf f (Nat.le_refl _)).blk 1 i r ab hi h
end

class MthV (P:Program) (t:TypeId) (name:String) (f e:outParam TypeId):Prop where
  out: ∀ (ad:Addr) (w:World),(method (P.types.size+Made.depth) t (.pointer (some ad)) name).run P w=((loadVar e ad).run P w).andThen fun v w'=> .ok (f,v) w'
theorem qS {P:Program} {t:TypeId} {ad:Addr} {nm:String} {w:World}:(Builtin.ssaWrapNilChk_ #[t] t #[.pointer (some ad),strVal "",strVal nm]).run P w= .ok (.pointer (some ad)) w:=rfl
theorem zk {P:Program} {n:Nat} {t e f:TypeId} {name:String} {i:TypeInfo} {m:Method} {ad:Addr} {w:World} (hi:P.info? t=some i) (hfind:i.methods.find? (·.name==name)=some m) (hpath:m.path= #[]) (hfunc:m.func=some (f,false))
    (hu:P.underlying t=some (.pointer e)):(method (n+1) t (.pointer (some ad)) name).run P w=((loadVar e ad).run P w).andThen fun v w'=> .ok (f,v) w':=by
  have h1:(typeInfo t).run P w= .ok i w:=by simp [typeInfo,Sem.run,hi]
  have h2:(underlying t).run P w= .ok (.pointer e) w:=by simp [underlying,Sem.run,hu]
  simp only [method,Sem.run_bind,h1,Result.andThen_ok,hfind,hpath,hfunc,follow,Sem.run_pure,receiverAt,h2,Place.get]
  simp only [Array.isEmpty_empty,if_true,Sem.run_bind,qS,Result.andThen_ok,asAddr,Sem.run_pure]
def Ci (P:Program) (t:TypeId) (name:String):Option (TypeId×TypeId):=
  match P.info? t with
  | some i=> match i.methods.find? (·.name==name) with
    | some m=> match m.path.isEmpty,m.func,P.underlying t with
      | true,some (f,false),some (.pointer e)=> some (f,e)
      | _,_,_=> none
    | none=> none
  | none=> none
theorem MthV.of {P:Program} {t e f:TypeId} {name:String} (h:Ci P t name=some (f,e)):MthV P t name f e:=by
  refine ⟨fun ad w=> ?_⟩
  obtain ⟨n,hn⟩: ∃ n,P.types.size+Made.depth=n+1:=⟨_,rfl⟩
  rw [hn]
  unfold Ci at h
  split at h
  · rename_i i hi
    split at h
    · rename_i m hm
      split at h
      · rename_i f' e' hp hf hu
        cases h
        exact zk hi hm (by simpa using hp) hf hu
      · cases h
    · cases h
  · cases h
section
variable {P:Program} {σ:St} {o:Oper} {t:TypeId} {name:String} {f:FuncId} {x:Operand} {xs:Array Operand} {ats:Array TypeId}
end
section
variable {P:Program} {σ:St} {dd:Option Tmp} {op:Op} {ty:TypeId} {f:FuncId} {avs:List AV}
end
theorem Le.incT {σ:St} (id:aF) (h:σ.ob id= .free):Le (σ.setInc id true) σ:=by
  intro K ι S a w R
  refine ⟨ι,S,R.keeps,R.S0,R.Slt,R.nt,R.df,R.fr,R.cl,R.clo,R.ob,R.dom,R.inj,fun i B g h1 h2=> ?_,R.pin,R.pf⟩
  obtain ⟨h3,h4,h5⟩:=R.sep i B g h1 h2
  refine ⟨h3,h4,fun h6=> h5 ?_⟩
  have h7:(bif gq i id then true else σ.inc i)=false:=h6
  cases hb:gq i id with
  | true=> rw [hb] at h7;cases h7
  | false=> rw [hb] at h7;exact h7
theorem oz {P:Program} {σ:St} {z:List Value} {T e:TypeId} {size bytes:Nat} {dd:Option Tmp} {ty:TypeId} (id':aF) (s x:Operand) (E:Elem P T e size bytes z) {id:aF} {n:Nat} {xs:List PV} (hs:σ.eval s= .ref id 0 n) (hid:σ.ob id= .obj (.row e size xs)) (hl:n*size=xs.length) {m:Nat} {news:List PV} (hx:SrcAV σ (σ.eval x) size m news) (hb:(n+m)*bytes≤140737488355328) (hid':σ.ob id'= .free)
    {b:Bool} (hi:σ.inc id=b) (hi':σ.inc id'=b) {ys:List PV} (hy:xs++news=ys) {k:Nat} (hk:n+m=k):Stp P dd (.call { callee:= .builtin .append,args:= #[s,x],argTypes:= #[T,T] }) ty σ (((σ.setOb id .gone).setOb id' (.obj (.row e size ys))).put dd (.ref id' 0 k)):=by
  have h:=dq (P:=P) (dd:=dd) (ty:=ty) id' s x E hs hid hl hx hb hid' hy hk
  rwa [hi,St.setInc_same (by exact hi')] at h

theorem kM {T:List Tk} {f:Nat} {seen:List Tx} {i:Nat} {r:List Tx×Nat} (h:fX T f seen i=some r): ∃ g,f=g+1∧dW T i=true∧(cX T i).t∉seen∧seen.length < 16∧
  ((cX T (bS T i)).t=[44]∧(∃ l j,fX T g (seen++[(cX T i).t]) (bS T (bS T i))=some (l,j)∧r=((cX T i).t::l,j))∨(cX T (bS T i)).t≠[44]∧ ∃ j,fL T [59] (bS T i)=some j∧r=([(cX T i).t],j)):=by
 cases f with
 | zero=> simp [fX] at h
 | succ g=>
  refine ⟨g,rfl,?_⟩
  unfold fX at h
  split at h
  ·cases h
  ·rename_i hn
   refine ⟨?_,fun hm=> hn (.inr (.inl hm)),Nat.lt_of_not_le fun hl=> hn (.inr (.inr hl)),?_⟩
   ·cases hb:dW T i with
    | true=> rfl
    | false=> exact absurd (.inl hb) hn
   ·split at h
    ·rename_i ht
     simp only [Option.bind_eq_bind,Option.bind_eq_some_iff,Option.pure_def] at h
     obtain ⟨⟨l,j⟩,hl,h⟩:=h
     exact .inl ⟨ht,l,j,hl,(Option.some.inj h).symm⟩
    ·rename_i ht
     simp only [Option.bind_eq_bind,Option.bind_eq_some_iff,Option.pure_def] at h
     obtain ⟨j,hj,h⟩:=h
     exact .inr ⟨ht,j,hj,(Option.some.inj h).symm⟩
section
variable {T:List Tk}
theorem oZ (hT:T.length≤100000) (f:Nat) (N:List Tx) (i0:Nat) (hi:i0 < T.length) (r:List Tx×Nat) (h:fX T f N (bS T i0)=some r):
  r.2 < T.length∧N.length+r.1.length≤16∧Spec Tryz.prog 161 (be [.ptr (0,9) 0] (Bf T i0 N))
   (bg (.sl r.1.length (dT r.1)) [((0,9), .box 222 [.sl T.length (qv T), .v (.int .i64 (r.2:Int)), .v (.int .i64 0), .v (.int .i64 0), .ref (1,8) 0 (N++r.1).length]),((1,8), .row 9 1 (dT (N++r.1)))] [(0,9),(1,8)] [(0,9)]):=by
 have htl:=dN hi
 have hend: ∀ (g:Nat) (seen:List Tx) (i:Nat) (r:List Tx×Nat),i < T.length→fX T g seen i=some r→r.2 < T.length∧seen.length+r.1.length≤16:=by
  intro g
  induction g with
  | zero=> intro seen i r _ h;simp [fX] at h
  | succ g ihg=>
   intro seen i r hi h
   obtain ⟨g',hg',_,_,hs,⟨_,l,j,hl,rfl⟩ | ⟨_,j,hj,rfl⟩⟩:=kM h
   ·obtain rfl:g=g':=by omega
    obtain ⟨h1,h2⟩:=ihg _ _ _ (dN (dN hi)) hl
    simp only [List.length_append,List.length_cons,List.length_nil] at h2 ⊢
    exact ⟨h1,by omega⟩
   ·exact ⟨ij hj (dN hi),by simp;omega⟩
 obtain ⟨ha,hb⟩:=hend f N _ r htl h
 refine ⟨ha,by omega,?_⟩
 have hNl:N.length < 16:=by obtain ⟨_,_,_,_,hs,_⟩:=kM h;exact hs
 refine Spec.ofNI Tryz.func161 rfl Tryz.ntmps161 rfl ?_
 refine am (ai (bH _ (rfl:_=AV.v (.slice _ _ _))) (aj (am (ai (oF (3,0) _ 9 1 rfl rfl) ?_))))
 refine aj (am (bi rfl (ai (db aa [] ar (jn T i0 N hi hT) ob tr ae) ?_)))
 refine aj (aG fun K4 hK4=> ?_)
 refine au ?_
 refine bB (α:=Nat×List Tx×Nat) (fun z=> (N++z.2.1).length≤16∧z.2.1.length≤16∧z.2.2 < T.length∧ ∃ l,fX T z.1 (N++z.2.1) z.2.2=some (l,r.2)∧r.1=z.2.1++l) 76 [(0,_)] [] (fun z=> [(3, .ref (3,0) 0 z.2.1.length)]) (fun z=> [((0,9), .box 222 [.sl T.length (qv T), .v (.int .i64 (z.2.2:Int)), .v (.int .i64 0), .v (.int .i64 0), .ref (1,9) 0 (N++z.2.1).length]),((1,9), .row 9 1 (dT (N++z.2.1))),((3,0), .row 9 1 (dT z.2.1))]) [(0,9),(1,9)] [(0,9)] (fun z=> z.1) (f,[],bS T i0) ?_ (by
  refine Le.mkJ [] [] rfl ?_ ?_ trivial tr ?_
  ·exact ⟨(iP rfl),(dh rfl ag),trivial⟩
  ·exact ⟨(fM rfl rfl rfl rfl (aI (iw ag ag) (nI (nI (nI (aI (dh rfl (by (simp only [List.append_nil]))) bv)))))),(gJ rfl rfl rfl (by (simp only [List.append_nil]))),(gJ rfl rfl rfl ag),trivial⟩
  ·kernel_rfl) ?_
 ·exact ⟨by simp;omega,Nat.zero_le _,htl,r.1,by rw [List.append_nil];exact h,rfl⟩
 intro z hz
 obtain ⟨z1,z2,z3⟩:=z
 obtain ⟨hz1,hz2,hz3,l,hz4,hz5⟩:=hz
 obtain ⟨g,rfl,hn,hs,hsl,hm⟩:=kM hz4
 simp only at hz1 hz2 hz3 hz5 hn hs hsl hm ⊢
 have htz:=dN hz3
 have hl1:(z2++[(cX T z3).t]).length=z2.length+1:=by simp
 have hl2:(N++(z2++[(cX T z3).t])).length=(N++z2).length+1:=by simp;omega
 have ha2:dT (N++z2)++[PV.v (bt (cX T z3).t)]=dT (N++(z2++[(cX T z3).t])):=by rw [lK,List.append_assoc]
 refine aq (am (bi rfl (ai (aT _ rfl rfl) (bE rfl rfl rfl (cK rfl rfl rfl (iX rfl rfl rfl (aj (bD rfl rfl (aH (au ?_))))))))))
 refine aq (am (bi rfl (ai (br aa _ _ ar (sN T z3 (N++z2) hz3) tr rfl ae (by simp)) ?_)))
 refine ai (cR (r:=false) _ rfl (by rw [hn];rfl)) ?_
 refine aj (aP rfl rfl (aq ?_))
 refine aN (σ':=aB 76 [(0,_),(3,_)] [((0,9),_),((1,9),_),((3,0),_)] [(0,9),(1,9)] [(0,9)]) kp ?_
 refine bG 7 [20,21,22,23,24,25,26] [] ae ae rfl (aL rfl) (rfl:_=[_,_,_,_,_,_,_]) (rfl:_=[]) ?_
 refine ap (_,[]) (fun τ=> aE _ (rfl:_=AV.ptr _ _)) ?_
 refine eK rfl ?_
 refine ap (_,[]) (fun τ=> aT _ rfl rfl) ?_
 refine eJ rfl ?_
 refine ap (_,[]) (fun τ=> aJ _ aa rfl rfl rfl) ?_
 refine eI rfl ?_
 refine ap (_,[]) (fun τ=> aM _ aa rfl rfl (rfl:_=some (AV.ref _ _ _))) ?_
 refine eO rfl ?_
 refine ap (_,[]) (fun τ=> aE _ (rfl:_=AV.ptr _ _)) ?_
 refine fa rfl ?_
 refine ap (_,[]) (fun τ=> (br aa _ _ ar (ep T z3 (N++z2) hz3) tr rfl ae (by simp))) ?_
 refine fC rfl ?_
 refine ap (_,[]) (fun τ=> (vo aa aw (cB (N++z2) _ rfl ab (cX T z3).t) rfl)) ?_
 refine gv rfl (bh ⟨rfl,?_⟩)
 refine aj (aP rfl (decide_eq_false hs) ?_)
 refine am (bi rfl (ai (aT _ rfl rfl) (bE rfl rfl rfl (ai (aM _ aa rfl rfl (rfl:_=some (AV.ref _ _ _))) (ai (dB _ aa rfl rfl) (ai (eD _ _ rfl rfl rfl) (aj (aP rfl (decide_eq_false ab) ?_))))))))
 refine aH (aq (am (bi rfl (ai (aT _ rfl rfl) (bE rfl rfl rfl (cK rfl rfl rfl (ai (bX (r:=false) _ _ rfl rfl rfl) (aj (aP rfl rfl (aH ?_))))))))))
 refine aq ?_
 refine aN (σ':=aB 76 [(0,_),(3,_)] [((0,9),_),((1,9),_),((3,0),_)] [(0,9),(1,9)] [(0,9)]) kp ?_
 refine an (gD rfl (bi rfl (ai (br aa _ _ ar (ep T z3 (N++z2) hz3) tr rfl ae (by simp)) ?_)))
 refine ai (aW _ _ aa rfl ag (by (simp <;> rfl)) ah rfl) ?_
 refine ai (dq (54,0) _ _ aa rfl rfl (by simp) (.sl rfl) ab rfl (lK _ _) hl1.symm) ?_
 refine eZ rfl (aj (aq ?_))
 refine aN (σ':=aB 76 [(0,_),(3,_)] [((0,9),_),((1,9),_),((54,0),_)] [(0,9),(1,9)] [(0,9)]) kp ?_
 refine aN (Le.incT (63,0) rfl) ?_
 refine yZ 9 [55,56,57,58,59,60,61,62,63] [(1,9),(63,0)] [[],[],[],[(1,9)],[(1,9)],[(1,9)],[(1,9)],[(1,9)],[]] ae ae rfl (aL rfl) (rfl:_=[_,_,_,_,_,_,_,_,_]) (rfl:_=[_,_,_]) ?_
 refine ap (_,[]) (fun τ=> aE _ (rfl:_=AV.ptr _ _)) ?_
 refine eK rfl ?_
 refine ap (_,[]) (fun τ=> aE _ (rfl:_=AV.ptr _ _)) ?_
 refine eJ rfl ?_
 refine ap (_,[]) (fun τ=> aT _ rfl rfl) ?_
 refine eI rfl ?_
 refine ap (_,[]) (fun τ=> aJ _ aa rfl rfl rfl) ?_
 refine eO rfl ?_
 refine ap (_,[]) (fun τ=> aM _ aa rfl rfl (rfl:_=some (AV.ref _ _ _))) ?_
 refine fa rfl ?_
 refine ap (_,[]) (fun τ=> aE _ (rfl:_=AV.ptr _ _)) ?_
 refine fC rfl ?_
 refine ap (_,[]) (fun τ=> (br aa _ _ ar (ep T z3 (N++z2) hz3) tr rfl ae (by simp))) ?_
 refine gv rfl ?_
 refine ap (_,[]) (fun τ=> aW _ _ aa rfl ag (by (simp <;> rfl)) ah rfl) ?_
 refine jI rfl ?_
 refine ap (_,[((1,9), .gone),((63,0),_)]) (fun τ=> oz (b:=true) (63,0) _ _ aa rfl (uv rfl (by exact qP) rfl) (by simp) (.sl rfl) ab rfl rfl rfl ha2 hl2.symm) ?_
 refine jQ rfl (bh ⟨⟨rfl,by kernel_rfl⟩,?_⟩)
 refine ai (aT _ rfl rfl) (bE rfl rfl rfl (bQ rfl rfl rfl rfl rfl rfl (aj (aG fun K15 hK15=> ?_))))
 refine aN (σ':=aB 76 [(0,_),(3,_)] [((0,9), .box _ [_,_,_,_, .ref (1,9) _ _]),((54,0),_),((1,9),_)] [(0,9),(1,9)] [(0,9)]) (by
  refine Le.mkJ [((1,9),(63,0))] [] rfl ?_ ?_ trivial tr ?_
  ·exact ⟨(Em [(0,9),(54,0)] rfl (rfl:_=AV.ptr _ _) rfl),(Em [(0,9),(54,0)] rfl (rfl:_=AV.ref _ _ _) rfl),trivial⟩
  ·exact ⟨(fM rfl rfl rfl rfl (aI (by exact Em [(0,9),(54,0)] rfl (rfl:_=AV.sl _ _) rfl) (aI (by exact Em [(0,9),(54,0)] rfl (rfl:_=AV.v _) rfl) (aI (by exact Em [(0,9),(54,0)] rfl (rfl:_=AV.v _) rfl) (aI (by exact Em [(0,9),(54,0)] rfl (rfl:_=AV.v _) rfl) lz))))),(gJ rfl rfl rfl rfl),(gJ rfl rfl rfl rfl),trivial⟩
  ·kernel_rfl) ?_
 refine an (bi rfl (ai (db aa [] ar (jn T z3 (N++(z2++[(cX T z3).t])) hz3 hT) ob tr ae) ?_))
 refine az (hK15 _ ?_)
 clear hK15;try clear K15
 refine aG fun K16 hK16=> ?_
 refine am (bi rfl (ai (br aa _ _ ar (ep T (bS T z3) (N++(z2++[(cX T z3).t])) htz) tr rfl ae (by simp)) ?_))
 refine ai (qt _ _ Tryz.underlying9 rfl rfl rfl) (aj (aU rfl (fun hc70=> ?_) (fun hc70=> ?_)))
 ·skip
  obtain ⟨_,j,hj,hr⟩:=hm.resolve_left fun x=> hc70 x.1
  obtain ⟨rfl,rfl⟩:=Prod.mk.inj hr
  have hexp:=pY T (bS T z3) r.2 (N++(z2++[(cX T z3).t])) [59] htz hT hj
  refine bK (id (hK4 _ ?_))
  clear hK4;try clear K4
  refine am (bi rfl (ai (db aa [] ar (hexp) ob tr ae) ?_))
  exact aj (am (gD rfl (eZ rfl (aj (aC (aY (.inr rfl) rfl (.tmp (rfl:_=AV.ref _ _ _)) (Le.outI [((1,8),(1,9))] [(54,0)] (by rw [hz5];exact iq rfl rfl (by simp) rfl) rfl rfl rfl tr ⟨⟨rfl,⟨_,rfl, .box rfl (aI .sl (aI .v (aI .v (aI .v (aI (dh rfl (by rw [hz5])) bv)))))⟩,rfl⟩,⟨rfl,⟨_,rfl, .rowE (by rw [hz5])⟩,rfl⟩,trivial⟩ tr rfl)))))))
 ·skip
  obtain ⟨_,l',j',hd',hr⟩:=hm.resolve_right fun x=> x.1 hc70
  obtain ⟨rfl,rfl⟩:=Prod.mk.inj hr
  refine bu (hK16 _ ?_)
  clear hK16;try clear K16
  refine an (bi rfl (ai (db aa [] ar (jn T (bS T z3) (N++(z2++[(cX T z3).t])) htz hT) ob tr ae) ?_))
  refine az (⟨(g,z2++[(cX T z3).t],bS T (bS T z3)),?_,?_,?_⟩)
  ·exact ⟨by simp only [hl2];omega,by simp only [hl1];simp only [List.length_append] at hsl;omega,dN htz,l',by rw [← List.append_assoc];exact hd',by rw [hz5];simp⟩
  ·skip
   refine Le.mkJ [((3,0),(54,0))] [] rfl ?_ ?_ trivial tr ?_
   ·exact ⟨(dX (id:=(0,9)) rfl),(dh rfl ag),trivial⟩
   ·exact ⟨(fM rfl rfl rfl rfl lz),(gJ rfl rfl rfl ag),(gJ rfl rfl rfl ag),trivial⟩
   ·kernel_rfl
  ·simp only;omega
end
end Go.Proofs.YtmjnackchaahbaaGreat
