/- Part 10 of the texts that the walk leans on: the machine, the walks, the plain laws. -/
import Derived.Test.YtmjnackchaahbaaGreatVbZ9
set_option linter.unusedSimpArgs false
set_option linter.unusedVariables false
namespace Go.Proofs.YtmjnackchaahbaaGreat
open Go.RowKit

abbrev mI (d:Nd):AV:= .agg [.v (.int .i64 (d.k:Int)), .v (.int .i64 (d.n:Int)), .v (bt d.s), .sl d.kn d.kids]
abbrev PO (T:List Tk) (N:List Tx) (r:Nd×Nat):St:=bg (mI r.1) (dF T r.2 N) [(0,9)] [(0,9)]
structure PE (T:List Tk) (N:List Tx) (f:Nat):Prop where
 expr: ∀ lv pr i r,lv≤20→1≤pr∧pr≤7→i < T.length→fL T f lv pr i=some r→r.2 < T.length∧Spec Tryz.prog 226 (be [.ptr (0,9) 0, .v (.int .i64 (lv:Int)), .v (.int .i64 (pr:Int))] (dF T i N)) (PO T N r)
 un: ∀ s lv pr i r,lv≤20→1≤pr∧pr≤7→i < T.length→Ew T f s lv pr i=some r→r.2 < T.length∧Spec Tryz.prog 235 (be [.ptr (0,9) 0, .v (bt s), .v (.int .i64 (lv:Int)), .v (.int .i64 (pr:Int))] (dF T i N)) (PO T N r)
 bin: ∀ lv pr i r,lv≤20→(1≤pr∧pr≤6∧pr≠3)→i < T.length→wd T f lv pr i=some r→r.2 < T.length∧Spec Tryz.prog 236 (be [.ptr (0,9) 0, .v (.int .i64 (lv:Int)), .v (.int .i64 (pr:Int))] (dF T i N)) (PO T N r)
 nest: ∀ lv i r,lv≤20→i < T.length→pC T f lv i=some r→r.2 < T.length∧Spec Tryz.prog 240 (be [.ptr (0,9) 0, .v (.int .i64 (lv:Int))] (dF T i N)) (PO T N r)
 prim: ∀ lv i r,lv≤20→i < T.length→re T f lv i=some r→r.2 < T.length∧Spec Tryz.prog 237 (be [.ptr (0,9) 0, .v (.int .i64 (lv:Int))] (dF T i N)) (PO T N r)
section
variable {T:List Tk} {N:List Tx}
theorem vz (f:Nat) (ih:PE T N f) (lv pr i:Nat) (r:Nd×Nat) (hl:lv≤20) (hp:1≤pr∧pr≤7) (hi:i < T.length) (h:fL T (f+1) lv pr i=some r):
  r.2 < T.length∧Spec Tryz.prog 226 (be [.ptr (0,9) 0, .v (.int .i64 (lv:Int)), .v (.int .i64 (pr:Int))] (dF T i N)) (PO T N r):=by
 unfold fL at h
 by_cases h1:pr=3∧(cX T i).t=[33]
 ·rw [if_pos h1] at h
  obtain ⟨ha,hb⟩:=ih.un _ _ _ _ _ hl ab hi h
  refine ⟨ha,?_⟩
  obtain ⟨rfl,h1⟩:=h1
  refine Spec.ofNI Tryz.func226 rfl Tryz.ntmps226 rfl ?_
  refine am (ai (ay (6,0) aa rfl rfl) (aj (ap (am (bi rfl (ai (aS _ rfl rfl) (bA rfl rfl rfl (cC rfl rfl rfl (ai (ca (r:=false) _ _ rfl rfl rfl) (aj ?_))))))))))
  refine aP rfl rfl (aJ (am (bi rfl (ai (br aa _ _ ar (bT T i N hi) tr rfl ae (by simp)) ?_))))
  refine ja rfl (aj (ap (am (aQ rfl (iY rfl rfl rfl (cJ rfl (ax rfl rfl (aE _ (rfl:_=AV.v (.string _))) (ax rfl rfl (aU (r:=true) _ _ Tryz.underlying9 rfl rfl (by rw [h1];rfl)) ?_))))))))
  refine ai (aD _ _ _ rfl (rfl:_=AV.v (.bool _))) (aj (bD rfl rfl (ap ?_)))
  refine aN (σ':=aB 50 [(0,_),(1,_),(6,_),(7,_)] [((0,9),_),((6,0),_)] [(0,9)] [(0,9)]) kp ?_
  exact an (bi rfl (dK rfl (aQ rfl (ai (aO (hb)) (bO rfl rfl rfl rfl rfl rfl (aj (aC (aY (.inr rfl) rfl (.cellA aa rfl rfl rfl) (Le.outI [] [] (.agg rfl lz) rfl rfl rfl trivial ob tr rfl)))))))))
 rw [if_neg h1] at h
 by_cases h2:pr=3
 ·rw [if_pos h2] at h
  obtain ⟨ha,hb⟩:=ih.bin _ _ _ _ hl ab hi h
  refine ⟨ha,?_⟩
  subst h2
  have h1:(cX T i).t≠[33]:=fun e=> h1 ⟨rfl,e⟩
  refine Spec.ofNI Tryz.func226 rfl Tryz.ntmps226 rfl ?_
  refine am (ai (ay (6,0) aa rfl rfl) (aj (ap (am (bi rfl (ai (aS _ rfl rfl) (bA rfl rfl rfl (cC rfl rfl rfl (ai (ca (r:=false) _ _ rfl rfl rfl) (aj ?_))))))))))
  refine aP rfl rfl (aJ (am (bi rfl (ai (br aa _ _ ar (bT T i N hi) tr rfl ae (by simp)) ?_))))
  refine ja rfl (aj (ap (am (aQ rfl (iY rfl rfl rfl (cJ rfl (ax rfl rfl (aE _ (rfl:_=AV.v (.string _))) (ax rfl rfl (aU (r:=false) _ _ Tryz.underlying9 rfl rfl (beq_eq_false_iff_ne.2 h1)) ?_))))))))
  refine ai (aD _ _ _ rfl (rfl:_=AV.v (.bool _))) (aj (aP rfl rfl (aJ (ap (ap ?_)))))
  refine aN (σ':=aB 50 [(0,_),(1,_),(2,_),(6,_),(7,_)] [((0,9),_),((6,0),_)] [(0,9)] [(0,9)]) kp ?_
  refine an (aQ rfl (iY rfl rfl rfl (aj (bD rfl rfl (am (bi rfl (aQ rfl (ai (aO (hb)) (bO rfl rfl rfl rfl rfl rfl (aj ?_))))))))))
  exact aC (aY (.inr rfl) rfl (.cellA aa rfl rfl rfl) (Le.outI [] [] (.agg rfl lz) rfl rfl rfl trivial ob tr rfl))
 rw [if_neg h2] at h
 by_cases h3:pr=7∧(cX T i).t=[45]
 ·rw [if_pos h3] at h
  obtain ⟨ha,hb⟩:=ih.un _ _ _ _ _ hl ab hi h
  refine ⟨ha,?_⟩
  obtain ⟨rfl,h3⟩:=h3
  refine Spec.ofNI Tryz.func226 rfl Tryz.ntmps226 rfl ?_
  refine am (ai (ay (6,0) aa rfl rfl) (aj (ap (am (bi rfl (ai (aS _ rfl rfl) (bA rfl rfl rfl (cC rfl rfl rfl (ai (ca (r:=false) _ _ rfl rfl rfl) (aj ?_))))))))))
  refine aP rfl rfl (aJ (am (bi rfl (ai (br aa _ _ ar (bT T i N hi) tr rfl ae (by simp)) ?_))))
  refine ja rfl (aj (ap (am (aQ rfl (eG rfl rfl rfl (cJ rfl (aW rfl rfl ah ?_)))))))
  refine aW rfl rfl ah ?_
  refine ai (aD _ _ _ rfl (rfl:_=AV.v (.bool _))) (aj (aP rfl rfl (aJ (ap (ap ?_)))))
  refine aN (σ':=aB 50 [(0,_),(1,_),(2,_),(6,_),(7,_)] [((0,9),_),((6,0),_)] [(0,9)] [(0,9)]) kp ?_
  refine an (aQ rfl (eG rfl rfl rfl (aj (aP rfl rfl (aJ (ap (am (aQ rfl (iY rfl rfl rfl (cJ rfl ?_))))))))))
  refine ax rfl rfl (aE _ (rfl:_=AV.v (.string _))) (ax rfl rfl (aU (r:=true) _ _ Tryz.underlying9 rfl rfl (by rw [h3];rfl)) ?_)
  refine ai (aD _ _ _ rfl (rfl:_=AV.v (.bool _))) (aj (bD rfl rfl (am (bi rfl (dK rfl (aQ rfl (ai (aO (hb)) (bO rfl rfl rfl rfl rfl rfl (aj (aC ?_))))))))))
  exact aY (.inr rfl) rfl (.cellA aa rfl rfl rfl) (Le.outI [] [] (.agg rfl lz) rfl rfl rfl trivial ob tr rfl)
 rw [if_neg h3] at h
 by_cases h4:pr=7
 ·rw [if_pos h4] at h
  obtain ⟨ha,hb⟩:=ih.prim _ _ _ hl hi h
  refine ⟨ha,?_⟩
  subst h4
  have h3:(cX T i).t≠[45]:=fun e=> h3 ⟨rfl,e⟩
  refine Spec.ofNI Tryz.func226 rfl Tryz.ntmps226 rfl ?_
  refine am (ai (ay (6,0) aa rfl rfl) (aj (ap (am (bi rfl (ai (aS _ rfl rfl) (bA rfl rfl rfl (cC rfl rfl rfl (ai (ca (r:=false) _ _ rfl rfl rfl) (aj ?_))))))))))
  refine aP rfl rfl (aJ (am (bi rfl (ai (br aa _ _ ar (bT T i N hi) tr rfl ae (by simp)) ?_))))
  refine ja rfl (aj (ap (am (aQ rfl (eG rfl rfl rfl (cJ rfl (aW rfl rfl ah ?_)))))))
  refine aW rfl rfl ah ?_
  refine ai (aD _ _ _ rfl (rfl:_=AV.v (.bool _))) (aj (aP rfl rfl (aJ (ap (ap ?_)))))
  refine aN (σ':=aB 50 [(0,_),(1,_),(2,_),(6,_),(7,_)] [((0,9),_),((6,0),_)] [(0,9)] [(0,9)]) kp ?_
  refine an (aQ rfl (eG rfl rfl rfl (aj (aP rfl rfl (aJ (ap (am (aQ rfl (iY rfl rfl rfl (cJ rfl ?_))))))))))
  refine ax rfl rfl (aE _ (rfl:_=AV.v (.string _))) (ax rfl rfl (aU (r:=false) _ _ Tryz.underlying9 rfl rfl (beq_eq_false_iff_ne.2 h3)) ?_)
  refine ai (aD _ _ _ rfl (rfl:_=AV.v (.bool _))) (aj (aP rfl rfl (aJ (ap (am (aQ rfl (iY rfl rfl rfl (aj (bD rfl rfl (aF fun K13 hK13=> ?_))))))))))
  refine an (bi rfl (aQ rfl (ai (aO (hb)) (bO rfl rfl rfl rfl rfl rfl (az (hK13 _ ?_))))))
  clear hK13;try clear K13
  exact aC (aY (.inr rfl) rfl (.cellA aa rfl rfl rfl) (Le.outI [] [] (.agg rfl lz) rfl rfl rfl trivial ob tr rfl))
 rw [if_neg h4] at h
 obtain ⟨ha,hb⟩:=ih.bin _ _ _ _ hl ab hi h
 refine ⟨ha,?_⟩
 refine Spec.ofNI Tryz.func226 rfl Tryz.ntmps226 rfl ?_
 refine am (ai (ay (6,0) aa rfl rfl) (aj (ap (am (bi rfl (ai (aS _ rfl rfl) (bA rfl rfl rfl (cC rfl rfl rfl (ai (ca (r:=false) _ _ rfl rfl rfl) (aj ?_))))))))))
 refine aP rfl rfl (aJ (am (bi rfl (ai (br aa _ _ ar (bT T i N hi) tr rfl ae (by simp)) ?_))))
 refine ja rfl (aj (ap (am (aQ rfl (eG rfl rfl (beq_eq_false_iff_ne.2 ab) ?_)))))
 refine cJ rfl (aW rfl rfl ah ?_)
 refine aW rfl rfl ah ?_
 refine ai (aD _ _ _ rfl (rfl:_=AV.v (.bool _))) (aj (aP rfl rfl (aJ (ap (ap ?_)))))
 refine aN (σ':=aB 50 [(0,_),(1,_),(2,_),(6,_),(7,_)] [((0,9),_),((6,0),_)] [(0,9)] [(0,9)]) kp ?_
 refine an (aQ rfl (eG rfl rfl (beq_eq_false_iff_ne.2 ab) ?_))
 refine aj (aP rfl rfl (aJ (ap (am (aQ rfl (eG rfl rfl (beq_eq_false_iff_ne.2 ab) ?_))))))
 refine cJ rfl (aW rfl rfl ah ?_)
 refine aW rfl rfl ah ?_
 refine ai (aD _ _ _ rfl (rfl:_=AV.v (.bool _))) (aj (aP rfl rfl (aJ (ap (am (aQ rfl (eG rfl rfl (beq_eq_false_iff_ne.2 ab) ?_)))))))
 refine aj (aP rfl rfl (aJ (aF fun K13 hK13=> ?_)))
 refine an (bi rfl (aQ rfl (aQ rfl (ai (aO (hb)) (bO rfl rfl rfl rfl rfl rfl (az (hK13 _ ?_)))))))
 clear hK13;try clear K13
 exact aC (aY (.inr rfl) rfl (.cellA aa rfl rfl rfl) (Le.outI [] [] (.agg rfl lz) rfl rfl rfl trivial ob tr rfl))
theorem Bh (hT:T.length≤100000) (f:Nat) (ih:PE T N f) (s:Tx) (lv pr i:Nat) (r:Nd×Nat) (hl:lv≤20) (hp:1≤pr∧pr≤7) (hi:i < T.length) (h:Ew T (f+1) s lv pr i=some r):
  r.2 < T.length∧Spec Tryz.prog 235 (be [.ptr (0,9) 0, .v (bt s), .v (.int .i64 (lv:Int)), .v (.int .i64 (pr:Int))] (dF T i N)) (PO T N r):=by
 unfold Ew at h
 simp only [Option.bind_eq_bind,Option.bind_eq_some_iff,Option.pure_def,Option.some.injEq] at h
 obtain ⟨j,hj,⟨d,j2⟩,hd,rfl⟩:=h
 have ho:=ji hj
 have hjl:=ii ho.2 hi
 obtain ⟨ha,hb⟩:=ih.expr _ _ _ _ ho.1 hp hjl hd
 have hopen:=my T i j N s (lv+1) hi hT hj
 refine ⟨ha,?_⟩
 refine Spec.ofNI Tryz.func235 rfl Tryz.ntmps235 rfl ?_
 refine am (ai (ay (8,0) aa rfl rfl) (aj (am (bi rfl (dK rfl (aQ rfl (ai (bc _ _ rfl rfl (bq ab)) ?_)))))))
 refine ai (aO (hopen)) (aj (aF fun K3 hK3=> ?_))
 refine an (bi rfl (aQ rfl (ai (bc _ _ rfl rfl (bq ab)) ?_)))
 refine aQ rfl (ai (aO (hb)) (ai (ay (9,0) aa rfl rfl) (bO rfl rfl rfl rfl rfl rfl (az (hK3 _ ?_)))))
 clear hK3;try clear K3
 refine am (dK rfl (ai (aR _ aa rfl rfl rfl rfl) (ai (aV _ _ aa rfl ag (by (simp <;> rfl)) ah rfl) ?_)))
 refine ai (aA _ aa rfl (by exact (rfl:_=some [_,_,_,_]))) ?_
 exact bO rfl rfl rfl rfl rfl rfl (aj (aC (aY (.inr rfl) rfl (.cellA aa rfl rfl rfl) (Le.outI [] [] (.agg rfl lz) rfl rfl rfl trivial ob tr rfl))))
theorem uZ (hT:T.length≤100000) (f:Nat) (ih:PE T N f) (lv i:Nat) (r:Nd×Nat) (hl:lv≤20) (hi:i < T.length) (h:pC T (f+1) lv i=some r):
  r.2 < T.length∧Spec Tryz.prog 240 (be [.ptr (0,9) 0, .v (.int .i64 (lv:Int))] (dF T i N)) (PO T N r):=by
 unfold pC at h
 simp only [Option.bind_eq_bind,Option.bind_eq_some_iff,Option.pure_def,Option.some.injEq] at h
 obtain ⟨j,hj,⟨d,j2⟩,hd,j3,hj3,rfl⟩:=h
 have ho:=ji hj
 have hjl:=ii ho.2 hi
 obtain ⟨ha,hb⟩:=ih.expr _ _ _ _ ho.1 ab hjl hd
 have hopen:=my T i j N [40] (lv+1) hi hT hj
 have hexp:=eY T j2 j3 N [41] ha hT hj3
 refine ⟨ii hj3 ha,?_⟩
 refine Spec.ofNI Tryz.func240 rfl Tryz.ntmps240 rfl ?_
 refine am (ai (ay (4,0) aa rfl rfl) (aj (am (bi rfl (aQ rfl (ai (bc _ _ rfl rfl (bq ab)) ?_))))))
 refine ai (aO (hopen)) (aj (aF fun K3 hK3=> ?_))
 refine an (bi rfl (aQ rfl (ai (bc _ _ rfl rfl (bq ab)) ?_)))
 refine ai (aO (hb)) (ai (ay (5,0) aa rfl rfl) (bO rfl rfl rfl rfl rfl rfl (az (hK3 _ ?_))))
 clear hK3;try clear K3
 refine aF fun K4 hK4=> ?_
 refine an (bi rfl (ai (aO (hexp)) (az (hK4 _ ?_))))
 clear hK4;try clear K4
 exact am (ai (aR _ aa rfl rfl rfl rfl) (bO rfl rfl rfl rfl rfl rfl (aj (aC (aY (.inr rfl) rfl (.cellA aa rfl rfl rfl) (Le.outI [] [] (.agg rfl lz) rfl rfl rfl trivial ob tr rfl))))))
theorem uT (hT:T.length≤100000) (f:Nat) (ih:PE T N f) (lv i:Nat) (r:Nd×Nat) (hl:lv≤20) (hi:i < T.length) (h:re T (f+1) lv i=some r):
  r.2 < T.length∧Spec Tryz.prog 237 (be [.ptr (0,9) 0, .v (.int .i64 (lv:Int))] (dF T i N)) (PO T N r):=by
 have htl:=dM hi
 have htake:=cq T i N hi hT
 unfold re at h
 simp only at h
 by_cases h1:(cX T i).t=[40]
 ·rw [if_pos h1] at h
  obtain ⟨ha,hb⟩:=ih.nest _ _ _ hl hi h
  refine ⟨ha,?_⟩
  refine Spec.ofNI Tryz.func237 rfl Tryz.ntmps237 rfl ?_
  refine am (ai (ay (4,0) aa rfl rfl) (aj (ap (bF 11 [8,9,10,11,12,13,14,15,16,17,5] [(5,0)] ae ae rfl (aM rfl) (rfl:_=[_,_,_,_,_,_,_,_,_,_,_]) (rfl:_=[_]) ?_))))
  refine aq (_,[]) (fun τ=> aE _ (rfl:_=AV.ptr _ _)) ?_
  refine eJ rfl ?_
  refine aq (_,[]) (fun τ=> aS _ rfl rfl) ?_
  refine eK rfl ?_
  refine aq (_,[]) (fun τ=> aH _ aa rfl rfl rfl) ?_
  refine eH rfl ?_
  refine aq (_,[]) (fun τ=> aK _ aa rfl rfl (rfl:_=some (AV.sl _ _))) ?_
  refine eS rfl ?_
  refine aq (_,[]) (fun τ=> aE _ (rfl:_=AV.ptr _ _)) ?_
  refine eZ rfl ?_
  refine aq (_,[]) (fun τ=> aS _ rfl rfl) ?_
  refine fH rfl ?_
  refine aq (_,[]) (fun τ=> aH _ aa rfl rfl rfl) ?_
  refine gF rfl ?_
  refine aq (_,[]) (fun τ=> aK _ aa rfl rfl (rfl:_=some (AV.v (.int _ _)))) ?_
  refine kv rfl ?_
  refine aq (_,[]) (fun τ=> bf _ _ aa rfl rfl _ rfl ab (by (simp only [ba,bn,bl,bC,bz];omega)) ag) ?_
  refine ko rfl ?_
  refine aq (_,[]) (fun τ=> cd _ aa rfl (by exact lU _ _ hi) rfl) ?_
  refine gj rfl ?_
  refine aq (_,[((5,0),_)]) (fun τ=> ay (5,0) aa rfl rfl) ?_
  refine gH rfl (bh ⟨rfl,?_⟩)
  refine bO rfl rfl rfl rfl rfl rfl (aj (ap (am (bA rfl rfl rfl (ai (aK _ aa rfl rfl (rfl:_=some (AV.v (.string _)))) (ai (aU (r:=true) _ _ Tryz.underlying9 rfl rfl (by rw [h1];rfl)) ?_))))))
  refine aj (bD rfl rfl (ap ?_))
  refine aN (σ':=aB 72 [(0,_),(1,_),(4,_)] [((0,9),_),((4,0),_)] [(0,9)] [(0,9)]) kp ?_
  exact an (bi rfl (aQ rfl (ai (aO (hb)) (bO rfl rfl rfl rfl rfl rfl (aj (aC (aY (.inr rfl) rfl (.cellA aa rfl rfl rfl) (Le.outI [] [] (.agg rfl lz) rfl rfl rfl trivial ob tr rfl))))))))
 rw [if_neg h1] at h
 by_cases h2:(cX T i).t=xT
 ·rw [if_pos h2] at h
  simp only [Option.bind_eq_bind,Option.bind_eq_some_iff,Option.pure_def,Option.some.injEq] at h
  obtain ⟨⟨d,j⟩,hd,rfl⟩:=h
  obtain ⟨ha,hb⟩:=ih.nest _ _ _ hl htl hd
  refine ⟨ha,?_⟩
  refine Spec.ofNI Tryz.func237 rfl Tryz.ntmps237 rfl ?_
  refine am (ai (ay (4,0) aa rfl rfl) (aj (ap (bF 11 [8,9,10,11,12,13,14,15,16,17,5] [(5,0)] ae ae rfl (aM rfl) (rfl:_=[_,_,_,_,_,_,_,_,_,_,_]) (rfl:_=[_]) ?_))))
  refine aq (_,[]) (fun τ=> aE _ (rfl:_=AV.ptr _ _)) ?_
  refine eJ rfl ?_
  refine aq (_,[]) (fun τ=> aS _ rfl rfl) ?_
  refine eK rfl ?_
  refine aq (_,[]) (fun τ=> aH _ aa rfl rfl rfl) ?_
  refine eH rfl ?_
  refine aq (_,[]) (fun τ=> aK _ aa rfl rfl (rfl:_=some (AV.sl _ _))) ?_
  refine eS rfl ?_
  refine aq (_,[]) (fun τ=> aE _ (rfl:_=AV.ptr _ _)) ?_
  refine eZ rfl ?_
  refine aq (_,[]) (fun τ=> aS _ rfl rfl) ?_
  refine fH rfl ?_
  refine aq (_,[]) (fun τ=> aH _ aa rfl rfl rfl) ?_
  refine gF rfl ?_
  refine aq (_,[]) (fun τ=> aK _ aa rfl rfl (rfl:_=some (AV.v (.int _ _)))) ?_
  refine kv rfl ?_
  refine aq (_,[]) (fun τ=> bf _ _ aa rfl rfl _ rfl ab (by (simp only [ba,bn,bl,bC,bz];omega)) ag) ?_
  refine ko rfl ?_
  refine aq (_,[]) (fun τ=> cd _ aa rfl (by exact lU _ _ hi) rfl) ?_
  refine gj rfl ?_
  refine aq (_,[((5,0),_)]) (fun τ=> ay (5,0) aa rfl rfl) ?_
  refine gH rfl (bh ⟨rfl,?_⟩)
  refine bO rfl rfl rfl rfl rfl rfl (aj (ap (am (bA rfl rfl rfl (ai (aK _ aa rfl rfl (rfl:_=some (AV.v (.string _)))) (ai (aU (r:=false) _ _ Tryz.underlying9 rfl rfl (beq_eq_false_iff_ne.2 h1)) ?_))))))
  refine aj (aP rfl rfl (aJ (ap (ap ?_))))
  refine aN (σ':=aB 72 [(0,_),(1,_),(4,_),(5,_)] [((0,9),_),((4,0),_),((5,0),_)] [(0,9)] [(0,9)]) kp ?_
  refine an (bA rfl rfl rfl (ai (aK _ aa rfl rfl (rfl:_=some (AV.v (.string _)))) (ai (aU (r:=true) _ _ Tryz.underlying9 rfl rfl (by rw [h2];rfl)) ?_)))
  refine aj (bD rfl rfl (am (bi rfl (ai (aO (htake)) (aj (aF fun K8 hK8=> ?_))))))
  refine an (bi rfl (aQ rfl (ai (aO (hb)) (ai (ay (6,0) aa rfl rfl) (bO rfl rfl rfl rfl rfl rfl (az (hK8 _ ?_)))))))
  clear hK8;try clear K8
  refine am (ai (aR _ aa rfl rfl rfl rfl) (ai (aV _ _ aa rfl ag (by (simp <;> rfl)) ah rfl) ?_))
  refine ai (aA _ aa rfl (by exact (rfl:_=some [_,_,_,_]))) ?_
  exact bO rfl rfl rfl rfl rfl rfl (aj (aC (aY (.inr rfl) rfl (.cellA aa rfl rfl rfl) (Le.outI [] [] (.agg rfl lz) rfl rfl rfl trivial ob tr rfl))))
 rw [if_neg h2] at h
 have hr:r.2=bR T i:=by
  repeat' split at h
  all_goals first | (rw [← Option.some.inj h];done) | cases h
 refine ⟨by rw [hr];exact htl,?_⟩
 refine Spec.ofNI Tryz.func237 rfl Tryz.ntmps237 rfl ?_
 refine am (ai (ay (4,0) aa rfl rfl) (aj (ap (bF 11 [8,9,10,11,12,13,14,15,16,17,5] [(5,0)] ae ae rfl (aM rfl) (rfl:_=[_,_,_,_,_,_,_,_,_,_,_]) (rfl:_=[_]) ?_))))
 refine aq (_,[]) (fun τ=> aE _ (rfl:_=AV.ptr _ _)) ?_
 refine eJ rfl ?_
 refine aq (_,[]) (fun τ=> aS _ rfl rfl) ?_
 refine eK rfl ?_
 refine aq (_,[]) (fun τ=> aH _ aa rfl rfl rfl) ?_
 refine eH rfl ?_
 refine aq (_,[]) (fun τ=> aK _ aa rfl rfl (rfl:_=some (AV.sl _ _))) ?_
 refine eS rfl ?_
 refine aq (_,[]) (fun τ=> aE _ (rfl:_=AV.ptr _ _)) ?_
 refine eZ rfl ?_
 refine aq (_,[]) (fun τ=> aS _ rfl rfl) ?_
 refine fH rfl ?_
 refine aq (_,[]) (fun τ=> aH _ aa rfl rfl rfl) ?_
 refine gF rfl ?_
 refine aq (_,[]) (fun τ=> aK _ aa rfl rfl (rfl:_=some (AV.v (.int _ _)))) ?_
 refine kv rfl ?_
 refine aq (_,[]) (fun τ=> bf _ _ aa rfl rfl _ rfl ab (by (simp only [ba,bn,bl,bC,bz];omega)) ag) ?_
 refine ko rfl ?_
 refine aq (_,[]) (fun τ=> cd _ aa rfl (by exact lU _ _ hi) rfl) ?_
 refine gj rfl ?_
 refine aq (_,[((5,0),_)]) (fun τ=> ay (5,0) aa rfl rfl) ?_
 refine gH rfl (bh ⟨rfl,?_⟩)
 refine bO rfl rfl rfl rfl rfl rfl (aj (ap (am (bA rfl rfl rfl (ai (aK _ aa rfl rfl (rfl:_=some (AV.v (.string _)))) (ai (aU (r:=false) _ _ Tryz.underlying9 rfl rfl (beq_eq_false_iff_ne.2 h1)) ?_))))))
 refine aj (aP rfl rfl (aJ (ap (ap ?_))))
 refine aN (σ':=aB 72 [(0,_),(1,_),(4,_),(5,_)] [((0,9),_),((4,0),_),((5,0),_)] [(0,9)] [(0,9)]) kp ?_
 refine an (bA rfl rfl rfl (ai (aK _ aa rfl rfl (rfl:_=some (AV.v (.string _)))) (ai (aU (r:=false) _ _ Tryz.underlying9 rfl rfl (beq_eq_false_iff_ne.2 h2)) ?_)))
 refine aj (aP rfl rfl (aJ (am (ai (aA _ aa rfl (by exact (rfl:_=some [_,_,_,_]))) ?_))))
 refine ai (ay (7,0) aa rfl rfl) (bO rfl rfl rfl rfl rfl rfl (aj (aF fun K8 hK8=> ?_)))
 refine am (bA rfl rfl rfl (cC rfl rfl rfl (ai (bP _ _ rfl rfl rfl) (aj (aT rfl (fun hc38=> ?_) (fun hc38=> ?_))))))
 ·skip
  rw [if_pos ab] at h
  obtain rfl:=Option.some.inj h
  refine an (bA rfl rfl rfl (cC rfl rfl rfl (ai (aA _ aa rfl (by exact (rfl:_=some [_,_,_,_]))) ?_)))
  refine bO rfl rfl rfl rfl rfl rfl (az (hK8 _ ?_))
  clear hK8;try clear K8
  refine am (bi rfl (ai (aO (htake)) (aj (ap ?_))))
  refine aN (σ':=aB 72 [(4,_),(7,_)] [((4,0),_),((7,0),_),((0,9),_)] [(0,9)] [(0,9)]) kp ?_
  exact an (ai (aR _ aa rfl rfl rfl rfl) (bO rfl rfl rfl rfl rfl rfl (aj (aC (aY (.inr rfl) rfl (.cellA aa rfl rfl rfl) (Le.outI [] [] (.agg rfl lz) rfl rfl rfl trivial ob tr rfl))))))
 ·skip
  rw [if_neg ab] at h
  refine am (bA rfl rfl rfl (ai (aK _ aa rfl rfl (rfl:_=some (AV.v (.string _)))) (ai (aU _ _ Tryz.underlying9 rfl rfl rfl) (aj (aT rfl (fun hc44=> ?_) (fun hc44=> ?_))))))
  ·skip
   rw [if_pos (show (cX T i).t=tb from hc44)] at h
   obtain rfl:=Option.some.inj h
   refine an (ai (aA _ aa rfl (by exact (rfl:_=some [_,_,_,_]))) ?_)
   refine bO rfl rfl rfl rfl rfl rfl (az (hK8 _ ?_))
   clear hK8;try clear K8
   refine am (bi rfl (ai (aO (htake)) (aj (ap ?_))))
   refine aN (σ':=aB 72 [(4,_),(7,_)] [((4,0),_),((7,0),_),((0,9),_)] [(0,9)] [(0,9)]) kp ?_
   exact an (ai (aR _ aa rfl rfl rfl rfl) (bO rfl rfl rfl rfl rfl rfl (aj (aC (aY (.inr rfl) rfl (.cellA aa rfl rfl rfl) (Le.outI [] [] (.agg rfl lz) rfl rfl rfl trivial ob tr rfl))))))
  ·skip
   rw [if_neg (show ¬ (cX T i).t=tb from hc44)] at h
   refine am (bA rfl rfl rfl (ai (aK _ aa rfl rfl (rfl:_=some (AV.v (.string _)))) (ai (aU _ _ Tryz.underlying9 rfl rfl rfl) (aj (aT rfl (fun hc48=> ?_) (fun hc48=> ?_))))))
   ·skip
    rw [if_pos (show (cX T i).t=qv from hc48)] at h
    obtain rfl:=Option.some.inj h
    refine aN (σ':=aB 72 [(0,_),(4,_),(7,_)] [((0,9),_),((4,0),_),((7,0),_)] [(0,9)] [(0,9)]) kp ?_
    refine an (ai (aA _ aa rfl (by exact (rfl:_=some [_,_,_,_]))) ?_)
    refine bO rfl rfl rfl rfl rfl rfl (az (hK8 _ ?_))
    clear hK8;try clear K8
    exact am (bi rfl (ai (aO (htake)) (aj (am (ai (aR _ aa rfl rfl rfl rfl) (bO rfl rfl rfl rfl rfl rfl (aj (aC (aY (.inr rfl) rfl (.cellA aa rfl rfl rfl) (Le.outI [] [] (.agg rfl lz) rfl rfl rfl trivial ob tr rfl))))))))))
   ·skip
    rw [if_neg (show ¬ (cX T i).t=qv from hc48)] at h
    refine ap ?_
    refine aN (σ':=aB 72 [(0,_),(4,_),(5,_),(7,_)] [((0,9),_),((4,0),_),((5,0),_),((7,0),_)] [(0,9)] [(0,9)]) kp ?_
    refine bF 4 [50,51,52,53] [] ae ae rfl (aM rfl) (rfl:_=[_,_,_,_]) (rfl:_=[]) ?_
    refine aq (_,[]) (fun τ=> (aL aa (by repeat' (exact dN)) (ez) rfl rfl)) ?_
    refine eJ rfl ?_
    refine aq (_,[]) (fun τ=> aH _ aa rfl rfl rfl) ?_
    refine eK rfl ?_
    refine aq (_,[]) (fun τ=> aK _ aa rfl rfl (rfl:_=some (AV.v (.string _)))) ?_
    refine eH rfl ?_
    refine aq (_,[]) (fun τ=> (aL aa al (cw bltT 9 rfl ab (cX T i).t) rfl rfl)) ?_
    refine eS rfl (bh ⟨rfl,?_⟩)
    refine aj (aT rfl (fun hc53=> ?_) (fun hc53=> ?_))
    ·skip
     rw [if_pos hc53] at h
     obtain rfl:=Option.some.inj h
     refine an (bA rfl rfl rfl (ai (aK _ aa rfl rfl (rfl:_=some (AV.v (.string _)))) (ai (aA _ aa rfl (by exact (rfl:_=some [_,_,_,_]))) ?_)))
     refine bO rfl rfl rfl rfl rfl rfl (az (hK8 _ ?_))
     clear hK8;try clear K8
     exact am (bi rfl (ai (aO (htake)) (aj (am (ai (aR _ aa rfl rfl rfl rfl) (bO rfl rfl rfl rfl rfl rfl (aj (aC (aY (.inr rfl) rfl (.cellA aa rfl rfl rfl) (Le.outI [] [] (.agg rfl lz) rfl rfl rfl trivial ob tr rfl))))))))))
    ·skip
     rw [if_neg hc53] at h
     refine am (bi rfl (ai (br aa _ _ ar (dD T i N hi) tr rfl ae (by simp)) ?_))
     refine aj (aT rfl (fun hc58=> ?_) (fun hc58=> ?_))
     ·skip
      rw [if_pos hc58] at h
      obtain rfl:=Option.some.inj h
      refine an (bA rfl rfl rfl (ai (aK _ aa rfl rfl (rfl:_=some (AV.v (.string _)))) (ai (aA _ aa rfl (by exact (rfl:_=some [_,_,_,_]))) ?_)))
      refine bO rfl rfl rfl rfl rfl rfl (az (hK8 _ ?_))
      clear hK8;try clear K8
      exact am (bi rfl (ai (aO (htake)) (aj (am (ai (aR _ aa rfl rfl rfl rfl) (bO rfl rfl rfl rfl rfl rfl (aj (aC (aY (.inr rfl) rfl (.cellA aa rfl rfl rfl) (Le.outI [] [] (.agg rfl lz) rfl rfl rfl trivial ob tr rfl))))))))))
     ·skip
      exact absurd h (by rw [if_neg (by simp [hc58])];exact fun e=> by cases e)
theorem BJ (pr:Nat) (h:1≤pr∧pr≤6∧pr≠3):([PV.v (.slice none 0 0), .sl 1 (dT [[124,124]]), .sl 1 (dT [[38,38]]), .v (.slice none 0 0), .sl 6 (dT [[60],[60,61],[62],[62,61],[61,61],[33,61]]), .sl 2 (dT [[43],[45]]), .sl 2 (dT [[42],[47]])]:List PV)[pr]? =some (.sl (opsP.getD pr []).length (dT (opsP.getD pr []))):=by
 have:pr=1∨pr=2∨pr=4∨pr=5∨pr=6:=by omega
 rcases this with rfl | rfl | rfl | rfl | rfl <;> rfl
theorem AP (pr:Nat):(opsP.getD pr []).length≤6:=by
 unfold opsP
 match pr with
 | 0=> decide | 1=> decide | 2=> decide | 3=> decide | 4=> decide | 5=> decide | 6=> decide
 | n+7=> simp
theorem nN {f lv pr:Nat} {d:Nd} {i:Nat} {r:Nd×Nat} (h:lr T f lv pr d i=some r): ∃ g,f=g+1∧((cX T i).t∉opsP.getD pr []∧r=(d,i)∨(cX T i).t∈opsP.getD pr []∧ ∃ e j,fL T g lv (pr+1) (bR T i)=some (e,j)∧
  (pr=4∧r=(nd 18 0 (cX T i).t [d,e],j)∨pr≠4∧lr T g lv pr (nd 18 0 (cX T i).t [d,e]) j=some r)):=by
 cases f with
 | zero=> simp [lr] at h
 | succ g=>
  refine ⟨g,rfl,?_⟩
  unfold lr at h
  split at h
  ·rename_i hm
   simp only [Option.bind_eq_bind,Option.bind_eq_some_iff,Option.pure_def] at h
   obtain ⟨⟨e,j⟩,he,h⟩:=h
   refine .inr ⟨hm,e,j,he,?_⟩
   split at h
   ·rename_i h4;exact .inl ⟨h4,(Option.some.inj h).symm⟩
   ·rename_i h4;exact .inr ⟨h4,h⟩
  ·rename_i hm;exact .inl ⟨hm,(Option.some.inj h).symm⟩
theorem wU (hT:T.length≤100000) (f:Nat) (ih: ∀ g,g≤f→PE T N g) (lv pr i:Nat) (r:Nd×Nat) (hl:lv≤20) (hp:1≤pr∧pr≤6∧pr≠3) (hi:i < T.length) (h:wd T (f+1) lv pr i=some r):
  r.2 < T.length∧Spec Tryz.prog 236 (be [.ptr (0,9) 0, .v (.int .i64 (lv:Int)), .v (.int .i64 (pr:Int))] (dF T i N)) (PO T N r):=by
 unfold wd at h
 simp only [Option.bind_eq_bind,Option.bind_eq_some_iff] at h
 obtain ⟨⟨d,j⟩,hd,h⟩:=h
 simp only at h
 obtain ⟨ha,hb⟩:=(ih f (Nat.le_refl _)).expr _ _ _ _ hl ab hi hd
 have hend: ∀ (g:Nat) (d:Nd) (i:Nat),g≤f→i < T.length→lr T g lv pr d i=some r→r.2 < T.length:=by
  intro g
  induction g with
  | zero=> intro d i _ _ h;simp [lr] at h
  | succ g ihg=>
   intro d i hg hi h
   obtain ⟨g',hg',h | ⟨_,e,j,he,h⟩⟩:=nN h
   ·rw [h.2];exact hi
   ·obtain rfl:g=g':=by omega
    have hj:=((ih g ab).expr _ _ _ _ hl ab (dM hi) he).1
    rcases h with h | h
    ·rw [h.2];exact hj
    ·exact ihg _ _ ab hj h.2
 refine ⟨hend f d j (Nat.le_refl _) ha h,?_⟩
 have hol:=AP pr
 refine Spec.ofNI Tryz.func236 rfl Tryz.ntmps236 rfl ?_
 refine am (ai (ay (6,0) aa rfl rfl) (aj (am (ai (aV _ _ aa rfl ag (by (simp <;> rfl)) ah rfl) ?_))))
 refine ai (aV _ _ aa rfl ag (by (simp <;> rfl)) ah rfl) ?_
 refine ai (aV _ _ aa rfl ag (by (simp <;> rfl)) ah rfl) ?_
 refine ai (aV _ _ aa rfl ag (by (simp <;> rfl)) ah rfl) ?_
 refine ai (aV _ _ aa rfl ag (by (simp <;> rfl)) ah rfl) ?_
 refine ai (aV _ _ aa rfl ag (by (simp <;> rfl)) ah rfl) ?_
 refine kJ rfl (aj (am (bi rfl (aQ rfl (aQ rfl (ai (bc _ _ rfl rfl (bq ab)) ?_))))))
 refine ai (aO (hb)) (ai (ay (8,0) aa rfl rfl) (bO rfl rfl rfl rfl rfl rfl (aj (aF fun K4 hK4=> ?_))))
 refine au ?_
 refine bw (α:=Nat×Nd×Nat) (fun z=> z.1≤f∧z.2.2 < T.length∧lr T z.1 lv pr z.2.1 z.2.2=some r) 53 [(0,_),(1,_),(2,_),(6,_),(7,_),(8,_)] [((6,0),_)] (fun z=> []) (fun z=> [((0,9), .box 222 [.sl T.length (pY T), .v (.int .i64 (z.2.2:Int)), .v (.int .i64 0), .v (.int .i64 0), .sl N.length (dT N)]),((8,0), .box 71 [.v (.int .i64 (z.2.1.k:Int)), .v (.int .i64 (z.2.1.n:Int)), .v (bt z.2.1.s), .sl z.2.1.kn z.2.1.kids])]) [(0,9)] [(0,9)] (fun z=> z.1) (f,d,j) ?_ (by
  refine Le.mkJ [] [] rfl ?_ ?_ trivial tr ?_
  ·exact ⟨(iP rfl),(iV rfl),(iV rfl),(iP rfl),(iS rfl),(iP rfl),trivial⟩
  ·exact ⟨(cF rfl rfl rfl),(fS rfl rfl rfl rfl lz),(fS rfl rfl rfl rfl (nC (nC (aI (by repeat' (exact Lv.v)) lz)))),trivial⟩
  ·kernel_rfl) ?_
 ·exact ⟨Nat.le_refl _,ha,h⟩
 intro z hz
 obtain ⟨z1,z2,z3⟩:=z
 obtain ⟨hz1,hz2,hz3⟩:=hz
 obtain ⟨g,rfl,hm⟩:=nN hz3
 simp only at hz1 hz2 hm ⊢
 refine aF fun K5 hK5=> ?_
 refine ap (bF 14 [22,23,24,25,26,27,28,29,30,31,32,33,34,35] [] ae ae rfl (aM rfl) (rfl:_=[_,_,_,_,_,_,_,_,_,_,_,_,_,_]) (rfl:_=[]) ?_)
 refine aq (_,[]) (fun τ=> aE _ (rfl:_=AV.ptr _ _)) ?_
 refine eJ rfl ?_
 refine aq (_,[]) (fun τ=> aS _ rfl rfl) ?_
 refine eK rfl ?_
 refine aq (_,[]) (fun τ=> aH _ aa rfl rfl rfl) ?_
 refine eH rfl ?_
 refine aq (_,[]) (fun τ=> aK _ aa rfl rfl (rfl:_=some (AV.v (.int _ _)))) ?_
 refine eS rfl ?_
 refine aq (_,[]) (fun τ=> bP (r:=true) _ _ rfl rfl rfl) ?_
 refine eZ rfl ?_
 refine aq (_,[]) (fun τ=> aE _ (rfl:_=AV.v (.bool _))) ?_
 refine fH rfl ?_
 refine bV (_,[]) rfl (fun τ=> rfl) (fun τ=> aE _ (rfl:_=AV.sl _ _)) ?_
 refine gF rfl ?_
 refine bV (_,[]) rfl (fun τ=> rfl) (fun τ=> aE _ (rfl:_=AV.v (.int _ _))) ?_
 refine kv rfl ?_
 refine bV (_,[]) rfl (fun τ=> rfl) (fun τ=> bf _ _ aa rfl rfl _ rfl ab ah (by exact Nat.mul_one _)) ?_
 refine ko rfl ?_
 refine bV (_,[]) rfl (fun τ=> rfl) (fun τ=> bH _ aa rfl (by exact BJ pr hp) rfl) ?_
 refine gj rfl ?_
 refine bV (_,[]) rfl (fun τ=> rfl) (fun τ=> aE _ (rfl:_=AV.ptr _ _)) ?_
 refine gH rfl ?_
 refine bV (_,[]) rfl (fun τ=> rfl) (fun τ=> (br aa _ _ ar (bT T z3 N hz2) tr rfl ae (by simp))) ?_
 refine lf rfl ?_
 refine bV (_,[]) rfl (fun τ=> rfl) (fun τ=> (aL aa al (cw (opsP.getD pr []) _ rfl ab (cX T z3).t) rfl rfl)) ?_
 refine lO rfl ?_
 refine aq (_,[]) (fun τ=> aD _ _ _ rfl (rfl:_=AV.v (.bool _))) ?_
 refine pa rfl (bh ⟨rfl,?_⟩)
 refine aj (aT rfl (fun hc35=> ?_) (fun hc35=> ?_))
 ·skip
  obtain ⟨_,e,je,he,hm⟩:=hm.resolve_left fun x=> x.1 hc35
  obtain ⟨hea,heb⟩:=(ih g ab).expr _ _ _ _ hl ab (dM hz2) he
  refine bv (hK5 _ ?_)
  clear hK5;try clear K5
  refine au (am (bi rfl (ai (br aa _ _ ar (bT T z3 N hz2) tr rfl ae (by simp)) ?_)))
  refine ja rfl (aj (ap ?_))
  refine aN (σ':=aB 53 [(0,_),(1,_),(2,_),(6,_),(7,_),(8,_),(9,_)] [((6,0),_),((0,9),_),((8,0),_)] [(0,9)] [(0,9)]) kp ?_
  refine an (bi rfl (ai (aO (cq T z3 N hz2 hT)) ?_))
  refine aj (aF fun K9 hK9=> ?_)
  refine an (bi rfl (aQ rfl (aQ rfl (ai (bc _ _ rfl rfl (bq ab)) ?_))))
  refine ai (aO (heb)) (ai (ay (10,0) aa rfl rfl) (bO rfl rfl rfl rfl rfl rfl (az (hK9 _ ?_))))
  clear hK9;try clear K9
  refine am (dK rfl (ai (aR _ aa rfl rfl rfl rfl) (ai (aR _ aa rfl rfl rfl rfl) (ai (aV _ _ aa rfl ag (by (simp <;> rfl)) ah rfl) ?_))))
  refine ai (aA _ aa rfl (by exact (rfl:_=some [_,_,_,_]))) ?_
  refine bO rfl rfl rfl rfl rfl rfl (aj (ap ?_))
  refine aN (σ':=aB 53 [(0,_),(1,_),(2,_),(6,_),(7,_),(8,_)] [((6,0),_),((0,9),_),((8,0),_)] [(0,9)] [(0,9)]) kp ?_
  refine an (aQ rfl (ai (bP _ _ rfl rfl rfl) (aj (aT rfl (fun hc51=> ?_) (fun hc51=> ?_)))))
  ·skip
   have hr:=(hm.resolve_right fun x=> x.1 ab).2
   subst hr
   refine bK (id (hK4 _ ?_))
   clear hK4;try clear K4
   exact am (ai (aR _ aa rfl rfl rfl rfl) (bO rfl rfl rfl rfl rfl rfl (aj (aC (aY (.inr rfl) rfl (.cellA aa rfl rfl rfl) (Le.outI [] [] (.agg rfl lz) rfl rfl rfl trivial ob tr rfl))))))
  ·skip
   have hm:=(hm.resolve_left fun x=> hc51 ab).2
   refine bv (⟨(g,nd 18 0 (cX T z3).t [z2,e],je),?_,?_,?_⟩)
   ·exact ⟨by simp only;omega,hea,hm⟩
   ·skip
    refine Le.mkJ [] [] rfl ?_ ?_ trivial tr ?_
    ·exact ⟨(iP rfl),(iV rfl),(iV rfl),(iP rfl),(iS rfl),(iP rfl),trivial⟩
    ·exact ⟨(cF rfl rfl rfl),(fS rfl rfl rfl rfl lz),(fS rfl rfl rfl rfl (nC (nC (aI (by repeat' (exact Lv.v)) lz)))),trivial⟩
    ·kernel_rfl
   ·simp only;omega
 ·skip
  have hr:=(hm.resolve_right fun x=> hc35 x.1).2
  subst hr
  refine bK (id (hK4 _ ?_))
  clear hK4;try clear K4
  exact am (ai (aR _ aa rfl rfl rfl rfl) (bO rfl rfl rfl rfl rfl rfl (aj (aC (aY (.inr rfl) rfl (.cellA aa rfl rfl rfl) (Le.outI [] [] (.agg rfl lz) rfl rfl rfl trivial ob tr rfl))))))
theorem CZ (hT:T.length≤100000): ∀ f g,g≤f→PE T N g:=by
 intro f
 induction f with
 | zero=>
  intro g hg
  obtain rfl:g=0:=by omega
  exact ⟨fun _ _ _ _ _ _ _ h=> by simp [fL] at h,fun _ _ _ _ _ _ _ _ h=> by simp [Ew] at h,fun _ _ _ _ _ _ _ h=> by simp [wd] at h,fun _ _ _ _ _ h=> by simp [pC] at h,fun _ _ _ _ _ h=> by simp [re] at h⟩
 | succ f ih=>
  intro g hg
  rcases Nat.lt_or_ge g (f+1) with h | h
  ·exact ih g ab
  ·obtain rfl:g=f+1:=by omega
   exact ⟨vz f (ih f (Nat.le_refl _)),Bh hT f (ih f (Nat.le_refl _)),wU hT f ih,uZ hT f (ih f (Nat.le_refl _)),uT hT f (ih f (Nat.le_refl _))⟩
theorem vO (hT:T.length≤100000) {f lv i:Nat} {r:Nd×Nat} (hl:lv≤20) (hi:i < T.length) (h:fL T f lv 1 i=some r):r.2 < T.length∧Spec Tryz.prog 226 (be [.ptr (0,9) 0, .v (.int .i64 (lv:Int)), .v (.int .i64 1)] (dF T i N)) (PO T N r):=
 (CZ hT f f (Nat.le_refl _)).expr lv 1 i r hl ab hi h
end

structure PS (T:List Tk) (N:List Tx) (f:Nat):Prop where
 stm: ∀ lv i r,lv≤20→i < T.length→vo T f lv i=some r→r.2 < T.length∧Spec Tryz.prog 202 (be [.ptr (0,9) 0, .v (.int .i64 (lv:Int))] (dF T i N)) (PO T N r)
 blk: ∀ lv i r,lv≤21→i < T.length→oO T f lv i=some r→r.2 < T.length∧Spec Tryz.prog 164 (be [.ptr (0,9) 0, .v (.int .i64 (lv:Int))] (dF T i N)) (PO T N r)
def zB:List Tx:=[tC,jn,oe,gv,jI,ol,lP,nK,oA]
theorem fi {T:List Tk} {i:Nat} (h:ti (cX T i).t=true):dX T i=false:=by unfold dX;rw [h];simp
section
variable {T:List Tk} {N:List Tx}
theorem vR (hT:T.length≤100000) (lv i:Nat) (hl:lv≤20) (hi:i < T.length) (hn:dX T i=true) {d:Nd} {j1 j2 j3:Nat} (h1:Spec Tryz.prog 162 (be [.ptr (0,9) 0, .v (bt [61])] (dF T (bR T i) N)) (bg (.tup []) (dF T j1 N) [(0,9)] [(0,9)])) (h2:Spec Tryz.prog 226 (be [.ptr (0,9) 0, .v (.int .i64 (lv:Int)), .v (.int .i64 1)] (dF T j1 N)) (PO T N (d,j2))) (h3:Spec Tryz.prog 162 (be [.ptr (0,9) 0, .v (bt [59])] (dF T j2 N)) (bg (.tup []) (dF T j3 N) [(0,9)] [(0,9)])):
  Spec Tryz.prog 202 (be [.ptr (0,9) 0, .v (.int .i64 (lv:Int))] (dF T i N)) (PO T N (nd 1 0 (cX T i).t [d],j3)):=by
 refine Spec.ofNI Tryz.func202 rfl Tryz.ntmps202 rfl ?_
 refine am (ai (ay (4,0) aa rfl rfl) (aj (am (bi rfl (ai (br aa _ _ ar (bT T i N hi) tr rfl ae (by simp)) ?_)))))
 refine ja rfl (aj (am (ai (aA _ aa rfl (by exact (rfl:_=some [_,_,_,_]))) ?_)))
 refine ai (ay (6,0) aa rfl rfl) (bO rfl rfl rfl rfl rfl rfl (aj (ap (am (bi rfl (ai (br aa _ _ ar (dD T i N hi) tr rfl ae (by simp)) ?_))))))
 refine aj (bD rfl hn (am (bi rfl (ai (aO (cq T i N hi hT)) ?_))))
 refine aj (aF fun K7 hK7=> ?_)
 refine an (bi rfl (ai (aO (h1)) (az (hK7 _ ?_))))
 clear hK7;try clear K7
 refine aF fun K8 hK8=> ?_
 refine an (dK rfl (bi rfl (aQ rfl (ai (aO (h2)) (ai (aV _ _ aa rfl ag (by (simp <;> rfl)) ah rfl) ?_)))))
 refine ai (aA _ aa rfl (by exact (rfl:_=some [_,_,_,_]))) ?_
 refine bO rfl rfl rfl rfl rfl rfl (az (hK8 _ ?_))
 clear hK8;try clear K8
 refine aF fun K9 hK9=> ?_
 refine aN (σ':=aB 145 [(0,_),(4,_),(6,_)] [((0,9),_),((4,0),_),((6,0),_)] [(0,9)] [(0,9)]) kp ?_
 refine an (bi rfl (ai (aO (h3)) (az (hK9 _ ?_))))
 clear hK9;try clear K9
 exact am (ai (aR _ aa rfl rfl rfl rfl) (bO rfl rfl rfl rfl rfl rfl (aj (aC (aY (.inr rfl) rfl (.cellA aa rfl rfl rfl) (Le.outI [] [] (.agg rfl lz) rfl rfl rfl trivial ob tr rfl))))))
theorem xy (hT:T.length≤100000) (lv i:Nat) (hl:lv≤20) (hi:i < T.length) (ht:(cX T i).t=jn) {c x:Nd} {j1 j2:Nat} (h1:Spec Tryz.prog 226 (be [.ptr (0,9) 0, .v (.int .i64 (lv:Int)), .v (.int .i64 1)] (dF T (bR T i) N)) (PO T N (c,j1))) (h2:Spec Tryz.prog 164 (be [.ptr (0,9) 0, .v (.int .i64 ((lv+1:Nat):Int))] (dF T j1 N)) (PO T N (x,j2))):
  Spec Tryz.prog 202 (be [.ptr (0,9) 0, .v (.int .i64 (lv:Int))] (dF T i N)) (PO T N (nd 3 0 [] [c,x],j2)):=by
 have hnx:=bT T i N hi
 have hn:dX T i=false:=fi (by rw [ht];rfl)
 rw [ht] at hnx
 refine Spec.ofNI Tryz.func202 rfl Tryz.ntmps202 rfl ?_
 refine am (ai (ay (4,0) aa rfl rfl) (aj (am (bi rfl (ai (br aa _ _ ar (hnx) tr rfl ae (by simp)) ?_)))))
 refine ja rfl (aj (am (ai (aA _ aa rfl (by exact (rfl:_=some [_,_,_,_]))) ?_)))
 refine ai (ay (6,0) aa rfl rfl) (bO rfl rfl rfl rfl rfl rfl (aj (ap (am (bi rfl (ai (br aa _ _ ar (dD T i N hi) tr rfl ae (by simp)) ?_))))))
 refine aj (aP rfl hn (aJ (ap (am (ai (aV _ _ aa rfl ag (by (simp <;> rfl)) ah rfl) ?_)))))
 refine dK rfl (ai (aL aa al (cw zB 9 rfl ab jn) rfl rfl) ?_)
 refine ai (dc (r:=false) _ rfl rfl) (aj (aP rfl rfl (aJ (am (bi rfl (ai (aO (cq T i N hi hT)) ?_))))))
 refine aj (ap (ap ?_))
 refine aN (σ':=aB 145 [(0,_),(1,_),(4,_),(5,_),(6,_)] [((0,9),_),((4,0),_),((6,0),_)] [(0,9)] [(0,9)]) kp ?_
 refine an (dK rfl (aj (au (ap (am (ai (aU (r:=false) _ _ Tryz.underlying9 rfl rfl rfl) (ct rfl (aj (aP rfl rfl (an ?_))))))))))
 refine ai (aU (r:=true) _ _ Tryz.underlying9 rfl rfl rfl) (ct rfl (aj (bD rfl rfl (aF fun K13 hK13=> ?_))))
 refine an (bi rfl (aQ rfl (ai (aO (h1)) (ai (ay (7,0) aa rfl rfl) (bO rfl rfl rfl rfl rfl rfl (az (hK13 _ ?_)))))))
 clear hK13;try clear K13
 refine aF fun K14 hK14=> ?_
 refine aN (σ':=aB 145 [(0,_),(1,_),(4,_),(5,_),(7,_)] [((0,9),_),((4,0),_),((7,0),_)] [(0,9)] [(0,9)]) kp ?_
 refine bF 5 [53,54,55,56,57] [(0,9)] ae ae rfl (aM rfl) (rfl:_=[_,_,_,_,_]) (rfl:_=[_,_]) ?_
 refine aq (_,[]) (fun τ=> aR _ aa rfl rfl rfl rfl) ?_
 refine eJ rfl ?_
 refine aq (_,[]) (fun τ=> aE _ (rfl:_=AV.ptr _ _)) ?_
 refine eK rfl ?_
 refine aq (_,[]) (fun τ=> aE _ (rfl:_=AV.v (.int _ _))) ?_
 refine eH rfl ?_
 refine aq (_,[]) (fun τ=> bc _ _ rfl rfl (bq ab)) ?_
 refine eS rfl ?_
 refine aq (_,[((0,9),_)]) (fun τ=> (cp aa ar (h2) ob rfl rfl ae)) ?_
 refine eZ rfl (bh ⟨rfl,?_⟩)
 refine ai (aV _ _ aa rfl ag (by (simp <;> rfl)) ah rfl) ?_
 refine kJ rfl (az (hK14 _ ?_))
 clear hK14;try clear K14
 refine ap (am (dK rfl (ai (aU (r:=true) _ _ Tryz.underlying9 rfl rfl rfl) (aj (bD rfl rfl (am (eV rfl (ai (aA _ aa rfl (by exact (rfl:_=some [_,_,_,_]))) ?_))))))))
 exact bO rfl rfl rfl rfl rfl rfl (aj (aC (aY (.inr rfl) rfl (.cellA aa rfl rfl rfl) (Le.outI [] [] (.agg rfl lz) rfl rfl rfl trivial ob tr rfl))))
theorem ET (hT:T.length≤100000) (lv i:Nat) (hl:lv≤20) (hi:i < T.length) (ht:(cX T i).t=tC) {c x:Nd} {j1 j2:Nat} (h1:Spec Tryz.prog 226 (be [.ptr (0,9) 0, .v (.int .i64 (lv:Int)), .v (.int .i64 1)] (dF T (bR T i) N)) (PO T N (c,j1))) (h2:Spec Tryz.prog 164 (be [.ptr (0,9) 0, .v (.int .i64 ((lv+1:Nat):Int))] (dF T j1 N)) (PO T N (x,j2))) (hj:j2 < T.length) (he:(cX T j2).t≠qG):
  Spec Tryz.prog 202 (be [.ptr (0,9) 0, .v (.int .i64 (lv:Int))] (dF T i N)) (PO T N (nd 2 0 [] [c,x,nd 11 0 [] []],j2)):=by
 have hnx:=bT T i N hi
 have hn:dX T i=false:=fi (by rw [ht];rfl)
 rw [ht] at hnx
 refine Spec.ofNI Tryz.func202 rfl Tryz.ntmps202 rfl ?_
 refine am (ai (ay (4,0) aa rfl rfl) (aj (am (bi rfl (ai (br aa _ _ ar (hnx) tr rfl ae (by simp)) ?_)))))
 refine ja rfl (aj (am (ai (aA _ aa rfl (by exact (rfl:_=some [_,_,_,_]))) ?_)))
 refine ai (ay (6,0) aa rfl rfl) (bO rfl rfl rfl rfl rfl rfl (aj (ap (am (bi rfl (ai (br aa _ _ ar (dD T i N hi) tr rfl ae (by simp)) ?_))))))
 refine aj (aP rfl hn (aJ (ap (am (ai (aV _ _ aa rfl ag (by (simp <;> rfl)) ah rfl) ?_)))))
 refine dK rfl (ai (aL aa al (cw zB 9 rfl ab tC) rfl rfl) ?_)
 refine ai (dc (r:=false) _ rfl rfl) (aj (aP rfl rfl (aJ (am (bi rfl (ai (aO (cq T i N hi hT)) ?_))))))
 refine aj (ap (ap ?_))
 refine aN (σ':=aB 145 [(0,_),(1,_),(4,_),(5,_),(6,_)] [((0,9),_),((4,0),_),((6,0),_)] [(0,9)] [(0,9)]) kp ?_
 refine an (dK rfl (aj (au (ap (am (ai (aU (r:=true) _ _ Tryz.underlying9 rfl rfl rfl) (ct rfl (aj (bD rfl rfl (aJ ?_))))))))))
 refine bD rfl rfl (aF fun K13 hK13=> ?_)
 refine an (bi rfl (aQ rfl (ai (aO (h1)) (ai (ay (7,0) aa rfl rfl) (bO rfl rfl rfl rfl rfl rfl (az (hK13 _ ?_)))))))
 clear hK13;try clear K13
 refine aF fun K14 hK14=> ?_
 refine aN (σ':=aB 145 [(0,_),(1,_),(4,_),(5,_),(7,_)] [((0,9),_),((4,0),_),((7,0),_)] [(0,9)] [(0,9)]) kp ?_
 refine bF 5 [53,54,55,56,57] [(0,9)] ae ae rfl (aM rfl) (rfl:_=[_,_,_,_,_]) (rfl:_=[_,_]) ?_
 refine aq (_,[]) (fun τ=> aR _ aa rfl rfl rfl rfl) ?_
 refine eJ rfl ?_
 refine aq (_,[]) (fun τ=> aE _ (rfl:_=AV.ptr _ _)) ?_
 refine eK rfl ?_
 refine aq (_,[]) (fun τ=> aE _ (rfl:_=AV.v (.int _ _))) ?_
 refine eH rfl ?_
 refine aq (_,[]) (fun τ=> bc _ _ rfl rfl (bq ab)) ?_
 refine eS rfl ?_
 refine aq (_,[((0,9),_)]) (fun τ=> (cp aa ar (h2) ob rfl rfl ae)) ?_
 refine eZ rfl (bh ⟨rfl,?_⟩)
 refine ai (jZ (58,0) _ _ aa rfl ag (by (simp <;> rfl)) ah rfl rfl) ?_
 refine fa rfl (az (hK14 _ ?_))
 clear hK14;try clear K14
 refine ap (am (dK rfl (ai (aU (r:=false) _ _ Tryz.underlying9 rfl rfl rfl) (aj (aP rfl rfl (aJ (am (ai (aA _ aa rfl (by exact (rfl:_=some [_,_,_,_]))) ?_))))))))
 refine ai (ay (9,0) aa rfl rfl) (bO rfl rfl rfl rfl rfl rfl (aj (ap (am (bi rfl (ai (aS _ rfl rfl) (bA rfl rfl rfl (cC rfl rfl rfl (iY rfl rfl rfl (cJ rfl ?_))))))))))
 refine ax rfl rfl (aE _ (rfl:_=AV.ptr _ _)) (ax rfl rfl (br aa _ _ ar (bT T j2 N hj) tr rfl ae (by simp)) ?_)
 refine ax rfl rfl (aU (r:=false) _ _ Tryz.underlying9 rfl rfl (beq_eq_false_iff_ne.2 he)) ?_
 refine ai (aD _ _ _ rfl (rfl:_=AV.v (.bool _))) (aj (aP rfl rfl (aJ (ap ?_))))
 refine aN (σ':=aB 145 [(4,_),(8,_),(9,_)] [((4,0),_),((58,0),_),((9,0),_),((0,9),_)] [(0,9)] [(0,9)]) kp ?_
 refine an (gG rfl (cD (Le.nil0 (9,0) 3 rfl rfl) ?_))
 refine ai (aR _ aa rfl rfl rfl rfl) (ai (aV _ _ aa rfl ag (by (simp <;> rfl)) ah rfl) ?_)
 refine ai (dl (83,0) _ _ aa rfl rfl ag (by (refine .sl ?_;(simp [du];done))) ab rfl (rfl) (rfl)) ?_
 refine ai (aA _ aa rfl (by exact (rfl:_=some [_,_,_,_]))) ?_
 exact bO rfl rfl rfl rfl rfl rfl (aj (aC (aY (.inr rfl) rfl (.cellA aa rfl rfl rfl) (Le.outI [] [(83,0)] (.agg rfl (aI .v (aI .v (aI .v (aI (iu rfl rfl rfl rfl) bu))))) rfl rfl rfl tr ob tr rfl))))
theorem uW (hT:T.length≤100000) (lv i:Nat) (hl:lv≤20) (hi:i < T.length) (ht:(cX T i).t=tC) {c x y:Nd} {j1 j2 j3:Nat} (h1:Spec Tryz.prog 226 (be [.ptr (0,9) 0, .v (.int .i64 (lv:Int)), .v (.int .i64 1)] (dF T (bR T i) N)) (PO T N (c,j1))) (h2:Spec Tryz.prog 164 (be [.ptr (0,9) 0, .v (.int .i64 ((lv+1:Nat):Int))] (dF T j1 N)) (PO T N (x,j2))) (hj:j2 < T.length) (he:(cX T j2).t=qG) (h3:Spec Tryz.prog 164 (be [.ptr (0,9) 0, .v (.int .i64 ((lv+1:Nat):Int))] (dF T (bR T j2) N)) (PO T N (y,j3))):
  Spec Tryz.prog 202 (be [.ptr (0,9) 0, .v (.int .i64 (lv:Int))] (dF T i N)) (PO T N (nd 2 0 [] [c,x,y],j3)):=by
 have hnx:=bT T i N hi
 have hn:dX T i=false:=fi (by rw [ht];rfl)
 rw [ht] at hnx
 refine Spec.ofNI Tryz.func202 rfl Tryz.ntmps202 rfl ?_
 refine am (ai (ay (4,0) aa rfl rfl) (aj (am (bi rfl (ai (br aa _ _ ar (hnx) tr rfl ae (by simp)) ?_)))))
 refine ja rfl (aj (am (ai (aA _ aa rfl (by exact (rfl:_=some [_,_,_,_]))) ?_)))
 refine ai (ay (6,0) aa rfl rfl) (bO rfl rfl rfl rfl rfl rfl (aj (ap (am (bi rfl (ai (br aa _ _ ar (dD T i N hi) tr rfl ae (by simp)) ?_))))))
 refine aj (aP rfl hn (aJ (ap (am (ai (aV _ _ aa rfl ag (by (simp <;> rfl)) ah rfl) ?_)))))
 refine dK rfl (ai (aL aa al (cw zB 9 rfl ab tC) rfl rfl) ?_)
 refine ai (dc (r:=false) _ rfl rfl) (aj (aP rfl rfl (aJ (am (bi rfl (ai (aO (cq T i N hi hT)) ?_))))))
 refine aj (ap (ap ?_))
 refine aN (σ':=aB 145 [(0,_),(1,_),(4,_),(5,_),(6,_)] [((0,9),_),((4,0),_),((6,0),_)] [(0,9)] [(0,9)]) kp ?_
 refine an (dK rfl (aj (au (ap (am (ai (aU (r:=true) _ _ Tryz.underlying9 rfl rfl rfl) (ct rfl (aj (bD rfl rfl (aJ ?_))))))))))
 refine bD rfl rfl (aF fun K13 hK13=> ?_)
 refine an (bi rfl (aQ rfl (ai (aO (h1)) (ai (ay (7,0) aa rfl rfl) (bO rfl rfl rfl rfl rfl rfl (az (hK13 _ ?_)))))))
 clear hK13;try clear K13
 refine aF fun K14 hK14=> ?_
 refine aN (σ':=aB 145 [(0,_),(1,_),(4,_),(5,_),(7,_)] [((0,9),_),((4,0),_),((7,0),_)] [(0,9)] [(0,9)]) kp ?_
 refine bF 5 [53,54,55,56,57] [(0,9)] ae ae rfl (aM rfl) (rfl:_=[_,_,_,_,_]) (rfl:_=[_,_]) ?_
 refine aq (_,[]) (fun τ=> aR _ aa rfl rfl rfl rfl) ?_
 refine eJ rfl ?_
 refine aq (_,[]) (fun τ=> aE _ (rfl:_=AV.ptr _ _)) ?_
 refine eK rfl ?_
 refine aq (_,[]) (fun τ=> aE _ (rfl:_=AV.v (.int _ _))) ?_
 refine eH rfl ?_
 refine aq (_,[]) (fun τ=> bc _ _ rfl rfl (bq ab)) ?_
 refine eS rfl ?_
 refine aq (_,[((0,9),_)]) (fun τ=> (cp aa ar (h2) ob rfl rfl ae)) ?_
 refine eZ rfl (bh ⟨rfl,?_⟩)
 refine ai (jZ (58,0) _ _ aa rfl ag (by (simp <;> rfl)) ah rfl rfl) ?_
 refine fa rfl (az (hK14 _ ?_))
 clear hK14;try clear K14
 refine ap (am (dK rfl (ai (aU (r:=false) _ _ Tryz.underlying9 rfl rfl rfl) (aj (aP rfl rfl (aJ (am (ai (aA _ aa rfl (by exact (rfl:_=some [_,_,_,_]))) ?_))))))))
 refine ai (ay (9,0) aa rfl rfl) (bO rfl rfl rfl rfl rfl rfl (aj (aF fun K18 hK18=> ?_)))
 refine am (bi rfl (ai (aS _ rfl rfl) (bA rfl rfl rfl (cC rfl rfl rfl (iY rfl rfl rfl (cJ rfl (ax rfl rfl (aE _ (rfl:_=AV.ptr _ _)) (ax rfl rfl (br aa _ _ ar (bT T j2 N hj) tr rfl ae (by simp)) ?_))))))))
 refine ax rfl rfl (aU (r:=true) _ _ Tryz.underlying9 rfl rfl (beq_iff_eq.2 he)) ?_
 refine ai (aD _ _ _ rfl (rfl:_=AV.v (.bool _))) (aj (bD rfl rfl (aF fun K20 hK20=> ?_)))
 refine aN (σ':=aB 145 [(0,_),(1,_),(4,_),(8,_),(9,_)] [((0,9),_),((4,0),_),((58,0),_),((9,0),_)] [(0,9)] [(0,9)]) kp ?_
 refine an (bi rfl (ai (aO (cq T j2 N hj hT)) ?_))
 refine az (hK20 _ ?_)
 clear hK20;try clear K20
 refine an (bi rfl (aQ rfl (ai (bc _ _ rfl rfl (bq ab)) ?_)))
 refine ai (aO (h3)) (bO rfl rfl rfl rfl rfl rfl (az (hK18 _ ?_)))
 clear hK18;try clear K18
 refine am (gG rfl (ai (aR _ aa rfl rfl rfl rfl) (ai (aV _ _ aa rfl ag (by (simp <;> rfl)) ah rfl) ?_)))
 refine ai (dl (83,0) _ _ aa rfl rfl ag (by (refine .sl ?_;(simp [du];done))) ab rfl (rfl) (rfl)) ?_
 refine ai (aA _ aa rfl (by exact (rfl:_=some [_,_,_,_]))) ?_
 exact bO rfl rfl rfl rfl rfl rfl (aj (aC (aY (.inr rfl) rfl (.cellA aa rfl rfl rfl) (Le.outI [] [(83,0)] (.agg rfl (aI .v (aI .v (aI .v (aI (iu rfl rfl rfl rfl) bu))))) rfl rfl rfl tr ob tr rfl))))
theorem Aj (hT:T.length≤100000) (lv i:Nat) (hl:lv≤20) (hi:i < T.length) (ht:(cX T i).t=oe) {x y z:Nd} {k j1 j2 j3 j4 j5 j6 j7 j8:Nat} (h1:Spec Tryz.prog 226 (be [.ptr (0,9) 0, .v (.int .i64 (lv:Int)), .v (.int .i64 1)] (dF T (bR T i) N)) (PO T N (x,j1))) (h2:Spec Tryz.prog 162 (be [.ptr (0,9) 0, .v (bt [44])] (dF T j1 N)) (bg (.tup []) (dF T j2 N) [(0,9)] [(0,9)])) (h3:Spec Tryz.prog 200 (be [.ptr (0,9) 0, .v (.int .i64 29)] (dF T j2 N)) (bg (.v (.int .i64 (k:Int))) (dF T j3 N) [(0,9)] [(0,9)])) (h4:Spec Tryz.prog 162 (be [.ptr (0,9) 0, .v (bt [44])] (dF T j3 N)) (bg (.tup []) (dF T j4 N) [(0,9)] [(0,9)])) (h5:Spec Tryz.prog 226 (be [.ptr (0,9) 0, .v (.int .i64 (lv:Int)), .v (.int .i64 1)] (dF T j4 N)) (PO T N (y,j5))) (h6:Spec Tryz.prog 162 (be [.ptr (0,9) 0, .v (bt [44])] (dF T j5 N)) (bg (.tup []) (dF T j6 N) [(0,9)] [(0,9)])) (h7:Spec Tryz.prog 226 (be [.ptr (0,9) 0, .v (.int .i64 (lv:Int)), .v (.int .i64 1)] (dF T j6 N)) (PO T N (z,j7))) (h8:Spec Tryz.prog 162 (be [.ptr (0,9) 0, .v (bt [59])] (dF T j7 N)) (bg (.tup []) (dF T j8 N) [(0,9)] [(0,9)])):
  Spec Tryz.prog 202 (be [.ptr (0,9) 0, .v (.int .i64 (lv:Int))] (dF T i N)) (PO T N (nd 4 k [] [x,y,z],j8)):=by
 have hnx:=bT T i N hi
 have hn:dX T i=false:=fi (by rw [ht];rfl)
 rw [ht] at hnx
 refine Spec.ofNI Tryz.func202 rfl Tryz.ntmps202 rfl ?_
 refine am (ai (ay (4,0) aa rfl rfl) (aj (am (bi rfl (ai (br aa _ _ ar (hnx) tr rfl ae (by simp)) ?_)))))
 refine ja rfl (aj (am (ai (aA _ aa rfl (by exact (rfl:_=some [_,_,_,_]))) ?_)))
 refine ai (ay (6,0) aa rfl rfl) (bO rfl rfl rfl rfl rfl rfl (aj (ap (am (bi rfl (ai (br aa _ _ ar (dD T i N hi) tr rfl ae (by simp)) ?_))))))
 refine aj (aP rfl hn (aJ (ap (am (ai (aV _ _ aa rfl ag (by (simp <;> rfl)) ah rfl) ?_)))))
 refine dK rfl (ai (aL aa al (cw zB 9 rfl ab oe) rfl rfl) ?_)
 refine ai (dc (r:=false) _ rfl rfl) (aj (aP rfl rfl (aJ (am (bi rfl (ai (aO (cq T i N hi hT)) ?_))))))
 refine aj (aF fun K9 hK9=> ?_)
 refine ap ?_
 refine aN (σ':=aB 145 [(0,_),(1,_),(4,_),(5,_),(6,_)] [((0,9),_),((4,0),_),((6,0),_)] [(0,9)] [(0,9)]) kp ?_
 refine an (dK rfl (aj (au (ap (am (ai (aU (r:=false) _ _ Tryz.underlying9 rfl rfl rfl) (ct rfl (aj (aP rfl rfl (an ?_))))))))))
 refine ai (aU (r:=false) _ _ Tryz.underlying9 rfl rfl rfl) (ct rfl (aj (aP rfl rfl (am (ai (aU (r:=true) _ _ Tryz.underlying9 rfl rfl rfl) (ct rfl (aj (bD rfl rfl (aF fun K14 hK14=> ?_)))))))))
 refine an (bi rfl (aQ rfl (ai (aO (h1)) (ai (ay (10,0) aa rfl rfl) (bO rfl rfl rfl rfl rfl rfl (az (hK14 _ ?_)))))))
 clear hK14;try clear K14
 refine aF fun K15 hK15=> ?_
 refine an (bi rfl (ai (aO (h2)) (az (hK15 _ ?_))))
 clear hK15;try clear K15
 refine aF fun K16 hK16=> ?_
 refine an (bi rfl (ai (aO (h3)) (aZ rfl (az (hK16 _ ?_)))))
 clear hK16;try clear K16
 refine aF fun K17 hK17=> ?_
 refine aN (σ':=aB 145 [(0,_),(1,_),(4,_),(6,_),(10,_),(11,_)] [((0,9),_),((4,0),_),((6,0),_),((10,0),_)] [(0,9)] [(0,9)]) kp ?_
 refine an (bi rfl (ai (aO (h4)) (az (hK17 _ ?_))))
 clear hK17;try clear K17
 refine aF fun K18 hK18=> ?_
 refine an (bi rfl (aQ rfl (ai (aO (h5)) (ai (ay (12,0) aa rfl rfl) (bO rfl rfl rfl rfl rfl rfl (az (hK18 _ ?_)))))))
 clear hK18;try clear K18
 refine aF fun K19 hK19=> ?_
 refine an (bi rfl (ai (aO (h6)) (az (hK19 _ ?_))))
 clear hK19;try clear K19
 refine aN (σ':=aB 145 [(0,_),(1,_),(4,_),(6,_),(10,_),(11,_),(12,_)] [((0,9),_),((4,0),_),((6,0),_),((10,0),_),((12,0),_)] [(0,9)] [(0,9)]) kp ?_
 refine bF 7 [101,102,103,104,105,106,107] [(0,9)] ae ae rfl (aM rfl) (rfl:_=[_,_,_,_,_,_,_]) (rfl:_=[_,_]) ?_
 refine aq (_,[]) (fun τ=> aE _ (rfl:_=AV.v (.int _ _))) ?_
 refine eJ rfl ?_
 refine aq (_,[]) (fun τ=> aR _ aa rfl rfl rfl rfl) ?_
 refine eK rfl ?_
 refine aq (_,[]) (fun τ=> aR _ aa rfl rfl rfl rfl) ?_
 refine eH rfl ?_
 refine aq (_,[]) (fun τ=> aE _ (rfl:_=AV.ptr _ _)) ?_
 refine eS rfl ?_
 refine aq (_,[]) (fun τ=> aE _ (rfl:_=AV.v (.int _ _))) ?_
 refine eZ rfl ?_
 refine aq (_,[((0,9),_)]) (fun τ=> (cp aa ar (h7) ob rfl rfl ae)) ?_
 refine fH rfl ?_
 refine aq (_,[]) (fun τ=> aV _ _ aa rfl ag (by (simp;exact ⟨rfl,rfl⟩)) ah rfl) ?_
 refine gF rfl (bh ⟨rfl,?_⟩)
 refine ai (aA _ aa rfl (by exact (rfl:_=some [_,_,_,_]))) ?_
 refine bO rfl rfl rfl rfl rfl rfl (az (hK9 _ ?_))
 clear hK9;try clear K9
 refine aF fun K20 hK20=> ?_
 refine an (bi rfl (ai (aO (h8)) (az (hK20 _ ?_))))
 clear hK20;try clear K20
 exact am (ai (aR _ aa rfl rfl rfl rfl) (bO rfl rfl rfl rfl rfl rfl (aj (aC (aY (.inr rfl) rfl (.cellA aa rfl rfl rfl) (Le.outI [] [] (.agg rfl lz) rfl rfl rfl trivial ob tr rfl))))))
theorem yF (hT:T.length≤100000) (lv i:Nat) (hl:lv≤20) (hi:i < T.length) (ht:(cX T i).t=gv) {k j1 j2:Nat} (h1:Spec Tryz.prog 200 (be [.ptr (0,9) 0, .v (.int .i64 7)] (dF T (bR T i) N)) (bg (.v (.int .i64 (k:Int))) (dF T j1 N) [(0,9)] [(0,9)])) (h2:Spec Tryz.prog 162 (be [.ptr (0,9) 0, .v (bt [59])] (dF T j1 N)) (bg (.tup []) (dF T j2 N) [(0,9)] [(0,9)])):
  Spec Tryz.prog 202 (be [.ptr (0,9) 0, .v (.int .i64 (lv:Int))] (dF T i N)) (PO T N (nd 5 k [] [],j2)):=by
 have hnx:=bT T i N hi
 have hn:dX T i=false:=fi (by rw [ht];rfl)
 rw [ht] at hnx
 refine Spec.ofNI Tryz.func202 rfl Tryz.ntmps202 rfl ?_
 refine am (ai (ay (4,0) aa rfl rfl) (aj (am (bi rfl (ai (br aa _ _ ar (hnx) tr rfl ae (by simp)) ?_)))))
 refine ja rfl (aj (am (ai (aA _ aa rfl (by exact (rfl:_=some [_,_,_,_]))) ?_)))
 refine ai (ay (6,0) aa rfl rfl) (bO rfl rfl rfl rfl rfl rfl (aj (ap (am (bi rfl (ai (br aa _ _ ar (dD T i N hi) tr rfl ae (by simp)) ?_))))))
 refine aj (aP rfl hn (aJ (ap (am (ai (aV _ _ aa rfl ag (by (simp <;> rfl)) ah rfl) ?_)))))
 refine dK rfl (ai (aL aa al (cw zB 9 rfl ab gv) rfl rfl) ?_)
 refine ai (dc (r:=false) _ rfl rfl) (aj (aP rfl rfl (aJ (am (bi rfl (ai (aO (cq T i N hi hT)) ?_))))))
 refine aj (aF fun K9 hK9=> ?_)
 refine ap ?_
 refine aN (σ':=aB 145 [(0,_),(1,_),(4,_),(5,_),(6,_)] [((0,9),_),((4,0),_),((6,0),_)] [(0,9)] [(0,9)]) kp ?_
 refine an (dK rfl (aj (au (ap (am (ai (aU (r:=false) _ _ Tryz.underlying9 rfl rfl rfl) (ct rfl (aj (aP rfl rfl (an ?_))))))))))
 refine ai (aU (r:=false) _ _ Tryz.underlying9 rfl rfl rfl) (ct rfl (aj (aP rfl rfl (am (ai (aU (r:=false) _ _ Tryz.underlying9 rfl rfl rfl) (ct rfl (aj (aP rfl rfl (am (ai (aU (r:=true) _ _ Tryz.underlying9 rfl rfl rfl) ?_))))))))))
 refine ct rfl (aj (bD rfl rfl (an (bi rfl (ai (aO (h1)) (ai (aA _ aa rfl (by exact (rfl:_=some [_,_,_,_]))) ?_))))))
 refine bO rfl rfl rfl rfl rfl rfl (az (hK9 _ ?_))
 clear hK9;try clear K9
 refine aF fun K15 hK15=> ?_
 refine an (bi rfl (ai (aO (h2)) (az (hK15 _ ?_))))
 clear hK15;try clear K15
 refine ap ?_
 refine aN (σ':=aB 145 [(4,_),(6,_)] [((4,0),_),((6,0),_),((0,9),_)] [(0,9)] [(0,9)]) kp ?_
 exact an (ai (aR _ aa rfl rfl rfl rfl) (bO rfl rfl rfl rfl rfl rfl (aj (aC (aY (.inr rfl) rfl (.cellA aa rfl rfl rfl) (Le.outI [] [] (.agg rfl lz) rfl rfl rfl trivial ob tr rfl))))))
theorem wa (hT:T.length≤100000) (lv i:Nat) (hl:lv≤20) (hi:i < T.length) (ht:(cX T i).t=jI) {k j1 j2:Nat} (h1:Spec Tryz.prog 200 (be [.ptr (0,9) 0, .v (.int .i64 7)] (dF T (bR T i) N)) (bg (.v (.int .i64 (k:Int))) (dF T j1 N) [(0,9)] [(0,9)])) (h2:Spec Tryz.prog 162 (be [.ptr (0,9) 0, .v (bt [59])] (dF T j1 N)) (bg (.tup []) (dF T j2 N) [(0,9)] [(0,9)])):
  Spec Tryz.prog 202 (be [.ptr (0,9) 0, .v (.int .i64 (lv:Int))] (dF T i N)) (PO T N (nd 6 k [] [],j2)):=by
 have hnx:=bT T i N hi
 have hn:dX T i=false:=fi (by rw [ht];rfl)
 rw [ht] at hnx
 refine Spec.ofNI Tryz.func202 rfl Tryz.ntmps202 rfl ?_
 refine am (ai (ay (4,0) aa rfl rfl) (aj (am (bi rfl (ai (br aa _ _ ar (hnx) tr rfl ae (by simp)) ?_)))))
 refine ja rfl (aj (am (ai (aA _ aa rfl (by exact (rfl:_=some [_,_,_,_]))) ?_)))
 refine ai (ay (6,0) aa rfl rfl) (bO rfl rfl rfl rfl rfl rfl (aj (ap (am (bi rfl (ai (br aa _ _ ar (dD T i N hi) tr rfl ae (by simp)) ?_))))))
 refine aj (aP rfl hn (aJ (ap (am (ai (aV _ _ aa rfl ag (by (simp <;> rfl)) ah rfl) ?_)))))
 refine dK rfl (ai (aL aa al (cw zB 9 rfl ab jI) rfl rfl) ?_)
 refine ai (dc (r:=false) _ rfl rfl) (aj (aP rfl rfl (aJ (am (bi rfl (ai (aO (cq T i N hi hT)) ?_))))))
 refine aj (aF fun K9 hK9=> ?_)
 refine ap ?_
 refine aN (σ':=aB 145 [(0,_),(1,_),(4,_),(5,_),(6,_)] [((0,9),_),((4,0),_),((6,0),_)] [(0,9)] [(0,9)]) kp ?_
 refine an (dK rfl (aj (au (ap (am (ai (aU (r:=false) _ _ Tryz.underlying9 rfl rfl rfl) (ct rfl (aj (aP rfl rfl (an ?_))))))))))
 refine ai (aU (r:=false) _ _ Tryz.underlying9 rfl rfl rfl) (ct rfl (aj (aP rfl rfl (am (ai (aU (r:=false) _ _ Tryz.underlying9 rfl rfl rfl) (ct rfl (aj (aP rfl rfl (am (ai (aU (r:=false) _ _ Tryz.underlying9 rfl rfl rfl) ?_))))))))))
 refine ct rfl (aj (aP rfl rfl (am (ai (aU (r:=true) _ _ Tryz.underlying9 rfl rfl rfl) (ct rfl (aj (bD rfl rfl (an (bi rfl (ai (aO (h1)) ?_))))))))))
 refine ai (aA _ aa rfl (by exact (rfl:_=some [_,_,_,_]))) ?_
 refine bO rfl rfl rfl rfl rfl rfl (az (hK9 _ ?_))
 clear hK9;try clear K9
 refine aF fun K16 hK16=> ?_
 refine aN (σ':=aB 145 [(0,_),(4,_),(6,_)] [((0,9),_),((4,0),_),((6,0),_)] [(0,9)] [(0,9)]) kp ?_
 refine an (bi rfl (ai (aO (h2)) (az (hK16 _ ?_))))
 clear hK16;try clear K16
 exact am (ai (aR _ aa rfl rfl rfl rfl) (bO rfl rfl rfl rfl rfl rfl (aj (aC (aY (.inr rfl) rfl (.cellA aa rfl rfl rfl) (Le.outI [] [] (.agg rfl lz) rfl rfl rfl trivial ob tr rfl))))))
theorem xR (hT:T.length≤100000) (lv i:Nat) (hl:lv≤20) (hi:i < T.length) (ht:(cX T i).t=lP) {x y:Nd} {j1 j2 j3 j4:Nat} (h1:Spec Tryz.prog 226 (be [.ptr (0,9) 0, .v (.int .i64 (lv:Int)), .v (.int .i64 1)] (dF T (bR T i) N)) (PO T N (x,j1))) (h2:Spec Tryz.prog 162 (be [.ptr (0,9) 0, .v (bt [44])] (dF T j1 N)) (bg (.tup []) (dF T j2 N) [(0,9)] [(0,9)])) (h3:Spec Tryz.prog 226 (be [.ptr (0,9) 0, .v (.int .i64 (lv:Int)), .v (.int .i64 1)] (dF T j2 N)) (PO T N (y,j3))) (h4:Spec Tryz.prog 162 (be [.ptr (0,9) 0, .v (bt [59])] (dF T j3 N)) (bg (.tup []) (dF T j4 N) [(0,9)] [(0,9)])):
  Spec Tryz.prog 202 (be [.ptr (0,9) 0, .v (.int .i64 (lv:Int))] (dF T i N)) (PO T N (nd 8 0 [] [x,y],j4)):=by
 have hnx:=bT T i N hi
 have hn:dX T i=false:=fi (by rw [ht];rfl)
 rw [ht] at hnx
 refine Spec.ofNI Tryz.func202 rfl Tryz.ntmps202 rfl ?_
 refine am (ai (ay (4,0) aa rfl rfl) (aj (am (bi rfl (ai (br aa _ _ ar (hnx) tr rfl ae (by simp)) ?_)))))
 refine ja rfl (aj (am (ai (aA _ aa rfl (by exact (rfl:_=some [_,_,_,_]))) ?_)))
 refine ai (ay (6,0) aa rfl rfl) (bO rfl rfl rfl rfl rfl rfl (aj (ap (am (bi rfl (ai (br aa _ _ ar (dD T i N hi) tr rfl ae (by simp)) ?_))))))
 refine aj (aP rfl hn (aJ (ap (am (ai (aV _ _ aa rfl ag (by (simp <;> rfl)) ah rfl) ?_)))))
 refine dK rfl (ai (aL aa al (cw zB 9 rfl ab lP) rfl rfl) ?_)
 refine ai (dc (r:=false) _ rfl rfl) (aj (aP rfl rfl (aJ (am (bi rfl (ai (aO (cq T i N hi hT)) ?_))))))
 refine aj (aF fun K9 hK9=> ?_)
 refine ap ?_
 refine aN (σ':=aB 145 [(0,_),(1,_),(4,_),(5,_),(6,_)] [((0,9),_),((4,0),_),((6,0),_)] [(0,9)] [(0,9)]) kp ?_
 refine an (dK rfl (aj (au (ap (am (ai (aU (r:=false) _ _ Tryz.underlying9 rfl rfl rfl) (ct rfl (aj (aP rfl rfl (an ?_))))))))))
 refine ai (aU (r:=false) _ _ Tryz.underlying9 rfl rfl rfl) (ct rfl (aj (aP rfl rfl (am (ai (aU (r:=false) _ _ Tryz.underlying9 rfl rfl rfl) (ct rfl (aj (aP rfl rfl (am (ai (aU (r:=false) _ _ Tryz.underlying9 rfl rfl rfl) ?_))))))))))
 refine ct rfl (aj (aP rfl rfl (am (ai (aU (r:=false) _ _ Tryz.underlying9 rfl rfl rfl) (ct rfl (aj (aP rfl rfl (am (ai (aU (r:=true) _ _ Tryz.underlying9 rfl rfl rfl) (ct rfl ?_))))))))))
 refine aj (bD rfl rfl (aF fun K17 hK17=> ?_))
 refine an (bi rfl (aQ rfl (ai (aO (h1)) (ai (ay (13,0) aa rfl rfl) (bO rfl rfl rfl rfl rfl rfl (az (hK17 _ ?_)))))))
 clear hK17;try clear K17
 refine aF fun K18 hK18=> ?_
 refine aN (σ':=aB 145 [(0,_),(1,_),(4,_),(6,_),(13,_)] [((0,9),_),((4,0),_),((6,0),_),((13,0),_)] [(0,9)] [(0,9)]) kp ?_
 refine an (bi rfl (ai (aO (h2)) (az (hK18 _ ?_))))
 clear hK18;try clear K18
 refine bF 4 [126,127,128,129] [(0,9)] ae ae rfl (aM rfl) (rfl:_=[_,_,_,_]) (rfl:_=[_,_,_]) ?_
 refine aq (_,[]) (fun τ=> aR _ aa rfl rfl rfl rfl) ?_
 refine eJ rfl ?_
 refine aq (_,[]) (fun τ=> aE _ (rfl:_=AV.ptr _ _)) ?_
 refine eK rfl ?_
 refine aq (_,[]) (fun τ=> aE _ (rfl:_=AV.v (.int _ _))) ?_
 refine eH rfl ?_
 refine aq (_,[((0,9),_)]) (fun τ=> (cp aa ar (h3) ob rfl rfl ae)) ?_
 refine eS rfl (bh ⟨rfl,?_⟩)
 refine ai (aV _ _ aa rfl ag (by (simp <;> rfl)) ah rfl) ?_
 refine ai (aA _ aa rfl (by exact (rfl:_=some [_,_,_,_]))) ?_
 refine bO rfl rfl rfl rfl rfl rfl (az (hK9 _ ?_))
 clear hK9;try clear K9
 refine aF fun K19 hK19=> ?_
 refine an (bi rfl (ai (aO (h4)) (az (hK19 _ ?_))))
 clear hK19;try clear K19
 exact am (ai (aR _ aa rfl rfl rfl rfl) (bO rfl rfl rfl rfl rfl rfl (aj (aC (aY (.inr rfl) rfl (.cellA aa rfl rfl rfl) (Le.outI [] [] (.agg rfl lz) rfl rfl rfl trivial ob tr rfl))))))
theorem Bw (hT:T.length≤100000) (lv i:Nat) (hl:lv≤20) (hi:i < T.length) (ht:(cX T i).t=nK) {x:Nd} {j1 j2:Nat} (h1:Spec Tryz.prog 226 (be [.ptr (0,9) 0, .v (.int .i64 (lv:Int)), .v (.int .i64 1)] (dF T (bR T i) N)) (PO T N (x,j1))) (h2:Spec Tryz.prog 162 (be [.ptr (0,9) 0, .v (bt [59])] (dF T j1 N)) (bg (.tup []) (dF T j2 N) [(0,9)] [(0,9)])):
  Spec Tryz.prog 202 (be [.ptr (0,9) 0, .v (.int .i64 (lv:Int))] (dF T i N)) (PO T N (nd 9 0 [] [x],j2)):=by
 have hnx:=bT T i N hi
 have hn:dX T i=false:=fi (by rw [ht];rfl)
 rw [ht] at hnx
 refine Spec.ofNI Tryz.func202 rfl Tryz.ntmps202 rfl ?_
 refine am (ai (ay (4,0) aa rfl rfl) (aj (am (bi rfl (ai (br aa _ _ ar (hnx) tr rfl ae (by simp)) ?_)))))
 refine ja rfl (aj (am (ai (aA _ aa rfl (by exact (rfl:_=some [_,_,_,_]))) ?_)))
 refine ai (ay (6,0) aa rfl rfl) (bO rfl rfl rfl rfl rfl rfl (aj (ap (am (bi rfl (ai (br aa _ _ ar (dD T i N hi) tr rfl ae (by simp)) ?_))))))
 refine aj (aP rfl hn (aJ (ap (am (ai (aV _ _ aa rfl ag (by (simp <;> rfl)) ah rfl) ?_)))))
 refine dK rfl (ai (aL aa al (cw zB 9 rfl ab nK) rfl rfl) ?_)
 refine ai (dc (r:=false) _ rfl rfl) (aj (aP rfl rfl (aJ (am (bi rfl (ai (aO (cq T i N hi hT)) ?_))))))
 refine aj (aF fun K9 hK9=> ?_)
 refine ap ?_
 refine aN (σ':=aB 145 [(0,_),(1,_),(4,_),(5,_),(6,_)] [((0,9),_),((4,0),_),((6,0),_)] [(0,9)] [(0,9)]) kp ?_
 refine an (dK rfl (aj (au (ap (am (ai (aU (r:=false) _ _ Tryz.underlying9 rfl rfl rfl) (ct rfl (aj (aP rfl rfl (an ?_))))))))))
 refine ai (aU (r:=false) _ _ Tryz.underlying9 rfl rfl rfl) (ct rfl (aj (aP rfl rfl (am (ai (aU (r:=false) _ _ Tryz.underlying9 rfl rfl rfl) (ct rfl (aj (aP rfl rfl (am (ai (aU (r:=false) _ _ Tryz.underlying9 rfl rfl rfl) ?_))))))))))
 refine ct rfl (aj (aP rfl rfl (am (ai (aU (r:=false) _ _ Tryz.underlying9 rfl rfl rfl) (ct rfl (aj (aP rfl rfl (am (ai (aU (r:=false) _ _ Tryz.underlying9 rfl rfl rfl) (ct rfl ?_))))))))))
 refine aj (aP rfl rfl (am (ai (aU (r:=true) _ _ Tryz.underlying9 rfl rfl rfl) (ct rfl (aj (bD rfl rfl ?_))))))
 refine aN (σ':=aB 145 [(0,_),(1,_),(4,_),(6,_)] [((0,9),_),((4,0),_),((6,0),_)] [(0,9)] [(0,9)]) kp ?_
 refine an (bi rfl (aQ rfl (ai (aO (h1)) (ai (aV _ _ aa rfl ag (by (simp <;> rfl)) ah rfl) ?_))))
 refine ai (aA _ aa rfl (by exact (rfl:_=some [_,_,_,_]))) ?_
 refine bO rfl rfl rfl rfl rfl rfl (az (hK9 _ ?_))
 clear hK9;try clear K9
 refine aF fun K18 hK18=> ?_
 refine an (bi rfl (ai (aO (h2)) (az (hK18 _ ?_))))
 clear hK18;try clear K18
 exact am (ai (aR _ aa rfl rfl rfl rfl) (bO rfl rfl rfl rfl rfl rfl (aj (aC (aY (.inr rfl) rfl (.cellA aa rfl rfl rfl) (Le.outI [] [] (.agg rfl lz) rfl rfl rfl trivial ob tr rfl))))))
theorem Ar (hT:T.length≤100000) (lv i:Nat) (hl:lv≤20) (hi:i < T.length) (ht:(cX T i).t=ol) {j1:Nat} (h1:Spec Tryz.prog 162 (be [.ptr (0,9) 0, .v (bt [59])] (dF T (bR T i) N)) (bg (.tup []) (dF T j1 N) [(0,9)] [(0,9)])):
  Spec Tryz.prog 202 (be [.ptr (0,9) 0, .v (.int .i64 (lv:Int))] (dF T i N)) (PO T N (nd 7 0 [] [],j1)):=by
 have hnx:=bT T i N hi
 have hn:dX T i=false:=fi (by rw [ht];rfl)
 rw [ht] at hnx
 refine Spec.ofNI Tryz.func202 rfl Tryz.ntmps202 rfl ?_
 refine am (ai (ay (4,0) aa rfl rfl) (aj (am (bi rfl (ai (br aa _ _ ar (hnx) tr rfl ae (by simp)) ?_)))))
 refine ja rfl (aj (am (ai (aA _ aa rfl (by exact (rfl:_=some [_,_,_,_]))) ?_)))
 refine ai (ay (6,0) aa rfl rfl) (bO rfl rfl rfl rfl rfl rfl (aj (ap (am (bi rfl (ai (br aa _ _ ar (dD T i N hi) tr rfl ae (by simp)) ?_))))))
 refine aj (aP rfl hn (aJ (ap (am (ai (aV _ _ aa rfl ag (by (simp <;> rfl)) ah rfl) ?_)))))
 refine dK rfl (ai (aL aa al (cw zB 9 rfl ab ol) rfl rfl) ?_)
 refine ai (dc (r:=false) _ rfl rfl) (aj (aP rfl rfl (aJ (am (bi rfl (ai (aO (cq T i N hi hT)) ?_))))))
 refine aj (ap (ap ?_))
 refine aN (σ':=aB 145 [(0,_),(1,_),(4,_),(5,_),(6,_)] [((0,9),_),((4,0),_),((6,0),_)] [(0,9)] [(0,9)]) kp ?_
 refine an (dK rfl (aj (au (ap (am (ai (aU (r:=false) _ _ Tryz.underlying9 rfl rfl rfl) (ct rfl (aj (aP rfl rfl (an ?_))))))))))
 refine ai (aU (r:=false) _ _ Tryz.underlying9 rfl rfl rfl) (ct rfl (aj (aP rfl rfl (am (ai (aU (r:=false) _ _ Tryz.underlying9 rfl rfl rfl) (ct rfl (aj (aP rfl rfl (am (ai (aU (r:=false) _ _ Tryz.underlying9 rfl rfl rfl) ?_))))))))))
 refine ct rfl (aj (aP rfl rfl (am (ai (aU (r:=false) _ _ Tryz.underlying9 rfl rfl rfl) (ct rfl (aj (aP rfl rfl (am (ai (aU (r:=false) _ _ Tryz.underlying9 rfl rfl rfl) (ct rfl ?_))))))))))
 refine aj (aP rfl rfl (am (ai (aU (r:=false) _ _ Tryz.underlying9 rfl rfl rfl) (ct rfl (aj (aP rfl rfl (ap ?_)))))))
 refine aN (σ':=aB 145 [(0,_),(4,_),(6,_),(45,_)] [((0,9),_),((4,0),_),((6,0),_)] [(0,9)] [(0,9)]) kp ?_
 refine an (ai (aU (r:=true) _ _ Tryz.underlying9 rfl rfl rfl) (ct rfl (aj (bD rfl rfl (an (bA rfl rfl rfl (bO rfl rfl rfl rfl rfl rfl (fY (aF fun K19 hK19=> ?_)))))))))
 refine an (bi rfl (ai (aO (h1)) (az (hK19 _ ?_))))
 clear hK19;try clear K19
 exact am (ai (aR _ aa rfl rfl rfl rfl) (bO rfl rfl rfl rfl rfl rfl (aj (aC (aY (.inr rfl) rfl (.cellA aa rfl rfl rfl) (Le.outI [] [] (.agg rfl lz) rfl rfl rfl trivial ob tr rfl))))))
theorem BD (hT:T.length≤100000) (lv i:Nat) (hl:lv≤20) (hi:i < T.length) (ht:(cX T i).t=oA) {j1:Nat} (h1:Spec Tryz.prog 162 (be [.ptr (0,9) 0, .v (bt [59])] (dF T (bR T i) N)) (bg (.tup []) (dF T j1 N) [(0,9)] [(0,9)])):
  Spec Tryz.prog 202 (be [.ptr (0,9) 0, .v (.int .i64 (lv:Int))] (dF T i N)) (PO T N (nd 10 0 [] [],j1)):=by
 have hnx:=bT T i N hi
 have hn:dX T i=false:=fi (by rw [ht];rfl)
 rw [ht] at hnx
 refine Spec.ofNI Tryz.func202 rfl Tryz.ntmps202 rfl ?_
 refine am (ai (ay (4,0) aa rfl rfl) (aj (am (bi rfl (ai (br aa _ _ ar (hnx) tr rfl ae (by simp)) ?_)))))
 refine ja rfl (aj (am (ai (aA _ aa rfl (by exact (rfl:_=some [_,_,_,_]))) ?_)))
 refine ai (ay (6,0) aa rfl rfl) (bO rfl rfl rfl rfl rfl rfl (aj (ap (am (bi rfl (ai (br aa _ _ ar (dD T i N hi) tr rfl ae (by simp)) ?_))))))
 refine aj (aP rfl hn (aJ (ap (am (ai (aV _ _ aa rfl ag (by (simp <;> rfl)) ah rfl) ?_)))))
 refine dK rfl (ai (aL aa al (cw zB 9 rfl ab oA) rfl rfl) ?_)
 refine ai (dc (r:=false) _ rfl rfl) (aj (aP rfl rfl (aJ (am (bi rfl (ai (aO (cq T i N hi hT)) ?_))))))
 refine aj (ap (ap ?_))
 refine aN (σ':=aB 145 [(0,_),(1,_),(4,_),(5,_),(6,_)] [((0,9),_),((4,0),_),((6,0),_)] [(0,9)] [(0,9)]) kp ?_
 refine an (dK rfl (aj (au (ap (am (ai (aU (r:=false) _ _ Tryz.underlying9 rfl rfl rfl) (ct rfl (aj (aP rfl rfl (an ?_))))))))))
 refine ai (aU (r:=false) _ _ Tryz.underlying9 rfl rfl rfl) (ct rfl (aj (aP rfl rfl (am (ai (aU (r:=false) _ _ Tryz.underlying9 rfl rfl rfl) (ct rfl (aj (aP rfl rfl (am (ai (aU (r:=false) _ _ Tryz.underlying9 rfl rfl rfl) ?_))))))))))
 refine ct rfl (aj (aP rfl rfl (am (ai (aU (r:=false) _ _ Tryz.underlying9 rfl rfl rfl) (ct rfl (aj (aP rfl rfl (am (ai (aU (r:=false) _ _ Tryz.underlying9 rfl rfl rfl) (ct rfl ?_))))))))))
 refine aj (aP rfl rfl (am (ai (aU (r:=false) _ _ Tryz.underlying9 rfl rfl rfl) (ct rfl (aj (aP rfl rfl (ap ?_)))))))
 refine aN (σ':=aB 145 [(0,_),(4,_),(6,_),(45,_)] [((0,9),_),((4,0),_),((6,0),_)] [(0,9)] [(0,9)]) kp ?_
 refine an (ai (aU (r:=false) _ _ Tryz.underlying9 rfl rfl rfl) (ct rfl (aj (aP rfl rfl (an (bA rfl rfl rfl (bO rfl rfl rfl rfl rfl rfl (fY (aF fun K19 hK19=> ?_)))))))))
 refine an (bi rfl (ai (aO (h1)) (az (hK19 _ ?_))))
 clear hK19;try clear K19
 exact am (ai (aR _ aa rfl rfl rfl rfl) (bO rfl rfl rfl rfl rfl rfl (aj (aC (aY (.inr rfl) rfl (.cellA aa rfl rfl rfl) (Le.outI [] [] (.agg rfl lz) rfl rfl rfl trivial ob tr rfl))))))
end

def kB (l:List Nd):List PV:=l.flatMap Nd.row
theorem bJ (l:List Nd):(kB l).length=l.length*4:=ml Nd.row 4 (fun _=> rfl) l
theorem rD (l:List Nd) (d:Nd):kB l++d.row=kB (l++[d]):=lE Nd.row l d
theorem oE {T:List Tk} {g lv i:Nat} {r:List Nd×Nat} (h:ln T g lv i=some r): ∃ f,g=f+1∧((cX T i).t=[125]∧r=([],i)∨(cX T i).t≠[125]∧ ∃ d j l k,vo T f lv i=some (d,j)∧ln T f lv j=some (l,k)∧r=(d::l,k)):=by
 cases g with
 | zero=> simp [ln] at h
 | succ f=>
  refine ⟨f,rfl,?_⟩
  unfold ln at h
  split at h
  ·rename_i ht;exact .inl ⟨ht,(Option.some.inj h).symm⟩
  ·rename_i ht
   simp only [Option.bind_eq_bind,Option.bind_eq_some_iff,Option.pure_def] at h
   obtain ⟨⟨d,j⟩,hd,⟨l,k⟩,hl,h⟩:=h
   exact .inr ⟨ht,d,j,l,k,hd,hl,(Option.some.inj h).symm⟩
section
variable {T:List Tk} {N:List Tx}
theorem yK (hT:T.length≤100000) (f:Nat) (hf:f≤2000000) (ih: ∀ g,g≤f→PS T N g) (lv i:Nat) (r:Nd×Nat) (hl:lv≤21) (hi:i < T.length) (h:oO T (f+1) lv i=some r):
  r.2 < T.length∧Spec Tryz.prog 164 (be [.ptr (0,9) 0, .v (.int .i64 (lv:Int))] (dF T i N)) (PO T N r):=by
 unfold oO at h
 simp only [Option.bind_eq_bind,Option.bind_eq_some_iff,Option.pure_def,Option.some.injEq] at h
 obtain ⟨j,hj,⟨L,j2⟩,hL,j3,hj3,rfl⟩:=h
 have ho:=ji hj
 have hjl:=ii ho.2 hi
 have hl':=ho.1
 have hopen:=my T i j N [123] lv hi hT hj
 simp only at hj3 ⊢
 have hend: ∀ (g i:Nat) (r:List Nd×Nat),g≤f→i < T.length→ln T g lv i=some r→r.2 < T.length:=by
  intro g
  induction g with
  | zero=> intro i r _ _ h;simp [ln] at h
  | succ g ihg=>
   intro i r hg hi h
   obtain ⟨g',hg',h | ⟨_,d,j,l,k,hd,hm,h⟩⟩:=oE h
   ·rw [h.2];exact hi
   ·obtain rfl:g=g':=by omega
    rw [h]
    exact ihg j (l,k) ab ((ih g ab).stm _ _ _ hl' hi hd).1 hm
 have hj2:=hend f j _ (Nat.le_refl _) hjl hL
 refine ⟨ii hj3 hj2,?_⟩
 refine Spec.ofNI Tryz.func164 rfl Tryz.ntmps164 rfl ?_
 refine am (ai (ay (4,0) aa rfl rfl) (aj (am (ai (aA _ aa rfl (by exact (rfl:_=some [_,_,_,_]))) ?_))))
 refine ai (ay (5,0) aa rfl rfl) (bO rfl rfl rfl rfl rfl rfl (aj (ap ?_)))
 refine aN (Le.nilB (5,0) 3 (60,0) 71 4 rfl rfl rfl) ?_
 refine an (bi rfl (aQ rfl (ai (aO (hopen)) (aj (aF fun K4 hK4=> ?_)))))
 refine au ?_
 refine bw (α:=Nat×List Nd×Nat) (fun z=> z.1≤f∧z.2.1.length+z.1=f∧z.2.2 < T.length∧ ∃ l,ln T z.1 lv z.2.2=some (l,j2)∧L=z.2.1++l) 31 [(0,_),(1,_),(4,_),(5,_)] [((4,0),_)] (fun z=> []) (fun z=> [((0,9), .box 222 [.sl T.length (pY T), .v (.int .i64 (z.2.2:Int)), .v (.int .i64 0), .v (.int .i64 0), .sl N.length (dT N)]),((5,0), .box 71 [.v (.int .i64 11), .v (.int .i64 0), .v (bt []), .ref (60,0) 0 z.2.1.length]),((60,0), .row 71 4 (kB z.2.1))]) [(0,9)] [(0,9)] (fun z=> z.1) (f,[],j) ?_ (by
  refine Le.mkJ [] [] rfl ?_ ?_ trivial tr ?_
  ·exact ⟨(iP rfl),(iV rfl),(iP rfl),(iP rfl),trivial⟩
  ·exact ⟨(cF rfl rfl rfl),(fS rfl rfl rfl rfl lz),(fS rfl rfl rfl rfl (nC (nC (aI (by repeat' (exact Lv.v)) lz)))),(gM rfl rfl rfl ag),trivial⟩
  ·kernel_rfl) ?_
 ·exact ⟨Nat.le_refl _,Nat.zero_add _,hjl,L,hL,rfl⟩
 intro z hz
 obtain ⟨z1,z2,z3⟩:=z
 obtain ⟨hz1,hz2,hz3,l,hz4,hz5⟩:=hz
 obtain ⟨g,rfl,hm⟩:=oE hz4
 simp only at hz1 hz2 hz3 hz5 hm ⊢
 refine aF fun K5 hK5=> ?_
 refine am (bi rfl (ai (aS _ rfl rfl) (bA rfl rfl rfl (cC rfl rfl rfl (iY rfl rfl rfl (cJ rfl (ax rfl rfl (aE _ (rfl:_=AV.ptr _ _)) (ax rfl rfl (br aa _ _ ar (bT T z3 N hz3) tr rfl ae (by simp)) ?_))))))))
 refine ax rfl rfl (ql _ _ Tryz.underlying9 rfl rfl rfl) (ai (aD _ _ _ rfl (rfl:_=AV.v (.bool _))) (aj (aT rfl (fun hc19=> ?_) (fun hc19=> ?_))))
 ·skip
  obtain ⟨_,d,jd,l',k',hd,hm',hr⟩:=hm.resolve_left fun x=> hc19 x.1
  obtain ⟨rfl,rfl⟩:=Prod.mk.inj hr
  obtain ⟨hda,hdb⟩:=(ih g ab).stm _ _ _ hl' hz3 hd
  have hlen:(z2++[d]).length=z2.length+1:=by simp
  refine bv (hK5 _ ?_)
  clear hK5;try clear K5
  refine au ?_
  refine aN (σ':=aB 31 [(0,_),(1,_),(4,_),(5,_)] [((4,0),_),((0,9),_),((5,0),_),((60,0),_)] [(0,9)] [(0,9)]) kp ?_
  refine bF 6 [20,21,22,23,24,25] [(0,9)] ae ae rfl (aM rfl) (rfl:_=[_,_,_,_,_,_]) (rfl:_=[_,_,_]) ?_
  refine aq (_,[]) (fun τ=> aH _ aa rfl rfl rfl) ?_
  refine eJ rfl ?_
  refine aq (_,[]) (fun τ=> aK _ aa rfl rfl (rfl:_=some (AV.ref _ _ _))) ?_
  refine eK rfl ?_
  refine aq (_,[]) (fun τ=> aE _ (rfl:_=AV.ptr _ _)) ?_
  refine eH rfl ?_
  refine aq (_,[]) (fun τ=> aE _ (rfl:_=AV.v (.int _ _))) ?_
  refine eS rfl ?_
  refine aq (_,[((0,9),_)]) (fun τ=> (cp aa ar (hdb) ob rfl rfl ae)) ?_
  refine eZ rfl ?_
  refine aq (_,[]) (fun τ=> aV _ _ aa rfl ag (by (simp <;> rfl)) ah rfl) ?_
  refine fH rfl (bh ⟨rfl,?_⟩)
  refine ai (dl (26,0) _ _ aa rfl rfl (bJ _).symm (.sl rfl) ab rfl (rD _ d) hlen.symm) ?_
  refine bA rfl rfl rfl (bO rfl rfl rfl rfl rfl rfl (az (⟨(g,z2++[d],jd),?_,?_,?_⟩)))
  ·exact ⟨by simp only;omega,by simp only;omega,hda,l',hm',by rw [hz5];simp⟩
  ·skip
   refine Le.mkJ [((60,0),(26,0))] [] rfl ?_ ?_ trivial tr ?_
   ·exact ⟨(dW (id:=(0,9)) rfl),(by repeat' (exact Lv.v)),(dW (id:=(4,0)) rfl),(dW (id:=(5,0)) rfl),trivial⟩
   ·exact ⟨(fS rfl rfl rfl rfl (by repeat' (first | exact Lv.v | exact bu | refine aI ?_ ?_))),(fS rfl rfl rfl rfl lz),(fS rfl rfl rfl rfl (nC (nC (aI (by repeat' (exact Lv.v)) lz)))),(gM rfl rfl rfl ag),trivial⟩
   ·kernel_rfl
  ·simp only;omega
 ·skip
  obtain ⟨_,hr⟩:=hm.resolve_right fun x=> x.1 hc19
  obtain ⟨rfl,rfl⟩:=Prod.mk.inj hr
  rw [List.append_nil] at hz5
  subst hz5
  have hexp:=eY T j2 j3 N [125] hj2 hT hj3
  refine bK (id (hK4 _ ?_))
  clear hK4;try clear K4
  exact am (bi rfl (ai (aO (hexp)) (aj (am (ai (aR _ aa rfl rfl rfl rfl) (bO rfl rfl rfl rfl rfl rfl (aj (aC (aY (.inr rfl) rfl (.cellA aa rfl rfl rfl) (Le.outI [] [(60,0)] (.agg rfl (aI .v (aI .v (aI .v (aI (iu rfl rfl (bJ _).symm rfl) bu))))) rfl rfl rfl tr ob tr rfl))))))))))
theorem pW {T:List Tk} {most i:Nat} {r:Nat×Nat} (h:mT T most i=some r) (hi:i < T.length):r.2 < T.length:=by
 unfold mT at h
 split at h
 ·rw [← Option.some.inj h];exact dM hi
 ·cases h
theorem yT (hT:T.length≤100000) (f:Nat) (ih:PS T N f) (lv i:Nat) (r:Nd×Nat) (hl:lv≤20) (hi:i < T.length) (h:vo T (f+1) lv i=some r):
  r.2 < T.length∧Spec Tryz.prog 202 (be [.ptr (0,9) 0, .v (.int .i64 (lv:Int))] (dF T i N)) (PO T N r):=by
 have htl:=dM hi
 have hx:=fun {i:Nat} {r:Nd×Nat} (hi:i < T.length) (h:fL T f lv 1 i=some r)=> vO (N:=N) hT hl hi h
 have hb:=fun {i:Nat} {r:Nd×Nat} (hi:i < T.length) (h:oO T f (lv+1) i=some r)=> ih.blk (lv+1) i r ab hi h
 have he:=fun {i j:Nat} {s:Tx} (hi:i < T.length) (h:fQ T s i=some j)=> And.intro (ii h hi) (eY T i j N s hi hT h)
 have hn:=fun {i most:Nat} {r:Nat×Nat} (hm:most≤1000) (hi:i < T.length) (h:mT T most i=some r)=> And.intro (pW h hi) (jS T i N most hi hT hm r h)
 unfold vo at h
 simp only at h
 by_cases h0:dX T i=true
 ·rw [if_pos h0] at h
  simp only [Option.bind_eq_bind,Option.bind_eq_some_iff,Option.pure_def,Option.some.injEq] at h
  obtain ⟨j1,e1,⟨d,j2⟩,e2,j3,e3,rfl⟩:=h
  obtain ⟨a1,b1⟩:=he htl e1
  obtain ⟨a2,b2⟩:=hx a1 e2
  obtain ⟨a3,b3⟩:=he a2 e3
  exact ⟨a3,vR hT lv i hl hi h0 b1 b2 b3⟩
 rw [if_neg h0] at h
 by_cases h1:(cX T i).t=tC∨(cX T i).t=jn
 ·rw [if_pos h1] at h
  simp only [Option.bind_eq_bind,Option.bind_eq_some_iff,Option.pure_def] at h
  obtain ⟨⟨c,j1⟩,e1,⟨x,j2⟩,e2,h⟩:=h
  obtain ⟨a1,b1⟩:=hx htl e1
  obtain ⟨a2,b2⟩:=hb a1 e2
  simp only at h
  by_cases hw:(cX T i).t=jn
  ·rw [if_pos hw] at h
   obtain rfl:=Option.some.inj h
   exact ⟨a2,xy hT lv i hl hi hw b1 b2⟩
  ·rw [if_neg hw] at h
   have hf:=h1.resolve_right hw
   by_cases hel:(cX T j2).t=qG
   ·rw [if_pos hel] at h
    simp only [Option.bind_eq_some_iff,Option.some.injEq] at h
    obtain ⟨⟨y,j3⟩,e3,rfl⟩:=h
    obtain ⟨a3,b3⟩:=hb (dM a2) e3
    exact ⟨a3,uW hT lv i hl hi hf b1 b2 a2 hel b3⟩
   ·rw [if_neg hel] at h
    obtain rfl:=Option.some.inj h
    exact ⟨a2,ET hT lv i hl hi hf b1 b2 a2 hel⟩
 rw [if_neg h1] at h
 by_cases h2:(cX T i).t=oe
 ·rw [if_pos h2] at h
  simp only [Option.bind_eq_bind,Option.bind_eq_some_iff,Option.pure_def,Option.some.injEq] at h
  obtain ⟨⟨x,j1⟩,e1,j2,e2,⟨k,j3⟩,e3,j4,e4,⟨y,j5⟩,e5,j6,e6,⟨z,j7⟩,e7,j8,e8,rfl⟩:=h
  obtain ⟨a1,b1⟩:=hx htl e1
  obtain ⟨a2,b2⟩:=he a1 e2
  obtain ⟨a3,b3⟩:=hn ab a2 e3
  obtain ⟨a4,b4⟩:=he a3 e4
  obtain ⟨a5,b5⟩:=hx a4 e5
  obtain ⟨a6,b6⟩:=he a5 e6
  obtain ⟨a7,b7⟩:=hx a6 e7
  obtain ⟨a8,b8⟩:=he a7 e8
  exact ⟨a8,Aj hT lv i hl hi h2 b1 b2 b3 b4 b5 b6 b7 b8⟩
 rw [if_neg h2] at h
 by_cases h3:(cX T i).t=gv
 ·rw [if_pos h3] at h
  simp only [Option.bind_eq_bind,Option.bind_eq_some_iff,Option.pure_def,Option.some.injEq] at h
  obtain ⟨⟨k,j1⟩,e1,j2,e2,rfl⟩:=h
  obtain ⟨a1,b1⟩:=hn ab htl e1
  obtain ⟨a2,b2⟩:=he a1 e2
  exact ⟨a2,yF hT lv i hl hi h3 b1 b2⟩
 rw [if_neg h3] at h
 by_cases h4:(cX T i).t=jI
 ·rw [if_pos h4] at h
  simp only [Option.bind_eq_bind,Option.bind_eq_some_iff,Option.pure_def,Option.some.injEq] at h
  obtain ⟨⟨k,j1⟩,e1,j2,e2,rfl⟩:=h
  obtain ⟨a1,b1⟩:=hn ab htl e1
  obtain ⟨a2,b2⟩:=he a1 e2
  exact ⟨a2,wa hT lv i hl hi h4 b1 b2⟩
 rw [if_neg h4] at h
 by_cases h5:(cX T i).t=lP
 ·rw [if_pos h5] at h
  simp only [Option.bind_eq_bind,Option.bind_eq_some_iff,Option.pure_def,Option.some.injEq] at h
  obtain ⟨⟨x,j1⟩,e1,j2,e2,⟨y,j3⟩,e3,j4,e4,rfl⟩:=h
  obtain ⟨a1,b1⟩:=hx htl e1
  obtain ⟨a2,b2⟩:=he a1 e2
  obtain ⟨a3,b3⟩:=hx a2 e3
  obtain ⟨a4,b4⟩:=he a3 e4
  exact ⟨a4,xR hT lv i hl hi h5 b1 b2 b3 b4⟩
 rw [if_neg h5] at h
 by_cases h6:(cX T i).t=nK
 ·rw [if_pos h6] at h
  simp only [Option.bind_eq_bind,Option.bind_eq_some_iff,Option.pure_def,Option.some.injEq] at h
  obtain ⟨⟨x,j1⟩,e1,j2,e2,rfl⟩:=h
  obtain ⟨a1,b1⟩:=hx htl e1
  obtain ⟨a2,b2⟩:=he a1 e2
  exact ⟨a2,Bw hT lv i hl hi h6 b1 b2⟩
 rw [if_neg h6] at h
 by_cases h7:(cX T i).t=ol
 ·rw [if_pos h7] at h
  simp only [Option.bind_eq_bind,Option.bind_eq_some_iff,Option.pure_def,Option.some.injEq] at h
  obtain ⟨j1,e1,rfl⟩:=h
  obtain ⟨a1,b1⟩:=he htl e1
  exact ⟨a1,Ar hT lv i hl hi h7 b1⟩
 rw [if_neg h7] at h
 by_cases h8:(cX T i).t=oA
 ·rw [if_pos h8] at h
  simp only [Option.bind_eq_bind,Option.bind_eq_some_iff,Option.pure_def,Option.some.injEq] at h
  obtain ⟨j1,e1,rfl⟩:=h
  obtain ⟨a1,b1⟩:=he htl e1
  exact ⟨a1,BD hT lv i hl hi h8 b1⟩
 rw [if_neg h8] at h
 cases h
theorem Ed (hT:T.length≤100000): ∀ f,f≤2000000→ ∀ g,g≤f→PS T N g:=by
 intro f
 induction f with
 | zero=>
  intro _ g hg
  obtain rfl:g=0:=by omega
  exact ⟨fun _ _ _ _ _ h=> by simp [vo] at h,fun _ _ _ _ _ h=> by simp [oO] at h⟩
 | succ f ih=>
  intro hf g hg
  rcases Nat.lt_or_ge g (f+1) with h | h
  ·exact ih ab g ab
  ·obtain rfl:g=f+1:=by omega
   exact ⟨yT hT f (ih ab f (Nat.le_refl _)),yK hT f ab (ih ab)⟩
theorem sO (hT:T.length≤100000) {f i:Nat} {r:Nd×Nat} (hf:f≤2000000) (hi:i < T.length) (h:oO T f 1 i=some r):r.2 < T.length∧Spec Tryz.prog 164 (be [.ptr (0,9) 0, .v (.int .i64 1)] (dF T i N)) (PO T N r):=
 (Ed hT f hf f (Nat.le_refl _)).blk 1 i r ab hi h
end

class MthV (P:Program) (t:TypeId) (name:String) (f e:outParam TypeId):Prop where
  out: ∀ (ad:Addr) (w:World),(method (P.types.size+Made.depth) t (.pointer (some ad)) name).run P w=((loadVar e ad).run P w).andThen fun v w'=> .ok (f,v) w'
theorem rq {P:Program} {t:TypeId} {ad:Addr} {nm:String} {w:World}:(Builtin.ssaWrapNilChk_ #[t] t #[.pointer (some ad),strVal "",strVal nm]).run P w= .ok (.pointer (some ad)) w:=rfl
theorem xN {P:Program} {n:Nat} {t e f:TypeId} {name:String} {i:TypeInfo} {m:Method} {ad:Addr} {w:World} (hi:P.info? t=some i) (hfind:i.methods.find? (·.name==name)=some m) (hpath:m.path= #[]) (hfunc:m.func=some (f,false))
    (hu:P.underlying t=some (.pointer e)):(method (n+1) t (.pointer (some ad)) name).run P w=((loadVar e ad).run P w).andThen fun v w'=> .ok (f,v) w':=by
  have h1:(typeInfo t).run P w= .ok i w:=by simp [typeInfo,Sem.run,hi]
  have h2:(underlying t).run P w= .ok (.pointer e) w:=by simp [underlying,Sem.run,hu]
  simp only [method,Sem.run_bind,h1,Result.andThen_ok,hfind,hpath,hfunc,follow,Sem.run_pure,receiverAt,h2,Place.get]
  simp only [Array.isEmpty_empty,if_true,Sem.run_bind,rq,Result.andThen_ok,asAddr,Sem.run_pure]
def Cl (P:Program) (t:TypeId) (name:String):Option (TypeId×TypeId):=
  match P.info? t with
  | some i=> match i.methods.find? (·.name==name) with
    | some m=> match m.path.isEmpty,m.func,P.underlying t with
      | true,some (f,false),some (.pointer e)=> some (f,e)
      | _,_,_=> none
    | none=> none
  | none=> none
theorem MthV.of {P:Program} {t e f:TypeId} {name:String} (h:Cl P t name=some (f,e)):MthV P t name f e:=by
  refine ⟨fun ad w=> ?_⟩
  obtain ⟨n,hn⟩: ∃ n,P.types.size+Made.depth=n+1:=⟨_,rfl⟩
  rw [hn]
  unfold Cl at h
  split at h
  · rename_i i hi
    split at h
    · rename_i m hm
      split at h
      · rename_i f' e' hp hf hu
        cases h
        exact xN hi hm (by simpa using hp) hf hu
      · cases h
    · cases h
  · cases h
section
variable {P:Program} {σ:St} {o:Oper} {t:TypeId} {name:String} {f:FuncId} {x:Operand} {xs:Array Operand} {ats:Array TypeId}
end
section
variable {P:Program} {σ:St} {dd:Option Tmp} {op:Op} {ty:TypeId} {f:FuncId} {avs:List AV}
end
theorem Le.incT {σ:St} (id:aG) (h:σ.ob id= .free):Le (σ.setInc id true) σ:=by
  intro K ι S a w R
  refine ⟨ι,S,R.keeps,R.S0,R.Slt,R.nt,R.df,R.fr,R.cl,R.clo,R.ob,R.dom,R.inj,fun i B g h1 h2=> ?_,R.pin,R.pf⟩
  obtain ⟨h3,h4,h5⟩:=R.sep i B g h1 h2
  refine ⟨h3,h4,fun h6=> h5 ?_⟩
  have h7:(bif gB i id then true else σ.inc i)=false:=h6
  cases hb:gB i id with
  | true=> rw [hb] at h7;cases h7
  | false=> rw [hb] at h7;exact h7
theorem oI {P:Program} {σ:St} {z:List Value} {T e:TypeId} {size bytes:Nat} {dd:Option Tmp} {ty:TypeId} (id':aG) (s x:Operand) (E:Elem P T e size bytes z) {id:aG} {n:Nat} {xs:List PV} (hs:σ.eval s= .ref id 0 n) (hid:σ.ob id= .obj (.row e size xs)) (hl:n*size=xs.length) {m:Nat} {news:List PV} (hx:SrcAV σ (σ.eval x) size m news) (hb:(n+m)*bytes≤140737488355328) (hid':σ.ob id'= .free)
    {b:Bool} (hi:σ.inc id=b) (hi':σ.inc id'=b) {ys:List PV} (hy:xs++news=ys) {k:Nat} (hk:n+m=k):Stp P dd (.call { callee:= .builtin .append,args:= #[s,x],argTypes:= #[T,T] }) ty σ (((σ.setOb id .gone).setOb id' (.obj (.row e size ys))).put dd (.ref id' 0 k)):=by
  have h:=dl (P:=P) (dd:=dd) (ty:=ty) id' s x E hs hid hl hx hb hid' hy hk
  rwa [hi,St.setInc_same (by exact hi')] at h

theorem kQ {T:List Tk} {f:Nat} {seen:List Tx} {i:Nat} {r:List Tx×Nat} (h:fX T f seen i=some r): ∃ g,f=g+1∧dX T i=true∧(cX T i).t∉seen∧seen.length < 16∧
  ((cX T (bR T i)).t=[44]∧(∃ l j,fX T g (seen++[(cX T i).t]) (bR T (bR T i))=some (l,j)∧r=((cX T i).t::l,j))∨(cX T (bR T i)).t≠[44]∧ ∃ j,fQ T [59] (bR T i)=some j∧r=([(cX T i).t],j)):=by
 cases f with
 | zero=> simp [fX] at h
 | succ g=>
  refine ⟨g,rfl,?_⟩
  unfold fX at h
  split at h
  ·cases h
  ·rename_i hn
   refine ⟨?_,fun hm=> hn (.inr (.inl hm)),Nat.lt_of_not_le fun hl=> hn (.inr (.inr hl)),?_⟩
   ·cases hb:dX T i with
    | true=> rfl
    | false=> exact absurd (.inl hb) hn
   ·split at h
    ·rename_i ht
     simp only [Option.bind_eq_bind,Option.bind_eq_some_iff,Option.pure_def] at h
     obtain ⟨⟨l,j⟩,hl,h⟩:=h
     exact .inl ⟨ht,l,j,hl,(Option.some.inj h).symm⟩
    ·rename_i ht
     simp only [Option.bind_eq_bind,Option.bind_eq_some_iff,Option.pure_def] at h
     obtain ⟨j,hj,h⟩:=h
     exact .inr ⟨ht,j,hj,(Option.some.inj h).symm⟩
section
variable {T:List Tk}
theorem pj (hT:T.length≤100000) (f:Nat) (N:List Tx) (i0:Nat) (hi:i0 < T.length) (r:List Tx×Nat) (h:fX T f N (bR T i0)=some r):
  r.2 < T.length∧N.length+r.1.length≤16∧Spec Tryz.prog 161 (be [.ptr (0,9) 0] (Bf T i0 N))
   (bg (.sl r.1.length (dT r.1)) [((0,9), .box 222 [.sl T.length (pY T), .v (.int .i64 (r.2:Int)), .v (.int .i64 0), .v (.int .i64 0), .ref (1,8) 0 (N++r.1).length]),((1,8), .row 9 1 (dT (N++r.1)))] [(0,9),(1,8)] [(0,9)]):=by
 have htl:=dM hi
 have hend: ∀ (g:Nat) (seen:List Tx) (i:Nat) (r:List Tx×Nat),i < T.length→fX T g seen i=some r→r.2 < T.length∧seen.length+r.1.length≤16:=by
  intro g
  induction g with
  | zero=> intro seen i r _ h;simp [fX] at h
  | succ g ihg=>
   intro seen i r hi h
   obtain ⟨g',hg',_,_,hs,⟨_,l,j,hl,rfl⟩ | ⟨_,j,hj,rfl⟩⟩:=kQ h
   ·obtain rfl:g=g':=by omega
    obtain ⟨h1,h2⟩:=ihg _ _ _ (dM (dM hi)) hl
    simp only [List.length_append,List.length_cons,List.length_nil] at h2 ⊢
    exact ⟨h1,by omega⟩
   ·exact ⟨ii hj (dM hi),by simp;omega⟩
 obtain ⟨ha,hb⟩:=hend f N _ r htl h
 refine ⟨ha,by omega,?_⟩
 have hNl:N.length < 16:=by obtain ⟨_,_,_,_,hs,_⟩:=kQ h;exact hs
 refine Spec.ofNI Tryz.func161 rfl Tryz.ntmps161 rfl ?_
 refine am (ai (bG _ (rfl:_=AV.v (.slice _ _ _))) (aj (am (ai (oJ (3,0) _ 9 1 rfl rfl) ?_))))
 refine aj (am (bi rfl (ai (da aa [] ar (jo T i0 N hi hT) ob tr ae) ?_)))
 refine aj (aF fun K4 hK4=> ?_)
 refine au ?_
 refine bw (α:=Nat×List Tx×Nat) (fun z=> (N++z.2.1).length≤16∧z.2.1.length≤16∧z.2.2 < T.length∧ ∃ l,fX T z.1 (N++z.2.1) z.2.2=some (l,r.2)∧r.1=z.2.1++l) 76 [(0,_)] [] (fun z=> [(3, .ref (3,0) 0 z.2.1.length)]) (fun z=> [((0,9), .box 222 [.sl T.length (pY T), .v (.int .i64 (z.2.2:Int)), .v (.int .i64 0), .v (.int .i64 0), .ref (1,9) 0 (N++z.2.1).length]),((1,9), .row 9 1 (dT (N++z.2.1))),((3,0), .row 9 1 (dT z.2.1))]) [(0,9),(1,9)] [(0,9)] (fun z=> z.1) (f,[],bR T i0) ?_ (by
  refine Le.mkJ [] [] rfl ?_ ?_ trivial tr ?_
  ·exact ⟨(iP rfl),(dh rfl ag),trivial⟩
  ·exact ⟨(fS rfl rfl rfl rfl (aI (ix ag ag) (nC (nC (nC (aI (dh rfl (by (simp only [List.append_nil]))) bu)))))),(gM rfl rfl rfl (by (simp only [List.append_nil]))),(gM rfl rfl rfl ag),trivial⟩
  ·kernel_rfl) ?_
 ·exact ⟨by simp;omega,Nat.zero_le _,htl,r.1,by rw [List.append_nil];exact h,rfl⟩
 intro z hz
 obtain ⟨z1,z2,z3⟩:=z
 obtain ⟨hz1,hz2,hz3,l,hz4,hz5⟩:=hz
 obtain ⟨g,rfl,hn,hs,hsl,hm⟩:=kQ hz4
 simp only at hz1 hz2 hz3 hz5 hn hs hsl hm ⊢
 have htz:=dM hz3
 have hl1:(z2++[(cX T z3).t]).length=z2.length+1:=by simp
 have hl2:(N++(z2++[(cX T z3).t])).length=(N++z2).length+1:=by simp;omega
 have ha2:dT (N++z2)++[PV.v (bt (cX T z3).t)]=dT (N++(z2++[(cX T z3).t])):=by rw [ls,List.append_assoc]
 refine ap (am (bi rfl (ai (aS _ rfl rfl) (bA rfl rfl rfl (cC rfl rfl rfl (iY rfl rfl rfl (aj (bD rfl rfl (aJ (au ?_))))))))))
 refine ap (am (bi rfl (ai (br aa _ _ ar (tg T z3 (N++z2) hz3) tr rfl ae (by simp)) ?_)))
 refine ai (dc (r:=false) _ rfl (by rw [hn];rfl)) ?_
 refine aj (aP rfl rfl (ap ?_))
 refine aN (σ':=aB 76 [(0,_),(3,_)] [((0,9),_),((1,9),_),((3,0),_)] [(0,9),(1,9)] [(0,9)]) kp ?_
 refine bF 7 [20,21,22,23,24,25,26] [] ae ae rfl (aM rfl) (rfl:_=[_,_,_,_,_,_,_]) (rfl:_=[]) ?_
 refine aq (_,[]) (fun τ=> aE _ (rfl:_=AV.ptr _ _)) ?_
 refine eJ rfl ?_
 refine aq (_,[]) (fun τ=> aS _ rfl rfl) ?_
 refine eK rfl ?_
 refine aq (_,[]) (fun τ=> aH _ aa rfl rfl rfl) ?_
 refine eH rfl ?_
 refine aq (_,[]) (fun τ=> aK _ aa rfl rfl (rfl:_=some (AV.ref _ _ _))) ?_
 refine eS rfl ?_
 refine aq (_,[]) (fun τ=> aE _ (rfl:_=AV.ptr _ _)) ?_
 refine eZ rfl ?_
 refine aq (_,[]) (fun τ=> (br aa _ _ ar (em T z3 (N++z2) hz3) tr rfl ae (by simp))) ?_
 refine fH rfl ?_
 refine aq (_,[]) (fun τ=> (uG aa aw (cw (N++z2) _ rfl ab (cX T z3).t) rfl)) ?_
 refine gF rfl (bh ⟨rfl,?_⟩)
 refine aj (aP rfl (decide_eq_false hs) ?_)
 refine am (bi rfl (ai (aS _ rfl rfl) (bA rfl rfl rfl (ai (aK _ aa rfl rfl (rfl:_=some (AV.ref _ _ _))) (ai (dA _ aa rfl rfl) (ai (eR _ _ rfl rfl rfl) (aj (aP rfl (decide_eq_false ab) ?_))))))))
 refine aJ (ap (am (bi rfl (ai (aS _ rfl rfl) (bA rfl rfl rfl (cC rfl rfl rfl (ai (ca (r:=false) _ _ rfl rfl rfl) (aj (aP rfl rfl (aJ ?_))))))))))
 refine ap ?_
 refine aN (σ':=aB 76 [(0,_),(3,_)] [((0,9),_),((1,9),_),((3,0),_)] [(0,9),(1,9)] [(0,9)]) kp ?_
 refine an (gG rfl (bi rfl (ai (br aa _ _ ar (em T z3 (N++z2) hz3) tr rfl ae (by simp)) ?_)))
 refine ai (aV _ _ aa rfl ag (by (simp <;> rfl)) ah rfl) ?_
 refine ai (dl (54,0) _ _ aa rfl rfl (by simp) (.sl rfl) ab rfl (ls _ _) hl1.symm) ?_
 refine fa rfl (aj (ap ?_))
 refine aN (σ':=aB 76 [(0,_),(3,_)] [((0,9),_),((1,9),_),((54,0),_)] [(0,9),(1,9)] [(0,9)]) kp ?_
 refine aN (Le.incT (63,0) rfl) ?_
 refine xX 9 [55,56,57,58,59,60,61,62,63] [(1,9),(63,0)] [[],[],[],[(1,9)],[(1,9)],[(1,9)],[(1,9)],[(1,9)],[]] ae ae rfl (aM rfl) (rfl:_=[_,_,_,_,_,_,_,_,_]) (rfl:_=[_,_,_]) ?_
 refine aq (_,[]) (fun τ=> aE _ (rfl:_=AV.ptr _ _)) ?_
 refine eJ rfl ?_
 refine aq (_,[]) (fun τ=> aE _ (rfl:_=AV.ptr _ _)) ?_
 refine eK rfl ?_
 refine aq (_,[]) (fun τ=> aS _ rfl rfl) ?_
 refine eH rfl ?_
 refine aq (_,[]) (fun τ=> aH _ aa rfl rfl rfl) ?_
 refine eS rfl ?_
 refine aq (_,[]) (fun τ=> aK _ aa rfl rfl (rfl:_=some (AV.ref _ _ _))) ?_
 refine eZ rfl ?_
 refine aq (_,[]) (fun τ=> aE _ (rfl:_=AV.ptr _ _)) ?_
 refine fH rfl ?_
 refine aq (_,[]) (fun τ=> (br aa _ _ ar (em T z3 (N++z2) hz3) tr rfl ae (by simp))) ?_
 refine gF rfl ?_
 refine aq (_,[]) (fun τ=> aV _ _ aa rfl ag (by (simp <;> rfl)) ah rfl) ?_
 refine kv rfl ?_
 refine aq (_,[((1,9), .gone),((63,0),_)]) (fun τ=> oI (b:=true) (63,0) _ _ aa rfl (tZ rfl (by exact sj) rfl) (by simp) (.sl rfl) ab rfl rfl rfl ha2 hl2.symm) ?_
 refine ko rfl (bh ⟨⟨rfl,by kernel_rfl⟩,?_⟩)
 refine ai (aS _ rfl rfl) (bA rfl rfl rfl (bO rfl rfl rfl rfl rfl rfl (aj (aF fun K15 hK15=> ?_))))
 refine aN (σ':=aB 76 [(0,_),(3,_)] [((0,9), .box _ [_,_,_,_, .ref (1,9) _ _]),((54,0),_),((1,9),_)] [(0,9),(1,9)] [(0,9)]) (by
  refine Le.mkJ [((1,9),(63,0))] [] rfl ?_ ?_ trivial tr ?_
  ·exact ⟨(EA [(0,9),(54,0)] rfl (rfl:_=AV.ptr _ _) rfl),(EA [(0,9),(54,0)] rfl (rfl:_=AV.ref _ _ _) rfl),trivial⟩
  ·exact ⟨(fS rfl rfl rfl rfl (aI (by exact EA [(0,9),(54,0)] rfl (rfl:_=AV.sl _ _) rfl) (aI (by exact EA [(0,9),(54,0)] rfl (rfl:_=AV.v _) rfl) (aI (by exact EA [(0,9),(54,0)] rfl (rfl:_=AV.v _) rfl) (aI (by exact EA [(0,9),(54,0)] rfl (rfl:_=AV.v _) rfl) lz))))),(gM rfl rfl rfl rfl),(gM rfl rfl rfl rfl),trivial⟩
  ·kernel_rfl) ?_
 refine an (bi rfl (ai (da aa [] ar (jo T z3 (N++(z2++[(cX T z3).t])) hz3 hT) ob tr ae) ?_))
 refine az (hK15 _ ?_)
 clear hK15;try clear K15
 refine aF fun K16 hK16=> ?_
 refine am (bi rfl (ai (br aa _ _ ar (em T (bR T z3) (N++(z2++[(cX T z3).t])) htz) tr rfl ae (by simp)) ?_))
 refine ai (ql _ _ Tryz.underlying9 rfl rfl rfl) (aj (aT rfl (fun hc70=> ?_) (fun hc70=> ?_)))
 ·skip
  obtain ⟨_,j,hj,hr⟩:=hm.resolve_left fun x=> hc70 x.1
  obtain ⟨rfl,rfl⟩:=Prod.mk.inj hr
  have hexp:=qF T (bR T z3) r.2 (N++(z2++[(cX T z3).t])) [59] htz hT hj
  refine bK (id (hK4 _ ?_))
  clear hK4;try clear K4
  refine am (bi rfl (ai (da aa [] ar (hexp) ob tr ae) ?_))
  exact aj (am (gG rfl (fa rfl (aj (aC (aY (.inr rfl) rfl (.tmp (rfl:_=AV.ref _ _ _)) (Le.outI [((1,8),(1,9))] [(54,0)] (by rw [hz5];exact iu rfl rfl (by simp) rfl) rfl rfl rfl tr ⟨⟨rfl,⟨_,rfl, .box rfl (aI .sl (aI .v (aI .v (aI .v (aI (dh rfl (by rw [hz5])) bu)))))⟩,rfl⟩,⟨rfl,⟨_,rfl, .rowE (by rw [hz5])⟩,rfl⟩,trivial⟩ tr rfl)))))))
 ·skip
  obtain ⟨_,l',j',hd',hr⟩:=hm.resolve_right fun x=> x.1 hc70
  obtain ⟨rfl,rfl⟩:=Prod.mk.inj hr
  refine bv (hK16 _ ?_)
  clear hK16;try clear K16
  refine an (bi rfl (ai (da aa [] ar (jo T (bR T z3) (N++(z2++[(cX T z3).t])) htz hT) ob tr ae) ?_))
  refine az (⟨(g,z2++[(cX T z3).t],bR T (bR T z3)),?_,?_,?_⟩)
  ·exact ⟨by simp only [hl2];omega,by simp only [hl1];simp only [List.length_append] at hsl;omega,dM htz,l',by rw [← List.append_assoc];exact hd',by rw [hz5];simp⟩
  ·skip
   refine Le.mkJ [((3,0),(54,0))] [] rfl ?_ ?_ trivial tr ?_
   ·exact ⟨(dW (id:=(0,9)) rfl),(dh rfl ag),trivial⟩
   ·exact ⟨(fS rfl rfl rfl rfl lz),(gM rfl rfl rfl ag),(gM rfl rfl rfl ag),trivial⟩
   ·kernel_rfl
  ·simp only;omega
end
end Go.Proofs.YtmjnackchaahbaaGreat
