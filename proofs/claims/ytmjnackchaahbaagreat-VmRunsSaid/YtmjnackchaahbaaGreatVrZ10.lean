/- Part 10 of the texts that the walk leans on: the machine, the walks, the plain laws. -/
import Derived.Test.YtmjnackchaahbaaGreatVrZ9
set_option linter.unusedSimpArgs false
set_option linter.unusedVariables false
namespace Go.Proofs.YtmjnackchaahbaaGreat
open Go.RowKit

structure PS (T:List Tk) (N:List Tx) (f:Nat):Prop where
 stm: ∀ lv i r,lv≤20→i < T.length→vK T f lv i=some r→r.2 < T.length∧Spec Tryz.prog 202 (bh [.ptr (0,9) 0, .v (.int .i64 (lv:Int))] (dL T i N)) (PO T N r)
 blk: ∀ lv i r,lv≤21→i < T.length→oX T f lv i=some r→r.2 < T.length∧Spec Tryz.prog 164 (bh [.ptr (0,9) 0, .v (.int .i64 (lv:Int))] (dL T i N)) (PO T N r)
def zh:List Tx:=[sZ,jE,oD,gI,ku,nN,lJ,nV,ow]
theorem fB {T:List Tk} {i:Nat} (h:tO (dc T i).t=true):ee T i=false:=by unfold ee;rw [h];simp
section
variable {T:List Tk} {N:List Tx}
theorem uN (hT:T.length≤100000) (lv i:Nat) (hl:lv≤20) (hi:i < T.length) (hn:ee T i=true) {d:Nd} {j1 j2 j3:Nat} (h1:Spec Tryz.prog 162 (bh [.ptr (0,9) 0, .v (bt [61])] (dL T (bT T i) N)) (bl (.tup []) (dL T j1 N) [(0,9)] [(0,9)])) (h2:Spec Tryz.prog 226 (bh [.ptr (0,9) 0, .v (.int .i64 (lv:Int)), .v (.int .i64 1)] (dL T j1 N)) (PO T N (d,j2))) (h3:Spec Tryz.prog 162 (bh [.ptr (0,9) 0, .v (bt [59])] (dL T j2 N)) (bl (.tup []) (dL T j3 N) [(0,9)] [(0,9)])):
  Spec Tryz.prog 202 (bh [.ptr (0,9) 0, .v (.int .i64 (lv:Int))] (dL T i N)) (PO T N (nd 1 0 (dc T i).t [d],j3)):=by
 refine Spec.ofNI Tryz.func202 rfl Tryz.ntmps202 rfl ?_
 refine am (ai (az (4,0) aa rfl rfl) (aj (am (bn rfl (ai (bw aa _ _ ar (bV T i N hi) tr rfl ae (by simp)) ?_)))))
 refine jp rfl (aj (am (ai (aB _ aa rfl (by exact (rfl:_=some [_,_,_,_]))) ?_)))
 refine ai (az (6,0) aa rfl rfl) (bO rfl rfl rfl rfl rfl rfl (aj (aq (am (bn rfl (ai (bw aa _ _ ar (dK T i N hi) tr rfl ae (by simp)) ?_))))))
 refine aj (bC rfl hn (am (bn rfl (ai (aQ (cB T i N hi hT)) ?_))))
 refine aj (aH fun K7 hK7=> ?_)
 refine an (bn rfl (ai (aQ (h1)) (ax (hK7 _ ?_))))
 clear hK7;try clear K7
 refine aH fun K8 hK8=> ?_
 refine an (dQ rfl (bn rfl (aP rfl (ai (aQ (h2)) (ai (aU _ _ aa rfl ag (by (simp <;> rfl)) ah rfl) ?_)))))
 refine ai (aB _ aa rfl (by exact (rfl:_=some [_,_,_,_]))) ?_
 refine bO rfl rfl rfl rfl rfl rfl (ax (hK8 _ ?_))
 clear hK8;try clear K8
 refine aH fun K9 hK9=> ?_
 refine aN (σ':=aA 145 [(0,_),(4,_),(6,_)] [((0,9),_),((4,0),_),((6,0),_)] [(0,9)] [(0,9)]) kp ?_
 refine an (bn rfl (ai (aQ (h3)) (ax (hK9 _ ?_))))
 clear hK9;try clear K9
 exact am (ai (aR _ aa rfl rfl rfl rfl) (bO rfl rfl rfl rfl rfl rfl (aj (aE (aX (.inr rfl) rfl (.cellA aa rfl rfl rfl) (Le.outI [] [] (.agg rfl lz) rfl rfl rfl trivial ob tr rfl))))))
theorem yh (hT:T.length≤100000) (lv i:Nat) (hl:lv≤20) (hi:i < T.length) (ht:(dc T i).t=jE) {c x:Nd} {j1 j2:Nat} (h1:Spec Tryz.prog 226 (bh [.ptr (0,9) 0, .v (.int .i64 (lv:Int)), .v (.int .i64 1)] (dL T (bT T i) N)) (PO T N (c,j1))) (h2:Spec Tryz.prog 164 (bh [.ptr (0,9) 0, .v (.int .i64 ((lv+1:Nat):Int))] (dL T j1 N)) (PO T N (x,j2))):
  Spec Tryz.prog 202 (bh [.ptr (0,9) 0, .v (.int .i64 (lv:Int))] (dL T i N)) (PO T N (nd 3 0 [] [c,x],j2)):=by
 have hnx:=bV T i N hi
 have hn:ee T i=false:=fB (by rw [ht];rfl)
 rw [ht] at hnx
 refine Spec.ofNI Tryz.func202 rfl Tryz.ntmps202 rfl ?_
 refine am (ai (az (4,0) aa rfl rfl) (aj (am (bn rfl (ai (bw aa _ _ ar (hnx) tr rfl ae (by simp)) ?_)))))
 refine jp rfl (aj (am (ai (aB _ aa rfl (by exact (rfl:_=some [_,_,_,_]))) ?_)))
 refine ai (az (6,0) aa rfl rfl) (bO rfl rfl rfl rfl rfl rfl (aj (aq (am (bn rfl (ai (bw aa _ _ ar (dK T i N hi) tr rfl ae (by simp)) ?_))))))
 refine aj (aS rfl hn (aL (aq (am (ai (aU _ _ aa rfl ag (by (simp <;> rfl)) ah rfl) ?_)))))
 refine dQ rfl (ai (aF aa al (cH zh 9 rfl ab jE) rfl rfl) ?_)
 refine ai (da (r:=false) _ rfl rfl) (aj (aS rfl rfl (aL (am (bn rfl (ai (aQ (cB T i N hi hT)) ?_))))))
 refine aj (aq (aq ?_))
 refine aN (σ':=aA 145 [(0,_),(1,_),(4,_),(5,_),(6,_)] [((0,9),_),((4,0),_),((6,0),_)] [(0,9)] [(0,9)]) kp ?_
 refine an (dQ rfl (aj (au (aq (am (ai (aY (r:=false) _ _ Tryz.underlying9 rfl rfl rfl) (ci rfl (aj (aS rfl rfl (an ?_))))))))))
 refine ai (aY (r:=true) _ _ Tryz.underlying9 rfl rfl rfl) (ci rfl (aj (bC rfl rfl (aH fun K13 hK13=> ?_))))
 refine an (bn rfl (aP rfl (ai (aQ (h1)) (ai (az (7,0) aa rfl rfl) (bO rfl rfl rfl rfl rfl rfl (ax (hK13 _ ?_)))))))
 clear hK13;try clear K13
 refine aH fun K14 hK14=> ?_
 refine aN (σ':=aA 145 [(0,_),(1,_),(4,_),(5,_),(7,_)] [((0,9),_),((4,0),_),((7,0),_)] [(0,9)] [(0,9)]) kp ?_
 refine bu 5 [53,54,55,56,57] [(0,9)] ae ae rfl (aK rfl) (rfl:_=[_,_,_,_,_]) (rfl:_=[_,_]) ?_
 refine ap (_,[]) (fun τ=> aR _ aa rfl rfl rfl rfl) ?_
 refine el rfl ?_
 refine ap (_,[]) (fun τ=> aC _ (rfl:_=AV.ptr _ _)) ?_
 refine eo rfl ?_
 refine ap (_,[]) (fun τ=> aC _ (rfl:_=AV.v (.int _ _))) ?_
 refine ep rfl ?_
 refine ap (_,[]) (fun τ=> bc _ _ rfl rfl (be ab)) ?_
 refine ew rfl ?_
 refine ap (_,[((0,9),_)]) (fun τ=> (cA aa ar (h2) ob rfl rfl ae)) ?_
 refine eF rfl (bg ⟨rfl,?_⟩)
 refine ai (aU _ _ aa rfl ag (by (simp <;> rfl)) ah rfl) ?_
 refine ke rfl (ax (hK14 _ ?_))
 clear hK14;try clear K14
 refine aq (am (dQ rfl (ai (aY (r:=true) _ _ Tryz.underlying9 rfl rfl rfl) (aj (bC rfl rfl (am (ef rfl (ai (aB _ aa rfl (by exact (rfl:_=some [_,_,_,_]))) ?_))))))))
 exact bO rfl rfl rfl rfl rfl rfl (aj (aE (aX (.inr rfl) rfl (.cellA aa rfl rfl rfl) (Le.outI [] [] (.agg rfl lz) rfl rfl rfl trivial ob tr rfl))))
theorem EC (hT:T.length≤100000) (lv i:Nat) (hl:lv≤20) (hi:i < T.length) (ht:(dc T i).t=sZ) {c x:Nd} {j1 j2:Nat} (h1:Spec Tryz.prog 226 (bh [.ptr (0,9) 0, .v (.int .i64 (lv:Int)), .v (.int .i64 1)] (dL T (bT T i) N)) (PO T N (c,j1))) (h2:Spec Tryz.prog 164 (bh [.ptr (0,9) 0, .v (.int .i64 ((lv+1:Nat):Int))] (dL T j1 N)) (PO T N (x,j2))) (hj:j2 < T.length) (he:(dc T j2).t≠qw):
  Spec Tryz.prog 202 (bh [.ptr (0,9) 0, .v (.int .i64 (lv:Int))] (dL T i N)) (PO T N (nd 2 0 [] [c,x,nd 11 0 [] []],j2)):=by
 have hnx:=bV T i N hi
 have hn:ee T i=false:=fB (by rw [ht];rfl)
 rw [ht] at hnx
 refine Spec.ofNI Tryz.func202 rfl Tryz.ntmps202 rfl ?_
 refine am (ai (az (4,0) aa rfl rfl) (aj (am (bn rfl (ai (bw aa _ _ ar (hnx) tr rfl ae (by simp)) ?_)))))
 refine jp rfl (aj (am (ai (aB _ aa rfl (by exact (rfl:_=some [_,_,_,_]))) ?_)))
 refine ai (az (6,0) aa rfl rfl) (bO rfl rfl rfl rfl rfl rfl (aj (aq (am (bn rfl (ai (bw aa _ _ ar (dK T i N hi) tr rfl ae (by simp)) ?_))))))
 refine aj (aS rfl hn (aL (aq (am (ai (aU _ _ aa rfl ag (by (simp <;> rfl)) ah rfl) ?_)))))
 refine dQ rfl (ai (aF aa al (cH zh 9 rfl ab sZ) rfl rfl) ?_)
 refine ai (da (r:=false) _ rfl rfl) (aj (aS rfl rfl (aL (am (bn rfl (ai (aQ (cB T i N hi hT)) ?_))))))
 refine aj (aq (aq ?_))
 refine aN (σ':=aA 145 [(0,_),(1,_),(4,_),(5,_),(6,_)] [((0,9),_),((4,0),_),((6,0),_)] [(0,9)] [(0,9)]) kp ?_
 refine an (dQ rfl (aj (au (aq (am (ai (aY (r:=true) _ _ Tryz.underlying9 rfl rfl rfl) (ci rfl (aj (bC rfl rfl (aL ?_))))))))))
 refine bC rfl rfl (aH fun K13 hK13=> ?_)
 refine an (bn rfl (aP rfl (ai (aQ (h1)) (ai (az (7,0) aa rfl rfl) (bO rfl rfl rfl rfl rfl rfl (ax (hK13 _ ?_)))))))
 clear hK13;try clear K13
 refine aH fun K14 hK14=> ?_
 refine aN (σ':=aA 145 [(0,_),(1,_),(4,_),(5,_),(7,_)] [((0,9),_),((4,0),_),((7,0),_)] [(0,9)] [(0,9)]) kp ?_
 refine bu 5 [53,54,55,56,57] [(0,9)] ae ae rfl (aK rfl) (rfl:_=[_,_,_,_,_]) (rfl:_=[_,_]) ?_
 refine ap (_,[]) (fun τ=> aR _ aa rfl rfl rfl rfl) ?_
 refine el rfl ?_
 refine ap (_,[]) (fun τ=> aC _ (rfl:_=AV.ptr _ _)) ?_
 refine eo rfl ?_
 refine ap (_,[]) (fun τ=> aC _ (rfl:_=AV.v (.int _ _))) ?_
 refine ep rfl ?_
 refine ap (_,[]) (fun τ=> bc _ _ rfl rfl (be ab)) ?_
 refine ew rfl ?_
 refine ap (_,[((0,9),_)]) (fun τ=> (cA aa ar (h2) ob rfl rfl ae)) ?_
 refine eF rfl (bg ⟨rfl,?_⟩)
 refine ai (kd (58,0) _ _ aa rfl ag (by (simp <;> rfl)) ah rfl rfl) ?_
 refine dY rfl (ax (hK14 _ ?_))
 clear hK14;try clear K14
 refine aq (am (dQ rfl (ai (aY (r:=false) _ _ Tryz.underlying9 rfl rfl rfl) (aj (aS rfl rfl (aL (am (ai (aB _ aa rfl (by exact (rfl:_=some [_,_,_,_]))) ?_))))))))
 refine ai (az (9,0) aa rfl rfl) (bO rfl rfl rfl rfl rfl rfl (aj (aq (am (bn rfl (ai (aV _ rfl rfl) (bz rfl rfl rfl (cI rfl rfl rfl (jq rfl rfl rfl (cM rfl ?_))))))))))
 refine ay rfl rfl (aC _ (rfl:_=AV.ptr _ _)) (ay rfl rfl (bw aa _ _ ar (bV T j2 N hj) tr rfl ae (by simp)) ?_)
 refine ay rfl rfl (aY (r:=false) _ _ Tryz.underlying9 rfl rfl (beq_eq_false_iff_ne.2 he)) ?_
 refine ai (aG _ _ _ rfl (rfl:_=AV.v (.bool _))) (aj (aS rfl rfl (aL (aq ?_))))
 refine aN (σ':=aA 145 [(4,_),(8,_),(9,_)] [((4,0),_),((58,0),_),((9,0),_),((0,9),_)] [(0,9)] [(0,9)]) kp ?_
 refine an (ei rfl (ca (Le.nil0 (9,0) 3 rfl rfl) ?_))
 refine ai (aR _ aa rfl rfl rfl rfl) (ai (aU _ _ aa rfl ag (by (simp <;> rfl)) ah rfl) ?_)
 refine ai (cE (83,0) _ _ aa rfl rfl ag (by (refine .sl ?_;(simp [cu];done))) ab rfl (rfl) (rfl)) ?_
 refine ai (aB _ aa rfl (by exact (rfl:_=some [_,_,_,_]))) ?_
 exact bO rfl rfl rfl rfl rfl rfl (aj (aE (aX (.inr rfl) rfl (.cellA aa rfl rfl rfl) (Le.outI [] [(83,0)] (.agg rfl (aD .v (aD .v (aD .v (aD (fY rfl rfl rfl rfl) bf))))) rfl rfl rfl tr ob tr rfl))))
theorem vJ (hT:T.length≤100000) (lv i:Nat) (hl:lv≤20) (hi:i < T.length) (ht:(dc T i).t=sZ) {c x y:Nd} {j1 j2 j3:Nat} (h1:Spec Tryz.prog 226 (bh [.ptr (0,9) 0, .v (.int .i64 (lv:Int)), .v (.int .i64 1)] (dL T (bT T i) N)) (PO T N (c,j1))) (h2:Spec Tryz.prog 164 (bh [.ptr (0,9) 0, .v (.int .i64 ((lv+1:Nat):Int))] (dL T j1 N)) (PO T N (x,j2))) (hj:j2 < T.length) (he:(dc T j2).t=qw) (h3:Spec Tryz.prog 164 (bh [.ptr (0,9) 0, .v (.int .i64 ((lv+1:Nat):Int))] (dL T (bT T j2) N)) (PO T N (y,j3))):
  Spec Tryz.prog 202 (bh [.ptr (0,9) 0, .v (.int .i64 (lv:Int))] (dL T i N)) (PO T N (nd 2 0 [] [c,x,y],j3)):=by
 have hnx:=bV T i N hi
 have hn:ee T i=false:=fB (by rw [ht];rfl)
 rw [ht] at hnx
 refine Spec.ofNI Tryz.func202 rfl Tryz.ntmps202 rfl ?_
 refine am (ai (az (4,0) aa rfl rfl) (aj (am (bn rfl (ai (bw aa _ _ ar (hnx) tr rfl ae (by simp)) ?_)))))
 refine jp rfl (aj (am (ai (aB _ aa rfl (by exact (rfl:_=some [_,_,_,_]))) ?_)))
 refine ai (az (6,0) aa rfl rfl) (bO rfl rfl rfl rfl rfl rfl (aj (aq (am (bn rfl (ai (bw aa _ _ ar (dK T i N hi) tr rfl ae (by simp)) ?_))))))
 refine aj (aS rfl hn (aL (aq (am (ai (aU _ _ aa rfl ag (by (simp <;> rfl)) ah rfl) ?_)))))
 refine dQ rfl (ai (aF aa al (cH zh 9 rfl ab sZ) rfl rfl) ?_)
 refine ai (da (r:=false) _ rfl rfl) (aj (aS rfl rfl (aL (am (bn rfl (ai (aQ (cB T i N hi hT)) ?_))))))
 refine aj (aq (aq ?_))
 refine aN (σ':=aA 145 [(0,_),(1,_),(4,_),(5,_),(6,_)] [((0,9),_),((4,0),_),((6,0),_)] [(0,9)] [(0,9)]) kp ?_
 refine an (dQ rfl (aj (au (aq (am (ai (aY (r:=true) _ _ Tryz.underlying9 rfl rfl rfl) (ci rfl (aj (bC rfl rfl (aL ?_))))))))))
 refine bC rfl rfl (aH fun K13 hK13=> ?_)
 refine an (bn rfl (aP rfl (ai (aQ (h1)) (ai (az (7,0) aa rfl rfl) (bO rfl rfl rfl rfl rfl rfl (ax (hK13 _ ?_)))))))
 clear hK13;try clear K13
 refine aH fun K14 hK14=> ?_
 refine aN (σ':=aA 145 [(0,_),(1,_),(4,_),(5,_),(7,_)] [((0,9),_),((4,0),_),((7,0),_)] [(0,9)] [(0,9)]) kp ?_
 refine bu 5 [53,54,55,56,57] [(0,9)] ae ae rfl (aK rfl) (rfl:_=[_,_,_,_,_]) (rfl:_=[_,_]) ?_
 refine ap (_,[]) (fun τ=> aR _ aa rfl rfl rfl rfl) ?_
 refine el rfl ?_
 refine ap (_,[]) (fun τ=> aC _ (rfl:_=AV.ptr _ _)) ?_
 refine eo rfl ?_
 refine ap (_,[]) (fun τ=> aC _ (rfl:_=AV.v (.int _ _))) ?_
 refine ep rfl ?_
 refine ap (_,[]) (fun τ=> bc _ _ rfl rfl (be ab)) ?_
 refine ew rfl ?_
 refine ap (_,[((0,9),_)]) (fun τ=> (cA aa ar (h2) ob rfl rfl ae)) ?_
 refine eF rfl (bg ⟨rfl,?_⟩)
 refine ai (kd (58,0) _ _ aa rfl ag (by (simp <;> rfl)) ah rfl rfl) ?_
 refine dY rfl (ax (hK14 _ ?_))
 clear hK14;try clear K14
 refine aq (am (dQ rfl (ai (aY (r:=false) _ _ Tryz.underlying9 rfl rfl rfl) (aj (aS rfl rfl (aL (am (ai (aB _ aa rfl (by exact (rfl:_=some [_,_,_,_]))) ?_))))))))
 refine ai (az (9,0) aa rfl rfl) (bO rfl rfl rfl rfl rfl rfl (aj (aH fun K18 hK18=> ?_)))
 refine am (bn rfl (ai (aV _ rfl rfl) (bz rfl rfl rfl (cI rfl rfl rfl (jq rfl rfl rfl (cM rfl (ay rfl rfl (aC _ (rfl:_=AV.ptr _ _)) (ay rfl rfl (bw aa _ _ ar (bV T j2 N hj) tr rfl ae (by simp)) ?_))))))))
 refine ay rfl rfl (aY (r:=true) _ _ Tryz.underlying9 rfl rfl (beq_iff_eq.2 he)) ?_
 refine ai (aG _ _ _ rfl (rfl:_=AV.v (.bool _))) (aj (bC rfl rfl (aH fun K20 hK20=> ?_)))
 refine aN (σ':=aA 145 [(0,_),(1,_),(4,_),(8,_),(9,_)] [((0,9),_),((4,0),_),((58,0),_),((9,0),_)] [(0,9)] [(0,9)]) kp ?_
 refine an (bn rfl (ai (aQ (cB T j2 N hj hT)) ?_))
 refine ax (hK20 _ ?_)
 clear hK20;try clear K20
 refine an (bn rfl (aP rfl (ai (bc _ _ rfl rfl (be ab)) ?_)))
 refine ai (aQ (h3)) (bO rfl rfl rfl rfl rfl rfl (ax (hK18 _ ?_)))
 clear hK18;try clear K18
 refine am (ei rfl (ai (aR _ aa rfl rfl rfl rfl) (ai (aU _ _ aa rfl ag (by (simp <;> rfl)) ah rfl) ?_)))
 refine ai (cE (83,0) _ _ aa rfl rfl ag (by (refine .sl ?_;(simp [cu];done))) ab rfl (rfl) (rfl)) ?_
 refine ai (aB _ aa rfl (by exact (rfl:_=some [_,_,_,_]))) ?_
 exact bO rfl rfl rfl rfl rfl rfl (aj (aE (aX (.inr rfl) rfl (.cellA aa rfl rfl rfl) (Le.outI [] [(83,0)] (.agg rfl (aD .v (aD .v (aD .v (aD (fY rfl rfl rfl rfl) bf))))) rfl rfl rfl tr ob tr rfl))))
theorem zN (hT:T.length≤100000) (lv i:Nat) (hl:lv≤20) (hi:i < T.length) (ht:(dc T i).t=oD) {x y z:Nd} {k j1 j2 j3 j4 j5 j6 j7 j8:Nat} (h1:Spec Tryz.prog 226 (bh [.ptr (0,9) 0, .v (.int .i64 (lv:Int)), .v (.int .i64 1)] (dL T (bT T i) N)) (PO T N (x,j1))) (h2:Spec Tryz.prog 162 (bh [.ptr (0,9) 0, .v (bt [44])] (dL T j1 N)) (bl (.tup []) (dL T j2 N) [(0,9)] [(0,9)])) (h3:Spec Tryz.prog 200 (bh [.ptr (0,9) 0, .v (.int .i64 29)] (dL T j2 N)) (bl (.v (.int .i64 (k:Int))) (dL T j3 N) [(0,9)] [(0,9)])) (h4:Spec Tryz.prog 162 (bh [.ptr (0,9) 0, .v (bt [44])] (dL T j3 N)) (bl (.tup []) (dL T j4 N) [(0,9)] [(0,9)])) (h5:Spec Tryz.prog 226 (bh [.ptr (0,9) 0, .v (.int .i64 (lv:Int)), .v (.int .i64 1)] (dL T j4 N)) (PO T N (y,j5))) (h6:Spec Tryz.prog 162 (bh [.ptr (0,9) 0, .v (bt [44])] (dL T j5 N)) (bl (.tup []) (dL T j6 N) [(0,9)] [(0,9)])) (h7:Spec Tryz.prog 226 (bh [.ptr (0,9) 0, .v (.int .i64 (lv:Int)), .v (.int .i64 1)] (dL T j6 N)) (PO T N (z,j7))) (h8:Spec Tryz.prog 162 (bh [.ptr (0,9) 0, .v (bt [59])] (dL T j7 N)) (bl (.tup []) (dL T j8 N) [(0,9)] [(0,9)])):
  Spec Tryz.prog 202 (bh [.ptr (0,9) 0, .v (.int .i64 (lv:Int))] (dL T i N)) (PO T N (nd 4 k [] [x,y,z],j8)):=by
 have hnx:=bV T i N hi
 have hn:ee T i=false:=fB (by rw [ht];rfl)
 rw [ht] at hnx
 refine Spec.ofNI Tryz.func202 rfl Tryz.ntmps202 rfl ?_
 refine am (ai (az (4,0) aa rfl rfl) (aj (am (bn rfl (ai (bw aa _ _ ar (hnx) tr rfl ae (by simp)) ?_)))))
 refine jp rfl (aj (am (ai (aB _ aa rfl (by exact (rfl:_=some [_,_,_,_]))) ?_)))
 refine ai (az (6,0) aa rfl rfl) (bO rfl rfl rfl rfl rfl rfl (aj (aq (am (bn rfl (ai (bw aa _ _ ar (dK T i N hi) tr rfl ae (by simp)) ?_))))))
 refine aj (aS rfl hn (aL (aq (am (ai (aU _ _ aa rfl ag (by (simp <;> rfl)) ah rfl) ?_)))))
 refine dQ rfl (ai (aF aa al (cH zh 9 rfl ab oD) rfl rfl) ?_)
 refine ai (da (r:=false) _ rfl rfl) (aj (aS rfl rfl (aL (am (bn rfl (ai (aQ (cB T i N hi hT)) ?_))))))
 refine aj (aH fun K9 hK9=> ?_)
 refine aq ?_
 refine aN (σ':=aA 145 [(0,_),(1,_),(4,_),(5,_),(6,_)] [((0,9),_),((4,0),_),((6,0),_)] [(0,9)] [(0,9)]) kp ?_
 refine an (dQ rfl (aj (au (aq (am (ai (aY (r:=false) _ _ Tryz.underlying9 rfl rfl rfl) (ci rfl (aj (aS rfl rfl (an ?_))))))))))
 refine ai (aY (r:=false) _ _ Tryz.underlying9 rfl rfl rfl) (ci rfl (aj (aS rfl rfl (am (ai (aY (r:=true) _ _ Tryz.underlying9 rfl rfl rfl) (ci rfl (aj (bC rfl rfl (aH fun K14 hK14=> ?_)))))))))
 refine an (bn rfl (aP rfl (ai (aQ (h1)) (ai (az (10,0) aa rfl rfl) (bO rfl rfl rfl rfl rfl rfl (ax (hK14 _ ?_)))))))
 clear hK14;try clear K14
 refine aH fun K15 hK15=> ?_
 refine an (bn rfl (ai (aQ (h2)) (ax (hK15 _ ?_))))
 clear hK15;try clear K15
 refine aH fun K16 hK16=> ?_
 refine an (bn rfl (ai (aQ (h3)) (ba rfl (ax (hK16 _ ?_)))))
 clear hK16;try clear K16
 refine aH fun K17 hK17=> ?_
 refine aN (σ':=aA 145 [(0,_),(1,_),(4,_),(6,_),(10,_),(11,_)] [((0,9),_),((4,0),_),((6,0),_),((10,0),_)] [(0,9)] [(0,9)]) kp ?_
 refine an (bn rfl (ai (aQ (h4)) (ax (hK17 _ ?_))))
 clear hK17;try clear K17
 refine aH fun K18 hK18=> ?_
 refine an (bn rfl (aP rfl (ai (aQ (h5)) (ai (az (12,0) aa rfl rfl) (bO rfl rfl rfl rfl rfl rfl (ax (hK18 _ ?_)))))))
 clear hK18;try clear K18
 refine aH fun K19 hK19=> ?_
 refine an (bn rfl (ai (aQ (h6)) (ax (hK19 _ ?_))))
 clear hK19;try clear K19
 refine aN (σ':=aA 145 [(0,_),(1,_),(4,_),(6,_),(10,_),(11,_),(12,_)] [((0,9),_),((4,0),_),((6,0),_),((10,0),_),((12,0),_)] [(0,9)] [(0,9)]) kp ?_
 refine bu 7 [101,102,103,104,105,106,107] [(0,9)] ae ae rfl (aK rfl) (rfl:_=[_,_,_,_,_,_,_]) (rfl:_=[_,_]) ?_
 refine ap (_,[]) (fun τ=> aC _ (rfl:_=AV.v (.int _ _))) ?_
 refine el rfl ?_
 refine ap (_,[]) (fun τ=> aR _ aa rfl rfl rfl rfl) ?_
 refine eo rfl ?_
 refine ap (_,[]) (fun τ=> aR _ aa rfl rfl rfl rfl) ?_
 refine ep rfl ?_
 refine ap (_,[]) (fun τ=> aC _ (rfl:_=AV.ptr _ _)) ?_
 refine ew rfl ?_
 refine ap (_,[]) (fun τ=> aC _ (rfl:_=AV.v (.int _ _))) ?_
 refine eF rfl ?_
 refine ap (_,[((0,9),_)]) (fun τ=> (cA aa ar (h7) ob rfl rfl ae)) ?_
 refine eV rfl ?_
 refine ap (_,[]) (fun τ=> aU _ _ aa rfl ag (by (simp;exact ⟨rfl,rfl⟩)) ah rfl) ?_
 refine fF rfl (bg ⟨rfl,?_⟩)
 refine ai (aB _ aa rfl (by exact (rfl:_=some [_,_,_,_]))) ?_
 refine bO rfl rfl rfl rfl rfl rfl (ax (hK9 _ ?_))
 clear hK9;try clear K9
 refine aH fun K20 hK20=> ?_
 refine an (bn rfl (ai (aQ (h8)) (ax (hK20 _ ?_))))
 clear hK20;try clear K20
 exact am (ai (aR _ aa rfl rfl rfl rfl) (bO rfl rfl rfl rfl rfl rfl (aj (aE (aX (.inr rfl) rfl (.cellA aa rfl rfl rfl) (Le.outI [] [] (.agg rfl lz) rfl rfl rfl trivial ob tr rfl))))))
theorem wP (hT:T.length≤100000) (lv i:Nat) (hl:lv≤20) (hi:i < T.length) (ht:(dc T i).t=gI) {k j1 j2:Nat} (h1:Spec Tryz.prog 200 (bh [.ptr (0,9) 0, .v (.int .i64 7)] (dL T (bT T i) N)) (bl (.v (.int .i64 (k:Int))) (dL T j1 N) [(0,9)] [(0,9)])) (h2:Spec Tryz.prog 162 (bh [.ptr (0,9) 0, .v (bt [59])] (dL T j1 N)) (bl (.tup []) (dL T j2 N) [(0,9)] [(0,9)])):
  Spec Tryz.prog 202 (bh [.ptr (0,9) 0, .v (.int .i64 (lv:Int))] (dL T i N)) (PO T N (nd 5 k [] [],j2)):=by
 have hnx:=bV T i N hi
 have hn:ee T i=false:=fB (by rw [ht];rfl)
 rw [ht] at hnx
 refine Spec.ofNI Tryz.func202 rfl Tryz.ntmps202 rfl ?_
 refine am (ai (az (4,0) aa rfl rfl) (aj (am (bn rfl (ai (bw aa _ _ ar (hnx) tr rfl ae (by simp)) ?_)))))
 refine jp rfl (aj (am (ai (aB _ aa rfl (by exact (rfl:_=some [_,_,_,_]))) ?_)))
 refine ai (az (6,0) aa rfl rfl) (bO rfl rfl rfl rfl rfl rfl (aj (aq (am (bn rfl (ai (bw aa _ _ ar (dK T i N hi) tr rfl ae (by simp)) ?_))))))
 refine aj (aS rfl hn (aL (aq (am (ai (aU _ _ aa rfl ag (by (simp <;> rfl)) ah rfl) ?_)))))
 refine dQ rfl (ai (aF aa al (cH zh 9 rfl ab gI) rfl rfl) ?_)
 refine ai (da (r:=false) _ rfl rfl) (aj (aS rfl rfl (aL (am (bn rfl (ai (aQ (cB T i N hi hT)) ?_))))))
 refine aj (aH fun K9 hK9=> ?_)
 refine aq ?_
 refine aN (σ':=aA 145 [(0,_),(1,_),(4,_),(5,_),(6,_)] [((0,9),_),((4,0),_),((6,0),_)] [(0,9)] [(0,9)]) kp ?_
 refine an (dQ rfl (aj (au (aq (am (ai (aY (r:=false) _ _ Tryz.underlying9 rfl rfl rfl) (ci rfl (aj (aS rfl rfl (an ?_))))))))))
 refine ai (aY (r:=false) _ _ Tryz.underlying9 rfl rfl rfl) (ci rfl (aj (aS rfl rfl (am (ai (aY (r:=false) _ _ Tryz.underlying9 rfl rfl rfl) (ci rfl (aj (aS rfl rfl (am (ai (aY (r:=true) _ _ Tryz.underlying9 rfl rfl rfl) ?_))))))))))
 refine ci rfl (aj (bC rfl rfl (an (bn rfl (ai (aQ (h1)) (ai (aB _ aa rfl (by exact (rfl:_=some [_,_,_,_]))) ?_))))))
 refine bO rfl rfl rfl rfl rfl rfl (ax (hK9 _ ?_))
 clear hK9;try clear K9
 refine aH fun K15 hK15=> ?_
 refine an (bn rfl (ai (aQ (h2)) (ax (hK15 _ ?_))))
 clear hK15;try clear K15
 refine aq ?_
 refine aN (σ':=aA 145 [(4,_),(6,_)] [((4,0),_),((6,0),_),((0,9),_)] [(0,9)] [(0,9)]) kp ?_
 exact an (ai (aR _ aa rfl rfl rfl rfl) (bO rfl rfl rfl rfl rfl rfl (aj (aE (aX (.inr rfl) rfl (.cellA aa rfl rfl rfl) (Le.outI [] [] (.agg rfl lz) rfl rfl rfl trivial ob tr rfl))))))
theorem vr (hT:T.length≤100000) (lv i:Nat) (hl:lv≤20) (hi:i < T.length) (ht:(dc T i).t=ku) {k j1 j2:Nat} (h1:Spec Tryz.prog 200 (bh [.ptr (0,9) 0, .v (.int .i64 7)] (dL T (bT T i) N)) (bl (.v (.int .i64 (k:Int))) (dL T j1 N) [(0,9)] [(0,9)])) (h2:Spec Tryz.prog 162 (bh [.ptr (0,9) 0, .v (bt [59])] (dL T j1 N)) (bl (.tup []) (dL T j2 N) [(0,9)] [(0,9)])):
  Spec Tryz.prog 202 (bh [.ptr (0,9) 0, .v (.int .i64 (lv:Int))] (dL T i N)) (PO T N (nd 6 k [] [],j2)):=by
 have hnx:=bV T i N hi
 have hn:ee T i=false:=fB (by rw [ht];rfl)
 rw [ht] at hnx
 refine Spec.ofNI Tryz.func202 rfl Tryz.ntmps202 rfl ?_
 refine am (ai (az (4,0) aa rfl rfl) (aj (am (bn rfl (ai (bw aa _ _ ar (hnx) tr rfl ae (by simp)) ?_)))))
 refine jp rfl (aj (am (ai (aB _ aa rfl (by exact (rfl:_=some [_,_,_,_]))) ?_)))
 refine ai (az (6,0) aa rfl rfl) (bO rfl rfl rfl rfl rfl rfl (aj (aq (am (bn rfl (ai (bw aa _ _ ar (dK T i N hi) tr rfl ae (by simp)) ?_))))))
 refine aj (aS rfl hn (aL (aq (am (ai (aU _ _ aa rfl ag (by (simp <;> rfl)) ah rfl) ?_)))))
 refine dQ rfl (ai (aF aa al (cH zh 9 rfl ab ku) rfl rfl) ?_)
 refine ai (da (r:=false) _ rfl rfl) (aj (aS rfl rfl (aL (am (bn rfl (ai (aQ (cB T i N hi hT)) ?_))))))
 refine aj (aH fun K9 hK9=> ?_)
 refine aq ?_
 refine aN (σ':=aA 145 [(0,_),(1,_),(4,_),(5,_),(6,_)] [((0,9),_),((4,0),_),((6,0),_)] [(0,9)] [(0,9)]) kp ?_
 refine an (dQ rfl (aj (au (aq (am (ai (aY (r:=false) _ _ Tryz.underlying9 rfl rfl rfl) (ci rfl (aj (aS rfl rfl (an ?_))))))))))
 refine ai (aY (r:=false) _ _ Tryz.underlying9 rfl rfl rfl) (ci rfl (aj (aS rfl rfl (am (ai (aY (r:=false) _ _ Tryz.underlying9 rfl rfl rfl) (ci rfl (aj (aS rfl rfl (am (ai (aY (r:=false) _ _ Tryz.underlying9 rfl rfl rfl) ?_))))))))))
 refine ci rfl (aj (aS rfl rfl (am (ai (aY (r:=true) _ _ Tryz.underlying9 rfl rfl rfl) (ci rfl (aj (bC rfl rfl (an (bn rfl (ai (aQ (h1)) ?_))))))))))
 refine ai (aB _ aa rfl (by exact (rfl:_=some [_,_,_,_]))) ?_
 refine bO rfl rfl rfl rfl rfl rfl (ax (hK9 _ ?_))
 clear hK9;try clear K9
 refine aH fun K16 hK16=> ?_
 refine aN (σ':=aA 145 [(0,_),(4,_),(6,_)] [((0,9),_),((4,0),_),((6,0),_)] [(0,9)] [(0,9)]) kp ?_
 refine an (bn rfl (ai (aQ (h2)) (ax (hK16 _ ?_))))
 clear hK16;try clear K16
 exact am (ai (aR _ aa rfl rfl rfl rfl) (bO rfl rfl rfl rfl rfl rfl (aj (aE (aX (.inr rfl) rfl (.cellA aa rfl rfl rfl) (Le.outI [] [] (.agg rfl lz) rfl rfl rfl trivial ob tr rfl))))))
theorem xr (hT:T.length≤100000) (lv i:Nat) (hl:lv≤20) (hi:i < T.length) (ht:(dc T i).t=lJ) {x y:Nd} {j1 j2 j3 j4:Nat} (h1:Spec Tryz.prog 226 (bh [.ptr (0,9) 0, .v (.int .i64 (lv:Int)), .v (.int .i64 1)] (dL T (bT T i) N)) (PO T N (x,j1))) (h2:Spec Tryz.prog 162 (bh [.ptr (0,9) 0, .v (bt [44])] (dL T j1 N)) (bl (.tup []) (dL T j2 N) [(0,9)] [(0,9)])) (h3:Spec Tryz.prog 226 (bh [.ptr (0,9) 0, .v (.int .i64 (lv:Int)), .v (.int .i64 1)] (dL T j2 N)) (PO T N (y,j3))) (h4:Spec Tryz.prog 162 (bh [.ptr (0,9) 0, .v (bt [59])] (dL T j3 N)) (bl (.tup []) (dL T j4 N) [(0,9)] [(0,9)])):
  Spec Tryz.prog 202 (bh [.ptr (0,9) 0, .v (.int .i64 (lv:Int))] (dL T i N)) (PO T N (nd 8 0 [] [x,y],j4)):=by
 have hnx:=bV T i N hi
 have hn:ee T i=false:=fB (by rw [ht];rfl)
 rw [ht] at hnx
 refine Spec.ofNI Tryz.func202 rfl Tryz.ntmps202 rfl ?_
 refine am (ai (az (4,0) aa rfl rfl) (aj (am (bn rfl (ai (bw aa _ _ ar (hnx) tr rfl ae (by simp)) ?_)))))
 refine jp rfl (aj (am (ai (aB _ aa rfl (by exact (rfl:_=some [_,_,_,_]))) ?_)))
 refine ai (az (6,0) aa rfl rfl) (bO rfl rfl rfl rfl rfl rfl (aj (aq (am (bn rfl (ai (bw aa _ _ ar (dK T i N hi) tr rfl ae (by simp)) ?_))))))
 refine aj (aS rfl hn (aL (aq (am (ai (aU _ _ aa rfl ag (by (simp <;> rfl)) ah rfl) ?_)))))
 refine dQ rfl (ai (aF aa al (cH zh 9 rfl ab lJ) rfl rfl) ?_)
 refine ai (da (r:=false) _ rfl rfl) (aj (aS rfl rfl (aL (am (bn rfl (ai (aQ (cB T i N hi hT)) ?_))))))
 refine aj (aH fun K9 hK9=> ?_)
 refine aq ?_
 refine aN (σ':=aA 145 [(0,_),(1,_),(4,_),(5,_),(6,_)] [((0,9),_),((4,0),_),((6,0),_)] [(0,9)] [(0,9)]) kp ?_
 refine an (dQ rfl (aj (au (aq (am (ai (aY (r:=false) _ _ Tryz.underlying9 rfl rfl rfl) (ci rfl (aj (aS rfl rfl (an ?_))))))))))
 refine ai (aY (r:=false) _ _ Tryz.underlying9 rfl rfl rfl) (ci rfl (aj (aS rfl rfl (am (ai (aY (r:=false) _ _ Tryz.underlying9 rfl rfl rfl) (ci rfl (aj (aS rfl rfl (am (ai (aY (r:=false) _ _ Tryz.underlying9 rfl rfl rfl) ?_))))))))))
 refine ci rfl (aj (aS rfl rfl (am (ai (aY (r:=false) _ _ Tryz.underlying9 rfl rfl rfl) (ci rfl (aj (aS rfl rfl (am (ai (aY (r:=true) _ _ Tryz.underlying9 rfl rfl rfl) (ci rfl ?_))))))))))
 refine aj (bC rfl rfl (aH fun K17 hK17=> ?_))
 refine an (bn rfl (aP rfl (ai (aQ (h1)) (ai (az (13,0) aa rfl rfl) (bO rfl rfl rfl rfl rfl rfl (ax (hK17 _ ?_)))))))
 clear hK17;try clear K17
 refine aH fun K18 hK18=> ?_
 refine aN (σ':=aA 145 [(0,_),(1,_),(4,_),(6,_),(13,_)] [((0,9),_),((4,0),_),((6,0),_),((13,0),_)] [(0,9)] [(0,9)]) kp ?_
 refine an (bn rfl (ai (aQ (h2)) (ax (hK18 _ ?_))))
 clear hK18;try clear K18
 refine bu 4 [126,127,128,129] [(0,9)] ae ae rfl (aK rfl) (rfl:_=[_,_,_,_]) (rfl:_=[_,_,_]) ?_
 refine ap (_,[]) (fun τ=> aR _ aa rfl rfl rfl rfl) ?_
 refine el rfl ?_
 refine ap (_,[]) (fun τ=> aC _ (rfl:_=AV.ptr _ _)) ?_
 refine eo rfl ?_
 refine ap (_,[]) (fun τ=> aC _ (rfl:_=AV.v (.int _ _))) ?_
 refine ep rfl ?_
 refine ap (_,[((0,9),_)]) (fun τ=> (cA aa ar (h3) ob rfl rfl ae)) ?_
 refine ew rfl (bg ⟨rfl,?_⟩)
 refine ai (aU _ _ aa rfl ag (by (simp <;> rfl)) ah rfl) ?_
 refine ai (aB _ aa rfl (by exact (rfl:_=some [_,_,_,_]))) ?_
 refine bO rfl rfl rfl rfl rfl rfl (ax (hK9 _ ?_))
 clear hK9;try clear K9
 refine aH fun K19 hK19=> ?_
 refine an (bn rfl (ai (aQ (h4)) (ax (hK19 _ ?_))))
 clear hK19;try clear K19
 exact am (ai (aR _ aa rfl rfl rfl rfl) (bO rfl rfl rfl rfl rfl rfl (aj (aE (aX (.inr rfl) rfl (.cellA aa rfl rfl rfl) (Le.outI [] [] (.agg rfl lz) rfl rfl rfl trivial ob tr rfl))))))
theorem Ay (hT:T.length≤100000) (lv i:Nat) (hl:lv≤20) (hi:i < T.length) (ht:(dc T i).t=nV) {x:Nd} {j1 j2:Nat} (h1:Spec Tryz.prog 226 (bh [.ptr (0,9) 0, .v (.int .i64 (lv:Int)), .v (.int .i64 1)] (dL T (bT T i) N)) (PO T N (x,j1))) (h2:Spec Tryz.prog 162 (bh [.ptr (0,9) 0, .v (bt [59])] (dL T j1 N)) (bl (.tup []) (dL T j2 N) [(0,9)] [(0,9)])):
  Spec Tryz.prog 202 (bh [.ptr (0,9) 0, .v (.int .i64 (lv:Int))] (dL T i N)) (PO T N (nd 9 0 [] [x],j2)):=by
 have hnx:=bV T i N hi
 have hn:ee T i=false:=fB (by rw [ht];rfl)
 rw [ht] at hnx
 refine Spec.ofNI Tryz.func202 rfl Tryz.ntmps202 rfl ?_
 refine am (ai (az (4,0) aa rfl rfl) (aj (am (bn rfl (ai (bw aa _ _ ar (hnx) tr rfl ae (by simp)) ?_)))))
 refine jp rfl (aj (am (ai (aB _ aa rfl (by exact (rfl:_=some [_,_,_,_]))) ?_)))
 refine ai (az (6,0) aa rfl rfl) (bO rfl rfl rfl rfl rfl rfl (aj (aq (am (bn rfl (ai (bw aa _ _ ar (dK T i N hi) tr rfl ae (by simp)) ?_))))))
 refine aj (aS rfl hn (aL (aq (am (ai (aU _ _ aa rfl ag (by (simp <;> rfl)) ah rfl) ?_)))))
 refine dQ rfl (ai (aF aa al (cH zh 9 rfl ab nV) rfl rfl) ?_)
 refine ai (da (r:=false) _ rfl rfl) (aj (aS rfl rfl (aL (am (bn rfl (ai (aQ (cB T i N hi hT)) ?_))))))
 refine aj (aH fun K9 hK9=> ?_)
 refine aq ?_
 refine aN (σ':=aA 145 [(0,_),(1,_),(4,_),(5,_),(6,_)] [((0,9),_),((4,0),_),((6,0),_)] [(0,9)] [(0,9)]) kp ?_
 refine an (dQ rfl (aj (au (aq (am (ai (aY (r:=false) _ _ Tryz.underlying9 rfl rfl rfl) (ci rfl (aj (aS rfl rfl (an ?_))))))))))
 refine ai (aY (r:=false) _ _ Tryz.underlying9 rfl rfl rfl) (ci rfl (aj (aS rfl rfl (am (ai (aY (r:=false) _ _ Tryz.underlying9 rfl rfl rfl) (ci rfl (aj (aS rfl rfl (am (ai (aY (r:=false) _ _ Tryz.underlying9 rfl rfl rfl) ?_))))))))))
 refine ci rfl (aj (aS rfl rfl (am (ai (aY (r:=false) _ _ Tryz.underlying9 rfl rfl rfl) (ci rfl (aj (aS rfl rfl (am (ai (aY (r:=false) _ _ Tryz.underlying9 rfl rfl rfl) (ci rfl ?_))))))))))
 refine aj (aS rfl rfl (am (ai (aY (r:=true) _ _ Tryz.underlying9 rfl rfl rfl) (ci rfl (aj (bC rfl rfl ?_))))))
 refine aN (σ':=aA 145 [(0,_),(1,_),(4,_),(6,_)] [((0,9),_),((4,0),_),((6,0),_)] [(0,9)] [(0,9)]) kp ?_
 refine an (bn rfl (aP rfl (ai (aQ (h1)) (ai (aU _ _ aa rfl ag (by (simp <;> rfl)) ah rfl) ?_))))
 refine ai (aB _ aa rfl (by exact (rfl:_=some [_,_,_,_]))) ?_
 refine bO rfl rfl rfl rfl rfl rfl (ax (hK9 _ ?_))
 clear hK9;try clear K9
 refine aH fun K18 hK18=> ?_
 refine an (bn rfl (ai (aQ (h2)) (ax (hK18 _ ?_))))
 clear hK18;try clear K18
 exact am (ai (aR _ aa rfl rfl rfl rfl) (bO rfl rfl rfl rfl rfl rfl (aj (aE (aX (.inr rfl) rfl (.cellA aa rfl rfl rfl) (Le.outI [] [] (.agg rfl lz) rfl rfl rfl trivial ob tr rfl))))))
theorem Bu (hT:T.length≤100000) (lv i:Nat) (hl:lv≤20) (hi:i < T.length) (ht:(dc T i).t=nN) {j1:Nat} (h1:Spec Tryz.prog 162 (bh [.ptr (0,9) 0, .v (bt [59])] (dL T (bT T i) N)) (bl (.tup []) (dL T j1 N) [(0,9)] [(0,9)])):
  Spec Tryz.prog 202 (bh [.ptr (0,9) 0, .v (.int .i64 (lv:Int))] (dL T i N)) (PO T N (nd 7 0 [] [],j1)):=by
 have hnx:=bV T i N hi
 have hn:ee T i=false:=fB (by rw [ht];rfl)
 rw [ht] at hnx
 refine Spec.ofNI Tryz.func202 rfl Tryz.ntmps202 rfl ?_
 refine am (ai (az (4,0) aa rfl rfl) (aj (am (bn rfl (ai (bw aa _ _ ar (hnx) tr rfl ae (by simp)) ?_)))))
 refine jp rfl (aj (am (ai (aB _ aa rfl (by exact (rfl:_=some [_,_,_,_]))) ?_)))
 refine ai (az (6,0) aa rfl rfl) (bO rfl rfl rfl rfl rfl rfl (aj (aq (am (bn rfl (ai (bw aa _ _ ar (dK T i N hi) tr rfl ae (by simp)) ?_))))))
 refine aj (aS rfl hn (aL (aq (am (ai (aU _ _ aa rfl ag (by (simp <;> rfl)) ah rfl) ?_)))))
 refine dQ rfl (ai (aF aa al (cH zh 9 rfl ab nN) rfl rfl) ?_)
 refine ai (da (r:=false) _ rfl rfl) (aj (aS rfl rfl (aL (am (bn rfl (ai (aQ (cB T i N hi hT)) ?_))))))
 refine aj (aq (aq ?_))
 refine aN (σ':=aA 145 [(0,_),(1,_),(4,_),(5,_),(6,_)] [((0,9),_),((4,0),_),((6,0),_)] [(0,9)] [(0,9)]) kp ?_
 refine an (dQ rfl (aj (au (aq (am (ai (aY (r:=false) _ _ Tryz.underlying9 rfl rfl rfl) (ci rfl (aj (aS rfl rfl (an ?_))))))))))
 refine ai (aY (r:=false) _ _ Tryz.underlying9 rfl rfl rfl) (ci rfl (aj (aS rfl rfl (am (ai (aY (r:=false) _ _ Tryz.underlying9 rfl rfl rfl) (ci rfl (aj (aS rfl rfl (am (ai (aY (r:=false) _ _ Tryz.underlying9 rfl rfl rfl) ?_))))))))))
 refine ci rfl (aj (aS rfl rfl (am (ai (aY (r:=false) _ _ Tryz.underlying9 rfl rfl rfl) (ci rfl (aj (aS rfl rfl (am (ai (aY (r:=false) _ _ Tryz.underlying9 rfl rfl rfl) (ci rfl ?_))))))))))
 refine aj (aS rfl rfl (am (ai (aY (r:=false) _ _ Tryz.underlying9 rfl rfl rfl) (ci rfl (aj (aS rfl rfl (aq ?_)))))))
 refine aN (σ':=aA 145 [(0,_),(4,_),(6,_),(45,_)] [((0,9),_),((4,0),_),((6,0),_)] [(0,9)] [(0,9)]) kp ?_
 refine an (ai (aY (r:=true) _ _ Tryz.underlying9 rfl rfl rfl) (ci rfl (aj (bC rfl rfl (an (bz rfl rfl rfl (bO rfl rfl rfl rfl rfl rfl (ga (aH fun K19 hK19=> ?_)))))))))
 refine an (bn rfl (ai (aQ (h1)) (ax (hK19 _ ?_))))
 clear hK19;try clear K19
 exact am (ai (aR _ aa rfl rfl rfl rfl) (bO rfl rfl rfl rfl rfl rfl (aj (aE (aX (.inr rfl) rfl (.cellA aa rfl rfl rfl) (Le.outI [] [] (.agg rfl lz) rfl rfl rfl trivial ob tr rfl))))))
theorem zR (hT:T.length≤100000) (lv i:Nat) (hl:lv≤20) (hi:i < T.length) (ht:(dc T i).t=ow) {j1:Nat} (h1:Spec Tryz.prog 162 (bh [.ptr (0,9) 0, .v (bt [59])] (dL T (bT T i) N)) (bl (.tup []) (dL T j1 N) [(0,9)] [(0,9)])):
  Spec Tryz.prog 202 (bh [.ptr (0,9) 0, .v (.int .i64 (lv:Int))] (dL T i N)) (PO T N (nd 10 0 [] [],j1)):=by
 have hnx:=bV T i N hi
 have hn:ee T i=false:=fB (by rw [ht];rfl)
 rw [ht] at hnx
 refine Spec.ofNI Tryz.func202 rfl Tryz.ntmps202 rfl ?_
 refine am (ai (az (4,0) aa rfl rfl) (aj (am (bn rfl (ai (bw aa _ _ ar (hnx) tr rfl ae (by simp)) ?_)))))
 refine jp rfl (aj (am (ai (aB _ aa rfl (by exact (rfl:_=some [_,_,_,_]))) ?_)))
 refine ai (az (6,0) aa rfl rfl) (bO rfl rfl rfl rfl rfl rfl (aj (aq (am (bn rfl (ai (bw aa _ _ ar (dK T i N hi) tr rfl ae (by simp)) ?_))))))
 refine aj (aS rfl hn (aL (aq (am (ai (aU _ _ aa rfl ag (by (simp <;> rfl)) ah rfl) ?_)))))
 refine dQ rfl (ai (aF aa al (cH zh 9 rfl ab ow) rfl rfl) ?_)
 refine ai (da (r:=false) _ rfl rfl) (aj (aS rfl rfl (aL (am (bn rfl (ai (aQ (cB T i N hi hT)) ?_))))))
 refine aj (aq (aq ?_))
 refine aN (σ':=aA 145 [(0,_),(1,_),(4,_),(5,_),(6,_)] [((0,9),_),((4,0),_),((6,0),_)] [(0,9)] [(0,9)]) kp ?_
 refine an (dQ rfl (aj (au (aq (am (ai (aY (r:=false) _ _ Tryz.underlying9 rfl rfl rfl) (ci rfl (aj (aS rfl rfl (an ?_))))))))))
 refine ai (aY (r:=false) _ _ Tryz.underlying9 rfl rfl rfl) (ci rfl (aj (aS rfl rfl (am (ai (aY (r:=false) _ _ Tryz.underlying9 rfl rfl rfl) (ci rfl (aj (aS rfl rfl (am (ai (aY (r:=false) _ _ Tryz.underlying9 rfl rfl rfl) ?_))))))))))
 refine ci rfl (aj (aS rfl rfl (am (ai (aY (r:=false) _ _ Tryz.underlying9 rfl rfl rfl) (ci rfl (aj (aS rfl rfl (am (ai (aY (r:=false) _ _ Tryz.underlying9 rfl rfl rfl) (ci rfl ?_))))))))))
 refine aj (aS rfl rfl (am (ai (aY (r:=false) _ _ Tryz.underlying9 rfl rfl rfl) (ci rfl (aj (aS rfl rfl (aq ?_)))))))
 refine aN (σ':=aA 145 [(0,_),(4,_),(6,_),(45,_)] [((0,9),_),((4,0),_),((6,0),_)] [(0,9)] [(0,9)]) kp ?_
 refine an (ai (aY (r:=false) _ _ Tryz.underlying9 rfl rfl rfl) (ci rfl (aj (aS rfl rfl (an (bz rfl rfl rfl (bO rfl rfl rfl rfl rfl rfl (ga (aH fun K19 hK19=> ?_)))))))))
 refine an (bn rfl (ai (aQ (h1)) (ax (hK19 _ ?_))))
 clear hK19;try clear K19
 exact am (ai (aR _ aa rfl rfl rfl rfl) (bO rfl rfl rfl rfl rfl rfl (aj (aE (aX (.inr rfl) rfl (.cellA aa rfl rfl rfl) (Le.outI [] [] (.agg rfl lz) rfl rfl rfl trivial ob tr rfl))))))
end

def kR (l:List Nd):List PV:=l.flatMap Nd.row
theorem bM (l:List Nd):(kR l).length=l.length*4:=mz Nd.row 4 (fun _=> rfl) l
theorem sH (l:List Nd) (d:Nd):kR l++d.row=kR (l++[d]):=mo Nd.row l d
theorem oM {T:List Tk} {g lv i:Nat} {r:List Nd×Nat} (h:lF T g lv i=some r): ∃ f,g=f+1∧((dc T i).t=[125]∧r=([],i)∨(dc T i).t≠[125]∧ ∃ d j l k,vK T f lv i=some (d,j)∧lF T f lv j=some (l,k)∧r=(d::l,k)):=by
 cases g with
 | zero=> simp [lF] at h
 | succ f=>
  refine ⟨f,rfl,?_⟩
  unfold lF at h
  split at h
  ·rename_i ht;exact .inl ⟨ht,(Option.some.inj h).symm⟩
  ·rename_i ht
   simp only [Option.bind_eq_bind,Option.bind_eq_some_iff,Option.pure_def] at h
   obtain ⟨⟨d,j⟩,hd,⟨l,k⟩,hl,h⟩:=h
   exact .inr ⟨ht,d,j,l,k,hd,hl,(Option.some.inj h).symm⟩
section
variable {T:List Tk} {N:List Tx}
theorem yK (hT:T.length≤100000) (f:Nat) (hf:f≤2000000) (ih: ∀ g,g≤f→PS T N g) (lv i:Nat) (r:Nd×Nat) (hl:lv≤21) (hi:i < T.length) (h:oX T (f+1) lv i=some r):
  r.2 < T.length∧Spec Tryz.prog 164 (bh [.ptr (0,9) 0, .v (.int .i64 (lv:Int))] (dL T i N)) (PO T N r):=by
 unfold oX at h
 simp only [Option.bind_eq_bind,Option.bind_eq_some_iff,Option.pure_def,Option.some.injEq] at h
 obtain ⟨j,hj,⟨L,j2⟩,hL,j3,hj3,rfl⟩:=h
 have ho:=jw hj
 have hjl:=iC ho.2 hi
 have hl':=ho.1
 have hopen:=mQ T i j N [123] lv hi hT hj
 simp only at hj3 ⊢
 have hend: ∀ (g i:Nat) (r:List Nd×Nat),g≤f→i < T.length→lF T g lv i=some r→r.2 < T.length:=by
  intro g
  induction g with
  | zero=> intro i r _ _ h;simp [lF] at h
  | succ g ihg=>
   intro i r hg hi h
   obtain ⟨g',hg',h | ⟨_,d,j,l,k,hd,hm,h⟩⟩:=oM h
   ·rw [h.2];exact hi
   ·obtain rfl:g=g':=by omega
    rw [h]
    exact ihg j (l,k) ab ((ih g ab).stm _ _ _ hl' hi hd).1 hm
 have hj2:=hend f j _ (Nat.le_refl _) hjl hL
 refine ⟨iC hj3 hj2,?_⟩
 refine Spec.ofNI Tryz.func164 rfl Tryz.ntmps164 rfl ?_
 refine am (ai (az (4,0) aa rfl rfl) (aj (am (ai (aB _ aa rfl (by exact (rfl:_=some [_,_,_,_]))) ?_))))
 refine ai (az (5,0) aa rfl rfl) (bO rfl rfl rfl rfl rfl rfl (aj (aq ?_)))
 refine aN (Le.nilB (5,0) 3 (60,0) 71 4 rfl rfl rfl) ?_
 refine an (bn rfl (aP rfl (ai (aQ (hopen)) (aj (aH fun K4 hK4=> ?_)))))
 refine au ?_
 refine bD (α:=Nat×List Nd×Nat) (fun z=> z.1≤f∧z.2.1.length+z.1=f∧z.2.2 < T.length∧ ∃ l,lF T z.1 lv z.2.2=some (l,j2)∧L=z.2.1++l) 31 [(0,_),(1,_),(4,_),(5,_)] [((4,0),_)] (fun z=> []) (fun z=> [((0,9), .box 222 [.sl T.length (qT T), .v (.int .i64 (z.2.2:Int)), .v (.int .i64 0), .v (.int .i64 0), .sl N.length (ea N)]),((5,0), .box 71 [.v (.int .i64 11), .v (.int .i64 0), .v (bt []), .ref (60,0) 0 z.2.1.length]),((60,0), .row 71 4 (kR z.2.1))]) [(0,9)] [(0,9)] (fun z=> z.1) (f,[],j) ?_ (by
  refine Le.mkJ [] [] rfl ?_ ?_ trivial tr ?_
  ·exact ⟨(iP rfl),(iV rfl),(iP rfl),(iP rfl),trivial⟩
  ·exact ⟨(ce rfl rfl rfl),(di rfl rfl rfl rfl lz),(di rfl rfl rfl rfl (od (od (aD (by repeat' (exact Lv.v)) lz)))),(cw rfl rfl rfl ag),trivial⟩
  ·kernel_rfl) ?_
 ·exact ⟨Nat.le_refl _,Nat.zero_add _,hjl,L,hL,rfl⟩
 intro z hz
 obtain ⟨z1,z2,z3⟩:=z
 obtain ⟨hz1,hz2,hz3,l,hz4,hz5⟩:=hz
 obtain ⟨g,rfl,hm⟩:=oM hz4
 simp only at hz1 hz2 hz3 hz5 hm ⊢
 refine aH fun K5 hK5=> ?_
 refine am (bn rfl (ai (aV _ rfl rfl) (bz rfl rfl rfl (cI rfl rfl rfl (jq rfl rfl rfl (cM rfl (ay rfl rfl (aC _ (rfl:_=AV.ptr _ _)) (ay rfl rfl (bw aa _ _ ar (bV T z3 N hz3) tr rfl ae (by simp)) ?_))))))))
 refine ay rfl rfl (qk _ _ Tryz.underlying9 rfl rfl rfl) (ai (aG _ _ _ rfl (rfl:_=AV.v (.bool _))) (aj (aO rfl (fun hc19=> ?_) (fun hc19=> ?_))))
 ·skip
  obtain ⟨_,d,jd,l',k',hd,hm',hr⟩:=hm.resolve_left fun x=> hc19 x.1
  obtain ⟨rfl,rfl⟩:=Prod.mk.inj hr
  obtain ⟨hda,hdb⟩:=(ih g ab).stm _ _ _ hl' hz3 hd
  have hlen:(z2++[d]).length=z2.length+1:=by simp
  refine bB (hK5 _ ?_)
  clear hK5;try clear K5
  refine au ?_
  refine aN (σ':=aA 31 [(0,_),(1,_),(4,_),(5,_)] [((4,0),_),((0,9),_),((5,0),_),((60,0),_)] [(0,9)] [(0,9)]) kp ?_
  refine bu 6 [20,21,22,23,24,25] [(0,9)] ae ae rfl (aK rfl) (rfl:_=[_,_,_,_,_,_]) (rfl:_=[_,_,_]) ?_
  refine ap (_,[]) (fun τ=> aI _ aa rfl rfl rfl) ?_
  refine el rfl ?_
  refine ap (_,[]) (fun τ=> aM _ aa rfl rfl (rfl:_=some (AV.ref _ _ _))) ?_
  refine eo rfl ?_
  refine ap (_,[]) (fun τ=> aC _ (rfl:_=AV.ptr _ _)) ?_
  refine ep rfl ?_
  refine ap (_,[]) (fun τ=> aC _ (rfl:_=AV.v (.int _ _))) ?_
  refine ew rfl ?_
  refine ap (_,[((0,9),_)]) (fun τ=> (cA aa ar (hdb) ob rfl rfl ae)) ?_
  refine eF rfl ?_
  refine ap (_,[]) (fun τ=> aU _ _ aa rfl ag (by (simp <;> rfl)) ah rfl) ?_
  refine eV rfl (bg ⟨rfl,?_⟩)
  refine ai (cE (26,0) _ _ aa rfl rfl (bM _).symm (.sl rfl) ab rfl (sH _ d) hlen.symm) ?_
  refine bz rfl rfl rfl (bO rfl rfl rfl rfl rfl rfl (ax (⟨(g,z2++[d],jd),?_,?_,?_⟩)))
  ·exact ⟨by simp only;omega,by simp only;omega,hda,l',hm',by rw [hz5];simp⟩
  ·skip
   refine Le.mkJ [((60,0),(26,0))] [] rfl ?_ ?_ trivial tr ?_
   ·exact ⟨(cr (id:=(0,9)) rfl),(by repeat' (exact Lv.v)),(cr (id:=(4,0)) rfl),(cr (id:=(5,0)) rfl),trivial⟩
   ·exact ⟨(di rfl rfl rfl rfl (by repeat' (first | exact Lv.v | exact bf | refine aD ?_ ?_))),(di rfl rfl rfl rfl lz),(di rfl rfl rfl rfl (od (od (aD (by repeat' (exact Lv.v)) lz)))),(cw rfl rfl rfl ag),trivial⟩
   ·kernel_rfl
  ·simp only;omega
 ·skip
  obtain ⟨_,hr⟩:=hm.resolve_right fun x=> x.1 hc19
  obtain ⟨rfl,rfl⟩:=Prod.mk.inj hr
  rw [List.append_nil] at hz5
  subst hz5
  have hexp:=fu T j2 j3 N [125] hj2 hT hj3
  refine bK (id (hK4 _ ?_))
  clear hK4;try clear K4
  exact am (bn rfl (ai (aQ (hexp)) (aj (am (ai (aR _ aa rfl rfl rfl rfl) (bO rfl rfl rfl rfl rfl rfl (aj (aE (aX (.inr rfl) rfl (.cellA aa rfl rfl rfl) (Le.outI [] [(60,0)] (.agg rfl (aD .v (aD .v (aD .v (aD (fY rfl rfl (bM _).symm rfl) bf))))) rfl rfl rfl tr ob tr rfl))))))))))
theorem qH {T:List Tk} {most i:Nat} {r:Nat×Nat} (h:ni T most i=some r) (hi:i < T.length):r.2 < T.length:=by
 unfold ni at h
 split at h
 ·rw [← Option.some.inj h];exact dT hi
 ·cases h
theorem xh (hT:T.length≤100000) (f:Nat) (ih:PS T N f) (lv i:Nat) (r:Nd×Nat) (hl:lv≤20) (hi:i < T.length) (h:vK T (f+1) lv i=some r):
  r.2 < T.length∧Spec Tryz.prog 202 (bh [.ptr (0,9) 0, .v (.int .i64 (lv:Int))] (dL T i N)) (PO T N r):=by
 have htl:=dT hi
 have hx:=fun {i:Nat} {r:Nd×Nat} (hi:i < T.length) (h:gh T f lv 1 i=some r)=> wc (N:=N) hT hl hi h
 have hb:=fun {i:Nat} {r:Nd×Nat} (hi:i < T.length) (h:oX T f (lv+1) i=some r)=> ih.blk (lv+1) i r ab hi h
 have he:=fun {i j:Nat} {s:Tx} (hi:i < T.length) (h:fZ T s i=some j)=> And.intro (iC h hi) (fu T i j N s hi hT h)
 have hn:=fun {i most:Nat} {r:Nat×Nat} (hm:most≤1000) (hi:i < T.length) (h:ni T most i=some r)=> And.intro (qH h hi) (ka T i N most hi hT hm r h)
 unfold vK at h
 simp only at h
 by_cases h0:ee T i=true
 ·rw [if_pos h0] at h
  simp only [Option.bind_eq_bind,Option.bind_eq_some_iff,Option.pure_def,Option.some.injEq] at h
  obtain ⟨j1,e1,⟨d,j2⟩,e2,j3,e3,rfl⟩:=h
  obtain ⟨a1,b1⟩:=he htl e1
  obtain ⟨a2,b2⟩:=hx a1 e2
  obtain ⟨a3,b3⟩:=he a2 e3
  exact ⟨a3,uN hT lv i hl hi h0 b1 b2 b3⟩
 rw [if_neg h0] at h
 by_cases h1:(dc T i).t=sZ∨(dc T i).t=jE
 ·rw [if_pos h1] at h
  simp only [Option.bind_eq_bind,Option.bind_eq_some_iff,Option.pure_def] at h
  obtain ⟨⟨c,j1⟩,e1,⟨x,j2⟩,e2,h⟩:=h
  obtain ⟨a1,b1⟩:=hx htl e1
  obtain ⟨a2,b2⟩:=hb a1 e2
  simp only at h
  by_cases hw:(dc T i).t=jE
  ·rw [if_pos hw] at h
   obtain rfl:=Option.some.inj h
   exact ⟨a2,yh hT lv i hl hi hw b1 b2⟩
  ·rw [if_neg hw] at h
   have hf:=h1.resolve_right hw
   by_cases hel:(dc T j2).t=qw
   ·rw [if_pos hel] at h
    simp only [Option.bind_eq_some_iff,Option.some.injEq] at h
    obtain ⟨⟨y,j3⟩,e3,rfl⟩:=h
    obtain ⟨a3,b3⟩:=hb (dT a2) e3
    exact ⟨a3,vJ hT lv i hl hi hf b1 b2 a2 hel b3⟩
   ·rw [if_neg hel] at h
    obtain rfl:=Option.some.inj h
    exact ⟨a2,EC hT lv i hl hi hf b1 b2 a2 hel⟩
 rw [if_neg h1] at h
 by_cases h2:(dc T i).t=oD
 ·rw [if_pos h2] at h
  simp only [Option.bind_eq_bind,Option.bind_eq_some_iff,Option.pure_def,Option.some.injEq] at h
  obtain ⟨⟨x,j1⟩,e1,j2,e2,⟨k,j3⟩,e3,j4,e4,⟨y,j5⟩,e5,j6,e6,⟨z,j7⟩,e7,j8,e8,rfl⟩:=h
  obtain ⟨a1,b1⟩:=hx htl e1
  obtain ⟨a2,b2⟩:=he a1 e2
  obtain ⟨a3,b3⟩:=hn ab a2 e3
  obtain ⟨a4,b4⟩:=he a3 e4
  obtain ⟨a5,b5⟩:=hx a4 e5
  obtain ⟨a6,b6⟩:=he a5 e6
  obtain ⟨a7,b7⟩:=hx a6 e7
  obtain ⟨a8,b8⟩:=he a7 e8
  exact ⟨a8,zN hT lv i hl hi h2 b1 b2 b3 b4 b5 b6 b7 b8⟩
 rw [if_neg h2] at h
 by_cases h3:(dc T i).t=gI
 ·rw [if_pos h3] at h
  simp only [Option.bind_eq_bind,Option.bind_eq_some_iff,Option.pure_def,Option.some.injEq] at h
  obtain ⟨⟨k,j1⟩,e1,j2,e2,rfl⟩:=h
  obtain ⟨a1,b1⟩:=hn ab htl e1
  obtain ⟨a2,b2⟩:=he a1 e2
  exact ⟨a2,wP hT lv i hl hi h3 b1 b2⟩
 rw [if_neg h3] at h
 by_cases h4:(dc T i).t=ku
 ·rw [if_pos h4] at h
  simp only [Option.bind_eq_bind,Option.bind_eq_some_iff,Option.pure_def,Option.some.injEq] at h
  obtain ⟨⟨k,j1⟩,e1,j2,e2,rfl⟩:=h
  obtain ⟨a1,b1⟩:=hn ab htl e1
  obtain ⟨a2,b2⟩:=he a1 e2
  exact ⟨a2,vr hT lv i hl hi h4 b1 b2⟩
 rw [if_neg h4] at h
 by_cases h5:(dc T i).t=lJ
 ·rw [if_pos h5] at h
  simp only [Option.bind_eq_bind,Option.bind_eq_some_iff,Option.pure_def,Option.some.injEq] at h
  obtain ⟨⟨x,j1⟩,e1,j2,e2,⟨y,j3⟩,e3,j4,e4,rfl⟩:=h
  obtain ⟨a1,b1⟩:=hx htl e1
  obtain ⟨a2,b2⟩:=he a1 e2
  obtain ⟨a3,b3⟩:=hx a2 e3
  obtain ⟨a4,b4⟩:=he a3 e4
  exact ⟨a4,xr hT lv i hl hi h5 b1 b2 b3 b4⟩
 rw [if_neg h5] at h
 by_cases h6:(dc T i).t=nV
 ·rw [if_pos h6] at h
  simp only [Option.bind_eq_bind,Option.bind_eq_some_iff,Option.pure_def,Option.some.injEq] at h
  obtain ⟨⟨x,j1⟩,e1,j2,e2,rfl⟩:=h
  obtain ⟨a1,b1⟩:=hx htl e1
  obtain ⟨a2,b2⟩:=he a1 e2
  exact ⟨a2,Ay hT lv i hl hi h6 b1 b2⟩
 rw [if_neg h6] at h
 by_cases h7:(dc T i).t=nN
 ·rw [if_pos h7] at h
  simp only [Option.bind_eq_bind,Option.bind_eq_some_iff,Option.pure_def,Option.some.injEq] at h
  obtain ⟨j1,e1,rfl⟩:=h
  obtain ⟨a1,b1⟩:=he htl e1
  exact ⟨a1,Bu hT lv i hl hi h7 b1⟩
 rw [if_neg h7] at h
 by_cases h8:(dc T i).t=ow
 ·rw [if_pos h8] at h
  simp only [Option.bind_eq_bind,Option.bind_eq_some_iff,Option.pure_def,Option.some.injEq] at h
  obtain ⟨j1,e1,rfl⟩:=h
  obtain ⟨a1,b1⟩:=he htl e1
  exact ⟨a1,zR hT lv i hl hi h8 b1⟩
 rw [if_neg h8] at h
 cases h
theorem Dl (hT:T.length≤100000): ∀ f,f≤2000000→ ∀ g,g≤f→PS T N g:=by
 intro f
 induction f with
 | zero=>
  intro _ g hg
  obtain rfl:g=0:=by omega
  exact ⟨fun _ _ _ _ _ h=> by simp [vK] at h,fun _ _ _ _ _ h=> by simp [oX] at h⟩
 | succ f ih=>
  intro hf g hg
  rcases Nat.lt_or_ge g (f+1) with h | h
  ·exact ih ab g ab
  ·obtain rfl:g=f+1:=by omega
   exact ⟨xh hT f (ih ab f (Nat.le_refl _)),yK hT f ab (ih ab)⟩
theorem tg (hT:T.length≤100000) {f i:Nat} {r:Nd×Nat} (hf:f≤2000000) (hi:i < T.length) (h:oX T f 1 i=some r):r.2 < T.length∧Spec Tryz.prog 164 (bh [.ptr (0,9) 0, .v (.int .i64 1)] (dL T i N)) (PO T N r):=
 (Dl hT f hf f (Nat.le_refl _)).blk 1 i r ab hi h
end

class MthV (P:Program) (t:TypeId) (name:String) (f e:outParam TypeId):Prop where
  out: ∀ (ad:Addr) (w:World),(method (P.types.size+Made.depth) t (.pointer (some ad)) name).run P w=((loadVar e ad).run P w).andThen fun v w'=> .ok (f,v) w'
theorem rP {P:Program} {t:TypeId} {ad:Addr} {nm:String} {w:World}:(Builtin.ssaWrapNilChk_ #[t] t #[.pointer (some ad),strVal "",strVal nm]).run P w= .ok (.pointer (some ad)) w:=rfl
theorem yw {P:Program} {n:Nat} {t e f:TypeId} {name:String} {i:TypeInfo} {m:Method} {ad:Addr} {w:World} (hi:P.info? t=some i) (hfind:i.methods.find? (·.name==name)=some m) (hpath:m.path= #[]) (hfunc:m.func=some (f,false))
    (hu:P.underlying t=some (.pointer e)):(method (n+1) t (.pointer (some ad)) name).run P w=((loadVar e ad).run P w).andThen fun v w'=> .ok (f,v) w':=by
  have h1:(typeInfo t).run P w= .ok i w:=by simp [typeInfo,Sem.run,hi]
  have h2:(underlying t).run P w= .ok (.pointer e) w:=by simp [underlying,Sem.run,hu]
  simp only [method,Sem.run_bind,h1,Result.andThen_ok,hfind,hpath,hfunc,follow,Sem.run_pure,receiverAt,h2,Place.get]
  simp only [Array.isEmpty_empty,if_true,Sem.run_bind,rP,Result.andThen_ok,asAddr,Sem.run_pure]
def BV (P:Program) (t:TypeId) (name:String):Option (TypeId×TypeId):=
  match P.info? t with
  | some i=> match i.methods.find? (·.name==name) with
    | some m=> match m.path.isEmpty,m.func,P.underlying t with
      | true,some (f,false),some (.pointer e)=> some (f,e)
      | _,_,_=> none
    | none=> none
  | none=> none
theorem MthV.of {P:Program} {t e f:TypeId} {name:String} (h:BV P t name=some (f,e)):MthV P t name f e:=by
  refine ⟨fun ad w=> ?_⟩
  obtain ⟨n,hn⟩: ∃ n,P.types.size+Made.depth=n+1:=⟨_,rfl⟩
  rw [hn]
  unfold BV at h
  split at h
  · rename_i i hi
    split at h
    · rename_i m hm
      split at h
      · rename_i f' e' hp hf hu
        cases h
        exact yw hi hm (by simpa using hp) hf hu
      · cases h
    · cases h
  · cases h
section
variable {P:Program} {σ:St} {o:Oper} {t:TypeId} {name:String} {f:FuncId} {x:Operand} {xs:Array Operand} {ats:Array TypeId}
end
section
variable {P:Program} {σ:St} {dd:Option Tmp} {op:Op} {ty:TypeId} {f:FuncId} {avs:List AV}
end
theorem Le.incT {σ:St} (id:aJ) (h:σ.ob id= .free):Le (σ.setInc id true) σ:=by
  intro K ι S a w R
  refine ⟨ι,S,R.keeps,R.S0,R.Slt,R.nt,R.df,R.fr,R.cl,R.clo,R.ob,R.dom,R.inj,fun i B g h1 h2=> ?_,R.pin,R.pf⟩
  obtain ⟨h3,h4,h5⟩:=R.sep i B g h1 h2
  refine ⟨h3,h4,fun h6=> h5 ?_⟩
  have h7:(bif gK i id then true else σ.inc i)=false:=h6
  cases hb:gK i id with
  | true=> rw [hb] at h7;cases h7
  | false=> rw [hb] at h7;exact h7
theorem ol {P:Program} {σ:St} {z:List Value} {T e:TypeId} {size bytes:Nat} {dd:Option Tmp} {ty:TypeId} (id':aJ) (s x:Operand) (E:Elem P T e size bytes z) {id:aJ} {n:Nat} {xs:List PV} (hs:σ.eval s= .ref id 0 n) (hid:σ.ob id= .obj (.row e size xs)) (hl:n*size=xs.length) {m:Nat} {news:List PV} (hx:SrcAV σ (σ.eval x) size m news) (hb:(n+m)*bytes≤140737488355328) (hid':σ.ob id'= .free)
    {b:Bool} (hi:σ.inc id=b) (hi':σ.inc id'=b) {ys:List PV} (hy:xs++news=ys) {k:Nat} (hk:n+m=k):Stp P dd (.call { callee:= .builtin .append,args:= #[s,x],argTypes:= #[T,T] }) ty σ (((σ.setOb id .gone).setOb id' (.obj (.row e size ys))).put dd (.ref id' 0 k)):=by
  have h:=cE (P:=P) (dd:=dd) (ty:=ty) id' s x E hs hid hl hx hb hid' hy hk
  rwa [hi,St.setInc_same (by exact hi')] at h

theorem ln {T:List Tk} {f:Nat} {seen:List Tx} {i:Nat} {r:List Tx×Nat} (h:gl T f seen i=some r): ∃ g,f=g+1∧ee T i=true∧(dc T i).t∉seen∧seen.length < 16∧
  ((dc T (bT T i)).t=[44]∧(∃ l j,gl T g (seen++[(dc T i).t]) (bT T (bT T i))=some (l,j)∧r=((dc T i).t::l,j))∨(dc T (bT T i)).t≠[44]∧ ∃ j,fZ T [59] (bT T i)=some j∧r=([(dc T i).t],j)):=by
 cases f with
 | zero=> simp [gl] at h
 | succ g=>
  refine ⟨g,rfl,?_⟩
  unfold gl at h
  split at h
  ·cases h
  ·rename_i hn
   refine ⟨?_,fun hm=> hn (.inr (.inl hm)),Nat.lt_of_not_le fun hl=> hn (.inr (.inr hl)),?_⟩
   ·cases hb:ee T i with
    | true=> rfl
    | false=> exact absurd (.inl hb) hn
   ·split at h
    ·rename_i ht
     simp only [Option.bind_eq_bind,Option.bind_eq_some_iff,Option.pure_def] at h
     obtain ⟨⟨l,j⟩,hl,h⟩:=h
     exact .inl ⟨ht,l,j,hl,(Option.some.inj h).symm⟩
    ·rename_i ht
     simp only [Option.bind_eq_bind,Option.bind_eq_some_iff,Option.pure_def] at h
     obtain ⟨j,hj,h⟩:=h
     exact .inr ⟨ht,j,hj,(Option.some.inj h).symm⟩
section
variable {T:List Tk}
theorem pK (hT:T.length≤100000) (f:Nat) (N:List Tx) (i0:Nat) (hi:i0 < T.length) (r:List Tx×Nat) (h:gl T f N (bT T i0)=some r):
  r.2 < T.length∧N.length+r.1.length≤16∧Spec Tryz.prog 161 (bh [.ptr (0,9) 0] (zO T i0 N))
   (bl (.sl r.1.length (ea r.1)) [((0,9), .box 222 [.sl T.length (qT T), .v (.int .i64 (r.2:Int)), .v (.int .i64 0), .v (.int .i64 0), .ref (1,8) 0 (N++r.1).length]),((1,8), .row 9 1 (ea (N++r.1)))] [(0,9),(1,8)] [(0,9)]):=by
 have htl:=dT hi
 have hend: ∀ (g:Nat) (seen:List Tx) (i:Nat) (r:List Tx×Nat),i < T.length→gl T g seen i=some r→r.2 < T.length∧seen.length+r.1.length≤16:=by
  intro g
  induction g with
  | zero=> intro seen i r _ h;simp [gl] at h
  | succ g ihg=>
   intro seen i r hi h
   obtain ⟨g',hg',_,_,hs,⟨_,l,j,hl,rfl⟩ | ⟨_,j,hj,rfl⟩⟩:=ln h
   ·obtain rfl:g=g':=by omega
    obtain ⟨h1,h2⟩:=ihg _ _ _ (dT (dT hi)) hl
    simp only [List.length_append,List.length_cons,List.length_nil] at h2 ⊢
    exact ⟨h1,by omega⟩
   ·exact ⟨iC hj (dT hi),by simp;omega⟩
 obtain ⟨ha,hb⟩:=hend f N _ r htl h
 refine ⟨ha,by omega,?_⟩
 have hNl:N.length < 16:=by obtain ⟨_,_,_,_,hs,_⟩:=ln h;exact hs
 refine Spec.ofNI Tryz.func161 rfl Tryz.ntmps161 rfl ?_
 refine am (ai (bJ _ (rfl:_=AV.v (.slice _ _ _))) (aj (am (ai (mP (3,0) _ 9 1 rfl rfl) ?_))))
 refine aj (am (bn rfl (ai (dq aa [] ar (jr T i0 N hi hT) ob tr ae) ?_)))
 refine aj (aH fun K4 hK4=> ?_)
 refine au ?_
 refine bD (α:=Nat×List Tx×Nat) (fun z=> (N++z.2.1).length≤16∧z.2.1.length≤16∧z.2.2 < T.length∧ ∃ l,gl T z.1 (N++z.2.1) z.2.2=some (l,r.2)∧r.1=z.2.1++l) 76 [(0,_)] [] (fun z=> [(3, .ref (3,0) 0 z.2.1.length)]) (fun z=> [((0,9), .box 222 [.sl T.length (qT T), .v (.int .i64 (z.2.2:Int)), .v (.int .i64 0), .v (.int .i64 0), .ref (1,9) 0 (N++z.2.1).length]),((1,9), .row 9 1 (ea (N++z.2.1))),((3,0), .row 9 1 (ea z.2.1))]) [(0,9),(1,9)] [(0,9)] (fun z=> z.1) (f,[],bT T i0) ?_ (by
  refine Le.mkJ [] [] rfl ?_ ?_ trivial tr ?_
  ·exact ⟨(iP rfl),(cq rfl ag),trivial⟩
  ·exact ⟨(di rfl rfl rfl rfl (aD (jh ag ag) (od (od (od (aD (cq rfl (by (simp only [List.append_nil]))) bf)))))),(cw rfl rfl rfl (by (simp only [List.append_nil]))),(cw rfl rfl rfl ag),trivial⟩
  ·kernel_rfl) ?_
 ·exact ⟨by simp;omega,Nat.zero_le _,htl,r.1,by rw [List.append_nil];exact h,rfl⟩
 intro z hz
 obtain ⟨z1,z2,z3⟩:=z
 obtain ⟨hz1,hz2,hz3,l,hz4,hz5⟩:=hz
 obtain ⟨g,rfl,hn,hs,hsl,hm⟩:=ln hz4
 simp only at hz1 hz2 hz3 hz5 hn hs hsl hm ⊢
 have htz:=dT hz3
 have hl1:(z2++[(dc T z3).t]).length=z2.length+1:=by simp
 have hl2:(N++(z2++[(dc T z3).t])).length=(N++z2).length+1:=by simp;omega
 have ha2:ea (N++z2)++[PV.v (bt (dc T z3).t)]=ea (N++(z2++[(dc T z3).t])):=by rw [mw,List.append_assoc]
 refine aq (am (bn rfl (ai (aV _ rfl rfl) (bz rfl rfl rfl (cI rfl rfl rfl (jq rfl rfl rfl (aj (bC rfl rfl (aL (au ?_))))))))))
 refine aq (am (bn rfl (ai (bw aa _ _ ar (tA T z3 (N++z2) hz3) tr rfl ae (by simp)) ?_)))
 refine ai (da (r:=false) _ rfl (by rw [hn];rfl)) ?_
 refine aj (aS rfl rfl (aq ?_))
 refine aN (σ':=aA 76 [(0,_),(3,_)] [((0,9),_),((1,9),_),((3,0),_)] [(0,9),(1,9)] [(0,9)]) kp ?_
 refine bu 7 [20,21,22,23,24,25,26] [] ae ae rfl (aK rfl) (rfl:_=[_,_,_,_,_,_,_]) (rfl:_=[]) ?_
 refine ap (_,[]) (fun τ=> aC _ (rfl:_=AV.ptr _ _)) ?_
 refine el rfl ?_
 refine ap (_,[]) (fun τ=> aV _ rfl rfl) ?_
 refine eo rfl ?_
 refine ap (_,[]) (fun τ=> aI _ aa rfl rfl rfl) ?_
 refine ep rfl ?_
 refine ap (_,[]) (fun τ=> aM _ aa rfl rfl (rfl:_=some (AV.ref _ _ _))) ?_
 refine ew rfl ?_
 refine ap (_,[]) (fun τ=> aC _ (rfl:_=AV.ptr _ _)) ?_
 refine eF rfl ?_
 refine ap (_,[]) (fun τ=> (bw aa _ _ ar (eG T z3 (N++z2) hz3) tr rfl ae (by simp))) ?_
 refine eV rfl ?_
 refine ap (_,[]) (fun τ=> (pV aa aw (cH (N++z2) _ rfl ab (dc T z3).t) rfl)) ?_
 refine fF rfl (bg ⟨rfl,?_⟩)
 refine aj (aS rfl (decide_eq_false hs) ?_)
 refine am (bn rfl (ai (aV _ rfl rfl) (bz rfl rfl rfl (ai (aM _ aa rfl rfl (rfl:_=some (AV.ref _ _ _))) (ai (dv _ aa rfl rfl) (ai (eH _ _ rfl rfl rfl) (aj (aS rfl (decide_eq_false ab) ?_))))))))
 refine aL (aq (am (bn rfl (ai (aV _ rfl rfl) (bz rfl rfl rfl (cI rfl rfl rfl (ai (cg (r:=false) _ _ rfl rfl rfl) (aj (aS rfl rfl (aL ?_))))))))))
 refine aq ?_
 refine aN (σ':=aA 76 [(0,_),(3,_)] [((0,9),_),((1,9),_),((3,0),_)] [(0,9),(1,9)] [(0,9)]) kp ?_
 refine an (ei rfl (bn rfl (ai (bw aa _ _ ar (eG T z3 (N++z2) hz3) tr rfl ae (by simp)) ?_)))
 refine ai (aU _ _ aa rfl ag (by (simp <;> rfl)) ah rfl) ?_
 refine ai (cE (54,0) _ _ aa rfl rfl (by simp) (.sl rfl) ab rfl (mw _ _) hl1.symm) ?_
 refine dY rfl (aj (aq ?_))
 refine aN (σ':=aA 76 [(0,_),(3,_)] [((0,9),_),((1,9),_),((54,0),_)] [(0,9),(1,9)] [(0,9)]) kp ?_
 refine aN (Le.incT (63,0) rfl) ?_
 refine ym 9 [55,56,57,58,59,60,61,62,63] [(1,9),(63,0)] [[],[],[],[(1,9)],[(1,9)],[(1,9)],[(1,9)],[(1,9)],[]] ae ae rfl (aK rfl) (rfl:_=[_,_,_,_,_,_,_,_,_]) (rfl:_=[_,_,_]) ?_
 refine ap (_,[]) (fun τ=> aC _ (rfl:_=AV.ptr _ _)) ?_
 refine el rfl ?_
 refine ap (_,[]) (fun τ=> aC _ (rfl:_=AV.ptr _ _)) ?_
 refine eo rfl ?_
 refine ap (_,[]) (fun τ=> aV _ rfl rfl) ?_
 refine ep rfl ?_
 refine ap (_,[]) (fun τ=> aI _ aa rfl rfl rfl) ?_
 refine ew rfl ?_
 refine ap (_,[]) (fun τ=> aM _ aa rfl rfl (rfl:_=some (AV.ref _ _ _))) ?_
 refine eF rfl ?_
 refine ap (_,[]) (fun τ=> aC _ (rfl:_=AV.ptr _ _)) ?_
 refine eV rfl ?_
 refine ap (_,[]) (fun τ=> (bw aa _ _ ar (eG T z3 (N++z2) hz3) tr rfl ae (by simp))) ?_
 refine fF rfl ?_
 refine ap (_,[]) (fun τ=> aU _ _ aa rfl ag (by (simp <;> rfl)) ah rfl) ?_
 refine iu rfl ?_
 refine ap (_,[((1,9), .gone),((63,0),_)]) (fun τ=> ol (b:=true) (63,0) _ _ aa rfl (uw rfl (by exact sa) rfl) (by simp) (.sl rfl) ab rfl rfl rfl ha2 hl2.symm) ?_
 refine ig rfl (bg ⟨⟨rfl,by kernel_rfl⟩,?_⟩)
 refine ai (aV _ rfl rfl) (bz rfl rfl rfl (bO rfl rfl rfl rfl rfl rfl (aj (aH fun K15 hK15=> ?_))))
 refine aN (σ':=aA 76 [(0,_),(3,_)] [((0,9), .box _ [_,_,_,_, .ref (1,9) _ _]),((54,0),_),((1,9),_)] [(0,9),(1,9)] [(0,9)]) (by
  refine Le.mkJ [((1,9),(63,0))] [] rfl ?_ ?_ trivial tr ?_
  ·exact ⟨(DZ [(0,9),(54,0)] rfl (rfl:_=AV.ptr _ _) rfl),(DZ [(0,9),(54,0)] rfl (rfl:_=AV.ref _ _ _) rfl),trivial⟩
  ·exact ⟨(di rfl rfl rfl rfl (aD (by exact DZ [(0,9),(54,0)] rfl (rfl:_=AV.sl _ _) rfl) (aD (by exact DZ [(0,9),(54,0)] rfl (rfl:_=AV.v _) rfl) (aD (by exact DZ [(0,9),(54,0)] rfl (rfl:_=AV.v _) rfl) (aD (by exact DZ [(0,9),(54,0)] rfl (rfl:_=AV.v _) rfl) lz))))),(cw rfl rfl rfl rfl),(cw rfl rfl rfl rfl),trivial⟩
  ·kernel_rfl) ?_
 refine an (bn rfl (ai (dq aa [] ar (jr T z3 (N++(z2++[(dc T z3).t])) hz3 hT) ob tr ae) ?_))
 refine ax (hK15 _ ?_)
 clear hK15;try clear K15
 refine aH fun K16 hK16=> ?_
 refine am (bn rfl (ai (bw aa _ _ ar (eG T (bT T z3) (N++(z2++[(dc T z3).t])) htz) tr rfl ae (by simp)) ?_))
 refine ai (qk _ _ Tryz.underlying9 rfl rfl rfl) (aj (aO rfl (fun hc70=> ?_) (fun hc70=> ?_)))
 ·skip
  obtain ⟨_,j,hj,hr⟩:=hm.resolve_left fun x=> hc70 x.1
  obtain ⟨rfl,rfl⟩:=Prod.mk.inj hr
  have hexp:=qL T (bT T z3) r.2 (N++(z2++[(dc T z3).t])) [59] htz hT hj
  refine bK (id (hK4 _ ?_))
  clear hK4;try clear K4
  refine am (bn rfl (ai (dq aa [] ar (hexp) ob tr ae) ?_))
  exact aj (am (ei rfl (dY rfl (aj (aE (aX (.inr rfl) rfl (.tmp (rfl:_=AV.ref _ _ _)) (Le.outI [((1,8),(1,9))] [(54,0)] (by rw [hz5];exact fY rfl rfl (by simp) rfl) rfl rfl rfl tr ⟨⟨rfl,⟨_,rfl, .box rfl (aD .sl (aD .v (aD .v (aD .v (aD (cq rfl (by rw [hz5])) bf)))))⟩,rfl⟩,⟨rfl,⟨_,rfl, .rowE (by rw [hz5])⟩,rfl⟩,trivial⟩ tr rfl)))))))
 ·skip
  obtain ⟨_,l',j',hd',hr⟩:=hm.resolve_right fun x=> x.1 hc70
  obtain ⟨rfl,rfl⟩:=Prod.mk.inj hr
  refine bB (hK16 _ ?_)
  clear hK16;try clear K16
  refine an (bn rfl (ai (dq aa [] ar (jr T (bT T z3) (N++(z2++[(dc T z3).t])) htz hT) ob tr ae) ?_))
  refine ax (⟨(g,z2++[(dc T z3).t],bT T (bT T z3)),?_,?_,?_⟩)
  ·exact ⟨by simp only [hl2];omega,by simp only [hl1];simp only [List.length_append] at hsl;omega,dT htz,l',by rw [← List.append_assoc];exact hd',by rw [hz5];simp⟩
  ·skip
   refine Le.mkJ [((3,0),(54,0))] [] rfl ?_ ?_ trivial tr ?_
   ·exact ⟨(cr (id:=(0,9)) rfl),(cq rfl ag),trivial⟩
   ·exact ⟨(di rfl rfl rfl rfl lz),(cw rfl rfl rfl ag),(cw rfl rfl rfl ag),trivial⟩
   ·kernel_rfl
  ·simp only;omega
end

abbrev Hd:=Nat×Nd
def tX (h:Hd):List PV:= .v (.int .i64 (h.1:Int))::h.2.row
def lA (l:List Hd):List PV:=l.flatMap tX
theorem bF (l:List Hd):(lA l).length=l.length*5:=mz tX 5 (fun _=> rfl) l
def mK (l:List Hd) (k:Nat):Hd:=l.getD k (0,⟨0,0,[],0,[]⟩)
theorem mN (l:List Hd) (k:Nat) (h:k < l.length):mK l k=l[k]:=by simp [mK,h]
theorem ja (l:List Hd) (k:Nat) (h:k < l.length):(lA l)[k*5]? =some (.v (.int .i64 ((mK l k).1:Int))):=by
 rw [mN l k h];exact mH tX 5 (fun _=> rfl) l k 0 h ab
theorem xN (l:List Hd) (k:Nat) (h:k < l.length):PV.ups (((lA l).drop (k*5)).take 5)=[.v (.int .i64 ((mK l k).1:Int)), .v (.int .i64 ((mK l k).2.k:Int)), .v (.int .i64 ((mK l k).2.n:Int)), .v (bt (mK l k).2.s), .sl (mK l k).2.kn (mK l k).2.kids]:=by
 rw [mN l k h,show ((lA l).drop (k*5)).take 5=tX l[k] from oP tX 5 (fun _=> rfl) l k h];rfl
theorem lM (l:List Hd) (h:Hd):lA l++tX h=lA (l++[h]):=mo tX l h
theorem ul (l m:List Hd):lA l++lA m=lA (l++m):=yU tX l m
theorem sT (l:List Hd) (k:Nat) (h:k < l.length):l.take k++[mK l k]=l.take (k+1):=by rw [mN l k h,List.take_succ_eq_append_getElem h]
def FP:List Tx:=[lR,jo,gI,jg]
section
variable {T:List Tk} {N:List Tx}
theorem yM (hT:T.length≤100000) (i:Nat) (hi:i < T.length) (ht:(dc T i).t=lR) (l:List Hd) (hl:l.length≤100000) (hno: ∀ k,k < l.length→(mK l k).1≠0):
  Spec Tryz.prog 163 (bh [.ptr (0,9) 0, .sl l.length (lA l)] (dL T i N)) (bl (.v (.int .i64 ((0:Nat):Int))) (dL T (bT T i) N) [(0,9)] [(0,9)]):=by
 have hnx:=bV T i N hi
 rw [ht] at hnx
 refine Spec.ofNI Tryz.func163 rfl Tryz.ntmps163 rfl ?_
 refine am (ba rfl (aj (am (bn rfl (ai (aV _ rfl rfl) (bz rfl rfl rfl (cI rfl rfl rfl (ba rfl (aj (am ?_))))))))))
 refine bn rfl (ai (bw aa _ _ ar (hnx) tr rfl ae (by simp)) ?_)
 refine jp rfl (aj (am (ba rfl (aj (aq (am (ai (aU _ _ aa rfl ag (by (simp <;> rfl)) ah rfl) ?_)))))))
 refine dQ rfl (ai (aF aa al (cH FP 4 rfl ab lR) rfl rfl) ?_)
 refine ai (da (r:=false) _ rfl rfl) (aj (aS rfl rfl (aL (am (bn rfl (ai (aQ (cB T i N hi hT)) ?_))))))
 refine aj (aq (aq ?_))
 refine aN (σ':=aA 56 [(0,_),(1,_),(5,_),(6,_),(7,_)] [((0,9),_)] [(0,9)] [(0,9)]) kp ?_
 refine an (dQ rfl (ai (aY (r:=false) _ _ Tryz.underlying9 rfl rfl rfl) (aj (aS rfl rfl (aL (aq (am (dQ rfl (ai (aY (r:=false) _ _ Tryz.underlying9 rfl rfl rfl) (aj ?_))))))))))
 refine aS rfl rfl (aL (aq (am (dQ rfl (ai (aY (r:=false) _ _ Tryz.underlying9 rfl rfl rfl) (aj (aS rfl rfl (aL (aH fun K14 hK14=> ?_)))))))))
 refine am (ba rfl (aj (au ?_)))
 refine bD (α:=Nat) (fun k=> k≤l.length) 56 [(0,_),(1,_),(5,_),(7,_)] [((0,9),_)] (fun k=> [(8, .v (.int .i64 (k:Int)))]) (fun k=> []) [(0,9)] [(0,9)] (fun k=> l.length - k) 0 ?_ (by
  refine Le.mkJ [] [] rfl ?_ ?_ trivial tr ?_
  ·exact ⟨(iP rfl),(iS rfl),(iV rfl),(iV rfl),(bY ag),trivial⟩
  ·exact ⟨(ce rfl rfl rfl),trivial⟩
  ·kernel_rfl) ?_
 ·omega
 intro k hk
 refine aH fun K16 hK16=> ?_
 refine am (aP rfl (ef rfl (ai (bI _ aa rfl) (ai (bp _ _ rfl rfl rfl) (aj (aO rfl (fun hc42=> ?_) (fun hc42=> ?_)))))))
 ·skip
  refine bB (hK16 _ ?_)
  clear hK16;try clear K16
  refine aq (au (am (ef rfl (aP rfl (ai (bi _ _ aa rfl rfl _ rfl ab (by (simp only [aZ,bq,bo,bG,bE,bM,bF];omega)) ag) ?_)))))
  refine ai (dn _ aa rfl rfl) (ai (bH _ aa rfl (by exact ja _ _ ab) rfl) ?_)
  refine aP rfl (ai (br _ _ rfl rfl rfl) (aj (aS rfl (by have:=hno k ab;exact beq_eq_false_iff_ne.2 ab) ?_)))
  refine cf (an (aP rfl (ai (bc _ _ rfl rfl (be ab)) ?_)))
  refine ba rfl (ax (⟨k+1,?_,?_,?_⟩))
  ·omega
  ·skip
   refine Le.mkJ [] [] rfl ?_ ?_ trivial tr ?_
   ·exact ⟨(iP rfl),(iS rfl),(iV rfl),(iV rfl),(bY ag),trivial⟩
   ·exact ⟨(ce rfl rfl rfl),trivial⟩
   ·kernel_rfl
  ·omega
 ·skip
  refine bK (id (hK14 _ ?_))
  clear hK14;try clear K14
  exact am (aP rfl (ba rfl (aj (aE (aX (.inr rfl) rfl (.tmp (rfl:_=AV.v (.int _ _))) (Le.outI [] [] (bY ag) rfl rfl rfl trivial ob tr rfl))))))
theorem tH (hT:T.length≤100000) (i:Nat) (hi:i < T.length) (ht:(dc T i).t=jo) (l:List Hd) (hl:l.length≤100000) (hno: ∀ k,k < l.length→(mK l k).1≠1):
  Spec Tryz.prog 163 (bh [.ptr (0,9) 0, .sl l.length (lA l)] (dL T i N)) (bl (.v (.int .i64 ((1:Nat):Int))) (dL T (bT T i) N) [(0,9)] [(0,9)]):=by
 have hnx:=bV T i N hi
 rw [ht] at hnx
 refine Spec.ofNI Tryz.func163 rfl Tryz.ntmps163 rfl ?_
 refine am (ba rfl (aj (am (bn rfl (ai (aV _ rfl rfl) (bz rfl rfl rfl (cI rfl rfl rfl (ba rfl (aj (am ?_))))))))))
 refine bn rfl (ai (bw aa _ _ ar (hnx) tr rfl ae (by simp)) ?_)
 refine jp rfl (aj (am (ba rfl (aj (aq (am (ai (aU _ _ aa rfl ag (by (simp <;> rfl)) ah rfl) ?_)))))))
 refine dQ rfl (ai (aF aa al (cH FP 4 rfl ab jo) rfl rfl) ?_)
 refine ai (da (r:=false) _ rfl rfl) (aj (aS rfl rfl (aL (am (bn rfl (ai (aQ (cB T i N hi hT)) ?_))))))
 refine aj (aq (aq ?_))
 refine aN (σ':=aA 56 [(0,_),(1,_),(5,_),(6,_),(7,_)] [((0,9),_)] [(0,9)] [(0,9)]) kp ?_
 refine an (dQ rfl (ai (aY (r:=true) _ _ Tryz.underlying9 rfl rfl rfl) (aj (bC rfl rfl (an (ba rfl (aj (aq (am (dQ rfl ?_))))))))))
 refine ai (aY (r:=false) _ _ Tryz.underlying9 rfl rfl rfl) (aj (aS rfl rfl (aL (aq (am (dQ rfl (ai (aY (r:=false) _ _ Tryz.underlying9 rfl rfl rfl) (aj (aS rfl rfl (aL ?_))))))))))
 refine aH fun K14 hK14=> ?_
 refine am (ba rfl (aj (au ?_)))
 refine bD (α:=Nat) (fun k=> k≤l.length) 56 [(0,_),(1,_),(5,_),(7,_)] [((0,9),_)] (fun k=> [(8, .v (.int .i64 (k:Int)))]) (fun k=> []) [(0,9)] [(0,9)] (fun k=> l.length - k) 0 ?_ (by
  refine Le.mkJ [] [] rfl ?_ ?_ trivial tr ?_
  ·exact ⟨(iP rfl),(iS rfl),(iV rfl),(iV rfl),(bY ag),trivial⟩
  ·exact ⟨(ce rfl rfl rfl),trivial⟩
  ·kernel_rfl) ?_
 ·omega
 intro k hk
 refine aH fun K16 hK16=> ?_
 refine am (aP rfl (ef rfl (ai (bI _ aa rfl) (ai (bp _ _ rfl rfl rfl) (aj (aO rfl (fun hc42=> ?_) (fun hc42=> ?_)))))))
 ·skip
  refine bB (hK16 _ ?_)
  clear hK16;try clear K16
  refine aq (au (am (ef rfl (aP rfl (ai (bi _ _ aa rfl rfl _ rfl ab (by (simp only [aZ,bq,bo,bG,bE,bM,bF];omega)) ag) ?_)))))
  refine ai (dn _ aa rfl rfl) (ai (bH _ aa rfl (by exact ja _ _ ab) rfl) ?_)
  refine aP rfl (ai (br _ _ rfl rfl rfl) (aj (aS rfl (by have:=hno k ab;exact beq_eq_false_iff_ne.2 ab) ?_)))
  refine cf (an (aP rfl (ai (bc _ _ rfl rfl (be ab)) ?_)))
  refine ba rfl (ax (⟨k+1,?_,?_,?_⟩))
  ·omega
  ·skip
   refine Le.mkJ [] [] rfl ?_ ?_ trivial tr ?_
   ·exact ⟨(iP rfl),(iS rfl),(iV rfl),(iV rfl),(bY ag),trivial⟩
   ·exact ⟨(ce rfl rfl rfl),trivial⟩
   ·kernel_rfl
  ·omega
 ·skip
  refine bK (id (hK14 _ ?_))
  clear hK14;try clear K14
  exact am (aP rfl (ba rfl (aj (aE (aX (.inr rfl) rfl (.tmp (rfl:_=AV.v (.int _ _))) (Le.outI [] [] (bY ag) rfl rfl rfl trivial ob tr rfl))))))
theorem yJ (hT:T.length≤100000) (i:Nat) (hi:i < T.length) (ht:(dc T i).t=gI) (l:List Hd) (hl:l.length≤100000) {q j:Nat} (hq:q≤100) (h1:Spec Tryz.prog 200 (bh [.ptr (0,9) 0, .v (.int .i64 7)] (dL T (bT T i) N)) (bl (.v (.int .i64 (q:Int))) (dL T j N) [(0,9)] [(0,9)])) (hno: ∀ k,k < l.length→(mK l k).1≠(2+q)):
  Spec Tryz.prog 163 (bh [.ptr (0,9) 0, .sl l.length (lA l)] (dL T i N)) (bl (.v (.int .i64 (((2+q):Nat):Int))) (dL T j N) [(0,9)] [(0,9)]):=by
 have hnx:=bV T i N hi
 rw [ht] at hnx
 refine Spec.ofNI Tryz.func163 rfl Tryz.ntmps163 rfl ?_
 refine am (ba rfl (aj (am (bn rfl (ai (aV _ rfl rfl) (bz rfl rfl rfl (cI rfl rfl rfl (ba rfl (aj (am ?_))))))))))
 refine bn rfl (ai (bw aa _ _ ar (hnx) tr rfl ae (by simp)) ?_)
 refine jp rfl (aj (am (ba rfl (aj (aq (am (ai (aU _ _ aa rfl ag (by (simp <;> rfl)) ah rfl) ?_)))))))
 refine dQ rfl (ai (aF aa al (cH FP 4 rfl ab gI) rfl rfl) ?_)
 refine ai (da (r:=false) _ rfl rfl) (aj (aS rfl rfl (aL (am (bn rfl (ai (aQ (cB T i N hi hT)) ?_))))))
 refine aj (aq (aq ?_))
 refine aN (σ':=aA 56 [(0,_),(1,_),(5,_),(6,_),(7,_)] [((0,9),_)] [(0,9)] [(0,9)]) kp ?_
 refine an (dQ rfl (ai (aY (r:=false) _ _ Tryz.underlying9 rfl rfl rfl) (aj (aS rfl rfl (aL (aH fun K10 hK10=> ?_))))))
 refine am (dQ rfl (ai (aY (r:=true) _ _ Tryz.underlying9 rfl rfl rfl) (aj (bC rfl rfl (an (bn rfl (ai (aQ (h1)) (ai (bc _ _ rfl rfl (be ab)) ?_))))))))
 refine ba rfl (ax (hK10 _ ?_))
 clear hK10;try clear K10
 refine aq (am (dQ rfl (ai (aY (r:=false) _ _ Tryz.underlying9 rfl rfl rfl) (aj (aS rfl rfl (aL (aH fun K14 hK14=> ?_)))))))
 refine am (ba rfl (aj (au ?_)))
 refine bD (α:=Nat) (fun k=> k≤l.length) 56 [(0,_),(1,_),(5,_),(7,_)] [((0,9),_)] (fun k=> [(8, .v (.int .i64 (k:Int)))]) (fun k=> []) [(0,9)] [(0,9)] (fun k=> l.length - k) 0 ?_ (by
  refine Le.mkJ [] [] rfl ?_ ?_ trivial tr ?_
  ·exact ⟨(iP rfl),(iS rfl),(iV rfl),(iV rfl),(bY ag),trivial⟩
  ·exact ⟨(ce rfl rfl rfl),trivial⟩
  ·kernel_rfl) ?_
 ·omega
 intro k hk
 refine aH fun K16 hK16=> ?_
 refine am (aP rfl (ef rfl (ai (bI _ aa rfl) (ai (bp _ _ rfl rfl rfl) (aj (aO rfl (fun hc42=> ?_) (fun hc42=> ?_)))))))
 ·skip
  refine bB (hK16 _ ?_)
  clear hK16;try clear K16
  refine aq (au (am (ef rfl (aP rfl (ai (bi _ _ aa rfl rfl _ rfl ab (by (simp only [aZ,bq,bo,bG,bE,bM,bF];omega)) ag) ?_)))))
  refine ai (dn _ aa rfl rfl) (ai (bH _ aa rfl (by exact ja _ _ ab) rfl) ?_)
  refine aP rfl (ai (br _ _ rfl rfl rfl) (aj (aS rfl (by have:=hno k ab;exact beq_eq_false_iff_ne.2 ab) ?_)))
  refine cf (an (aP rfl (ai (bc _ _ rfl rfl (be ab)) ?_)))
  refine ba rfl (ax (⟨k+1,?_,?_,?_⟩))
  ·omega
  ·skip
   refine Le.mkJ [] [] rfl ?_ ?_ trivial tr ?_
   ·exact ⟨(iP rfl),(iS rfl),(iV rfl),(iV rfl),(bY ag),trivial⟩
   ·exact ⟨(ce rfl rfl rfl),trivial⟩
   ·kernel_rfl
  ·omega
 ·skip
  refine bK (id (hK14 _ ?_))
  clear hK14;try clear K14
  exact am (aP rfl (ba rfl (aj (aE (aX (.inr rfl) rfl (.tmp (rfl:_=AV.v (.int _ _))) (Le.outI [] [] (bY ag) rfl rfl rfl trivial ob tr rfl))))))
theorem tb (hT:T.length≤100000) (i:Nat) (hi:i < T.length) (ht:(dc T i).t=jg) (l:List Hd) (hl:l.length≤100000) {q j:Nat} (hq:q≤100) (h1:Spec Tryz.prog 200 (bh [.ptr (0,9) 0, .v (.int .i64 29)] (dL T (bT T i) N)) (bl (.v (.int .i64 (q:Int))) (dL T j N) [(0,9)] [(0,9)])) (hno: ∀ k,k < l.length→(mK l k).1≠(10+q)):
  Spec Tryz.prog 163 (bh [.ptr (0,9) 0, .sl l.length (lA l)] (dL T i N)) (bl (.v (.int .i64 (((10+q):Nat):Int))) (dL T j N) [(0,9)] [(0,9)]):=by
 have hnx:=bV T i N hi
 rw [ht] at hnx
 refine Spec.ofNI Tryz.func163 rfl Tryz.ntmps163 rfl ?_
 refine am (ba rfl (aj (am (bn rfl (ai (aV _ rfl rfl) (bz rfl rfl rfl (cI rfl rfl rfl (ba rfl (aj (am ?_))))))))))
 refine bn rfl (ai (bw aa _ _ ar (hnx) tr rfl ae (by simp)) ?_)
 refine jp rfl (aj (am (ba rfl (aj (aq (am (ai (aU _ _ aa rfl ag (by (simp <;> rfl)) ah rfl) ?_)))))))
 refine dQ rfl (ai (aF aa al (cH FP 4 rfl ab jg) rfl rfl) ?_)
 refine ai (da (r:=false) _ rfl rfl) (aj (aS rfl rfl (aL (am (bn rfl (ai (aQ (cB T i N hi hT)) ?_))))))
 refine aj (aq (aq ?_))
 refine aN (σ':=aA 56 [(0,_),(1,_),(5,_),(6,_),(7,_)] [((0,9),_)] [(0,9)] [(0,9)]) kp ?_
 refine an (dQ rfl (ai (aY (r:=false) _ _ Tryz.underlying9 rfl rfl rfl) (aj (aS rfl rfl (aL (aq (am (dQ rfl (ai (aY (r:=false) _ _ Tryz.underlying9 rfl rfl rfl) (aj ?_))))))))))
 refine aS rfl rfl (aL (aH fun K12 hK12=> ?_))
 refine am (dQ rfl (ai (aY (r:=true) _ _ Tryz.underlying9 rfl rfl rfl) (aj (bC rfl rfl (an (bn rfl (ai (aQ (h1)) (ai (bc _ _ rfl rfl (be ab)) ?_))))))))
 refine ba rfl (ax (hK12 _ ?_))
 clear hK12;try clear K12
 refine aH fun K14 hK14=> ?_
 refine am (ba rfl (aj (au ?_)))
 refine bD (α:=Nat) (fun k=> k≤l.length) 56 [(0,_),(1,_),(5,_),(7,_)] [((0,9),_)] (fun k=> [(8, .v (.int .i64 (k:Int)))]) (fun k=> []) [(0,9)] [(0,9)] (fun k=> l.length - k) 0 ?_ (by
  refine Le.mkJ [] [] rfl ?_ ?_ trivial tr ?_
  ·exact ⟨(iP rfl),(iS rfl),(iV rfl),(iV rfl),(bY ag),trivial⟩
  ·exact ⟨(ce rfl rfl rfl),trivial⟩
  ·kernel_rfl) ?_
 ·omega
 intro k hk
 refine aH fun K16 hK16=> ?_
 refine am (aP rfl (ef rfl (ai (bI _ aa rfl) (ai (bp _ _ rfl rfl rfl) (aj (aO rfl (fun hc42=> ?_) (fun hc42=> ?_)))))))
 ·skip
  refine bB (hK16 _ ?_)
  clear hK16;try clear K16
  refine aq (au (am (ef rfl (aP rfl (ai (bi _ _ aa rfl rfl _ rfl ab (by (simp only [aZ,bq,bo,bG,bE,bM,bF];omega)) ag) ?_)))))
  refine ai (dn _ aa rfl rfl) (ai (bH _ aa rfl (by exact ja _ _ ab) rfl) ?_)
  refine aP rfl (ai (br _ _ rfl rfl rfl) (aj (aS rfl (by have:=hno k ab;exact beq_eq_false_iff_ne.2 ab) ?_)))
  refine cf (an (aP rfl (ai (bc _ _ rfl rfl (be ab)) ?_)))
  refine ba rfl (ax (⟨k+1,?_,?_,?_⟩))
  ·omega
  ·skip
   refine Le.mkJ [] [] rfl ?_ ?_ trivial tr ?_
   ·exact ⟨(iP rfl),(iS rfl),(iV rfl),(iV rfl),(bY ag),trivial⟩
   ·exact ⟨(ce rfl rfl rfl),trivial⟩
   ·kernel_rfl
  ·omega
 ·skip
  refine bK (id (hK14 _ ?_))
  clear hK14;try clear K14
  exact am (aP rfl (ba rfl (aj (aE (aX (.inr rfl) rfl (.tmp (rfl:_=AV.v (.int _ _))) (Le.outI [] [] (bY ag) rfl rfl rfl trivial ob tr rfl))))))
theorem Be {l:List Hd} {n:Nat} (h:l.any (fun x=> decide (x.1=n))=false): ∀ k,k < l.length→(mK l k).1≠n:=fun k hk e=> by
 rw [List.any_eq_false] at h
 have:=h l[k] (List.getElem_mem hk)
 rw [mN l k hk] at e
 simp [e] at this
theorem qN (hT:T.length≤100000) (i:Nat) (hi:i < T.length) (l:List Hd) (hl:l.length≤100000) (r:Nat×Nat) (h:uq T i=some r) (hno:l.any (fun x=> decide (x.1=r.1))=false):
  r.2 < T.length∧r.1 < 40∧Spec Tryz.prog 163 (bh [.ptr (0,9) 0, .sl l.length (lA l)] (dL T i N)) (bl (.v (.int .i64 (r.1:Int))) (dL T r.2 N) [(0,9)] [(0,9)]):=by
 have htl:=dT hi
 have hn:=Be hno
 have hmost: ∀ {most i:Nat} {q:Nat×Nat},ni T most i=some q→q.1≤most:=fun h=> by
  unfold ni at h
  split at h
  ·rename_i hx;rw [← Option.some.inj h];exact hx.2
  ·cases h
 unfold uq at h
 by_cases h1:(dc T i).t=lR
 ·rw [if_pos h1] at h
  obtain rfl:=Option.some.inj h
  exact ⟨htl,by omega,yM hT i hi h1 l hl hn⟩
 rw [if_neg h1] at h
 by_cases h2:(dc T i).t=jo
 ·rw [if_pos h2] at h
  obtain rfl:=Option.some.inj h
  exact ⟨htl,by omega,tH hT i hi h2 l hl hn⟩
 rw [if_neg h2] at h
 by_cases h3:(dc T i).t=gI
 ·rw [if_pos h3] at h
  simp only [Option.bind_eq_bind,Option.bind_eq_some_iff,Option.pure_def,Option.some.injEq] at h
  obtain ⟨⟨q,j⟩,hq,rfl⟩:=h
  have hm:=hmost hq
  exact ⟨show (q,j).2 < T.length from qH hq htl,by simp only at hm ⊢;omega,yJ hT i hi h3 l hl (by simp only at hm;omega) (ka T _ N 7 htl hT ab _ hq) hn⟩
 rw [if_neg h3] at h
 by_cases h4:(dc T i).t=jg
 ·rw [if_pos h4] at h
  simp only [Option.bind_eq_bind,Option.bind_eq_some_iff,Option.pure_def,Option.some.injEq] at h
  obtain ⟨⟨q,j⟩,hq,rfl⟩:=h
  have hm:=hmost hq
  exact ⟨show (q,j).2 < T.length from qH hq htl,by simp only at hm ⊢;omega,tb hT i hi h4 l hl (by simp only at hm;omega) (ka T _ N 29 htl hT ab _ hq) hn⟩
 rw [if_neg h4] at h
 cases h
end
theorem uj {p:Hd→Bool} {l:List Hd} {k:Nat} (h: ∀ x∈l.take k,p x=true) (he:l.length≤k∨p (mK l k)=false):l.takeWhile p=l.take k∧l.dropWhile p=l.drop k:=by
 induction l generalizing k with
 | nil=> simp
 | cons a l ih=>
  cases k with
  | zero=>
   have:p a=false:=by
    rcases he with he | he
    ·simp at he
    ·simpa [mK] using he
   simp [this]
  | succ k=>
   have ha:p a=true:=h a (by simp)
   have:=ih (k:=k) (fun x hx=> h x (by simp [hx])) (by
    rcases he with he | he
    ·left;simpa using he
    ·right;simpa [mK] using he)
   simp [ha,this]
theorem yO (l:List Hd) (hl:l.length≤100000) (h:Hd):
  Spec Tryz.prog 165 (bj [.sl l.length (lA l), .agg [.v (.int .i64 (h.1:Int)), .v (.int .i64 (h.2.k:Int)), .v (.int .i64 (h.2.n:Int)), .v (bt h.2.s), .sl h.2.kn h.2.kids]] []) (aT (.sl (nF l h).length (lA (nF l h))) []):=by
 refine Spec.ofN Tryz.func165 rfl Tryz.ntmps165 rfl ?_
 refine am (ai (bm (3,0) _ rfl rfl) (ai (bJ _ (rfl:_=AV.v (.slice _ _ _))) (aj (am (ai (mP (5,0) _ 73 5 rfl rfl) ?_)))))
 refine aj (am (ba rfl (aj (aH fun K4 hK4=> ?_))))
 refine au ?_
 refine bD (α:=Nat) (fun k=> k≤l.length∧ ∀ x∈l.take k,decide (x.1 < h.1)=true) 39 [(0,_),(3,_)] [((3,0),_)] (fun k=> [(6, .v (.int .i64 (k:Int))),(5, .ref (5,0) 0 (l.take k).length)]) (fun k=> [((5,0), .row 73 5 (lA (l.take k)))]) [] [] (fun k=> l.length - k) 0 ?_ (by
  refine Le.mkJ [] [] rfl ?_ ?_ trivial trivial ?_
  ·exact ⟨(iS rfl),(iP rfl),(bY ag),(cq rfl ag),trivial⟩
  ·exact ⟨(ce rfl rfl rfl),(cw rfl rfl rfl ag),trivial⟩
  ·kernel_rfl) ?_
 ·exact ⟨Nat.zero_le _,by simp⟩
 intro k hk
 obtain ⟨hk,hall⟩:=hk
 have hlk:(l.take k).length=k:=by rw [List.length_take];omega
 refine aH fun K5 hK5=> ?_
 refine aH fun K6 hK6=> ?_
 refine bu 14 [7,8,9,10,11,12,13,14,15,16,17,18,19,20] [] ae ae rfl (aK rfl) (rfl:_=[_,_,_,_,_,_,_,_,_,_,_,_,_,_]) (rfl:_=[]) ?_
 refine ap (_,[]) (fun τ=> aC _ (rfl:_=AV.v (.int _ _))) ?_
 refine el rfl ?_
 refine ap (_,[]) (fun τ=> aC _ (rfl:_=AV.sl _ _)) ?_
 refine eo rfl ?_
 refine ap (_,[]) (fun τ=> bI _ aa rfl) ?_
 refine ep rfl ?_
 refine ap (_,[]) (fun τ=> bp _ _ rfl rfl rfl) ?_
 refine ew rfl ?_
 refine ap (_,[]) (fun τ=> aC _ (rfl:_=AV.v (.bool _))) ?_
 refine mM (fun hg11=> ?_) (fun hg11=> ?_)
 ·skip
  refine eF rfl ?_
  refine bQ (_,[]) rfl (fun τ=> rfl) (fun τ=> aC _ (rfl:_=AV.sl _ _)) ?_
  refine eV rfl ?_
  refine bQ (_,[]) rfl (fun τ=> rfl) (fun τ=> aC _ (rfl:_=AV.v (.int _ _))) ?_
  refine fF rfl ?_
  refine bQ (_,[]) rfl (fun τ=> rfl) (fun τ=> bi _ _ aa rfl rfl _ rfl ab (by (simp only [aZ,bq,bo,bG,bE,bM,bF];omega)) ag) ?_
  refine iu rfl ?_
  refine bQ (_,[]) rfl (fun τ=> rfl) (fun τ=> dn _ aa rfl rfl) ?_
  refine ig rfl ?_
  refine bQ (_,[]) rfl (fun τ=> rfl) (fun τ=> bH _ aa rfl (by exact ja _ _ ab) rfl) ?_
  refine eO rfl ?_
  refine bQ (_,[]) rfl (fun τ=> rfl) (fun τ=> aI _ aa rfl rfl rfl) ?_
  refine fc rfl ?_
  refine bQ (_,[]) rfl (fun τ=> rfl) (fun τ=> aM _ aa rfl rfl (rfl:_=some (AV.v (.int _ _)))) ?_
  refine gU rfl ?_
  refine bQ (_,[]) rfl (fun τ=> rfl) (fun τ=> bp _ _ rfl rfl rfl) ?_
  refine gY rfl ?_
  refine ap (_,[]) (fun τ=> aG _ _ _ rfl (rfl:_=AV.v (.bool _))) ?_
  refine jm rfl (bg ⟨rfl,?_⟩)
  refine ax (hK6 _ ?_)
  clear hK6;try clear K6
  refine aO rfl (fun hc20=> ?_) (fun hc20=> ?_)
  ·skip
   have hs:=sT l k ab
   have hlk1:(l.take (k+1)).length=(l.take k).length+1:=by rw [← hs];simp
   have hall1: ∀ x∈l.take (k+1),decide (x.1 < h.1)=true:=by
    rw [← hs]
    intro x hx
    rcases List.mem_append.1 hx with hx | hx
    ·exact hall x hx
    ·rw [List.mem_singleton.1 hx];exact decide_eq_true ab
   refine bB (hK5 _ ?_)
   clear hK5;try clear K5
   refine au (am (ei rfl (ef rfl (aP rfl (ai (bi _ _ aa rfl rfl _ rfl ab (by (simp only [aZ,bq,bo,bG,bE,bM,bF];omega)) ag) ?_)))))
   refine ai (cp _ aa rfl (by exact xN _ _ ab) rfl) ?_
   refine ai (aU _ _ aa rfl ag (by (simp <;> rfl)) ah rfl) ?_
   refine ai (cE (27,0) _ _ aa rfl rfl (bF _).symm (.sl rfl) ab rfl ((lM _ (mK l k)).trans (by rw [hs])) hlk1.symm) ?_
   refine dY rfl (aj ?_)
   refine aN (σ':=aA 39 [(0,_),(3,_),(5,_),(6,_)] [((3,0),_),((27,0),_)] [] []) kp ?_
   refine an (aP rfl (ai (bc _ _ rfl rfl (be ab)) ?_))
   refine ba rfl (ax (⟨k+1,?_,?_,?_⟩))
   ·exact ⟨by omega,hall1⟩
   ·skip
    refine Le.mkJ [((5,0),(27,0))] [] rfl ?_ ?_ trivial trivial ?_
    ·exact ⟨(by repeat' (exact Lv.sl)),(cr (id:=(3,0)) rfl),(bY ag),(cq rfl ag),trivial⟩
    ·exact ⟨(di rfl rfl rfl rfl (by repeat' (first | exact Lv.v | exact Lv.sl | exact bf | refine aD ?_ ?_))),(cw rfl rfl rfl ag),trivial⟩
    ·kernel_rfl
   ·omega
  ·skip
   have hf:=uj (p:=fun x=> decide (x.1 < h.1)) hall (.inr (decide_eq_false ab))
   refine bK (id (hK4 _ ?_))
   clear hK4;try clear K4
   refine am (ei rfl (ai (aR _ aa rfl rfl rfl rfl) (ai (aU _ _ aa rfl ag (by (simp <;> rfl)) ah rfl) ?_)))
   refine ai (cE (33,0) _ _ aa rfl rfl (bF _).symm (.sl rfl) ab rfl (lM _ h) (show (l.take k).length+1=(l.take k++[h]).length by simp)) ?_
   refine dY rfl (aj (aq ?_))
   refine aN (σ':=aA 39 [(0,_),(5,_),(6,_)] [((33,0),_)] [] []) kp ?_
   refine an (ei rfl (ef rfl (aP rfl (ai (jx _ _ _ aa rfl k l.length (.lit rfl rfl) .dflt hk (Nat.le_refl _) (show _=lA (l.drop k) by rw [show (lA l).drop (k*5)=lA (l.drop k) from np tX 5 (fun _=> rfl) l k];exact List.take_of_length_le (by rw [bF,List.length_drop];exact Nat.le_refl _)) rfl) ?_))))
   refine ai (cE (38,0) _ _ aa rfl rfl (bF _).symm (.sl (by rw [bF,List.length_drop])) (by simp;omega) rfl (ul _ _) (show (l.take k++[h]).length+(l.length - k)=(l.take k++[h]++l.drop k).length by simp;omega)) ?_
   refine dY rfl (aj (aE ?_))
   have hfin:l.take k++[h]++l.drop k=nF l h:=by unfold nF;rw [hf.1,hf.2];simp
   exact aX (.inr rfl) rfl (.tmp (rfl:_=AV.ref _ _ _)) (Le.out [] [(38,0)] (by rw [← hfin];exact fY rfl rfl (bF _).symm rfl) rfl rfl rfl tr trivial)
 ·skip
  have hf:=uj (p:=fun x=> decide (x.1 < h.1)) hall (.inl ab)
  refine eF rfl ?_
  refine cQ rfl (fun τ=> rfl) ah ?_
  refine eV rfl ?_
  refine cQ rfl (fun τ=> rfl) ah ?_
  refine fF rfl ?_
  refine cQ rfl (fun τ=> rfl) ah ?_
  refine iu rfl ?_
  refine cQ rfl (fun τ=> rfl) ah ?_
  refine ig rfl ?_
  refine cQ rfl (fun τ=> rfl) ah ?_
  refine eO rfl ?_
  refine cQ rfl (fun τ=> rfl) ah ?_
  refine fc rfl ?_
  refine cQ rfl (fun τ=> rfl) ah ?_
  refine gU rfl ?_
  refine cQ rfl (fun τ=> rfl) ah ?_
  refine gY rfl ?_
  refine ap (_,[]) (fun τ=> aG _ _ _ rfl (rfl:_=AV.v (.bool _))) ?_
  refine jm rfl (bg ⟨rfl,?_⟩)
  refine ax (hK6 _ ?_)
  clear hK6;try clear K6
  refine aS rfl rfl (bK (id (hK4 _ ?_)))
  clear hK4;try clear K4
  refine am (ei rfl (ai (aR _ aa rfl rfl rfl rfl) (ai (aU _ _ aa rfl ag (by (simp <;> rfl)) ah rfl) ?_)))
  refine ai (cE (33,0) _ _ aa rfl rfl (bF _).symm (.sl rfl) ab rfl (lM _ h) (show (l.take k).length+1=(l.take k++[h]).length by simp)) ?_
  refine dY rfl (aj (aq ?_))
  refine aN (σ':=aA 39 [(0,_),(5,_),(6,_)] [((33,0),_)] [] []) kp ?_
  refine an (ei rfl (ef rfl (aP rfl (ai (jx _ _ _ aa rfl k l.length (.lit rfl rfl) .dflt hk (Nat.le_refl _) (show _=lA (l.drop k) by rw [show (lA l).drop (k*5)=lA (l.drop k) from np tX 5 (fun _=> rfl) l k];exact List.take_of_length_le (by rw [bF,List.length_drop];exact Nat.le_refl _)) rfl) ?_))))
  refine ai (cE (38,0) _ _ aa rfl rfl (bF _).symm (.sl (by rw [bF,List.length_drop])) (by simp;omega) rfl (ul _ _) (show (l.take k++[h]).length+(l.length - k)=(l.take k++[h]++l.drop k).length by simp;omega)) ?_
  refine dY rfl (aj (aE ?_))
  have hfin:l.take k++[h]++l.drop k=nF l h:=by unfold nF;rw [hf.1,hf.2];simp
  exact aX (.inr rfl) rfl (.tmp (rfl:_=AV.ref _ _ _)) (Le.out [] [(38,0)] (by rw [← hfin];exact fY rfl rfl (bF _).symm rfl) rfl rfl rfl tr trivial)
end Go.Proofs.YtmjnackchaahbaaGreat
