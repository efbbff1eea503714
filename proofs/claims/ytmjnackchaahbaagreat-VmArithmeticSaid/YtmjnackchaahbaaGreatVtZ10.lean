/- Part 10 of the texts that the walk leans on: the machine, the walks, the plain laws. -/
import Derived.Test.YtmjnackchaahbaaGreatVtZ9
set_option linter.unusedSimpArgs false
set_option linter.unusedVariables false
namespace Go.Proofs.YtmjnackchaahbaaGreat
open Go.RowKit

structure PS (T:List Tk) (N:List Tx) (f:Nat):Prop where
 stm: ∀ lv i r,lv≤20→i < T.length→uB T f lv i=some r→r.2 < T.length∧Spec Tryz.prog 202 (aY [.ptr (0,9) 0, .v (.int .i64 (lv:Int))] (dn T i N)) (PO T N r)
 blk: ∀ lv i r,lv≤21→i < T.length→nL T f lv i=some r→r.2 < T.length∧Spec Tryz.prog 164 (aY [.ptr (0,9) 0, .v (.int .i64 (lv:Int))] (dn T i N)) (PO T N r)
def xt:List Tx:=[rz,ip,mT,fE,iU,mJ,kH,mR,nj]
theorem eF {T:List Tk} {i:Nat} (h:rf (cK T i).t=true):dH T i=false:=by unfold dH;rw [h];simp
section
variable {T:List Tk} {N:List Tx}
theorem tj (hT:T.length≤100000) (lv i:Nat) (hl:lv≤20) (hi:i < T.length) (hn:dH T i=true) {d:Nd} {j1 j2 j3:Nat} (h1:Spec Tryz.prog 162 (aY [.ptr (0,9) 0, .v (bt [61])] (dn T (bK T i) N)) (be (.tup []) (dn T j1 N) [(0,9)] [(0,9)])) (h2:Spec Tryz.prog 226 (aY [.ptr (0,9) 0, .v (.int .i64 (lv:Int)), .v (.int .i64 1)] (dn T j1 N)) (PO T N (d,j2))) (h3:Spec Tryz.prog 162 (aY [.ptr (0,9) 0, .v (bt [59])] (dn T j2 N)) (be (.tup []) (dn T j3 N) [(0,9)] [(0,9)])):
  Spec Tryz.prog 202 (aY [.ptr (0,9) 0, .v (.int .i64 (lv:Int))] (dn T i N)) (PO T N (nd 1 0 (cK T i).t [d],j3)):=by
 refine Spec.ofNI Tryz.func202 rfl Tryz.ntmps202 rfl ?_
 refine am (aj (aR (4,0) aa rfl rfl) (ai (am (bN rfl (aj (bm aa _ _ ar (bL T i N hi) tr rfl ae (by simp)) ?_)))))
 refine mi rfl (ai (am (aj (aF _ aa rfl (by exact (rfl:_=some [_,_,_,_]))) ?_)))
 refine aj (aR (6,0) aa rfl rfl) (cF rfl rfl rfl rfl rfl rfl (ai (aq (am (bN rfl (aj (bm aa _ _ ar (dj T i N hi) tr rfl ae (by simp)) ?_))))))
 refine ai (bR rfl hn (am (bN rfl (aj (bP (ca T i N hi hT)) ?_))))
 refine ai (aT fun K7 hK7=> ?_)
 refine an (bN rfl (aj (bP (h1)) (aI (hK7 _ ?_))))
 clear hK7;try clear K7
 refine aT fun K8 hK8=> ?_
 refine an (dv rfl (bN rfl (aV rfl (aj (bP (h2)) (aj (bi _ _ aa rfl ag (by (simp <;> rfl)) ah rfl) ?_)))))
 refine aj (aF _ aa rfl (by exact (rfl:_=some [_,_,_,_]))) ?_
 refine cF rfl rfl rfl rfl rfl rfl (aI (hK8 _ ?_))
 clear hK8;try clear K8
 refine aT fun K9 hK9=> ?_
 refine aQ (σ':=aA 145 [(0,_),(4,_),(6,_)] [((0,9),_),((4,0),_),((6,0),_)] [(0,9)] [(0,9)]) kp ?_
 refine an (bN rfl (aj (bP (h3)) (aI (hK9 _ ?_))))
 clear hK9;try clear K9
 exact am (aj (aX _ aa rfl rfl rfl rfl) (cF rfl rfl rfl rfl rfl rfl (ai (aE (aW (.inr rfl) rfl (.cellA aa rfl rfl rfl) (Le.outI [] [] (.agg rfl lz) rfl rfl rfl trivial ob tr rfl))))))
theorem wo (hT:T.length≤100000) (lv i:Nat) (hl:lv≤20) (hi:i < T.length) (ht:(cK T i).t=ip) {c x:Nd} {j1 j2:Nat} (h1:Spec Tryz.prog 226 (aY [.ptr (0,9) 0, .v (.int .i64 (lv:Int)), .v (.int .i64 1)] (dn T (bK T i) N)) (PO T N (c,j1))) (h2:Spec Tryz.prog 164 (aY [.ptr (0,9) 0, .v (.int .i64 ((lv+1:Nat):Int))] (dn T j1 N)) (PO T N (x,j2))):
  Spec Tryz.prog 202 (aY [.ptr (0,9) 0, .v (.int .i64 (lv:Int))] (dn T i N)) (PO T N (nd 3 0 [] [c,x],j2)):=by
 have hnx:=bL T i N hi
 have hn:dH T i=false:=eF (by rw [ht];rfl)
 rw [ht] at hnx
 refine Spec.ofNI Tryz.func202 rfl Tryz.ntmps202 rfl ?_
 refine am (aj (aR (4,0) aa rfl rfl) (ai (am (bN rfl (aj (bm aa _ _ ar (hnx) tr rfl ae (by simp)) ?_)))))
 refine mi rfl (ai (am (aj (aF _ aa rfl (by exact (rfl:_=some [_,_,_,_]))) ?_)))
 refine aj (aR (6,0) aa rfl rfl) (cF rfl rfl rfl rfl rfl rfl (ai (aq (am (bN rfl (aj (bm aa _ _ ar (dj T i N hi) tr rfl ae (by simp)) ?_))))))
 refine ai (aS rfl hn (aO (aq (am (aj (bi _ _ aa rfl ag (by (simp <;> rfl)) ah rfl) ?_)))))
 refine dv rfl (aj (aC aa al (ci xt 9 rfl ab ip) rfl rfl) ?_)
 refine aj (cL (r:=false) _ rfl rfl) (ai (aS rfl rfl (aO (am (bN rfl (aj (bP (ca T i N hi hT)) ?_))))))
 refine ai (aq (aq ?_))
 refine aQ (σ':=aA 145 [(0,_),(1,_),(4,_),(5,_),(6,_)] [((0,9),_),((4,0),_),((6,0),_)] [(0,9)] [(0,9)]) kp ?_
 refine an (dv rfl (ai (au (aq (am (aj (aK (r:=false) _ _ Tryz.underlying9 rfl rfl rfl) (ce rfl (ai (aS rfl rfl (an ?_))))))))))
 refine aj (aK (r:=true) _ _ Tryz.underlying9 rfl rfl rfl) (ce rfl (ai (bR rfl rfl (aT fun K13 hK13=> ?_))))
 refine an (bN rfl (aV rfl (aj (bP (h1)) (aj (aR (7,0) aa rfl rfl) (cF rfl rfl rfl rfl rfl rfl (aI (hK13 _ ?_)))))))
 clear hK13;try clear K13
 refine aT fun K14 hK14=> ?_
 refine aQ (σ':=aA 145 [(0,_),(1,_),(4,_),(5,_),(7,_)] [((0,9),_),((4,0),_),((7,0),_)] [(0,9)] [(0,9)]) kp ?_
 refine bT 5 [53,54,55,56,57] [(0,9)] ae ae rfl (aM rfl) (rfl:_=[_,_,_,_,_]) (rfl:_=[_,_]) ?_
 refine ap (_,[]) (fun τ=> aX _ aa rfl rfl rfl rfl) ?_
 refine fO rfl ?_
 refine ap (_,[]) (fun τ=> aH _ (rfl:_=AV.ptr _ _)) ?_
 refine fR rfl ?_
 refine ap (_,[]) (fun τ=> aH _ (rfl:_=AV.v (.int _ _))) ?_
 refine fT rfl ?_
 refine ap (_,[]) (fun τ=> aZ _ _ rfl rfl (bJ ab)) ?_
 refine fP rfl ?_
 refine ap (_,[((0,9),_)]) (fun τ=> (gR aa ar (h2) ob rfl rfl ae)) ?_
 refine gb rfl (bw ⟨rfl,?_⟩)
 refine aj (bi _ _ aa rfl ag (by (simp <;> rfl)) ah rfl) ?_
 refine jS rfl (aI (hK14 _ ?_))
 clear hK14;try clear K14
 refine aq (am (dv rfl (aj (aK (r:=true) _ _ Tryz.underlying9 rfl rfl rfl) (ai (bR rfl rfl (am (eT rfl (aj (aF _ aa rfl (by exact (rfl:_=some [_,_,_,_]))) ?_))))))))
 exact cF rfl rfl rfl rfl rfl rfl (ai (aE (aW (.inr rfl) rfl (.cellA aa rfl rfl rfl) (Le.outI [] [] (.agg rfl lz) rfl rfl rfl trivial ob tr rfl))))
theorem Dc (hT:T.length≤100000) (lv i:Nat) (hl:lv≤20) (hi:i < T.length) (ht:(cK T i).t=rz) {c x:Nd} {j1 j2:Nat} (h1:Spec Tryz.prog 226 (aY [.ptr (0,9) 0, .v (.int .i64 (lv:Int)), .v (.int .i64 1)] (dn T (bK T i) N)) (PO T N (c,j1))) (h2:Spec Tryz.prog 164 (aY [.ptr (0,9) 0, .v (.int .i64 ((lv+1:Nat):Int))] (dn T j1 N)) (PO T N (x,j2))) (hj:j2 < T.length) (he:(cK T j2).t≠oZ):
  Spec Tryz.prog 202 (aY [.ptr (0,9) 0, .v (.int .i64 (lv:Int))] (dn T i N)) (PO T N (nd 2 0 [] [c,x,nd 11 0 [] []],j2)):=by
 have hnx:=bL T i N hi
 have hn:dH T i=false:=eF (by rw [ht];rfl)
 rw [ht] at hnx
 refine Spec.ofNI Tryz.func202 rfl Tryz.ntmps202 rfl ?_
 refine am (aj (aR (4,0) aa rfl rfl) (ai (am (bN rfl (aj (bm aa _ _ ar (hnx) tr rfl ae (by simp)) ?_)))))
 refine mi rfl (ai (am (aj (aF _ aa rfl (by exact (rfl:_=some [_,_,_,_]))) ?_)))
 refine aj (aR (6,0) aa rfl rfl) (cF rfl rfl rfl rfl rfl rfl (ai (aq (am (bN rfl (aj (bm aa _ _ ar (dj T i N hi) tr rfl ae (by simp)) ?_))))))
 refine ai (aS rfl hn (aO (aq (am (aj (bi _ _ aa rfl ag (by (simp <;> rfl)) ah rfl) ?_)))))
 refine dv rfl (aj (aC aa al (ci xt 9 rfl ab rz) rfl rfl) ?_)
 refine aj (cL (r:=false) _ rfl rfl) (ai (aS rfl rfl (aO (am (bN rfl (aj (bP (ca T i N hi hT)) ?_))))))
 refine ai (aq (aq ?_))
 refine aQ (σ':=aA 145 [(0,_),(1,_),(4,_),(5,_),(6,_)] [((0,9),_),((4,0),_),((6,0),_)] [(0,9)] [(0,9)]) kp ?_
 refine an (dv rfl (ai (au (aq (am (aj (aK (r:=true) _ _ Tryz.underlying9 rfl rfl rfl) (ce rfl (ai (bR rfl rfl (aO ?_))))))))))
 refine bR rfl rfl (aT fun K13 hK13=> ?_)
 refine an (bN rfl (aV rfl (aj (bP (h1)) (aj (aR (7,0) aa rfl rfl) (cF rfl rfl rfl rfl rfl rfl (aI (hK13 _ ?_)))))))
 clear hK13;try clear K13
 refine aT fun K14 hK14=> ?_
 refine aQ (σ':=aA 145 [(0,_),(1,_),(4,_),(5,_),(7,_)] [((0,9),_),((4,0),_),((7,0),_)] [(0,9)] [(0,9)]) kp ?_
 refine bT 5 [53,54,55,56,57] [(0,9)] ae ae rfl (aM rfl) (rfl:_=[_,_,_,_,_]) (rfl:_=[_,_]) ?_
 refine ap (_,[]) (fun τ=> aX _ aa rfl rfl rfl rfl) ?_
 refine fO rfl ?_
 refine ap (_,[]) (fun τ=> aH _ (rfl:_=AV.ptr _ _)) ?_
 refine fR rfl ?_
 refine ap (_,[]) (fun τ=> aH _ (rfl:_=AV.v (.int _ _))) ?_
 refine fT rfl ?_
 refine ap (_,[]) (fun τ=> aZ _ _ rfl rfl (bJ ab)) ?_
 refine fP rfl ?_
 refine ap (_,[((0,9),_)]) (fun τ=> (gR aa ar (h2) ob rfl rfl ae)) ?_
 refine gb rfl (bw ⟨rfl,?_⟩)
 refine aj (js (58,0) _ _ aa rfl ag (by (simp <;> rfl)) ah rfl rfl) ?_
 refine eE rfl (aI (hK14 _ ?_))
 clear hK14;try clear K14
 refine aq (am (dv rfl (aj (aK (r:=false) _ _ Tryz.underlying9 rfl rfl rfl) (ai (aS rfl rfl (aO (am (aj (aF _ aa rfl (by exact (rfl:_=some [_,_,_,_]))) ?_))))))))
 refine aj (aR (9,0) aa rfl rfl) (cF rfl rfl rfl rfl rfl rfl (ai (aq (am (bN rfl (aj (aJ _ rfl rfl) (bu rfl rfl rfl (cw rfl rfl rfl (jv rfl rfl rfl (cE rfl ?_))))))))))
 refine ax rfl rfl (aH _ (rfl:_=AV.ptr _ _)) (ax rfl rfl (bm aa _ _ ar (bL T j2 N hj) tr rfl ae (by simp)) ?_)
 refine ax rfl rfl (aK (r:=false) _ _ Tryz.underlying9 rfl rfl (beq_eq_false_iff_ne.2 he)) ?_
 refine aj (az _ _ _ rfl (rfl:_=AV.v (.bool _))) (ai (aS rfl rfl (aO (aq ?_))))
 refine aQ (σ':=aA 145 [(4,_),(8,_),(9,_)] [((4,0),_),((58,0),_),((9,0),_),((0,9),_)] [(0,9)] [(0,9)]) kp ?_
 refine an (fW rfl (cu (Le.nil0 (9,0) 3 rfl rfl) ?_))
 refine aj (aX _ aa rfl rfl rfl rfl) (aj (bi _ _ aa rfl ag (by (simp <;> rfl)) ah rfl) ?_)
 refine aj (de (83,0) _ _ aa rfl rfl ag (by (refine .sl ?_;(simp [dS];done))) ab rfl (rfl) (rfl)) ?_
 refine aj (aF _ aa rfl (by exact (rfl:_=some [_,_,_,_]))) ?_
 exact cF rfl rfl rfl rfl rfl rfl (ai (aE (aW (.inr rfl) rfl (.cellA aa rfl rfl rfl) (Le.outI [] [(83,0)] (.agg rfl (aB .v (aB .v (aB .v (aB (iL rfl rfl rfl rfl) br))))) rfl rfl rfl tr ob tr rfl))))
theorem ug (hT:T.length≤100000) (lv i:Nat) (hl:lv≤20) (hi:i < T.length) (ht:(cK T i).t=rz) {c x y:Nd} {j1 j2 j3:Nat} (h1:Spec Tryz.prog 226 (aY [.ptr (0,9) 0, .v (.int .i64 (lv:Int)), .v (.int .i64 1)] (dn T (bK T i) N)) (PO T N (c,j1))) (h2:Spec Tryz.prog 164 (aY [.ptr (0,9) 0, .v (.int .i64 ((lv+1:Nat):Int))] (dn T j1 N)) (PO T N (x,j2))) (hj:j2 < T.length) (he:(cK T j2).t=oZ) (h3:Spec Tryz.prog 164 (aY [.ptr (0,9) 0, .v (.int .i64 ((lv+1:Nat):Int))] (dn T (bK T j2) N)) (PO T N (y,j3))):
  Spec Tryz.prog 202 (aY [.ptr (0,9) 0, .v (.int .i64 (lv:Int))] (dn T i N)) (PO T N (nd 2 0 [] [c,x,y],j3)):=by
 have hnx:=bL T i N hi
 have hn:dH T i=false:=eF (by rw [ht];rfl)
 rw [ht] at hnx
 refine Spec.ofNI Tryz.func202 rfl Tryz.ntmps202 rfl ?_
 refine am (aj (aR (4,0) aa rfl rfl) (ai (am (bN rfl (aj (bm aa _ _ ar (hnx) tr rfl ae (by simp)) ?_)))))
 refine mi rfl (ai (am (aj (aF _ aa rfl (by exact (rfl:_=some [_,_,_,_]))) ?_)))
 refine aj (aR (6,0) aa rfl rfl) (cF rfl rfl rfl rfl rfl rfl (ai (aq (am (bN rfl (aj (bm aa _ _ ar (dj T i N hi) tr rfl ae (by simp)) ?_))))))
 refine ai (aS rfl hn (aO (aq (am (aj (bi _ _ aa rfl ag (by (simp <;> rfl)) ah rfl) ?_)))))
 refine dv rfl (aj (aC aa al (ci xt 9 rfl ab rz) rfl rfl) ?_)
 refine aj (cL (r:=false) _ rfl rfl) (ai (aS rfl rfl (aO (am (bN rfl (aj (bP (ca T i N hi hT)) ?_))))))
 refine ai (aq (aq ?_))
 refine aQ (σ':=aA 145 [(0,_),(1,_),(4,_),(5,_),(6,_)] [((0,9),_),((4,0),_),((6,0),_)] [(0,9)] [(0,9)]) kp ?_
 refine an (dv rfl (ai (au (aq (am (aj (aK (r:=true) _ _ Tryz.underlying9 rfl rfl rfl) (ce rfl (ai (bR rfl rfl (aO ?_))))))))))
 refine bR rfl rfl (aT fun K13 hK13=> ?_)
 refine an (bN rfl (aV rfl (aj (bP (h1)) (aj (aR (7,0) aa rfl rfl) (cF rfl rfl rfl rfl rfl rfl (aI (hK13 _ ?_)))))))
 clear hK13;try clear K13
 refine aT fun K14 hK14=> ?_
 refine aQ (σ':=aA 145 [(0,_),(1,_),(4,_),(5,_),(7,_)] [((0,9),_),((4,0),_),((7,0),_)] [(0,9)] [(0,9)]) kp ?_
 refine bT 5 [53,54,55,56,57] [(0,9)] ae ae rfl (aM rfl) (rfl:_=[_,_,_,_,_]) (rfl:_=[_,_]) ?_
 refine ap (_,[]) (fun τ=> aX _ aa rfl rfl rfl rfl) ?_
 refine fO rfl ?_
 refine ap (_,[]) (fun τ=> aH _ (rfl:_=AV.ptr _ _)) ?_
 refine fR rfl ?_
 refine ap (_,[]) (fun τ=> aH _ (rfl:_=AV.v (.int _ _))) ?_
 refine fT rfl ?_
 refine ap (_,[]) (fun τ=> aZ _ _ rfl rfl (bJ ab)) ?_
 refine fP rfl ?_
 refine ap (_,[((0,9),_)]) (fun τ=> (gR aa ar (h2) ob rfl rfl ae)) ?_
 refine gb rfl (bw ⟨rfl,?_⟩)
 refine aj (js (58,0) _ _ aa rfl ag (by (simp <;> rfl)) ah rfl rfl) ?_
 refine eE rfl (aI (hK14 _ ?_))
 clear hK14;try clear K14
 refine aq (am (dv rfl (aj (aK (r:=false) _ _ Tryz.underlying9 rfl rfl rfl) (ai (aS rfl rfl (aO (am (aj (aF _ aa rfl (by exact (rfl:_=some [_,_,_,_]))) ?_))))))))
 refine aj (aR (9,0) aa rfl rfl) (cF rfl rfl rfl rfl rfl rfl (ai (aT fun K18 hK18=> ?_)))
 refine am (bN rfl (aj (aJ _ rfl rfl) (bu rfl rfl rfl (cw rfl rfl rfl (jv rfl rfl rfl (cE rfl (ax rfl rfl (aH _ (rfl:_=AV.ptr _ _)) (ax rfl rfl (bm aa _ _ ar (bL T j2 N hj) tr rfl ae (by simp)) ?_))))))))
 refine ax rfl rfl (aK (r:=true) _ _ Tryz.underlying9 rfl rfl (beq_iff_eq.2 he)) ?_
 refine aj (az _ _ _ rfl (rfl:_=AV.v (.bool _))) (ai (bR rfl rfl (aT fun K20 hK20=> ?_)))
 refine aQ (σ':=aA 145 [(0,_),(1,_),(4,_),(8,_),(9,_)] [((0,9),_),((4,0),_),((58,0),_),((9,0),_)] [(0,9)] [(0,9)]) kp ?_
 refine an (bN rfl (aj (bP (ca T j2 N hj hT)) ?_))
 refine aI (hK20 _ ?_)
 clear hK20;try clear K20
 refine an (bN rfl (aV rfl (aj (aZ _ _ rfl rfl (bJ ab)) ?_)))
 refine aj (bP (h3)) (cF rfl rfl rfl rfl rfl rfl (aI (hK18 _ ?_)))
 clear hK18;try clear K18
 refine am (fW rfl (aj (aX _ aa rfl rfl rfl rfl) (aj (bi _ _ aa rfl ag (by (simp <;> rfl)) ah rfl) ?_)))
 refine aj (de (83,0) _ _ aa rfl rfl ag (by (refine .sl ?_;(simp [dS];done))) ab rfl (rfl) (rfl)) ?_
 refine aj (aF _ aa rfl (by exact (rfl:_=some [_,_,_,_]))) ?_
 exact cF rfl rfl rfl rfl rfl rfl (ai (aE (aW (.inr rfl) rfl (.cellA aa rfl rfl rfl) (Le.outI [] [(83,0)] (.agg rfl (aB .v (aB .v (aB .v (aB (iL rfl rfl rfl rfl) br))))) rfl rfl rfl tr ob tr rfl))))
theorem yM (hT:T.length≤100000) (lv i:Nat) (hl:lv≤20) (hi:i < T.length) (ht:(cK T i).t=mT) {x y z:Nd} {k j1 j2 j3 j4 j5 j6 j7 j8:Nat} (h1:Spec Tryz.prog 226 (aY [.ptr (0,9) 0, .v (.int .i64 (lv:Int)), .v (.int .i64 1)] (dn T (bK T i) N)) (PO T N (x,j1))) (h2:Spec Tryz.prog 162 (aY [.ptr (0,9) 0, .v (bt [44])] (dn T j1 N)) (be (.tup []) (dn T j2 N) [(0,9)] [(0,9)])) (h3:Spec Tryz.prog 200 (aY [.ptr (0,9) 0, .v (.int .i64 29)] (dn T j2 N)) (be (.v (.int .i64 (k:Int))) (dn T j3 N) [(0,9)] [(0,9)])) (h4:Spec Tryz.prog 162 (aY [.ptr (0,9) 0, .v (bt [44])] (dn T j3 N)) (be (.tup []) (dn T j4 N) [(0,9)] [(0,9)])) (h5:Spec Tryz.prog 226 (aY [.ptr (0,9) 0, .v (.int .i64 (lv:Int)), .v (.int .i64 1)] (dn T j4 N)) (PO T N (y,j5))) (h6:Spec Tryz.prog 162 (aY [.ptr (0,9) 0, .v (bt [44])] (dn T j5 N)) (be (.tup []) (dn T j6 N) [(0,9)] [(0,9)])) (h7:Spec Tryz.prog 226 (aY [.ptr (0,9) 0, .v (.int .i64 (lv:Int)), .v (.int .i64 1)] (dn T j6 N)) (PO T N (z,j7))) (h8:Spec Tryz.prog 162 (aY [.ptr (0,9) 0, .v (bt [59])] (dn T j7 N)) (be (.tup []) (dn T j8 N) [(0,9)] [(0,9)])):
  Spec Tryz.prog 202 (aY [.ptr (0,9) 0, .v (.int .i64 (lv:Int))] (dn T i N)) (PO T N (nd 4 k [] [x,y,z],j8)):=by
 have hnx:=bL T i N hi
 have hn:dH T i=false:=eF (by rw [ht];rfl)
 rw [ht] at hnx
 refine Spec.ofNI Tryz.func202 rfl Tryz.ntmps202 rfl ?_
 refine am (aj (aR (4,0) aa rfl rfl) (ai (am (bN rfl (aj (bm aa _ _ ar (hnx) tr rfl ae (by simp)) ?_)))))
 refine mi rfl (ai (am (aj (aF _ aa rfl (by exact (rfl:_=some [_,_,_,_]))) ?_)))
 refine aj (aR (6,0) aa rfl rfl) (cF rfl rfl rfl rfl rfl rfl (ai (aq (am (bN rfl (aj (bm aa _ _ ar (dj T i N hi) tr rfl ae (by simp)) ?_))))))
 refine ai (aS rfl hn (aO (aq (am (aj (bi _ _ aa rfl ag (by (simp <;> rfl)) ah rfl) ?_)))))
 refine dv rfl (aj (aC aa al (ci xt 9 rfl ab mT) rfl rfl) ?_)
 refine aj (cL (r:=false) _ rfl rfl) (ai (aS rfl rfl (aO (am (bN rfl (aj (bP (ca T i N hi hT)) ?_))))))
 refine ai (aT fun K9 hK9=> ?_)
 refine aq ?_
 refine aQ (σ':=aA 145 [(0,_),(1,_),(4,_),(5,_),(6,_)] [((0,9),_),((4,0),_),((6,0),_)] [(0,9)] [(0,9)]) kp ?_
 refine an (dv rfl (ai (au (aq (am (aj (aK (r:=false) _ _ Tryz.underlying9 rfl rfl rfl) (ce rfl (ai (aS rfl rfl (an ?_))))))))))
 refine aj (aK (r:=false) _ _ Tryz.underlying9 rfl rfl rfl) (ce rfl (ai (aS rfl rfl (am (aj (aK (r:=true) _ _ Tryz.underlying9 rfl rfl rfl) (ce rfl (ai (bR rfl rfl (aT fun K14 hK14=> ?_)))))))))
 refine an (bN rfl (aV rfl (aj (bP (h1)) (aj (aR (10,0) aa rfl rfl) (cF rfl rfl rfl rfl rfl rfl (aI (hK14 _ ?_)))))))
 clear hK14;try clear K14
 refine aT fun K15 hK15=> ?_
 refine an (bN rfl (aj (bP (h2)) (aI (hK15 _ ?_))))
 clear hK15;try clear K15
 refine aT fun K16 hK16=> ?_
 refine an (bN rfl (aj (bP (h3)) (bc rfl (aI (hK16 _ ?_)))))
 clear hK16;try clear K16
 refine aT fun K17 hK17=> ?_
 refine aQ (σ':=aA 145 [(0,_),(1,_),(4,_),(6,_),(10,_),(11,_)] [((0,9),_),((4,0),_),((6,0),_),((10,0),_)] [(0,9)] [(0,9)]) kp ?_
 refine an (bN rfl (aj (bP (h4)) (aI (hK17 _ ?_))))
 clear hK17;try clear K17
 refine aT fun K18 hK18=> ?_
 refine an (bN rfl (aV rfl (aj (bP (h5)) (aj (aR (12,0) aa rfl rfl) (cF rfl rfl rfl rfl rfl rfl (aI (hK18 _ ?_)))))))
 clear hK18;try clear K18
 refine aT fun K19 hK19=> ?_
 refine an (bN rfl (aj (bP (h6)) (aI (hK19 _ ?_))))
 clear hK19;try clear K19
 refine aQ (σ':=aA 145 [(0,_),(1,_),(4,_),(6,_),(10,_),(11,_),(12,_)] [((0,9),_),((4,0),_),((6,0),_),((10,0),_),((12,0),_)] [(0,9)] [(0,9)]) kp ?_
 refine bT 7 [101,102,103,104,105,106,107] [(0,9)] ae ae rfl (aM rfl) (rfl:_=[_,_,_,_,_,_,_]) (rfl:_=[_,_]) ?_
 refine ap (_,[]) (fun τ=> aH _ (rfl:_=AV.v (.int _ _))) ?_
 refine fO rfl ?_
 refine ap (_,[]) (fun τ=> aX _ aa rfl rfl rfl rfl) ?_
 refine fR rfl ?_
 refine ap (_,[]) (fun τ=> aX _ aa rfl rfl rfl rfl) ?_
 refine fT rfl ?_
 refine ap (_,[]) (fun τ=> aH _ (rfl:_=AV.ptr _ _)) ?_
 refine fP rfl ?_
 refine ap (_,[]) (fun τ=> aH _ (rfl:_=AV.v (.int _ _))) ?_
 refine gb rfl ?_
 refine ap (_,[((0,9),_)]) (fun τ=> (gR aa ar (h7) ob rfl rfl ae)) ?_
 refine gC rfl ?_
 refine ap (_,[]) (fun τ=> bi _ _ aa rfl ag (by (simp;exact ⟨rfl,rfl⟩)) ah rfl) ?_
 refine iy rfl (bw ⟨rfl,?_⟩)
 refine aj (aF _ aa rfl (by exact (rfl:_=some [_,_,_,_]))) ?_
 refine cF rfl rfl rfl rfl rfl rfl (aI (hK9 _ ?_))
 clear hK9;try clear K9
 refine aT fun K20 hK20=> ?_
 refine an (bN rfl (aj (bP (h8)) (aI (hK20 _ ?_))))
 clear hK20;try clear K20
 exact am (aj (aX _ aa rfl rfl rfl rfl) (cF rfl rfl rfl rfl rfl rfl (ai (aE (aW (.inr rfl) rfl (.cellA aa rfl rfl rfl) (Le.outI [] [] (.agg rfl lz) rfl rfl rfl trivial ob tr rfl))))))
theorem vG (hT:T.length≤100000) (lv i:Nat) (hl:lv≤20) (hi:i < T.length) (ht:(cK T i).t=fE) {k j1 j2:Nat} (h1:Spec Tryz.prog 200 (aY [.ptr (0,9) 0, .v (.int .i64 7)] (dn T (bK T i) N)) (be (.v (.int .i64 (k:Int))) (dn T j1 N) [(0,9)] [(0,9)])) (h2:Spec Tryz.prog 162 (aY [.ptr (0,9) 0, .v (bt [59])] (dn T j1 N)) (be (.tup []) (dn T j2 N) [(0,9)] [(0,9)])):
  Spec Tryz.prog 202 (aY [.ptr (0,9) 0, .v (.int .i64 (lv:Int))] (dn T i N)) (PO T N (nd 5 k [] [],j2)):=by
 have hnx:=bL T i N hi
 have hn:dH T i=false:=eF (by rw [ht];rfl)
 rw [ht] at hnx
 refine Spec.ofNI Tryz.func202 rfl Tryz.ntmps202 rfl ?_
 refine am (aj (aR (4,0) aa rfl rfl) (ai (am (bN rfl (aj (bm aa _ _ ar (hnx) tr rfl ae (by simp)) ?_)))))
 refine mi rfl (ai (am (aj (aF _ aa rfl (by exact (rfl:_=some [_,_,_,_]))) ?_)))
 refine aj (aR (6,0) aa rfl rfl) (cF rfl rfl rfl rfl rfl rfl (ai (aq (am (bN rfl (aj (bm aa _ _ ar (dj T i N hi) tr rfl ae (by simp)) ?_))))))
 refine ai (aS rfl hn (aO (aq (am (aj (bi _ _ aa rfl ag (by (simp <;> rfl)) ah rfl) ?_)))))
 refine dv rfl (aj (aC aa al (ci xt 9 rfl ab fE) rfl rfl) ?_)
 refine aj (cL (r:=false) _ rfl rfl) (ai (aS rfl rfl (aO (am (bN rfl (aj (bP (ca T i N hi hT)) ?_))))))
 refine ai (aT fun K9 hK9=> ?_)
 refine aq ?_
 refine aQ (σ':=aA 145 [(0,_),(1,_),(4,_),(5,_),(6,_)] [((0,9),_),((4,0),_),((6,0),_)] [(0,9)] [(0,9)]) kp ?_
 refine an (dv rfl (ai (au (aq (am (aj (aK (r:=false) _ _ Tryz.underlying9 rfl rfl rfl) (ce rfl (ai (aS rfl rfl (an ?_))))))))))
 refine aj (aK (r:=false) _ _ Tryz.underlying9 rfl rfl rfl) (ce rfl (ai (aS rfl rfl (am (aj (aK (r:=false) _ _ Tryz.underlying9 rfl rfl rfl) (ce rfl (ai (aS rfl rfl (am (aj (aK (r:=true) _ _ Tryz.underlying9 rfl rfl rfl) ?_))))))))))
 refine ce rfl (ai (bR rfl rfl (an (bN rfl (aj (bP (h1)) (aj (aF _ aa rfl (by exact (rfl:_=some [_,_,_,_]))) ?_))))))
 refine cF rfl rfl rfl rfl rfl rfl (aI (hK9 _ ?_))
 clear hK9;try clear K9
 refine aT fun K15 hK15=> ?_
 refine an (bN rfl (aj (bP (h2)) (aI (hK15 _ ?_))))
 clear hK15;try clear K15
 refine aq ?_
 refine aQ (σ':=aA 145 [(4,_),(6,_)] [((4,0),_),((6,0),_),((0,9),_)] [(0,9)] [(0,9)]) kp ?_
 exact an (aj (aX _ aa rfl rfl rfl rfl) (cF rfl rfl rfl rfl rfl rfl (ai (aE (aW (.inr rfl) rfl (.cellA aa rfl rfl rfl) (Le.outI [] [] (.agg rfl lz) rfl rfl rfl trivial ob tr rfl))))))
theorem uf (hT:T.length≤100000) (lv i:Nat) (hl:lv≤20) (hi:i < T.length) (ht:(cK T i).t=iU) {k j1 j2:Nat} (h1:Spec Tryz.prog 200 (aY [.ptr (0,9) 0, .v (.int .i64 7)] (dn T (bK T i) N)) (be (.v (.int .i64 (k:Int))) (dn T j1 N) [(0,9)] [(0,9)])) (h2:Spec Tryz.prog 162 (aY [.ptr (0,9) 0, .v (bt [59])] (dn T j1 N)) (be (.tup []) (dn T j2 N) [(0,9)] [(0,9)])):
  Spec Tryz.prog 202 (aY [.ptr (0,9) 0, .v (.int .i64 (lv:Int))] (dn T i N)) (PO T N (nd 6 k [] [],j2)):=by
 have hnx:=bL T i N hi
 have hn:dH T i=false:=eF (by rw [ht];rfl)
 rw [ht] at hnx
 refine Spec.ofNI Tryz.func202 rfl Tryz.ntmps202 rfl ?_
 refine am (aj (aR (4,0) aa rfl rfl) (ai (am (bN rfl (aj (bm aa _ _ ar (hnx) tr rfl ae (by simp)) ?_)))))
 refine mi rfl (ai (am (aj (aF _ aa rfl (by exact (rfl:_=some [_,_,_,_]))) ?_)))
 refine aj (aR (6,0) aa rfl rfl) (cF rfl rfl rfl rfl rfl rfl (ai (aq (am (bN rfl (aj (bm aa _ _ ar (dj T i N hi) tr rfl ae (by simp)) ?_))))))
 refine ai (aS rfl hn (aO (aq (am (aj (bi _ _ aa rfl ag (by (simp <;> rfl)) ah rfl) ?_)))))
 refine dv rfl (aj (aC aa al (ci xt 9 rfl ab iU) rfl rfl) ?_)
 refine aj (cL (r:=false) _ rfl rfl) (ai (aS rfl rfl (aO (am (bN rfl (aj (bP (ca T i N hi hT)) ?_))))))
 refine ai (aT fun K9 hK9=> ?_)
 refine aq ?_
 refine aQ (σ':=aA 145 [(0,_),(1,_),(4,_),(5,_),(6,_)] [((0,9),_),((4,0),_),((6,0),_)] [(0,9)] [(0,9)]) kp ?_
 refine an (dv rfl (ai (au (aq (am (aj (aK (r:=false) _ _ Tryz.underlying9 rfl rfl rfl) (ce rfl (ai (aS rfl rfl (an ?_))))))))))
 refine aj (aK (r:=false) _ _ Tryz.underlying9 rfl rfl rfl) (ce rfl (ai (aS rfl rfl (am (aj (aK (r:=false) _ _ Tryz.underlying9 rfl rfl rfl) (ce rfl (ai (aS rfl rfl (am (aj (aK (r:=false) _ _ Tryz.underlying9 rfl rfl rfl) ?_))))))))))
 refine ce rfl (ai (aS rfl rfl (am (aj (aK (r:=true) _ _ Tryz.underlying9 rfl rfl rfl) (ce rfl (ai (bR rfl rfl (an (bN rfl (aj (bP (h1)) ?_))))))))))
 refine aj (aF _ aa rfl (by exact (rfl:_=some [_,_,_,_]))) ?_
 refine cF rfl rfl rfl rfl rfl rfl (aI (hK9 _ ?_))
 clear hK9;try clear K9
 refine aT fun K16 hK16=> ?_
 refine aQ (σ':=aA 145 [(0,_),(4,_),(6,_)] [((0,9),_),((4,0),_),((6,0),_)] [(0,9)] [(0,9)]) kp ?_
 refine an (bN rfl (aj (bP (h2)) (aI (hK16 _ ?_))))
 clear hK16;try clear K16
 exact am (aj (aX _ aa rfl rfl rfl rfl) (cF rfl rfl rfl rfl rfl rfl (ai (aE (aW (.inr rfl) rfl (.cellA aa rfl rfl rfl) (Le.outI [] [] (.agg rfl lz) rfl rfl rfl trivial ob tr rfl))))))
theorem xe (hT:T.length≤100000) (lv i:Nat) (hl:lv≤20) (hi:i < T.length) (ht:(cK T i).t=kH) {x y:Nd} {j1 j2 j3 j4:Nat} (h1:Spec Tryz.prog 226 (aY [.ptr (0,9) 0, .v (.int .i64 (lv:Int)), .v (.int .i64 1)] (dn T (bK T i) N)) (PO T N (x,j1))) (h2:Spec Tryz.prog 162 (aY [.ptr (0,9) 0, .v (bt [44])] (dn T j1 N)) (be (.tup []) (dn T j2 N) [(0,9)] [(0,9)])) (h3:Spec Tryz.prog 226 (aY [.ptr (0,9) 0, .v (.int .i64 (lv:Int)), .v (.int .i64 1)] (dn T j2 N)) (PO T N (y,j3))) (h4:Spec Tryz.prog 162 (aY [.ptr (0,9) 0, .v (bt [59])] (dn T j3 N)) (be (.tup []) (dn T j4 N) [(0,9)] [(0,9)])):
  Spec Tryz.prog 202 (aY [.ptr (0,9) 0, .v (.int .i64 (lv:Int))] (dn T i N)) (PO T N (nd 8 0 [] [x,y],j4)):=by
 have hnx:=bL T i N hi
 have hn:dH T i=false:=eF (by rw [ht];rfl)
 rw [ht] at hnx
 refine Spec.ofNI Tryz.func202 rfl Tryz.ntmps202 rfl ?_
 refine am (aj (aR (4,0) aa rfl rfl) (ai (am (bN rfl (aj (bm aa _ _ ar (hnx) tr rfl ae (by simp)) ?_)))))
 refine mi rfl (ai (am (aj (aF _ aa rfl (by exact (rfl:_=some [_,_,_,_]))) ?_)))
 refine aj (aR (6,0) aa rfl rfl) (cF rfl rfl rfl rfl rfl rfl (ai (aq (am (bN rfl (aj (bm aa _ _ ar (dj T i N hi) tr rfl ae (by simp)) ?_))))))
 refine ai (aS rfl hn (aO (aq (am (aj (bi _ _ aa rfl ag (by (simp <;> rfl)) ah rfl) ?_)))))
 refine dv rfl (aj (aC aa al (ci xt 9 rfl ab kH) rfl rfl) ?_)
 refine aj (cL (r:=false) _ rfl rfl) (ai (aS rfl rfl (aO (am (bN rfl (aj (bP (ca T i N hi hT)) ?_))))))
 refine ai (aT fun K9 hK9=> ?_)
 refine aq ?_
 refine aQ (σ':=aA 145 [(0,_),(1,_),(4,_),(5,_),(6,_)] [((0,9),_),((4,0),_),((6,0),_)] [(0,9)] [(0,9)]) kp ?_
 refine an (dv rfl (ai (au (aq (am (aj (aK (r:=false) _ _ Tryz.underlying9 rfl rfl rfl) (ce rfl (ai (aS rfl rfl (an ?_))))))))))
 refine aj (aK (r:=false) _ _ Tryz.underlying9 rfl rfl rfl) (ce rfl (ai (aS rfl rfl (am (aj (aK (r:=false) _ _ Tryz.underlying9 rfl rfl rfl) (ce rfl (ai (aS rfl rfl (am (aj (aK (r:=false) _ _ Tryz.underlying9 rfl rfl rfl) ?_))))))))))
 refine ce rfl (ai (aS rfl rfl (am (aj (aK (r:=false) _ _ Tryz.underlying9 rfl rfl rfl) (ce rfl (ai (aS rfl rfl (am (aj (aK (r:=true) _ _ Tryz.underlying9 rfl rfl rfl) (ce rfl ?_))))))))))
 refine ai (bR rfl rfl (aT fun K17 hK17=> ?_))
 refine an (bN rfl (aV rfl (aj (bP (h1)) (aj (aR (13,0) aa rfl rfl) (cF rfl rfl rfl rfl rfl rfl (aI (hK17 _ ?_)))))))
 clear hK17;try clear K17
 refine aT fun K18 hK18=> ?_
 refine aQ (σ':=aA 145 [(0,_),(1,_),(4,_),(6,_),(13,_)] [((0,9),_),((4,0),_),((6,0),_),((13,0),_)] [(0,9)] [(0,9)]) kp ?_
 refine an (bN rfl (aj (bP (h2)) (aI (hK18 _ ?_))))
 clear hK18;try clear K18
 refine bT 4 [126,127,128,129] [(0,9)] ae ae rfl (aM rfl) (rfl:_=[_,_,_,_]) (rfl:_=[_,_,_]) ?_
 refine ap (_,[]) (fun τ=> aX _ aa rfl rfl rfl rfl) ?_
 refine fO rfl ?_
 refine ap (_,[]) (fun τ=> aH _ (rfl:_=AV.ptr _ _)) ?_
 refine fR rfl ?_
 refine ap (_,[]) (fun τ=> aH _ (rfl:_=AV.v (.int _ _))) ?_
 refine fT rfl ?_
 refine ap (_,[((0,9),_)]) (fun τ=> (gR aa ar (h3) ob rfl rfl ae)) ?_
 refine fP rfl (bw ⟨rfl,?_⟩)
 refine aj (bi _ _ aa rfl ag (by (simp <;> rfl)) ah rfl) ?_
 refine aj (aF _ aa rfl (by exact (rfl:_=some [_,_,_,_]))) ?_
 refine cF rfl rfl rfl rfl rfl rfl (aI (hK9 _ ?_))
 clear hK9;try clear K9
 refine aT fun K19 hK19=> ?_
 refine an (bN rfl (aj (bP (h4)) (aI (hK19 _ ?_))))
 clear hK19;try clear K19
 exact am (aj (aX _ aa rfl rfl rfl rfl) (cF rfl rfl rfl rfl rfl rfl (ai (aE (aW (.inr rfl) rfl (.cellA aa rfl rfl rfl) (Le.outI [] [] (.agg rfl lz) rfl rfl rfl trivial ob tr rfl))))))
theorem yQ (hT:T.length≤100000) (lv i:Nat) (hl:lv≤20) (hi:i < T.length) (ht:(cK T i).t=mR) {x:Nd} {j1 j2:Nat} (h1:Spec Tryz.prog 226 (aY [.ptr (0,9) 0, .v (.int .i64 (lv:Int)), .v (.int .i64 1)] (dn T (bK T i) N)) (PO T N (x,j1))) (h2:Spec Tryz.prog 162 (aY [.ptr (0,9) 0, .v (bt [59])] (dn T j1 N)) (be (.tup []) (dn T j2 N) [(0,9)] [(0,9)])):
  Spec Tryz.prog 202 (aY [.ptr (0,9) 0, .v (.int .i64 (lv:Int))] (dn T i N)) (PO T N (nd 9 0 [] [x],j2)):=by
 have hnx:=bL T i N hi
 have hn:dH T i=false:=eF (by rw [ht];rfl)
 rw [ht] at hnx
 refine Spec.ofNI Tryz.func202 rfl Tryz.ntmps202 rfl ?_
 refine am (aj (aR (4,0) aa rfl rfl) (ai (am (bN rfl (aj (bm aa _ _ ar (hnx) tr rfl ae (by simp)) ?_)))))
 refine mi rfl (ai (am (aj (aF _ aa rfl (by exact (rfl:_=some [_,_,_,_]))) ?_)))
 refine aj (aR (6,0) aa rfl rfl) (cF rfl rfl rfl rfl rfl rfl (ai (aq (am (bN rfl (aj (bm aa _ _ ar (dj T i N hi) tr rfl ae (by simp)) ?_))))))
 refine ai (aS rfl hn (aO (aq (am (aj (bi _ _ aa rfl ag (by (simp <;> rfl)) ah rfl) ?_)))))
 refine dv rfl (aj (aC aa al (ci xt 9 rfl ab mR) rfl rfl) ?_)
 refine aj (cL (r:=false) _ rfl rfl) (ai (aS rfl rfl (aO (am (bN rfl (aj (bP (ca T i N hi hT)) ?_))))))
 refine ai (aT fun K9 hK9=> ?_)
 refine aq ?_
 refine aQ (σ':=aA 145 [(0,_),(1,_),(4,_),(5,_),(6,_)] [((0,9),_),((4,0),_),((6,0),_)] [(0,9)] [(0,9)]) kp ?_
 refine an (dv rfl (ai (au (aq (am (aj (aK (r:=false) _ _ Tryz.underlying9 rfl rfl rfl) (ce rfl (ai (aS rfl rfl (an ?_))))))))))
 refine aj (aK (r:=false) _ _ Tryz.underlying9 rfl rfl rfl) (ce rfl (ai (aS rfl rfl (am (aj (aK (r:=false) _ _ Tryz.underlying9 rfl rfl rfl) (ce rfl (ai (aS rfl rfl (am (aj (aK (r:=false) _ _ Tryz.underlying9 rfl rfl rfl) ?_))))))))))
 refine ce rfl (ai (aS rfl rfl (am (aj (aK (r:=false) _ _ Tryz.underlying9 rfl rfl rfl) (ce rfl (ai (aS rfl rfl (am (aj (aK (r:=false) _ _ Tryz.underlying9 rfl rfl rfl) (ce rfl ?_))))))))))
 refine ai (aS rfl rfl (am (aj (aK (r:=true) _ _ Tryz.underlying9 rfl rfl rfl) (ce rfl (ai (bR rfl rfl ?_))))))
 refine aQ (σ':=aA 145 [(0,_),(1,_),(4,_),(6,_)] [((0,9),_),((4,0),_),((6,0),_)] [(0,9)] [(0,9)]) kp ?_
 refine an (bN rfl (aV rfl (aj (bP (h1)) (aj (bi _ _ aa rfl ag (by (simp <;> rfl)) ah rfl) ?_))))
 refine aj (aF _ aa rfl (by exact (rfl:_=some [_,_,_,_]))) ?_
 refine cF rfl rfl rfl rfl rfl rfl (aI (hK9 _ ?_))
 clear hK9;try clear K9
 refine aT fun K18 hK18=> ?_
 refine an (bN rfl (aj (bP (h2)) (aI (hK18 _ ?_))))
 clear hK18;try clear K18
 exact am (aj (aX _ aa rfl rfl rfl rfl) (cF rfl rfl rfl rfl rfl rfl (ai (aE (aW (.inr rfl) rfl (.cellA aa rfl rfl rfl) (Le.outI [] [] (.agg rfl lz) rfl rfl rfl trivial ob tr rfl))))))
theorem yA (hT:T.length≤100000) (lv i:Nat) (hl:lv≤20) (hi:i < T.length) (ht:(cK T i).t=mJ) {j1:Nat} (h1:Spec Tryz.prog 162 (aY [.ptr (0,9) 0, .v (bt [59])] (dn T (bK T i) N)) (be (.tup []) (dn T j1 N) [(0,9)] [(0,9)])):
  Spec Tryz.prog 202 (aY [.ptr (0,9) 0, .v (.int .i64 (lv:Int))] (dn T i N)) (PO T N (nd 7 0 [] [],j1)):=by
 have hnx:=bL T i N hi
 have hn:dH T i=false:=eF (by rw [ht];rfl)
 rw [ht] at hnx
 refine Spec.ofNI Tryz.func202 rfl Tryz.ntmps202 rfl ?_
 refine am (aj (aR (4,0) aa rfl rfl) (ai (am (bN rfl (aj (bm aa _ _ ar (hnx) tr rfl ae (by simp)) ?_)))))
 refine mi rfl (ai (am (aj (aF _ aa rfl (by exact (rfl:_=some [_,_,_,_]))) ?_)))
 refine aj (aR (6,0) aa rfl rfl) (cF rfl rfl rfl rfl rfl rfl (ai (aq (am (bN rfl (aj (bm aa _ _ ar (dj T i N hi) tr rfl ae (by simp)) ?_))))))
 refine ai (aS rfl hn (aO (aq (am (aj (bi _ _ aa rfl ag (by (simp <;> rfl)) ah rfl) ?_)))))
 refine dv rfl (aj (aC aa al (ci xt 9 rfl ab mJ) rfl rfl) ?_)
 refine aj (cL (r:=false) _ rfl rfl) (ai (aS rfl rfl (aO (am (bN rfl (aj (bP (ca T i N hi hT)) ?_))))))
 refine ai (aq (aq ?_))
 refine aQ (σ':=aA 145 [(0,_),(1,_),(4,_),(5,_),(6,_)] [((0,9),_),((4,0),_),((6,0),_)] [(0,9)] [(0,9)]) kp ?_
 refine an (dv rfl (ai (au (aq (am (aj (aK (r:=false) _ _ Tryz.underlying9 rfl rfl rfl) (ce rfl (ai (aS rfl rfl (an ?_))))))))))
 refine aj (aK (r:=false) _ _ Tryz.underlying9 rfl rfl rfl) (ce rfl (ai (aS rfl rfl (am (aj (aK (r:=false) _ _ Tryz.underlying9 rfl rfl rfl) (ce rfl (ai (aS rfl rfl (am (aj (aK (r:=false) _ _ Tryz.underlying9 rfl rfl rfl) ?_))))))))))
 refine ce rfl (ai (aS rfl rfl (am (aj (aK (r:=false) _ _ Tryz.underlying9 rfl rfl rfl) (ce rfl (ai (aS rfl rfl (am (aj (aK (r:=false) _ _ Tryz.underlying9 rfl rfl rfl) (ce rfl ?_))))))))))
 refine ai (aS rfl rfl (am (aj (aK (r:=false) _ _ Tryz.underlying9 rfl rfl rfl) (ce rfl (ai (aS rfl rfl (aq ?_)))))))
 refine aQ (σ':=aA 145 [(0,_),(4,_),(6,_),(45,_)] [((0,9),_),((4,0),_),((6,0),_)] [(0,9)] [(0,9)]) kp ?_
 refine an (aj (aK (r:=true) _ _ Tryz.underlying9 rfl rfl rfl) (ce rfl (ai (bR rfl rfl (an (bu rfl rfl rfl (cF rfl rfl rfl rfl rfl rfl (gq (aT fun K19 hK19=> ?_)))))))))
 refine an (bN rfl (aj (bP (h1)) (aI (hK19 _ ?_))))
 clear hK19;try clear K19
 exact am (aj (aX _ aa rfl rfl rfl rfl) (cF rfl rfl rfl rfl rfl rfl (ai (aE (aW (.inr rfl) rfl (.cellA aa rfl rfl rfl) (Le.outI [] [] (.agg rfl lz) rfl rfl rfl trivial ob tr rfl))))))
theorem ze (hT:T.length≤100000) (lv i:Nat) (hl:lv≤20) (hi:i < T.length) (ht:(cK T i).t=nj) {j1:Nat} (h1:Spec Tryz.prog 162 (aY [.ptr (0,9) 0, .v (bt [59])] (dn T (bK T i) N)) (be (.tup []) (dn T j1 N) [(0,9)] [(0,9)])):
  Spec Tryz.prog 202 (aY [.ptr (0,9) 0, .v (.int .i64 (lv:Int))] (dn T i N)) (PO T N (nd 10 0 [] [],j1)):=by
 have hnx:=bL T i N hi
 have hn:dH T i=false:=eF (by rw [ht];rfl)
 rw [ht] at hnx
 refine Spec.ofNI Tryz.func202 rfl Tryz.ntmps202 rfl ?_
 refine am (aj (aR (4,0) aa rfl rfl) (ai (am (bN rfl (aj (bm aa _ _ ar (hnx) tr rfl ae (by simp)) ?_)))))
 refine mi rfl (ai (am (aj (aF _ aa rfl (by exact (rfl:_=some [_,_,_,_]))) ?_)))
 refine aj (aR (6,0) aa rfl rfl) (cF rfl rfl rfl rfl rfl rfl (ai (aq (am (bN rfl (aj (bm aa _ _ ar (dj T i N hi) tr rfl ae (by simp)) ?_))))))
 refine ai (aS rfl hn (aO (aq (am (aj (bi _ _ aa rfl ag (by (simp <;> rfl)) ah rfl) ?_)))))
 refine dv rfl (aj (aC aa al (ci xt 9 rfl ab nj) rfl rfl) ?_)
 refine aj (cL (r:=false) _ rfl rfl) (ai (aS rfl rfl (aO (am (bN rfl (aj (bP (ca T i N hi hT)) ?_))))))
 refine ai (aq (aq ?_))
 refine aQ (σ':=aA 145 [(0,_),(1,_),(4,_),(5,_),(6,_)] [((0,9),_),((4,0),_),((6,0),_)] [(0,9)] [(0,9)]) kp ?_
 refine an (dv rfl (ai (au (aq (am (aj (aK (r:=false) _ _ Tryz.underlying9 rfl rfl rfl) (ce rfl (ai (aS rfl rfl (an ?_))))))))))
 refine aj (aK (r:=false) _ _ Tryz.underlying9 rfl rfl rfl) (ce rfl (ai (aS rfl rfl (am (aj (aK (r:=false) _ _ Tryz.underlying9 rfl rfl rfl) (ce rfl (ai (aS rfl rfl (am (aj (aK (r:=false) _ _ Tryz.underlying9 rfl rfl rfl) ?_))))))))))
 refine ce rfl (ai (aS rfl rfl (am (aj (aK (r:=false) _ _ Tryz.underlying9 rfl rfl rfl) (ce rfl (ai (aS rfl rfl (am (aj (aK (r:=false) _ _ Tryz.underlying9 rfl rfl rfl) (ce rfl ?_))))))))))
 refine ai (aS rfl rfl (am (aj (aK (r:=false) _ _ Tryz.underlying9 rfl rfl rfl) (ce rfl (ai (aS rfl rfl (aq ?_)))))))
 refine aQ (σ':=aA 145 [(0,_),(4,_),(6,_),(45,_)] [((0,9),_),((4,0),_),((6,0),_)] [(0,9)] [(0,9)]) kp ?_
 refine an (aj (aK (r:=false) _ _ Tryz.underlying9 rfl rfl rfl) (ce rfl (ai (aS rfl rfl (an (bu rfl rfl rfl (cF rfl rfl rfl rfl rfl rfl (gq (aT fun K19 hK19=> ?_)))))))))
 refine an (bN rfl (aj (bP (h1)) (aI (hK19 _ ?_))))
 clear hK19;try clear K19
 exact am (aj (aX _ aa rfl rfl rfl rfl) (cF rfl rfl rfl rfl rfl rfl (ai (aE (aW (.inr rfl) rfl (.cellA aa rfl rfl rfl) (Le.outI [] [] (.agg rfl lz) rfl rfl rfl trivial ob tr rfl))))))
end

def ko (l:List Nd):List PV:=l.flatMap Nd.row
theorem bE (l:List Nd):(ko l).length=l.length*4:=lC Nd.row 4 (fun _=> rfl) l
theorem uO (l:List Nd) (d:Nd):ko l++d.row=ko (l++[d]):=ll Nd.row l d
theorem nf {T:List Tk} {g lv i:Nat} {r:List Nd×Nat} (h:kE T g lv i=some r): ∃ f,g=f+1∧((cK T i).t=[125]∧r=([],i)∨(cK T i).t≠[125]∧ ∃ d j l k,uB T f lv i=some (d,j)∧kE T f lv j=some (l,k)∧r=(d::l,k)):=by
 cases g with
 | zero=> simp [kE] at h
 | succ f=>
  refine ⟨f,rfl,?_⟩
  unfold kE at h
  split at h
  ·rename_i ht;exact .inl ⟨ht,(Option.some.inj h).symm⟩
  ·rename_i ht
   simp only [Option.bind_eq_bind,Option.bind_eq_some_iff,Option.pure_def] at h
   obtain ⟨⟨d,j⟩,hd,⟨l,k⟩,hl,h⟩:=h
   exact .inr ⟨ht,d,j,l,k,hd,hl,(Option.some.inj h).symm⟩
section
variable {T:List Tk} {N:List Tx}
theorem wA (hT:T.length≤100000) (f:Nat) (hf:f≤2000000) (ih: ∀ g,g≤f→PS T N g) (lv i:Nat) (r:Nd×Nat) (hl:lv≤21) (hi:i < T.length) (h:nL T (f+1) lv i=some r):
  r.2 < T.length∧Spec Tryz.prog 164 (aY [.ptr (0,9) 0, .v (.int .i64 (lv:Int))] (dn T i N)) (PO T N r):=by
 unfold nL at h
 simp only [Option.bind_eq_bind,Option.bind_eq_some_iff,Option.pure_def,Option.some.injEq] at h
 obtain ⟨j,hj,⟨L,j2⟩,hL,j3,hj3,rfl⟩:=h
 have ho:=iq hj
 have hjl:=gH ho.2 hi
 have hl':=ho.1
 have hopen:=ls T i j N [123] lv hi hT hj
 simp only at hj3 ⊢
 have hend: ∀ (g i:Nat) (r:List Nd×Nat),g≤f→i < T.length→kE T g lv i=some r→r.2 < T.length:=by
  intro g
  induction g with
  | zero=> intro i r _ _ h;simp [kE] at h
  | succ g ihg=>
   intro i r hg hi h
   obtain ⟨g',hg',h | ⟨_,d,j,l,k,hd,hm,h⟩⟩:=nf h
   ·rw [h.2];exact hi
   ·obtain rfl:g=g':=by omega
    rw [h]
    exact ihg j (l,k) ab ((ih g ab).stm _ _ _ hl' hi hd).1 hm
 have hj2:=hend f j _ (Nat.le_refl _) hjl hL
 refine ⟨gH hj3 hj2,?_⟩
 refine Spec.ofNI Tryz.func164 rfl Tryz.ntmps164 rfl ?_
 refine am (aj (aR (4,0) aa rfl rfl) (ai (am (aj (aF _ aa rfl (by exact (rfl:_=some [_,_,_,_]))) ?_))))
 refine aj (aR (5,0) aa rfl rfl) (cF rfl rfl rfl rfl rfl rfl (ai (aq ?_)))
 refine aQ (Le.nilB (5,0) 3 (60,0) 71 4 rfl rfl rfl) ?_
 refine an (bN rfl (aV rfl (aj (bP (hopen)) (ai (aT fun K4 hK4=> ?_)))))
 refine au ?_
 refine bv (α:=Nat×List Nd×Nat) (fun z=> z.1≤f∧z.2.1.length+z.1=f∧z.2.2 < T.length∧ ∃ l,kE T z.1 lv z.2.2=some (l,j2)∧L=z.2.1++l) 31 [(0,_),(1,_),(4,_),(5,_)] [((4,0),_)] (fun z=> []) (fun z=> [((0,9), .box 222 [.sl T.length (pi T), .v (.int .i64 (z.2.2:Int)), .v (.int .i64 0), .v (.int .i64 0), .sl N.length (ed N)]),((5,0), .box 71 [.v (.int .i64 11), .v (.int .i64 0), .v (bt []), .ref (60,0) 0 z.2.1.length]),((60,0), .row 71 4 (ko z.2.1))]) [(0,9)] [(0,9)] (fun z=> z.1) (f,[],j) ?_ (by
  refine Le.mkJ [] [] rfl ?_ ?_ trivial tr ?_
  ·exact ⟨(iP rfl),(iV rfl),(iP rfl),(iP rfl),trivial⟩
  ·exact ⟨(cH rfl rfl rfl),(gz rfl rfl rfl rfl lz),(gz rfl rfl rfl rfl (px (px (aB (by repeat' (exact Lv.v)) lz)))),(gJ rfl rfl rfl ag),trivial⟩
  ·kernel_rfl) ?_
 ·exact ⟨Nat.le_refl _,Nat.zero_add _,hjl,L,hL,rfl⟩
 intro z hz
 obtain ⟨z1,z2,z3⟩:=z
 obtain ⟨hz1,hz2,hz3,l,hz4,hz5⟩:=hz
 obtain ⟨g,rfl,hm⟩:=nf hz4
 simp only at hz1 hz2 hz3 hz5 hm ⊢
 refine aT fun K5 hK5=> ?_
 refine am (bN rfl (aj (aJ _ rfl rfl) (bu rfl rfl rfl (cw rfl rfl rfl (jv rfl rfl rfl (cE rfl (ax rfl rfl (aH _ (rfl:_=AV.ptr _ _)) (ax rfl rfl (bm aa _ _ ar (bL T z3 N hz3) tr rfl ae (by simp)) ?_))))))))
 refine ax rfl rfl (oY _ _ Tryz.underlying9 rfl rfl rfl) (aj (az _ _ _ rfl (rfl:_=AV.v (.bool _))) (ai (aP rfl (fun hc19=> ?_) (fun hc19=> ?_))))
 ·skip
  obtain ⟨_,d,jd,l',k',hd,hm',hr⟩:=hm.resolve_left fun x=> hc19 x.1
  obtain ⟨rfl,rfl⟩:=Prod.mk.inj hr
  obtain ⟨hda,hdb⟩:=(ih g ab).stm _ _ _ hl' hz3 hd
  have hlen:(z2++[d]).length=z2.length+1:=by simp
  refine bA (hK5 _ ?_)
  clear hK5;try clear K5
  refine au ?_
  refine aQ (σ':=aA 31 [(0,_),(1,_),(4,_),(5,_)] [((4,0),_),((0,9),_),((5,0),_),((60,0),_)] [(0,9)] [(0,9)]) kp ?_
  refine bT 6 [20,21,22,23,24,25] [(0,9)] ae ae rfl (aM rfl) (rfl:_=[_,_,_,_,_,_]) (rfl:_=[_,_,_]) ?_
  refine ap (_,[]) (fun τ=> aD _ aa rfl rfl rfl) ?_
  refine fO rfl ?_
  refine ap (_,[]) (fun τ=> aG _ aa rfl rfl (rfl:_=some (AV.ref _ _ _))) ?_
  refine fR rfl ?_
  refine ap (_,[]) (fun τ=> aH _ (rfl:_=AV.ptr _ _)) ?_
  refine fT rfl ?_
  refine ap (_,[]) (fun τ=> aH _ (rfl:_=AV.v (.int _ _))) ?_
  refine fP rfl ?_
  refine ap (_,[((0,9),_)]) (fun τ=> (gR aa ar (hdb) ob rfl rfl ae)) ?_
  refine gb rfl ?_
  refine ap (_,[]) (fun τ=> bi _ _ aa rfl ag (by (simp <;> rfl)) ah rfl) ?_
  refine gC rfl (bw ⟨rfl,?_⟩)
  refine aj (de (26,0) _ _ aa rfl rfl (bE _).symm (.sl rfl) ab rfl (uO _ d) hlen.symm) ?_
  refine bu rfl rfl rfl (cF rfl rfl rfl rfl rfl rfl (aI (⟨(g,z2++[d],jd),?_,?_,?_⟩)))
  ·exact ⟨by simp only;omega,by simp only;omega,hda,l',hm',by rw [hz5];simp⟩
  ·skip
   refine Le.mkJ [((60,0),(26,0))] [] rfl ?_ ?_ trivial tr ?_
   ·exact ⟨(eg (id:=(0,9)) rfl),(by repeat' (exact Lv.v)),(eg (id:=(4,0)) rfl),(eg (id:=(5,0)) rfl),trivial⟩
   ·exact ⟨(gz rfl rfl rfl rfl (by repeat' (first | exact Lv.v | exact br | refine aB ?_ ?_))),(gz rfl rfl rfl rfl lz),(gz rfl rfl rfl rfl (px (px (aB (by repeat' (exact Lv.v)) lz)))),(gJ rfl rfl rfl ag),trivial⟩
   ·kernel_rfl
  ·simp only;omega
 ·skip
  obtain ⟨_,hr⟩:=hm.resolve_right fun x=> x.1 hc19
  obtain ⟨rfl,rfl⟩:=Prod.mk.inj hr
  rw [List.append_nil] at hz5
  subst hz5
  have hexp:=ev T j2 j3 N [125] hj2 hT hj3
  refine bI (id (hK4 _ ?_))
  clear hK4;try clear K4
  exact am (bN rfl (aj (bP (hexp)) (ai (am (aj (aX _ aa rfl rfl rfl rfl) (cF rfl rfl rfl rfl rfl rfl (ai (aE (aW (.inr rfl) rfl (.cellA aa rfl rfl rfl) (Le.outI [] [(60,0)] (.agg rfl (aB .v (aB .v (aB .v (aB (iL rfl rfl (bE _).symm rfl) br))))) rfl rfl rfl tr ob tr rfl))))))))))
theorem oR {T:List Tk} {most i:Nat} {r:Nat×Nat} (h:mf T most i=some r) (hi:i < T.length):r.2 < T.length:=by
 unfold mf at h
 split at h
 ·rw [← Option.some.inj h];exact dy hi
 ·cases h
theorem xa (hT:T.length≤100000) (f:Nat) (ih:PS T N f) (lv i:Nat) (r:Nd×Nat) (hl:lv≤20) (hi:i < T.length) (h:uB T (f+1) lv i=some r):
  r.2 < T.length∧Spec Tryz.prog 202 (aY [.ptr (0,9) 0, .v (.int .i64 (lv:Int))] (dn T i N)) (PO T N r):=by
 have htl:=dy hi
 have hx:=fun {i:Nat} {r:Nd×Nat} (hi:i < T.length) (h:fe T f lv 1 i=some r)=> tK (N:=N) hT hl hi h
 have hb:=fun {i:Nat} {r:Nd×Nat} (hi:i < T.length) (h:nL T f (lv+1) i=some r)=> ih.blk (lv+1) i r ab hi h
 have he:=fun {i j:Nat} {s:Tx} (hi:i < T.length) (h:fi T s i=some j)=> And.intro (gH h hi) (ev T i j N s hi hT h)
 have hn:=fun {i most:Nat} {r:Nat×Nat} (hm:most≤1000) (hi:i < T.length) (h:mf T most i=some r)=> And.intro (oR h hi) (ja T i N most hi hT hm r h)
 unfold uB at h
 simp only at h
 by_cases h0:dH T i=true
 ·rw [if_pos h0] at h
  simp only [Option.bind_eq_bind,Option.bind_eq_some_iff,Option.pure_def,Option.some.injEq] at h
  obtain ⟨j1,e1,⟨d,j2⟩,e2,j3,e3,rfl⟩:=h
  obtain ⟨a1,b1⟩:=he htl e1
  obtain ⟨a2,b2⟩:=hx a1 e2
  obtain ⟨a3,b3⟩:=he a2 e3
  exact ⟨a3,tj hT lv i hl hi h0 b1 b2 b3⟩
 rw [if_neg h0] at h
 by_cases h1:(cK T i).t=rz∨(cK T i).t=ip
 ·rw [if_pos h1] at h
  simp only [Option.bind_eq_bind,Option.bind_eq_some_iff,Option.pure_def] at h
  obtain ⟨⟨c,j1⟩,e1,⟨x,j2⟩,e2,h⟩:=h
  obtain ⟨a1,b1⟩:=hx htl e1
  obtain ⟨a2,b2⟩:=hb a1 e2
  simp only at h
  by_cases hw:(cK T i).t=ip
  ·rw [if_pos hw] at h
   obtain rfl:=Option.some.inj h
   exact ⟨a2,wo hT lv i hl hi hw b1 b2⟩
  ·rw [if_neg hw] at h
   have hf:=h1.resolve_right hw
   by_cases hel:(cK T j2).t=oZ
   ·rw [if_pos hel] at h
    simp only [Option.bind_eq_some_iff,Option.some.injEq] at h
    obtain ⟨⟨y,j3⟩,e3,rfl⟩:=h
    obtain ⟨a3,b3⟩:=hb (dy a2) e3
    exact ⟨a3,ug hT lv i hl hi hf b1 b2 a2 hel b3⟩
   ·rw [if_neg hel] at h
    obtain rfl:=Option.some.inj h
    exact ⟨a2,Dc hT lv i hl hi hf b1 b2 a2 hel⟩
 rw [if_neg h1] at h
 by_cases h2:(cK T i).t=mT
 ·rw [if_pos h2] at h
  simp only [Option.bind_eq_bind,Option.bind_eq_some_iff,Option.pure_def,Option.some.injEq] at h
  obtain ⟨⟨x,j1⟩,e1,j2,e2,⟨k,j3⟩,e3,j4,e4,⟨y,j5⟩,e5,j6,e6,⟨z,j7⟩,e7,j8,e8,rfl⟩:=h
  obtain ⟨a1,b1⟩:=hx htl e1
  obtain ⟨a2,b2⟩:=he a1 e2
  obtain ⟨a3,b3⟩:=hn ab a2 e3
  obtain ⟨a4,b4⟩:=he a3 e4
  obtain ⟨a5,b5⟩:=hx a4 e5
  obtain ⟨a6,b6⟩:=he a5 e6
  obtain ⟨a7,b7⟩:=hx a6 e7
  obtain ⟨a8,b8⟩:=he a7 e8
  exact ⟨a8,yM hT lv i hl hi h2 b1 b2 b3 b4 b5 b6 b7 b8⟩
 rw [if_neg h2] at h
 by_cases h3:(cK T i).t=fE
 ·rw [if_pos h3] at h
  simp only [Option.bind_eq_bind,Option.bind_eq_some_iff,Option.pure_def,Option.some.injEq] at h
  obtain ⟨⟨k,j1⟩,e1,j2,e2,rfl⟩:=h
  obtain ⟨a1,b1⟩:=hn ab htl e1
  obtain ⟨a2,b2⟩:=he a1 e2
  exact ⟨a2,vG hT lv i hl hi h3 b1 b2⟩
 rw [if_neg h3] at h
 by_cases h4:(cK T i).t=iU
 ·rw [if_pos h4] at h
  simp only [Option.bind_eq_bind,Option.bind_eq_some_iff,Option.pure_def,Option.some.injEq] at h
  obtain ⟨⟨k,j1⟩,e1,j2,e2,rfl⟩:=h
  obtain ⟨a1,b1⟩:=hn ab htl e1
  obtain ⟨a2,b2⟩:=he a1 e2
  exact ⟨a2,uf hT lv i hl hi h4 b1 b2⟩
 rw [if_neg h4] at h
 by_cases h5:(cK T i).t=kH
 ·rw [if_pos h5] at h
  simp only [Option.bind_eq_bind,Option.bind_eq_some_iff,Option.pure_def,Option.some.injEq] at h
  obtain ⟨⟨x,j1⟩,e1,j2,e2,⟨y,j3⟩,e3,j4,e4,rfl⟩:=h
  obtain ⟨a1,b1⟩:=hx htl e1
  obtain ⟨a2,b2⟩:=he a1 e2
  obtain ⟨a3,b3⟩:=hx a2 e3
  obtain ⟨a4,b4⟩:=he a3 e4
  exact ⟨a4,xe hT lv i hl hi h5 b1 b2 b3 b4⟩
 rw [if_neg h5] at h
 by_cases h6:(cK T i).t=mR
 ·rw [if_pos h6] at h
  simp only [Option.bind_eq_bind,Option.bind_eq_some_iff,Option.pure_def,Option.some.injEq] at h
  obtain ⟨⟨x,j1⟩,e1,j2,e2,rfl⟩:=h
  obtain ⟨a1,b1⟩:=hx htl e1
  obtain ⟨a2,b2⟩:=he a1 e2
  exact ⟨a2,yQ hT lv i hl hi h6 b1 b2⟩
 rw [if_neg h6] at h
 by_cases h7:(cK T i).t=mJ
 ·rw [if_pos h7] at h
  simp only [Option.bind_eq_bind,Option.bind_eq_some_iff,Option.pure_def,Option.some.injEq] at h
  obtain ⟨j1,e1,rfl⟩:=h
  obtain ⟨a1,b1⟩:=he htl e1
  exact ⟨a1,yA hT lv i hl hi h7 b1⟩
 rw [if_neg h7] at h
 by_cases h8:(cK T i).t=nj
 ·rw [if_pos h8] at h
  simp only [Option.bind_eq_bind,Option.bind_eq_some_iff,Option.pure_def,Option.some.injEq] at h
  obtain ⟨j1,e1,rfl⟩:=h
  obtain ⟨a1,b1⟩:=he htl e1
  exact ⟨a1,ze hT lv i hl hi h8 b1⟩
 rw [if_neg h8] at h
 cases h
theorem AK (hT:T.length≤100000): ∀ f,f≤2000000→ ∀ g,g≤f→PS T N g:=by
 intro f
 induction f with
 | zero=>
  intro _ g hg
  obtain rfl:g=0:=by omega
  exact ⟨fun _ _ _ _ _ h=> by simp [uB] at h,fun _ _ _ _ _ h=> by simp [nL] at h⟩
 | succ f ih=>
  intro hf g hg
  rcases Nat.lt_or_ge g (f+1) with h | h
  ·exact ih ab g ab
  ·obtain rfl:g=f+1:=by omega
   exact ⟨xa hT f (ih ab f (Nat.le_refl _)),wA hT f ab (ih ab)⟩
theorem qT (hT:T.length≤100000) {f i:Nat} {r:Nd×Nat} (hf:f≤2000000) (hi:i < T.length) (h:nL T f 1 i=some r):r.2 < T.length∧Spec Tryz.prog 164 (aY [.ptr (0,9) 0, .v (.int .i64 1)] (dn T i N)) (PO T N r):=
 (AK hT f hf f (Nat.le_refl _)).blk 1 i r ab hi h
end

class MthV (P:Program) (t:TypeId) (name:String) (f e:outParam TypeId):Prop where
  out: ∀ (ad:Addr) (w:World),(method (P.types.size+Made.depth) t (.pointer (some ad)) name).run P w=((loadVar e ad).run P w).andThen fun v w'=> .ok (f,v) w'
theorem qm {P:Program} {t:TypeId} {ad:Addr} {nm:String} {w:World}:(Builtin.ssaWrapNilChk_ #[t] t #[.pointer (some ad),strVal "",strVal nm]).run P w= .ok (.pointer (some ad)) w:=rfl
theorem wd {P:Program} {n:Nat} {t e f:TypeId} {name:String} {i:TypeInfo} {m:Method} {ad:Addr} {w:World} (hi:P.info? t=some i) (hfind:i.methods.find? (·.name==name)=some m) (hpath:m.path= #[]) (hfunc:m.func=some (f,false))
    (hu:P.underlying t=some (.pointer e)):(method (n+1) t (.pointer (some ad)) name).run P w=((loadVar e ad).run P w).andThen fun v w'=> .ok (f,v) w':=by
  have h1:(typeInfo t).run P w= .ok i w:=by simp [typeInfo,Sem.run,hi]
  have h2:(underlying t).run P w= .ok (.pointer e) w:=by simp [underlying,Sem.run,hu]
  simp only [method,Sem.run_bind,h1,Result.andThen_ok,hfind,hpath,hfunc,follow,Sem.run_pure,receiverAt,h2,Place.get]
  simp only [Array.isEmpty_empty,if_true,Sem.run_bind,qm,Result.andThen_ok,asAddr,Sem.run_pure]
def Aa (P:Program) (t:TypeId) (name:String):Option (TypeId×TypeId):=
  match P.info? t with
  | some i=> match i.methods.find? (·.name==name) with
    | some m=> match m.path.isEmpty,m.func,P.underlying t with
      | true,some (f,false),some (.pointer e)=> some (f,e)
      | _,_,_=> none
    | none=> none
  | none=> none
theorem MthV.of {P:Program} {t e f:TypeId} {name:String} (h:Aa P t name=some (f,e)):MthV P t name f e:=by
  refine ⟨fun ad w=> ?_⟩
  obtain ⟨n,hn⟩: ∃ n,P.types.size+Made.depth=n+1:=⟨_,rfl⟩
  rw [hn]
  unfold Aa at h
  split at h
  · rename_i i hi
    split at h
    · rename_i m hm
      split at h
      · rename_i f' e' hp hf hu
        cases h
        exact wd hi hm (by simpa using hp) hf hu
      · cases h
    · cases h
  · cases h
section
variable {P:Program} {σ:St} {o:Oper} {t:TypeId} {name:String} {f:FuncId} {x:Operand} {xs:Array Operand} {ats:Array TypeId}
end
section
variable {P:Program} {σ:St} {dd:Option Tmp} {op:Op} {ty:TypeId} {f:FuncId} {avs:List AV}
end
theorem Le.incT {σ:St} (id:ay) (h:σ.ob id= .free):Le (σ.setInc id true) σ:=by
  intro K ι S a w R
  refine ⟨ι,S,R.keeps,R.S0,R.Slt,R.nt,R.df,R.fr,R.cl,R.clo,R.ob,R.dom,R.inj,fun i B g h1 h2=> ?_,R.pin,R.pf⟩
  obtain ⟨h3,h4,h5⟩:=R.sep i B g h1 h2
  refine ⟨h3,h4,fun h6=> h5 ?_⟩
  have h7:(bif fI i id then true else σ.inc i)=false:=h6
  cases hb:fI i id with
  | true=> rw [hb] at h7;cases h7
  | false=> rw [hb] at h7;exact h7
theorem mS {P:Program} {σ:St} {z:List Value} {T e:TypeId} {size bytes:Nat} {dd:Option Tmp} {ty:TypeId} (id':ay) (s x:Operand) (E:Elem P T e size bytes z) {id:ay} {n:Nat} {xs:List PV} (hs:σ.eval s= .ref id 0 n) (hid:σ.ob id= .obj (.row e size xs)) (hl:n*size=xs.length) {m:Nat} {news:List PV} (hx:SrcAV σ (σ.eval x) size m news) (hb:(n+m)*bytes≤140737488355328) (hid':σ.ob id'= .free)
    {b:Bool} (hi:σ.inc id=b) (hi':σ.inc id'=b) {ys:List PV} (hy:xs++news=ys) {k:Nat} (hk:n+m=k):Stp P dd (.call { callee:= .builtin .append,args:= #[s,x],argTypes:= #[T,T] }) ty σ (((σ.setOb id .gone).setOb id' (.obj (.row e size ys))).put dd (.ref id' 0 k)):=by
  have h:=de (P:=P) (dd:=dd) (ty:=ty) id' s x E hs hid hl hx hb hid' hy hk
  rwa [hi,St.setInc_same (by exact hi')] at h

theorem kh {T:List Tk} {f:Nat} {seen:List Tx} {i:Nat} {r:List Tx×Nat} (h:ft T f seen i=some r): ∃ g,f=g+1∧dH T i=true∧(cK T i).t∉seen∧seen.length < 16∧
  ((cK T (bK T i)).t=[44]∧(∃ l j,ft T g (seen++[(cK T i).t]) (bK T (bK T i))=some (l,j)∧r=((cK T i).t::l,j))∨(cK T (bK T i)).t≠[44]∧ ∃ j,fi T [59] (bK T i)=some j∧r=([(cK T i).t],j)):=by
 cases f with
 | zero=> simp [ft] at h
 | succ g=>
  refine ⟨g,rfl,?_⟩
  unfold ft at h
  split at h
  ·cases h
  ·rename_i hn
   refine ⟨?_,fun hm=> hn (.inr (.inl hm)),Nat.lt_of_not_le fun hl=> hn (.inr (.inr hl)),?_⟩
   ·cases hb:dH T i with
    | true=> rfl
    | false=> exact absurd (.inl hb) hn
   ·split at h
    ·rename_i ht
     simp only [Option.bind_eq_bind,Option.bind_eq_some_iff,Option.pure_def] at h
     obtain ⟨⟨l,j⟩,hl,h⟩:=h
     exact .inl ⟨ht,l,j,hl,(Option.some.inj h).symm⟩
    ·rename_i ht
     simp only [Option.bind_eq_bind,Option.bind_eq_some_iff,Option.pure_def] at h
     obtain ⟨j,hj,h⟩:=h
     exact .inr ⟨ht,j,hj,(Option.some.inj h).symm⟩
section
variable {T:List Tk}
theorem nV (hT:T.length≤100000) (f:Nat) (N:List Tx) (i0:Nat) (hi:i0 < T.length) (r:List Tx×Nat) (h:ft T f N (bK T i0)=some r):
  r.2 < T.length∧N.length+r.1.length≤16∧Spec Tryz.prog 161 (aY [.ptr (0,9) 0] (zC T i0 N))
   (be (.sl r.1.length (ed r.1)) [((0,9), .box 222 [.sl T.length (pi T), .v (.int .i64 (r.2:Int)), .v (.int .i64 0), .v (.int .i64 0), .ref (1,8) 0 (N++r.1).length]),((1,8), .row 9 1 (ed (N++r.1)))] [(0,9),(1,8)] [(0,9)]):=by
 have htl:=dy hi
 have hend: ∀ (g:Nat) (seen:List Tx) (i:Nat) (r:List Tx×Nat),i < T.length→ft T g seen i=some r→r.2 < T.length∧seen.length+r.1.length≤16:=by
  intro g
  induction g with
  | zero=> intro seen i r _ h;simp [ft] at h
  | succ g ihg=>
   intro seen i r hi h
   obtain ⟨g',hg',_,_,hs,⟨_,l,j,hl,rfl⟩ | ⟨_,j,hj,rfl⟩⟩:=kh h
   ·obtain rfl:g=g':=by omega
    obtain ⟨h1,h2⟩:=ihg _ _ _ (dy (dy hi)) hl
    simp only [List.length_append,List.length_cons,List.length_nil] at h2 ⊢
    exact ⟨h1,by omega⟩
   ·exact ⟨gH hj (dy hi),by simp;omega⟩
 obtain ⟨ha,hb⟩:=hend f N _ r htl h
 refine ⟨ha,by omega,?_⟩
 have hNl:N.length < 16:=by obtain ⟨_,_,_,_,hs,_⟩:=kh h;exact hs
 refine Spec.ofNI Tryz.func161 rfl Tryz.ntmps161 rfl ?_
 refine am (aj (bB _ (rfl:_=AV.v (.slice _ _ _))) (ai (am (aj (pk (3,0) _ 9 1 rfl rfl) ?_))))
 refine ai (am (bN rfl (aj (dm aa [] ar (iw T i0 N hi hT) ob tr ae) ?_)))
 refine ai (aT fun K4 hK4=> ?_)
 refine au ?_
 refine bv (α:=Nat×List Tx×Nat) (fun z=> (N++z.2.1).length≤16∧z.2.1.length≤16∧z.2.2 < T.length∧ ∃ l,ft T z.1 (N++z.2.1) z.2.2=some (l,r.2)∧r.1=z.2.1++l) 76 [(0,_)] [] (fun z=> [(3, .ref (3,0) 0 z.2.1.length)]) (fun z=> [((0,9), .box 222 [.sl T.length (pi T), .v (.int .i64 (z.2.2:Int)), .v (.int .i64 0), .v (.int .i64 0), .ref (1,9) 0 (N++z.2.1).length]),((1,9), .row 9 1 (ed (N++z.2.1))),((3,0), .row 9 1 (ed z.2.1))]) [(0,9),(1,9)] [(0,9)] (fun z=> z.1) (f,[],bK T i0) ?_ (by
  refine Le.mkJ [] [] rfl ?_ ?_ trivial tr ?_
  ·exact ⟨(iP rfl),(cY rfl ag),trivial⟩
  ·exact ⟨(gz rfl rfl rfl rfl (aB (gS ag ag) (px (px (px (aB (cY rfl (by (simp only [List.append_nil]))) br)))))),(gJ rfl rfl rfl (by (simp only [List.append_nil]))),(gJ rfl rfl rfl ag),trivial⟩
  ·kernel_rfl) ?_
 ·exact ⟨by simp;omega,Nat.zero_le _,htl,r.1,by rw [List.append_nil];exact h,rfl⟩
 intro z hz
 obtain ⟨z1,z2,z3⟩:=z
 obtain ⟨hz1,hz2,hz3,l,hz4,hz5⟩:=hz
 obtain ⟨g,rfl,hn,hs,hsl,hm⟩:=kh hz4
 simp only at hz1 hz2 hz3 hz5 hn hs hsl hm ⊢
 have htz:=dy hz3
 have hl1:(z2++[(cK T z3).t]).length=z2.length+1:=by simp
 have hl2:(N++(z2++[(cK T z3).t])).length=(N++z2).length+1:=by simp;omega
 have ha2:ed (N++z2)++[PV.v (bt (cK T z3).t)]=ed (N++(z2++[(cK T z3).t])):=by rw [li,List.append_assoc]
 refine aq (am (bN rfl (aj (aJ _ rfl rfl) (bu rfl rfl rfl (cw rfl rfl rfl (jv rfl rfl rfl (ai (bR rfl rfl (aO (au ?_))))))))))
 refine aq (am (bN rfl (aj (bm aa _ _ ar (rl T z3 (N++z2) hz3) tr rfl ae (by simp)) ?_)))
 refine aj (cL (r:=false) _ rfl (by rw [hn];rfl)) ?_
 refine ai (aS rfl rfl (aq ?_))
 refine aQ (σ':=aA 76 [(0,_),(3,_)] [((0,9),_),((1,9),_),((3,0),_)] [(0,9),(1,9)] [(0,9)]) kp ?_
 refine bT 7 [20,21,22,23,24,25,26] [] ae ae rfl (aM rfl) (rfl:_=[_,_,_,_,_,_,_]) (rfl:_=[]) ?_
 refine ap (_,[]) (fun τ=> aH _ (rfl:_=AV.ptr _ _)) ?_
 refine fO rfl ?_
 refine ap (_,[]) (fun τ=> aJ _ rfl rfl) ?_
 refine fR rfl ?_
 refine ap (_,[]) (fun τ=> aD _ aa rfl rfl rfl) ?_
 refine fT rfl ?_
 refine ap (_,[]) (fun τ=> aG _ aa rfl rfl (rfl:_=some (AV.ref _ _ _))) ?_
 refine fP rfl ?_
 refine ap (_,[]) (fun τ=> aH _ (rfl:_=AV.ptr _ _)) ?_
 refine gb rfl ?_
 refine ap (_,[]) (fun τ=> (bm aa _ _ ar (dW T z3 (N++z2) hz3) tr rfl ae (by simp))) ?_
 refine gC rfl ?_
 refine ap (_,[]) (fun τ=> (ui aa aw (ci (N++z2) _ rfl ab (cK T z3).t) rfl)) ?_
 refine iy rfl (bw ⟨rfl,?_⟩)
 refine ai (aS rfl (decide_eq_false hs) ?_)
 refine am (bN rfl (aj (aJ _ rfl rfl) (bu rfl rfl rfl (aj (aG _ aa rfl rfl (rfl:_=some (AV.ref _ _ _))) (aj (dh _ aa rfl rfl) (aj (fj _ _ rfl rfl rfl) (ai (aS rfl (decide_eq_false ab) ?_))))))))
 refine aO (aq (am (bN rfl (aj (aJ _ rfl rfl) (bu rfl rfl rfl (cw rfl rfl rfl (aj (bY (r:=false) _ _ rfl rfl rfl) (ai (aS rfl rfl (aO ?_))))))))))
 refine aq ?_
 refine aQ (σ':=aA 76 [(0,_),(3,_)] [((0,9),_),((1,9),_),((3,0),_)] [(0,9),(1,9)] [(0,9)]) kp ?_
 refine an (fW rfl (bN rfl (aj (bm aa _ _ ar (dW T z3 (N++z2) hz3) tr rfl ae (by simp)) ?_)))
 refine aj (bi _ _ aa rfl ag (by (simp <;> rfl)) ah rfl) ?_
 refine aj (de (54,0) _ _ aa rfl rfl (by simp) (.sl rfl) ab rfl (li _ _) hl1.symm) ?_
 refine eE rfl (ai (aq ?_))
 refine aQ (σ':=aA 76 [(0,_),(3,_)] [((0,9),_),((1,9),_),((54,0),_)] [(0,9),(1,9)] [(0,9)]) kp ?_
 refine aQ (Le.incT (63,0) rfl) ?_
 refine wa 9 [55,56,57,58,59,60,61,62,63] [(1,9),(63,0)] [[],[],[],[(1,9)],[(1,9)],[(1,9)],[(1,9)],[(1,9)],[]] ae ae rfl (aM rfl) (rfl:_=[_,_,_,_,_,_,_,_,_]) (rfl:_=[_,_,_]) ?_
 refine ap (_,[]) (fun τ=> aH _ (rfl:_=AV.ptr _ _)) ?_
 refine fO rfl ?_
 refine ap (_,[]) (fun τ=> aH _ (rfl:_=AV.ptr _ _)) ?_
 refine fR rfl ?_
 refine ap (_,[]) (fun τ=> aJ _ rfl rfl) ?_
 refine fT rfl ?_
 refine ap (_,[]) (fun τ=> aD _ aa rfl rfl rfl) ?_
 refine fP rfl ?_
 refine ap (_,[]) (fun τ=> aG _ aa rfl rfl (rfl:_=some (AV.ref _ _ _))) ?_
 refine gb rfl ?_
 refine ap (_,[]) (fun τ=> aH _ (rfl:_=AV.ptr _ _)) ?_
 refine gC rfl ?_
 refine ap (_,[]) (fun τ=> (bm aa _ _ ar (dW T z3 (N++z2) hz3) tr rfl ae (by simp))) ?_
 refine iy rfl ?_
 refine ap (_,[]) (fun τ=> bi _ _ aa rfl ag (by (simp <;> rfl)) ah rfl) ?_
 refine jy rfl ?_
 refine ap (_,[((1,9), .gone),((63,0),_)]) (fun τ=> mS (b:=true) (63,0) _ _ aa rfl (sh rfl (by exact qi) rfl) (by simp) (.sl rfl) ab rfl rfl rfl ha2 hl2.symm) ?_
 refine jr rfl (bw ⟨⟨rfl,by kernel_rfl⟩,?_⟩)
 refine aj (aJ _ rfl rfl) (bu rfl rfl rfl (cF rfl rfl rfl rfl rfl rfl (ai (aT fun K15 hK15=> ?_))))
 refine aQ (σ':=aA 76 [(0,_),(3,_)] [((0,9), .box _ [_,_,_,_, .ref (1,9) _ _]),((54,0),_),((1,9),_)] [(0,9),(1,9)] [(0,9)]) (by
  refine Le.mkJ [((1,9),(63,0))] [] rfl ?_ ?_ trivial tr ?_
  ·exact ⟨(Cf [(0,9),(54,0)] rfl (rfl:_=AV.ptr _ _) rfl),(Cf [(0,9),(54,0)] rfl (rfl:_=AV.ref _ _ _) rfl),trivial⟩
  ·exact ⟨(gz rfl rfl rfl rfl (aB (by exact Cf [(0,9),(54,0)] rfl (rfl:_=AV.sl _ _) rfl) (aB (by exact Cf [(0,9),(54,0)] rfl (rfl:_=AV.v _) rfl) (aB (by exact Cf [(0,9),(54,0)] rfl (rfl:_=AV.v _) rfl) (aB (by exact Cf [(0,9),(54,0)] rfl (rfl:_=AV.v _) rfl) lz))))),(gJ rfl rfl rfl rfl),(gJ rfl rfl rfl rfl),trivial⟩
  ·kernel_rfl) ?_
 refine an (bN rfl (aj (dm aa [] ar (iw T z3 (N++(z2++[(cK T z3).t])) hz3 hT) ob tr ae) ?_))
 refine aI (hK15 _ ?_)
 clear hK15;try clear K15
 refine aT fun K16 hK16=> ?_
 refine am (bN rfl (aj (bm aa _ _ ar (dW T (bK T z3) (N++(z2++[(cK T z3).t])) htz) tr rfl ae (by simp)) ?_))
 refine aj (oY _ _ Tryz.underlying9 rfl rfl rfl) (ai (aP rfl (fun hc70=> ?_) (fun hc70=> ?_)))
 ·skip
  obtain ⟨_,j,hj,hr⟩:=hm.resolve_left fun x=> hc70 x.1
  obtain ⟨rfl,rfl⟩:=Prod.mk.inj hr
  have hexp:=pv T (bK T z3) r.2 (N++(z2++[(cK T z3).t])) [59] htz hT hj
  refine bI (id (hK4 _ ?_))
  clear hK4;try clear K4
  refine am (bN rfl (aj (dm aa [] ar (hexp) ob tr ae) ?_))
  exact ai (am (fW rfl (eE rfl (ai (aE (aW (.inr rfl) rfl (.tmp (rfl:_=AV.ref _ _ _)) (Le.outI [((1,8),(1,9))] [(54,0)] (by rw [hz5];exact iL rfl rfl (by simp) rfl) rfl rfl rfl tr ⟨⟨rfl,⟨_,rfl, .box rfl (aB .sl (aB .v (aB .v (aB .v (aB (cY rfl (by rw [hz5])) br)))))⟩,rfl⟩,⟨rfl,⟨_,rfl, .rowE (by rw [hz5])⟩,rfl⟩,trivial⟩ tr rfl)))))))
 ·skip
  obtain ⟨_,l',j',hd',hr⟩:=hm.resolve_right fun x=> x.1 hc70
  obtain ⟨rfl,rfl⟩:=Prod.mk.inj hr
  refine bA (hK16 _ ?_)
  clear hK16;try clear K16
  refine an (bN rfl (aj (dm aa [] ar (iw T (bK T z3) (N++(z2++[(cK T z3).t])) htz hT) ob tr ae) ?_))
  refine aI (⟨(g,z2++[(cK T z3).t],bK T (bK T z3)),?_,?_,?_⟩)
  ·exact ⟨by simp only [hl2];omega,by simp only [hl1];simp only [List.length_append] at hsl;omega,dy htz,l',by rw [← List.append_assoc];exact hd',by rw [hz5];simp⟩
  ·skip
   refine Le.mkJ [((3,0),(54,0))] [] rfl ?_ ?_ trivial tr ?_
   ·exact ⟨(eg (id:=(0,9)) rfl),(cY rfl ag),trivial⟩
   ·exact ⟨(gz rfl rfl rfl rfl lz),(gJ rfl rfl rfl ag),(gJ rfl rfl rfl ag),trivial⟩
   ·kernel_rfl
  ·simp only;omega
end

abbrev Hd:=Nat×Nd
def uF (h:Hd):List PV:= .v (.int .i64 (h.1:Int))::h.2.row
def kU (l:List Hd):List PV:=l.flatMap uF
theorem bs (l:List Hd):(kU l).length=l.length*5:=lC uF 5 (fun _=> rfl) l
def lu (l:List Hd) (k:Nat):Hd:=l.getD k (0,⟨0,0,[],0,[]⟩)
theorem lG (l:List Hd) (k:Nat) (h:k < l.length):lu l k=l[k]:=by simp [lu,h]
theorem gM (l:List Hd) (k:Nat) (h:k < l.length):(kU l)[k*5]? =some (.v (.int .i64 ((lu l k).1:Int))):=by
 rw [lG l k h];exact mK uF 5 (fun _=> rfl) l k 0 h ab
theorem we (l:List Hd) (k:Nat) (h:k < l.length):PV.ups (((kU l).drop (k*5)).take 5)=[.v (.int .i64 ((lu l k).1:Int)), .v (.int .i64 ((lu l k).2.k:Int)), .v (.int .i64 ((lu l k).2.n:Int)), .v (bt (lu l k).2.s), .sl (lu l k).2.kn (lu l k).2.kids]:=by
 rw [lG l k h,show ((kU l).drop (k*5)).take 5=uF l[k] from nc uF 5 (fun _=> rfl) l k h];rfl
theorem nD (l:List Hd) (h:Hd):kU l++uF h=kU (l++[h]):=ll uF l h
theorem sc (l m:List Hd):kU l++kU m=kU (l++m):=xc uF l m
theorem rP (l:List Hd) (k:Nat) (h:k < l.length):l.take k++[lu l k]=l.take (k+1):=by rw [lG l k h,List.take_succ_eq_append_getElem h]
def Di:List Tx:=[lj,gW,fE,hG]
section
variable {T:List Tk} {N:List Tx}
theorem vM (hT:T.length≤100000) (i:Nat) (hi:i < T.length) (ht:(cK T i).t=lj) (l:List Hd) (hl:l.length≤100000) (hno: ∀ k,k < l.length→(lu l k).1≠0):
  Spec Tryz.prog 163 (aY [.ptr (0,9) 0, .sl l.length (kU l)] (dn T i N)) (be (.v (.int .i64 ((0:Nat):Int))) (dn T (bK T i) N) [(0,9)] [(0,9)]):=by
 have hnx:=bL T i N hi
 rw [ht] at hnx
 refine Spec.ofNI Tryz.func163 rfl Tryz.ntmps163 rfl ?_
 refine am (bc rfl (ai (am (bN rfl (aj (aJ _ rfl rfl) (bu rfl rfl rfl (cw rfl rfl rfl (bc rfl (ai (am ?_))))))))))
 refine bN rfl (aj (bm aa _ _ ar (hnx) tr rfl ae (by simp)) ?_)
 refine mi rfl (ai (am (bc rfl (ai (aq (am (aj (bi _ _ aa rfl ag (by (simp <;> rfl)) ah rfl) ?_)))))))
 refine dv rfl (aj (aC aa al (ci Di 4 rfl ab lj) rfl rfl) ?_)
 refine aj (cL (r:=false) _ rfl rfl) (ai (aS rfl rfl (aO (am (bN rfl (aj (bP (ca T i N hi hT)) ?_))))))
 refine ai (aq (aq ?_))
 refine aQ (σ':=aA 56 [(0,_),(1,_),(5,_),(6,_),(7,_)] [((0,9),_)] [(0,9)] [(0,9)]) kp ?_
 refine an (dv rfl (aj (aK (r:=false) _ _ Tryz.underlying9 rfl rfl rfl) (ai (aS rfl rfl (aO (aq (am (dv rfl (aj (aK (r:=false) _ _ Tryz.underlying9 rfl rfl rfl) (ai ?_))))))))))
 refine aS rfl rfl (aO (aq (am (dv rfl (aj (aK (r:=false) _ _ Tryz.underlying9 rfl rfl rfl) (ai (aS rfl rfl (aO (aT fun K14 hK14=> ?_)))))))))
 refine am (bc rfl (ai (au ?_)))
 refine bv (α:=Nat) (fun k=> k≤l.length) 56 [(0,_),(1,_),(5,_),(7,_)] [((0,9),_)] (fun k=> [(8, .v (.int .i64 (k:Int)))]) (fun k=> []) [(0,9)] [(0,9)] (fun k=> l.length - k) 0 ?_ (by
  refine Le.mkJ [] [] rfl ?_ ?_ trivial tr ?_
  ·exact ⟨(iP rfl),(iS rfl),(iV rfl),(iV rfl),(cd ag),trivial⟩
  ·exact ⟨(cH rfl rfl rfl),trivial⟩
  ·kernel_rfl) ?_
 ·omega
 intro k hk
 refine aT fun K16 hK16=> ?_
 refine am (aV rfl (eT rfl (aj (bD _ aa rfl) (aj (bo _ _ rfl rfl rfl) (ai (aP rfl (fun hc42=> ?_) (fun hc42=> ?_)))))))
 ·skip
  refine bA (hK16 _ ?_)
  clear hK16;try clear K16
  refine aq (au (am (eT rfl (aV rfl (aj (bl _ _ aa rfl rfl _ rfl ab (by (simp only [aU,bj,bh,bq,bp,bE,bs];omega)) ag) ?_)))))
  refine aj (cQ _ aa rfl rfl) (aj (bU _ aa rfl (by exact gM _ _ ab) rfl) ?_)
  refine aV rfl (aj (bH _ _ rfl rfl rfl) (ai (aS rfl (by have:=hno k ab;exact beq_eq_false_iff_ne.2 ab) ?_)))
  refine cf (an (aV rfl (aj (aZ _ _ rfl rfl (bJ ab)) ?_)))
  refine bc rfl (aI (⟨k+1,?_,?_,?_⟩))
  ·omega
  ·skip
   refine Le.mkJ [] [] rfl ?_ ?_ trivial tr ?_
   ·exact ⟨(iP rfl),(iS rfl),(iV rfl),(iV rfl),(cd ag),trivial⟩
   ·exact ⟨(cH rfl rfl rfl),trivial⟩
   ·kernel_rfl
  ·omega
 ·skip
  refine bI (id (hK14 _ ?_))
  clear hK14;try clear K14
  exact am (aV rfl (bc rfl (ai (aE (aW (.inr rfl) rfl (.tmp (rfl:_=AV.v (.int _ _))) (Le.outI [] [] (cd ag) rfl rfl rfl trivial ob tr rfl))))))
theorem rO (hT:T.length≤100000) (i:Nat) (hi:i < T.length) (ht:(cK T i).t=gW) (l:List Hd) (hl:l.length≤100000) (hno: ∀ k,k < l.length→(lu l k).1≠1):
  Spec Tryz.prog 163 (aY [.ptr (0,9) 0, .sl l.length (kU l)] (dn T i N)) (be (.v (.int .i64 ((1:Nat):Int))) (dn T (bK T i) N) [(0,9)] [(0,9)]):=by
 have hnx:=bL T i N hi
 rw [ht] at hnx
 refine Spec.ofNI Tryz.func163 rfl Tryz.ntmps163 rfl ?_
 refine am (bc rfl (ai (am (bN rfl (aj (aJ _ rfl rfl) (bu rfl rfl rfl (cw rfl rfl rfl (bc rfl (ai (am ?_))))))))))
 refine bN rfl (aj (bm aa _ _ ar (hnx) tr rfl ae (by simp)) ?_)
 refine mi rfl (ai (am (bc rfl (ai (aq (am (aj (bi _ _ aa rfl ag (by (simp <;> rfl)) ah rfl) ?_)))))))
 refine dv rfl (aj (aC aa al (ci Di 4 rfl ab gW) rfl rfl) ?_)
 refine aj (cL (r:=false) _ rfl rfl) (ai (aS rfl rfl (aO (am (bN rfl (aj (bP (ca T i N hi hT)) ?_))))))
 refine ai (aq (aq ?_))
 refine aQ (σ':=aA 56 [(0,_),(1,_),(5,_),(6,_),(7,_)] [((0,9),_)] [(0,9)] [(0,9)]) kp ?_
 refine an (dv rfl (aj (aK (r:=true) _ _ Tryz.underlying9 rfl rfl rfl) (ai (bR rfl rfl (an (bc rfl (ai (aq (am (dv rfl ?_))))))))))
 refine aj (aK (r:=false) _ _ Tryz.underlying9 rfl rfl rfl) (ai (aS rfl rfl (aO (aq (am (dv rfl (aj (aK (r:=false) _ _ Tryz.underlying9 rfl rfl rfl) (ai (aS rfl rfl (aO ?_))))))))))
 refine aT fun K14 hK14=> ?_
 refine am (bc rfl (ai (au ?_)))
 refine bv (α:=Nat) (fun k=> k≤l.length) 56 [(0,_),(1,_),(5,_),(7,_)] [((0,9),_)] (fun k=> [(8, .v (.int .i64 (k:Int)))]) (fun k=> []) [(0,9)] [(0,9)] (fun k=> l.length - k) 0 ?_ (by
  refine Le.mkJ [] [] rfl ?_ ?_ trivial tr ?_
  ·exact ⟨(iP rfl),(iS rfl),(iV rfl),(iV rfl),(cd ag),trivial⟩
  ·exact ⟨(cH rfl rfl rfl),trivial⟩
  ·kernel_rfl) ?_
 ·omega
 intro k hk
 refine aT fun K16 hK16=> ?_
 refine am (aV rfl (eT rfl (aj (bD _ aa rfl) (aj (bo _ _ rfl rfl rfl) (ai (aP rfl (fun hc42=> ?_) (fun hc42=> ?_)))))))
 ·skip
  refine bA (hK16 _ ?_)
  clear hK16;try clear K16
  refine aq (au (am (eT rfl (aV rfl (aj (bl _ _ aa rfl rfl _ rfl ab (by (simp only [aU,bj,bh,bq,bp,bE,bs];omega)) ag) ?_)))))
  refine aj (cQ _ aa rfl rfl) (aj (bU _ aa rfl (by exact gM _ _ ab) rfl) ?_)
  refine aV rfl (aj (bH _ _ rfl rfl rfl) (ai (aS rfl (by have:=hno k ab;exact beq_eq_false_iff_ne.2 ab) ?_)))
  refine cf (an (aV rfl (aj (aZ _ _ rfl rfl (bJ ab)) ?_)))
  refine bc rfl (aI (⟨k+1,?_,?_,?_⟩))
  ·omega
  ·skip
   refine Le.mkJ [] [] rfl ?_ ?_ trivial tr ?_
   ·exact ⟨(iP rfl),(iS rfl),(iV rfl),(iV rfl),(cd ag),trivial⟩
   ·exact ⟨(cH rfl rfl rfl),trivial⟩
   ·kernel_rfl
  ·omega
 ·skip
  refine bI (id (hK14 _ ?_))
  clear hK14;try clear K14
  exact am (aV rfl (bc rfl (ai (aE (aW (.inr rfl) rfl (.tmp (rfl:_=AV.v (.int _ _))) (Le.outI [] [] (cd ag) rfl rfl rfl trivial ob tr rfl))))))
theorem vB (hT:T.length≤100000) (i:Nat) (hi:i < T.length) (ht:(cK T i).t=fE) (l:List Hd) (hl:l.length≤100000) {q j:Nat} (hq:q≤100) (h1:Spec Tryz.prog 200 (aY [.ptr (0,9) 0, .v (.int .i64 7)] (dn T (bK T i) N)) (be (.v (.int .i64 (q:Int))) (dn T j N) [(0,9)] [(0,9)])) (hno: ∀ k,k < l.length→(lu l k).1≠(2+q)):
  Spec Tryz.prog 163 (aY [.ptr (0,9) 0, .sl l.length (kU l)] (dn T i N)) (be (.v (.int .i64 (((2+q):Nat):Int))) (dn T j N) [(0,9)] [(0,9)]):=by
 have hnx:=bL T i N hi
 rw [ht] at hnx
 refine Spec.ofNI Tryz.func163 rfl Tryz.ntmps163 rfl ?_
 refine am (bc rfl (ai (am (bN rfl (aj (aJ _ rfl rfl) (bu rfl rfl rfl (cw rfl rfl rfl (bc rfl (ai (am ?_))))))))))
 refine bN rfl (aj (bm aa _ _ ar (hnx) tr rfl ae (by simp)) ?_)
 refine mi rfl (ai (am (bc rfl (ai (aq (am (aj (bi _ _ aa rfl ag (by (simp <;> rfl)) ah rfl) ?_)))))))
 refine dv rfl (aj (aC aa al (ci Di 4 rfl ab fE) rfl rfl) ?_)
 refine aj (cL (r:=false) _ rfl rfl) (ai (aS rfl rfl (aO (am (bN rfl (aj (bP (ca T i N hi hT)) ?_))))))
 refine ai (aq (aq ?_))
 refine aQ (σ':=aA 56 [(0,_),(1,_),(5,_),(6,_),(7,_)] [((0,9),_)] [(0,9)] [(0,9)]) kp ?_
 refine an (dv rfl (aj (aK (r:=false) _ _ Tryz.underlying9 rfl rfl rfl) (ai (aS rfl rfl (aO (aT fun K10 hK10=> ?_))))))
 refine am (dv rfl (aj (aK (r:=true) _ _ Tryz.underlying9 rfl rfl rfl) (ai (bR rfl rfl (an (bN rfl (aj (bP (h1)) (aj (aZ _ _ rfl rfl (bJ ab)) ?_))))))))
 refine bc rfl (aI (hK10 _ ?_))
 clear hK10;try clear K10
 refine aq (am (dv rfl (aj (aK (r:=false) _ _ Tryz.underlying9 rfl rfl rfl) (ai (aS rfl rfl (aO (aT fun K14 hK14=> ?_)))))))
 refine am (bc rfl (ai (au ?_)))
 refine bv (α:=Nat) (fun k=> k≤l.length) 56 [(0,_),(1,_),(5,_),(7,_)] [((0,9),_)] (fun k=> [(8, .v (.int .i64 (k:Int)))]) (fun k=> []) [(0,9)] [(0,9)] (fun k=> l.length - k) 0 ?_ (by
  refine Le.mkJ [] [] rfl ?_ ?_ trivial tr ?_
  ·exact ⟨(iP rfl),(iS rfl),(iV rfl),(iV rfl),(cd ag),trivial⟩
  ·exact ⟨(cH rfl rfl rfl),trivial⟩
  ·kernel_rfl) ?_
 ·omega
 intro k hk
 refine aT fun K16 hK16=> ?_
 refine am (aV rfl (eT rfl (aj (bD _ aa rfl) (aj (bo _ _ rfl rfl rfl) (ai (aP rfl (fun hc42=> ?_) (fun hc42=> ?_)))))))
 ·skip
  refine bA (hK16 _ ?_)
  clear hK16;try clear K16
  refine aq (au (am (eT rfl (aV rfl (aj (bl _ _ aa rfl rfl _ rfl ab (by (simp only [aU,bj,bh,bq,bp,bE,bs];omega)) ag) ?_)))))
  refine aj (cQ _ aa rfl rfl) (aj (bU _ aa rfl (by exact gM _ _ ab) rfl) ?_)
  refine aV rfl (aj (bH _ _ rfl rfl rfl) (ai (aS rfl (by have:=hno k ab;exact beq_eq_false_iff_ne.2 ab) ?_)))
  refine cf (an (aV rfl (aj (aZ _ _ rfl rfl (bJ ab)) ?_)))
  refine bc rfl (aI (⟨k+1,?_,?_,?_⟩))
  ·omega
  ·skip
   refine Le.mkJ [] [] rfl ?_ ?_ trivial tr ?_
   ·exact ⟨(iP rfl),(iS rfl),(iV rfl),(iV rfl),(cd ag),trivial⟩
   ·exact ⟨(cH rfl rfl rfl),trivial⟩
   ·kernel_rfl
  ·omega
 ·skip
  refine bI (id (hK14 _ ?_))
  clear hK14;try clear K14
  exact am (aV rfl (bc rfl (ai (aE (aW (.inr rfl) rfl (.tmp (rfl:_=AV.v (.int _ _))) (Le.outI [] [] (cd ag) rfl rfl rfl trivial ob tr rfl))))))
theorem rD (hT:T.length≤100000) (i:Nat) (hi:i < T.length) (ht:(cK T i).t=hG) (l:List Hd) (hl:l.length≤100000) {q j:Nat} (hq:q≤100) (h1:Spec Tryz.prog 200 (aY [.ptr (0,9) 0, .v (.int .i64 29)] (dn T (bK T i) N)) (be (.v (.int .i64 (q:Int))) (dn T j N) [(0,9)] [(0,9)])) (hno: ∀ k,k < l.length→(lu l k).1≠(10+q)):
  Spec Tryz.prog 163 (aY [.ptr (0,9) 0, .sl l.length (kU l)] (dn T i N)) (be (.v (.int .i64 (((10+q):Nat):Int))) (dn T j N) [(0,9)] [(0,9)]):=by
 have hnx:=bL T i N hi
 rw [ht] at hnx
 refine Spec.ofNI Tryz.func163 rfl Tryz.ntmps163 rfl ?_
 refine am (bc rfl (ai (am (bN rfl (aj (aJ _ rfl rfl) (bu rfl rfl rfl (cw rfl rfl rfl (bc rfl (ai (am ?_))))))))))
 refine bN rfl (aj (bm aa _ _ ar (hnx) tr rfl ae (by simp)) ?_)
 refine mi rfl (ai (am (bc rfl (ai (aq (am (aj (bi _ _ aa rfl ag (by (simp <;> rfl)) ah rfl) ?_)))))))
 refine dv rfl (aj (aC aa al (ci Di 4 rfl ab hG) rfl rfl) ?_)
 refine aj (cL (r:=false) _ rfl rfl) (ai (aS rfl rfl (aO (am (bN rfl (aj (bP (ca T i N hi hT)) ?_))))))
 refine ai (aq (aq ?_))
 refine aQ (σ':=aA 56 [(0,_),(1,_),(5,_),(6,_),(7,_)] [((0,9),_)] [(0,9)] [(0,9)]) kp ?_
 refine an (dv rfl (aj (aK (r:=false) _ _ Tryz.underlying9 rfl rfl rfl) (ai (aS rfl rfl (aO (aq (am (dv rfl (aj (aK (r:=false) _ _ Tryz.underlying9 rfl rfl rfl) (ai ?_))))))))))
 refine aS rfl rfl (aO (aT fun K12 hK12=> ?_))
 refine am (dv rfl (aj (aK (r:=true) _ _ Tryz.underlying9 rfl rfl rfl) (ai (bR rfl rfl (an (bN rfl (aj (bP (h1)) (aj (aZ _ _ rfl rfl (bJ ab)) ?_))))))))
 refine bc rfl (aI (hK12 _ ?_))
 clear hK12;try clear K12
 refine aT fun K14 hK14=> ?_
 refine am (bc rfl (ai (au ?_)))
 refine bv (α:=Nat) (fun k=> k≤l.length) 56 [(0,_),(1,_),(5,_),(7,_)] [((0,9),_)] (fun k=> [(8, .v (.int .i64 (k:Int)))]) (fun k=> []) [(0,9)] [(0,9)] (fun k=> l.length - k) 0 ?_ (by
  refine Le.mkJ [] [] rfl ?_ ?_ trivial tr ?_
  ·exact ⟨(iP rfl),(iS rfl),(iV rfl),(iV rfl),(cd ag),trivial⟩
  ·exact ⟨(cH rfl rfl rfl),trivial⟩
  ·kernel_rfl) ?_
 ·omega
 intro k hk
 refine aT fun K16 hK16=> ?_
 refine am (aV rfl (eT rfl (aj (bD _ aa rfl) (aj (bo _ _ rfl rfl rfl) (ai (aP rfl (fun hc42=> ?_) (fun hc42=> ?_)))))))
 ·skip
  refine bA (hK16 _ ?_)
  clear hK16;try clear K16
  refine aq (au (am (eT rfl (aV rfl (aj (bl _ _ aa rfl rfl _ rfl ab (by (simp only [aU,bj,bh,bq,bp,bE,bs];omega)) ag) ?_)))))
  refine aj (cQ _ aa rfl rfl) (aj (bU _ aa rfl (by exact gM _ _ ab) rfl) ?_)
  refine aV rfl (aj (bH _ _ rfl rfl rfl) (ai (aS rfl (by have:=hno k ab;exact beq_eq_false_iff_ne.2 ab) ?_)))
  refine cf (an (aV rfl (aj (aZ _ _ rfl rfl (bJ ab)) ?_)))
  refine bc rfl (aI (⟨k+1,?_,?_,?_⟩))
  ·omega
  ·skip
   refine Le.mkJ [] [] rfl ?_ ?_ trivial tr ?_
   ·exact ⟨(iP rfl),(iS rfl),(iV rfl),(iV rfl),(cd ag),trivial⟩
   ·exact ⟨(cH rfl rfl rfl),trivial⟩
   ·kernel_rfl
  ·omega
 ·skip
  refine bI (id (hK14 _ ?_))
  clear hK14;try clear K14
  exact am (aV rfl (bc rfl (ai (aE (aW (.inr rfl) rfl (.tmp (rfl:_=AV.v (.int _ _))) (Le.outI [] [] (cd ag) rfl rfl rfl trivial ob tr rfl))))))
theorem zu {l:List Hd} {n:Nat} (h:l.any (fun x=> decide (x.1=n))=false): ∀ k,k < l.length→(lu l k).1≠n:=fun k hk e=> by
 rw [List.any_eq_false] at h
 have:=h l[k] (List.getElem_mem hk)
 rw [lG l k hk] at e
 simp [e] at this
theorem pq (hT:T.length≤100000) (i:Nat) (hi:i < T.length) (l:List Hd) (hl:l.length≤100000) (r:Nat×Nat) (h:sA T i=some r) (hno:l.any (fun x=> decide (x.1=r.1))=false):
  r.2 < T.length∧r.1 < 40∧Spec Tryz.prog 163 (aY [.ptr (0,9) 0, .sl l.length (kU l)] (dn T i N)) (be (.v (.int .i64 (r.1:Int))) (dn T r.2 N) [(0,9)] [(0,9)]):=by
 have htl:=dy hi
 have hn:=zu hno
 have hmost: ∀ {most i:Nat} {q:Nat×Nat},mf T most i=some q→q.1≤most:=fun h=> by
  unfold mf at h
  split at h
  ·rename_i hx;rw [← Option.some.inj h];exact hx.2
  ·cases h
 unfold sA at h
 by_cases h1:(cK T i).t=lj
 ·rw [if_pos h1] at h
  obtain rfl:=Option.some.inj h
  exact ⟨htl,by omega,vM hT i hi h1 l hl hn⟩
 rw [if_neg h1] at h
 by_cases h2:(cK T i).t=gW
 ·rw [if_pos h2] at h
  obtain rfl:=Option.some.inj h
  exact ⟨htl,by omega,rO hT i hi h2 l hl hn⟩
 rw [if_neg h2] at h
 by_cases h3:(cK T i).t=fE
 ·rw [if_pos h3] at h
  simp only [Option.bind_eq_bind,Option.bind_eq_some_iff,Option.pure_def,Option.some.injEq] at h
  obtain ⟨⟨q,j⟩,hq,rfl⟩:=h
  have hm:=hmost hq
  exact ⟨show (q,j).2 < T.length from oR hq htl,by simp only at hm ⊢;omega,vB hT i hi h3 l hl (by simp only at hm;omega) (ja T _ N 7 htl hT ab _ hq) hn⟩
 rw [if_neg h3] at h
 by_cases h4:(cK T i).t=hG
 ·rw [if_pos h4] at h
  simp only [Option.bind_eq_bind,Option.bind_eq_some_iff,Option.pure_def,Option.some.injEq] at h
  obtain ⟨⟨q,j⟩,hq,rfl⟩:=h
  have hm:=hmost hq
  exact ⟨show (q,j).2 < T.length from oR hq htl,by simp only at hm ⊢;omega,rD hT i hi h4 l hl (by simp only at hm;omega) (ja T _ N 29 htl hT ab _ hq) hn⟩
 rw [if_neg h4] at h
 cases h
end
theorem sk {p:Hd→Bool} {l:List Hd} {k:Nat} (h: ∀ x∈l.take k,p x=true) (he:l.length≤k∨p (lu l k)=false):l.takeWhile p=l.take k∧l.dropWhile p=l.drop k:=by
 induction l generalizing k with
 | nil=> simp
 | cons a l ih=>
  cases k with
  | zero=>
   have:p a=false:=by
    rcases he with he | he
    ·simp at he
    ·simpa [lu] using he
   simp [this]
  | succ k=>
   have ha:p a=true:=h a (by simp)
   have:=ih (k:=k) (fun x hx=> h x (by simp [hx])) (by
    rcases he with he | he
    ·left;simpa using he
    ·right;simpa [lu] using he)
   simp [ha,this]
theorem wp (l:List Hd) (hl:l.length≤100000) (h:Hd):
  Spec Tryz.prog 165 (bf [.sl l.length (kU l), .agg [.v (.int .i64 (h.1:Int)), .v (.int .i64 (h.2.k:Int)), .v (.int .i64 (h.2.n:Int)), .v (bt h.2.s), .sl h.2.kn h.2.kids]] []) (aL (.sl (na l h).length (kU (na l h))) []):=by
 refine Spec.ofN Tryz.func165 rfl Tryz.ntmps165 rfl ?_
 refine am (aj (bg (3,0) _ rfl rfl) (aj (bB _ (rfl:_=AV.v (.slice _ _ _))) (ai (am (aj (pk (5,0) _ 73 5 rfl rfl) ?_)))))
 refine ai (am (bc rfl (ai (aT fun K4 hK4=> ?_))))
 refine au ?_
 refine bv (α:=Nat) (fun k=> k≤l.length∧ ∀ x∈l.take k,decide (x.1 < h.1)=true) 39 [(0,_),(3,_)] [((3,0),_)] (fun k=> [(6, .v (.int .i64 (k:Int))),(5, .ref (5,0) 0 (l.take k).length)]) (fun k=> [((5,0), .row 73 5 (kU (l.take k)))]) [] [] (fun k=> l.length - k) 0 ?_ (by
  refine Le.mkJ [] [] rfl ?_ ?_ trivial trivial ?_
  ·exact ⟨(iS rfl),(iP rfl),(cd ag),(cY rfl ag),trivial⟩
  ·exact ⟨(cH rfl rfl rfl),(gJ rfl rfl rfl ag),trivial⟩
  ·kernel_rfl) ?_
 ·exact ⟨Nat.zero_le _,by simp⟩
 intro k hk
 obtain ⟨hk,hall⟩:=hk
 have hlk:(l.take k).length=k:=by rw [List.length_take];omega
 refine aT fun K5 hK5=> ?_
 refine aT fun K6 hK6=> ?_
 refine bT 14 [7,8,9,10,11,12,13,14,15,16,17,18,19,20] [] ae ae rfl (aM rfl) (rfl:_=[_,_,_,_,_,_,_,_,_,_,_,_,_,_]) (rfl:_=[]) ?_
 refine ap (_,[]) (fun τ=> aH _ (rfl:_=AV.v (.int _ _))) ?_
 refine fO rfl ?_
 refine ap (_,[]) (fun τ=> aH _ (rfl:_=AV.sl _ _)) ?_
 refine fR rfl ?_
 refine ap (_,[]) (fun τ=> bD _ aa rfl) ?_
 refine fT rfl ?_
 refine ap (_,[]) (fun τ=> bo _ _ rfl rfl rfl) ?_
 refine fP rfl ?_
 refine ap (_,[]) (fun τ=> aH _ (rfl:_=AV.v (.bool _))) ?_
 refine lE (fun hg11=> ?_) (fun hg11=> ?_)
 ·skip
  refine gb rfl ?_
  refine bO (_,[]) rfl (fun τ=> rfl) (fun τ=> aH _ (rfl:_=AV.sl _ _)) ?_
  refine gC rfl ?_
  refine bO (_,[]) rfl (fun τ=> rfl) (fun τ=> aH _ (rfl:_=AV.v (.int _ _))) ?_
  refine iy rfl ?_
  refine bO (_,[]) rfl (fun τ=> rfl) (fun τ=> bl _ _ aa rfl rfl _ rfl ab (by (simp only [aU,bj,bh,bq,bp,bE,bs];omega)) ag) ?_
  refine jy rfl ?_
  refine bO (_,[]) rfl (fun τ=> rfl) (fun τ=> cQ _ aa rfl rfl) ?_
  refine jr rfl ?_
  refine bO (_,[]) rfl (fun τ=> rfl) (fun τ=> bU _ aa rfl (by exact gM _ _ ab) rfl) ?_
  refine fq rfl ?_
  refine bO (_,[]) rfl (fun τ=> rfl) (fun τ=> aD _ aa rfl rfl rfl) ?_
  refine fv rfl ?_
  refine bO (_,[]) rfl (fun τ=> rfl) (fun τ=> aG _ aa rfl rfl (rfl:_=some (AV.v (.int _ _)))) ?_
  refine jf rfl ?_
  refine bO (_,[]) rfl (fun τ=> rfl) (fun τ=> bo _ _ rfl rfl rfl) ?_
  refine jR rfl ?_
  refine ap (_,[]) (fun τ=> az _ _ _ rfl (rfl:_=AV.v (.bool _))) ?_
  refine mh rfl (bw ⟨rfl,?_⟩)
  refine aI (hK6 _ ?_)
  clear hK6;try clear K6
  refine aP rfl (fun hc20=> ?_) (fun hc20=> ?_)
  ·skip
   have hs:=rP l k ab
   have hlk1:(l.take (k+1)).length=(l.take k).length+1:=by rw [← hs];simp
   have hall1: ∀ x∈l.take (k+1),decide (x.1 < h.1)=true:=by
    rw [← hs]
    intro x hx
    rcases List.mem_append.1 hx with hx | hx
    ·exact hall x hx
    ·rw [List.mem_singleton.1 hx];exact decide_eq_true ab
   refine bA (hK5 _ ?_)
   clear hK5;try clear K5
   refine au (am (fW rfl (eT rfl (aV rfl (aj (bl _ _ aa rfl rfl _ rfl ab (by (simp only [aU,bj,bh,bq,bp,bE,bs];omega)) ag) ?_)))))
   refine aj (bZ _ aa rfl (by exact we _ _ ab) rfl) ?_
   refine aj (bi _ _ aa rfl ag (by (simp <;> rfl)) ah rfl) ?_
   refine aj (de (27,0) _ _ aa rfl rfl (bs _).symm (.sl rfl) ab rfl ((nD _ (lu l k)).trans (by rw [hs])) hlk1.symm) ?_
   refine eE rfl (ai ?_)
   refine aQ (σ':=aA 39 [(0,_),(3,_),(5,_),(6,_)] [((3,0),_),((27,0),_)] [] []) kp ?_
   refine an (aV rfl (aj (aZ _ _ rfl rfl (bJ ab)) ?_))
   refine bc rfl (aI (⟨k+1,?_,?_,?_⟩))
   ·exact ⟨by omega,hall1⟩
   ·skip
    refine Le.mkJ [((5,0),(27,0))] [] rfl ?_ ?_ trivial trivial ?_
    ·exact ⟨(by repeat' (exact Lv.sl)),(eg (id:=(3,0)) rfl),(cd ag),(cY rfl ag),trivial⟩
    ·exact ⟨(gz rfl rfl rfl rfl (by repeat' (first | exact Lv.v | exact Lv.sl | exact br | refine aB ?_ ?_))),(gJ rfl rfl rfl ag),trivial⟩
    ·kernel_rfl
   ·omega
  ·skip
   have hf:=sk (p:=fun x=> decide (x.1 < h.1)) hall (.inr (decide_eq_false ab))
   refine bI (id (hK4 _ ?_))
   clear hK4;try clear K4
   refine am (fW rfl (aj (aX _ aa rfl rfl rfl rfl) (aj (bi _ _ aa rfl ag (by (simp <;> rfl)) ah rfl) ?_)))
   refine aj (de (33,0) _ _ aa rfl rfl (bs _).symm (.sl rfl) ab rfl (nD _ h) (show (l.take k).length+1=(l.take k++[h]).length by simp)) ?_
   refine eE rfl (ai (aq ?_))
   refine aQ (σ':=aA 39 [(0,_),(5,_),(6,_)] [((33,0),_)] [] []) kp ?_
   refine an (fW rfl (eT rfl (aV rfl (aj (lF _ _ _ aa rfl k l.length (.lit rfl rfl) .dflt hk (Nat.le_refl _) (show _=kU (l.drop k) by rw [show (kU l).drop (k*5)=kU (l.drop k) from mB uF 5 (fun _=> rfl) l k];exact List.take_of_length_le (by rw [bs,List.length_drop];exact Nat.le_refl _)) rfl) ?_))))
   refine aj (de (38,0) _ _ aa rfl rfl (bs _).symm (.sl (by rw [bs,List.length_drop])) (by simp;omega) rfl (sc _ _) (show (l.take k++[h]).length+(l.length - k)=(l.take k++[h]++l.drop k).length by simp;omega)) ?_
   refine eE rfl (ai (aE ?_))
   have hfin:l.take k++[h]++l.drop k=na l h:=by unfold na;rw [hf.1,hf.2];simp
   exact aW (.inr rfl) rfl (.tmp (rfl:_=AV.ref _ _ _)) (Le.out [] [(38,0)] (by rw [← hfin];exact iL rfl rfl (bs _).symm rfl) rfl rfl rfl tr trivial)
 ·skip
  have hf:=sk (p:=fun x=> decide (x.1 < h.1)) hall (.inl ab)
  refine gb rfl ?_
  refine cB rfl (fun τ=> rfl) ah ?_
  refine gC rfl ?_
  refine cB rfl (fun τ=> rfl) ah ?_
  refine iy rfl ?_
  refine cB rfl (fun τ=> rfl) ah ?_
  refine jy rfl ?_
  refine cB rfl (fun τ=> rfl) ah ?_
  refine jr rfl ?_
  refine cB rfl (fun τ=> rfl) ah ?_
  refine fq rfl ?_
  refine cB rfl (fun τ=> rfl) ah ?_
  refine fv rfl ?_
  refine cB rfl (fun τ=> rfl) ah ?_
  refine jf rfl ?_
  refine cB rfl (fun τ=> rfl) ah ?_
  refine jR rfl ?_
  refine ap (_,[]) (fun τ=> az _ _ _ rfl (rfl:_=AV.v (.bool _))) ?_
  refine mh rfl (bw ⟨rfl,?_⟩)
  refine aI (hK6 _ ?_)
  clear hK6;try clear K6
  refine aS rfl rfl (bI (id (hK4 _ ?_)))
  clear hK4;try clear K4
  refine am (fW rfl (aj (aX _ aa rfl rfl rfl rfl) (aj (bi _ _ aa rfl ag (by (simp <;> rfl)) ah rfl) ?_)))
  refine aj (de (33,0) _ _ aa rfl rfl (bs _).symm (.sl rfl) ab rfl (nD _ h) (show (l.take k).length+1=(l.take k++[h]).length by simp)) ?_
  refine eE rfl (ai (aq ?_))
  refine aQ (σ':=aA 39 [(0,_),(5,_),(6,_)] [((33,0),_)] [] []) kp ?_
  refine an (fW rfl (eT rfl (aV rfl (aj (lF _ _ _ aa rfl k l.length (.lit rfl rfl) .dflt hk (Nat.le_refl _) (show _=kU (l.drop k) by rw [show (kU l).drop (k*5)=kU (l.drop k) from mB uF 5 (fun _=> rfl) l k];exact List.take_of_length_le (by rw [bs,List.length_drop];exact Nat.le_refl _)) rfl) ?_))))
  refine aj (de (38,0) _ _ aa rfl rfl (bs _).symm (.sl (by rw [bs,List.length_drop])) (by simp;omega) rfl (sc _ _) (show (l.take k++[h]).length+(l.length - k)=(l.take k++[h]++l.drop k).length by simp;omega)) ?_
  refine eE rfl (ai (aE ?_))
  have hfin:l.take k++[h]++l.drop k=na l h:=by unfold na;rw [hf.1,hf.2];simp
  exact aW (.inr rfl) rfl (.tmp (rfl:_=AV.ref _ _ _)) (Le.out [] [(38,0)] (by rw [← hfin];exact iL rfl rfl (bs _).symm rfl) rfl rfl rfl tr trivial)
end Go.Proofs.YtmjnackchaahbaaGreat
