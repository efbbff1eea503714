/- Part 10 of the texts that the walk leans on: the machine, the walks, the plain laws. -/
import Derived.Test.YtmjnackchaahbaaGreatVoZ9
set_option linter.unusedSimpArgs false
set_option linter.unusedVariables false
namespace Go.Proofs.YtmjnackchaahbaaGreat
open Go.RowKit

structure PS (T:List Tk) (N:List Tx) (f:Nat):Prop where
 stm: ∀ lv i r,lv≤20→i < T.length→vL T f lv i=some r→r.2 < T.length∧Spec Tryz.prog 202 (bc [.ptr (0,9) 0, .v (.int .i64 (lv:Int))] (dI T i N)) (PO T N r)
 blk: ∀ lv i r,lv≤21→i < T.length→oT T f lv i=some r→r.2 < T.length∧Spec Tryz.prog 164 (bc [.ptr (0,9) 0, .v (.int .i64 (lv:Int))] (dI T i N)) (PO T N r)
def zl:List Tx:=[tb,jk,oe,gp,jS,nS,ml,oz,nJ]
theorem fm {T:List Tk} {i:Nat} (h:tA (cY T i).t=true):dV T i=false:=by unfold dV;rw [h];simp
section
variable {T:List Tk} {N:List Tx}
theorem vH (hT:T.length≤100000) (lv i:Nat) (hl:lv≤20) (hi:i < T.length) (hn:dV T i=true) {d:Nd} {j1 j2 j3:Nat} (h1:Spec Tryz.prog 162 (bc [.ptr (0,9) 0, .v (bt [61])] (dI T (bS T i) N)) (bj (.tup []) (dI T j1 N) [(0,9)] [(0,9)])) (h2:Spec Tryz.prog 226 (bc [.ptr (0,9) 0, .v (.int .i64 (lv:Int)), .v (.int .i64 1)] (dI T j1 N)) (PO T N (d,j2))) (h3:Spec Tryz.prog 162 (bc [.ptr (0,9) 0, .v (bt [59])] (dI T j2 N)) (bj (.tup []) (dI T j3 N) [(0,9)] [(0,9)])):
  Spec Tryz.prog 202 (bc [.ptr (0,9) 0, .v (.int .i64 (lv:Int))] (dI T i N)) (PO T N (nd 1 0 (cY T i).t [d],j3)):=by
 refine Spec.ofNI Tryz.func202 rfl Tryz.ntmps202 rfl ?_
 refine am (ai (ax (4,0) aa rfl rfl) (aj (am (bh rfl (ai (bs aa _ _ ar (bV T i N hi) tr rfl ae (by simp)) ?_)))))
 refine ja rfl (aj (am (ai (ay _ aa rfl (by exact (rfl:_=some [_,_,_,_]))) ?_)))
 refine ai (ax (6,0) aa rfl rfl) (bL rfl rfl rfl rfl rfl rfl (aj (aq (am (bh rfl (ai (bs aa _ _ ar (dF T i N hi) tr rfl ae (by simp)) ?_))))))
 refine aj (bF rfl hn (am (bh rfl (ai (aQ (cp T i N hi hT)) ?_))))
 refine aj (aG fun K7 hK7=> ?_)
 refine an (bh rfl (ai (aQ (h1)) (az (hK7 _ ?_))))
 clear hK7;try clear K7
 refine aG fun K8 hK8=> ?_
 refine an (dL rfl (bh rfl (aS rfl (ai (aQ (h2)) (ai (aX _ _ aa rfl ag (by (simp <;> rfl)) ah rfl) ?_)))))
 refine ai (ay _ aa rfl (by exact (rfl:_=some [_,_,_,_]))) ?_
 refine bL rfl rfl rfl rfl rfl rfl (az (hK8 _ ?_))
 clear hK8;try clear K8
 refine aG fun K9 hK9=> ?_
 refine aO (σ':=aB 145 [(0,_),(4,_),(6,_)] [((0,9),_),((4,0),_),((6,0),_)] [(0,9)] [(0,9)]) kp ?_
 refine an (bh rfl (ai (aQ (h3)) (az (hK9 _ ?_))))
 clear hK9;try clear K9
 exact am (ai (aP _ aa rfl rfl rfl rfl) (bL rfl rfl rfl rfl rfl rfl (aj (aD (aY (.inr rfl) rfl (.cellA aa rfl rfl rfl) (Le.outI [] [] (.agg rfl lz) rfl rfl rfl trivial ob tr rfl))))))
theorem zf (hT:T.length≤100000) (lv i:Nat) (hl:lv≤20) (hi:i < T.length) (ht:(cY T i).t=jk) {c x:Nd} {j1 j2:Nat} (h1:Spec Tryz.prog 226 (bc [.ptr (0,9) 0, .v (.int .i64 (lv:Int)), .v (.int .i64 1)] (dI T (bS T i) N)) (PO T N (c,j1))) (h2:Spec Tryz.prog 164 (bc [.ptr (0,9) 0, .v (.int .i64 ((lv+1:Nat):Int))] (dI T j1 N)) (PO T N (x,j2))):
  Spec Tryz.prog 202 (bc [.ptr (0,9) 0, .v (.int .i64 (lv:Int))] (dI T i N)) (PO T N (nd 3 0 [] [c,x],j2)):=by
 have hnx:=bV T i N hi
 have hn:dV T i=false:=fm (by rw [ht];rfl)
 rw [ht] at hnx
 refine Spec.ofNI Tryz.func202 rfl Tryz.ntmps202 rfl ?_
 refine am (ai (ax (4,0) aa rfl rfl) (aj (am (bh rfl (ai (bs aa _ _ ar (hnx) tr rfl ae (by simp)) ?_)))))
 refine ja rfl (aj (am (ai (ay _ aa rfl (by exact (rfl:_=some [_,_,_,_]))) ?_)))
 refine ai (ax (6,0) aa rfl rfl) (bL rfl rfl rfl rfl rfl rfl (aj (aq (am (bh rfl (ai (bs aa _ _ ar (dF T i N hi) tr rfl ae (by simp)) ?_))))))
 refine aj (aR rfl hn (aJ (aq (am (ai (aX _ _ aa rfl ag (by (simp <;> rfl)) ah rfl) ?_)))))
 refine dL rfl (ai (aM aa al (cC zl 9 rfl ab jk) rfl rfl) ?_)
 refine ai (cT (r:=false) _ rfl rfl) (aj (aR rfl rfl (aJ (am (bh rfl (ai (aQ (cp T i N hi hT)) ?_))))))
 refine aj (aq (aq ?_))
 refine aO (σ':=aB 145 [(0,_),(1,_),(4,_),(5,_),(6,_)] [((0,9),_),((4,0),_),((6,0),_)] [(0,9)] [(0,9)]) kp ?_
 refine an (dL rfl (aj (au (aq (am (ai (aT (r:=false) _ _ Tryz.underlying9 rfl rfl rfl) (cw rfl (aj (aR rfl rfl (an ?_))))))))))
 refine ai (aT (r:=true) _ _ Tryz.underlying9 rfl rfl rfl) (cw rfl (aj (bF rfl rfl (aG fun K13 hK13=> ?_))))
 refine an (bh rfl (aS rfl (ai (aQ (h1)) (ai (ax (7,0) aa rfl rfl) (bL rfl rfl rfl rfl rfl rfl (az (hK13 _ ?_)))))))
 clear hK13;try clear K13
 refine aG fun K14 hK14=> ?_
 refine aO (σ':=aB 145 [(0,_),(1,_),(4,_),(5,_),(7,_)] [((0,9),_),((4,0),_),((7,0),_)] [(0,9)] [(0,9)]) kp ?_
 refine bE 5 [53,54,55,56,57] [(0,9)] ae ae rfl (aK rfl) (rfl:_=[_,_,_,_,_]) (rfl:_=[_,_]) ?_
 refine ap (_,[]) (fun τ=> aP _ aa rfl rfl rfl rfl) ?_
 refine eE rfl ?_
 refine ap (_,[]) (fun τ=> aE _ (rfl:_=AV.ptr _ _)) ?_
 refine eF rfl ?_
 refine ap (_,[]) (fun τ=> aE _ (rfl:_=AV.v (.int _ _))) ?_
 refine eD rfl ?_
 refine ap (_,[]) (fun τ=> be _ _ rfl rfl (br ab)) ?_
 refine eI rfl ?_
 refine ap (_,[((0,9),_)]) (fun τ=> (cr aa ar (h2) ob rfl rfl ae)) ?_
 refine eU rfl (bi ⟨rfl,?_⟩)
 refine ai (aX _ _ aa rfl ag (by (simp <;> rfl)) ah rfl) ?_
 refine kB rfl (az (hK14 _ ?_))
 clear hK14;try clear K14
 refine aq (am (dL rfl (ai (aT (r:=true) _ _ Tryz.underlying9 rfl rfl rfl) (aj (bF rfl rfl (am (ez rfl (ai (ay _ aa rfl (by exact (rfl:_=some [_,_,_,_]))) ?_))))))))
 exact bL rfl rfl rfl rfl rfl rfl (aj (aD (aY (.inr rfl) rfl (.cellA aa rfl rfl rfl) (Le.outI [] [] (.agg rfl lz) rfl rfl rfl trivial ob tr rfl))))
theorem FW (hT:T.length≤100000) (lv i:Nat) (hl:lv≤20) (hi:i < T.length) (ht:(cY T i).t=tb) {c x:Nd} {j1 j2:Nat} (h1:Spec Tryz.prog 226 (bc [.ptr (0,9) 0, .v (.int .i64 (lv:Int)), .v (.int .i64 1)] (dI T (bS T i) N)) (PO T N (c,j1))) (h2:Spec Tryz.prog 164 (bc [.ptr (0,9) 0, .v (.int .i64 ((lv+1:Nat):Int))] (dI T j1 N)) (PO T N (x,j2))) (hj:j2 < T.length) (he:(cY T j2).t≠qj):
  Spec Tryz.prog 202 (bc [.ptr (0,9) 0, .v (.int .i64 (lv:Int))] (dI T i N)) (PO T N (nd 2 0 [] [c,x,nd 11 0 [] []],j2)):=by
 have hnx:=bV T i N hi
 have hn:dV T i=false:=fm (by rw [ht];rfl)
 rw [ht] at hnx
 refine Spec.ofNI Tryz.func202 rfl Tryz.ntmps202 rfl ?_
 refine am (ai (ax (4,0) aa rfl rfl) (aj (am (bh rfl (ai (bs aa _ _ ar (hnx) tr rfl ae (by simp)) ?_)))))
 refine ja rfl (aj (am (ai (ay _ aa rfl (by exact (rfl:_=some [_,_,_,_]))) ?_)))
 refine ai (ax (6,0) aa rfl rfl) (bL rfl rfl rfl rfl rfl rfl (aj (aq (am (bh rfl (ai (bs aa _ _ ar (dF T i N hi) tr rfl ae (by simp)) ?_))))))
 refine aj (aR rfl hn (aJ (aq (am (ai (aX _ _ aa rfl ag (by (simp <;> rfl)) ah rfl) ?_)))))
 refine dL rfl (ai (aM aa al (cC zl 9 rfl ab tb) rfl rfl) ?_)
 refine ai (cT (r:=false) _ rfl rfl) (aj (aR rfl rfl (aJ (am (bh rfl (ai (aQ (cp T i N hi hT)) ?_))))))
 refine aj (aq (aq ?_))
 refine aO (σ':=aB 145 [(0,_),(1,_),(4,_),(5,_),(6,_)] [((0,9),_),((4,0),_),((6,0),_)] [(0,9)] [(0,9)]) kp ?_
 refine an (dL rfl (aj (au (aq (am (ai (aT (r:=true) _ _ Tryz.underlying9 rfl rfl rfl) (cw rfl (aj (bF rfl rfl (aJ ?_))))))))))
 refine bF rfl rfl (aG fun K13 hK13=> ?_)
 refine an (bh rfl (aS rfl (ai (aQ (h1)) (ai (ax (7,0) aa rfl rfl) (bL rfl rfl rfl rfl rfl rfl (az (hK13 _ ?_)))))))
 clear hK13;try clear K13
 refine aG fun K14 hK14=> ?_
 refine aO (σ':=aB 145 [(0,_),(1,_),(4,_),(5,_),(7,_)] [((0,9),_),((4,0),_),((7,0),_)] [(0,9)] [(0,9)]) kp ?_
 refine bE 5 [53,54,55,56,57] [(0,9)] ae ae rfl (aK rfl) (rfl:_=[_,_,_,_,_]) (rfl:_=[_,_]) ?_
 refine ap (_,[]) (fun τ=> aP _ aa rfl rfl rfl rfl) ?_
 refine eE rfl ?_
 refine ap (_,[]) (fun τ=> aE _ (rfl:_=AV.ptr _ _)) ?_
 refine eF rfl ?_
 refine ap (_,[]) (fun τ=> aE _ (rfl:_=AV.v (.int _ _))) ?_
 refine eD rfl ?_
 refine ap (_,[]) (fun τ=> be _ _ rfl rfl (br ab)) ?_
 refine eI rfl ?_
 refine ap (_,[((0,9),_)]) (fun τ=> (cr aa ar (h2) ob rfl rfl ae)) ?_
 refine eU rfl (bi ⟨rfl,?_⟩)
 refine ai (jO (58,0) _ _ aa rfl ag (by (simp <;> rfl)) ah rfl rfl) ?_
 refine fb rfl (az (hK14 _ ?_))
 clear hK14;try clear K14
 refine aq (am (dL rfl (ai (aT (r:=false) _ _ Tryz.underlying9 rfl rfl rfl) (aj (aR rfl rfl (aJ (am (ai (ay _ aa rfl (by exact (rfl:_=some [_,_,_,_]))) ?_))))))))
 refine ai (ax (9,0) aa rfl rfl) (bL rfl rfl rfl rfl rfl rfl (aj (aq (am (bh rfl (ai (aN _ rfl rfl) (bv rfl rfl rfl (cG rfl rfl rfl (iY rfl rfl rfl (cP rfl ?_))))))))))
 refine aA rfl rfl (aE _ (rfl:_=AV.ptr _ _)) (aA rfl rfl (bs aa _ _ ar (bV T j2 N hj) tr rfl ae (by simp)) ?_)
 refine aA rfl rfl (aT (r:=false) _ _ Tryz.underlying9 rfl rfl (beq_eq_false_iff_ne.2 he)) ?_
 refine ai (aH _ _ _ rfl (rfl:_=AV.v (.bool _))) (aj (aR rfl rfl (aJ (aq ?_))))
 refine aO (σ':=aB 145 [(4,_),(8,_),(9,_)] [((4,0),_),((58,0),_),((9,0),_),((0,9),_)] [(0,9)] [(0,9)]) kp ?_
 refine an (gD rfl (cD (Le.nil0 (9,0) 3 rfl rfl) ?_))
 refine ai (aP _ aa rfl rfl rfl rfl) (ai (aX _ _ aa rfl ag (by (simp <;> rfl)) ah rfl) ?_)
 refine ai (dt (83,0) _ _ aa rfl rfl ag (by (refine .sl ?_;(simp [cR];done))) ab rfl (rfl) (rfl)) ?_
 refine ai (ay _ aa rfl (by exact (rfl:_=some [_,_,_,_]))) ?_
 exact bL rfl rfl rfl rfl rfl rfl (aj (aD (aY (.inr rfl) rfl (.cellA aa rfl rfl rfl) (Le.outI [] [(83,0)] (.agg rfl (aC .v (aC .v (aC .v (aC (gQ rfl rfl rfl rfl) bn))))) rfl rfl rfl tr ob tr rfl))))
theorem vj (hT:T.length≤100000) (lv i:Nat) (hl:lv≤20) (hi:i < T.length) (ht:(cY T i).t=tb) {c x y:Nd} {j1 j2 j3:Nat} (h1:Spec Tryz.prog 226 (bc [.ptr (0,9) 0, .v (.int .i64 (lv:Int)), .v (.int .i64 1)] (dI T (bS T i) N)) (PO T N (c,j1))) (h2:Spec Tryz.prog 164 (bc [.ptr (0,9) 0, .v (.int .i64 ((lv+1:Nat):Int))] (dI T j1 N)) (PO T N (x,j2))) (hj:j2 < T.length) (he:(cY T j2).t=qj) (h3:Spec Tryz.prog 164 (bc [.ptr (0,9) 0, .v (.int .i64 ((lv+1:Nat):Int))] (dI T (bS T j2) N)) (PO T N (y,j3))):
  Spec Tryz.prog 202 (bc [.ptr (0,9) 0, .v (.int .i64 (lv:Int))] (dI T i N)) (PO T N (nd 2 0 [] [c,x,y],j3)):=by
 have hnx:=bV T i N hi
 have hn:dV T i=false:=fm (by rw [ht];rfl)
 rw [ht] at hnx
 refine Spec.ofNI Tryz.func202 rfl Tryz.ntmps202 rfl ?_
 refine am (ai (ax (4,0) aa rfl rfl) (aj (am (bh rfl (ai (bs aa _ _ ar (hnx) tr rfl ae (by simp)) ?_)))))
 refine ja rfl (aj (am (ai (ay _ aa rfl (by exact (rfl:_=some [_,_,_,_]))) ?_)))
 refine ai (ax (6,0) aa rfl rfl) (bL rfl rfl rfl rfl rfl rfl (aj (aq (am (bh rfl (ai (bs aa _ _ ar (dF T i N hi) tr rfl ae (by simp)) ?_))))))
 refine aj (aR rfl hn (aJ (aq (am (ai (aX _ _ aa rfl ag (by (simp <;> rfl)) ah rfl) ?_)))))
 refine dL rfl (ai (aM aa al (cC zl 9 rfl ab tb) rfl rfl) ?_)
 refine ai (cT (r:=false) _ rfl rfl) (aj (aR rfl rfl (aJ (am (bh rfl (ai (aQ (cp T i N hi hT)) ?_))))))
 refine aj (aq (aq ?_))
 refine aO (σ':=aB 145 [(0,_),(1,_),(4,_),(5,_),(6,_)] [((0,9),_),((4,0),_),((6,0),_)] [(0,9)] [(0,9)]) kp ?_
 refine an (dL rfl (aj (au (aq (am (ai (aT (r:=true) _ _ Tryz.underlying9 rfl rfl rfl) (cw rfl (aj (bF rfl rfl (aJ ?_))))))))))
 refine bF rfl rfl (aG fun K13 hK13=> ?_)
 refine an (bh rfl (aS rfl (ai (aQ (h1)) (ai (ax (7,0) aa rfl rfl) (bL rfl rfl rfl rfl rfl rfl (az (hK13 _ ?_)))))))
 clear hK13;try clear K13
 refine aG fun K14 hK14=> ?_
 refine aO (σ':=aB 145 [(0,_),(1,_),(4,_),(5,_),(7,_)] [((0,9),_),((4,0),_),((7,0),_)] [(0,9)] [(0,9)]) kp ?_
 refine bE 5 [53,54,55,56,57] [(0,9)] ae ae rfl (aK rfl) (rfl:_=[_,_,_,_,_]) (rfl:_=[_,_]) ?_
 refine ap (_,[]) (fun τ=> aP _ aa rfl rfl rfl rfl) ?_
 refine eE rfl ?_
 refine ap (_,[]) (fun τ=> aE _ (rfl:_=AV.ptr _ _)) ?_
 refine eF rfl ?_
 refine ap (_,[]) (fun τ=> aE _ (rfl:_=AV.v (.int _ _))) ?_
 refine eD rfl ?_
 refine ap (_,[]) (fun τ=> be _ _ rfl rfl (br ab)) ?_
 refine eI rfl ?_
 refine ap (_,[((0,9),_)]) (fun τ=> (cr aa ar (h2) ob rfl rfl ae)) ?_
 refine eU rfl (bi ⟨rfl,?_⟩)
 refine ai (jO (58,0) _ _ aa rfl ag (by (simp <;> rfl)) ah rfl rfl) ?_
 refine fb rfl (az (hK14 _ ?_))
 clear hK14;try clear K14
 refine aq (am (dL rfl (ai (aT (r:=false) _ _ Tryz.underlying9 rfl rfl rfl) (aj (aR rfl rfl (aJ (am (ai (ay _ aa rfl (by exact (rfl:_=some [_,_,_,_]))) ?_))))))))
 refine ai (ax (9,0) aa rfl rfl) (bL rfl rfl rfl rfl rfl rfl (aj (aG fun K18 hK18=> ?_)))
 refine am (bh rfl (ai (aN _ rfl rfl) (bv rfl rfl rfl (cG rfl rfl rfl (iY rfl rfl rfl (cP rfl (aA rfl rfl (aE _ (rfl:_=AV.ptr _ _)) (aA rfl rfl (bs aa _ _ ar (bV T j2 N hj) tr rfl ae (by simp)) ?_))))))))
 refine aA rfl rfl (aT (r:=true) _ _ Tryz.underlying9 rfl rfl (beq_iff_eq.2 he)) ?_
 refine ai (aH _ _ _ rfl (rfl:_=AV.v (.bool _))) (aj (bF rfl rfl (aG fun K20 hK20=> ?_)))
 refine aO (σ':=aB 145 [(0,_),(1,_),(4,_),(8,_),(9,_)] [((0,9),_),((4,0),_),((58,0),_),((9,0),_)] [(0,9)] [(0,9)]) kp ?_
 refine an (bh rfl (ai (aQ (cp T j2 N hj hT)) ?_))
 refine az (hK20 _ ?_)
 clear hK20;try clear K20
 refine an (bh rfl (aS rfl (ai (be _ _ rfl rfl (br ab)) ?_)))
 refine ai (aQ (h3)) (bL rfl rfl rfl rfl rfl rfl (az (hK18 _ ?_)))
 clear hK18;try clear K18
 refine am (gD rfl (ai (aP _ aa rfl rfl rfl rfl) (ai (aX _ _ aa rfl ag (by (simp <;> rfl)) ah rfl) ?_)))
 refine ai (dt (83,0) _ _ aa rfl rfl ag (by (refine .sl ?_;(simp [cR];done))) ab rfl (rfl) (rfl)) ?_
 refine ai (ay _ aa rfl (by exact (rfl:_=some [_,_,_,_]))) ?_
 exact bL rfl rfl rfl rfl rfl rfl (aj (aD (aY (.inr rfl) rfl (.cellA aa rfl rfl rfl) (Le.outI [] [(83,0)] (.agg rfl (aC .v (aC .v (aC .v (aC (gQ rfl rfl rfl rfl) bn))))) rfl rfl rfl tr ob tr rfl))))
theorem zG (hT:T.length≤100000) (lv i:Nat) (hl:lv≤20) (hi:i < T.length) (ht:(cY T i).t=oe) {x y z:Nd} {k j1 j2 j3 j4 j5 j6 j7 j8:Nat} (h1:Spec Tryz.prog 226 (bc [.ptr (0,9) 0, .v (.int .i64 (lv:Int)), .v (.int .i64 1)] (dI T (bS T i) N)) (PO T N (x,j1))) (h2:Spec Tryz.prog 162 (bc [.ptr (0,9) 0, .v (bt [44])] (dI T j1 N)) (bj (.tup []) (dI T j2 N) [(0,9)] [(0,9)])) (h3:Spec Tryz.prog 200 (bc [.ptr (0,9) 0, .v (.int .i64 29)] (dI T j2 N)) (bj (.v (.int .i64 (k:Int))) (dI T j3 N) [(0,9)] [(0,9)])) (h4:Spec Tryz.prog 162 (bc [.ptr (0,9) 0, .v (bt [44])] (dI T j3 N)) (bj (.tup []) (dI T j4 N) [(0,9)] [(0,9)])) (h5:Spec Tryz.prog 226 (bc [.ptr (0,9) 0, .v (.int .i64 (lv:Int)), .v (.int .i64 1)] (dI T j4 N)) (PO T N (y,j5))) (h6:Spec Tryz.prog 162 (bc [.ptr (0,9) 0, .v (bt [44])] (dI T j5 N)) (bj (.tup []) (dI T j6 N) [(0,9)] [(0,9)])) (h7:Spec Tryz.prog 226 (bc [.ptr (0,9) 0, .v (.int .i64 (lv:Int)), .v (.int .i64 1)] (dI T j6 N)) (PO T N (z,j7))) (h8:Spec Tryz.prog 162 (bc [.ptr (0,9) 0, .v (bt [59])] (dI T j7 N)) (bj (.tup []) (dI T j8 N) [(0,9)] [(0,9)])):
  Spec Tryz.prog 202 (bc [.ptr (0,9) 0, .v (.int .i64 (lv:Int))] (dI T i N)) (PO T N (nd 4 k [] [x,y,z],j8)):=by
 have hnx:=bV T i N hi
 have hn:dV T i=false:=fm (by rw [ht];rfl)
 rw [ht] at hnx
 refine Spec.ofNI Tryz.func202 rfl Tryz.ntmps202 rfl ?_
 refine am (ai (ax (4,0) aa rfl rfl) (aj (am (bh rfl (ai (bs aa _ _ ar (hnx) tr rfl ae (by simp)) ?_)))))
 refine ja rfl (aj (am (ai (ay _ aa rfl (by exact (rfl:_=some [_,_,_,_]))) ?_)))
 refine ai (ax (6,0) aa rfl rfl) (bL rfl rfl rfl rfl rfl rfl (aj (aq (am (bh rfl (ai (bs aa _ _ ar (dF T i N hi) tr rfl ae (by simp)) ?_))))))
 refine aj (aR rfl hn (aJ (aq (am (ai (aX _ _ aa rfl ag (by (simp <;> rfl)) ah rfl) ?_)))))
 refine dL rfl (ai (aM aa al (cC zl 9 rfl ab oe) rfl rfl) ?_)
 refine ai (cT (r:=false) _ rfl rfl) (aj (aR rfl rfl (aJ (am (bh rfl (ai (aQ (cp T i N hi hT)) ?_))))))
 refine aj (aG fun K9 hK9=> ?_)
 refine aq ?_
 refine aO (σ':=aB 145 [(0,_),(1,_),(4,_),(5,_),(6,_)] [((0,9),_),((4,0),_),((6,0),_)] [(0,9)] [(0,9)]) kp ?_
 refine an (dL rfl (aj (au (aq (am (ai (aT (r:=false) _ _ Tryz.underlying9 rfl rfl rfl) (cw rfl (aj (aR rfl rfl (an ?_))))))))))
 refine ai (aT (r:=false) _ _ Tryz.underlying9 rfl rfl rfl) (cw rfl (aj (aR rfl rfl (am (ai (aT (r:=true) _ _ Tryz.underlying9 rfl rfl rfl) (cw rfl (aj (bF rfl rfl (aG fun K14 hK14=> ?_)))))))))
 refine an (bh rfl (aS rfl (ai (aQ (h1)) (ai (ax (10,0) aa rfl rfl) (bL rfl rfl rfl rfl rfl rfl (az (hK14 _ ?_)))))))
 clear hK14;try clear K14
 refine aG fun K15 hK15=> ?_
 refine an (bh rfl (ai (aQ (h2)) (az (hK15 _ ?_))))
 clear hK15;try clear K15
 refine aG fun K16 hK16=> ?_
 refine an (bh rfl (ai (aQ (h3)) (aZ rfl (az (hK16 _ ?_)))))
 clear hK16;try clear K16
 refine aG fun K17 hK17=> ?_
 refine aO (σ':=aB 145 [(0,_),(1,_),(4,_),(6,_),(10,_),(11,_)] [((0,9),_),((4,0),_),((6,0),_),((10,0),_)] [(0,9)] [(0,9)]) kp ?_
 refine an (bh rfl (ai (aQ (h4)) (az (hK17 _ ?_))))
 clear hK17;try clear K17
 refine aG fun K18 hK18=> ?_
 refine an (bh rfl (aS rfl (ai (aQ (h5)) (ai (ax (12,0) aa rfl rfl) (bL rfl rfl rfl rfl rfl rfl (az (hK18 _ ?_)))))))
 clear hK18;try clear K18
 refine aG fun K19 hK19=> ?_
 refine an (bh rfl (ai (aQ (h6)) (az (hK19 _ ?_))))
 clear hK19;try clear K19
 refine aO (σ':=aB 145 [(0,_),(1,_),(4,_),(6,_),(10,_),(11,_),(12,_)] [((0,9),_),((4,0),_),((6,0),_),((10,0),_),((12,0),_)] [(0,9)] [(0,9)]) kp ?_
 refine bE 7 [101,102,103,104,105,106,107] [(0,9)] ae ae rfl (aK rfl) (rfl:_=[_,_,_,_,_,_,_]) (rfl:_=[_,_]) ?_
 refine ap (_,[]) (fun τ=> aE _ (rfl:_=AV.v (.int _ _))) ?_
 refine eE rfl ?_
 refine ap (_,[]) (fun τ=> aP _ aa rfl rfl rfl rfl) ?_
 refine eF rfl ?_
 refine ap (_,[]) (fun τ=> aP _ aa rfl rfl rfl rfl) ?_
 refine eD rfl ?_
 refine ap (_,[]) (fun τ=> aE _ (rfl:_=AV.ptr _ _)) ?_
 refine eI rfl ?_
 refine ap (_,[]) (fun τ=> aE _ (rfl:_=AV.v (.int _ _))) ?_
 refine eU rfl ?_
 refine ap (_,[((0,9),_)]) (fun τ=> (cr aa ar (h7) ob rfl rfl ae)) ?_
 refine fh rfl ?_
 refine ap (_,[]) (fun τ=> aX _ _ aa rfl ag (by (simp;exact ⟨rfl,rfl⟩)) ah rfl) ?_
 refine fZ rfl (bi ⟨rfl,?_⟩)
 refine ai (ay _ aa rfl (by exact (rfl:_=some [_,_,_,_]))) ?_
 refine bL rfl rfl rfl rfl rfl rfl (az (hK9 _ ?_))
 clear hK9;try clear K9
 refine aG fun K20 hK20=> ?_
 refine an (bh rfl (ai (aQ (h8)) (az (hK20 _ ?_))))
 clear hK20;try clear K20
 exact am (ai (aP _ aa rfl rfl rfl rfl) (bL rfl rfl rfl rfl rfl rfl (aj (aD (aY (.inr rfl) rfl (.cellA aa rfl rfl rfl) (Le.outI [] [] (.agg rfl lz) rfl rfl rfl trivial ob tr rfl))))))
theorem xB (hT:T.length≤100000) (lv i:Nat) (hl:lv≤20) (hi:i < T.length) (ht:(cY T i).t=gp) {k j1 j2:Nat} (h1:Spec Tryz.prog 200 (bc [.ptr (0,9) 0, .v (.int .i64 7)] (dI T (bS T i) N)) (bj (.v (.int .i64 (k:Int))) (dI T j1 N) [(0,9)] [(0,9)])) (h2:Spec Tryz.prog 162 (bc [.ptr (0,9) 0, .v (bt [59])] (dI T j1 N)) (bj (.tup []) (dI T j2 N) [(0,9)] [(0,9)])):
  Spec Tryz.prog 202 (bc [.ptr (0,9) 0, .v (.int .i64 (lv:Int))] (dI T i N)) (PO T N (nd 5 k [] [],j2)):=by
 have hnx:=bV T i N hi
 have hn:dV T i=false:=fm (by rw [ht];rfl)
 rw [ht] at hnx
 refine Spec.ofNI Tryz.func202 rfl Tryz.ntmps202 rfl ?_
 refine am (ai (ax (4,0) aa rfl rfl) (aj (am (bh rfl (ai (bs aa _ _ ar (hnx) tr rfl ae (by simp)) ?_)))))
 refine ja rfl (aj (am (ai (ay _ aa rfl (by exact (rfl:_=some [_,_,_,_]))) ?_)))
 refine ai (ax (6,0) aa rfl rfl) (bL rfl rfl rfl rfl rfl rfl (aj (aq (am (bh rfl (ai (bs aa _ _ ar (dF T i N hi) tr rfl ae (by simp)) ?_))))))
 refine aj (aR rfl hn (aJ (aq (am (ai (aX _ _ aa rfl ag (by (simp <;> rfl)) ah rfl) ?_)))))
 refine dL rfl (ai (aM aa al (cC zl 9 rfl ab gp) rfl rfl) ?_)
 refine ai (cT (r:=false) _ rfl rfl) (aj (aR rfl rfl (aJ (am (bh rfl (ai (aQ (cp T i N hi hT)) ?_))))))
 refine aj (aG fun K9 hK9=> ?_)
 refine aq ?_
 refine aO (σ':=aB 145 [(0,_),(1,_),(4,_),(5,_),(6,_)] [((0,9),_),((4,0),_),((6,0),_)] [(0,9)] [(0,9)]) kp ?_
 refine an (dL rfl (aj (au (aq (am (ai (aT (r:=false) _ _ Tryz.underlying9 rfl rfl rfl) (cw rfl (aj (aR rfl rfl (an ?_))))))))))
 refine ai (aT (r:=false) _ _ Tryz.underlying9 rfl rfl rfl) (cw rfl (aj (aR rfl rfl (am (ai (aT (r:=false) _ _ Tryz.underlying9 rfl rfl rfl) (cw rfl (aj (aR rfl rfl (am (ai (aT (r:=true) _ _ Tryz.underlying9 rfl rfl rfl) ?_))))))))))
 refine cw rfl (aj (bF rfl rfl (an (bh rfl (ai (aQ (h1)) (ai (ay _ aa rfl (by exact (rfl:_=some [_,_,_,_]))) ?_))))))
 refine bL rfl rfl rfl rfl rfl rfl (az (hK9 _ ?_))
 clear hK9;try clear K9
 refine aG fun K15 hK15=> ?_
 refine an (bh rfl (ai (aQ (h2)) (az (hK15 _ ?_))))
 clear hK15;try clear K15
 refine aq ?_
 refine aO (σ':=aB 145 [(4,_),(6,_)] [((4,0),_),((6,0),_),((0,9),_)] [(0,9)] [(0,9)]) kp ?_
 exact an (ai (aP _ aa rfl rfl rfl rfl) (bL rfl rfl rfl rfl rfl rfl (aj (aD (aY (.inr rfl) rfl (.cellA aa rfl rfl rfl) (Le.outI [] [] (.agg rfl lz) rfl rfl rfl trivial ob tr rfl))))))
theorem vQ (hT:T.length≤100000) (lv i:Nat) (hl:lv≤20) (hi:i < T.length) (ht:(cY T i).t=jS) {k j1 j2:Nat} (h1:Spec Tryz.prog 200 (bc [.ptr (0,9) 0, .v (.int .i64 7)] (dI T (bS T i) N)) (bj (.v (.int .i64 (k:Int))) (dI T j1 N) [(0,9)] [(0,9)])) (h2:Spec Tryz.prog 162 (bc [.ptr (0,9) 0, .v (bt [59])] (dI T j1 N)) (bj (.tup []) (dI T j2 N) [(0,9)] [(0,9)])):
  Spec Tryz.prog 202 (bc [.ptr (0,9) 0, .v (.int .i64 (lv:Int))] (dI T i N)) (PO T N (nd 6 k [] [],j2)):=by
 have hnx:=bV T i N hi
 have hn:dV T i=false:=fm (by rw [ht];rfl)
 rw [ht] at hnx
 refine Spec.ofNI Tryz.func202 rfl Tryz.ntmps202 rfl ?_
 refine am (ai (ax (4,0) aa rfl rfl) (aj (am (bh rfl (ai (bs aa _ _ ar (hnx) tr rfl ae (by simp)) ?_)))))
 refine ja rfl (aj (am (ai (ay _ aa rfl (by exact (rfl:_=some [_,_,_,_]))) ?_)))
 refine ai (ax (6,0) aa rfl rfl) (bL rfl rfl rfl rfl rfl rfl (aj (aq (am (bh rfl (ai (bs aa _ _ ar (dF T i N hi) tr rfl ae (by simp)) ?_))))))
 refine aj (aR rfl hn (aJ (aq (am (ai (aX _ _ aa rfl ag (by (simp <;> rfl)) ah rfl) ?_)))))
 refine dL rfl (ai (aM aa al (cC zl 9 rfl ab jS) rfl rfl) ?_)
 refine ai (cT (r:=false) _ rfl rfl) (aj (aR rfl rfl (aJ (am (bh rfl (ai (aQ (cp T i N hi hT)) ?_))))))
 refine aj (aG fun K9 hK9=> ?_)
 refine aq ?_
 refine aO (σ':=aB 145 [(0,_),(1,_),(4,_),(5,_),(6,_)] [((0,9),_),((4,0),_),((6,0),_)] [(0,9)] [(0,9)]) kp ?_
 refine an (dL rfl (aj (au (aq (am (ai (aT (r:=false) _ _ Tryz.underlying9 rfl rfl rfl) (cw rfl (aj (aR rfl rfl (an ?_))))))))))
 refine ai (aT (r:=false) _ _ Tryz.underlying9 rfl rfl rfl) (cw rfl (aj (aR rfl rfl (am (ai (aT (r:=false) _ _ Tryz.underlying9 rfl rfl rfl) (cw rfl (aj (aR rfl rfl (am (ai (aT (r:=false) _ _ Tryz.underlying9 rfl rfl rfl) ?_))))))))))
 refine cw rfl (aj (aR rfl rfl (am (ai (aT (r:=true) _ _ Tryz.underlying9 rfl rfl rfl) (cw rfl (aj (bF rfl rfl (an (bh rfl (ai (aQ (h1)) ?_))))))))))
 refine ai (ay _ aa rfl (by exact (rfl:_=some [_,_,_,_]))) ?_
 refine bL rfl rfl rfl rfl rfl rfl (az (hK9 _ ?_))
 clear hK9;try clear K9
 refine aG fun K16 hK16=> ?_
 refine aO (σ':=aB 145 [(0,_),(4,_),(6,_)] [((0,9),_),((4,0),_),((6,0),_)] [(0,9)] [(0,9)]) kp ?_
 refine an (bh rfl (ai (aQ (h2)) (az (hK16 _ ?_))))
 clear hK16;try clear K16
 exact am (ai (aP _ aa rfl rfl rfl rfl) (bL rfl rfl rfl rfl rfl rfl (aj (aD (aY (.inr rfl) rfl (.cellA aa rfl rfl rfl) (Le.outI [] [] (.agg rfl lz) rfl rfl rfl trivial ob tr rfl))))))
theorem yo (hT:T.length≤100000) (lv i:Nat) (hl:lv≤20) (hi:i < T.length) (ht:(cY T i).t=ml) {x y:Nd} {j1 j2 j3 j4:Nat} (h1:Spec Tryz.prog 226 (bc [.ptr (0,9) 0, .v (.int .i64 (lv:Int)), .v (.int .i64 1)] (dI T (bS T i) N)) (PO T N (x,j1))) (h2:Spec Tryz.prog 162 (bc [.ptr (0,9) 0, .v (bt [44])] (dI T j1 N)) (bj (.tup []) (dI T j2 N) [(0,9)] [(0,9)])) (h3:Spec Tryz.prog 226 (bc [.ptr (0,9) 0, .v (.int .i64 (lv:Int)), .v (.int .i64 1)] (dI T j2 N)) (PO T N (y,j3))) (h4:Spec Tryz.prog 162 (bc [.ptr (0,9) 0, .v (bt [59])] (dI T j3 N)) (bj (.tup []) (dI T j4 N) [(0,9)] [(0,9)])):
  Spec Tryz.prog 202 (bc [.ptr (0,9) 0, .v (.int .i64 (lv:Int))] (dI T i N)) (PO T N (nd 8 0 [] [x,y],j4)):=by
 have hnx:=bV T i N hi
 have hn:dV T i=false:=fm (by rw [ht];rfl)
 rw [ht] at hnx
 refine Spec.ofNI Tryz.func202 rfl Tryz.ntmps202 rfl ?_
 refine am (ai (ax (4,0) aa rfl rfl) (aj (am (bh rfl (ai (bs aa _ _ ar (hnx) tr rfl ae (by simp)) ?_)))))
 refine ja rfl (aj (am (ai (ay _ aa rfl (by exact (rfl:_=some [_,_,_,_]))) ?_)))
 refine ai (ax (6,0) aa rfl rfl) (bL rfl rfl rfl rfl rfl rfl (aj (aq (am (bh rfl (ai (bs aa _ _ ar (dF T i N hi) tr rfl ae (by simp)) ?_))))))
 refine aj (aR rfl hn (aJ (aq (am (ai (aX _ _ aa rfl ag (by (simp <;> rfl)) ah rfl) ?_)))))
 refine dL rfl (ai (aM aa al (cC zl 9 rfl ab ml) rfl rfl) ?_)
 refine ai (cT (r:=false) _ rfl rfl) (aj (aR rfl rfl (aJ (am (bh rfl (ai (aQ (cp T i N hi hT)) ?_))))))
 refine aj (aG fun K9 hK9=> ?_)
 refine aq ?_
 refine aO (σ':=aB 145 [(0,_),(1,_),(4,_),(5,_),(6,_)] [((0,9),_),((4,0),_),((6,0),_)] [(0,9)] [(0,9)]) kp ?_
 refine an (dL rfl (aj (au (aq (am (ai (aT (r:=false) _ _ Tryz.underlying9 rfl rfl rfl) (cw rfl (aj (aR rfl rfl (an ?_))))))))))
 refine ai (aT (r:=false) _ _ Tryz.underlying9 rfl rfl rfl) (cw rfl (aj (aR rfl rfl (am (ai (aT (r:=false) _ _ Tryz.underlying9 rfl rfl rfl) (cw rfl (aj (aR rfl rfl (am (ai (aT (r:=false) _ _ Tryz.underlying9 rfl rfl rfl) ?_))))))))))
 refine cw rfl (aj (aR rfl rfl (am (ai (aT (r:=false) _ _ Tryz.underlying9 rfl rfl rfl) (cw rfl (aj (aR rfl rfl (am (ai (aT (r:=true) _ _ Tryz.underlying9 rfl rfl rfl) (cw rfl ?_))))))))))
 refine aj (bF rfl rfl (aG fun K17 hK17=> ?_))
 refine an (bh rfl (aS rfl (ai (aQ (h1)) (ai (ax (13,0) aa rfl rfl) (bL rfl rfl rfl rfl rfl rfl (az (hK17 _ ?_)))))))
 clear hK17;try clear K17
 refine aG fun K18 hK18=> ?_
 refine aO (σ':=aB 145 [(0,_),(1,_),(4,_),(6,_),(13,_)] [((0,9),_),((4,0),_),((6,0),_),((13,0),_)] [(0,9)] [(0,9)]) kp ?_
 refine an (bh rfl (ai (aQ (h2)) (az (hK18 _ ?_))))
 clear hK18;try clear K18
 refine bE 4 [126,127,128,129] [(0,9)] ae ae rfl (aK rfl) (rfl:_=[_,_,_,_]) (rfl:_=[_,_,_]) ?_
 refine ap (_,[]) (fun τ=> aP _ aa rfl rfl rfl rfl) ?_
 refine eE rfl ?_
 refine ap (_,[]) (fun τ=> aE _ (rfl:_=AV.ptr _ _)) ?_
 refine eF rfl ?_
 refine ap (_,[]) (fun τ=> aE _ (rfl:_=AV.v (.int _ _))) ?_
 refine eD rfl ?_
 refine ap (_,[((0,9),_)]) (fun τ=> (cr aa ar (h3) ob rfl rfl ae)) ?_
 refine eI rfl (bi ⟨rfl,?_⟩)
 refine ai (aX _ _ aa rfl ag (by (simp <;> rfl)) ah rfl) ?_
 refine ai (ay _ aa rfl (by exact (rfl:_=some [_,_,_,_]))) ?_
 refine bL rfl rfl rfl rfl rfl rfl (az (hK9 _ ?_))
 clear hK9;try clear K9
 refine aG fun K19 hK19=> ?_
 refine an (bh rfl (ai (aQ (h4)) (az (hK19 _ ?_))))
 clear hK19;try clear K19
 exact am (ai (aP _ aa rfl rfl rfl rfl) (bL rfl rfl rfl rfl rfl rfl (aj (aD (aY (.inr rfl) rfl (.cellA aa rfl rfl rfl) (Le.outI [] [] (.agg rfl lz) rfl rfl rfl trivial ob tr rfl))))))
theorem zI (hT:T.length≤100000) (lv i:Nat) (hl:lv≤20) (hi:i < T.length) (ht:(cY T i).t=oz) {x:Nd} {j1 j2:Nat} (h1:Spec Tryz.prog 226 (bc [.ptr (0,9) 0, .v (.int .i64 (lv:Int)), .v (.int .i64 1)] (dI T (bS T i) N)) (PO T N (x,j1))) (h2:Spec Tryz.prog 162 (bc [.ptr (0,9) 0, .v (bt [59])] (dI T j1 N)) (bj (.tup []) (dI T j2 N) [(0,9)] [(0,9)])):
  Spec Tryz.prog 202 (bc [.ptr (0,9) 0, .v (.int .i64 (lv:Int))] (dI T i N)) (PO T N (nd 9 0 [] [x],j2)):=by
 have hnx:=bV T i N hi
 have hn:dV T i=false:=fm (by rw [ht];rfl)
 rw [ht] at hnx
 refine Spec.ofNI Tryz.func202 rfl Tryz.ntmps202 rfl ?_
 refine am (ai (ax (4,0) aa rfl rfl) (aj (am (bh rfl (ai (bs aa _ _ ar (hnx) tr rfl ae (by simp)) ?_)))))
 refine ja rfl (aj (am (ai (ay _ aa rfl (by exact (rfl:_=some [_,_,_,_]))) ?_)))
 refine ai (ax (6,0) aa rfl rfl) (bL rfl rfl rfl rfl rfl rfl (aj (aq (am (bh rfl (ai (bs aa _ _ ar (dF T i N hi) tr rfl ae (by simp)) ?_))))))
 refine aj (aR rfl hn (aJ (aq (am (ai (aX _ _ aa rfl ag (by (simp <;> rfl)) ah rfl) ?_)))))
 refine dL rfl (ai (aM aa al (cC zl 9 rfl ab oz) rfl rfl) ?_)
 refine ai (cT (r:=false) _ rfl rfl) (aj (aR rfl rfl (aJ (am (bh rfl (ai (aQ (cp T i N hi hT)) ?_))))))
 refine aj (aG fun K9 hK9=> ?_)
 refine aq ?_
 refine aO (σ':=aB 145 [(0,_),(1,_),(4,_),(5,_),(6,_)] [((0,9),_),((4,0),_),((6,0),_)] [(0,9)] [(0,9)]) kp ?_
 refine an (dL rfl (aj (au (aq (am (ai (aT (r:=false) _ _ Tryz.underlying9 rfl rfl rfl) (cw rfl (aj (aR rfl rfl (an ?_))))))))))
 refine ai (aT (r:=false) _ _ Tryz.underlying9 rfl rfl rfl) (cw rfl (aj (aR rfl rfl (am (ai (aT (r:=false) _ _ Tryz.underlying9 rfl rfl rfl) (cw rfl (aj (aR rfl rfl (am (ai (aT (r:=false) _ _ Tryz.underlying9 rfl rfl rfl) ?_))))))))))
 refine cw rfl (aj (aR rfl rfl (am (ai (aT (r:=false) _ _ Tryz.underlying9 rfl rfl rfl) (cw rfl (aj (aR rfl rfl (am (ai (aT (r:=false) _ _ Tryz.underlying9 rfl rfl rfl) (cw rfl ?_))))))))))
 refine aj (aR rfl rfl (am (ai (aT (r:=true) _ _ Tryz.underlying9 rfl rfl rfl) (cw rfl (aj (bF rfl rfl ?_))))))
 refine aO (σ':=aB 145 [(0,_),(1,_),(4,_),(6,_)] [((0,9),_),((4,0),_),((6,0),_)] [(0,9)] [(0,9)]) kp ?_
 refine an (bh rfl (aS rfl (ai (aQ (h1)) (ai (aX _ _ aa rfl ag (by (simp <;> rfl)) ah rfl) ?_))))
 refine ai (ay _ aa rfl (by exact (rfl:_=some [_,_,_,_]))) ?_
 refine bL rfl rfl rfl rfl rfl rfl (az (hK9 _ ?_))
 clear hK9;try clear K9
 refine aG fun K18 hK18=> ?_
 refine an (bh rfl (ai (aQ (h2)) (az (hK18 _ ?_))))
 clear hK18;try clear K18
 exact am (ai (aP _ aa rfl rfl rfl rfl) (bL rfl rfl rfl rfl rfl rfl (aj (aD (aY (.inr rfl) rfl (.cellA aa rfl rfl rfl) (Le.outI [] [] (.agg rfl lz) rfl rfl rfl trivial ob tr rfl))))))
theorem An (hT:T.length≤100000) (lv i:Nat) (hl:lv≤20) (hi:i < T.length) (ht:(cY T i).t=nS) {j1:Nat} (h1:Spec Tryz.prog 162 (bc [.ptr (0,9) 0, .v (bt [59])] (dI T (bS T i) N)) (bj (.tup []) (dI T j1 N) [(0,9)] [(0,9)])):
  Spec Tryz.prog 202 (bc [.ptr (0,9) 0, .v (.int .i64 (lv:Int))] (dI T i N)) (PO T N (nd 7 0 [] [],j1)):=by
 have hnx:=bV T i N hi
 have hn:dV T i=false:=fm (by rw [ht];rfl)
 rw [ht] at hnx
 refine Spec.ofNI Tryz.func202 rfl Tryz.ntmps202 rfl ?_
 refine am (ai (ax (4,0) aa rfl rfl) (aj (am (bh rfl (ai (bs aa _ _ ar (hnx) tr rfl ae (by simp)) ?_)))))
 refine ja rfl (aj (am (ai (ay _ aa rfl (by exact (rfl:_=some [_,_,_,_]))) ?_)))
 refine ai (ax (6,0) aa rfl rfl) (bL rfl rfl rfl rfl rfl rfl (aj (aq (am (bh rfl (ai (bs aa _ _ ar (dF T i N hi) tr rfl ae (by simp)) ?_))))))
 refine aj (aR rfl hn (aJ (aq (am (ai (aX _ _ aa rfl ag (by (simp <;> rfl)) ah rfl) ?_)))))
 refine dL rfl (ai (aM aa al (cC zl 9 rfl ab nS) rfl rfl) ?_)
 refine ai (cT (r:=false) _ rfl rfl) (aj (aR rfl rfl (aJ (am (bh rfl (ai (aQ (cp T i N hi hT)) ?_))))))
 refine aj (aq (aq ?_))
 refine aO (σ':=aB 145 [(0,_),(1,_),(4,_),(5,_),(6,_)] [((0,9),_),((4,0),_),((6,0),_)] [(0,9)] [(0,9)]) kp ?_
 refine an (dL rfl (aj (au (aq (am (ai (aT (r:=false) _ _ Tryz.underlying9 rfl rfl rfl) (cw rfl (aj (aR rfl rfl (an ?_))))))))))
 refine ai (aT (r:=false) _ _ Tryz.underlying9 rfl rfl rfl) (cw rfl (aj (aR rfl rfl (am (ai (aT (r:=false) _ _ Tryz.underlying9 rfl rfl rfl) (cw rfl (aj (aR rfl rfl (am (ai (aT (r:=false) _ _ Tryz.underlying9 rfl rfl rfl) ?_))))))))))
 refine cw rfl (aj (aR rfl rfl (am (ai (aT (r:=false) _ _ Tryz.underlying9 rfl rfl rfl) (cw rfl (aj (aR rfl rfl (am (ai (aT (r:=false) _ _ Tryz.underlying9 rfl rfl rfl) (cw rfl ?_))))))))))
 refine aj (aR rfl rfl (am (ai (aT (r:=false) _ _ Tryz.underlying9 rfl rfl rfl) (cw rfl (aj (aR rfl rfl (aq ?_)))))))
 refine aO (σ':=aB 145 [(0,_),(4,_),(6,_),(45,_)] [((0,9),_),((4,0),_),((6,0),_)] [(0,9)] [(0,9)]) kp ?_
 refine an (ai (aT (r:=true) _ _ Tryz.underlying9 rfl rfl rfl) (cw rfl (aj (bF rfl rfl (an (bv rfl rfl rfl (bL rfl rfl rfl rfl rfl rfl (fP (aG fun K19 hK19=> ?_)))))))))
 refine an (bh rfl (ai (aQ (h1)) (az (hK19 _ ?_))))
 clear hK19;try clear K19
 exact am (ai (aP _ aa rfl rfl rfl rfl) (bL rfl rfl rfl rfl rfl rfl (aj (aD (aY (.inr rfl) rfl (.cellA aa rfl rfl rfl) (Le.outI [] [] (.agg rfl lz) rfl rfl rfl trivial ob tr rfl))))))
theorem AP (hT:T.length≤100000) (lv i:Nat) (hl:lv≤20) (hi:i < T.length) (ht:(cY T i).t=nJ) {j1:Nat} (h1:Spec Tryz.prog 162 (bc [.ptr (0,9) 0, .v (bt [59])] (dI T (bS T i) N)) (bj (.tup []) (dI T j1 N) [(0,9)] [(0,9)])):
  Spec Tryz.prog 202 (bc [.ptr (0,9) 0, .v (.int .i64 (lv:Int))] (dI T i N)) (PO T N (nd 10 0 [] [],j1)):=by
 have hnx:=bV T i N hi
 have hn:dV T i=false:=fm (by rw [ht];rfl)
 rw [ht] at hnx
 refine Spec.ofNI Tryz.func202 rfl Tryz.ntmps202 rfl ?_
 refine am (ai (ax (4,0) aa rfl rfl) (aj (am (bh rfl (ai (bs aa _ _ ar (hnx) tr rfl ae (by simp)) ?_)))))
 refine ja rfl (aj (am (ai (ay _ aa rfl (by exact (rfl:_=some [_,_,_,_]))) ?_)))
 refine ai (ax (6,0) aa rfl rfl) (bL rfl rfl rfl rfl rfl rfl (aj (aq (am (bh rfl (ai (bs aa _ _ ar (dF T i N hi) tr rfl ae (by simp)) ?_))))))
 refine aj (aR rfl hn (aJ (aq (am (ai (aX _ _ aa rfl ag (by (simp <;> rfl)) ah rfl) ?_)))))
 refine dL rfl (ai (aM aa al (cC zl 9 rfl ab nJ) rfl rfl) ?_)
 refine ai (cT (r:=false) _ rfl rfl) (aj (aR rfl rfl (aJ (am (bh rfl (ai (aQ (cp T i N hi hT)) ?_))))))
 refine aj (aq (aq ?_))
 refine aO (σ':=aB 145 [(0,_),(1,_),(4,_),(5,_),(6,_)] [((0,9),_),((4,0),_),((6,0),_)] [(0,9)] [(0,9)]) kp ?_
 refine an (dL rfl (aj (au (aq (am (ai (aT (r:=false) _ _ Tryz.underlying9 rfl rfl rfl) (cw rfl (aj (aR rfl rfl (an ?_))))))))))
 refine ai (aT (r:=false) _ _ Tryz.underlying9 rfl rfl rfl) (cw rfl (aj (aR rfl rfl (am (ai (aT (r:=false) _ _ Tryz.underlying9 rfl rfl rfl) (cw rfl (aj (aR rfl rfl (am (ai (aT (r:=false) _ _ Tryz.underlying9 rfl rfl rfl) ?_))))))))))
 refine cw rfl (aj (aR rfl rfl (am (ai (aT (r:=false) _ _ Tryz.underlying9 rfl rfl rfl) (cw rfl (aj (aR rfl rfl (am (ai (aT (r:=false) _ _ Tryz.underlying9 rfl rfl rfl) (cw rfl ?_))))))))))
 refine aj (aR rfl rfl (am (ai (aT (r:=false) _ _ Tryz.underlying9 rfl rfl rfl) (cw rfl (aj (aR rfl rfl (aq ?_)))))))
 refine aO (σ':=aB 145 [(0,_),(4,_),(6,_),(45,_)] [((0,9),_),((4,0),_),((6,0),_)] [(0,9)] [(0,9)]) kp ?_
 refine an (ai (aT (r:=false) _ _ Tryz.underlying9 rfl rfl rfl) (cw rfl (aj (aR rfl rfl (an (bv rfl rfl rfl (bL rfl rfl rfl rfl rfl rfl (fP (aG fun K19 hK19=> ?_)))))))))
 refine an (bh rfl (ai (aQ (h1)) (az (hK19 _ ?_))))
 clear hK19;try clear K19
 exact am (ai (aP _ aa rfl rfl rfl rfl) (bL rfl rfl rfl rfl rfl rfl (aj (aD (aY (.inr rfl) rfl (.cellA aa rfl rfl rfl) (Le.outI [] [] (.agg rfl lz) rfl rfl rfl trivial ob tr rfl))))))
end

def kG (l:List Nd):List PV:=l.flatMap Nd.row
theorem bJ (l:List Nd):(kG l).length=l.length*4:=mu Nd.row 4 (fun _=> rfl) l
theorem sc (l:List Nd) (d:Nd):kG l++d.row=kG (l++[d]):=mb Nd.row l d
theorem nU {T:List Tk} {g lv i:Nat} {r:List Nd×Nat} (h:mh T g lv i=some r): ∃ f,g=f+1∧((cY T i).t=[125]∧r=([],i)∨(cY T i).t≠[125]∧ ∃ d j l k,vL T f lv i=some (d,j)∧mh T f lv j=some (l,k)∧r=(d::l,k)):=by
 cases g with
 | zero=> simp [mh] at h
 | succ f=>
  refine ⟨f,rfl,?_⟩
  unfold mh at h
  split at h
  ·rename_i ht;exact .inl ⟨ht,(Option.some.inj h).symm⟩
  ·rename_i ht
   simp only [Option.bind_eq_bind,Option.bind_eq_some_iff,Option.pure_def] at h
   obtain ⟨⟨d,j⟩,hd,⟨l,k⟩,hl,h⟩:=h
   exact .inr ⟨ht,d,j,l,k,hd,hl,(Option.some.inj h).symm⟩
section
variable {T:List Tk} {N:List Tx}
theorem wD (hT:T.length≤100000) (f:Nat) (hf:f≤2000000) (ih: ∀ g,g≤f→PS T N g) (lv i:Nat) (r:Nd×Nat) (hl:lv≤21) (hi:i < T.length) (h:oT T (f+1) lv i=some r):
  r.2 < T.length∧Spec Tryz.prog 164 (bc [.ptr (0,9) 0, .v (.int .i64 (lv:Int))] (dI T i N)) (PO T N r):=by
 unfold oT at h
 simp only [Option.bind_eq_bind,Option.bind_eq_some_iff,Option.pure_def,Option.some.injEq] at h
 obtain ⟨j,hj,⟨L,j2⟩,hL,j3,hj3,rfl⟩:=h
 have ho:=jj hj
 have hjl:=ik ho.2 hi
 have hl':=ho.1
 have hopen:=mA T i j N [123] lv hi hT hj
 simp only at hj3 ⊢
 have hend: ∀ (g i:Nat) (r:List Nd×Nat),g≤f→i < T.length→mh T g lv i=some r→r.2 < T.length:=by
  intro g
  induction g with
  | zero=> intro i r _ _ h;simp [mh] at h
  | succ g ihg=>
   intro i r hg hi h
   obtain ⟨g',hg',h | ⟨_,d,j,l,k,hd,hm,h⟩⟩:=nU h
   ·rw [h.2];exact hi
   ·obtain rfl:g=g':=by omega
    rw [h]
    exact ihg j (l,k) ab ((ih g ab).stm _ _ _ hl' hi hd).1 hm
 have hj2:=hend f j _ (Nat.le_refl _) hjl hL
 refine ⟨ik hj3 hj2,?_⟩
 refine Spec.ofNI Tryz.func164 rfl Tryz.ntmps164 rfl ?_
 refine am (ai (ax (4,0) aa rfl rfl) (aj (am (ai (ay _ aa rfl (by exact (rfl:_=some [_,_,_,_]))) ?_))))
 refine ai (ax (5,0) aa rfl rfl) (bL rfl rfl rfl rfl rfl rfl (aj (aq ?_)))
 refine aO (Le.nilB (5,0) 3 (60,0) 71 4 rfl rfl rfl) ?_
 refine an (bh rfl (aS rfl (ai (aQ (hopen)) (aj (aG fun K4 hK4=> ?_)))))
 refine au ?_
 refine bB (α:=Nat×List Nd×Nat) (fun z=> z.1≤f∧z.2.1.length+z.1=f∧z.2.2 < T.length∧ ∃ l,mh T z.1 lv z.2.2=some (l,j2)∧L=z.2.1++l) 31 [(0,_),(1,_),(4,_),(5,_)] [((4,0),_)] (fun z=> []) (fun z=> [((0,9), .box 222 [.sl T.length (qF T), .v (.int .i64 (z.2.2:Int)), .v (.int .i64 0), .v (.int .i64 0), .sl N.length (dT N)]),((5,0), .box 71 [.v (.int .i64 11), .v (.int .i64 0), .v (bt []), .ref (60,0) 0 z.2.1.length]),((60,0), .row 71 4 (kG z.2.1))]) [(0,9)] [(0,9)] (fun z=> z.1) (f,[],j) ?_ (by
  refine Le.mkJ [] [] rfl ?_ ?_ trivial tr ?_
  ·exact ⟨(iP rfl),(iV rfl),(iP rfl),(iP rfl),trivial⟩
  ·exact ⟨(cI rfl rfl rfl),(fg rfl rfl rfl rfl lz),(fg rfl rfl rfl rfl (kX (kX (aC (by repeat' (exact Lv.v)) lz)))),(fJ rfl rfl rfl ag),trivial⟩
  ·kernel_rfl) ?_
 ·exact ⟨Nat.le_refl _,Nat.zero_add _,hjl,L,hL,rfl⟩
 intro z hz
 obtain ⟨z1,z2,z3⟩:=z
 obtain ⟨hz1,hz2,hz3,l,hz4,hz5⟩:=hz
 obtain ⟨g,rfl,hm⟩:=nU hz4
 simp only at hz1 hz2 hz3 hz5 hm ⊢
 refine aG fun K5 hK5=> ?_
 refine am (bh rfl (ai (aN _ rfl rfl) (bv rfl rfl rfl (cG rfl rfl rfl (iY rfl rfl rfl (cP rfl (aA rfl rfl (aE _ (rfl:_=AV.ptr _ _)) (aA rfl rfl (bs aa _ _ ar (bV T z3 N hz3) tr rfl ae (by simp)) ?_))))))))
 refine aA rfl rfl (qp _ _ Tryz.underlying9 rfl rfl rfl) (ai (aH _ _ _ rfl (rfl:_=AV.v (.bool _))) (aj (aV rfl (fun hc19=> ?_) (fun hc19=> ?_))))
 ·skip
  obtain ⟨_,d,jd,l',k',hd,hm',hr⟩:=hm.resolve_left fun x=> hc19 x.1
  obtain ⟨rfl,rfl⟩:=Prod.mk.inj hr
  obtain ⟨hda,hdb⟩:=(ih g ab).stm _ _ _ hl' hz3 hd
  have hlen:(z2++[d]).length=z2.length+1:=by simp
  refine bz (hK5 _ ?_)
  clear hK5;try clear K5
  refine au ?_
  refine aO (σ':=aB 31 [(0,_),(1,_),(4,_),(5,_)] [((4,0),_),((0,9),_),((5,0),_),((60,0),_)] [(0,9)] [(0,9)]) kp ?_
  refine bE 6 [20,21,22,23,24,25] [(0,9)] ae ae rfl (aK rfl) (rfl:_=[_,_,_,_,_,_]) (rfl:_=[_,_,_]) ?_
  refine ap (_,[]) (fun τ=> aI _ aa rfl rfl rfl) ?_
  refine eE rfl ?_
  refine ap (_,[]) (fun τ=> aL _ aa rfl rfl (rfl:_=some (AV.ref _ _ _))) ?_
  refine eF rfl ?_
  refine ap (_,[]) (fun τ=> aE _ (rfl:_=AV.ptr _ _)) ?_
  refine eD rfl ?_
  refine ap (_,[]) (fun τ=> aE _ (rfl:_=AV.v (.int _ _))) ?_
  refine eI rfl ?_
  refine ap (_,[((0,9),_)]) (fun τ=> (cr aa ar (hdb) ob rfl rfl ae)) ?_
  refine eU rfl ?_
  refine ap (_,[]) (fun τ=> aX _ _ aa rfl ag (by (simp <;> rfl)) ah rfl) ?_
  refine fh rfl (bi ⟨rfl,?_⟩)
  refine ai (dt (26,0) _ _ aa rfl rfl (bJ _).symm (.sl rfl) ab rfl (sc _ d) hlen.symm) ?_
  refine bv rfl rfl rfl (bL rfl rfl rfl rfl rfl rfl (az (⟨(g,z2++[d],jd),?_,?_,?_⟩)))
  ·exact ⟨by simp only;omega,by simp only;omega,hda,l',hm',by rw [hz5];simp⟩
  ·skip
   refine Le.mkJ [((60,0),(26,0))] [] rfl ?_ ?_ trivial tr ?_
   ·exact ⟨(dD (id:=(0,9)) rfl),(by repeat' (exact Lv.v)),(dD (id:=(4,0)) rfl),(dD (id:=(5,0)) rfl),trivial⟩
   ·exact ⟨(fg rfl rfl rfl rfl (by repeat' (first | exact Lv.v | exact bn | refine aC ?_ ?_))),(fg rfl rfl rfl rfl lz),(fg rfl rfl rfl rfl (kX (kX (aC (by repeat' (exact Lv.v)) lz)))),(fJ rfl rfl rfl ag),trivial⟩
   ·kernel_rfl
  ·simp only;omega
 ·skip
  obtain ⟨_,hr⟩:=hm.resolve_right fun x=> x.1 hc19
  obtain ⟨rfl,rfl⟩:=Prod.mk.inj hr
  rw [List.append_nil] at hz5
  subst hz5
  have hexp:=eX T j2 j3 N [125] hj2 hT hj3
  refine bK (id (hK4 _ ?_))
  clear hK4;try clear K4
  exact am (bh rfl (ai (aQ (hexp)) (aj (am (ai (aP _ aa rfl rfl rfl rfl) (bL rfl rfl rfl rfl rfl rfl (aj (aD (aY (.inr rfl) rfl (.cellA aa rfl rfl rfl) (Le.outI [] [(60,0)] (.agg rfl (aC .v (aC .v (aC .v (aC (gQ rfl rfl (bJ _).symm rfl) bn))))) rfl rfl rfl tr ob tr rfl))))))))))
theorem pW {T:List Tk} {most i:Nat} {r:Nat×Nat} (h:na T most i=some r) (hi:i < T.length):r.2 < T.length:=by
 unfold na at h
 split at h
 ·rw [← Option.some.inj h];exact dM hi
 ·cases h
theorem wQ (hT:T.length≤100000) (f:Nat) (ih:PS T N f) (lv i:Nat) (r:Nd×Nat) (hl:lv≤20) (hi:i < T.length) (h:vL T (f+1) lv i=some r):
  r.2 < T.length∧Spec Tryz.prog 202 (bc [.ptr (0,9) 0, .v (.int .i64 (lv:Int))] (dI T i N)) (PO T N r):=by
 have htl:=dM hi
 have hx:=fun {i:Nat} {r:Nd×Nat} (hi:i < T.length) (h:fT T f lv 1 i=some r)=> vf (N:=N) hT hl hi h
 have hb:=fun {i:Nat} {r:Nd×Nat} (hi:i < T.length) (h:oT T f (lv+1) i=some r)=> ih.blk (lv+1) i r ab hi h
 have he:=fun {i j:Nat} {s:Tx} (hi:i < T.length) (h:fR T s i=some j)=> And.intro (ik h hi) (eX T i j N s hi hT h)
 have hn:=fun {i most:Nat} {r:Nat×Nat} (hm:most≤1000) (hi:i < T.length) (h:na T most i=some r)=> And.intro (pW h hi) (jY T i N most hi hT hm r h)
 unfold vL at h
 simp only at h
 by_cases h0:dV T i=true
 ·rw [if_pos h0] at h
  simp only [Option.bind_eq_bind,Option.bind_eq_some_iff,Option.pure_def,Option.some.injEq] at h
  obtain ⟨j1,e1,⟨d,j2⟩,e2,j3,e3,rfl⟩:=h
  obtain ⟨a1,b1⟩:=he htl e1
  obtain ⟨a2,b2⟩:=hx a1 e2
  obtain ⟨a3,b3⟩:=he a2 e3
  exact ⟨a3,vH hT lv i hl hi h0 b1 b2 b3⟩
 rw [if_neg h0] at h
 by_cases h1:(cY T i).t=tb∨(cY T i).t=jk
 ·rw [if_pos h1] at h
  simp only [Option.bind_eq_bind,Option.bind_eq_some_iff,Option.pure_def] at h
  obtain ⟨⟨c,j1⟩,e1,⟨x,j2⟩,e2,h⟩:=h
  obtain ⟨a1,b1⟩:=hx htl e1
  obtain ⟨a2,b2⟩:=hb a1 e2
  simp only at h
  by_cases hw:(cY T i).t=jk
  ·rw [if_pos hw] at h
   obtain rfl:=Option.some.inj h
   exact ⟨a2,zf hT lv i hl hi hw b1 b2⟩
  ·rw [if_neg hw] at h
   have hf:=h1.resolve_right hw
   by_cases hel:(cY T j2).t=qj
   ·rw [if_pos hel] at h
    simp only [Option.bind_eq_some_iff,Option.some.injEq] at h
    obtain ⟨⟨y,j3⟩,e3,rfl⟩:=h
    obtain ⟨a3,b3⟩:=hb (dM a2) e3
    exact ⟨a3,vj hT lv i hl hi hf b1 b2 a2 hel b3⟩
   ·rw [if_neg hel] at h
    obtain rfl:=Option.some.inj h
    exact ⟨a2,FW hT lv i hl hi hf b1 b2 a2 hel⟩
 rw [if_neg h1] at h
 by_cases h2:(cY T i).t=oe
 ·rw [if_pos h2] at h
  simp only [Option.bind_eq_bind,Option.bind_eq_some_iff,Option.pure_def,Option.some.injEq] at h
  obtain ⟨⟨x,j1⟩,e1,j2,e2,⟨k,j3⟩,e3,j4,e4,⟨y,j5⟩,e5,j6,e6,⟨z,j7⟩,e7,j8,e8,rfl⟩:=h
  obtain ⟨a1,b1⟩:=hx htl e1
  obtain ⟨a2,b2⟩:=he a1 e2
  obtain ⟨a3,b3⟩:=hn ab a2 e3
  obtain ⟨a4,b4⟩:=he a3 e4
  obtain ⟨a5,b5⟩:=hx a4 e5
  obtain ⟨a6,b6⟩:=he a5 e6
  obtain ⟨a7,b7⟩:=hx a6 e7
  obtain ⟨a8,b8⟩:=he a7 e8
  exact ⟨a8,zG hT lv i hl hi h2 b1 b2 b3 b4 b5 b6 b7 b8⟩
 rw [if_neg h2] at h
 by_cases h3:(cY T i).t=gp
 ·rw [if_pos h3] at h
  simp only [Option.bind_eq_bind,Option.bind_eq_some_iff,Option.pure_def,Option.some.injEq] at h
  obtain ⟨⟨k,j1⟩,e1,j2,e2,rfl⟩:=h
  obtain ⟨a1,b1⟩:=hn ab htl e1
  obtain ⟨a2,b2⟩:=he a1 e2
  exact ⟨a2,xB hT lv i hl hi h3 b1 b2⟩
 rw [if_neg h3] at h
 by_cases h4:(cY T i).t=jS
 ·rw [if_pos h4] at h
  simp only [Option.bind_eq_bind,Option.bind_eq_some_iff,Option.pure_def,Option.some.injEq] at h
  obtain ⟨⟨k,j1⟩,e1,j2,e2,rfl⟩:=h
  obtain ⟨a1,b1⟩:=hn ab htl e1
  obtain ⟨a2,b2⟩:=he a1 e2
  exact ⟨a2,vQ hT lv i hl hi h4 b1 b2⟩
 rw [if_neg h4] at h
 by_cases h5:(cY T i).t=ml
 ·rw [if_pos h5] at h
  simp only [Option.bind_eq_bind,Option.bind_eq_some_iff,Option.pure_def,Option.some.injEq] at h
  obtain ⟨⟨x,j1⟩,e1,j2,e2,⟨y,j3⟩,e3,j4,e4,rfl⟩:=h
  obtain ⟨a1,b1⟩:=hx htl e1
  obtain ⟨a2,b2⟩:=he a1 e2
  obtain ⟨a3,b3⟩:=hx a2 e3
  obtain ⟨a4,b4⟩:=he a3 e4
  exact ⟨a4,yo hT lv i hl hi h5 b1 b2 b3 b4⟩
 rw [if_neg h5] at h
 by_cases h6:(cY T i).t=oz
 ·rw [if_pos h6] at h
  simp only [Option.bind_eq_bind,Option.bind_eq_some_iff,Option.pure_def,Option.some.injEq] at h
  obtain ⟨⟨x,j1⟩,e1,j2,e2,rfl⟩:=h
  obtain ⟨a1,b1⟩:=hx htl e1
  obtain ⟨a2,b2⟩:=he a1 e2
  exact ⟨a2,zI hT lv i hl hi h6 b1 b2⟩
 rw [if_neg h6] at h
 by_cases h7:(cY T i).t=nS
 ·rw [if_pos h7] at h
  simp only [Option.bind_eq_bind,Option.bind_eq_some_iff,Option.pure_def,Option.some.injEq] at h
  obtain ⟨j1,e1,rfl⟩:=h
  obtain ⟨a1,b1⟩:=he htl e1
  exact ⟨a1,An hT lv i hl hi h7 b1⟩
 rw [if_neg h7] at h
 by_cases h8:(cY T i).t=nJ
 ·rw [if_pos h8] at h
  simp only [Option.bind_eq_bind,Option.bind_eq_some_iff,Option.pure_def,Option.some.injEq] at h
  obtain ⟨j1,e1,rfl⟩:=h
  obtain ⟨a1,b1⟩:=he htl e1
  exact ⟨a1,AP hT lv i hl hi h8 b1⟩
 rw [if_neg h8] at h
 cases h
theorem Da (hT:T.length≤100000): ∀ f,f≤2000000→ ∀ g,g≤f→PS T N g:=by
 intro f
 induction f with
 | zero=>
  intro _ g hg
  obtain rfl:g=0:=by omega
  exact ⟨fun _ _ _ _ _ h=> by simp [vL] at h,fun _ _ _ _ _ h=> by simp [oT] at h⟩
 | succ f ih=>
  intro hf g hg
  rcases Nat.lt_or_ge g (f+1) with h | h
  ·exact ih ab g ab
  ·obtain rfl:g=f+1:=by omega
   exact ⟨wQ hT f (ih ab f (Nat.le_refl _)),wD hT f ab (ih ab)⟩
theorem tk (hT:T.length≤100000) {f i:Nat} {r:Nd×Nat} (hf:f≤2000000) (hi:i < T.length) (h:oT T f 1 i=some r):r.2 < T.length∧Spec Tryz.prog 164 (bc [.ptr (0,9) 0, .v (.int .i64 1)] (dI T i N)) (PO T N r):=
 (Da hT f hf f (Nat.le_refl _)).blk 1 i r ab hi h
end

class MthV (P:Program) (t:TypeId) (name:String) (f e:outParam TypeId):Prop where
  out: ∀ (ad:Addr) (w:World),(method (P.types.size+Made.depth) t (.pointer (some ad)) name).run P w=((loadVar e ad).run P w).andThen fun v w'=> .ok (f,v) w'
theorem rU {P:Program} {t:TypeId} {ad:Addr} {nm:String} {w:World}:(Builtin.ssaWrapNilChk_ #[t] t #[.pointer (some ad),strVal "",strVal nm]).run P w= .ok (.pointer (some ad)) w:=rfl
theorem wZ {P:Program} {n:Nat} {t e f:TypeId} {name:String} {i:TypeInfo} {m:Method} {ad:Addr} {w:World} (hi:P.info? t=some i) (hfind:i.methods.find? (·.name==name)=some m) (hpath:m.path= #[]) (hfunc:m.func=some (f,false))
    (hu:P.underlying t=some (.pointer e)):(method (n+1) t (.pointer (some ad)) name).run P w=((loadVar e ad).run P w).andThen fun v w'=> .ok (f,v) w':=by
  have h1:(typeInfo t).run P w= .ok i w:=by simp [typeInfo,Sem.run,hi]
  have h2:(underlying t).run P w= .ok (.pointer e) w:=by simp [underlying,Sem.run,hu]
  simp only [method,Sem.run_bind,h1,Result.andThen_ok,hfind,hpath,hfunc,follow,Sem.run_pure,receiverAt,h2,Place.get]
  simp only [Array.isEmpty_empty,if_true,Sem.run_bind,rU,Result.andThen_ok,asAddr,Sem.run_pure]
def BT (P:Program) (t:TypeId) (name:String):Option (TypeId×TypeId):=
  match P.info? t with
  | some i=> match i.methods.find? (·.name==name) with
    | some m=> match m.path.isEmpty,m.func,P.underlying t with
      | true,some (f,false),some (.pointer e)=> some (f,e)
      | _,_,_=> none
    | none=> none
  | none=> none
theorem MthV.of {P:Program} {t e f:TypeId} {name:String} (h:BT P t name=some (f,e)):MthV P t name f e:=by
  refine ⟨fun ad w=> ?_⟩
  obtain ⟨n,hn⟩: ∃ n,P.types.size+Made.depth=n+1:=⟨_,rfl⟩
  rw [hn]
  unfold BT at h
  split at h
  · rename_i i hi
    split at h
    · rename_i m hm
      split at h
      · rename_i f' e' hp hf hu
        cases h
        exact wZ hi hm (by simpa using hp) hf hu
      · cases h
    · cases h
  · cases h
section
variable {P:Program} {σ:St} {o:Oper} {t:TypeId} {name:String} {f:FuncId} {x:Operand} {xs:Array Operand} {ats:Array TypeId}
end
section
variable {P:Program} {σ:St} {dd:Option Tmp} {op:Op} {ty:TypeId} {f:FuncId} {avs:List AV}
end
theorem Le.incT {σ:St} (id:aF) (h:σ.ob id= .free):Le (σ.setInc id true) σ:=by
  intro K ι S a w R
  refine ⟨ι,S,R.keeps,R.S0,R.Slt,R.nt,R.df,R.fr,R.cl,R.clo,R.ob,R.dom,R.inj,fun i B g h1 h2=> ?_,R.pin,R.pf⟩
  obtain ⟨h3,h4,h5⟩:=R.sep i B g h1 h2
  refine ⟨h3,h4,fun h6=> h5 ?_⟩
  have h7:(bif gv i id then true else σ.inc i)=false:=h6
  cases hb:gv i id with
  | true=> rw [hb] at h7;cases h7
  | false=> rw [hb] at h7;exact h7
theorem nF {P:Program} {σ:St} {z:List Value} {T e:TypeId} {size bytes:Nat} {dd:Option Tmp} {ty:TypeId} (id':aF) (s x:Operand) (E:Elem P T e size bytes z) {id:aF} {n:Nat} {xs:List PV} (hs:σ.eval s= .ref id 0 n) (hid:σ.ob id= .obj (.row e size xs)) (hl:n*size=xs.length) {m:Nat} {news:List PV} (hx:SrcAV σ (σ.eval x) size m news) (hb:(n+m)*bytes≤140737488355328) (hid':σ.ob id'= .free)
    {b:Bool} (hi:σ.inc id=b) (hi':σ.inc id'=b) {ys:List PV} (hy:xs++news=ys) {k:Nat} (hk:n+m=k):Stp P dd (.call { callee:= .builtin .append,args:= #[s,x],argTypes:= #[T,T] }) ty σ (((σ.setOb id .gone).setOb id' (.obj (.row e size ys))).put dd (.ref id' 0 k)):=by
  have h:=dt (P:=P) (dd:=dd) (ty:=ty) id' s x E hs hid hl hx hb hid' hy hk
  rwa [hi,St.setInc_same (by exact hi')] at h

theorem la {T:List Tk} {f:Nat} {seen:List Tx} {i:Nat} {r:List Tx×Nat} (h:fX T f seen i=some r): ∃ g,f=g+1∧dV T i=true∧(cY T i).t∉seen∧seen.length < 16∧
  ((cY T (bS T i)).t=[44]∧(∃ l j,fX T g (seen++[(cY T i).t]) (bS T (bS T i))=some (l,j)∧r=((cY T i).t::l,j))∨(cY T (bS T i)).t≠[44]∧ ∃ j,fR T [59] (bS T i)=some j∧r=([(cY T i).t],j)):=by
 cases f with
 | zero=> simp [fX] at h
 | succ g=>
  refine ⟨g,rfl,?_⟩
  unfold fX at h
  split at h
  ·cases h
  ·rename_i hn
   refine ⟨?_,fun hm=> hn (.inr (.inl hm)),Nat.lt_of_not_le fun hl=> hn (.inr (.inr hl)),?_⟩
   ·cases hb:dV T i with
    | true=> rfl
    | false=> exact absurd (.inl hb) hn
   ·split at h
    ·rename_i ht
     simp only [Option.bind_eq_bind,Option.bind_eq_some_iff,Option.pure_def] at h
     obtain ⟨⟨l,j⟩,hl,h⟩:=h
     exact .inl ⟨ht,l,j,hl,(Option.some.inj h).symm⟩
    ·rename_i ht
     simp only [Option.bind_eq_bind,Option.bind_eq_some_iff,Option.pure_def] at h
     obtain ⟨j,hj,h⟩:=h
     exact .inr ⟨ht,j,hj,(Option.some.inj h).symm⟩
section
variable {T:List Tk}
theorem pw (hT:T.length≤100000) (f:Nat) (N:List Tx) (i0:Nat) (hi:i0 < T.length) (r:List Tx×Nat) (h:fX T f N (bS T i0)=some r):
  r.2 < T.length∧N.length+r.1.length≤16∧Spec Tryz.prog 161 (bc [.ptr (0,9) 0] (BA T i0 N))
   (bj (.sl r.1.length (dT r.1)) [((0,9), .box 222 [.sl T.length (qF T), .v (.int .i64 (r.2:Int)), .v (.int .i64 0), .v (.int .i64 0), .ref (1,8) 0 (N++r.1).length]),((1,8), .row 9 1 (dT (N++r.1)))] [(0,9),(1,8)] [(0,9)]):=by
 have htl:=dM hi
 have hend: ∀ (g:Nat) (seen:List Tx) (i:Nat) (r:List Tx×Nat),i < T.length→fX T g seen i=some r→r.2 < T.length∧seen.length+r.1.length≤16:=by
  intro g
  induction g with
  | zero=> intro seen i r _ h;simp [fX] at h
  | succ g ihg=>
   intro seen i r hi h
   obtain ⟨g',hg',_,_,hs,⟨_,l,j,hl,rfl⟩ | ⟨_,j,hj,rfl⟩⟩:=la h
   ·obtain rfl:g=g':=by omega
    obtain ⟨h1,h2⟩:=ihg _ _ _ (dM (dM hi)) hl
    simp only [List.length_append,List.length_cons,List.length_nil] at h2 ⊢
    exact ⟨h1,by omega⟩
   ·exact ⟨ik hj (dM hi),by simp;omega⟩
 obtain ⟨ha,hb⟩:=hend f N _ r htl h
 refine ⟨ha,by omega,?_⟩
 have hNl:N.length < 16:=by obtain ⟨_,_,_,_,hs,_⟩:=la h;exact hs
 refine Spec.ofNI Tryz.func161 rfl Tryz.ntmps161 rfl ?_
 refine am (ai (bA _ (rfl:_=AV.v (.slice _ _ _))) (aj (am (ai (oD (3,0) _ 9 1 rfl rfl) ?_))))
 refine aj (am (bh rfl (ai (dg aa [] ar (jf T i0 N hi hT) ob tr ae) ?_)))
 refine aj (aG fun K4 hK4=> ?_)
 refine au ?_
 refine bB (α:=Nat×List Tx×Nat) (fun z=> (N++z.2.1).length≤16∧z.2.1.length≤16∧z.2.2 < T.length∧ ∃ l,fX T z.1 (N++z.2.1) z.2.2=some (l,r.2)∧r.1=z.2.1++l) 76 [(0,_)] [] (fun z=> [(3, .ref (3,0) 0 z.2.1.length)]) (fun z=> [((0,9), .box 222 [.sl T.length (qF T), .v (.int .i64 (z.2.2:Int)), .v (.int .i64 0), .v (.int .i64 0), .ref (1,9) 0 (N++z.2.1).length]),((1,9), .row 9 1 (dT (N++z.2.1))),((3,0), .row 9 1 (dT z.2.1))]) [(0,9),(1,9)] [(0,9)] (fun z=> z.1) (f,[],bS T i0) ?_ (by
  refine Le.mkJ [] [] rfl ?_ ?_ trivial tr ?_
  ·exact ⟨(iP rfl),(cX rfl ag),trivial⟩
  ·exact ⟨(fg rfl rfl rfl rfl (aC (gP ag ag) (kX (kX (kX (aC (cX rfl (by (simp only [List.append_nil]))) bn)))))),(fJ rfl rfl rfl (by (simp only [List.append_nil]))),(fJ rfl rfl rfl ag),trivial⟩
  ·kernel_rfl) ?_
 ·exact ⟨by simp;omega,Nat.zero_le _,htl,r.1,by rw [List.append_nil];exact h,rfl⟩
 intro z hz
 obtain ⟨z1,z2,z3⟩:=z
 obtain ⟨hz1,hz2,hz3,l,hz4,hz5⟩:=hz
 obtain ⟨g,rfl,hn,hs,hsl,hm⟩:=la hz4
 simp only at hz1 hz2 hz3 hz5 hn hs hsl hm ⊢
 have htz:=dM hz3
 have hl1:(z2++[(cY T z3).t]).length=z2.length+1:=by simp
 have hl2:(N++(z2++[(cY T z3).t])).length=(N++z2).length+1:=by simp;omega
 have ha2:dT (N++z2)++[PV.v (bt (cY T z3).t)]=dT (N++(z2++[(cY T z3).t])):=by rw [lP,List.append_assoc]
 refine aq (am (bh rfl (ai (aN _ rfl rfl) (bv rfl rfl rfl (cG rfl rfl rfl (iY rfl rfl rfl (aj (bF rfl rfl (aJ (au ?_))))))))))
 refine aq (am (bh rfl (ai (bs aa _ _ ar (tg T z3 (N++z2) hz3) tr rfl ae (by simp)) ?_)))
 refine ai (cT (r:=false) _ rfl (by rw [hn];rfl)) ?_
 refine aj (aR rfl rfl (aq ?_))
 refine aO (σ':=aB 76 [(0,_),(3,_)] [((0,9),_),((1,9),_),((3,0),_)] [(0,9),(1,9)] [(0,9)]) kp ?_
 refine bE 7 [20,21,22,23,24,25,26] [] ae ae rfl (aK rfl) (rfl:_=[_,_,_,_,_,_,_]) (rfl:_=[]) ?_
 refine ap (_,[]) (fun τ=> aE _ (rfl:_=AV.ptr _ _)) ?_
 refine eE rfl ?_
 refine ap (_,[]) (fun τ=> aN _ rfl rfl) ?_
 refine eF rfl ?_
 refine ap (_,[]) (fun τ=> aI _ aa rfl rfl rfl) ?_
 refine eD rfl ?_
 refine ap (_,[]) (fun τ=> aL _ aa rfl rfl (rfl:_=some (AV.ref _ _ _))) ?_
 refine eI rfl ?_
 refine ap (_,[]) (fun τ=> aE _ (rfl:_=AV.ptr _ _)) ?_
 refine eU rfl ?_
 refine ap (_,[]) (fun τ=> (bs aa _ _ ar (el T z3 (N++z2) hz3) tr rfl ae (by simp))) ?_
 refine fh rfl ?_
 refine ap (_,[]) (fun τ=> (uV aa aw (cC (N++z2) _ rfl ab (cY T z3).t) rfl)) ?_
 refine fZ rfl (bi ⟨rfl,?_⟩)
 refine aj (aR rfl (decide_eq_false hs) ?_)
 refine am (bh rfl (ai (aN _ rfl rfl) (bv rfl rfl rfl (ai (aL _ aa rfl rfl (rfl:_=some (AV.ref _ _ _))) (ai (dv _ aa rfl rfl) (ai (fc _ _ rfl rfl rfl) (aj (aR rfl (decide_eq_false ab) ?_))))))))
 refine aJ (aq (am (bh rfl (ai (aN _ rfl rfl) (bv rfl rfl rfl (cG rfl rfl rfl (ai (cb (r:=false) _ _ rfl rfl rfl) (aj (aR rfl rfl (aJ ?_))))))))))
 refine aq ?_
 refine aO (σ':=aB 76 [(0,_),(3,_)] [((0,9),_),((1,9),_),((3,0),_)] [(0,9),(1,9)] [(0,9)]) kp ?_
 refine an (gD rfl (bh rfl (ai (bs aa _ _ ar (el T z3 (N++z2) hz3) tr rfl ae (by simp)) ?_)))
 refine ai (aX _ _ aa rfl ag (by (simp <;> rfl)) ah rfl) ?_
 refine ai (dt (54,0) _ _ aa rfl rfl (by simp) (.sl rfl) ab rfl (lP _ _) hl1.symm) ?_
 refine fb rfl (aj (aq ?_))
 refine aO (σ':=aB 76 [(0,_),(3,_)] [((0,9),_),((1,9),_),((54,0),_)] [(0,9),(1,9)] [(0,9)]) kp ?_
 refine aO (Le.incT (63,0) rfl) ?_
 refine yH 9 [55,56,57,58,59,60,61,62,63] [(1,9),(63,0)] [[],[],[],[(1,9)],[(1,9)],[(1,9)],[(1,9)],[(1,9)],[]] ae ae rfl (aK rfl) (rfl:_=[_,_,_,_,_,_,_,_,_]) (rfl:_=[_,_,_]) ?_
 refine ap (_,[]) (fun τ=> aE _ (rfl:_=AV.ptr _ _)) ?_
 refine eE rfl ?_
 refine ap (_,[]) (fun τ=> aE _ (rfl:_=AV.ptr _ _)) ?_
 refine eF rfl ?_
 refine ap (_,[]) (fun τ=> aN _ rfl rfl) ?_
 refine eD rfl ?_
 refine ap (_,[]) (fun τ=> aI _ aa rfl rfl rfl) ?_
 refine eI rfl ?_
 refine ap (_,[]) (fun τ=> aL _ aa rfl rfl (rfl:_=some (AV.ref _ _ _))) ?_
 refine eU rfl ?_
 refine ap (_,[]) (fun τ=> aE _ (rfl:_=AV.ptr _ _)) ?_
 refine fh rfl ?_
 refine ap (_,[]) (fun τ=> (bs aa _ _ ar (el T z3 (N++z2) hz3) tr rfl ae (by simp))) ?_
 refine fZ rfl ?_
 refine ap (_,[]) (fun τ=> aX _ _ aa rfl ag (by (simp <;> rfl)) ah rfl) ?_
 refine jz rfl ?_
 refine ap (_,[((1,9), .gone),((63,0),_)]) (fun τ=> nF (b:=true) (63,0) _ _ aa rfl (tJ rfl (by exact rI) rfl) (by simp) (.sl rfl) ab rfl rfl rfl ha2 hl2.symm) ?_
 refine jC rfl (bi ⟨⟨rfl,by kernel_rfl⟩,?_⟩)
 refine ai (aN _ rfl rfl) (bv rfl rfl rfl (bL rfl rfl rfl rfl rfl rfl (aj (aG fun K15 hK15=> ?_))))
 refine aO (σ':=aB 76 [(0,_),(3,_)] [((0,9), .box _ [_,_,_,_, .ref (1,9) _ _]),((54,0),_),((1,9),_)] [(0,9),(1,9)] [(0,9)]) (by
  refine Le.mkJ [((1,9),(63,0))] [] rfl ?_ ?_ trivial tr ?_
  ·exact ⟨(Ee [(0,9),(54,0)] rfl (rfl:_=AV.ptr _ _) rfl),(Ee [(0,9),(54,0)] rfl (rfl:_=AV.ref _ _ _) rfl),trivial⟩
  ·exact ⟨(fg rfl rfl rfl rfl (aC (by exact Ee [(0,9),(54,0)] rfl (rfl:_=AV.sl _ _) rfl) (aC (by exact Ee [(0,9),(54,0)] rfl (rfl:_=AV.v _) rfl) (aC (by exact Ee [(0,9),(54,0)] rfl (rfl:_=AV.v _) rfl) (aC (by exact Ee [(0,9),(54,0)] rfl (rfl:_=AV.v _) rfl) lz))))),(fJ rfl rfl rfl rfl),(fJ rfl rfl rfl rfl),trivial⟩
  ·kernel_rfl) ?_
 refine an (bh rfl (ai (dg aa [] ar (jf T z3 (N++(z2++[(cY T z3).t])) hz3 hT) ob tr ae) ?_))
 refine az (hK15 _ ?_)
 clear hK15;try clear K15
 refine aG fun K16 hK16=> ?_
 refine am (bh rfl (ai (bs aa _ _ ar (el T (bS T z3) (N++(z2++[(cY T z3).t])) htz) tr rfl ae (by simp)) ?_))
 refine ai (qp _ _ Tryz.underlying9 rfl rfl rfl) (aj (aV rfl (fun hc70=> ?_) (fun hc70=> ?_)))
 ·skip
  obtain ⟨_,j,hj,hr⟩:=hm.resolve_left fun x=> hc70 x.1
  obtain ⟨rfl,rfl⟩:=Prod.mk.inj hr
  have hexp:=qe T (bS T z3) r.2 (N++(z2++[(cY T z3).t])) [59] htz hT hj
  refine bK (id (hK4 _ ?_))
  clear hK4;try clear K4
  refine am (bh rfl (ai (dg aa [] ar (hexp) ob tr ae) ?_))
  exact aj (am (gD rfl (fb rfl (aj (aD (aY (.inr rfl) rfl (.tmp (rfl:_=AV.ref _ _ _)) (Le.outI [((1,8),(1,9))] [(54,0)] (by rw [hz5];exact gQ rfl rfl (by simp) rfl) rfl rfl rfl tr ⟨⟨rfl,⟨_,rfl, .box rfl (aC .sl (aC .v (aC .v (aC .v (aC (cX rfl (by rw [hz5])) bn)))))⟩,rfl⟩,⟨rfl,⟨_,rfl, .rowE (by rw [hz5])⟩,rfl⟩,trivial⟩ tr rfl)))))))
 ·skip
  obtain ⟨_,l',j',hd',hr⟩:=hm.resolve_right fun x=> x.1 hc70
  obtain ⟨rfl,rfl⟩:=Prod.mk.inj hr
  refine bz (hK16 _ ?_)
  clear hK16;try clear K16
  refine an (bh rfl (ai (dg aa [] ar (jf T (bS T z3) (N++(z2++[(cY T z3).t])) htz hT) ob tr ae) ?_))
  refine az (⟨(g,z2++[(cY T z3).t],bS T (bS T z3)),?_,?_,?_⟩)
  ·exact ⟨by simp only [hl2];omega,by simp only [hl1];simp only [List.length_append] at hsl;omega,dM htz,l',by rw [← List.append_assoc];exact hd',by rw [hz5];simp⟩
  ·skip
   refine Le.mkJ [((3,0),(54,0))] [] rfl ?_ ?_ trivial tr ?_
   ·exact ⟨(dD (id:=(0,9)) rfl),(cX rfl ag),trivial⟩
   ·exact ⟨(fg rfl rfl rfl rfl lz),(fJ rfl rfl rfl ag),(fJ rfl rfl rfl ag),trivial⟩
   ·kernel_rfl
  ·simp only;omega
end

abbrev Hd:=Nat×Nd
def ww (h:Hd):List PV:= .v (.int .i64 (h.1:Int))::h.2.row
def lk (l:List Hd):List PV:=l.flatMap ww
theorem bD (l:List Hd):(lk l).length=l.length*5:=mu ww 5 (fun _=> rfl) l
def mt (l:List Hd) (k:Nat):Hd:=l.getD k (0,⟨0,0,[],0,[]⟩)
theorem ms (l:List Hd) (k:Nat) (h:k < l.length):mt l k=l[k]:=by simp [mt,h]
theorem iC (l:List Hd) (k:Nat) (h:k < l.length):(lk l)[k*5]? =some (.v (.int .i64 ((mt l k).1:Int))):=by
 rw [ms l k h];exact nM ww 5 (fun _=> rfl) l k 0 h ab
theorem xU (l:List Hd) (k:Nat) (h:k < l.length):PV.ups (((lk l).drop (k*5)).take 5)=[.v (.int .i64 ((mt l k).1:Int)), .v (.int .i64 ((mt l k).2.k:Int)), .v (.int .i64 ((mt l k).2.n:Int)), .v (bt (mt l k).2.s), .sl (mt l k).2.kn (mt l k).2.kids]:=by
 rw [ms l k h,show ((lk l).drop (k*5)).take 5=ww l[k] from nT ww 5 (fun _=> rfl) l k h];rfl
theorem lO (l:List Hd) (h:Hd):lk l++ww h=lk (l++[h]):=mb ww l h
theorem uA (l m:List Hd):lk l++lk m=lk (l++m):=xI ww l m
theorem tn (l:List Hd) (k:Nat) (h:k < l.length):l.take k++[mt l k]=l.take (k+1):=by rw [ms l k h,List.take_succ_eq_append_getElem h]
def Hb:List Tx:=[lF,iO,gp,iX]
section
variable {T:List Tk} {N:List Tx}
theorem xK (hT:T.length≤100000) (i:Nat) (hi:i < T.length) (ht:(cY T i).t=lF) (l:List Hd) (hl:l.length≤100000) (hno: ∀ k,k < l.length→(mt l k).1≠0):
  Spec Tryz.prog 163 (bc [.ptr (0,9) 0, .sl l.length (lk l)] (dI T i N)) (bj (.v (.int .i64 ((0:Nat):Int))) (dI T (bS T i) N) [(0,9)] [(0,9)]):=by
 have hnx:=bV T i N hi
 rw [ht] at hnx
 refine Spec.ofNI Tryz.func163 rfl Tryz.ntmps163 rfl ?_
 refine am (aZ rfl (aj (am (bh rfl (ai (aN _ rfl rfl) (bv rfl rfl rfl (cG rfl rfl rfl (aZ rfl (aj (am ?_))))))))))
 refine bh rfl (ai (bs aa _ _ ar (hnx) tr rfl ae (by simp)) ?_)
 refine ja rfl (aj (am (aZ rfl (aj (aq (am (ai (aX _ _ aa rfl ag (by (simp <;> rfl)) ah rfl) ?_)))))))
 refine dL rfl (ai (aM aa al (cC Hb 4 rfl ab lF) rfl rfl) ?_)
 refine ai (cT (r:=false) _ rfl rfl) (aj (aR rfl rfl (aJ (am (bh rfl (ai (aQ (cp T i N hi hT)) ?_))))))
 refine aj (aq (aq ?_))
 refine aO (σ':=aB 56 [(0,_),(1,_),(5,_),(6,_),(7,_)] [((0,9),_)] [(0,9)] [(0,9)]) kp ?_
 refine an (dL rfl (ai (aT (r:=false) _ _ Tryz.underlying9 rfl rfl rfl) (aj (aR rfl rfl (aJ (aq (am (dL rfl (ai (aT (r:=false) _ _ Tryz.underlying9 rfl rfl rfl) (aj ?_))))))))))
 refine aR rfl rfl (aJ (aq (am (dL rfl (ai (aT (r:=false) _ _ Tryz.underlying9 rfl rfl rfl) (aj (aR rfl rfl (aJ (aG fun K14 hK14=> ?_)))))))))
 refine am (aZ rfl (aj (au ?_)))
 refine bB (α:=Nat) (fun k=> k≤l.length) 56 [(0,_),(1,_),(5,_),(7,_)] [((0,9),_)] (fun k=> [(8, .v (.int .i64 (k:Int)))]) (fun k=> []) [(0,9)] [(0,9)] (fun k=> l.length - k) 0 ?_ (by
  refine Le.mkJ [] [] rfl ?_ ?_ trivial tr ?_
  ·exact ⟨(iP rfl),(iS rfl),(iV rfl),(iV rfl),(co ag),trivial⟩
  ·exact ⟨(cI rfl rfl rfl),trivial⟩
  ·kernel_rfl) ?_
 ·omega
 intro k hk
 refine aG fun K16 hK16=> ?_
 refine am (aS rfl (ez rfl (ai (bH _ aa rfl) (ai (bq _ _ rfl rfl rfl) (aj (aV rfl (fun hc42=> ?_) (fun hc42=> ?_)))))))
 ·skip
  refine bz (hK16 _ ?_)
  clear hK16;try clear K16
  refine aq (au (am (ez rfl (aS rfl (ai (bg _ _ aa rfl rfl _ rfl ab (by (simp only [ba,bo,bm,bC,bw,bJ,bD];omega)) ag) ?_)))))
  refine ai (dk _ aa rfl rfl) (ai (bG _ aa rfl (by exact iC _ _ ab) rfl) ?_)
  refine aS rfl (ai (bT _ _ rfl rfl rfl) (aj (aR rfl (by have:=hno k ab;exact beq_eq_false_iff_ne.2 ab) ?_)))
  refine cg (an (aS rfl (ai (be _ _ rfl rfl (br ab)) ?_)))
  refine aZ rfl (az (⟨k+1,?_,?_,?_⟩))
  ·omega
  ·skip
   refine Le.mkJ [] [] rfl ?_ ?_ trivial tr ?_
   ·exact ⟨(iP rfl),(iS rfl),(iV rfl),(iV rfl),(co ag),trivial⟩
   ·exact ⟨(cI rfl rfl rfl),trivial⟩
   ·kernel_rfl
  ·omega
 ·skip
  refine bK (id (hK14 _ ?_))
  clear hK14;try clear K14
  exact am (aS rfl (aZ rfl (aj (aD (aY (.inr rfl) rfl (.tmp (rfl:_=AV.v (.int _ _))) (Le.outI [] [] (co ag) rfl rfl rfl trivial ob tr rfl))))))
theorem sC (hT:T.length≤100000) (i:Nat) (hi:i < T.length) (ht:(cY T i).t=iO) (l:List Hd) (hl:l.length≤100000) (hno: ∀ k,k < l.length→(mt l k).1≠1):
  Spec Tryz.prog 163 (bc [.ptr (0,9) 0, .sl l.length (lk l)] (dI T i N)) (bj (.v (.int .i64 ((1:Nat):Int))) (dI T (bS T i) N) [(0,9)] [(0,9)]):=by
 have hnx:=bV T i N hi
 rw [ht] at hnx
 refine Spec.ofNI Tryz.func163 rfl Tryz.ntmps163 rfl ?_
 refine am (aZ rfl (aj (am (bh rfl (ai (aN _ rfl rfl) (bv rfl rfl rfl (cG rfl rfl rfl (aZ rfl (aj (am ?_))))))))))
 refine bh rfl (ai (bs aa _ _ ar (hnx) tr rfl ae (by simp)) ?_)
 refine ja rfl (aj (am (aZ rfl (aj (aq (am (ai (aX _ _ aa rfl ag (by (simp <;> rfl)) ah rfl) ?_)))))))
 refine dL rfl (ai (aM aa al (cC Hb 4 rfl ab iO) rfl rfl) ?_)
 refine ai (cT (r:=false) _ rfl rfl) (aj (aR rfl rfl (aJ (am (bh rfl (ai (aQ (cp T i N hi hT)) ?_))))))
 refine aj (aq (aq ?_))
 refine aO (σ':=aB 56 [(0,_),(1,_),(5,_),(6,_),(7,_)] [((0,9),_)] [(0,9)] [(0,9)]) kp ?_
 refine an (dL rfl (ai (aT (r:=true) _ _ Tryz.underlying9 rfl rfl rfl) (aj (bF rfl rfl (an (aZ rfl (aj (aq (am (dL rfl ?_))))))))))
 refine ai (aT (r:=false) _ _ Tryz.underlying9 rfl rfl rfl) (aj (aR rfl rfl (aJ (aq (am (dL rfl (ai (aT (r:=false) _ _ Tryz.underlying9 rfl rfl rfl) (aj (aR rfl rfl (aJ ?_))))))))))
 refine aG fun K14 hK14=> ?_
 refine am (aZ rfl (aj (au ?_)))
 refine bB (α:=Nat) (fun k=> k≤l.length) 56 [(0,_),(1,_),(5,_),(7,_)] [((0,9),_)] (fun k=> [(8, .v (.int .i64 (k:Int)))]) (fun k=> []) [(0,9)] [(0,9)] (fun k=> l.length - k) 0 ?_ (by
  refine Le.mkJ [] [] rfl ?_ ?_ trivial tr ?_
  ·exact ⟨(iP rfl),(iS rfl),(iV rfl),(iV rfl),(co ag),trivial⟩
  ·exact ⟨(cI rfl rfl rfl),trivial⟩
  ·kernel_rfl) ?_
 ·omega
 intro k hk
 refine aG fun K16 hK16=> ?_
 refine am (aS rfl (ez rfl (ai (bH _ aa rfl) (ai (bq _ _ rfl rfl rfl) (aj (aV rfl (fun hc42=> ?_) (fun hc42=> ?_)))))))
 ·skip
  refine bz (hK16 _ ?_)
  clear hK16;try clear K16
  refine aq (au (am (ez rfl (aS rfl (ai (bg _ _ aa rfl rfl _ rfl ab (by (simp only [ba,bo,bm,bC,bw,bJ,bD];omega)) ag) ?_)))))
  refine ai (dk _ aa rfl rfl) (ai (bG _ aa rfl (by exact iC _ _ ab) rfl) ?_)
  refine aS rfl (ai (bT _ _ rfl rfl rfl) (aj (aR rfl (by have:=hno k ab;exact beq_eq_false_iff_ne.2 ab) ?_)))
  refine cg (an (aS rfl (ai (be _ _ rfl rfl (br ab)) ?_)))
  refine aZ rfl (az (⟨k+1,?_,?_,?_⟩))
  ·omega
  ·skip
   refine Le.mkJ [] [] rfl ?_ ?_ trivial tr ?_
   ·exact ⟨(iP rfl),(iS rfl),(iV rfl),(iV rfl),(co ag),trivial⟩
   ·exact ⟨(cI rfl rfl rfl),trivial⟩
   ·kernel_rfl
  ·omega
 ·skip
  refine bK (id (hK14 _ ?_))
  clear hK14;try clear K14
  exact am (aS rfl (aZ rfl (aj (aD (aY (.inr rfl) rfl (.tmp (rfl:_=AV.v (.int _ _))) (Le.outI [] [] (co ag) rfl rfl rfl trivial ob tr rfl))))))
theorem yT (hT:T.length≤100000) (i:Nat) (hi:i < T.length) (ht:(cY T i).t=gp) (l:List Hd) (hl:l.length≤100000) {q j:Nat} (hq:q≤100) (h1:Spec Tryz.prog 200 (bc [.ptr (0,9) 0, .v (.int .i64 7)] (dI T (bS T i) N)) (bj (.v (.int .i64 (q:Int))) (dI T j N) [(0,9)] [(0,9)])) (hno: ∀ k,k < l.length→(mt l k).1≠(2+q)):
  Spec Tryz.prog 163 (bc [.ptr (0,9) 0, .sl l.length (lk l)] (dI T i N)) (bj (.v (.int .i64 (((2+q):Nat):Int))) (dI T j N) [(0,9)] [(0,9)]):=by
 have hnx:=bV T i N hi
 rw [ht] at hnx
 refine Spec.ofNI Tryz.func163 rfl Tryz.ntmps163 rfl ?_
 refine am (aZ rfl (aj (am (bh rfl (ai (aN _ rfl rfl) (bv rfl rfl rfl (cG rfl rfl rfl (aZ rfl (aj (am ?_))))))))))
 refine bh rfl (ai (bs aa _ _ ar (hnx) tr rfl ae (by simp)) ?_)
 refine ja rfl (aj (am (aZ rfl (aj (aq (am (ai (aX _ _ aa rfl ag (by (simp <;> rfl)) ah rfl) ?_)))))))
 refine dL rfl (ai (aM aa al (cC Hb 4 rfl ab gp) rfl rfl) ?_)
 refine ai (cT (r:=false) _ rfl rfl) (aj (aR rfl rfl (aJ (am (bh rfl (ai (aQ (cp T i N hi hT)) ?_))))))
 refine aj (aq (aq ?_))
 refine aO (σ':=aB 56 [(0,_),(1,_),(5,_),(6,_),(7,_)] [((0,9),_)] [(0,9)] [(0,9)]) kp ?_
 refine an (dL rfl (ai (aT (r:=false) _ _ Tryz.underlying9 rfl rfl rfl) (aj (aR rfl rfl (aJ (aG fun K10 hK10=> ?_))))))
 refine am (dL rfl (ai (aT (r:=true) _ _ Tryz.underlying9 rfl rfl rfl) (aj (bF rfl rfl (an (bh rfl (ai (aQ (h1)) (ai (be _ _ rfl rfl (br ab)) ?_))))))))
 refine aZ rfl (az (hK10 _ ?_))
 clear hK10;try clear K10
 refine aq (am (dL rfl (ai (aT (r:=false) _ _ Tryz.underlying9 rfl rfl rfl) (aj (aR rfl rfl (aJ (aG fun K14 hK14=> ?_)))))))
 refine am (aZ rfl (aj (au ?_)))
 refine bB (α:=Nat) (fun k=> k≤l.length) 56 [(0,_),(1,_),(5,_),(7,_)] [((0,9),_)] (fun k=> [(8, .v (.int .i64 (k:Int)))]) (fun k=> []) [(0,9)] [(0,9)] (fun k=> l.length - k) 0 ?_ (by
  refine Le.mkJ [] [] rfl ?_ ?_ trivial tr ?_
  ·exact ⟨(iP rfl),(iS rfl),(iV rfl),(iV rfl),(co ag),trivial⟩
  ·exact ⟨(cI rfl rfl rfl),trivial⟩
  ·kernel_rfl) ?_
 ·omega
 intro k hk
 refine aG fun K16 hK16=> ?_
 refine am (aS rfl (ez rfl (ai (bH _ aa rfl) (ai (bq _ _ rfl rfl rfl) (aj (aV rfl (fun hc42=> ?_) (fun hc42=> ?_)))))))
 ·skip
  refine bz (hK16 _ ?_)
  clear hK16;try clear K16
  refine aq (au (am (ez rfl (aS rfl (ai (bg _ _ aa rfl rfl _ rfl ab (by (simp only [ba,bo,bm,bC,bw,bJ,bD];omega)) ag) ?_)))))
  refine ai (dk _ aa rfl rfl) (ai (bG _ aa rfl (by exact iC _ _ ab) rfl) ?_)
  refine aS rfl (ai (bT _ _ rfl rfl rfl) (aj (aR rfl (by have:=hno k ab;exact beq_eq_false_iff_ne.2 ab) ?_)))
  refine cg (an (aS rfl (ai (be _ _ rfl rfl (br ab)) ?_)))
  refine aZ rfl (az (⟨k+1,?_,?_,?_⟩))
  ·omega
  ·skip
   refine Le.mkJ [] [] rfl ?_ ?_ trivial tr ?_
   ·exact ⟨(iP rfl),(iS rfl),(iV rfl),(iV rfl),(co ag),trivial⟩
   ·exact ⟨(cI rfl rfl rfl),trivial⟩
   ·kernel_rfl
  ·omega
 ·skip
  refine bK (id (hK14 _ ?_))
  clear hK14;try clear K14
  exact am (aS rfl (aZ rfl (aj (aD (aY (.inr rfl) rfl (.tmp (rfl:_=AV.v (.int _ _))) (Le.outI [] [] (co ag) rfl rfl rfl trivial ob tr rfl))))))
theorem sF (hT:T.length≤100000) (i:Nat) (hi:i < T.length) (ht:(cY T i).t=iX) (l:List Hd) (hl:l.length≤100000) {q j:Nat} (hq:q≤100) (h1:Spec Tryz.prog 200 (bc [.ptr (0,9) 0, .v (.int .i64 29)] (dI T (bS T i) N)) (bj (.v (.int .i64 (q:Int))) (dI T j N) [(0,9)] [(0,9)])) (hno: ∀ k,k < l.length→(mt l k).1≠(10+q)):
  Spec Tryz.prog 163 (bc [.ptr (0,9) 0, .sl l.length (lk l)] (dI T i N)) (bj (.v (.int .i64 (((10+q):Nat):Int))) (dI T j N) [(0,9)] [(0,9)]):=by
 have hnx:=bV T i N hi
 rw [ht] at hnx
 refine Spec.ofNI Tryz.func163 rfl Tryz.ntmps163 rfl ?_
 refine am (aZ rfl (aj (am (bh rfl (ai (aN _ rfl rfl) (bv rfl rfl rfl (cG rfl rfl rfl (aZ rfl (aj (am ?_))))))))))
 refine bh rfl (ai (bs aa _ _ ar (hnx) tr rfl ae (by simp)) ?_)
 refine ja rfl (aj (am (aZ rfl (aj (aq (am (ai (aX _ _ aa rfl ag (by (simp <;> rfl)) ah rfl) ?_)))))))
 refine dL rfl (ai (aM aa al (cC Hb 4 rfl ab iX) rfl rfl) ?_)
 refine ai (cT (r:=false) _ rfl rfl) (aj (aR rfl rfl (aJ (am (bh rfl (ai (aQ (cp T i N hi hT)) ?_))))))
 refine aj (aq (aq ?_))
 refine aO (σ':=aB 56 [(0,_),(1,_),(5,_),(6,_),(7,_)] [((0,9),_)] [(0,9)] [(0,9)]) kp ?_
 refine an (dL rfl (ai (aT (r:=false) _ _ Tryz.underlying9 rfl rfl rfl) (aj (aR rfl rfl (aJ (aq (am (dL rfl (ai (aT (r:=false) _ _ Tryz.underlying9 rfl rfl rfl) (aj ?_))))))))))
 refine aR rfl rfl (aJ (aG fun K12 hK12=> ?_))
 refine am (dL rfl (ai (aT (r:=true) _ _ Tryz.underlying9 rfl rfl rfl) (aj (bF rfl rfl (an (bh rfl (ai (aQ (h1)) (ai (be _ _ rfl rfl (br ab)) ?_))))))))
 refine aZ rfl (az (hK12 _ ?_))
 clear hK12;try clear K12
 refine aG fun K14 hK14=> ?_
 refine am (aZ rfl (aj (au ?_)))
 refine bB (α:=Nat) (fun k=> k≤l.length) 56 [(0,_),(1,_),(5,_),(7,_)] [((0,9),_)] (fun k=> [(8, .v (.int .i64 (k:Int)))]) (fun k=> []) [(0,9)] [(0,9)] (fun k=> l.length - k) 0 ?_ (by
  refine Le.mkJ [] [] rfl ?_ ?_ trivial tr ?_
  ·exact ⟨(iP rfl),(iS rfl),(iV rfl),(iV rfl),(co ag),trivial⟩
  ·exact ⟨(cI rfl rfl rfl),trivial⟩
  ·kernel_rfl) ?_
 ·omega
 intro k hk
 refine aG fun K16 hK16=> ?_
 refine am (aS rfl (ez rfl (ai (bH _ aa rfl) (ai (bq _ _ rfl rfl rfl) (aj (aV rfl (fun hc42=> ?_) (fun hc42=> ?_)))))))
 ·skip
  refine bz (hK16 _ ?_)
  clear hK16;try clear K16
  refine aq (au (am (ez rfl (aS rfl (ai (bg _ _ aa rfl rfl _ rfl ab (by (simp only [ba,bo,bm,bC,bw,bJ,bD];omega)) ag) ?_)))))
  refine ai (dk _ aa rfl rfl) (ai (bG _ aa rfl (by exact iC _ _ ab) rfl) ?_)
  refine aS rfl (ai (bT _ _ rfl rfl rfl) (aj (aR rfl (by have:=hno k ab;exact beq_eq_false_iff_ne.2 ab) ?_)))
  refine cg (an (aS rfl (ai (be _ _ rfl rfl (br ab)) ?_)))
  refine aZ rfl (az (⟨k+1,?_,?_,?_⟩))
  ·omega
  ·skip
   refine Le.mkJ [] [] rfl ?_ ?_ trivial tr ?_
   ·exact ⟨(iP rfl),(iS rfl),(iV rfl),(iV rfl),(co ag),trivial⟩
   ·exact ⟨(cI rfl rfl rfl),trivial⟩
   ·kernel_rfl
  ·omega
 ·skip
  refine bK (id (hK14 _ ?_))
  clear hK14;try clear K14
  exact am (aS rfl (aZ rfl (aj (aD (aY (.inr rfl) rfl (.tmp (rfl:_=AV.v (.int _ _))) (Le.outI [] [] (co ag) rfl rfl rfl trivial ob tr rfl))))))
theorem zJ {l:List Hd} {n:Nat} (h:l.any (fun x=> decide (x.1=n))=false): ∀ k,k < l.length→(mt l k).1≠n:=fun k hk e=> by
 rw [List.any_eq_false] at h
 have:=h l[k] (List.getElem_mem hk)
 rw [ms l k hk] at e
 simp [e] at this
theorem qc (hT:T.length≤100000) (i:Nat) (hi:i < T.length) (l:List Hd) (hl:l.length≤100000) (r:Nat×Nat) (h:uy T i=some r) (hno:l.any (fun x=> decide (x.1=r.1))=false):
  r.2 < T.length∧r.1 < 40∧Spec Tryz.prog 163 (bc [.ptr (0,9) 0, .sl l.length (lk l)] (dI T i N)) (bj (.v (.int .i64 (r.1:Int))) (dI T r.2 N) [(0,9)] [(0,9)]):=by
 have htl:=dM hi
 have hn:=zJ hno
 have hmost: ∀ {most i:Nat} {q:Nat×Nat},na T most i=some q→q.1≤most:=fun h=> by
  unfold na at h
  split at h
  ·rename_i hx;rw [← Option.some.inj h];exact hx.2
  ·cases h
 unfold uy at h
 by_cases h1:(cY T i).t=lF
 ·rw [if_pos h1] at h
  obtain rfl:=Option.some.inj h
  exact ⟨htl,by omega,xK hT i hi h1 l hl hn⟩
 rw [if_neg h1] at h
 by_cases h2:(cY T i).t=iO
 ·rw [if_pos h2] at h
  obtain rfl:=Option.some.inj h
  exact ⟨htl,by omega,sC hT i hi h2 l hl hn⟩
 rw [if_neg h2] at h
 by_cases h3:(cY T i).t=gp
 ·rw [if_pos h3] at h
  simp only [Option.bind_eq_bind,Option.bind_eq_some_iff,Option.pure_def,Option.some.injEq] at h
  obtain ⟨⟨q,j⟩,hq,rfl⟩:=h
  have hm:=hmost hq
  exact ⟨show (q,j).2 < T.length from pW hq htl,by simp only at hm ⊢;omega,yT hT i hi h3 l hl (by simp only at hm;omega) (jY T _ N 7 htl hT ab _ hq) hn⟩
 rw [if_neg h3] at h
 by_cases h4:(cY T i).t=iX
 ·rw [if_pos h4] at h
  simp only [Option.bind_eq_bind,Option.bind_eq_some_iff,Option.pure_def,Option.some.injEq] at h
  obtain ⟨⟨q,j⟩,hq,rfl⟩:=h
  have hm:=hmost hq
  exact ⟨show (q,j).2 < T.length from pW hq htl,by simp only at hm ⊢;omega,sF hT i hi h4 l hl (by simp only at hm;omega) (jY T _ N 29 htl hT ab _ hq) hn⟩
 rw [if_neg h4] at h
 cases h
end
theorem tT {p:Hd→Bool} {l:List Hd} {k:Nat} (h: ∀ x∈l.take k,p x=true) (he:l.length≤k∨p (mt l k)=false):l.takeWhile p=l.take k∧l.dropWhile p=l.drop k:=by
 induction l generalizing k with
 | nil=> simp
 | cons a l ih=>
  cases k with
  | zero=>
   have:p a=false:=by
    rcases he with he | he
    ·simp at he
    ·simpa [mt] using he
   simp [this]
  | succ k=>
   have ha:p a=true:=h a (by simp)
   have:=ih (k:=k) (fun x hx=> h x (by simp [hx])) (by
    rcases he with he | he
    ·left;simpa using he
    ·right;simpa [mt] using he)
   simp [ha,this]
theorem xg (l:List Hd) (hl:l.length≤100000) (h:Hd):
  Spec Tryz.prog 165 (bk [.sl l.length (lk l), .agg [.v (.int .i64 (h.1:Int)), .v (.int .i64 (h.2.k:Int)), .v (.int .i64 (h.2.n:Int)), .v (bt h.2.s), .sl h.2.kn h.2.kids]] []) (aW (.sl (oB l h).length (lk (oB l h))) []):=by
 refine Spec.ofN Tryz.func165 rfl Tryz.ntmps165 rfl ?_
 refine am (ai (bf (3,0) _ rfl rfl) (ai (bA _ (rfl:_=AV.v (.slice _ _ _))) (aj (am (ai (oD (5,0) _ 73 5 rfl rfl) ?_)))))
 refine aj (am (aZ rfl (aj (aG fun K4 hK4=> ?_))))
 refine au ?_
 refine bB (α:=Nat) (fun k=> k≤l.length∧ ∀ x∈l.take k,decide (x.1 < h.1)=true) 39 [(0,_),(3,_)] [((3,0),_)] (fun k=> [(6, .v (.int .i64 (k:Int))),(5, .ref (5,0) 0 (l.take k).length)]) (fun k=> [((5,0), .row 73 5 (lk (l.take k)))]) [] [] (fun k=> l.length - k) 0 ?_ (by
  refine Le.mkJ [] [] rfl ?_ ?_ trivial trivial ?_
  ·exact ⟨(iS rfl),(iP rfl),(co ag),(cX rfl ag),trivial⟩
  ·exact ⟨(cI rfl rfl rfl),(fJ rfl rfl rfl ag),trivial⟩
  ·kernel_rfl) ?_
 ·exact ⟨Nat.zero_le _,by simp⟩
 intro k hk
 obtain ⟨hk,hall⟩:=hk
 have hlk:(l.take k).length=k:=by rw [List.length_take];omega
 refine aG fun K5 hK5=> ?_
 refine aG fun K6 hK6=> ?_
 refine bE 14 [7,8,9,10,11,12,13,14,15,16,17,18,19,20] [] ae ae rfl (aK rfl) (rfl:_=[_,_,_,_,_,_,_,_,_,_,_,_,_,_]) (rfl:_=[]) ?_
 refine ap (_,[]) (fun τ=> aE _ (rfl:_=AV.v (.int _ _))) ?_
 refine eE rfl ?_
 refine ap (_,[]) (fun τ=> aE _ (rfl:_=AV.sl _ _)) ?_
 refine eF rfl ?_
 refine ap (_,[]) (fun τ=> bH _ aa rfl) ?_
 refine eD rfl ?_
 refine ap (_,[]) (fun τ=> bq _ _ rfl rfl rfl) ?_
 refine eI rfl ?_
 refine ap (_,[]) (fun τ=> aE _ (rfl:_=AV.v (.bool _))) ?_
 refine mv (fun hg11=> ?_) (fun hg11=> ?_)
 ·skip
  refine eU rfl ?_
  refine bX (_,[]) rfl (fun τ=> rfl) (fun τ=> aE _ (rfl:_=AV.sl _ _)) ?_
  refine fh rfl ?_
  refine bX (_,[]) rfl (fun τ=> rfl) (fun τ=> aE _ (rfl:_=AV.v (.int _ _))) ?_
  refine fZ rfl ?_
  refine bX (_,[]) rfl (fun τ=> rfl) (fun τ=> bg _ _ aa rfl rfl _ rfl ab (by (simp only [ba,bo,bm,bC,bw,bJ,bD];omega)) ag) ?_
  refine jz rfl ?_
  refine bX (_,[]) rfl (fun τ=> rfl) (fun τ=> dk _ aa rfl rfl) ?_
  refine jC rfl ?_
  refine bX (_,[]) rfl (fun τ=> rfl) (fun τ=> bG _ aa rfl (by exact iC _ _ ab) rfl) ?_
  refine fK rfl ?_
  refine bX (_,[]) rfl (fun τ=> rfl) (fun τ=> aI _ aa rfl rfl rfl) ?_
  refine gl rfl ?_
  refine bX (_,[]) rfl (fun τ=> rfl) (fun τ=> aL _ aa rfl rfl (rfl:_=some (AV.v (.int _ _)))) ?_
  refine kP rfl ?_
  refine bX (_,[]) rfl (fun τ=> rfl) (fun τ=> bq _ _ rfl rfl rfl) ?_
  refine lQ rfl ?_
  refine ap (_,[]) (fun τ=> aH _ _ _ rfl (rfl:_=AV.v (.bool _))) ?_
  refine oX rfl (bi ⟨rfl,?_⟩)
  refine az (hK6 _ ?_)
  clear hK6;try clear K6
  refine aV rfl (fun hc20=> ?_) (fun hc20=> ?_)
  ·skip
   have hs:=tn l k ab
   have hlk1:(l.take (k+1)).length=(l.take k).length+1:=by rw [← hs];simp
   have hall1: ∀ x∈l.take (k+1),decide (x.1 < h.1)=true:=by
    rw [← hs]
    intro x hx
    rcases List.mem_append.1 hx with hx | hx
    ·exact hall x hx
    ·rw [List.mem_singleton.1 hx];exact decide_eq_true ab
   refine bz (hK5 _ ?_)
   clear hK5;try clear K5
   refine au (am (gD rfl (ez rfl (aS rfl (ai (bg _ _ aa rfl rfl _ rfl ab (by (simp only [ba,bo,bm,bC,bw,bJ,bD];omega)) ag) ?_)))))
   refine ai (cj _ aa rfl (by exact xU _ _ ab) rfl) ?_
   refine ai (aX _ _ aa rfl ag (by (simp <;> rfl)) ah rfl) ?_
   refine ai (dt (27,0) _ _ aa rfl rfl (bD _).symm (.sl rfl) ab rfl ((lO _ (mt l k)).trans (by rw [hs])) hlk1.symm) ?_
   refine fb rfl (aj ?_)
   refine aO (σ':=aB 39 [(0,_),(3,_),(5,_),(6,_)] [((3,0),_),((27,0),_)] [] []) kp ?_
   refine an (aS rfl (ai (be _ _ rfl rfl (br ab)) ?_))
   refine aZ rfl (az (⟨k+1,?_,?_,?_⟩))
   ·exact ⟨by omega,hall1⟩
   ·skip
    refine Le.mkJ [((5,0),(27,0))] [] rfl ?_ ?_ trivial trivial ?_
    ·exact ⟨(by repeat' (exact Lv.sl)),(dD (id:=(3,0)) rfl),(co ag),(cX rfl ag),trivial⟩
    ·exact ⟨(fg rfl rfl rfl rfl (by repeat' (first | exact Lv.v | exact Lv.sl | exact bn | refine aC ?_ ?_))),(fJ rfl rfl rfl ag),trivial⟩
    ·kernel_rfl
   ·omega
  ·skip
   have hf:=tT (p:=fun x=> decide (x.1 < h.1)) hall (.inr (decide_eq_false ab))
   refine bK (id (hK4 _ ?_))
   clear hK4;try clear K4
   refine am (gD rfl (ai (aP _ aa rfl rfl rfl rfl) (ai (aX _ _ aa rfl ag (by (simp <;> rfl)) ah rfl) ?_)))
   refine ai (dt (33,0) _ _ aa rfl rfl (bD _).symm (.sl rfl) ab rfl (lO _ h) (show (l.take k).length+1=(l.take k++[h]).length by simp)) ?_
   refine fb rfl (aj (aq ?_))
   refine aO (σ':=aB 39 [(0,_),(5,_),(6,_)] [((33,0),_)] [] []) kp ?_
   refine an (gD rfl (ez rfl (aS rfl (ai (kN _ _ _ aa rfl k l.length (.lit rfl rfl) .dflt hk (Nat.le_refl _) (show _=lk (l.drop k) by rw [show (lk l).drop (k*5)=lk (l.drop k) from np ww 5 (fun _=> rfl) l k];exact List.take_of_length_le (by rw [bD,List.length_drop];exact Nat.le_refl _)) rfl) ?_))))
   refine ai (dt (38,0) _ _ aa rfl rfl (bD _).symm (.sl (by rw [bD,List.length_drop])) (by simp;omega) rfl (uA _ _) (show (l.take k++[h]).length+(l.length - k)=(l.take k++[h]++l.drop k).length by simp;omega)) ?_
   refine fb rfl (aj (aD ?_))
   have hfin:l.take k++[h]++l.drop k=oB l h:=by unfold oB;rw [hf.1,hf.2];simp
   exact aY (.inr rfl) rfl (.tmp (rfl:_=AV.ref _ _ _)) (Le.out [] [(38,0)] (by rw [← hfin];exact gQ rfl rfl (bD _).symm rfl) rfl rfl rfl tr trivial)
 ·skip
  have hf:=tT (p:=fun x=> decide (x.1 < h.1)) hall (.inl ab)
  refine eU rfl ?_
  refine cO rfl (fun τ=> rfl) ah ?_
  refine fh rfl ?_
  refine cO rfl (fun τ=> rfl) ah ?_
  refine fZ rfl ?_
  refine cO rfl (fun τ=> rfl) ah ?_
  refine jz rfl ?_
  refine cO rfl (fun τ=> rfl) ah ?_
  refine jC rfl ?_
  refine cO rfl (fun τ=> rfl) ah ?_
  refine fK rfl ?_
  refine cO rfl (fun τ=> rfl) ah ?_
  refine gl rfl ?_
  refine cO rfl (fun τ=> rfl) ah ?_
  refine kP rfl ?_
  refine cO rfl (fun τ=> rfl) ah ?_
  refine lQ rfl ?_
  refine ap (_,[]) (fun τ=> aH _ _ _ rfl (rfl:_=AV.v (.bool _))) ?_
  refine oX rfl (bi ⟨rfl,?_⟩)
  refine az (hK6 _ ?_)
  clear hK6;try clear K6
  refine aR rfl rfl (bK (id (hK4 _ ?_)))
  clear hK4;try clear K4
  refine am (gD rfl (ai (aP _ aa rfl rfl rfl rfl) (ai (aX _ _ aa rfl ag (by (simp <;> rfl)) ah rfl) ?_)))
  refine ai (dt (33,0) _ _ aa rfl rfl (bD _).symm (.sl rfl) ab rfl (lO _ h) (show (l.take k).length+1=(l.take k++[h]).length by simp)) ?_
  refine fb rfl (aj (aq ?_))
  refine aO (σ':=aB 39 [(0,_),(5,_),(6,_)] [((33,0),_)] [] []) kp ?_
  refine an (gD rfl (ez rfl (aS rfl (ai (kN _ _ _ aa rfl k l.length (.lit rfl rfl) .dflt hk (Nat.le_refl _) (show _=lk (l.drop k) by rw [show (lk l).drop (k*5)=lk (l.drop k) from np ww 5 (fun _=> rfl) l k];exact List.take_of_length_le (by rw [bD,List.length_drop];exact Nat.le_refl _)) rfl) ?_))))
  refine ai (dt (38,0) _ _ aa rfl rfl (bD _).symm (.sl (by rw [bD,List.length_drop])) (by simp;omega) rfl (uA _ _) (show (l.take k++[h]).length+(l.length - k)=(l.take k++[h]++l.drop k).length by simp;omega)) ?_
  refine fb rfl (aj (aD ?_))
  have hfin:l.take k++[h]++l.drop k=oB l h:=by unfold oB;rw [hf.1,hf.2];simp
  exact aY (.inr rfl) rfl (.tmp (rfl:_=AV.ref _ _ _)) (Le.out [] [(38,0)] (by rw [← hfin];exact gQ rfl rfl (bD _).symm rfl) rfl rfl rfl tr trivial)
end Go.Proofs.YtmjnackchaahbaaGreat
