/- Part 12 of the texts that the walk leans on: the machine, the walks, the plain laws. -/
import Derived.Test.YtmjnackchaahbaaGreatVaZ11
set_option linter.unusedSimpArgs false
set_option linter.unusedVariables false
namespace Go.Proofs.YtmjnackchaahbaaGreat
open Go.RowKit

theorem nx: ∀ e,eJ e≤2
 | .int _=> by simp [eJ] | .bool _=> by simp [eJ] | .var _=> by simp [eJ] | .name _=> by simp [eJ]
 | .draw e=> by simp only [eJ];split <;> omega
 | .neg e=> by simp only [eJ];split <;> omega
 | .not e=> by simp only [eJ];split <;> omega
 | .bin o a b=> by cases o <;> simp only [eJ] <;> split <;> omega
 | .and a b=> by simp only [eJ];split <;> omega
 | .or a b=> by simp only [eJ];split <;> omega
def rl (a b:Ex) (j:Nat):Nat:=if j=0 then eJ a else eJ b
theorem nb (a b:Ex) (j:Nat):rl a b j≤2:=by unfold rl;split <;> exact nx _
theorem nj {a b:Ex} {op j:Nat} (hj:j < 2) (h:rl a b j≠op): ¬ (eJ a=op∧eJ b=op):=fun e=> by
 have:j=0∨j=1:=by omega
 rcases this with rfl | rfl
 ·exact h e.1
 ·exact h e.2
theorem rY (o:Bo):o.txt∉([[38,38],[124,124]]:List Tx):=by cases o <;> decide
def KT:Bo→Nat | .add=> 1 | .sub=> 1 | .mul=> 1 | .div=> 1 | _=> 2
abbrev tI (d:Nd) (t:Nat):Prop:=Spec Tryz.prog 203 (bi [mQ d] []) (aW (.v (.int .i64 (t:Int))) [])
theorem qb {d:Nd} {t:Nat} (h:tI d t): ∀ j,j < [d].length→tI (jA [d] j) t:=fun j hj=> by
 have:j=0:=by simpa using hj
 subst this
 exact h
theorem nA {d e:Nd} {a b:Ex} (h1:tI d (eJ a)) (h2:tI e (eJ b)): ∀ j,j < [d,e].length→tI (jA [d,e] j) (rl a b j):=fun j hj=> by
 have hj:j < 2:=hj
 have:j=0∨j=1:=by omega
 rcases this with rfl | rfl
 ·exact h1
 ·exact h2
theorem dV (nm:List Tx): ∀ e:Ex,tI (dT nm e) (eJ e)
 | .int n=> ED n.toNat
 | .bool b=> AS (if b then 1 else 0)
 | .var i=> CS (nm.getD i [])
 | .name k=> AK (bltT.getD k [])
 | .draw e=> Bl [dT nm e] (by simp) (fun _=> eJ e) (fun _=> nx e) (qb (dV nm e)) _ (fun h=> if_pos (h 0 (by simp))) (fun _ _ h=> if_neg h)
 | .neg e=> DC [dT nm e] (by simp) (fun _=> eJ e) (fun _=> nx e) (qb (dV nm e)) _ (fun h=> if_pos (h 0 (by simp))) (fun _ _ h=> if_neg h)
 | .not e=> Dr [dT nm e] (by simp) (fun _=> eJ e) (fun _=> nx e) (qb (dV nm e)) _ (fun h=> if_pos (h 0 (by simp))) (fun _ _ h=> if_neg h)
 | .and a b=> qU [38,38] ah ah [dT nm a,dT nm b] (by simp) (rl a b) (nb a b) (nA (dV nm a) (dV nm b)) _ (fun h=> if_pos ⟨h 0 (by simp),h 1 (by simp)⟩) (fun _ hj h=> if_neg (nj hj h))
 | .or a b=> qU [124,124] ah ah [dT nm a,dT nm b] (by simp) (rl a b) (nb a b) (nA (dV nm a) (dV nm b)) _ (fun h=> if_pos ⟨h 0 (by simp),h 1 (by simp)⟩) (fun _ hj h=> if_neg (nj hj h))
 | .bin o a b=> by
  have hty:eJ (.bin o a b)=if eJ a=1∧eJ b=1 then KT o else 0:=by cases o <;> rfl
  have hk:=nA (dV nm a) (dV nm b)
  by_cases ho:o.txt∈vc
  ·have h2:KT o=2:=by cases o <;> first | rfl | (exact absurd ho ah)
   rw [h2] at hty
   exact Ec o.txt (rY o) ho [dT nm a,dT nm b] (by simp) (rl a b) (nb a b) hk _ (fun h=> hty.trans (if_pos ⟨h 0 (by simp),h 1 (by simp)⟩)) (fun _ hj h=> hty.trans (if_neg (nj hj h)))
  ·have h2:KT o=1:=by cases o <;> first | rfl | (exact absurd ah ho)
   rw [h2] at hty
   exact zx o.txt (rY o) ho [dT nm a,dT nm b] (by simp) (rl a b) (nb a b) hk _ (fun h=> hty.trans (if_pos ⟨h 0 (by simp),h 1 (by simp)⟩)) (fun _ hj h=> hty.trans (if_neg (nj hj h)))
theorem jq (n:Int) (s:Tx) (L:List Nd) (h: ∀ j,j < L.length→Spec Tryz.prog 166 (bi [mQ (jA L j)] []) (aW (.v (.bool true)) [])):
  Spec Tryz.prog 166 (bi [.agg [.v (.int .i64 11), .v (.int .i64 n), .v (bt s), .sl L.length (kL L)]] []) (aW (.v (.bool true)) []):=by
 refine Spec.ofN Tryz.func166 rfl Tryz.ntmps166 rfl ?_
 refine aq ?_
 refine jR 0 3 rfl rfl rfl fun hlen=> ?_
 unfold maxLen at hlen
 refine an (ai (bk (1,0) _ rfl rfl) (cq rfl (aj (aq (am (bF rfl rfl rfl (cI rfl rfl rfl (jc rfl rfl rfl (aj (bD rfl rfl ?_))))))))))
 refine aG fun K4 hK4=> ?_
 refine am (ba rfl (aj (au ?_)))
 refine bC (α:=Nat) (fun j=> j≤L.length) 73 [(1,_)] [((1,0),_)] (fun j=> [(3, .v (.int .i64 (j:Int)))]) (fun j=> []) [] [] (fun j=> L.length - j) 0 ?_ (by
  refine Le.mkJ [] [] rfl ?_ ?_ trivial trivial ?_
  ·exact ⟨(iP rfl),(cj ag),trivial⟩
  ·exact ⟨(cG rfl rfl rfl),trivial⟩
  ·kernel_rfl) ?_
 ·omega
 intro j hj
 refine aG fun K6 hK6=> ?_
 refine am (aR rfl (bF rfl rfl rfl (fK rfl rfl rfl (ai (bG _ aa rfl) (ai (bp _ _ rfl rfl rfl) (aj (aV rfl (fun hc17=> ?_) (fun hc17=> ?_))))))))
 ·skip
  refine bA (hK6 _ ?_)
  clear hK6;try clear K6
  refine aq (au (am (bF rfl rfl rfl (fK rfl rfl rfl (aR rfl (ai (bf _ _ aa rfl rfl _ rfl ab (by (simp only [aZ,bm,bl,bw,bv,bJ,bz];omega)) ag) ?_))))))
  refine ai (cg _ aa rfl (by exact cE _ _ ab) rfl) ?_
  refine ai (aJ aa al (h j ab) rfl rfl) ?_
  refine cq rfl (aj (am (cH rfl (ai (cN (r:=false) _ rfl rfl) (aj (aQ rfl rfl (cf (an (aR rfl (ai (bc _ _ rfl rfl (bq ab)) ?_))))))))))
  refine ba rfl (az (⟨j+1,?_,?_,?_⟩))
  ·omega
  ·skip
   refine Le.mkJ [] [] rfl ?_ ?_ trivial trivial ?_
   ·exact ⟨(iP rfl),(cj ag),trivial⟩
   ·exact ⟨(cG rfl rfl rfl),trivial⟩
   ·kernel_rfl
  ·omega
 ·skip
  refine bL (id (hK4 _ ?_))
  clear hK4;try clear K4
  refine am (cq rfl (aj (aC (aY (.inr rfl) rfl (.tmp (rfl:_=AV.v (.bool _))) (Le.out [] [] (ie ?_) rfl rfl rfl trivial trivial)))))
  rfl
theorem pN (k:Nat) (hk:k=2∨k=3) (n:Int) (s:Tx) (L:List Nd) (hL:0 < L.length) (ht:Spec Tryz.prog 203 (bi [mQ (jA L 0)] []) (aW (.v (.int .i64 2)) [])) (h: ∀ j,1≤j→j < L.length→Spec Tryz.prog 166 (bi [mQ (jA L j)] []) (aW (.v (.bool true)) [])):
  Spec Tryz.prog 166 (bi [.agg [.v (.int .i64 (k:Int)), .v (.int .i64 n), .v (bt s), .sl L.length (kL L)]] []) (aW (.v (.bool true)) []):=by
 refine Spec.ofN Tryz.func166 rfl Tryz.ntmps166 rfl ?_
 refine aq ?_
 refine jR 0 3 rfl rfl rfl fun hlen=> ?_
 unfold maxLen at hlen
 refine an (ai (bk (1,0) _ rfl rfl) (cq rfl (aj (aq (am (bF rfl rfl rfl (cI rfl rfl rfl (eI rfl rfl (beq_eq_false_iff_ne.2 ab) ?_))))))))
 refine aj (aQ rfl rfl (aI (aq (am (bF rfl rfl rfl (cI rfl rfl rfl (ai (bR _ _ rfl rfl rfl) (cH rfl (dO (fun hg31=> ?_) (fun hg31=> ?_))))))))))
 ·skip
  refine aX rfl rfl ah ?_
  refine aX rfl rfl ah ?_
  refine aX rfl rfl ah ?_
  refine ai (aF _ _ _ rfl (rfl:_=AV.v (.bool _))) (aj (bD rfl rfl (am (bF rfl rfl rfl (fK rfl rfl rfl (ai (bf _ _ aa rfl rfl 0 rfl hL (by simp only [bJ];omega) rfl) ?_))))))
  refine ai (cg _ aa rfl (by exact cE L 0 hL) rfl) ?_
  refine ai (aJ aa al (ht) rfl rfl) ?_
  refine ba rfl (aj (aG fun K7 hK7=> ?_))
  refine aq ?_
  refine aM (σ':=aB 73 [(1,_),(5,_)] [((1,0),_)] [] []) kp ?_
  refine an (ba rfl (aj (au ?_)))
  refine bC (α:=Nat) (fun j=> 1≤j∧j≤L.length) 73 [(1,_),(5,_)] [((1,0),_)] (fun j=> [(6, .v (.int .i64 (j:Int)))]) (fun j=> []) [] [] (fun j=> L.length - j) 1 ?_ (by
   refine Le.mkJ [] [] rfl ?_ ?_ trivial trivial ?_
   ·exact ⟨(iP rfl),(iV rfl),(cj ag),trivial⟩
   ·exact ⟨(cG rfl rfl rfl),trivial⟩
   ·kernel_rfl) ?_
  ·exact ⟨Nat.le_refl _,hL⟩
  intro j hj
  obtain ⟨hj1,hj2⟩:=hj
  refine aG fun K9 hK9=> ?_
  refine am (aR rfl (bF rfl rfl rfl (fK rfl rfl rfl (ai (bG _ aa rfl) (ai (bp _ _ rfl rfl rfl) (aj (aV rfl (fun hc45=> ?_) (fun hc45=> ?_))))))))
  ·skip
   refine bA (hK9 _ ?_)
   clear hK9;try clear K9
   refine aq (au (am (bF rfl rfl rfl (fK rfl rfl rfl (aR rfl (ai (bf _ _ aa rfl rfl _ rfl ab (by (simp only [aZ,bm,bl,bw,bv,bJ,bz];omega)) ag) ?_))))))
   refine ai (cg _ aa rfl (by exact cE _ _ ab) rfl) ?_
   refine ai (aJ aa al (h j hj1 ab) rfl rfl) ?_
   refine cq rfl (aj (am (cH rfl (ai (cN (r:=false) _ rfl rfl) (aj (aQ rfl rfl (cf (an (aR rfl (ai (bc _ _ rfl rfl (bq ab)) ?_))))))))))
   refine ba rfl (az (⟨j+1,?_,?_,?_⟩))
   ·omega
   ·skip
    refine Le.mkJ [] [] rfl ?_ ?_ trivial trivial ?_
    ·exact ⟨(iP rfl),(iV rfl),(cj ag),trivial⟩
    ·exact ⟨(cG rfl rfl rfl),trivial⟩
    ·kernel_rfl
   ·omega
  ·skip
   refine bL (id (hK7 _ ?_))
   clear hK7;try clear K7
   refine am (aR rfl (jc rfl rfl rfl (cq rfl (aj (aC (aY (.inr rfl) rfl (.tmp (rfl:_=AV.v (.bool _))) (Le.out [] [] (ie ?_) rfl rfl rfl trivial trivial)))))))
   rfl
 ·skip
  have hk3:k=3:=by omega
  refine ax rfl rfl (aK _ aa rfl rfl rfl) (ax rfl rfl (aN _ aa rfl rfl (rfl:_=some (AV.v (.int _ _)))) (ax rfl rfl (bR (r:=true) _ _ rfl rfl (beq_iff_eq.2 ab)) ?_))
  refine ai (aF _ _ _ rfl (rfl:_=AV.v (.bool _))) (aj (bD rfl rfl (am (bF rfl rfl rfl (fK rfl rfl rfl (ai (bf _ _ aa rfl rfl 0 rfl hL (by simp only [bJ];omega) rfl) ?_))))))
  refine ai (cg _ aa rfl (by exact cE L 0 hL) rfl) ?_
  refine ai (aJ aa al (ht) rfl rfl) ?_
  refine ba rfl (aj (aG fun K16 hK16=> ?_))
  refine aq ?_
  refine aM (σ':=aB 73 [(1,_),(5,_)] [((1,0),_)] [] []) kp ?_
  refine an (ba rfl (aj (au ?_)))
  refine bC (α:=Nat) (fun j=> 1≤j∧j≤L.length) 73 [(1,_),(5,_)] [((1,0),_)] (fun j=> [(6, .v (.int .i64 (j:Int)))]) (fun j=> []) [] [] (fun j=> L.length - j) 1 ?_ (by
   refine Le.mkJ [] [] rfl ?_ ?_ trivial trivial ?_
   ·exact ⟨(iP rfl),(iV rfl),(cj ag),trivial⟩
   ·exact ⟨(cG rfl rfl rfl),trivial⟩
   ·kernel_rfl) ?_
  ·exact ⟨Nat.le_refl _,hL⟩
  intro j hj
  obtain ⟨hj1,hj2⟩:=hj
  refine aG fun K18 hK18=> ?_
  refine am (aR rfl (bF rfl rfl rfl (fK rfl rfl rfl (ai (bG _ aa rfl) (ai (bp _ _ rfl rfl rfl) (aj (aV rfl (fun hc45=> ?_) (fun hc45=> ?_))))))))
  ·skip
   refine bA (hK18 _ ?_)
   clear hK18;try clear K18
   refine aq (au (am (bF rfl rfl rfl (fK rfl rfl rfl (aR rfl (ai (bf _ _ aa rfl rfl _ rfl ab (by (simp only [aZ,bm,bl,bw,bv,bJ,bz];omega)) ag) ?_))))))
   refine ai (cg _ aa rfl (by exact cE _ _ ab) rfl) ?_
   refine ai (aJ aa al (h j hj1 ab) rfl rfl) ?_
   refine cq rfl (aj (am (cH rfl (ai (cN (r:=false) _ rfl rfl) (aj (aQ rfl rfl (cf (an (aR rfl (ai (bc _ _ rfl rfl (bq ab)) ?_))))))))))
   refine ba rfl (az (⟨j+1,?_,?_,?_⟩))
   ·omega
   ·skip
    refine Le.mkJ [] [] rfl ?_ ?_ trivial trivial ?_
    ·exact ⟨(iP rfl),(iV rfl),(cj ag),trivial⟩
    ·exact ⟨(cG rfl rfl rfl),trivial⟩
    ·kernel_rfl
   ·omega
  ·skip
   refine bL (id (hK16 _ ?_))
   clear hK16;try clear K16
   refine am (aR rfl (jc rfl rfl rfl (cq rfl (aj (aC (aY (.inr rfl) rfl (.tmp (rfl:_=AV.v (.bool _))) (Le.out [] [] (ie ?_) rfl rfl rfl trivial trivial)))))))
   rfl
theorem eO (k:Nat) (hk:k≠2∧k≠3∧k≠11) (n:Int) (s:Tx) (L:List Nd) (h: ∀ j,j < L.length→Spec Tryz.prog 203 (bi [mQ (jA L j)] []) (aW (.v (.int .i64 1)) [])):
  Spec Tryz.prog 166 (bi [.agg [.v (.int .i64 (k:Int)), .v (.int .i64 n), .v (bt s), .sl L.length (kL L)]] []) (aW (.v (.bool true)) []):=by
 refine Spec.ofN Tryz.func166 rfl Tryz.ntmps166 rfl ?_
 refine aq ?_
 refine jR 0 3 rfl rfl rfl fun hlen=> ?_
 unfold maxLen at hlen
 refine an (ai (bk (1,0) _ rfl rfl) (cq rfl (aj (aq (am (bF rfl rfl rfl (cI rfl rfl rfl (eI rfl rfl (beq_eq_false_iff_ne.2 ab) ?_))))))))
 refine aj (aQ rfl rfl (aI (aq (am (bF rfl rfl rfl (cI rfl rfl rfl (eI rfl rfl (beq_eq_false_iff_ne.2 ab) ?_)))))))
 refine cH rfl (ax rfl rfl (aK _ aa rfl rfl rfl) (ax rfl rfl (aN _ aa rfl rfl (rfl:_=some (AV.v (.int _ _)))) (ax rfl rfl (bR (r:=false) _ _ rfl rfl (beq_eq_false_iff_ne.2 ab)) ?_)))
 refine ai (aF _ _ _ rfl (rfl:_=AV.v (.bool _))) (aj (aQ rfl rfl (aI (aG fun K6 hK6=> ?_))))
 refine am (ba rfl (aj (au ?_)))
 refine bC (α:=Nat) (fun j=> j≤L.length) 73 [(1,_)] [((1,0),_)] (fun j=> [(8, .v (.int .i64 (j:Int)))]) (fun j=> []) [] [] (fun j=> L.length - j) 0 ?_ (by
  refine Le.mkJ [] [] rfl ?_ ?_ trivial trivial ?_
  ·exact ⟨(iP rfl),(cj ag),trivial⟩
  ·exact ⟨(cG rfl rfl rfl),trivial⟩
  ·kernel_rfl) ?_
 ·omega
 intro j hj
 refine aG fun K8 hK8=> ?_
 refine am (aR rfl (bF rfl rfl rfl (fK rfl rfl rfl (ai (bG _ aa rfl) (ai (bp _ _ rfl rfl rfl) (aj (aV rfl (fun hc62=> ?_) (fun hc62=> ?_))))))))
 ·skip
  refine bA (hK8 _ ?_)
  clear hK8;try clear K8
  refine aq (au (am (bF rfl rfl rfl (fK rfl rfl rfl (aR rfl (ai (bf _ _ aa rfl rfl _ rfl ab (by (simp only [aZ,bm,bl,bw,bv,bJ,bz];omega)) ag) ?_))))))
  refine ai (cg _ aa rfl (by exact cE _ _ ab) rfl) ?_
  refine ai (aJ aa al (h j ab) rfl rfl) ?_
  refine ba rfl (aj (am (aR rfl (ai (bY (r:=false) _ _ rfl rfl rfl) (aj (aQ rfl rfl (cf (an (aR rfl (ai (bc _ _ rfl rfl (bq ab)) ?_))))))))))
  refine ba rfl (az (⟨j+1,?_,?_,?_⟩))
  ·omega
  ·skip
   refine Le.mkJ [] [] rfl ?_ ?_ trivial trivial ?_
   ·exact ⟨(iP rfl),(cj ag),trivial⟩
   ·exact ⟨(cG rfl rfl rfl),trivial⟩
   ·kernel_rfl
  ·omega
 ·skip
  refine bL (id (hK6 _ ?_))
  clear hK6;try clear K6
  refine am (cq rfl (aj (aC (aY (.inr rfl) rfl (.tmp (rfl:_=AV.v (.bool _))) (Le.out [] [] (ie ?_) rfl rfl rfl trivial trivial)))))
  rfl

abbrev MD (d:Nd):Prop:=Spec Tryz.prog 166 (bi [mQ d] []) (aW (.v (.bool true)) [])
theorem hX {nm:List Tx} {e:Ex} (h:mT e=true):tI (dT nm e) 1:=by
 have:=Nat.eq_of_beq_eq_true h
 have h2:=dV nm e
 rwa [this] at h2
theorem Gt {P:Nd→Prop} {d:Nd} (h:P d): ∀ j,j < [d].length→P (jA [d] j):=fun j hj=> by
 have:j=0:=by simpa using hj
 subst this
 exact h
theorem LJ {P:Nd→Prop} {d e:Nd} (h:P d) (h':P e): ∀ j,j < [d,e].length→P (jA [d,e] j):=fun j hj=> by
 have hj:j < 2:=hj
 have:j=0∨j=1:=by omega
 rcases this with rfl | rfl
 ·exact h
 ·exact h'
theorem LL {P:Nd→Prop} {d e f:Nd} (h:P d) (h':P e) (h2:P f): ∀ j,j < [d,e,f].length→P (jA [d,e,f] j):=fun j hj=> by
 have hj:j < 3:=hj
 have:j=0∨j=1∨j=2:=by omega
 rcases this with rfl | rfl | rfl
 ·exact h
 ·exact h'
 ·exact h2
theorem yd {P:Nd→Prop}: ∀ j,j < ([]:List Nd).length→P (jA [] j):=fun j hj=> by simp at hj
theorem Ma {P:Nd→Prop} {d:Nd} {l:List Nd} (h:P d) (h': ∀ j,j < l.length→P (jA l j)): ∀ j,j < (d::l).length→P (jA (d::l) j):=fun j hj=> by
 cases j with
 | zero=> exact h
 | succ j=> exact h' j (by simpa using hj)
mutual
theorem zJ (nm:List Tx): ∀ s:Sm,vj s=true→MD (od nm s)
 | .assign i e,h=> eO 1 ab 0 (nm.getD i []) [dT nm e] (Gt (P:=fun d=> tI d 1) (hX h))
 | .send t k a b,h=> by
  simp only [vj,Bool.and_eq_true] at h
  exact eO 4 ab k [] [dT nm t,dT nm a,dT nm b] (LL (P:=fun d=> tI d 1) (hX h.1.1) (hX h.1.2) (hX h.2))
 | .timer k,_=> eO 5 ab k [] [] (yd (P:=fun d=> tI d 1))
 | .cancel k,_=> eO 6 ab k [] [] (yd (P:=fun d=> tI d 1))
 | .sync,_=> eO 7 ab 0 [] [] (yd (P:=fun d=> tI d 1))
 | .stop,_=> eO 10 ab 0 [] [] (yd (P:=fun d=> tI d 1))
 | .reply a b,h=> by
  simp only [vj,Bool.and_eq_true] at h
  exact eO 8 ab 0 [] [dT nm a,dT nm b] (LJ (P:=fun d=> tI d 1) (hX h.1) (hX h.2))
 | .fail e,h=> eO 9 ab 0 [] [dT nm e] (Gt (P:=fun d=> tI d 1) (hX h))
 | .loop c b,h=> by
  simp only [vj,Bool.and_eq_true] at h
  have h1:=dV nm c
  rw [Nat.eq_of_beq_eq_true h.1] at h1
  refine pN 3 (.inr rfl) 0 [] [dT nm c,nd 11 0 [] (fX nm b)] (by simp) h1 fun j h1 hj=> ?_
  have hj:j < 2:=hj
  obtain rfl:j=1:=by omega
  exact jq 0 [] (fX nm b) (mh nm b h.2)
 | .ite c a b,h=> by
  simp only [vj,Bool.and_eq_true] at h
  have h1:=dV nm c
  rw [Nat.eq_of_beq_eq_true h.1.1] at h1
  refine pN 2 (.inl rfl) 0 [] [dT nm c,nd 11 0 [] (fX nm a),nd 11 0 [] (fX nm b)] (by simp) h1 fun j h1 hj=> ?_
  have hj:j < 3:=hj
  have:j=1∨j=2:=by omega
  rcases this with rfl | rfl
  ·exact jq 0 [] (fX nm a) (mh nm a h.1.2)
  ·exact jq 0 [] (fX nm b) (mh nm b h.2)
theorem mh (nm:List Tx): ∀ b:Bk,nR b=true→ ∀ j,j < (fX nm b).length→MD (jA (fX nm b) j)
 | .nil,_=> yd
 | .cons s b,h=> by
  simp only [nR,Bool.and_eq_true] at h
  exact Ma (zJ nm s h.1) (mh nm b h.2)
end
theorem BN (nm:List Tx) (b:Bk) (h:nR b=true):MD (jB nm b):=jq 0 [] (fX nm b) (mh nm b h)

def gI (s:Tx) (l:List Tx):List Tx:=if s∈l then l else l++[s]
section
variable (nm:List Tx)
def ql:Ex→List Tx→List Tx
 | .int _,l=> l | .bool _,l=> l | .name _,l=> l
 | .var i,l=> gI (nm.getD i []) l
 | .draw e,l=> ql e l | .neg e,l=> ql e l | .not e,l=> ql e l
 | .bin _ a b,l=> ql b (ql a l)
 | .and a b,l=> ql b (ql a l)
 | .or a b,l=> ql b (ql a l)
mutual
def Lm:Sm→List Tx→List Tx
 | .assign i e,l=> ql nm e (gI (nm.getD i []) l)
 | .send t _ a b,l=> ql nm b (ql nm a (ql nm t l))
 | .timer _,l=> l | .cancel _,l=> l | .sync,l=> l | .stop,l=> l
 | .reply a b,l=> ql nm b (ql nm a l)
 | .fail e,l=> ql nm e l
 | .loop c b,l=> zB b (ql nm c l)
 | .ite c a b,l=> zB b (zB a (ql nm c l))
def zB:Bk→List Tx→List Tx
 | .nil,l=> l
 | .cons s b,l=> zB b (Lm s l)
end
def GN (l:List Tx):Prop:=l.Nodup∧ ∀ x∈l,x∈nm
end
theorem GN.len {nm l:List Tx} (h:GN nm l):l.length≤nm.length:=h.1.length_le_of_subset fun x hx=> h.2 x hx
theorem GN.add {nm l:List Tx} (h:GN nm l) {i:Nat} (hi:i < nm.length):GN nm (gI (nm.getD i []) l):=by
 unfold gI
 split
 ·exact h
 ·rename_i hn
  refine ⟨List.nodup_append.2 ⟨h.1,by simp,fun a ha b hb e=> hn (by rw [List.mem_singleton.1 hb] at e;exact e ▸ ha)⟩,fun x hx=> ?_⟩
  rcases List.mem_append.1 hx with hx | hx
  ·exact h.2 x hx
  ·rw [List.mem_singleton.1 hx];exact iX hi
theorem GN.nil {nm:List Tx}:GN nm []:=⟨.nil,fun x hx=> by simp at hx⟩
theorem qY (n:Int) (s:Tx) (L:List Nd) (l:List Tx) (hs:s∉l) (hl:l.length≤1000) (F:Nat→List Tx) (hF:F 0=l++[s]) (h: ∀ j,j < L.length→Spec Tryz.prog 167 (bi [mQ (jA L j), .sl (F j).length (dU (F j))] []) (aW (.sl (F (j+1)).length (dU (F (j+1)))) [])):
  Spec Tryz.prog 167 (bi [.agg [.v (.int .i64 1), .v (.int .i64 n), .v (bt s), .sl L.length (kL L)], .sl l.length (dU l)] []) (aW (.sl (F L.length).length (dU (F L.length))) []):=by
 refine Spec.ofN Tryz.func167 rfl Tryz.ntmps167 rfl ?_
 refine aq ?_
 refine jR 0 3 rfl rfl rfl fun hlen=> ?_
 unfold maxLen at hlen
 refine an (ai (bk (2,0) _ rfl rfl) (ai (bH _ (rfl:_=AV.v (.slice _ _ _))) (aj (aq (am (bF rfl rfl rfl (cI rfl rfl rfl (jc rfl rfl rfl (cH rfl (aX rfl rfl ah ?_))))))))))
 refine aX rfl rfl ah ?_
 refine aX rfl rfl ah ?_
 refine ai (aF _ _ _ rfl (rfl:_=AV.v (.bool _))) (cH rfl (ax rfl rfl (aD _ (rfl:_=AV.sl _ _)) (ax rfl rfl (aK _ aa rfl rfl rfl) (ax rfl rfl (aN _ aa rfl rfl (rfl:_=some (AV.v (.string _)))) (ax rfl rfl (aJ aa al (fI l _ rfl ab s) rfl rfl) ?_)))))
 refine ax rfl rfl (cN _ rfl rfl) (ai (aF _ _ _ rfl (rfl:_=AV.v (.bool _))) (aj (bD rfl (by rw [decide_eq_false hs];rfl) ?_)))
 refine aq ?_
 refine aM (σ':=aB 45 [(1,_),(2,_)] [((2,0),_)] [] []) kp ?_
 refine an (ai (bH _ (rfl:_=AV.v (.slice _ _ _))) (aj (am (ai (aD _ (rfl:_=AV.v (.slice _ _ _))) (ep rfl (ai (tn (24,0) _ _ aa rfl (.sl (by simp)) ab rfl) ?_))))))
 refine eZ rfl (aj (an (gG rfl (bF rfl rfl rfl (ai (aN _ aa rfl rfl (rfl:_=some (AV.v (.string _)))) (ai (aU _ _ aa rfl ag (by (simp <;> rfl)) ah rfl) ?_))))))
 refine ai (dg (29,0) _ _ aa rfl rfl (by simp) (.sl rfl) ab rfl (lZ _ _) (show l.length+1=(l++[s]).length by simp)) ?_
 refine eZ rfl (aj (aG fun K6 hK6=> ?_))
 refine am (ba rfl (aj (au ?_)))
 refine aM (Le.frzS 1 (ys:=dU (l++[s])) rfl rfl rfl (by rw [List.drop_zero,Nat.mul_one];exact List.take_of_length_le (by simp)) (by simp)) ?_
 refine bC (α:=Nat) (fun j=> j≤L.length) 45 [(2,_)] [((2,0),_)] (fun j=> [(6, .v (.int .i64 (j:Int))),(1, .sl (F j).length (dU (F j)))]) (fun j=> []) [] [] (fun j=> L.length - j) 0 ?_ (by
  refine Le.mkJ [] [] rfl ?_ ?_ trivial trivial ?_
  ·exact ⟨(iP rfl),(cj ag),(iO (by rw [hF]) (by rw [hF])),trivial⟩
  ·exact ⟨(cG rfl rfl rfl),trivial⟩
  ·kernel_rfl) ?_
 ·omega
 intro j hj
 refine aG fun K8 hK8=> ?_
 refine am (aR rfl (bF rfl rfl rfl (fK rfl rfl rfl (ai (bG _ aa rfl) (ai (bp _ _ rfl rfl rfl) (aj (aV rfl (fun hc34=> ?_) (fun hc34=> ?_))))))))
 ·skip
  refine bA (hK8 _ ?_)
  clear hK8;try clear K8
  refine aq (au (an (bF rfl rfl rfl (fK rfl rfl rfl (aR rfl (ai (bf _ _ aa rfl rfl _ rfl ab (by (simp only [aZ,bm,bl,bw,bv,bJ,bz];omega)) ag) ?_))))))
  refine ai (cg _ aa rfl (by exact cE _ _ ab) rfl) ?_
  refine ep rfl (ai (aJ aa al (h j ab) rfl rfl) ?_)
  refine jO rfl (fT (an (aR rfl (ai (bc _ _ rfl rfl (bq ab)) ?_))))
  refine ba rfl (az (⟨j+1,?_,?_,?_⟩))
  ·omega
  ·skip
   refine Le.mkJ [] [] rfl ?_ ?_ trivial trivial ?_
   ·exact ⟨(iP rfl),(cj ag),(iO ag ag),trivial⟩
   ·exact ⟨(cG rfl rfl rfl),trivial⟩
   ·kernel_rfl
  ·omega
 ·skip
  obtain rfl:j=L.length:=by omega
  refine bL (id (hK6 _ ?_))
  clear hK6;try clear K6
  exact am (ep rfl (jO rfl (aj (aC (aY (.inr rfl) rfl (.tmp (rfl:_=AV.sl _ _)) (Le.out [] [] .sl rfl rfl rfl trivial trivial))))))
theorem qQ (n:Int) (s:Tx) (L:List Nd) (l:List Tx) (hs:s∈l) (hl:l.length≤1000) (F:Nat→List Tx) (hF:F 0=l) (h: ∀ j,j < L.length→Spec Tryz.prog 167 (bi [mQ (jA L j), .sl (F j).length (dU (F j))] []) (aW (.sl (F (j+1)).length (dU (F (j+1)))) [])):
  Spec Tryz.prog 167 (bi [.agg [.v (.int .i64 1), .v (.int .i64 n), .v (bt s), .sl L.length (kL L)], .sl l.length (dU l)] []) (aW (.sl (F L.length).length (dU (F L.length))) []):=by
 refine Spec.ofN Tryz.func167 rfl Tryz.ntmps167 rfl ?_
 refine aq ?_
 refine jR 0 3 rfl rfl rfl fun hlen=> ?_
 unfold maxLen at hlen
 refine an (ai (bk (2,0) _ rfl rfl) (ai (bH _ (rfl:_=AV.v (.slice _ _ _))) (aj (aq (am (bF rfl rfl rfl (cI rfl rfl rfl (jc rfl rfl rfl (cH rfl (aX rfl rfl ah ?_))))))))))
 refine aX rfl rfl ah ?_
 refine aX rfl rfl ah ?_
 refine ai (aF _ _ _ rfl (rfl:_=AV.v (.bool _))) (cH rfl (ax rfl rfl (aD _ (rfl:_=AV.sl _ _)) (ax rfl rfl (aK _ aa rfl rfl rfl) (ax rfl rfl (aN _ aa rfl rfl (rfl:_=some (AV.v (.string _)))) (ax rfl rfl (aJ aa al (fI l _ rfl ab s) rfl rfl) ?_)))))
 refine ax rfl rfl (cN _ rfl rfl) (ai (aF _ _ _ rfl (rfl:_=AV.v (.bool _))) (aj (aQ rfl (by rw [decide_eq_true hs];rfl) ?_)))
 refine aI (aG fun K4 hK4=> ?_)
 refine aq ?_
 refine aM (σ':=aB 45 [(1,_),(2,_)] [((2,0),_)] [] []) kp ?_
 refine an (ba rfl (aj (au ?_)))
 refine bC (α:=Nat) (fun j=> j≤L.length) 45 [(2,_)] [((2,0),_)] (fun j=> [(6, .v (.int .i64 (j:Int))),(1, .sl (F j).length (dU (F j)))]) (fun j=> []) [] [] (fun j=> L.length - j) 0 ?_ (by
  refine Le.mkJ [] [] rfl ?_ ?_ trivial trivial ?_
  ·exact ⟨(iP rfl),(cj ag),(iO (by rw [hF]) (by rw [hF])),trivial⟩
  ·exact ⟨(cG rfl rfl rfl),trivial⟩
  ·kernel_rfl) ?_
 ·omega
 intro j hj
 refine aG fun K6 hK6=> ?_
 refine am (aR rfl (bF rfl rfl rfl (fK rfl rfl rfl (ai (bG _ aa rfl) (ai (bp _ _ rfl rfl rfl) (aj (aV rfl (fun hc34=> ?_) (fun hc34=> ?_))))))))
 ·skip
  refine bA (hK6 _ ?_)
  clear hK6;try clear K6
  refine aq (au (an (bF rfl rfl rfl (fK rfl rfl rfl (aR rfl (ai (bf _ _ aa rfl rfl _ rfl ab (by (simp only [aZ,bm,bl,bw,bv,bJ,bz];omega)) ag) ?_))))))
  refine ai (cg _ aa rfl (by exact cE _ _ ab) rfl) ?_
  refine ep rfl (ai (aJ aa al (h j ab) rfl rfl) ?_)
  refine jO rfl (fT (an (aR rfl (ai (bc _ _ rfl rfl (bq ab)) ?_))))
  refine ba rfl (az (⟨j+1,?_,?_,?_⟩))
  ·omega
  ·skip
   refine Le.mkJ [] [] rfl ?_ ?_ trivial trivial ?_
   ·exact ⟨(iP rfl),(cj ag),(iO ag ag),trivial⟩
   ·exact ⟨(cG rfl rfl rfl),trivial⟩
   ·kernel_rfl
  ·omega
 ·skip
  obtain rfl:j=L.length:=by omega
  refine bL (id (hK4 _ ?_))
  clear hK4;try clear K4
  exact am (ep rfl (jO rfl (aj (aC (aY (.inr rfl) rfl (.tmp (rfl:_=AV.sl _ _)) (Le.out [] [] .sl rfl rfl rfl trivial trivial))))))
theorem pV (n:Int) (s:Tx) (L:List Nd) (l:List Tx) (hs:s∉l) (hl:l.length≤1000) (F:Nat→List Tx) (hF:F 0=l++[s]) (h: ∀ j,j < L.length→Spec Tryz.prog 167 (bi [mQ (jA L j), .sl (F j).length (dU (F j))] []) (aW (.sl (F (j+1)).length (dU (F (j+1)))) [])):
  Spec Tryz.prog 167 (bi [.agg [.v (.int .i64 14), .v (.int .i64 n), .v (bt s), .sl L.length (kL L)], .sl l.length (dU l)] []) (aW (.sl (F L.length).length (dU (F L.length))) []):=by
 refine Spec.ofN Tryz.func167 rfl Tryz.ntmps167 rfl ?_
 refine aq ?_
 refine jR 0 3 rfl rfl rfl fun hlen=> ?_
 unfold maxLen at hlen
 refine an (ai (bk (2,0) _ rfl rfl) (ai (bH _ (rfl:_=AV.v (.slice _ _ _))) (aj (aq (am (bF rfl rfl rfl (cI rfl rfl rfl (eI rfl rfl rfl (cH rfl (ax rfl rfl (aK _ aa rfl rfl rfl) ?_))))))))))
 refine ax rfl rfl (aN _ aa rfl rfl (rfl:_=some (AV.v (.int _ _)))) (ax rfl rfl (bR (r:=true) _ _ rfl rfl rfl) (ai (aF _ _ _ rfl (rfl:_=AV.v (.bool _))) (cH rfl (ax rfl rfl (aD _ (rfl:_=AV.sl _ _)) (ax rfl rfl (aK _ aa rfl rfl rfl) (ax rfl rfl (aN _ aa rfl rfl (rfl:_=some (AV.v (.string _)))) (ax rfl rfl (aJ aa al (fI l _ rfl ab s) rfl rfl) ?_)))))))
 refine ax rfl rfl (cN _ rfl rfl) (ai (aF _ _ _ rfl (rfl:_=AV.v (.bool _))) (aj (bD rfl (by rw [decide_eq_false hs];rfl) ?_)))
 refine aq ?_
 refine aM (σ':=aB 45 [(1,_),(2,_)] [((2,0),_)] [] []) kp ?_
 refine an (ai (bH _ (rfl:_=AV.v (.slice _ _ _))) (aj (am (ai (aD _ (rfl:_=AV.v (.slice _ _ _))) (ep rfl (ai (tn (24,0) _ _ aa rfl (.sl (by simp)) ab rfl) ?_))))))
 refine eZ rfl (aj (an (gG rfl (bF rfl rfl rfl (ai (aN _ aa rfl rfl (rfl:_=some (AV.v (.string _)))) (ai (aU _ _ aa rfl ag (by (simp <;> rfl)) ah rfl) ?_))))))
 refine ai (dg (29,0) _ _ aa rfl rfl (by simp) (.sl rfl) ab rfl (lZ _ _) (show l.length+1=(l++[s]).length by simp)) ?_
 refine eZ rfl (aj (aG fun K6 hK6=> ?_))
 refine am (ba rfl (aj (au ?_)))
 refine aM (Le.frzS 1 (ys:=dU (l++[s])) rfl rfl rfl (by rw [List.drop_zero,Nat.mul_one];exact List.take_of_length_le (by simp)) (by simp)) ?_
 refine bC (α:=Nat) (fun j=> j≤L.length) 45 [(2,_)] [((2,0),_)] (fun j=> [(6, .v (.int .i64 (j:Int))),(1, .sl (F j).length (dU (F j)))]) (fun j=> []) [] [] (fun j=> L.length - j) 0 ?_ (by
  refine Le.mkJ [] [] rfl ?_ ?_ trivial trivial ?_
  ·exact ⟨(iP rfl),(cj ag),(iO (by rw [hF]) (by rw [hF])),trivial⟩
  ·exact ⟨(cG rfl rfl rfl),trivial⟩
  ·kernel_rfl) ?_
 ·omega
 intro j hj
 refine aG fun K8 hK8=> ?_
 refine am (aR rfl (bF rfl rfl rfl (fK rfl rfl rfl (ai (bG _ aa rfl) (ai (bp _ _ rfl rfl rfl) (aj (aV rfl (fun hc34=> ?_) (fun hc34=> ?_))))))))
 ·skip
  refine bA (hK8 _ ?_)
  clear hK8;try clear K8
  refine aq (au (an (bF rfl rfl rfl (fK rfl rfl rfl (aR rfl (ai (bf _ _ aa rfl rfl _ rfl ab (by (simp only [aZ,bm,bl,bw,bv,bJ,bz];omega)) ag) ?_))))))
  refine ai (cg _ aa rfl (by exact cE _ _ ab) rfl) ?_
  refine ep rfl (ai (aJ aa al (h j ab) rfl rfl) ?_)
  refine jO rfl (fT (an (aR rfl (ai (bc _ _ rfl rfl (bq ab)) ?_))))
  refine ba rfl (az (⟨j+1,?_,?_,?_⟩))
  ·omega
  ·skip
   refine Le.mkJ [] [] rfl ?_ ?_ trivial trivial ?_
   ·exact ⟨(iP rfl),(cj ag),(iO ag ag),trivial⟩
   ·exact ⟨(cG rfl rfl rfl),trivial⟩
   ·kernel_rfl
  ·omega
 ·skip
  obtain rfl:j=L.length:=by omega
  refine bL (id (hK6 _ ?_))
  clear hK6;try clear K6
  exact am (ep rfl (jO rfl (aj (aC (aY (.inr rfl) rfl (.tmp (rfl:_=AV.sl _ _)) (Le.out [] [] .sl rfl rfl rfl trivial trivial))))))
theorem qo (n:Int) (s:Tx) (L:List Nd) (l:List Tx) (hs:s∈l) (hl:l.length≤1000) (F:Nat→List Tx) (hF:F 0=l) (h: ∀ j,j < L.length→Spec Tryz.prog 167 (bi [mQ (jA L j), .sl (F j).length (dU (F j))] []) (aW (.sl (F (j+1)).length (dU (F (j+1)))) [])):
  Spec Tryz.prog 167 (bi [.agg [.v (.int .i64 14), .v (.int .i64 n), .v (bt s), .sl L.length (kL L)], .sl l.length (dU l)] []) (aW (.sl (F L.length).length (dU (F L.length))) []):=by
 refine Spec.ofN Tryz.func167 rfl Tryz.ntmps167 rfl ?_
 refine aq ?_
 refine jR 0 3 rfl rfl rfl fun hlen=> ?_
 unfold maxLen at hlen
 refine an (ai (bk (2,0) _ rfl rfl) (ai (bH _ (rfl:_=AV.v (.slice _ _ _))) (aj (aq (am (bF rfl rfl rfl (cI rfl rfl rfl (eI rfl rfl rfl (cH rfl (ax rfl rfl (aK _ aa rfl rfl rfl) ?_))))))))))
 refine ax rfl rfl (aN _ aa rfl rfl (rfl:_=some (AV.v (.int _ _)))) (ax rfl rfl (bR (r:=true) _ _ rfl rfl rfl) (ai (aF _ _ _ rfl (rfl:_=AV.v (.bool _))) (cH rfl (ax rfl rfl (aD _ (rfl:_=AV.sl _ _)) (ax rfl rfl (aK _ aa rfl rfl rfl) (ax rfl rfl (aN _ aa rfl rfl (rfl:_=some (AV.v (.string _)))) (ax rfl rfl (aJ aa al (fI l _ rfl ab s) rfl rfl) ?_)))))))
 refine ax rfl rfl (cN _ rfl rfl) (ai (aF _ _ _ rfl (rfl:_=AV.v (.bool _))) (aj (aQ rfl (by rw [decide_eq_true hs];rfl) ?_)))
 refine aI (aG fun K4 hK4=> ?_)
 refine aq ?_
 refine aM (σ':=aB 45 [(1,_),(2,_)] [((2,0),_)] [] []) kp ?_
 refine an (ba rfl (aj (au ?_)))
 refine bC (α:=Nat) (fun j=> j≤L.length) 45 [(2,_)] [((2,0),_)] (fun j=> [(6, .v (.int .i64 (j:Int))),(1, .sl (F j).length (dU (F j)))]) (fun j=> []) [] [] (fun j=> L.length - j) 0 ?_ (by
  refine Le.mkJ [] [] rfl ?_ ?_ trivial trivial ?_
  ·exact ⟨(iP rfl),(cj ag),(iO (by rw [hF]) (by rw [hF])),trivial⟩
  ·exact ⟨(cG rfl rfl rfl),trivial⟩
  ·kernel_rfl) ?_
 ·omega
 intro j hj
 refine aG fun K6 hK6=> ?_
 refine am (aR rfl (bF rfl rfl rfl (fK rfl rfl rfl (ai (bG _ aa rfl) (ai (bp _ _ rfl rfl rfl) (aj (aV rfl (fun hc34=> ?_) (fun hc34=> ?_))))))))
 ·skip
  refine bA (hK6 _ ?_)
  clear hK6;try clear K6
  refine aq (au (an (bF rfl rfl rfl (fK rfl rfl rfl (aR rfl (ai (bf _ _ aa rfl rfl _ rfl ab (by (simp only [aZ,bm,bl,bw,bv,bJ,bz];omega)) ag) ?_))))))
  refine ai (cg _ aa rfl (by exact cE _ _ ab) rfl) ?_
  refine ep rfl (ai (aJ aa al (h j ab) rfl rfl) ?_)
  refine jO rfl (fT (an (aR rfl (ai (bc _ _ rfl rfl (bq ab)) ?_))))
  refine ba rfl (az (⟨j+1,?_,?_,?_⟩))
  ·omega
  ·skip
   refine Le.mkJ [] [] rfl ?_ ?_ trivial trivial ?_
   ·exact ⟨(iP rfl),(cj ag),(iO ag ag),trivial⟩
   ·exact ⟨(cG rfl rfl rfl),trivial⟩
   ·kernel_rfl
  ·omega
 ·skip
  obtain rfl:j=L.length:=by omega
  refine bL (id (hK4 _ ?_))
  clear hK4;try clear K4
  exact am (ep rfl (jO rfl (aj (aC (aY (.inr rfl) rfl (.tmp (rfl:_=AV.sl _ _)) (Le.out [] [] .sl rfl rfl rfl trivial trivial))))))
theorem qO (k:Nat) (hk:k≠1∧k≠14) (n:Int) (s:Tx) (L:List Nd) (l:List Tx) (hl:l.length≤1000) (F:Nat→List Tx) (hF:F 0=l) (h: ∀ j,j < L.length→Spec Tryz.prog 167 (bi [mQ (jA L j), .sl (F j).length (dU (F j))] []) (aW (.sl (F (j+1)).length (dU (F (j+1)))) [])):
  Spec Tryz.prog 167 (bi [.agg [.v (.int .i64 (k:Int)), .v (.int .i64 n), .v (bt s), .sl L.length (kL L)], .sl l.length (dU l)] []) (aW (.sl (F L.length).length (dU (F L.length))) []):=by
 refine Spec.ofN Tryz.func167 rfl Tryz.ntmps167 rfl ?_
 refine aq ?_
 refine jR 0 3 rfl rfl rfl fun hlen=> ?_
 unfold maxLen at hlen
 refine an (ai (bk (2,0) _ rfl rfl) (ai (bH _ (rfl:_=AV.v (.slice _ _ _))) (aj (aq (am (bF rfl rfl rfl (cI rfl rfl rfl (eI rfl rfl (beq_eq_false_iff_ne.2 ab) ?_))))))))
 refine cH rfl (ax rfl rfl (aK _ aa rfl rfl rfl) (ax rfl rfl (aN _ aa rfl rfl (rfl:_=some (AV.v (.int _ _)))) (ax rfl rfl (bR (r:=false) _ _ rfl rfl (beq_eq_false_iff_ne.2 ab)) ?_)))
 refine ai (aF _ _ _ rfl (rfl:_=AV.v (.bool _))) (cH rfl (aX rfl rfl ah ?_))
 refine aX rfl rfl ah ?_
 refine aX rfl rfl ah ?_
 refine aX rfl rfl ah ?_
 refine aX rfl rfl ah ?_
 refine ai (aF _ _ _ rfl (rfl:_=AV.v (.bool _))) (aj (aQ rfl rfl (aI (aG fun K4 hK4=> ?_))))
 refine aq ?_
 refine aM (σ':=aB 45 [(1,_),(2,_)] [((2,0),_)] [] []) kp ?_
 refine an (ba rfl (aj (au ?_)))
 refine bC (α:=Nat) (fun j=> j≤L.length) 45 [(2,_)] [((2,0),_)] (fun j=> [(6, .v (.int .i64 (j:Int))),(1, .sl (F j).length (dU (F j)))]) (fun j=> []) [] [] (fun j=> L.length - j) 0 ?_ (by
  refine Le.mkJ [] [] rfl ?_ ?_ trivial trivial ?_
  ·exact ⟨(iP rfl),(cj ag),(iO (by rw [hF]) (by rw [hF])),trivial⟩
  ·exact ⟨(cG rfl rfl rfl),trivial⟩
  ·kernel_rfl) ?_
 ·omega
 intro j hj
 refine aG fun K6 hK6=> ?_
 refine am (aR rfl (bF rfl rfl rfl (fK rfl rfl rfl (ai (bG _ aa rfl) (ai (bp _ _ rfl rfl rfl) (aj (aV rfl (fun hc34=> ?_) (fun hc34=> ?_))))))))
 ·skip
  refine bA (hK6 _ ?_)
  clear hK6;try clear K6
  refine aq (au (an (bF rfl rfl rfl (fK rfl rfl rfl (aR rfl (ai (bf _ _ aa rfl rfl _ rfl ab (by (simp only [aZ,bm,bl,bw,bv,bJ,bz];omega)) ag) ?_))))))
  refine ai (cg _ aa rfl (by exact cE _ _ ab) rfl) ?_
  refine ep rfl (ai (aJ aa al (h j ab) rfl rfl) ?_)
  refine jO rfl (fT (an (aR rfl (ai (bc _ _ rfl rfl (bq ab)) ?_))))
  refine ba rfl (az (⟨j+1,?_,?_,?_⟩))
  ·omega
  ·skip
   refine Le.mkJ [] [] rfl ?_ ?_ trivial trivial ?_
   ·exact ⟨(iP rfl),(cj ag),(iO ag ag),trivial⟩
   ·exact ⟨(cG rfl rfl rfl),trivial⟩
   ·kernel_rfl
  ·omega
 ·skip
  obtain rfl:j=L.length:=by omega
  refine bL (id (hK4 _ ?_))
  clear hK4;try clear K4
  exact am (ep rfl (jO rfl (aj (aC (aY (.inr rfl) rfl (.tmp (rfl:_=AV.sl _ _)) (Le.out [] [] .sl rfl rfl rfl trivial trivial))))))
def fc (fs:List (List Tx→List Tx)) (l:List Tx):List Tx:=fs.foldl (fun l f=> f l) l
theorem jm {fs:List (List Tx→List Tx)} {l:List Tx} {j:Nat} (h:j < fs.length):fc (fs.take (j+1)) l=fs.getD j id (fc (fs.take j) l):=by
 rw [List.take_succ_eq_append_getElem h]
 unfold fc
 rw [List.foldl_append,List.getD_eq_getElem?_getD,List.getElem?_eq_getElem h];rfl
abbrev vt (nm:List Tx) (d:Nd) (f:List Tx→List Tx):Prop:= ∀ l,GN nm l→Spec Tryz.prog 167 (bi [mQ d, .sl l.length (dU l)] []) (aW (.sl (f l).length (dU (f l))) [])∧GN nm (f l)
section
variable {nm:List Tx} (hnm:nm.length≤16) {L:List Nd} {fs:List (List Tx→List Tx)} (hfs:fs.length=L.length) (h: ∀ j,j < L.length→vt nm (jA L j) (fs.getD j id))
theorem oC (hfs:fs.length=L.length) (h: ∀ j,j < L.length→vt nm (jA L j) (fs.getD j id)) {l:List Tx} (hl:GN nm l): ∀ j,j≤L.length→GN nm (fc (fs.take j) l)
 | 0,_=> by simpa [fc] using hl
 | j+1,hj=> by
  rw [jm ab]
  exact (h j ab _ (oC hfs h hl j ab)).2
theorem cu (hnm:nm.length≤16) (hfs:fs.length=L.length) (h: ∀ j,j < L.length→vt nm (jA L j) (fs.getD j id)) (k:Nat) (hk:k≠1∧k≠14) (n:Nat) (s:Tx):vt nm (nd k n s L) (fc fs):=fun l hl=> by
 have hg:=oC hfs h hl
 have he:fc (fs.take L.length) l=fc fs l:=by rw [← hfs,List.take_length]
 have hw:=qO k hk n s L l (by have:=hl.len;omega) (fun j=> fc (fs.take j) l) rfl fun j hj=> by
  rw [show fc (fs.take (j+1)) l=_ from jm ab]
  exact (h j hj _ (hg j ab)).1
 rw [he] at hw
 exact ⟨hw,he ▸ hg _ (Nat.le_refl _)⟩
theorem uR (hnm:nm.length≤16) (hfs:fs.length=L.length) (h: ∀ j,j < L.length→vt nm (jA L j) (fs.getD j id)) (n:Nat) {i:Nat} (hi:i < nm.length):vt nm (nd 1 n (nm.getD i []) L) (fun l=> fc fs (gI (nm.getD i []) l)):=fun l hl=> by
 have hg:=oC hfs h (hl.add hi)
 have he:fc (fs.take L.length) (gI (nm.getD i []) l)=fc fs (gI (nm.getD i []) l):=by rw [← hfs,List.take_length]
 have hkid: ∀ j,j < L.length→_:=fun j hj=> (h j hj _ (hg j ab)).1
 have hll:=hl.len
 show Spec _ _ _ (aW (.sl (fc fs (gI (nm.getD i []) l)).length (dU (fc fs (gI (nm.getD i []) l)))) [])∧GN nm (fc fs (gI (nm.getD i []) l))
 rw [← he]
 refine ⟨?_,hg _ (Nat.le_refl _)⟩
 by_cases hs:nm.getD i []∈l
 ·exact qQ n _ L l hs ab (fun j=> fc (fs.take j) (gI (nm.getD i []) l)) (by show gI _ l=l;unfold gI;rw [if_pos hs]) fun j hj=> by
   rw [show fc (fs.take (j+1)) (gI (nm.getD i []) l)=_ from jm ab]
   exact hkid j hj
 ·exact qY n _ L l hs ab (fun j=> fc (fs.take j) (gI (nm.getD i []) l)) (by show gI _ l=_;unfold gI;rw [if_neg hs]) fun j hj=> by
   rw [show fc (fs.take (j+1)) (gI (nm.getD i []) l)=_ from jm ab]
   exact hkid j hj
end
theorem vP {nm:List Tx} (hnm:nm.length≤16) {i:Nat} (hi:i < nm.length):vt nm (nd 14 0 (nm.getD i []) []) (gI (nm.getD i [])):=fun l hl=> by
 have hll:=hl.len
 refine ⟨?_,hl.add hi⟩
 by_cases hs:nm.getD i []∈l
 ·exact qo 0 _ [] l hs ab (fun _=> gI (nm.getD i []) l) (by show gI _ l=l;unfold gI;rw [if_pos hs]) fun j hj=> by simp at hj
 ·exact pV 0 _ [] l hs ab (fun _=> gI (nm.getD i []) l) (by show gI _ l=_;unfold gI;rw [if_neg hs]) fun j hj=> by simp at hj
section
variable {nm:List Tx}
abbrev xx (nm:List Tx) (L:List Nd) (fs:List (List Tx→List Tx)):Prop:= ∀ j,j < L.length→vt nm (jA L j) (fs.getD j id)
theorem pw:xx nm [] []:=fun j hj=> by simp at hj
theorem oO {d:Nd} {f:List Tx→List Tx} {L:List Nd} {fs:List (List Tx→List Tx)} (h:vt nm d f) (h':xx nm L fs):xx nm (d::L) (f::fs):=fun j hj=> by
 cases j with
 | zero=> exact h
 | succ j=> exact h' j (by simpa using hj)
theorem dn (hnm:nm.length≤16): ∀ e:Ex,ft nm.length e→vt nm (dT nm e) (ql nm e)
 | .int _,_=> cu hnm rfl pw 12 ab _ _
 | .bool _,_=> cu hnm rfl pw 13 ab _ _
 | .name _,_=> cu hnm rfl pw 15 ab _ _
 | .var i,h=> vP hnm h
 | .draw e,h=> cu hnm rfl (oO (dn hnm e h) pw) 16 ab _ _
 | .neg e,h=> cu hnm rfl (oO (dn hnm e h) pw) 17 ab _ _
 | .not e,h=> cu hnm rfl (oO (dn hnm e h) pw) 17 ab _ _
 | .bin _ a b,h=> cu hnm rfl (oO (dn hnm a h.1) (oO (dn hnm b h.2) pw)) 18 ab _ _
 | .and a b,h=> cu hnm rfl (oO (dn hnm a h.1) (oO (dn hnm b h.2) pw)) 18 ab _ _
 | .or a b,h=> cu hnm rfl (oO (dn hnm a h.1) (oO (dn hnm b h.2) pw)) 18 ab _ _
def CB (nm:List Tx):Bk→List (List Tx→List Tx)
 | .nil=> []
 | .cons s b=> Lm nm s::CB nm b
theorem uw (nm:List Tx): ∀ b:Bk,(CB nm b).length=(fX nm b).length
 | .nil=> by simp [CB,fX]
 | .cons s b=> by simp [CB,fX,uw nm b]
theorem rW (nm:List Tx): ∀ (b:Bk) (l:List Tx),fc (CB nm b) l=zB nm b l
 | .nil,l=> rfl
 | .cons s b,l=> by rw [zB,← rW nm b];rfl
theorem ks (hnm:nm.length≤16) {b:Bk} (h:xx nm (fX nm b) (CB nm b)):vt nm (jB nm b) (zB nm b):=by
 have:=cu hnm (uw nm b) h 11 ab 0 []
 rwa [show fc (CB nm b)=zB nm b from funext (rW nm b)] at this
mutual
theorem xU (hnm:nm.length≤16): ∀ s:Sm,eY nm.length s→vt nm (od nm s) (Lm nm s)
 | .assign i e,h=> by rw [eY] at h;exact uR hnm rfl (oO (dn hnm e h.2) pw) 0 h.1
 | .send t k a b,h=> by rw [eY] at h;exact cu hnm rfl (oO (dn hnm t h.2.1) (oO (dn hnm a h.2.2.1) (oO (dn hnm b h.2.2.2) pw))) 4 ab _ _
 | .timer _,_=> cu hnm rfl pw 5 ab _ _
 | .cancel _,_=> cu hnm rfl pw 6 ab _ _
 | .sync,_=> cu hnm rfl pw 7 ab _ _
 | .stop,_=> cu hnm rfl pw 10 ab _ _
 | .reply a b,h=> by rw [eY] at h;exact cu hnm rfl (oO (dn hnm a h.1) (oO (dn hnm b h.2) pw)) 8 ab _ _
 | .fail e,h=> by rw [eY] at h;exact cu hnm rfl (oO (dn hnm e h) pw) 9 ab _ _
 | .loop c b,h=> by rw [eY] at h;exact cu hnm rfl (oO (dn hnm c h.1) (oO (ks hnm (jH hnm b h.2)) pw)) 3 ab _ _
 | .ite c a b,h=> by rw [eY] at h;exact cu hnm rfl (oO (dn hnm c h.1) (oO (ks hnm (jH hnm a h.2.1)) (oO (ks hnm (jH hnm b h.2.2)) pw))) 2 ab _ _
theorem jH (hnm:nm.length≤16): ∀ b:Bk,ii nm.length b→xx nm (fX nm b) (CB nm b)
 | .nil,_=> pw
 | .cons s b,h=> by rw [ii] at h;exact oO (xU hnm s h.1) (jH hnm b h.2)
end
theorem yP (hnm:nm.length≤16) (b:Bk) (h:ii nm.length b):vt nm (jB nm b) (zB nm b):=ks hnm (jH hnm b h)
end

theorem li {l:List Tx} (h:l.Nodup) {i j:Nat} (hi:i < l.length) (hj:j < l.length) (e:l.getD i []=l.getD j []):i=j:=by
 rw [List.getD_eq_getElem?_getD,List.getD_eq_getElem?_getD,List.getElem?_eq_getElem hi,List.getElem?_eq_getElem hj] at e
 have h:=List.pairwise_iff_getElem.1 h
 rcases Nat.lt_trichotomy i j with hlt | rfl | hlt
 ·exact absurd (Option.some.inj (by simpa using e)) (h i j hi hj hlt)
 ·rfl
 ·exact absurd (Option.some.inj (by simpa using e)).symm (h j i hj hi hlt)
theorem pn {a b:List Tx} {k:Nat} (h:k < a.length):a.getD k []=(a++b).getD k []:=by
 rw [List.getD_eq_getElem?_getD,List.getD_eq_getElem?_getD,List.getElem?_append_left h]
theorem getD_right {a b:List Tx} {k:Nat}:b.getD k []=(a++b).getD (a.length+k) []:=by
 rw [List.getD_eq_getElem?_getD,List.getD_eq_getElem?_getD,List.getElem?_append_right ab,Nat.add_sub_cancel_left]
theorem lj (d v:List Tx) (on:List PV) (no:Nat) (hn:(d++v).Nodup) (hl:(d++v).length≤1000) (i:Nat) (hi:i < (d++v).length):
  Spec Tryz.prog 121 (bi [.agg [.sl d.length (dU d), .sl v.length (dU v), .sl no on], .v (bt ((d++v).getD i []))] []) (aW (.v (.int .i64 (i:Int))) []):=by
 have hl2:(d++v).length=d.length+v.length:=List.length_append
 refine Spec.ofN Tryz.func121 rfl Tryz.ntmps121 rfl ?_
 refine am (ai (bk (2,0) _ rfl rfl) (ba rfl (aj (aG fun K2 hK2=> ?_))))
 refine am (ba rfl (aj (au ?_)))
 refine bC (α:=Nat) (fun k=> k≤d.length∧k≤i) 41 [(1,_),(2,_)] [((2,0),_)] (fun k=> [(5, .v (.int .i64 (k:Int)))]) (fun k=> []) [] [] (fun k=> d.length - k) 0 ?_ (by
  refine Le.mkJ [] [] rfl ?_ ?_ trivial trivial ?_
  ·exact ⟨(iV rfl),(iP rfl),(cj ag),trivial⟩
  ·exact ⟨(cG rfl rfl rfl),trivial⟩
  ·kernel_rfl) ?_
 ·exact ⟨Nat.zero_le _,Nat.zero_le _⟩
 intro k hk
 obtain ⟨hk,hki⟩:=hk
 refine aG fun K4 hK4=> ?_
 refine am (aR rfl (bF rfl rfl rfl (fK rfl rfl rfl (ai (bG _ aa rfl) (ai (bp _ _ rfl rfl rfl) (aj (aV rfl (fun hc11=> ?_) (fun hc11=> ?_))))))))
 ·skip
  refine bA (hK4 _ ?_)
  clear hK4;try clear K4
  refine aq (au (am (bF rfl rfl rfl (fK rfl rfl rfl (aR rfl (ai (bf _ _ aa rfl rfl _ rfl ab (by (simp only [aZ,bm,bl,bw,bv,bJ,bz,List.length_map];omega)) (by exact Nat.mul_one _)) ?_))))))
  refine ai (bB _ aa rfl (by exact fv _ _ ab) rfl) ?_
  refine dJ rfl (ai (aT _ _ Tryz.underlying9 rfl rfl rfl) (aj (aV rfl (fun hc20=> ?_) (fun hc20=> ?_))))
  ·skip
   have he:k=i:=li hn ab hi ((pn ab).symm.trans hc20)
   refine am (aR rfl (ba rfl (aj (aC (aY (.inr rfl) rfl (.tmp (rfl:_=AV.v (.int _ _))) (Le.out [] [] (cj ?_) rfl rfl rfl trivial trivial))))))
   rw [he]
  ·skip
   have he:k≠i:=fun e=> hc20 ((pn ab).trans (by rw [e]))
   refine cf (an (aR rfl (ai (bc _ _ rfl rfl (bq ab)) ?_)))
   refine ba rfl (az (⟨k+1,?_,?_,?_⟩))
   ·exact ⟨by omega,by omega⟩
   ·skip
    refine Le.mkJ [] [] rfl ?_ ?_ trivial trivial ?_
    ·exact ⟨(iV rfl),(iP rfl),(cj ag),trivial⟩
    ·exact ⟨(cG rfl rfl rfl),trivial⟩
    ·kernel_rfl
   ·omega
 ·skip
  refine bL (id (hK2 _ ?_))
  clear hK2;try clear K2
  refine aq (am (ba rfl (aj (au ?_))))
  refine bC (α:=Nat) (fun q=> q≤v.length∧d.length+q≤i) 41 [(1,_),(2,_)] [((2,0),_)] (fun q=> [(6, .v (.int .i64 (q:Int)))]) (fun q=> []) [] [] (fun q=> v.length - q) 0 ?_ (by
   refine Le.mkJ [] [] rfl ?_ ?_ trivial trivial ?_
   ·exact ⟨(iV rfl),(iP rfl),(cj ag),trivial⟩
   ·exact ⟨(cG rfl rfl rfl),trivial⟩
   ·kernel_rfl) ?_
  ·exact ⟨Nat.zero_le _,by omega⟩
  intro q hq
  obtain ⟨hq,hqi⟩:=hq
  refine aG fun K11 hK11=> ?_
  refine am (aR rfl (bF rfl rfl rfl (fK rfl rfl rfl (ai (bG _ aa rfl) (ai (bp _ _ rfl rfl rfl) (aj (aV rfl (fun hc26=> ?_) (fun hc26=> ?_))))))))
  ·skip
   refine bA (hK11 _ ?_)
   clear hK11;try clear K11
   refine aq (au (am (bF rfl rfl rfl (fK rfl rfl rfl (aR rfl (ai (bf _ _ aa rfl rfl _ rfl ab (by (simp only [aZ,bm,bl,bw,bv,bJ,bz,List.length_map];omega)) (by exact Nat.mul_one _)) ?_))))))
   refine ai (bB _ aa rfl (by exact fv _ _ ab) rfl) ?_
   refine dJ rfl (ai (aT _ _ Tryz.underlying9 rfl rfl rfl) (aj (aV rfl (fun hc35=> ?_) (fun hc35=> ?_))))
   ·skip
    have he:d.length+q=i:=li hn ab hi (getD_right.symm.trans hc35)
    refine am (bF rfl rfl rfl (fK rfl rfl rfl (ai (bG _ aa rfl) (aR rfl (ai (bc _ _ rfl rfl (bq ab)) ?_)))))
    refine ba rfl (aj (aC (aY (.inr rfl) rfl (.tmp (rfl:_=AV.v (.int _ _))) (Le.out [] [] (cj ?_) rfl rfl rfl trivial trivial))))
    omega
   ·skip
    have he:d.length+q≠i:=fun e=> hc35 (getD_right.trans (by rw [e]))
    refine cf (an (aR rfl (ai (bc _ _ rfl rfl (bq ab)) ?_)))
    refine ba rfl (az (⟨q+1,?_,?_,?_⟩))
    ·exact ⟨by omega,by omega⟩
    ·skip
     refine Le.mkJ [] [] rfl ?_ ?_ trivial trivial ?_
     ·exact ⟨(iV rfl),(iP rfl),(cj ag),trivial⟩
     ·exact ⟨(cG rfl rfl rfl),trivial⟩
     ·kernel_rfl
    ·omega
  ·skip
   exact absurd hqi ab
theorem zg (ons:List (Nat×Bk)) (nm:List Tx) (k:Nat) (h:k < ons.length):mw (ons.map fun p=> (p.1,jB nm p.2)) k=((ons[k]).1,jB nm (ons[k]).2):=by
 rw [mo _ _ (by simpa using h),List.getElem_map]
theorem rP (l:List Hd) (k:Nat) (h:k < l.length):PV.ups (((ll l).drop (k*5+1)).take 4)=[.v (.int .i64 ((mw l k).2.k:Int)), .v (.int .i64 ((mw l k).2.n:Int)), .v (bt (mw l k).2.s), .sl (mw l k).2.kn (mw l k).2.kids]:=by
 have e:=oM wE 5 (fun _=> rfl) l k h
 have:((ll l).drop (k*5+1)).take 4=(((l.flatMap wE).drop (k*5)).take 5).drop 1:=by
  rw [List.drop_take,List.drop_drop];rfl
 rw [this,e,mo l k h];rfl
theorem oN (d v:List Tx) (ons:List (Nat×Bk)) (hn:(d++v).Nodup) (hl:(d++v).length≤16) (ho: ∀ p∈ons,ii (d++v).length p.2) (hw: ∀ p∈ons,nR p.2=true) (hc:ons.length≤1000):
  Spec Tryz.prog 97 (bi [EM d v (ons.map fun p=> (p.1,jB (d++v) p.2))] []) (aW (.v (.int .i64 0)) []):=by
 obtain ⟨H,hH⟩: ∃ H,H=ons.map fun p=> (p.1,jB (d++v) p.2):=⟨_,rfl⟩
 have hHl:H.length=ons.length:=by rw [hH,List.length_map]
 rw [← hH]
 have hHk: ∀ k (h:k < ons.length),mw H k=((ons[k]).1,jB (d++v) (ons[k]).2):=fun k h=> by rw [hH];exact zg ons _ k h
 clear hH
 refine Spec.ofN Tryz.func97 rfl Tryz.ntmps97 rfl ?_
 refine am (ai (bk (1,0) _ rfl rfl) (ba rfl (aj (aG fun K2 hK2=> ?_))))
 refine am (ba rfl (aj (au ?_)))
 refine bC (α:=Nat) (fun k=> k≤H.length) 43 [(1,_)] [((1,0),_)] (fun k=> [(3, .v (.int .i64 (k:Int)))]) (fun k=> []) [] [] (fun k=> H.length - k) 0 ?_ (by
  refine Le.mkJ [] [] rfl ?_ ?_ trivial trivial ?_
  ·exact ⟨(iP rfl),(cj ag),trivial⟩
  ·exact ⟨(cG rfl rfl rfl),trivial⟩
  ·kernel_rfl) ?_
 ·omega
 intro k hk
 refine aG fun K4 hK4=> ?_
 refine am (aR rfl (bF rfl rfl rfl (fK rfl rfl rfl (ai (bG _ aa rfl) (ai (bp _ _ rfl rfl rfl) (aj (aV rfl (fun hc11=> ?_) (fun hc11=> ?_))))))))
 ·skip
  have hk2:k < ons.length:=by omega
  obtain ⟨b,hb⟩: ∃ b,b=(ons[k]).2:=⟨_,rfl⟩
  have hkH:=hHk k hk2
  rw [← hb] at hkH
  have hwb:=BN (d++v) b (hb ▸ hw _ (List.getElem_mem hk2))
  obtain ⟨hnb,hng⟩:=yP hl b (hb ▸ ho _ (List.getElem_mem hk2)) [] GN.nil
  have hbody:=rP H k ab
  rw [hkH] at hbody
  generalize zB (d++v) b []=M at hnb hng
  have hMl:=hng.len
  refine bA (hK4 _ ?_)
  clear hK4;try clear K4
  refine aG fun K6 hK6=> ?_
  refine au (am (bF rfl rfl rfl (fK rfl rfl rfl (aR rfl (ai (bf _ _ aa rfl rfl _ rfl ab (by (simp only [aZ,bm,bl,bw,bv,bJ,bz,List.length_map];omega)) ag) ?_)))))
  refine ai (di _ aa rfl rfl) (ai (cg _ aa rfl (by exact hbody) rfl) ?_)
  refine ai (aJ aa al (hwb) rfl rfl) ?_
  refine cq rfl (aj (aq (am (cH rfl (ai (cN (r:=false) _ rfl rfl) (aj (aQ rfl rfl (aI (aq ?_)))))))))
  refine aM (σ':=aB 43 [(1,_),(3,_)] [((1,0),_)] [] []) kp ?_
  refine an (bF rfl rfl rfl (fK rfl rfl rfl (aR rfl (ai (bf _ _ aa rfl rfl _ rfl ab (by (simp only [aZ,bm,bl,bw,bv,bJ,bz,List.length_map];omega)) ag) ?_))))
  refine ai (di _ aa rfl rfl) (ai (cg _ aa rfl (by exact hbody) rfl) ?_)
  refine ai (aJ aa al (hnb) rfl rfl) ?_
  refine jO rfl (aj (am (ba rfl (aj (au ?_)))))
  refine bC (α:=Nat) (fun q=> q≤M.length) 43 [(1,_),(3,_),(5,_)] [((1,0),_)] (fun q=> [(6, .v (.int .i64 (q:Int)))]) (fun q=> []) [] [] (fun q=> M.length - q) 0 ?_ (by
   refine Le.mkJ [] [] rfl ?_ ?_ trivial trivial ?_
   ·exact ⟨(iP rfl),(iV rfl),(iS rfl),(cj ag),trivial⟩
   ·exact ⟨(cG rfl rfl rfl),trivial⟩
   ·kernel_rfl) ?_
  ·omega
  intro q hq
  refine aG fun K12 hK12=> ?_
  refine am (aR rfl (ep rfl (ai (bG _ aa rfl) (ai (bp _ _ rfl rfl rfl) (aj (aV rfl (fun hc33=> ?_) (fun hc33=> ?_)))))))
  ·skip
   obtain ⟨i,hi,hiq⟩: ∃ i,i < (d++v).length∧M.getD q []=(d++v).getD i []:=by
    have hm:=hng.2 _ (iX (show q < M.length by omega))
    obtain ⟨i,hi,he⟩:=List.getElem_of_mem hm
    exact ⟨i,hi,by rw [List.getD_eq_getElem?_getD (l:=d++v),List.getElem?_eq_getElem hi,← he];rfl⟩
   have hix:=lj d v (ll H) H.length hn ab i hi
   rw [← hiq] at hix
   refine bA (hK12 _ ?_)
   clear hK12;try clear K12
   refine aq (au (aq ?_))
   refine aM (σ':=aB 43 [(1,_),(3,_),(5,_),(6,_)] [((1,0),_)] [] []) kp ?_
   refine bE 7 [36,37,38,39,40,41,42] [] ae ae rfl (aL rfl) (rfl:_=[_,_,_,_,_,_,_]) (rfl:_=[]) ?_
   refine ap (_,[]) (fun τ=> aP _ aa rfl rfl rfl rfl) ?_
   refine eL rfl ?_
   refine ap (_,[]) (fun τ=> aD _ (rfl:_=AV.sl _ _)) ?_
   refine eK rfl ?_
   refine ap (_,[]) (fun τ=> aD _ (rfl:_=AV.v (.int _ _))) ?_
   refine eM rfl ?_
   refine ap (_,[]) (fun τ=> bf _ _ aa rfl rfl _ rfl ab (by (simp only [aZ,bm,bl,bw,bv,bJ,bz,List.length_map];omega)) (by exact Nat.mul_one _)) ?_
   refine eP rfl ?_
   refine ap (_,[]) (fun τ=> bB _ aa rfl (by exact fv _ _ ab) rfl) ?_
   refine fe rfl ?_
   refine ap (_,[]) (fun τ=> (aJ aa al (hix) rfl rfl)) ?_
   refine fB rfl ?_
   refine ap (_,[]) (fun τ=> bp (r:=false) _ _ rfl rfl (decide_eq_false ab)) ?_
   refine gy rfl (bh ⟨rfl,?_⟩)
   refine aj (aQ rfl rfl (cf (an (aR rfl (ai (bc _ _ rfl rfl (bq ab)) ?_)))))
   refine ba rfl (az (⟨q+1,?_,?_,?_⟩))
   ·omega
   ·skip
    refine Le.mkJ [] [] rfl ?_ ?_ trivial trivial ?_
    ·exact ⟨(iP rfl),(iV rfl),(iS rfl),(cj ag),trivial⟩
    ·exact ⟨(cG rfl rfl rfl),trivial⟩
    ·kernel_rfl
   ·omega
  ·skip
   refine bL (id (hK6 _ ?_))
   clear hK6;try clear K6
   refine an (aR rfl (ai (bc _ _ rfl rfl (bq ab)) ?_))
   refine ba rfl (az (⟨k+1,?_,?_,?_⟩))
   ·omega
   ·skip
    refine Le.mkJ [] [] rfl ?_ ?_ trivial trivial ?_
    ·exact ⟨(iP rfl),(cj ag),trivial⟩
    ·exact ⟨(cG rfl rfl rfl),trivial⟩
    ·kernel_rfl
   ·omega
 ·skip
  refine bL (id (hK2 _ ?_))
  clear hK2;try clear K2
  exact am (ba rfl (aj (aC (aY (.inr rfl) rfl (.tmp (rfl:_=AV.v _)) (Le.out [] [] .v rfl rfl rfl trivial trivial)))))

theorem lm (C:List ek):((inl C).drop 0).take (C.length*2)=inl C:=List.take_of_length_le (by rw [List.drop_zero,bK];exact Nat.le_refl _)
theorem jC (C:List ek):0+C.length*2≤(inl C).length:=by rw [bK,Nat.zero_add];exact Nat.le_refl _
theorem wq (l:List Tx) (n:Nat) (hn:l.length=n) (h1:n≤1000) (hd:l.Nodup) (i:Nat) (hi:i < n):Spec Tryz.prog 122 (bi [.sl n (dU l), .v (bt (l.getD i []))] []) (aW (.v (.int .i64 (i:Int))) []):=by
 refine Spec.ofN Tryz.func122 rfl Tryz.ntmps122 rfl ?_
 refine am (ba rfl (aj (aq (am (ba rfl (aj (au ?_)))))))
 refine bC (α:=Nat) (fun k=> k≤n∧k≤i) 19 [(0,_),(1,_)] [] (fun k=> [(5, .v (.int .i64 (k:Int)))]) (fun k=> []) [] [] (fun k=> n - k) 0 ?_ (by
  refine Le.mkJ [] [] rfl ?_ ?_ trivial trivial ?_
  ·exact ⟨(iS rfl),(iV rfl),(cj ag),trivial⟩
  ·exact trivial
  ·kernel_rfl) ?_
 ·exact ⟨Nat.zero_le _,Nat.zero_le _⟩
 intro k hk
 obtain ⟨hk,hki⟩:=hk
 refine aG fun K4 hK4=> ?_
 refine am (aR rfl (ep rfl (ai (bG _ aa rfl) (ai (bp _ _ rfl rfl rfl) (aj (aV rfl (fun hc9=> ?_) (fun hc9=> ?_)))))))
 ·skip
  refine bA (hK4 _ ?_)
  clear hK4;try clear K4
  refine aq (au (am (ep rfl (aR rfl (ai (bf _ _ aa rfl rfl _ rfl ab (by (simp only [aZ,bm,bl,bw,bv,bJ,bz,bK];omega)) (by exact Nat.mul_one _)) ?_)))))
  refine ai (bB _ aa rfl (by exact fv _ _ ab) rfl) ?_
  refine dJ rfl (ai (aT _ _ Tryz.underlying9 rfl rfl rfl) (aj (aV rfl (fun hc17=> ?_) (fun hc17=> ?_))))
  ·skip
   have he:k=i:=li hd ab ab hc17
   refine am (aR rfl (ba rfl (aj (aC (aY (.inr rfl) rfl (.tmp (rfl:_=AV.v (.int _ _))) (Le.out [] [] (cj ?_) rfl rfl rfl trivial trivial))))))
   rw [he]
  ·skip
   have he:k≠i:=fun e=> hc17 (by rw [e])
   refine cf (an (aR rfl (ai (bc _ _ rfl rfl (bq ab)) ?_)))
   refine ba rfl (az (⟨k+1,?_,?_,?_⟩))
   ·exact ⟨by omega,by omega⟩
   ·skip
    refine Le.mkJ [] [] rfl ?_ ?_ trivial trivial ?_
    ·exact ⟨(iS rfl),(iV rfl),(cj ag),trivial⟩
    ·exact trivial
    ·kernel_rfl
   ·omega
 ·skip
  exact absurd hki ab
theorem mY:Spec Tryz.prog 123 (bi [] []) (aW (.sl 9 (dU bltT)) []):=by
 refine Spec.ofN Tryz.func123 rfl Tryz.ntmps123 rfl ?_
 refine am (ai (bH _ (rfl:_=AV.v (.slice _ _ _))) (aj (am (ai (aU _ _ aa rfl ag (by (simp <;> rfl)) ah rfl) ?_))))
 exact jO rfl (aj (aC (aY (.inr rfl) rfl (.tmp (rfl:_=AV.sl _ _)) (Le.out [] [] .sl rfl rfl rfl trivial trivial))))
theorem xM:Spec Tryz.prog 126 (bi [.v (bt [43])] []) (aW (.sl (Bo.add).code.length (inl (Bo.add).code)) []):=by
 refine Spec.ofN Tryz.func126 rfl Tryz.ntmps126 rfl ?_
 refine am (ai (bH _ (rfl:_=AV.v (.slice _ _ _))) (aj (aq (am (dJ rfl (aj (au (am (ai (aT (r:=true) _ _ Tryz.underlying9 rfl rfl rfl) (cq rfl ?_))))))))))
 refine aj (bD rfl rfl (am (ai (aA _ aa rfl (by exact (rfl:_=some [_,_]))) ?_)))
 refine ai (aU _ _ aa rfl ag (by (simp <;> rfl)) ah rfl) ?_
 exact jO rfl (aj (aC (aY (.inr rfl) rfl (.tmp (rfl:_=AV.sl _ _)) (Le.out [] [] .sl rfl rfl rfl trivial trivial))))
theorem xg:Spec Tryz.prog 126 (bi [.v (bt [45])] []) (aW (.sl (Bo.sub).code.length (inl (Bo.sub).code)) []):=by
 refine Spec.ofN Tryz.func126 rfl Tryz.ntmps126 rfl ?_
 refine am (ai (bH _ (rfl:_=AV.v (.slice _ _ _))) (aj (aq (am (dJ rfl (aj (au (am (ai (aT (r:=false) _ _ Tryz.underlying9 rfl rfl rfl) (cq rfl ?_))))))))))
 refine aj (aQ rfl rfl (am (ai (aT (r:=true) _ _ Tryz.underlying9 rfl rfl rfl) (cq rfl (aj (bD rfl rfl (am (ai (aA _ aa rfl (by exact (rfl:_=some [_,_]))) ?_))))))))
 refine ai (aU _ _ aa rfl ag (by (simp <;> rfl)) ah rfl) ?_
 exact jO rfl (aj (aC (aY (.inr rfl) rfl (.tmp (rfl:_=AV.sl _ _)) (Le.out [] [] .sl rfl rfl rfl trivial trivial))))
theorem yU:Spec Tryz.prog 126 (bi [.v (bt [42])] []) (aW (.sl (Bo.mul).code.length (inl (Bo.mul).code)) []):=by
 refine Spec.ofN Tryz.func126 rfl Tryz.ntmps126 rfl ?_
 refine am (ai (bH _ (rfl:_=AV.v (.slice _ _ _))) (aj (aq (am (dJ rfl (aj (au (am (ai (aT (r:=false) _ _ Tryz.underlying9 rfl rfl rfl) (cq rfl ?_))))))))))
 refine aj (aQ rfl rfl (am (ai (aT (r:=false) _ _ Tryz.underlying9 rfl rfl rfl) (cq rfl (aj (aQ rfl rfl (am (ai (aT (r:=true) _ _ Tryz.underlying9 rfl rfl rfl) (cq rfl (aj ?_))))))))))
 refine bD rfl rfl (am (ai (aA _ aa rfl (by exact (rfl:_=some [_,_]))) ?_))
 refine ai (aU _ _ aa rfl ag (by (simp <;> rfl)) ah rfl) ?_
 exact jO rfl (aj (aC (aY (.inr rfl) rfl (.tmp (rfl:_=AV.sl _ _)) (Le.out [] [] .sl rfl rfl rfl trivial trivial))))
theorem yG:Spec Tryz.prog 126 (bi [.v (bt [47])] []) (aW (.sl (Bo.div).code.length (inl (Bo.div).code)) []):=by
 refine Spec.ofN Tryz.func126 rfl Tryz.ntmps126 rfl ?_
 refine am (ai (bH _ (rfl:_=AV.v (.slice _ _ _))) (aj (aq (am (dJ rfl (aj (au (am (ai (aT (r:=false) _ _ Tryz.underlying9 rfl rfl rfl) (cq rfl ?_))))))))))
 refine aj (aQ rfl rfl (am (ai (aT (r:=false) _ _ Tryz.underlying9 rfl rfl rfl) (cq rfl (aj (aQ rfl rfl (am (ai (aT (r:=false) _ _ Tryz.underlying9 rfl rfl rfl) (cq rfl (aj ?_))))))))))
 refine aQ rfl rfl (am (ai (aT (r:=true) _ _ Tryz.underlying9 rfl rfl rfl) (cq rfl (aj (bD rfl rfl (am (ai (aA _ aa rfl (by exact (rfl:_=some [_,_]))) ?_)))))))
 refine ai (aU _ _ aa rfl ag (by (simp <;> rfl)) ah rfl) ?_
 exact jO rfl (aj (aC (aY (.inr rfl) rfl (.tmp (rfl:_=AV.sl _ _)) (Le.out [] [] .sl rfl rfl rfl trivial trivial))))
theorem AW:Spec Tryz.prog 126 (bi [.v (bt [60])] []) (aW (.sl (Bo.lt).code.length (inl (Bo.lt).code)) []):=by
 refine Spec.ofN Tryz.func126 rfl Tryz.ntmps126 rfl ?_
 refine am (ai (bH _ (rfl:_=AV.v (.slice _ _ _))) (aj (aq (am (dJ rfl (aj (au (am (ai (aT (r:=false) _ _ Tryz.underlying9 rfl rfl rfl) (cq rfl ?_))))))))))
 refine aj (aQ rfl rfl (am (ai (aT (r:=false) _ _ Tryz.underlying9 rfl rfl rfl) (cq rfl (aj (aQ rfl rfl (am (ai (aT (r:=false) _ _ Tryz.underlying9 rfl rfl rfl) (cq rfl (aj ?_))))))))))
 refine aQ rfl rfl (am (ai (aT (r:=false) _ _ Tryz.underlying9 rfl rfl rfl) (cq rfl (aj (aQ rfl rfl (am (ai (aT (r:=true) _ _ Tryz.underlying9 rfl rfl rfl) (cq rfl (aj (bD rfl rfl ?_))))))))))
 refine am (ai (aA _ aa rfl (by exact (rfl:_=some [_,_]))) ?_)
 refine ai (aU _ _ aa rfl ag (by (simp <;> rfl)) ah rfl) ?_
 exact jO rfl (aj (aC (aY (.inr rfl) rfl (.tmp (rfl:_=AV.sl _ _)) (Le.out [] [] .sl rfl rfl rfl trivial trivial))))
theorem zF:Spec Tryz.prog 126 (bi [.v (bt [60,61])] []) (aW (.sl (Bo.le).code.length (inl (Bo.le).code)) []):=by
 refine Spec.ofN Tryz.func126 rfl Tryz.ntmps126 rfl ?_
 refine am (ai (bH _ (rfl:_=AV.v (.slice _ _ _))) (aj (aq (am (dJ rfl (aj (au (am (ai (aT (r:=false) _ _ Tryz.underlying9 rfl rfl rfl) (cq rfl ?_))))))))))
 refine aj (aQ rfl rfl (am (ai (aT (r:=false) _ _ Tryz.underlying9 rfl rfl rfl) (cq rfl (aj (aQ rfl rfl (am (ai (aT (r:=false) _ _ Tryz.underlying9 rfl rfl rfl) (cq rfl (aj ?_))))))))))
 refine aQ rfl rfl (am (ai (aT (r:=false) _ _ Tryz.underlying9 rfl rfl rfl) (cq rfl (aj (aQ rfl rfl (am (ai (aT (r:=false) _ _ Tryz.underlying9 rfl rfl rfl) (cq rfl (aj (aQ rfl rfl ?_))))))))))
 refine am (ai (aT (r:=true) _ _ Tryz.underlying9 rfl rfl rfl) (cq rfl (aj (bD rfl rfl (am (ai (aA _ aa rfl (by exact (rfl:_=some [_,_]))) ?_))))))
 refine ai (aU _ _ aa rfl ag (by (simp <;> rfl)) ah rfl) ?_
 exact jO rfl (aj (aC (aY (.inr rfl) rfl (.tmp (rfl:_=AV.sl _ _)) (Le.out [] [] .sl rfl rfl rfl trivial trivial))))
theorem BM:Spec Tryz.prog 126 (bi [.v (bt [61,61])] []) (aW (.sl (Bo.eq).code.length (inl (Bo.eq).code)) []):=by
 refine Spec.ofN Tryz.func126 rfl Tryz.ntmps126 rfl ?_
 refine am (ai (bH _ (rfl:_=AV.v (.slice _ _ _))) (aj (aq (am (dJ rfl (aj (au (am (ai (aT (r:=false) _ _ Tryz.underlying9 rfl rfl rfl) (cq rfl ?_))))))))))
 refine aj (aQ rfl rfl (am (ai (aT (r:=false) _ _ Tryz.underlying9 rfl rfl rfl) (cq rfl (aj (aQ rfl rfl (am (ai (aT (r:=false) _ _ Tryz.underlying9 rfl rfl rfl) (cq rfl (aj ?_))))))))))
 refine aQ rfl rfl (am (ai (aT (r:=false) _ _ Tryz.underlying9 rfl rfl rfl) (cq rfl (aj (aQ rfl rfl (am (ai (aT (r:=false) _ _ Tryz.underlying9 rfl rfl rfl) (cq rfl (aj (aQ rfl rfl ?_))))))))))
 refine am (ai (aT (r:=false) _ _ Tryz.underlying9 rfl rfl rfl) (cq rfl (aj (aQ rfl rfl (am (ai (aT (r:=true) _ _ Tryz.underlying9 rfl rfl rfl) (cq rfl (aj (bD rfl rfl (aq ?_))))))))))
 refine aM (σ':=aB 45 [] [] [] []) kp ?_
 refine an (ai (aA _ aa rfl (by exact (rfl:_=some [_,_]))) ?_)
 refine ai (aU _ _ aa rfl ag (by (simp <;> rfl)) ah rfl) ?_
 exact jO rfl (aj (aC (aY (.inr rfl) rfl (.tmp (rfl:_=AV.sl _ _)) (Le.out [] [] .sl rfl rfl rfl trivial trivial))))
theorem AJ:Spec Tryz.prog 126 (bi [.v (bt [62])] []) (aW (.sl (Bo.gt).code.length (inl (Bo.gt).code)) []):=by
 refine Spec.ofN Tryz.func126 rfl Tryz.ntmps126 rfl ?_
 refine am (ai (bH _ (rfl:_=AV.v (.slice _ _ _))) (aj (aq (am (dJ rfl (aj (au (am (ai (aT (r:=false) _ _ Tryz.underlying9 rfl rfl rfl) (cq rfl ?_))))))))))
 refine aj (aQ rfl rfl (am (ai (aT (r:=false) _ _ Tryz.underlying9 rfl rfl rfl) (cq rfl (aj (aQ rfl rfl (am (ai (aT (r:=false) _ _ Tryz.underlying9 rfl rfl rfl) (cq rfl (aj ?_))))))))))
 refine aQ rfl rfl (am (ai (aT (r:=false) _ _ Tryz.underlying9 rfl rfl rfl) (cq rfl (aj (aQ rfl rfl (am (ai (aT (r:=false) _ _ Tryz.underlying9 rfl rfl rfl) (cq rfl (aj (aQ rfl rfl ?_))))))))))
 refine am (ai (aT (r:=false) _ _ Tryz.underlying9 rfl rfl rfl) (cq rfl (aj (aQ rfl rfl (am (ai (aT (r:=false) _ _ Tryz.underlying9 rfl rfl rfl) (cq rfl (aj (aQ rfl rfl (aq ?_))))))))))
 refine aM (σ':=aB 45 [(3,_)] [] [] []) kp ?_
 refine an (ai (aT (r:=true) _ _ Tryz.underlying9 rfl rfl rfl) (cq rfl (aj (bD rfl rfl (am (ai (aA _ aa rfl (by exact (rfl:_=some [_,_]))) ?_))))))
 refine ai (aA _ aa rfl (by exact (rfl:_=some [_,_]))) ?_
 refine ai (aU _ _ aa rfl ag (by (simp <;> rfl)) ah rfl) ?_
 exact jO rfl (aj (aC (aY (.inr rfl) rfl (.tmp (rfl:_=AV.sl _ _)) (Le.out [] [] .sl rfl rfl rfl trivial trivial))))
theorem AU:Spec Tryz.prog 126 (bi [.v (bt [62,61])] []) (aW (.sl (Bo.ge).code.length (inl (Bo.ge).code)) []):=by
 refine Spec.ofN Tryz.func126 rfl Tryz.ntmps126 rfl ?_
 refine am (ai (bH _ (rfl:_=AV.v (.slice _ _ _))) (aj (aq (am (dJ rfl (aj (au (am (ai (aT (r:=false) _ _ Tryz.underlying9 rfl rfl rfl) (cq rfl ?_))))))))))
 refine aj (aQ rfl rfl (am (ai (aT (r:=false) _ _ Tryz.underlying9 rfl rfl rfl) (cq rfl (aj (aQ rfl rfl (am (ai (aT (r:=false) _ _ Tryz.underlying9 rfl rfl rfl) (cq rfl (aj ?_))))))))))
 refine aQ rfl rfl (am (ai (aT (r:=false) _ _ Tryz.underlying9 rfl rfl rfl) (cq rfl (aj (aQ rfl rfl (am (ai (aT (r:=false) _ _ Tryz.underlying9 rfl rfl rfl) (cq rfl (aj (aQ rfl rfl ?_))))))))))
 refine am (ai (aT (r:=false) _ _ Tryz.underlying9 rfl rfl rfl) (cq rfl (aj (aQ rfl rfl (am (ai (aT (r:=false) _ _ Tryz.underlying9 rfl rfl rfl) (cq rfl (aj (aQ rfl rfl (aq ?_))))))))))
 refine aM (σ':=aB 45 [(3,_)] [] [] []) kp ?_
 refine an (ai (aT (r:=false) _ _ Tryz.underlying9 rfl rfl rfl) (cq rfl (aj (aQ rfl rfl (am (ai (aT (r:=true) _ _ Tryz.underlying9 rfl rfl rfl) (cq rfl (aj (bD rfl rfl (am ?_))))))))))
 refine ai (aA _ aa rfl (by exact (rfl:_=some [_,_]))) ?_
 refine ai (aA _ aa rfl (by exact (rfl:_=some [_,_]))) ?_
 refine ai (aU _ _ aa rfl ag (by (simp <;> rfl)) ah rfl) ?_
 exact jO rfl (aj (aC (aY (.inr rfl) rfl (.tmp (rfl:_=AV.sl _ _)) (Le.out [] [] .sl rfl rfl rfl trivial trivial))))
theorem Ca:Spec Tryz.prog 126 (bi [.v (bt [33,61])] []) (aW (.sl (Bo.ne).code.length (inl (Bo.ne).code)) []):=by
 refine Spec.ofN Tryz.func126 rfl Tryz.ntmps126 rfl ?_
 refine am (ai (bH _ (rfl:_=AV.v (.slice _ _ _))) (aj (aq (am (dJ rfl (aj (au (am (ai (aT (r:=false) _ _ Tryz.underlying9 rfl rfl rfl) (cq rfl ?_))))))))))
 refine aj (aQ rfl rfl (am (ai (aT (r:=false) _ _ Tryz.underlying9 rfl rfl rfl) (cq rfl (aj (aQ rfl rfl (am (ai (aT (r:=false) _ _ Tryz.underlying9 rfl rfl rfl) (cq rfl (aj ?_))))))))))
 refine aQ rfl rfl (am (ai (aT (r:=false) _ _ Tryz.underlying9 rfl rfl rfl) (cq rfl (aj (aQ rfl rfl (am (ai (aT (r:=false) _ _ Tryz.underlying9 rfl rfl rfl) (cq rfl (aj (aQ rfl rfl ?_))))))))))
 refine am (ai (aT (r:=false) _ _ Tryz.underlying9 rfl rfl rfl) (cq rfl (aj (aQ rfl rfl (am (ai (aT (r:=false) _ _ Tryz.underlying9 rfl rfl rfl) (cq rfl (aj (aQ rfl rfl (aq ?_))))))))))
 refine aM (σ':=aB 45 [(3,_)] [] [] []) kp ?_
 refine an (ai (aT (r:=false) _ _ Tryz.underlying9 rfl rfl rfl) (cq rfl (aj (aQ rfl rfl (am (ai (aT (r:=false) _ _ Tryz.underlying9 rfl rfl rfl) (cq rfl (aj (aQ rfl rfl (cf ?_))))))))))
 refine am (ai (aA _ aa rfl (by exact (rfl:_=some [_,_]))) ?_)
 refine ai (aA _ aa rfl (by exact (rfl:_=some [_,_]))) ?_
 refine ai (aU _ _ aa rfl ag (by (simp <;> rfl)) ah rfl) ?_
 exact jO rfl (aj (aC (aY (.inr rfl) rfl (.tmp (rfl:_=AV.sl _ _)) (Le.out [] [] .sl rfl rfl rfl trivial trivial))))
theorem wd (o:Bo):Spec Tryz.prog 126 (bi [.v (bt o.txt)] []) (aW (.sl o.code.length (inl o.code)) []):=by
 cases o
 ·exact xM
 ·exact xg
 ·exact yU
 ·exact yG
 ·exact AW
 ·exact zF
 ·exact BM
 ·exact AJ
 ·exact AU
 ·exact Ca

abbrev Cd:=Nat→List ek
abbrev CoS (u:AV) (d:Nd) (c:Cd):Prop:= ∀ a,a+(c a).length≤1000000→Spec Tryz.prog 91 (bi [u,mQ d, .v (.int .i64 (a:Int))] []) (aW (.ref (0,8) 0 (c a).length) [((0,8), .row 48 2 (inl (c a)))])
def cM:List Cd→Nat→List ek
 | [],_=> []
 | c::cs,a=> c a++cM cs (a+(c a).length)
theorem oe: ∀ (l m:List Cd) (a:Nat),cM (l++m) a=cM l a++cM m (a+(cM l a).length)
 | [],m,a=> by simp [cM]
 | c::l,m,a=> by simp only [List.cons_append,cM,oe l m,List.append_assoc,List.length_append,Nat.add_assoc]
theorem wx {cs:List Cd} {j a:Nat} (h:j < cs.length):cM (cs.take (j+1)) a=cM (cs.take j) a++(cs.getD j fun _=> []) (a+(cM (cs.take j) a).length):=by
 rw [List.take_succ_eq_append_getElem h,oe]
 simp [cM,h]
theorem pj {cs:List Cd} {j a:Nat}:(cM (cs.take j) a).length≤(cM cs a).length:=by
 conv=> rhs;rw [← List.take_append_drop j cs,oe]
 rw [List.length_append];omega
abbrev kY (u:AV) (L:List Nd) (cs:List Cd):Prop:= ∀ j,j < L.length→CoS u (jA L j) (cs.getD j fun _=> [])
theorem BU {u:AV}:kY u [] []:=fun j hj=> by simp at hj
theorem vL {u:AV} {d:Nd} {c:Cd} {L:List Nd} {cs:List Cd} (h:CoS u d c) (h':kY u L cs):kY u (d::L) (c::cs):=fun j hj=> by
 cases j with
 | zero=> exact h
 | succ j=> exact h' j (by simpa using hj)
section
variable {d v:List Tx} {no:Nat} {on:List PV}
abbrev uu (d v:List Tx) (no:Nat) (on:List PV):AV:= .agg [.sl d.length (dU d), .sl v.length (dU v), .sl no on]
theorem dw (L:List Nd) (cs:List Cd) (hc:cs.length=L.length) (hk:kY (uu d v no on) L cs) (a:Nat) (ha:a+(cM cs a).length≤1000000):
  Spec Tryz.prog 125 (bi [uu d v no on, .sl L.length (kL L), .v (.int .i64 (a:Int))] []) (aW (.ref (0,8) 0 (cM cs a).length) [((0,8), .row 48 2 (inl (cM cs a)))]):=by
 refine Spec.ofN Tryz.func125 rfl Tryz.ntmps125 rfl ?_
 refine aq ?_
 refine El 1 rfl rfl fun hlen=> ?_
 unfold maxLen at hlen
 refine an (ai (bk (3,0) _ rfl rfl) (ai (bH _ (rfl:_=AV.v (.slice _ _ _))) (aj (am (ai (nZ (7,0) _ 48 2 rfl rfl) ?_)))))
 refine aj (aG fun K3 hK3=> ?_)
 refine am (ba rfl (aj (au ?_)))
 refine bC (α:=Nat) (fun j=> j≤L.length) 28 [(1,_),(2,_),(3,_)] [((3,0),_)] (fun j=> [(8, .v (.int .i64 (j:Int))),(7, .ref (7,0) 0 (cM (cs.take j) a).length)]) (fun j=> [((7,0), .row 48 2 (inl (cM (cs.take j) a)))]) [] [] (fun j=> L.length - j) 0 ?_ (by
  refine Le.mkJ [] [] rfl ?_ ?_ trivial trivial ?_
  ·exact ⟨(iS rfl),(iV rfl),(iP rfl),(cj ag),(dc rfl ag),trivial⟩
  ·exact ⟨(cG rfl rfl rfl),(gH rfl rfl rfl ag),trivial⟩
  ·kernel_rfl) ?_
 ·omega
 intro j hj
 have htk:(cM (cs.take j) a).length≤(cM cs a).length:=pj
 refine aG fun K5 hK5=> ?_
 refine am (aR rfl (ep rfl (ai (bG _ aa rfl) (ai (bp _ _ rfl rfl rfl) (aj (aV rfl (fun hc12=> ?_) (fun hc12=> ?_)))))))
 ·skip
  have hs:=wx (cs:=cs) (j:=j) (a:=a) ab
  have htk1:(cM (cs.take (j+1)) a).length≤(cM cs a).length:=pj
  have hsl:=congrArg List.length hs
  rw [List.length_append] at hsl
  have hcj:=hk j ab (a+(cM (cs.take j) a).length) ab
  generalize (cs.getD j fun _=> []) (a+(cM (cs.take j) a).length)=C at hs hsl hcj
  refine bA (hK5 _ ?_)
  clear hK5;try clear K5
  refine aq (au ?_)
  refine aM (σ':=aB 28 [(1,_),(2,_),(3,_),(7,_),(8,_)] [((3,0),_),((7,0),_)] [] []) kp ?_
  refine bE 11 [15,16,17,18,19,20,21,22,23,24,25] [(50,0)] ae ae rfl (aL rfl) (rfl:_=[_,_,_,_,_,_,_,_,_,_,_]) (rfl:_=[_,_]) ?_
  refine ap (_,[]) (fun τ=> aD _ (rfl:_=AV.ref _ _ _)) ?_
  refine eL rfl ?_
  refine ap (_,[]) (fun τ=> aP _ aa rfl rfl rfl rfl) ?_
  refine eK rfl ?_
  refine ap (_,[]) (fun τ=> aD _ (rfl:_=AV.sl _ _)) ?_
  refine eM rfl ?_
  refine ap (_,[]) (fun τ=> aD _ (rfl:_=AV.v (.int _ _))) ?_
  refine eP rfl ?_
  refine ap (_,[]) (fun τ=> bf _ _ aa rfl rfl _ rfl ab (by (simp only [aZ,bm,bl,bw,bv,bJ,bz,bK];omega)) ag) ?_
  refine fe rfl ?_
  refine ap (_,[]) (fun τ=> cg _ aa rfl (by exact cE _ _ ab) rfl) ?_
  refine fB rfl ?_
  refine ap (_,[]) (fun τ=> aD _ (rfl:_=AV.v (.int _ _))) ?_
  refine gy rfl ?_
  refine ap (_,[]) (fun τ=> aD _ (rfl:_=AV.ref _ _ _)) ?_
  refine jS rfl ?_
  refine ap (_,[]) (fun τ=> dz _ aa rfl rfl) ?_
  refine kd rfl ?_
  refine ap (_,[]) (fun τ=> bc _ _ rfl rfl (bq ab)) ?_
  refine fW rfl ?_
  refine ap (_,[((50,0),_)]) (fun τ=> (ef aa [((0,8),(50,0))] ar (hcj.toI) trivial tr tr rfl rfl ae ae)) ?_
  refine gA rfl (bh ⟨rfl,?_⟩)
  refine ai (dg (26,0) _ _ aa rfl rfl (bK _).symm (.ref rfl (lm _) (jC _)) ab rfl (kw _ _) hsl.symm) ?_
  refine eZ rfl (fT (an (aR rfl (ai (bc _ _ rfl rfl (bq ab)) ?_))))
  refine ba rfl (az (⟨j+1,?_,?_,?_⟩))
  ·omega
  ·skip
   refine Le.mkJ [((7,0),(26,0))] [] rfl ?_ ?_ trivial trivial ?_
   ·exact ⟨(by repeat' (exact Lv.sl)),(by repeat' (exact Lv.v)),(dL (id:=(3,0)) rfl),(cj ag),(dc rfl ag),trivial⟩
   ·exact ⟨(fH rfl rfl rfl rfl (by repeat' (first | exact Lv.sl | exact br | refine aH ?_ ?_))),(gH rfl rfl rfl (by (rw [hs]))),trivial⟩
   ·kernel_rfl
  ·omega
 ·skip
  obtain rfl:j=cs.length:=by omega
  rw [List.take_length]
  refine bL (id (hK3 _ ?_))
  clear hK3;try clear K3
  exact am (gG rfl (eZ rfl (aj (aC (aY (.inr rfl) rfl (.tmp (rfl:_=AV.ref _ _ _)) (Le.out [((0,8),(7,0))] [] (dc rfl rfl) rfl rfl rfl trivial ob))))))
theorem nq (N:Nd) (c:Cd) (h:CoS (uu d v no on) N c) (n:Int) (a:Nat) (ha:a+(c a).length≤1000000):
  Spec Tryz.prog 187 (bi [uu d v no on, .sl 1 (kL [N]), .v (.int .i64 n), .v (.int .i64 (a:Int))] []) (aW (.ref (0,8) 0 (c a).length) [((0,8), .row 48 2 (inl (c a)))]):=by
 have hc:=h a ha
 refine Spec.ofN Tryz.func187 rfl Tryz.ntmps187 rfl ?_
 refine am (ai (bk (4,0) _ rfl rfl) (ai (bH _ (rfl:_=AV.v (.slice _ _ _))) (aj (aq (am (ep rfl (ai (bG _ aa rfl) (ai (dq _ _ rfl rfl rfl) (aj (bD rfl rfl ?_))))))))))
 refine aq ?_
 refine aM (σ':=aB 21 [(1,_),(3,_),(4,_)] [((4,0),_)] [] []) kp ?_
 refine bE 5 [12,13,14,15,16] [] ae ae rfl (aL rfl) (rfl:_=[_,_,_,_,_]) (rfl:_=[_,_]) ?_
 refine ap (_,[]) (fun τ=> aP _ aa rfl rfl rfl rfl) ?_
 refine eL rfl ?_
 refine ap (_,[]) (fun τ=> aD _ (rfl:_=AV.sl _ _)) ?_
 refine eK rfl ?_
 refine ap (_,[]) (fun τ=> bf _ _ aa rfl rfl 0 rfl ab (by simp [kL,Nd.row]) rfl) ?_
 refine eM rfl ?_
 refine ap (_,[]) (fun τ=> cg _ aa rfl (by exact cE [N] 0 (by simp)) rfl) ?_
 refine eP rfl ?_
 refine ap (_,[]) (fun τ=> aD _ (rfl:_=AV.v (.int _ _))) ?_
 refine fe rfl (bh ⟨rfl,?_⟩)
 refine ai (dk aa [((0,8),(50,0))] ar (hc.toI) trivial tr ae) ?_
 exact eZ rfl (aj (aC (aY (.inr rfl) rfl (.tmp (rfl:_=AV.ref _ _ _)) (Le.out [((0,8),(50,0))] [] (dc rfl rfl) rfl rfl rfl trivial ob))))
theorem sg (n:Int) (a:Nat):
  Spec Tryz.prog 187 (bi [uu d v no on, .sl 0 [], .v (.int .i64 n), .v (.int .i64 (a:Int))] []) (aW (.ref (0,8) 0 1) [((0,8), .row 48 2 (inl [{ op:= .push,n:=n }]))]):=by
 refine Spec.ofN Tryz.func187 rfl Tryz.ntmps187 rfl ?_
 refine am (ai (bk (4,0) _ rfl rfl) (ai (bH _ (rfl:_=AV.v (.slice _ _ _))) (aj (aq (am (ep rfl (ai (bG _ aa rfl) (ai (dq _ _ rfl rfl rfl) (aj (aQ rfl rfl ?_))))))))))
 refine aI (am (aR rfl (ai (aA _ aa rfl (by exact (rfl:_=some [_,_]))) ?_)))
 refine ai (kf (20,0) _ _ aa rfl ag (by (simp <;> rfl)) ah rfl rfl) ?_
 exact eZ rfl (aj (aC (aY (.inr rfl) rfl (.tmp (rfl:_=AV.ref _ _ _)) (Le.out [((0,8),(20,0))] [] (dc rfl rfl) rfl rfl rfl trivial ob))))
def CE (c y z:Cd) (a:Nat):List ek:=
 c a++[{ op:= .unl,n:=((a+(c a).length+1+(y (a+(c a).length+1)).length+1:Nat):Int) }]++y (a+(c a).length+1)++
  [{ op:= .jump,n:=((a+(c a).length+1+(y (a+(c a).length+1)).length+1+(z (a+(c a).length+1+(y (a+(c a).length+1)).length+1)).length:Nat):Int) }]++z (a+(c a).length+1+(y (a+(c a).length+1)).length+1)
abbrev Qi (u:AV) (l:AV) (n:Int) (c:Cd):Prop:= ∀ a,a+(c a).length≤1000000→Spec Tryz.prog 187 (bi [u,l, .v (.int .i64 n), .v (.int .i64 (a:Int))] []) (aW (.ref (0,8) 0 (c a).length) [((0,8), .row 48 2 (inl (c a)))])
theorem jT (N:Nd) (c y z:Cd) (hc:CoS (uu d v no on) N c) (ly lz:Nat) (ys zs:List PV) (n:Int) (hy:Qi (uu d v no on) (.sl ly ys) n y) (hz:Qi (uu d v no on) (.sl lz zs) n z) (a:Nat) (ha:a+(CE c y z a).length≤1000000):
  Spec Tryz.prog 124 (bi [uu d v no on,mQ N, .sl ly ys, .sl lz zs, .v (.int .i64 n), .v (.int .i64 (a:Int))] []) (aW (.ref (0,8) 0 (CE c y z a).length) [((0,8), .row 48 2 (inl (CE c y z a)))]):=by
 have hb: ∃ b,b=CE c y z a:=⟨_,rfl⟩
 obtain ⟨b,hb⟩:=hb
 rw [← hb] at ha ⊢
 unfold CE at hb
 have hbl:=congrArg List.length hb
 simp only [List.length_append,List.length_cons,List.length_nil] at hbl
 have h1:=hc a ab
 generalize c a=C at h1 hb hbl
 have h2:=hy (a+C.length+1) ab
 generalize y (a+C.length+1)=Y at h2 hb hbl
 obtain ⟨f,hf⟩: ∃ f,f=a+C.length+1+Y.length+1:=⟨_,rfl⟩
 rw [← hf] at hb hbl
 have h3:=hz f ab
 generalize z f=Z at h3 hb hbl
 refine Spec.ofN Tryz.func124 rfl Tryz.ntmps124 rfl ?_
 refine am (ai (bk (6,0) _ rfl rfl) (ai (bk (7,0) _ rfl rfl) (ai (bH _ (rfl:_=AV.v (.slice _ _ _))) (aj (am (ai (aP _ aa rfl rfl rfl rfl) (ai (aP _ aa rfl rfl rfl rfl) (aR rfl (ai (dk aa [((0,8),(50,0))] ar (h1.toI) trivial tr ae) ?_)))))))))
 refine eZ rfl (aj (aG fun K3 hK3=> ?_))
 refine an (ai (aP _ aa rfl rfl rfl rfl) (ep rfl (aR rfl (aR rfl (gG rfl (ai (dz _ aa rfl rfl) (ai (bc _ _ rfl rfl (bq ab)) ?_)))))))
 refine ai (bc _ _ rfl rfl (bq ab)) ?_
 refine ai (dk aa [((0,8),(51,0))] ar (h2.toI) trivial tr ae) ?_
 refine eZ rfl (az (hK3 _ ?_))
 clear hK3;try clear K3
 refine aq ?_
 refine aM (σ':=aB 63 [(3,_),(4,_),(5,_),(6,_),(13,_),(14,_)] [((6,0),_),((50,0),_),((51,0),_)] [] []) kp ?_
 refine an (aR rfl (gG rfl (ai (dz _ aa rfl rfl) (ai (bc _ _ rfl rfl (bq ab)) ?_))))
 refine ai (bc _ _ rfl rfl (bq ab)) ?_
 refine gG rfl (ai (dz _ aa rfl rfl) (ai (bc _ _ rfl rfl (bq ab)) ?_))
 refine ai (bc (r:=(f:Int)) _ _ rfl rfl ((bq ab).trans ab)) ?_
 refine ba rfl (aj (aG fun K5 hK5=> ?_))
 refine an (ai (aP _ aa rfl rfl rfl rfl) (ep rfl (aR rfl (aR rfl (ai (dk aa [((0,8),(52,0))] ar (h3.toI) trivial tr ae) ?_)))))
 refine eZ rfl (az (hK5 _ ?_))
 clear hK5;try clear K5
 refine aq ?_
 refine aM (σ':=aB 63 [(13,_),(14,_),(15,_),(16,_)] [((50,0),_),((51,0),_),((52,0),_)] [] []) kp ?_
 refine an (gG rfl (aR rfl (ai (aA _ aa rfl (by exact (rfl:_=some [_,_]))) ?_)))
 refine ai (aU _ _ aa rfl ag (by (simp <;> rfl)) ah rfl) ?_
 refine ai (dg (48,0) _ _ aa rfl rfl (bK _).symm (.sl rfl) ab rfl (ey _ { op:= .unl,n:=f }) (show C.length+1=(C++[({ op:= .unl,n:=f }:ek)]).length by simp)) ?_
 refine eZ rfl (aj (am (gG rfl (gG rfl (ai (dg (51,1) _ _ aa rfl rfl (bK _).symm (.ref rfl (lm _) (jC _)) (by simp;omega) rfl (kw _ _) (show (C++[({ op:= .unl,n:=f }:ek)]).length+Y.length=(C++[({ op:= .unl,n:=f }:ek)]++Y).length by simp;omega)) ?_)))))
 refine eZ rfl (aj (am (gG rfl (aR rfl (gG rfl (ai (dz _ aa rfl rfl) (ai (bc _ _ rfl rfl (bq ab)) ?_)))))))
 refine ai (aA _ aa rfl (by exact (rfl:_=some [_,_]))) ?_
 refine ai (aU _ _ aa rfl ag (by (simp <;> rfl)) ah rfl) ?_
 refine ai (dg (59,0) _ _ aa rfl rfl (bK _).symm (.sl rfl) (by simp;omega) rfl (ey _ { op:= .jump,n:=((f+Z.length:Nat):Int) }) (show (C++[({ op:= .unl,n:=f }:ek)]++Y).length+1=(C++[({ op:= .unl,n:=f }:ek)]++Y++[({ op:= .jump,n:=((f+Z.length:Nat):Int) }:ek)]).length by simp;omega)) ?_
 refine eZ rfl (aj (aq ?_))
 refine aM (σ':=aB 63 [(13,_),(16,_)] [((52,0),_),((59,0),_)] [] []) kp ?_
 refine an (gG rfl (gG rfl (ai (dg (62,0) _ _ aa rfl rfl (bK _).symm (.ref rfl (lm _) (jC _)) (by simp;omega) rfl ((kw _ _).trans (congrArg inl hb.symm)) (show _+Z.length=b.length by simp;omega)) ?_)))
 exact eZ rfl (aj (aC (aY (.inr rfl) rfl (.tmp (rfl:_=AV.ref _ _ _)) (Le.out [((0,8),(62,0))] [] (dc rfl rfl) rfl rfl rfl trivial ob))))
end
end Go.Proofs.YtmjnackchaahbaaGreat
