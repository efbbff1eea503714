/- Part 12 of the texts that the walk leans on: the machine, the walks, the plain laws. -/
import Derived.Test.YtmjnackchaahbaaGreatVwZ11
set_option linter.unusedSimpArgs false
set_option linter.unusedVariables false
namespace Go.Proofs.YtmjnackchaahbaaGreat
open Go.RowKit

theorem nl: ∀ e,eK e≤2
 | .int _=> by simp [eK] | .bool _=> by simp [eK] | .var _=> by simp [eK] | .name _=> by simp [eK]
 | .draw e=> by simp only [eK];split <;> omega
 | .neg e=> by simp only [eK];split <;> omega
 | .not e=> by simp only [eK];split <;> omega
 | .bin o a b=> by cases o <;> simp only [eK] <;> split <;> omega
 | .and a b=> by simp only [eK];split <;> omega
 | .or a b=> by simp only [eK];split <;> omega
def rK (a b:Ex) (j:Nat):Nat:=if j=0 then eK a else eK b
theorem np (a b:Ex) (j:Nat):rK a b j≤2:=by unfold rK;split <;> exact nl _
theorem nh {a b:Ex} {op j:Nat} (hj:j < 2) (h:rK a b j≠op): ¬ (eK a=op∧eK b=op):=fun e=> by
 have:j=0∨j=1:=by omega
 rcases this with rfl | rfl
 ·exact h e.1
 ·exact h e.2
theorem rT (o:Bo):o.txt∉([[38,38],[124,124]]:List Tx):=by cases o <;> decide
def KH:Bo→Nat | .add=> 1 | .sub=> 1 | .mul=> 1 | .div=> 1 | _=> 2
abbrev tu (d:Nd) (t:Nat):Prop:=Spec Tryz.prog 203 (bj [mN d] []) (aW (.v (.int .i64 (t:Int))) [])
theorem qa {d:Nd} {t:Nat} (h:tu d t): ∀ j,j < [d].length→tu (jy [d] j) t:=fun j hj=> by
 have:j=0:=by simpa using hj
 subst this
 exact h
theorem nS {d e:Nd} {a b:Ex} (h1:tu d (eK a)) (h2:tu e (eK b)): ∀ j,j < [d,e].length→tu (jy [d,e] j) (rK a b j):=fun j hj=> by
 have hj:j < 2:=hj
 have:j=0∨j=1:=by omega
 rcases this with rfl | rfl
 ·exact h1
 ·exact h2
theorem dT (nm:List Tx): ∀ e:Ex,tu (dP nm e) (eK e)
 | .int n=> DO n.toNat
 | .bool b=> BI (if b then 1 else 0)
 | .var i=> Eo (nm.getD i [])
 | .name k=> Ca (bltT.getD k [])
 | .draw e=> Br [dP nm e] (by simp) (fun _=> eK e) (fun _=> nl e) (qa (dT nm e)) _ (fun h=> if_pos (h 0 (by simp))) (fun _ _ h=> if_neg h)
 | .neg e=> DP [dP nm e] (by simp) (fun _=> eK e) (fun _=> nl e) (qa (dT nm e)) _ (fun h=> if_pos (h 0 (by simp))) (fun _ _ h=> if_neg h)
 | .not e=> DG [dP nm e] (by simp) (fun _=> eK e) (fun _=> nl e) (qa (dT nm e)) _ (fun h=> if_pos (h 0 (by simp))) (fun _ _ h=> if_neg h)
 | .and a b=> rf [38,38] ah ah [dP nm a,dP nm b] (by simp) (rK a b) (np a b) (nS (dT nm a) (dT nm b)) _ (fun h=> if_pos ⟨h 0 (by simp),h 1 (by simp)⟩) (fun _ hj h=> if_neg (nh hj h))
 | .or a b=> rf [124,124] ah ah [dP nm a,dP nm b] (by simp) (rK a b) (np a b) (nS (dT nm a) (dT nm b)) _ (fun h=> if_pos ⟨h 0 (by simp),h 1 (by simp)⟩) (fun _ hj h=> if_neg (nh hj h))
 | .bin o a b=> by
  have hty:eK (.bin o a b)=if eK a=1∧eK b=1 then KH o else 0:=by cases o <;> rfl
  have hk:=nS (dT nm a) (dT nm b)
  by_cases ho:o.txt∈vU
  ·have h2:KH o=2:=by cases o <;> first | rfl | (exact absurd ho ah)
   rw [h2] at hty
   exact CS o.txt (rT o) ho [dP nm a,dP nm b] (by simp) (rK a b) (np a b) hk _ (fun h=> hty.trans (if_pos ⟨h 0 (by simp),h 1 (by simp)⟩)) (fun _ hj h=> hty.trans (if_neg (nh hj h)))
  ·have h2:KH o=1:=by cases o <;> first | rfl | (exact absurd ah ho)
   rw [h2] at hty
   exact zj o.txt (rT o) ho [dP nm a,dP nm b] (by simp) (rK a b) (np a b) hk _ (fun h=> hty.trans (if_pos ⟨h 0 (by simp),h 1 (by simp)⟩)) (fun _ hj h=> hty.trans (if_neg (nh hj h)))
theorem jb (n:Int) (s:Tx) (L:List Nd) (h: ∀ j,j < L.length→Spec Tryz.prog 166 (bj [mN (jy L j)] []) (aW (.v (.bool true)) [])):
  Spec Tryz.prog 166 (bj [.agg [.v (.int .i64 11), .v (.int .i64 n), .v (bt s), .sl L.length (kB L)]] []) (aW (.v (.bool true)) []):=by
 refine Spec.ofN Tryz.func166 rfl Tryz.ntmps166 rfl ?_
 refine aq ?_
 refine jW 0 3 rfl rfl rfl fun hlen=> ?_
 unfold maxLen at hlen
 refine an (ai (bk (1,0) _ rfl rfl) (ct rfl (aj (aq (am (bE rfl rfl rfl (cH rfl rfl rfl (iX rfl rfl rfl (aj (bF rfl rfl ?_))))))))))
 refine aF fun K4 hK4=> ?_
 refine am (ba rfl (aj (au ?_)))
 refine bD (α:=Nat) (fun j=> j≤L.length) 73 [(1,_)] [((1,0),_)] (fun j=> [(3, .v (.int .i64 (j:Int)))]) (fun j=> []) [] [] (fun j=> L.length - j) 0 ?_ (by
  refine Le.mkJ [] [] rfl ?_ ?_ trivial trivial ?_
  ·exact ⟨(iP rfl),(ci ag),trivial⟩
  ·exact ⟨(cG rfl rfl rfl),trivial⟩
  ·kernel_rfl) ?_
 ·omega
 intro j hj
 refine aF fun K6 hK6=> ?_
 refine am (aQ rfl (bE rfl rfl rfl (fg rfl rfl rfl (ai (bB _ aa rfl) (ai (bp _ _ rfl rfl rfl) (aj (aU rfl (fun hc17=> ?_) (fun hc17=> ?_))))))))
 ·skip
  refine bw (hK6 _ ?_)
  clear hK6;try clear K6
  refine aq (au (am (bE rfl rfl rfl (fg rfl rfl rfl (aQ rfl (ai (bf _ _ aa rfl rfl _ rfl ab (by (simp only [aZ,bm,bl,bA,bv,bJ,bz];omega)) ag) ?_))))))
  refine ai (cg _ aa rfl (by exact cF _ _ ab) rfl) ?_
  refine ai (aK aa al (h j ab) rfl rfl) ?_
  refine ct rfl (aj (am (cP rfl (ai (cZ (r:=false) _ rfl rfl) (aj (aP rfl rfl (cf (an (aQ rfl (ai (be _ _ rfl rfl (bq ab)) ?_))))))))))
  refine ba rfl (az (⟨j+1,?_,?_,?_⟩))
  ·omega
  ·skip
   refine Le.mkJ [] [] rfl ?_ ?_ trivial trivial ?_
   ·exact ⟨(iP rfl),(ci ag),trivial⟩
   ·exact ⟨(cG rfl rfl rfl),trivial⟩
   ·kernel_rfl
  ·omega
 ·skip
  refine bL (id (hK4 _ ?_))
  clear hK4;try clear K4
  refine am (ct rfl (aj (aC (aY (.inr rfl) rfl (.tmp (rfl:_=AV.v (.bool _))) (Le.out [] [] (hZ ?_) rfl rfl rfl trivial trivial)))))
  rfl
theorem px (k:Nat) (hk:k=2∨k=3) (n:Int) (s:Tx) (L:List Nd) (hL:0 < L.length) (ht:Spec Tryz.prog 203 (bj [mN (jy L 0)] []) (aW (.v (.int .i64 2)) [])) (h: ∀ j,1≤j→j < L.length→Spec Tryz.prog 166 (bj [mN (jy L j)] []) (aW (.v (.bool true)) [])):
  Spec Tryz.prog 166 (bj [.agg [.v (.int .i64 (k:Int)), .v (.int .i64 n), .v (bt s), .sl L.length (kB L)]] []) (aW (.v (.bool true)) []):=by
 refine Spec.ofN Tryz.func166 rfl Tryz.ntmps166 rfl ?_
 refine aq ?_
 refine jW 0 3 rfl rfl rfl fun hlen=> ?_
 unfold maxLen at hlen
 refine an (ai (bk (1,0) _ rfl rfl) (ct rfl (aj (aq (am (bE rfl rfl rfl (cH rfl rfl rfl (eF rfl rfl (beq_eq_false_iff_ne.2 ab) ?_))))))))
 refine aj (aP rfl rfl (aI (aq (am (bE rfl rfl rfl (cH rfl rfl rfl (ai (bR _ _ rfl rfl rfl) (cP rfl (dJ (fun hg31=> ?_) (fun hg31=> ?_))))))))))
 ·skip
  refine aX rfl rfl ah ?_
  refine aX rfl rfl ah ?_
  refine aX rfl rfl ah ?_
  refine ai (aG _ _ _ rfl (rfl:_=AV.v (.bool _))) (aj (bF rfl rfl (am (bE rfl rfl rfl (fg rfl rfl rfl (ai (bf _ _ aa rfl rfl 0 rfl hL (by simp only [bJ];omega) rfl) ?_))))))
  refine ai (cg _ aa rfl (by exact cF L 0 hL) rfl) ?_
  refine ai (aK aa al (ht) rfl rfl) ?_
  refine ba rfl (aj (aF fun K7 hK7=> ?_))
  refine aq ?_
  refine aM (σ':=aB 73 [(1,_),(5,_)] [((1,0),_)] [] []) kp ?_
  refine an (ba rfl (aj (au ?_)))
  refine bD (α:=Nat) (fun j=> 1≤j∧j≤L.length) 73 [(1,_),(5,_)] [((1,0),_)] (fun j=> [(6, .v (.int .i64 (j:Int)))]) (fun j=> []) [] [] (fun j=> L.length - j) 1 ?_ (by
   refine Le.mkJ [] [] rfl ?_ ?_ trivial trivial ?_
   ·exact ⟨(iP rfl),(iV rfl),(ci ag),trivial⟩
   ·exact ⟨(cG rfl rfl rfl),trivial⟩
   ·kernel_rfl) ?_
  ·exact ⟨Nat.le_refl _,hL⟩
  intro j hj
  obtain ⟨hj1,hj2⟩:=hj
  refine aF fun K9 hK9=> ?_
  refine am (aQ rfl (bE rfl rfl rfl (fg rfl rfl rfl (ai (bB _ aa rfl) (ai (bp _ _ rfl rfl rfl) (aj (aU rfl (fun hc45=> ?_) (fun hc45=> ?_))))))))
  ·skip
   refine bw (hK9 _ ?_)
   clear hK9;try clear K9
   refine aq (au (am (bE rfl rfl rfl (fg rfl rfl rfl (aQ rfl (ai (bf _ _ aa rfl rfl _ rfl ab (by (simp only [aZ,bm,bl,bA,bv,bJ,bz];omega)) ag) ?_))))))
   refine ai (cg _ aa rfl (by exact cF _ _ ab) rfl) ?_
   refine ai (aK aa al (h j hj1 ab) rfl rfl) ?_
   refine ct rfl (aj (am (cP rfl (ai (cZ (r:=false) _ rfl rfl) (aj (aP rfl rfl (cf (an (aQ rfl (ai (be _ _ rfl rfl (bq ab)) ?_))))))))))
   refine ba rfl (az (⟨j+1,?_,?_,?_⟩))
   ·omega
   ·skip
    refine Le.mkJ [] [] rfl ?_ ?_ trivial trivial ?_
    ·exact ⟨(iP rfl),(iV rfl),(ci ag),trivial⟩
    ·exact ⟨(cG rfl rfl rfl),trivial⟩
    ·kernel_rfl
   ·omega
  ·skip
   refine bL (id (hK7 _ ?_))
   clear hK7;try clear K7
   refine am (aQ rfl (iX rfl rfl rfl (ct rfl (aj (aC (aY (.inr rfl) rfl (.tmp (rfl:_=AV.v (.bool _))) (Le.out [] [] (hZ ?_) rfl rfl rfl trivial trivial)))))))
   rfl
 ·skip
  have hk3:k=3:=by omega
  refine ay rfl rfl (aJ _ aa rfl rfl rfl) (ay rfl rfl (aN _ aa rfl rfl (rfl:_=some (AV.v (.int _ _)))) (ay rfl rfl (bR (r:=true) _ _ rfl rfl (beq_iff_eq.2 ab)) ?_))
  refine ai (aG _ _ _ rfl (rfl:_=AV.v (.bool _))) (aj (bF rfl rfl (am (bE rfl rfl rfl (fg rfl rfl rfl (ai (bf _ _ aa rfl rfl 0 rfl hL (by simp only [bJ];omega) rfl) ?_))))))
  refine ai (cg _ aa rfl (by exact cF L 0 hL) rfl) ?_
  refine ai (aK aa al (ht) rfl rfl) ?_
  refine ba rfl (aj (aF fun K16 hK16=> ?_))
  refine aq ?_
  refine aM (σ':=aB 73 [(1,_),(5,_)] [((1,0),_)] [] []) kp ?_
  refine an (ba rfl (aj (au ?_)))
  refine bD (α:=Nat) (fun j=> 1≤j∧j≤L.length) 73 [(1,_),(5,_)] [((1,0),_)] (fun j=> [(6, .v (.int .i64 (j:Int)))]) (fun j=> []) [] [] (fun j=> L.length - j) 1 ?_ (by
   refine Le.mkJ [] [] rfl ?_ ?_ trivial trivial ?_
   ·exact ⟨(iP rfl),(iV rfl),(ci ag),trivial⟩
   ·exact ⟨(cG rfl rfl rfl),trivial⟩
   ·kernel_rfl) ?_
  ·exact ⟨Nat.le_refl _,hL⟩
  intro j hj
  obtain ⟨hj1,hj2⟩:=hj
  refine aF fun K18 hK18=> ?_
  refine am (aQ rfl (bE rfl rfl rfl (fg rfl rfl rfl (ai (bB _ aa rfl) (ai (bp _ _ rfl rfl rfl) (aj (aU rfl (fun hc45=> ?_) (fun hc45=> ?_))))))))
  ·skip
   refine bw (hK18 _ ?_)
   clear hK18;try clear K18
   refine aq (au (am (bE rfl rfl rfl (fg rfl rfl rfl (aQ rfl (ai (bf _ _ aa rfl rfl _ rfl ab (by (simp only [aZ,bm,bl,bA,bv,bJ,bz];omega)) ag) ?_))))))
   refine ai (cg _ aa rfl (by exact cF _ _ ab) rfl) ?_
   refine ai (aK aa al (h j hj1 ab) rfl rfl) ?_
   refine ct rfl (aj (am (cP rfl (ai (cZ (r:=false) _ rfl rfl) (aj (aP rfl rfl (cf (an (aQ rfl (ai (be _ _ rfl rfl (bq ab)) ?_))))))))))
   refine ba rfl (az (⟨j+1,?_,?_,?_⟩))
   ·omega
   ·skip
    refine Le.mkJ [] [] rfl ?_ ?_ trivial trivial ?_
    ·exact ⟨(iP rfl),(iV rfl),(ci ag),trivial⟩
    ·exact ⟨(cG rfl rfl rfl),trivial⟩
    ·kernel_rfl
   ·omega
  ·skip
   refine bL (id (hK16 _ ?_))
   clear hK16;try clear K16
   refine am (aQ rfl (iX rfl rfl rfl (ct rfl (aj (aC (aY (.inr rfl) rfl (.tmp (rfl:_=AV.v (.bool _))) (Le.out [] [] (hZ ?_) rfl rfl rfl trivial trivial)))))))
   rfl
theorem eP (k:Nat) (hk:k≠2∧k≠3∧k≠11) (n:Int) (s:Tx) (L:List Nd) (h: ∀ j,j < L.length→Spec Tryz.prog 203 (bj [mN (jy L j)] []) (aW (.v (.int .i64 1)) [])):
  Spec Tryz.prog 166 (bj [.agg [.v (.int .i64 (k:Int)), .v (.int .i64 n), .v (bt s), .sl L.length (kB L)]] []) (aW (.v (.bool true)) []):=by
 refine Spec.ofN Tryz.func166 rfl Tryz.ntmps166 rfl ?_
 refine aq ?_
 refine jW 0 3 rfl rfl rfl fun hlen=> ?_
 unfold maxLen at hlen
 refine an (ai (bk (1,0) _ rfl rfl) (ct rfl (aj (aq (am (bE rfl rfl rfl (cH rfl rfl rfl (eF rfl rfl (beq_eq_false_iff_ne.2 ab) ?_))))))))
 refine aj (aP rfl rfl (aI (aq (am (bE rfl rfl rfl (cH rfl rfl rfl (eF rfl rfl (beq_eq_false_iff_ne.2 ab) ?_)))))))
 refine cP rfl (ay rfl rfl (aJ _ aa rfl rfl rfl) (ay rfl rfl (aN _ aa rfl rfl (rfl:_=some (AV.v (.int _ _)))) (ay rfl rfl (bR (r:=false) _ _ rfl rfl (beq_eq_false_iff_ne.2 ab)) ?_)))
 refine ai (aG _ _ _ rfl (rfl:_=AV.v (.bool _))) (aj (aP rfl rfl (aI (aF fun K6 hK6=> ?_))))
 refine am (ba rfl (aj (au ?_)))
 refine bD (α:=Nat) (fun j=> j≤L.length) 73 [(1,_)] [((1,0),_)] (fun j=> [(8, .v (.int .i64 (j:Int)))]) (fun j=> []) [] [] (fun j=> L.length - j) 0 ?_ (by
  refine Le.mkJ [] [] rfl ?_ ?_ trivial trivial ?_
  ·exact ⟨(iP rfl),(ci ag),trivial⟩
  ·exact ⟨(cG rfl rfl rfl),trivial⟩
  ·kernel_rfl) ?_
 ·omega
 intro j hj
 refine aF fun K8 hK8=> ?_
 refine am (aQ rfl (bE rfl rfl rfl (fg rfl rfl rfl (ai (bB _ aa rfl) (ai (bp _ _ rfl rfl rfl) (aj (aU rfl (fun hc62=> ?_) (fun hc62=> ?_))))))))
 ·skip
  refine bw (hK8 _ ?_)
  clear hK8;try clear K8
  refine aq (au (am (bE rfl rfl rfl (fg rfl rfl rfl (aQ rfl (ai (bf _ _ aa rfl rfl _ rfl ab (by (simp only [aZ,bm,bl,bA,bv,bJ,bz];omega)) ag) ?_))))))
  refine ai (cg _ aa rfl (by exact cF _ _ ab) rfl) ?_
  refine ai (aK aa al (h j ab) rfl rfl) ?_
  refine ba rfl (aj (am (aQ rfl (ai (bX (r:=false) _ _ rfl rfl rfl) (aj (aP rfl rfl (cf (an (aQ rfl (ai (be _ _ rfl rfl (bq ab)) ?_))))))))))
  refine ba rfl (az (⟨j+1,?_,?_,?_⟩))
  ·omega
  ·skip
   refine Le.mkJ [] [] rfl ?_ ?_ trivial trivial ?_
   ·exact ⟨(iP rfl),(ci ag),trivial⟩
   ·exact ⟨(cG rfl rfl rfl),trivial⟩
   ·kernel_rfl
  ·omega
 ·skip
  refine bL (id (hK6 _ ?_))
  clear hK6;try clear K6
  refine am (ct rfl (aj (aC (aY (.inr rfl) rfl (.tmp (rfl:_=AV.v (.bool _))) (Le.out [] [] (hZ ?_) rfl rfl rfl trivial trivial)))))
  rfl

abbrev LT (d:Nd):Prop:=Spec Tryz.prog 166 (bj [mN d] []) (aW (.v (.bool true)) [])
theorem hY {nm:List Tx} {e:Ex} (h:mE e=true):tu (dP nm e) 1:=by
 have:=Nat.eq_of_beq_eq_true h
 have h2:=dT nm e
 rwa [this] at h2
theorem ET {P:Nd→Prop} {d:Nd} (h:P d): ∀ j,j < [d].length→P (jy [d] j):=fun j hj=> by
 have:j=0:=by simpa using hj
 subst this
 exact h
theorem KB {P:Nd→Prop} {d e:Nd} (h:P d) (h':P e): ∀ j,j < [d,e].length→P (jy [d,e] j):=fun j hj=> by
 have hj:j < 2:=hj
 have:j=0∨j=1:=by omega
 rcases this with rfl | rfl
 ·exact h
 ·exact h'
theorem Lj {P:Nd→Prop} {d e f:Nd} (h:P d) (h':P e) (h2:P f): ∀ j,j < [d,e,f].length→P (jy [d,e,f] j):=fun j hj=> by
 have hj:j < 3:=hj
 have:j=0∨j=1∨j=2:=by omega
 rcases this with rfl | rfl | rfl
 ·exact h
 ·exact h'
 ·exact h2
theorem wN {P:Nd→Prop}: ∀ j,j < ([]:List Nd).length→P (jy [] j):=fun j hj=> by simp at hj
theorem LX {P:Nd→Prop} {d:Nd} {l:List Nd} (h:P d) (h': ∀ j,j < l.length→P (jy l j)): ∀ j,j < (d::l).length→P (jy (d::l) j):=fun j hj=> by
 cases j with
 | zero=> exact h
 | succ j=> exact h' j (by simpa using hj)
mutual
theorem AU (nm:List Tx): ∀ s:Sm,vd s=true→LT (oA nm s)
 | .assign i e,h=> eP 1 ab 0 (nm.getD i []) [dP nm e] (ET (P:=fun d=> tu d 1) (hY h))
 | .send t k a b,h=> by
  simp only [vd,Bool.and_eq_true] at h
  exact eP 4 ab k [] [dP nm t,dP nm a,dP nm b] (Lj (P:=fun d=> tu d 1) (hY h.1.1) (hY h.1.2) (hY h.2))
 | .timer k,_=> eP 5 ab k [] [] (wN (P:=fun d=> tu d 1))
 | .cancel k,_=> eP 6 ab k [] [] (wN (P:=fun d=> tu d 1))
 | .sync,_=> eP 7 ab 0 [] [] (wN (P:=fun d=> tu d 1))
 | .stop,_=> eP 10 ab 0 [] [] (wN (P:=fun d=> tu d 1))
 | .reply a b,h=> by
  simp only [vd,Bool.and_eq_true] at h
  exact eP 8 ab 0 [] [dP nm a,dP nm b] (KB (P:=fun d=> tu d 1) (hY h.1) (hY h.2))
 | .fail e,h=> eP 9 ab 0 [] [dP nm e] (ET (P:=fun d=> tu d 1) (hY h))
 | .loop c b,h=> by
  simp only [vd,Bool.and_eq_true] at h
  have h1:=dT nm c
  rw [Nat.eq_of_beq_eq_true h.1] at h1
  refine px 3 (.inr rfl) 0 [] [dP nm c,nd 11 0 [] (fU nm b)] (by simp) h1 fun j h1 hj=> ?_
  have hj:j < 2:=hj
  obtain rfl:j=1:=by omega
  exact jb 0 [] (fU nm b) (ma nm b h.2)
 | .ite c a b,h=> by
  simp only [vd,Bool.and_eq_true] at h
  have h1:=dT nm c
  rw [Nat.eq_of_beq_eq_true h.1.1] at h1
  refine px 2 (.inl rfl) 0 [] [dP nm c,nd 11 0 [] (fU nm a),nd 11 0 [] (fU nm b)] (by simp) h1 fun j h1 hj=> ?_
  have hj:j < 3:=hj
  have:j=1∨j=2:=by omega
  rcases this with rfl | rfl
  ·exact jb 0 [] (fU nm a) (ma nm a h.1.2)
  ·exact jb 0 [] (fU nm b) (ma nm b h.2)
theorem ma (nm:List Tx): ∀ b:Bk,nF b=true→ ∀ j,j < (fU nm b).length→LT (jy (fU nm b) j)
 | .nil,_=> wN
 | .cons s b,h=> by
  simp only [nF,Bool.and_eq_true] at h
  exact LX (AU nm s h.1) (ma nm b h.2)
end
theorem zw (nm:List Tx) (b:Bk) (h:nF b=true):LT (jz nm b):=jb 0 [] (fU nm b) (ma nm b h)

def gH (s:Tx) (l:List Tx):List Tx:=if s∈l then l else l++[s]
section
variable (nm:List Tx)
def qb:Ex→List Tx→List Tx
 | .int _,l=> l | .bool _,l=> l | .name _,l=> l
 | .var i,l=> gH (nm.getD i []) l
 | .draw e,l=> qb e l | .neg e,l=> qb e l | .not e,l=> qb e l
 | .bin _ a b,l=> qb b (qb a l)
 | .and a b,l=> qb b (qb a l)
 | .or a b,l=> qb b (qb a l)
mutual
def KE:Sm→List Tx→List Tx
 | .assign i e,l=> qb nm e (gH (nm.getD i []) l)
 | .send t _ a b,l=> qb nm b (qb nm a (qb nm t l))
 | .timer _,l=> l | .cancel _,l=> l | .sync,l=> l | .stop,l=> l
 | .reply a b,l=> qb nm b (qb nm a l)
 | .fail e,l=> qb nm e l
 | .loop c b,l=> zn b (qb nm c l)
 | .ite c a b,l=> zn b (zn a (qb nm c l))
def zn:Bk→List Tx→List Tx
 | .nil,l=> l
 | .cons s b,l=> zn b (KE s l)
end
def GN (l:List Tx):Prop:=l.Nodup∧ ∀ x∈l,x∈nm
end
theorem GN.len {nm l:List Tx} (h:GN nm l):l.length≤nm.length:=h.1.length_le_of_subset fun x hx=> h.2 x hx
theorem GN.add {nm l:List Tx} (h:GN nm l) {i:Nat} (hi:i < nm.length):GN nm (gH (nm.getD i []) l):=by
 unfold gH
 split
 ·exact h
 ·rename_i hn
  refine ⟨List.nodup_append.2 ⟨h.1,by simp,fun a ha b hb e=> hn (by rw [List.mem_singleton.1 hb] at e;exact e ▸ ha)⟩,fun x hx=> ?_⟩
  rcases List.mem_append.1 hx with hx | hx
  ·exact h.2 x hx
  ·rw [List.mem_singleton.1 hx];exact iz hi
theorem GN.nil {nm:List Tx}:GN nm []:=⟨.nil,fun x hx=> by simp at hx⟩
theorem sB (n:Int) (s:Tx) (L:List Nd) (l:List Tx) (hs:s∉l) (hl:l.length≤1000) (F:Nat→List Tx) (hF:F 0=l++[s]) (h: ∀ j,j < L.length→Spec Tryz.prog 167 (bj [mN (jy L j), .sl (F j).length (dS (F j))] []) (aW (.sl (F (j+1)).length (dS (F (j+1)))) [])):
  Spec Tryz.prog 167 (bj [.agg [.v (.int .i64 1), .v (.int .i64 n), .v (bt s), .sl L.length (kB L)], .sl l.length (dS l)] []) (aW (.sl (F L.length).length (dS (F L.length))) []):=by
 refine Spec.ofN Tryz.func167 rfl Tryz.ntmps167 rfl ?_
 refine aq ?_
 refine jW 0 3 rfl rfl rfl fun hlen=> ?_
 unfold maxLen at hlen
 refine an (ai (bk (2,0) _ rfl rfl) (ai (bH _ (rfl:_=AV.v (.slice _ _ _))) (aj (aq (am (bE rfl rfl rfl (cH rfl rfl rfl (iX rfl rfl rfl (cP rfl (aX rfl rfl ah ?_))))))))))
 refine aX rfl rfl ah ?_
 refine aX rfl rfl ah ?_
 refine ai (aG _ _ _ rfl (rfl:_=AV.v (.bool _))) (cP rfl (ay rfl rfl (aD _ (rfl:_=AV.sl _ _)) (ay rfl rfl (aJ _ aa rfl rfl rfl) (ay rfl rfl (aN _ aa rfl rfl (rfl:_=some (AV.v (.string _)))) (ay rfl rfl (aK aa al (fG l _ rfl ab s) rfl rfl) ?_)))))
 refine ay rfl rfl (cZ _ rfl rfl) (ai (aG _ _ _ rfl (rfl:_=AV.v (.bool _))) (aj (bF rfl (by rw [decide_eq_false hs];rfl) ?_)))
 refine aq ?_
 refine aM (σ':=aB 45 [(1,_),(2,_)] [((2,0),_)] [] []) kp ?_
 refine an (ai (bH _ (rfl:_=AV.v (.slice _ _ _))) (aj (am (ai (aD _ (rfl:_=AV.v (.slice _ _ _))) (eJ rfl (ai (sZ (24,0) _ _ aa rfl (.sl (by simp)) ab rfl) ?_))))))
 refine eX rfl (aj (an (gF rfl (bE rfl rfl rfl (ai (aN _ aa rfl rfl (rfl:_=some (AV.v (.string _)))) (ai (aV _ _ aa rfl ag (by (simp <;> rfl)) ah rfl) ?_))))))
 refine ai (dh (29,0) _ _ aa rfl rfl (by simp) (.sl rfl) ab rfl (lO _ _) (show l.length+1=(l++[s]).length by simp)) ?_
 refine eX rfl (aj (aF fun K6 hK6=> ?_))
 refine am (ba rfl (aj (au ?_)))
 refine aM (Le.frzS 1 (ys:=dS (l++[s])) rfl rfl rfl (by rw [List.drop_zero,Nat.mul_one];exact List.take_of_length_le (by simp)) (by simp)) ?_
 refine bD (α:=Nat) (fun j=> j≤L.length) 45 [(2,_)] [((2,0),_)] (fun j=> [(6, .v (.int .i64 (j:Int))),(1, .sl (F j).length (dS (F j)))]) (fun j=> []) [] [] (fun j=> L.length - j) 0 ?_ (by
  refine Le.mkJ [] [] rfl ?_ ?_ trivial trivial ?_
  ·exact ⟨(iP rfl),(ci ag),(iB (by rw [hF]) (by rw [hF])),trivial⟩
  ·exact ⟨(cG rfl rfl rfl),trivial⟩
  ·kernel_rfl) ?_
 ·omega
 intro j hj
 refine aF fun K8 hK8=> ?_
 refine am (aQ rfl (bE rfl rfl rfl (fg rfl rfl rfl (ai (bB _ aa rfl) (ai (bp _ _ rfl rfl rfl) (aj (aU rfl (fun hc34=> ?_) (fun hc34=> ?_))))))))
 ·skip
  refine bw (hK8 _ ?_)
  clear hK8;try clear K8
  refine aq (au (an (bE rfl rfl rfl (fg rfl rfl rfl (aQ rfl (ai (bf _ _ aa rfl rfl _ rfl ab (by (simp only [aZ,bm,bl,bA,bv,bJ,bz];omega)) ag) ?_))))))
  refine ai (cg _ aa rfl (by exact cF _ _ ab) rfl) ?_
  refine eJ rfl (ai (aK aa al (h j ab) rfl rfl) ?_)
  refine kD rfl (fZ (an (aQ rfl (ai (be _ _ rfl rfl (bq ab)) ?_))))
  refine ba rfl (az (⟨j+1,?_,?_,?_⟩))
  ·omega
  ·skip
   refine Le.mkJ [] [] rfl ?_ ?_ trivial trivial ?_
   ·exact ⟨(iP rfl),(ci ag),(iB ag ag),trivial⟩
   ·exact ⟨(cG rfl rfl rfl),trivial⟩
   ·kernel_rfl
  ·omega
 ·skip
  obtain rfl:j=L.length:=by omega
  refine bL (id (hK6 _ ?_))
  clear hK6;try clear K6
  exact am (eJ rfl (kD rfl (aj (aC (aY (.inr rfl) rfl (.tmp (rfl:_=AV.sl _ _)) (Le.out [] [] .sl rfl rfl rfl trivial trivial))))))
theorem sw (n:Int) (s:Tx) (L:List Nd) (l:List Tx) (hs:s∈l) (hl:l.length≤1000) (F:Nat→List Tx) (hF:F 0=l) (h: ∀ j,j < L.length→Spec Tryz.prog 167 (bj [mN (jy L j), .sl (F j).length (dS (F j))] []) (aW (.sl (F (j+1)).length (dS (F (j+1)))) [])):
  Spec Tryz.prog 167 (bj [.agg [.v (.int .i64 1), .v (.int .i64 n), .v (bt s), .sl L.length (kB L)], .sl l.length (dS l)] []) (aW (.sl (F L.length).length (dS (F L.length))) []):=by
 refine Spec.ofN Tryz.func167 rfl Tryz.ntmps167 rfl ?_
 refine aq ?_
 refine jW 0 3 rfl rfl rfl fun hlen=> ?_
 unfold maxLen at hlen
 refine an (ai (bk (2,0) _ rfl rfl) (ai (bH _ (rfl:_=AV.v (.slice _ _ _))) (aj (aq (am (bE rfl rfl rfl (cH rfl rfl rfl (iX rfl rfl rfl (cP rfl (aX rfl rfl ah ?_))))))))))
 refine aX rfl rfl ah ?_
 refine aX rfl rfl ah ?_
 refine ai (aG _ _ _ rfl (rfl:_=AV.v (.bool _))) (cP rfl (ay rfl rfl (aD _ (rfl:_=AV.sl _ _)) (ay rfl rfl (aJ _ aa rfl rfl rfl) (ay rfl rfl (aN _ aa rfl rfl (rfl:_=some (AV.v (.string _)))) (ay rfl rfl (aK aa al (fG l _ rfl ab s) rfl rfl) ?_)))))
 refine ay rfl rfl (cZ _ rfl rfl) (ai (aG _ _ _ rfl (rfl:_=AV.v (.bool _))) (aj (aP rfl (by rw [decide_eq_true hs];rfl) ?_)))
 refine aI (aF fun K4 hK4=> ?_)
 refine aq ?_
 refine aM (σ':=aB 45 [(1,_),(2,_)] [((2,0),_)] [] []) kp ?_
 refine an (ba rfl (aj (au ?_)))
 refine bD (α:=Nat) (fun j=> j≤L.length) 45 [(2,_)] [((2,0),_)] (fun j=> [(6, .v (.int .i64 (j:Int))),(1, .sl (F j).length (dS (F j)))]) (fun j=> []) [] [] (fun j=> L.length - j) 0 ?_ (by
  refine Le.mkJ [] [] rfl ?_ ?_ trivial trivial ?_
  ·exact ⟨(iP rfl),(ci ag),(iB (by rw [hF]) (by rw [hF])),trivial⟩
  ·exact ⟨(cG rfl rfl rfl),trivial⟩
  ·kernel_rfl) ?_
 ·omega
 intro j hj
 refine aF fun K6 hK6=> ?_
 refine am (aQ rfl (bE rfl rfl rfl (fg rfl rfl rfl (ai (bB _ aa rfl) (ai (bp _ _ rfl rfl rfl) (aj (aU rfl (fun hc34=> ?_) (fun hc34=> ?_))))))))
 ·skip
  refine bw (hK6 _ ?_)
  clear hK6;try clear K6
  refine aq (au (an (bE rfl rfl rfl (fg rfl rfl rfl (aQ rfl (ai (bf _ _ aa rfl rfl _ rfl ab (by (simp only [aZ,bm,bl,bA,bv,bJ,bz];omega)) ag) ?_))))))
  refine ai (cg _ aa rfl (by exact cF _ _ ab) rfl) ?_
  refine eJ rfl (ai (aK aa al (h j ab) rfl rfl) ?_)
  refine kD rfl (fZ (an (aQ rfl (ai (be _ _ rfl rfl (bq ab)) ?_))))
  refine ba rfl (az (⟨j+1,?_,?_,?_⟩))
  ·omega
  ·skip
   refine Le.mkJ [] [] rfl ?_ ?_ trivial trivial ?_
   ·exact ⟨(iP rfl),(ci ag),(iB ag ag),trivial⟩
   ·exact ⟨(cG rfl rfl rfl),trivial⟩
   ·kernel_rfl
  ·omega
 ·skip
  obtain rfl:j=L.length:=by omega
  refine bL (id (hK4 _ ?_))
  clear hK4;try clear K4
  exact am (eJ rfl (kD rfl (aj (aC (aY (.inr rfl) rfl (.tmp (rfl:_=AV.sl _ _)) (Le.out [] [] .sl rfl rfl rfl trivial trivial))))))
theorem pT (n:Int) (s:Tx) (L:List Nd) (l:List Tx) (hs:s∉l) (hl:l.length≤1000) (F:Nat→List Tx) (hF:F 0=l++[s]) (h: ∀ j,j < L.length→Spec Tryz.prog 167 (bj [mN (jy L j), .sl (F j).length (dS (F j))] []) (aW (.sl (F (j+1)).length (dS (F (j+1)))) [])):
  Spec Tryz.prog 167 (bj [.agg [.v (.int .i64 14), .v (.int .i64 n), .v (bt s), .sl L.length (kB L)], .sl l.length (dS l)] []) (aW (.sl (F L.length).length (dS (F L.length))) []):=by
 refine Spec.ofN Tryz.func167 rfl Tryz.ntmps167 rfl ?_
 refine aq ?_
 refine jW 0 3 rfl rfl rfl fun hlen=> ?_
 unfold maxLen at hlen
 refine an (ai (bk (2,0) _ rfl rfl) (ai (bH _ (rfl:_=AV.v (.slice _ _ _))) (aj (aq (am (bE rfl rfl rfl (cH rfl rfl rfl (eF rfl rfl rfl (cP rfl (ay rfl rfl (aJ _ aa rfl rfl rfl) ?_))))))))))
 refine ay rfl rfl (aN _ aa rfl rfl (rfl:_=some (AV.v (.int _ _)))) (ay rfl rfl (bR (r:=true) _ _ rfl rfl rfl) (ai (aG _ _ _ rfl (rfl:_=AV.v (.bool _))) (cP rfl (ay rfl rfl (aD _ (rfl:_=AV.sl _ _)) (ay rfl rfl (aJ _ aa rfl rfl rfl) (ay rfl rfl (aN _ aa rfl rfl (rfl:_=some (AV.v (.string _)))) (ay rfl rfl (aK aa al (fG l _ rfl ab s) rfl rfl) ?_)))))))
 refine ay rfl rfl (cZ _ rfl rfl) (ai (aG _ _ _ rfl (rfl:_=AV.v (.bool _))) (aj (bF rfl (by rw [decide_eq_false hs];rfl) ?_)))
 refine aq ?_
 refine aM (σ':=aB 45 [(1,_),(2,_)] [((2,0),_)] [] []) kp ?_
 refine an (ai (bH _ (rfl:_=AV.v (.slice _ _ _))) (aj (am (ai (aD _ (rfl:_=AV.v (.slice _ _ _))) (eJ rfl (ai (sZ (24,0) _ _ aa rfl (.sl (by simp)) ab rfl) ?_))))))
 refine eX rfl (aj (an (gF rfl (bE rfl rfl rfl (ai (aN _ aa rfl rfl (rfl:_=some (AV.v (.string _)))) (ai (aV _ _ aa rfl ag (by (simp <;> rfl)) ah rfl) ?_))))))
 refine ai (dh (29,0) _ _ aa rfl rfl (by simp) (.sl rfl) ab rfl (lO _ _) (show l.length+1=(l++[s]).length by simp)) ?_
 refine eX rfl (aj (aF fun K6 hK6=> ?_))
 refine am (ba rfl (aj (au ?_)))
 refine aM (Le.frzS 1 (ys:=dS (l++[s])) rfl rfl rfl (by rw [List.drop_zero,Nat.mul_one];exact List.take_of_length_le (by simp)) (by simp)) ?_
 refine bD (α:=Nat) (fun j=> j≤L.length) 45 [(2,_)] [((2,0),_)] (fun j=> [(6, .v (.int .i64 (j:Int))),(1, .sl (F j).length (dS (F j)))]) (fun j=> []) [] [] (fun j=> L.length - j) 0 ?_ (by
  refine Le.mkJ [] [] rfl ?_ ?_ trivial trivial ?_
  ·exact ⟨(iP rfl),(ci ag),(iB (by rw [hF]) (by rw [hF])),trivial⟩
  ·exact ⟨(cG rfl rfl rfl),trivial⟩
  ·kernel_rfl) ?_
 ·omega
 intro j hj
 refine aF fun K8 hK8=> ?_
 refine am (aQ rfl (bE rfl rfl rfl (fg rfl rfl rfl (ai (bB _ aa rfl) (ai (bp _ _ rfl rfl rfl) (aj (aU rfl (fun hc34=> ?_) (fun hc34=> ?_))))))))
 ·skip
  refine bw (hK8 _ ?_)
  clear hK8;try clear K8
  refine aq (au (an (bE rfl rfl rfl (fg rfl rfl rfl (aQ rfl (ai (bf _ _ aa rfl rfl _ rfl ab (by (simp only [aZ,bm,bl,bA,bv,bJ,bz];omega)) ag) ?_))))))
  refine ai (cg _ aa rfl (by exact cF _ _ ab) rfl) ?_
  refine eJ rfl (ai (aK aa al (h j ab) rfl rfl) ?_)
  refine kD rfl (fZ (an (aQ rfl (ai (be _ _ rfl rfl (bq ab)) ?_))))
  refine ba rfl (az (⟨j+1,?_,?_,?_⟩))
  ·omega
  ·skip
   refine Le.mkJ [] [] rfl ?_ ?_ trivial trivial ?_
   ·exact ⟨(iP rfl),(ci ag),(iB ag ag),trivial⟩
   ·exact ⟨(cG rfl rfl rfl),trivial⟩
   ·kernel_rfl
  ·omega
 ·skip
  obtain rfl:j=L.length:=by omega
  refine bL (id (hK6 _ ?_))
  clear hK6;try clear K6
  exact am (eJ rfl (kD rfl (aj (aC (aY (.inr rfl) rfl (.tmp (rfl:_=AV.sl _ _)) (Le.out [] [] .sl rfl rfl rfl trivial trivial))))))
theorem pZ (n:Int) (s:Tx) (L:List Nd) (l:List Tx) (hs:s∈l) (hl:l.length≤1000) (F:Nat→List Tx) (hF:F 0=l) (h: ∀ j,j < L.length→Spec Tryz.prog 167 (bj [mN (jy L j), .sl (F j).length (dS (F j))] []) (aW (.sl (F (j+1)).length (dS (F (j+1)))) [])):
  Spec Tryz.prog 167 (bj [.agg [.v (.int .i64 14), .v (.int .i64 n), .v (bt s), .sl L.length (kB L)], .sl l.length (dS l)] []) (aW (.sl (F L.length).length (dS (F L.length))) []):=by
 refine Spec.ofN Tryz.func167 rfl Tryz.ntmps167 rfl ?_
 refine aq ?_
 refine jW 0 3 rfl rfl rfl fun hlen=> ?_
 unfold maxLen at hlen
 refine an (ai (bk (2,0) _ rfl rfl) (ai (bH _ (rfl:_=AV.v (.slice _ _ _))) (aj (aq (am (bE rfl rfl rfl (cH rfl rfl rfl (eF rfl rfl rfl (cP rfl (ay rfl rfl (aJ _ aa rfl rfl rfl) ?_))))))))))
 refine ay rfl rfl (aN _ aa rfl rfl (rfl:_=some (AV.v (.int _ _)))) (ay rfl rfl (bR (r:=true) _ _ rfl rfl rfl) (ai (aG _ _ _ rfl (rfl:_=AV.v (.bool _))) (cP rfl (ay rfl rfl (aD _ (rfl:_=AV.sl _ _)) (ay rfl rfl (aJ _ aa rfl rfl rfl) (ay rfl rfl (aN _ aa rfl rfl (rfl:_=some (AV.v (.string _)))) (ay rfl rfl (aK aa al (fG l _ rfl ab s) rfl rfl) ?_)))))))
 refine ay rfl rfl (cZ _ rfl rfl) (ai (aG _ _ _ rfl (rfl:_=AV.v (.bool _))) (aj (aP rfl (by rw [decide_eq_true hs];rfl) ?_)))
 refine aI (aF fun K4 hK4=> ?_)
 refine aq ?_
 refine aM (σ':=aB 45 [(1,_),(2,_)] [((2,0),_)] [] []) kp ?_
 refine an (ba rfl (aj (au ?_)))
 refine bD (α:=Nat) (fun j=> j≤L.length) 45 [(2,_)] [((2,0),_)] (fun j=> [(6, .v (.int .i64 (j:Int))),(1, .sl (F j).length (dS (F j)))]) (fun j=> []) [] [] (fun j=> L.length - j) 0 ?_ (by
  refine Le.mkJ [] [] rfl ?_ ?_ trivial trivial ?_
  ·exact ⟨(iP rfl),(ci ag),(iB (by rw [hF]) (by rw [hF])),trivial⟩
  ·exact ⟨(cG rfl rfl rfl),trivial⟩
  ·kernel_rfl) ?_
 ·omega
 intro j hj
 refine aF fun K6 hK6=> ?_
 refine am (aQ rfl (bE rfl rfl rfl (fg rfl rfl rfl (ai (bB _ aa rfl) (ai (bp _ _ rfl rfl rfl) (aj (aU rfl (fun hc34=> ?_) (fun hc34=> ?_))))))))
 ·skip
  refine bw (hK6 _ ?_)
  clear hK6;try clear K6
  refine aq (au (an (bE rfl rfl rfl (fg rfl rfl rfl (aQ rfl (ai (bf _ _ aa rfl rfl _ rfl ab (by (simp only [aZ,bm,bl,bA,bv,bJ,bz];omega)) ag) ?_))))))
  refine ai (cg _ aa rfl (by exact cF _ _ ab) rfl) ?_
  refine eJ rfl (ai (aK aa al (h j ab) rfl rfl) ?_)
  refine kD rfl (fZ (an (aQ rfl (ai (be _ _ rfl rfl (bq ab)) ?_))))
  refine ba rfl (az (⟨j+1,?_,?_,?_⟩))
  ·omega
  ·skip
   refine Le.mkJ [] [] rfl ?_ ?_ trivial trivial ?_
   ·exact ⟨(iP rfl),(ci ag),(iB ag ag),trivial⟩
   ·exact ⟨(cG rfl rfl rfl),trivial⟩
   ·kernel_rfl
  ·omega
 ·skip
  obtain rfl:j=L.length:=by omega
  refine bL (id (hK4 _ ?_))
  clear hK4;try clear K4
  exact am (eJ rfl (kD rfl (aj (aC (aY (.inr rfl) rfl (.tmp (rfl:_=AV.sl _ _)) (Le.out [] [] .sl rfl rfl rfl trivial trivial))))))
theorem qW (k:Nat) (hk:k≠1∧k≠14) (n:Int) (s:Tx) (L:List Nd) (l:List Tx) (hl:l.length≤1000) (F:Nat→List Tx) (hF:F 0=l) (h: ∀ j,j < L.length→Spec Tryz.prog 167 (bj [mN (jy L j), .sl (F j).length (dS (F j))] []) (aW (.sl (F (j+1)).length (dS (F (j+1)))) [])):
  Spec Tryz.prog 167 (bj [.agg [.v (.int .i64 (k:Int)), .v (.int .i64 n), .v (bt s), .sl L.length (kB L)], .sl l.length (dS l)] []) (aW (.sl (F L.length).length (dS (F L.length))) []):=by
 refine Spec.ofN Tryz.func167 rfl Tryz.ntmps167 rfl ?_
 refine aq ?_
 refine jW 0 3 rfl rfl rfl fun hlen=> ?_
 unfold maxLen at hlen
 refine an (ai (bk (2,0) _ rfl rfl) (ai (bH _ (rfl:_=AV.v (.slice _ _ _))) (aj (aq (am (bE rfl rfl rfl (cH rfl rfl rfl (eF rfl rfl (beq_eq_false_iff_ne.2 ab) ?_))))))))
 refine cP rfl (ay rfl rfl (aJ _ aa rfl rfl rfl) (ay rfl rfl (aN _ aa rfl rfl (rfl:_=some (AV.v (.int _ _)))) (ay rfl rfl (bR (r:=false) _ _ rfl rfl (beq_eq_false_iff_ne.2 ab)) ?_)))
 refine ai (aG _ _ _ rfl (rfl:_=AV.v (.bool _))) (cP rfl (aX rfl rfl ah ?_))
 refine aX rfl rfl ah ?_
 refine aX rfl rfl ah ?_
 refine aX rfl rfl ah ?_
 refine aX rfl rfl ah ?_
 refine ai (aG _ _ _ rfl (rfl:_=AV.v (.bool _))) (aj (aP rfl rfl (aI (aF fun K4 hK4=> ?_))))
 refine aq ?_
 refine aM (σ':=aB 45 [(1,_),(2,_)] [((2,0),_)] [] []) kp ?_
 refine an (ba rfl (aj (au ?_)))
 refine bD (α:=Nat) (fun j=> j≤L.length) 45 [(2,_)] [((2,0),_)] (fun j=> [(6, .v (.int .i64 (j:Int))),(1, .sl (F j).length (dS (F j)))]) (fun j=> []) [] [] (fun j=> L.length - j) 0 ?_ (by
  refine Le.mkJ [] [] rfl ?_ ?_ trivial trivial ?_
  ·exact ⟨(iP rfl),(ci ag),(iB (by rw [hF]) (by rw [hF])),trivial⟩
  ·exact ⟨(cG rfl rfl rfl),trivial⟩
  ·kernel_rfl) ?_
 ·omega
 intro j hj
 refine aF fun K6 hK6=> ?_
 refine am (aQ rfl (bE rfl rfl rfl (fg rfl rfl rfl (ai (bB _ aa rfl) (ai (bp _ _ rfl rfl rfl) (aj (aU rfl (fun hc34=> ?_) (fun hc34=> ?_))))))))
 ·skip
  refine bw (hK6 _ ?_)
  clear hK6;try clear K6
  refine aq (au (an (bE rfl rfl rfl (fg rfl rfl rfl (aQ rfl (ai (bf _ _ aa rfl rfl _ rfl ab (by (simp only [aZ,bm,bl,bA,bv,bJ,bz];omega)) ag) ?_))))))
  refine ai (cg _ aa rfl (by exact cF _ _ ab) rfl) ?_
  refine eJ rfl (ai (aK aa al (h j ab) rfl rfl) ?_)
  refine kD rfl (fZ (an (aQ rfl (ai (be _ _ rfl rfl (bq ab)) ?_))))
  refine ba rfl (az (⟨j+1,?_,?_,?_⟩))
  ·omega
  ·skip
   refine Le.mkJ [] [] rfl ?_ ?_ trivial trivial ?_
   ·exact ⟨(iP rfl),(ci ag),(iB ag ag),trivial⟩
   ·exact ⟨(cG rfl rfl rfl),trivial⟩
   ·kernel_rfl
  ·omega
 ·skip
  obtain rfl:j=L.length:=by omega
  refine bL (id (hK4 _ ?_))
  clear hK4;try clear K4
  exact am (eJ rfl (kD rfl (aj (aC (aY (.inr rfl) rfl (.tmp (rfl:_=AV.sl _ _)) (Le.out [] [] .sl rfl rfl rfl trivial trivial))))))
def fa (fs:List (List Tx→List Tx)) (l:List Tx):List Tx:=fs.foldl (fun l f=> f l) l
theorem jc {fs:List (List Tx→List Tx)} {l:List Tx} {j:Nat} (h:j < fs.length):fa (fs.take (j+1)) l=fs.getD j id (fa (fs.take j) l):=by
 rw [List.take_succ_eq_append_getElem h]
 unfold fa
 rw [List.foldl_append,List.getD_eq_getElem?_getD,List.getElem?_eq_getElem h];rfl
abbrev vB (nm:List Tx) (d:Nd) (f:List Tx→List Tx):Prop:= ∀ l,GN nm l→Spec Tryz.prog 167 (bj [mN d, .sl l.length (dS l)] []) (aW (.sl (f l).length (dS (f l))) [])∧GN nm (f l)
section
variable {nm:List Tx} (hnm:nm.length≤16) {L:List Nd} {fs:List (List Tx→List Tx)} (hfs:fs.length=L.length) (h: ∀ j,j < L.length→vB nm (jy L j) (fs.getD j id))
theorem nP (hfs:fs.length=L.length) (h: ∀ j,j < L.length→vB nm (jy L j) (fs.getD j id)) {l:List Tx} (hl:GN nm l): ∀ j,j≤L.length→GN nm (fa (fs.take j) l)
 | 0,_=> by simpa [fa] using hl
 | j+1,hj=> by
  rw [jc ab]
  exact (h j ab _ (nP hfs h hl j ab)).2
theorem cw (hnm:nm.length≤16) (hfs:fs.length=L.length) (h: ∀ j,j < L.length→vB nm (jy L j) (fs.getD j id)) (k:Nat) (hk:k≠1∧k≠14) (n:Nat) (s:Tx):vB nm (nd k n s L) (fa fs):=fun l hl=> by
 have hg:=nP hfs h hl
 have he:fa (fs.take L.length) l=fa fs l:=by rw [← hfs,List.take_length]
 have hw:=qW k hk n s L l (by have:=hl.len;omega) (fun j=> fa (fs.take j) l) rfl fun j hj=> by
  rw [show fa (fs.take (j+1)) l=_ from jc ab]
  exact (h j hj _ (hg j ab)).1
 rw [he] at hw
 exact ⟨hw,he ▸ hg _ (Nat.le_refl _)⟩
theorem vN (hnm:nm.length≤16) (hfs:fs.length=L.length) (h: ∀ j,j < L.length→vB nm (jy L j) (fs.getD j id)) (n:Nat) {i:Nat} (hi:i < nm.length):vB nm (nd 1 n (nm.getD i []) L) (fun l=> fa fs (gH (nm.getD i []) l)):=fun l hl=> by
 have hg:=nP hfs h (hl.add hi)
 have he:fa (fs.take L.length) (gH (nm.getD i []) l)=fa fs (gH (nm.getD i []) l):=by rw [← hfs,List.take_length]
 have hkid: ∀ j,j < L.length→_:=fun j hj=> (h j hj _ (hg j ab)).1
 have hll:=hl.len
 show Spec _ _ _ (aW (.sl (fa fs (gH (nm.getD i []) l)).length (dS (fa fs (gH (nm.getD i []) l)))) [])∧GN nm (fa fs (gH (nm.getD i []) l))
 rw [← he]
 refine ⟨?_,hg _ (Nat.le_refl _)⟩
 by_cases hs:nm.getD i []∈l
 ·exact sw n _ L l hs ab (fun j=> fa (fs.take j) (gH (nm.getD i []) l)) (by show gH _ l=l;unfold gH;rw [if_pos hs]) fun j hj=> by
   rw [show fa (fs.take (j+1)) (gH (nm.getD i []) l)=_ from jc ab]
   exact hkid j hj
 ·exact sB n _ L l hs ab (fun j=> fa (fs.take j) (gH (nm.getD i []) l)) (by show gH _ l=_;unfold gH;rw [if_neg hs]) fun j hj=> by
   rw [show fa (fs.take (j+1)) (gH (nm.getD i []) l)=_ from jc ab]
   exact hkid j hj
end
theorem uR {nm:List Tx} (hnm:nm.length≤16) {i:Nat} (hi:i < nm.length):vB nm (nd 14 0 (nm.getD i []) []) (gH (nm.getD i [])):=fun l hl=> by
 have hll:=hl.len
 refine ⟨?_,hl.add hi⟩
 by_cases hs:nm.getD i []∈l
 ·exact pZ 0 _ [] l hs ab (fun _=> gH (nm.getD i []) l) (by show gH _ l=l;unfold gH;rw [if_pos hs]) fun j hj=> by simp at hj
 ·exact pT 0 _ [] l hs ab (fun _=> gH (nm.getD i []) l) (by show gH _ l=_;unfold gH;rw [if_neg hs]) fun j hj=> by simp at hj
section
variable {nm:List Tx}
abbrev xT (nm:List Tx) (L:List Nd) (fs:List (List Tx→List Tx)):Prop:= ∀ j,j < L.length→vB nm (jy L j) (fs.getD j id)
theorem pm:xT nm [] []:=fun j hj=> by simp at hj
theorem oJ {d:Nd} {f:List Tx→List Tx} {L:List Nd} {fs:List (List Tx→List Tx)} (h:vB nm d f) (h':xT nm L fs):xT nm (d::L) (f::fs):=fun j hj=> by
 cases j with
 | zero=> exact h
 | succ j=> exact h' j (by simpa using hj)
theorem dk (hnm:nm.length≤16): ∀ e:Ex,fl nm.length e→vB nm (dP nm e) (qb nm e)
 | .int _,_=> cw hnm rfl pm 12 ab _ _
 | .bool _,_=> cw hnm rfl pm 13 ab _ _
 | .name _,_=> cw hnm rfl pm 15 ab _ _
 | .var i,h=> uR hnm h
 | .draw e,h=> cw hnm rfl (oJ (dk hnm e h) pm) 16 ab _ _
 | .neg e,h=> cw hnm rfl (oJ (dk hnm e h) pm) 17 ab _ _
 | .not e,h=> cw hnm rfl (oJ (dk hnm e h) pm) 17 ab _ _
 | .bin _ a b,h=> cw hnm rfl (oJ (dk hnm a h.1) (oJ (dk hnm b h.2) pm)) 18 ab _ _
 | .and a b,h=> cw hnm rfl (oJ (dk hnm a h.1) (oJ (dk hnm b h.2) pm)) 18 ab _ _
 | .or a b,h=> cw hnm rfl (oJ (dk hnm a h.1) (oJ (dk hnm b h.2) pm)) 18 ab _ _
def Cc (nm:List Tx):Bk→List (List Tx→List Tx)
 | .nil=> []
 | .cons s b=> KE nm s::Cc nm b
theorem tH (nm:List Tx): ∀ b:Bk,(Cc nm b).length=(fU nm b).length
 | .nil=> by simp [Cc,fU]
 | .cons s b=> by simp [Cc,fU,tH nm b]
theorem rp (nm:List Tx): ∀ (b:Bk) (l:List Tx),fa (Cc nm b) l=zn nm b l
 | .nil,l=> rfl
 | .cons s b,l=> by rw [zn,← rp nm b];rfl
theorem km (hnm:nm.length≤16) {b:Bk} (h:xT nm (fU nm b) (Cc nm b)):vB nm (jz nm b) (zn nm b):=by
 have:=cw hnm (tH nm b) h 11 ab 0 []
 rwa [show fa (Cc nm b)=zn nm b from funext (rp nm b)] at this
mutual
theorem xP (hnm:nm.length≤16): ∀ s:Sm,eY nm.length s→vB nm (oA nm s) (KE nm s)
 | .assign i e,h=> by rw [eY] at h;exact vN hnm rfl (oJ (dk hnm e h.2) pm) 0 h.1
 | .send t k a b,h=> by rw [eY] at h;exact cw hnm rfl (oJ (dk hnm t h.2.1) (oJ (dk hnm a h.2.2.1) (oJ (dk hnm b h.2.2.2) pm))) 4 ab _ _
 | .timer _,_=> cw hnm rfl pm 5 ab _ _
 | .cancel _,_=> cw hnm rfl pm 6 ab _ _
 | .sync,_=> cw hnm rfl pm 7 ab _ _
 | .stop,_=> cw hnm rfl pm 10 ab _ _
 | .reply a b,h=> by rw [eY] at h;exact cw hnm rfl (oJ (dk hnm a h.1) (oJ (dk hnm b h.2) pm)) 8 ab _ _
 | .fail e,h=> by rw [eY] at h;exact cw hnm rfl (oJ (dk hnm e h) pm) 9 ab _ _
 | .loop c b,h=> by rw [eY] at h;exact cw hnm rfl (oJ (dk hnm c h.1) (oJ (km hnm (jM hnm b h.2)) pm)) 3 ab _ _
 | .ite c a b,h=> by rw [eY] at h;exact cw hnm rfl (oJ (dk hnm c h.1) (oJ (km hnm (jM hnm a h.2.1)) (oJ (km hnm (jM hnm b h.2.2)) pm))) 2 ab _ _
theorem jM (hnm:nm.length≤16): ∀ b:Bk,ia nm.length b→xT nm (fU nm b) (Cc nm b)
 | .nil,_=> pm
 | .cons s b,h=> by rw [ia] at h;exact oJ (xP hnm s h.1) (jM hnm b h.2)
end
theorem wF (hnm:nm.length≤16) (b:Bk) (h:ia nm.length b):vB nm (jz nm b) (zn nm b):=km hnm (jM hnm b h)
end

theorem kQ {l:List Tx} (h:l.Nodup) {i j:Nat} (hi:i < l.length) (hj:j < l.length) (e:l.getD i []=l.getD j []):i=j:=by
 rw [List.getD_eq_getElem?_getD,List.getD_eq_getElem?_getD,List.getElem?_eq_getElem hi,List.getElem?_eq_getElem hj] at e
 have h:=List.pairwise_iff_getElem.1 h
 rcases Nat.lt_trichotomy i j with hlt | rfl | hlt
 ·exact absurd (Option.some.inj (by simpa using e)) (h i j hi hj hlt)
 ·rfl
 ·exact absurd (Option.some.inj (by simpa using e)).symm (h j i hj hi hlt)
theorem pF {a b:List Tx} {k:Nat} (h:k < a.length):a.getD k []=(a++b).getD k []:=by
 rw [List.getD_eq_getElem?_getD,List.getD_eq_getElem?_getD,List.getElem?_append_left h]
theorem getD_right {a b:List Tx} {k:Nat}:b.getD k []=(a++b).getD (a.length+k) []:=by
 rw [List.getD_eq_getElem?_getD,List.getD_eq_getElem?_getD,List.getElem?_append_right ab,Nat.add_sub_cancel_left]
theorem kU (d v:List Tx) (on:List PV) (no:Nat) (hn:(d++v).Nodup) (hl:(d++v).length≤1000) (i:Nat) (hi:i < (d++v).length):
  Spec Tryz.prog 121 (bj [.agg [.sl d.length (dS d), .sl v.length (dS v), .sl no on], .v (bt ((d++v).getD i []))] []) (aW (.v (.int .i64 (i:Int))) []):=by
 have hl2:(d++v).length=d.length+v.length:=List.length_append
 refine Spec.ofN Tryz.func121 rfl Tryz.ntmps121 rfl ?_
 refine am (ai (bk (2,0) _ rfl rfl) (ba rfl (aj (aF fun K2 hK2=> ?_))))
 refine am (ba rfl (aj (au ?_)))
 refine bD (α:=Nat) (fun k=> k≤d.length∧k≤i) 41 [(1,_),(2,_)] [((2,0),_)] (fun k=> [(5, .v (.int .i64 (k:Int)))]) (fun k=> []) [] [] (fun k=> d.length - k) 0 ?_ (by
  refine Le.mkJ [] [] rfl ?_ ?_ trivial trivial ?_
  ·exact ⟨(iV rfl),(iP rfl),(ci ag),trivial⟩
  ·exact ⟨(cG rfl rfl rfl),trivial⟩
  ·kernel_rfl) ?_
 ·exact ⟨Nat.zero_le _,Nat.zero_le _⟩
 intro k hk
 obtain ⟨hk,hki⟩:=hk
 refine aF fun K4 hK4=> ?_
 refine am (aQ rfl (bE rfl rfl rfl (fg rfl rfl rfl (ai (bB _ aa rfl) (ai (bp _ _ rfl rfl rfl) (aj (aU rfl (fun hc11=> ?_) (fun hc11=> ?_))))))))
 ·skip
  refine bw (hK4 _ ?_)
  clear hK4;try clear K4
  refine aq (au (am (bE rfl rfl rfl (fg rfl rfl rfl (aQ rfl (ai (bf _ _ aa rfl rfl _ rfl ab (by (simp only [aZ,bm,bl,bA,bv,bJ,bz,List.length_map];omega)) (by exact Nat.mul_one _)) ?_))))))
  refine ai (bC _ aa rfl (by exact fx _ _ ab) rfl) ?_
  refine dI rfl (ai (aT _ _ Tryz.underlying9 rfl rfl rfl) (aj (aU rfl (fun hc20=> ?_) (fun hc20=> ?_))))
  ·skip
   have he:k=i:=kQ hn ab hi ((pF ab).symm.trans hc20)
   refine am (aQ rfl (ba rfl (aj (aC (aY (.inr rfl) rfl (.tmp (rfl:_=AV.v (.int _ _))) (Le.out [] [] (ci ?_) rfl rfl rfl trivial trivial))))))
   rw [he]
  ·skip
   have he:k≠i:=fun e=> hc20 ((pF ab).trans (by rw [e]))
   refine cf (an (aQ rfl (ai (be _ _ rfl rfl (bq ab)) ?_)))
   refine ba rfl (az (⟨k+1,?_,?_,?_⟩))
   ·exact ⟨by omega,by omega⟩
   ·skip
    refine Le.mkJ [] [] rfl ?_ ?_ trivial trivial ?_
    ·exact ⟨(iV rfl),(iP rfl),(ci ag),trivial⟩
    ·exact ⟨(cG rfl rfl rfl),trivial⟩
    ·kernel_rfl
   ·omega
 ·skip
  refine bL (id (hK2 _ ?_))
  clear hK2;try clear K2
  refine aq (am (ba rfl (aj (au ?_))))
  refine bD (α:=Nat) (fun q=> q≤v.length∧d.length+q≤i) 41 [(1,_),(2,_)] [((2,0),_)] (fun q=> [(6, .v (.int .i64 (q:Int)))]) (fun q=> []) [] [] (fun q=> v.length - q) 0 ?_ (by
   refine Le.mkJ [] [] rfl ?_ ?_ trivial trivial ?_
   ·exact ⟨(iV rfl),(iP rfl),(ci ag),trivial⟩
   ·exact ⟨(cG rfl rfl rfl),trivial⟩
   ·kernel_rfl) ?_
  ·exact ⟨Nat.zero_le _,by omega⟩
  intro q hq
  obtain ⟨hq,hqi⟩:=hq
  refine aF fun K11 hK11=> ?_
  refine am (aQ rfl (bE rfl rfl rfl (fg rfl rfl rfl (ai (bB _ aa rfl) (ai (bp _ _ rfl rfl rfl) (aj (aU rfl (fun hc26=> ?_) (fun hc26=> ?_))))))))
  ·skip
   refine bw (hK11 _ ?_)
   clear hK11;try clear K11
   refine aq (au (am (bE rfl rfl rfl (fg rfl rfl rfl (aQ rfl (ai (bf _ _ aa rfl rfl _ rfl ab (by (simp only [aZ,bm,bl,bA,bv,bJ,bz,List.length_map];omega)) (by exact Nat.mul_one _)) ?_))))))
   refine ai (bC _ aa rfl (by exact fx _ _ ab) rfl) ?_
   refine dI rfl (ai (aT _ _ Tryz.underlying9 rfl rfl rfl) (aj (aU rfl (fun hc35=> ?_) (fun hc35=> ?_))))
   ·skip
    have he:d.length+q=i:=kQ hn ab hi (getD_right.symm.trans hc35)
    refine am (bE rfl rfl rfl (fg rfl rfl rfl (ai (bB _ aa rfl) (aQ rfl (ai (be _ _ rfl rfl (bq ab)) ?_)))))
    refine ba rfl (aj (aC (aY (.inr rfl) rfl (.tmp (rfl:_=AV.v (.int _ _))) (Le.out [] [] (ci ?_) rfl rfl rfl trivial trivial))))
    omega
   ·skip
    have he:d.length+q≠i:=fun e=> hc35 (getD_right.trans (by rw [e]))
    refine cf (an (aQ rfl (ai (be _ _ rfl rfl (bq ab)) ?_)))
    refine ba rfl (az (⟨q+1,?_,?_,?_⟩))
    ·exact ⟨by omega,by omega⟩
    ·skip
     refine Le.mkJ [] [] rfl ?_ ?_ trivial trivial ?_
     ·exact ⟨(iV rfl),(iP rfl),(ci ag),trivial⟩
     ·exact ⟨(cG rfl rfl rfl),trivial⟩
     ·kernel_rfl
    ·omega
  ·skip
   exact absurd hqi ab
theorem xM (ons:List (Nat×Bk)) (nm:List Tx) (k:Nat) (h:k < ons.length):mx (ons.map fun p=> (p.1,jz nm p.2)) k=((ons[k]).1,jz nm (ons[k]).2):=by
 rw [mi _ _ (by simpa using h),List.getElem_map]
theorem rD (l:List Hd) (k:Nat) (h:k < l.length):PV.ups (((lg l).drop (k*5+1)).take 4)=[.v (.int .i64 ((mx l k).2.k:Int)), .v (.int .i64 ((mx l k).2.n:Int)), .v (bt (mx l k).2.s), .sl (mx l k).2.kn (mx l k).2.kids]:=by
 have e:=nY wt 5 (fun _=> rfl) l k h
 have:((lg l).drop (k*5+1)).take 4=(((l.flatMap wt).drop (k*5)).take 5).drop 1:=by
  rw [List.drop_take,List.drop_drop];rfl
 rw [this,e,mi l k h];rfl
theorem nZ (d v:List Tx) (ons:List (Nat×Bk)) (hn:(d++v).Nodup) (hl:(d++v).length≤16) (ho: ∀ p∈ons,ia (d++v).length p.2) (hw: ∀ p∈ons,nF p.2=true) (hc:ons.length≤1000):
  Spec Tryz.prog 97 (bj [Ep d v (ons.map fun p=> (p.1,jz (d++v) p.2))] []) (aW (.v (.int .i64 0)) []):=by
 obtain ⟨H,hH⟩: ∃ H,H=ons.map fun p=> (p.1,jz (d++v) p.2):=⟨_,rfl⟩
 have hHl:H.length=ons.length:=by rw [hH,List.length_map]
 rw [← hH]
 have hHk: ∀ k (h:k < ons.length),mx H k=((ons[k]).1,jz (d++v) (ons[k]).2):=fun k h=> by rw [hH];exact xM ons _ k h
 clear hH
 refine Spec.ofN Tryz.func97 rfl Tryz.ntmps97 rfl ?_
 refine am (ai (bk (1,0) _ rfl rfl) (ba rfl (aj (aF fun K2 hK2=> ?_))))
 refine am (ba rfl (aj (au ?_)))
 refine bD (α:=Nat) (fun k=> k≤H.length) 43 [(1,_)] [((1,0),_)] (fun k=> [(3, .v (.int .i64 (k:Int)))]) (fun k=> []) [] [] (fun k=> H.length - k) 0 ?_ (by
  refine Le.mkJ [] [] rfl ?_ ?_ trivial trivial ?_
  ·exact ⟨(iP rfl),(ci ag),trivial⟩
  ·exact ⟨(cG rfl rfl rfl),trivial⟩
  ·kernel_rfl) ?_
 ·omega
 intro k hk
 refine aF fun K4 hK4=> ?_
 refine am (aQ rfl (bE rfl rfl rfl (fg rfl rfl rfl (ai (bB _ aa rfl) (ai (bp _ _ rfl rfl rfl) (aj (aU rfl (fun hc11=> ?_) (fun hc11=> ?_))))))))
 ·skip
  have hk2:k < ons.length:=by omega
  obtain ⟨b,hb⟩: ∃ b,b=(ons[k]).2:=⟨_,rfl⟩
  have hkH:=hHk k hk2
  rw [← hb] at hkH
  have hwb:=zw (d++v) b (hb ▸ hw _ (List.getElem_mem hk2))
  obtain ⟨hnb,hng⟩:=wF hl b (hb ▸ ho _ (List.getElem_mem hk2)) [] GN.nil
  have hbody:=rD H k ab
  rw [hkH] at hbody
  generalize zn (d++v) b []=M at hnb hng
  have hMl:=hng.len
  refine bw (hK4 _ ?_)
  clear hK4;try clear K4
  refine aF fun K6 hK6=> ?_
  refine au (am (bE rfl rfl rfl (fg rfl rfl rfl (aQ rfl (ai (bf _ _ aa rfl rfl _ rfl ab (by (simp only [aZ,bm,bl,bA,bv,bJ,bz,List.length_map];omega)) ag) ?_)))))
  refine ai (cO _ aa rfl rfl) (ai (cg _ aa rfl (by exact hbody) rfl) ?_)
  refine ai (aK aa al (hwb) rfl rfl) ?_
  refine ct rfl (aj (aq (am (cP rfl (ai (cZ (r:=false) _ rfl rfl) (aj (aP rfl rfl (aI (aq ?_)))))))))
  refine aM (σ':=aB 43 [(1,_),(3,_)] [((1,0),_)] [] []) kp ?_
  refine an (bE rfl rfl rfl (fg rfl rfl rfl (aQ rfl (ai (bf _ _ aa rfl rfl _ rfl ab (by (simp only [aZ,bm,bl,bA,bv,bJ,bz,List.length_map];omega)) ag) ?_))))
  refine ai (cO _ aa rfl rfl) (ai (cg _ aa rfl (by exact hbody) rfl) ?_)
  refine ai (aK aa al (hnb) rfl rfl) ?_
  refine kD rfl (aj (am (ba rfl (aj (au ?_)))))
  refine bD (α:=Nat) (fun q=> q≤M.length) 43 [(1,_),(3,_),(5,_)] [((1,0),_)] (fun q=> [(6, .v (.int .i64 (q:Int)))]) (fun q=> []) [] [] (fun q=> M.length - q) 0 ?_ (by
   refine Le.mkJ [] [] rfl ?_ ?_ trivial trivial ?_
   ·exact ⟨(iP rfl),(iV rfl),(iS rfl),(ci ag),trivial⟩
   ·exact ⟨(cG rfl rfl rfl),trivial⟩
   ·kernel_rfl) ?_
  ·omega
  intro q hq
  refine aF fun K12 hK12=> ?_
  refine am (aQ rfl (eJ rfl (ai (bB _ aa rfl) (ai (bp _ _ rfl rfl rfl) (aj (aU rfl (fun hc33=> ?_) (fun hc33=> ?_)))))))
  ·skip
   obtain ⟨i,hi,hiq⟩: ∃ i,i < (d++v).length∧M.getD q []=(d++v).getD i []:=by
    have hm:=hng.2 _ (iz (show q < M.length by omega))
    obtain ⟨i,hi,he⟩:=List.getElem_of_mem hm
    exact ⟨i,hi,by rw [List.getD_eq_getElem?_getD (l:=d++v),List.getElem?_eq_getElem hi,← he];rfl⟩
   have hix:=kU d v (lg H) H.length hn ab i hi
   rw [← hiq] at hix
   refine bw (hK12 _ ?_)
   clear hK12;try clear K12
   refine aq (au (aq ?_))
   refine aM (σ':=aB 43 [(1,_),(3,_),(5,_),(6,_)] [((1,0),_)] [] []) kp ?_
   refine bG 7 [36,37,38,39,40,41,42] [] ae ae rfl (aL rfl) (rfl:_=[_,_,_,_,_,_,_]) (rfl:_=[]) ?_
   refine ap (_,[]) (fun τ=> aR _ aa rfl rfl rfl rfl) ?_
   refine eH rfl ?_
   refine ap (_,[]) (fun τ=> aD _ (rfl:_=AV.sl _ _)) ?_
   refine eG rfl ?_
   refine ap (_,[]) (fun τ=> aD _ (rfl:_=AV.v (.int _ _))) ?_
   refine eI rfl ?_
   refine ap (_,[]) (fun τ=> bf _ _ aa rfl rfl _ rfl ab (by (simp only [aZ,bm,bl,bA,bv,bJ,bz,List.length_map];omega)) (by exact Nat.mul_one _)) ?_
   refine eQ rfl ?_
   refine ap (_,[]) (fun τ=> bC _ aa rfl (by exact fx _ _ ab) rfl) ?_
   refine fb rfl ?_
   refine ap (_,[]) (fun τ=> (aK aa al (hix) rfl rfl)) ?_
   refine fB rfl ?_
   refine ap (_,[]) (fun τ=> bp (r:=false) _ _ rfl rfl (decide_eq_false ab)) ?_
   refine gD rfl (bh ⟨rfl,?_⟩)
   refine aj (aP rfl rfl (cf (an (aQ rfl (ai (be _ _ rfl rfl (bq ab)) ?_)))))
   refine ba rfl (az (⟨q+1,?_,?_,?_⟩))
   ·omega
   ·skip
    refine Le.mkJ [] [] rfl ?_ ?_ trivial trivial ?_
    ·exact ⟨(iP rfl),(iV rfl),(iS rfl),(ci ag),trivial⟩
    ·exact ⟨(cG rfl rfl rfl),trivial⟩
    ·kernel_rfl
   ·omega
  ·skip
   refine bL (id (hK6 _ ?_))
   clear hK6;try clear K6
   refine an (aQ rfl (ai (be _ _ rfl rfl (bq ab)) ?_))
   refine ba rfl (az (⟨k+1,?_,?_,?_⟩))
   ·omega
   ·skip
    refine Le.mkJ [] [] rfl ?_ ?_ trivial trivial ?_
    ·exact ⟨(iP rfl),(ci ag),trivial⟩
    ·exact ⟨(cG rfl rfl rfl),trivial⟩
    ·kernel_rfl
   ·omega
 ·skip
  refine bL (id (hK2 _ ?_))
  clear hK2;try clear K2
  exact am (ba rfl (aj (aC (aY (.inr rfl) rfl (.tmp (rfl:_=AV.v _)) (Le.out [] [] .v rfl rfl rfl trivial trivial)))))

theorem lZ (C:List eu):((inl C).drop 0).take (C.length*2)=inl C:=List.take_of_length_le (by rw [List.drop_zero,bK];exact Nat.le_refl _)
theorem jG (C:List eu):0+C.length*2≤(inl C).length:=by rw [bK,Nat.zero_add];exact Nat.le_refl _
theorem vF (l:List Tx) (n:Nat) (hn:l.length=n) (h1:n≤1000) (hd:l.Nodup) (i:Nat) (hi:i < n):Spec Tryz.prog 122 (bj [.sl n (dS l), .v (bt (l.getD i []))] []) (aW (.v (.int .i64 (i:Int))) []):=by
 refine Spec.ofN Tryz.func122 rfl Tryz.ntmps122 rfl ?_
 refine am (ba rfl (aj (aq (am (ba rfl (aj (au ?_)))))))
 refine bD (α:=Nat) (fun k=> k≤n∧k≤i) 19 [(0,_),(1,_)] [] (fun k=> [(5, .v (.int .i64 (k:Int)))]) (fun k=> []) [] [] (fun k=> n - k) 0 ?_ (by
  refine Le.mkJ [] [] rfl ?_ ?_ trivial trivial ?_
  ·exact ⟨(iS rfl),(iV rfl),(ci ag),trivial⟩
  ·exact trivial
  ·kernel_rfl) ?_
 ·exact ⟨Nat.zero_le _,Nat.zero_le _⟩
 intro k hk
 obtain ⟨hk,hki⟩:=hk
 refine aF fun K4 hK4=> ?_
 refine am (aQ rfl (eJ rfl (ai (bB _ aa rfl) (ai (bp _ _ rfl rfl rfl) (aj (aU rfl (fun hc9=> ?_) (fun hc9=> ?_)))))))
 ·skip
  refine bw (hK4 _ ?_)
  clear hK4;try clear K4
  refine aq (au (am (eJ rfl (aQ rfl (ai (bf _ _ aa rfl rfl _ rfl ab (by (simp only [aZ,bm,bl,bA,bv,bJ,bz,bK];omega)) (by exact Nat.mul_one _)) ?_)))))
  refine ai (bC _ aa rfl (by exact fx _ _ ab) rfl) ?_
  refine dI rfl (ai (aT _ _ Tryz.underlying9 rfl rfl rfl) (aj (aU rfl (fun hc17=> ?_) (fun hc17=> ?_))))
  ·skip
   have he:k=i:=kQ hd ab ab hc17
   refine am (aQ rfl (ba rfl (aj (aC (aY (.inr rfl) rfl (.tmp (rfl:_=AV.v (.int _ _))) (Le.out [] [] (ci ?_) rfl rfl rfl trivial trivial))))))
   rw [he]
  ·skip
   have he:k≠i:=fun e=> hc17 (by rw [e])
   refine cf (an (aQ rfl (ai (be _ _ rfl rfl (bq ab)) ?_)))
   refine ba rfl (az (⟨k+1,?_,?_,?_⟩))
   ·exact ⟨by omega,by omega⟩
   ·skip
    refine Le.mkJ [] [] rfl ?_ ?_ trivial trivial ?_
    ·exact ⟨(iS rfl),(iV rfl),(ci ag),trivial⟩
    ·exact trivial
    ·kernel_rfl
   ·omega
 ·skip
  exact absurd hki ab
theorem mQ:Spec Tryz.prog 123 (bj [] []) (aW (.sl 9 (dS bltT)) []):=by
 refine Spec.ofN Tryz.func123 rfl Tryz.ntmps123 rfl ?_
 refine am (ai (bH _ (rfl:_=AV.v (.slice _ _ _))) (aj (am (ai (aV _ _ aa rfl ag (by (simp <;> rfl)) ah rfl) ?_))))
 exact kD rfl (aj (aC (aY (.inr rfl) rfl (.tmp (rfl:_=AV.sl _ _)) (Le.out [] [] .sl rfl rfl rfl trivial trivial))))
theorem wR:Spec Tryz.prog 126 (bj [.v (bt [43])] []) (aW (.sl (Bo.add).code.length (inl (Bo.add).code)) []):=by
 refine Spec.ofN Tryz.func126 rfl Tryz.ntmps126 rfl ?_
 refine am (ai (bH _ (rfl:_=AV.v (.slice _ _ _))) (aj (aq (am (dI rfl (aj (au (am (ai (aT (r:=true) _ _ Tryz.underlying9 rfl rfl rfl) (ct rfl ?_))))))))))
 refine aj (bF rfl rfl (am (ai (aA _ aa rfl (by exact (rfl:_=some [_,_]))) ?_)))
 refine ai (aV _ _ aa rfl ag (by (simp <;> rfl)) ah rfl) ?_
 exact kD rfl (aj (aC (aY (.inr rfl) rfl (.tmp (rfl:_=AV.sl _ _)) (Le.out [] [] .sl rfl rfl rfl trivial trivial))))
theorem wQ:Spec Tryz.prog 126 (bj [.v (bt [45])] []) (aW (.sl (Bo.sub).code.length (inl (Bo.sub).code)) []):=by
 refine Spec.ofN Tryz.func126 rfl Tryz.ntmps126 rfl ?_
 refine am (ai (bH _ (rfl:_=AV.v (.slice _ _ _))) (aj (aq (am (dI rfl (aj (au (am (ai (aT (r:=false) _ _ Tryz.underlying9 rfl rfl rfl) (ct rfl ?_))))))))))
 refine aj (aP rfl rfl (am (ai (aT (r:=true) _ _ Tryz.underlying9 rfl rfl rfl) (ct rfl (aj (bF rfl rfl (am (ai (aA _ aa rfl (by exact (rfl:_=some [_,_]))) ?_))))))))
 refine ai (aV _ _ aa rfl ag (by (simp <;> rfl)) ah rfl) ?_
 exact kD rfl (aj (aC (aY (.inr rfl) rfl (.tmp (rfl:_=AV.sl _ _)) (Le.out [] [] .sl rfl rfl rfl trivial trivial))))
theorem wB:Spec Tryz.prog 126 (bj [.v (bt [42])] []) (aW (.sl (Bo.mul).code.length (inl (Bo.mul).code)) []):=by
 refine Spec.ofN Tryz.func126 rfl Tryz.ntmps126 rfl ?_
 refine am (ai (bH _ (rfl:_=AV.v (.slice _ _ _))) (aj (aq (am (dI rfl (aj (au (am (ai (aT (r:=false) _ _ Tryz.underlying9 rfl rfl rfl) (ct rfl ?_))))))))))
 refine aj (aP rfl rfl (am (ai (aT (r:=false) _ _ Tryz.underlying9 rfl rfl rfl) (ct rfl (aj (aP rfl rfl (am (ai (aT (r:=true) _ _ Tryz.underlying9 rfl rfl rfl) (ct rfl (aj ?_))))))))))
 refine bF rfl rfl (am (ai (aA _ aa rfl (by exact (rfl:_=some [_,_]))) ?_))
 refine ai (aV _ _ aa rfl ag (by (simp <;> rfl)) ah rfl) ?_
 exact kD rfl (aj (aC (aY (.inr rfl) rfl (.tmp (rfl:_=AV.sl _ _)) (Le.out [] [] .sl rfl rfl rfl trivial trivial))))
theorem yl:Spec Tryz.prog 126 (bj [.v (bt [47])] []) (aW (.sl (Bo.div).code.length (inl (Bo.div).code)) []):=by
 refine Spec.ofN Tryz.func126 rfl Tryz.ntmps126 rfl ?_
 refine am (ai (bH _ (rfl:_=AV.v (.slice _ _ _))) (aj (aq (am (dI rfl (aj (au (am (ai (aT (r:=false) _ _ Tryz.underlying9 rfl rfl rfl) (ct rfl ?_))))))))))
 refine aj (aP rfl rfl (am (ai (aT (r:=false) _ _ Tryz.underlying9 rfl rfl rfl) (ct rfl (aj (aP rfl rfl (am (ai (aT (r:=false) _ _ Tryz.underlying9 rfl rfl rfl) (ct rfl (aj ?_))))))))))
 refine aP rfl rfl (am (ai (aT (r:=true) _ _ Tryz.underlying9 rfl rfl rfl) (ct rfl (aj (bF rfl rfl (am (ai (aA _ aa rfl (by exact (rfl:_=some [_,_]))) ?_)))))))
 refine ai (aV _ _ aa rfl ag (by (simp <;> rfl)) ah rfl) ?_
 exact kD rfl (aj (aC (aY (.inr rfl) rfl (.tmp (rfl:_=AV.sl _ _)) (Le.out [] [] .sl rfl rfl rfl trivial trivial))))
theorem Bw:Spec Tryz.prog 126 (bj [.v (bt [60])] []) (aW (.sl (Bo.lt).code.length (inl (Bo.lt).code)) []):=by
 refine Spec.ofN Tryz.func126 rfl Tryz.ntmps126 rfl ?_
 refine am (ai (bH _ (rfl:_=AV.v (.slice _ _ _))) (aj (aq (am (dI rfl (aj (au (am (ai (aT (r:=false) _ _ Tryz.underlying9 rfl rfl rfl) (ct rfl ?_))))))))))
 refine aj (aP rfl rfl (am (ai (aT (r:=false) _ _ Tryz.underlying9 rfl rfl rfl) (ct rfl (aj (aP rfl rfl (am (ai (aT (r:=false) _ _ Tryz.underlying9 rfl rfl rfl) (ct rfl (aj ?_))))))))))
 refine aP rfl rfl (am (ai (aT (r:=false) _ _ Tryz.underlying9 rfl rfl rfl) (ct rfl (aj (aP rfl rfl (am (ai (aT (r:=true) _ _ Tryz.underlying9 rfl rfl rfl) (ct rfl (aj (bF rfl rfl ?_))))))))))
 refine am (ai (aA _ aa rfl (by exact (rfl:_=some [_,_]))) ?_)
 refine ai (aV _ _ aa rfl ag (by (simp <;> rfl)) ah rfl) ?_
 exact kD rfl (aj (aC (aY (.inr rfl) rfl (.tmp (rfl:_=AV.sl _ _)) (Le.out [] [] .sl rfl rfl rfl trivial trivial))))
theorem BF:Spec Tryz.prog 126 (bj [.v (bt [60,61])] []) (aW (.sl (Bo.le).code.length (inl (Bo.le).code)) []):=by
 refine Spec.ofN Tryz.func126 rfl Tryz.ntmps126 rfl ?_
 refine am (ai (bH _ (rfl:_=AV.v (.slice _ _ _))) (aj (aq (am (dI rfl (aj (au (am (ai (aT (r:=false) _ _ Tryz.underlying9 rfl rfl rfl) (ct rfl ?_))))))))))
 refine aj (aP rfl rfl (am (ai (aT (r:=false) _ _ Tryz.underlying9 rfl rfl rfl) (ct rfl (aj (aP rfl rfl (am (ai (aT (r:=false) _ _ Tryz.underlying9 rfl rfl rfl) (ct rfl (aj ?_))))))))))
 refine aP rfl rfl (am (ai (aT (r:=false) _ _ Tryz.underlying9 rfl rfl rfl) (ct rfl (aj (aP rfl rfl (am (ai (aT (r:=false) _ _ Tryz.underlying9 rfl rfl rfl) (ct rfl (aj (aP rfl rfl ?_))))))))))
 refine am (ai (aT (r:=true) _ _ Tryz.underlying9 rfl rfl rfl) (ct rfl (aj (bF rfl rfl (am (ai (aA _ aa rfl (by exact (rfl:_=some [_,_]))) ?_))))))
 refine ai (aV _ _ aa rfl ag (by (simp <;> rfl)) ah rfl) ?_
 exact kD rfl (aj (aC (aY (.inr rfl) rfl (.tmp (rfl:_=AV.sl _ _)) (Le.out [] [] .sl rfl rfl rfl trivial trivial))))
theorem zX:Spec Tryz.prog 126 (bj [.v (bt [61,61])] []) (aW (.sl (Bo.eq).code.length (inl (Bo.eq).code)) []):=by
 refine Spec.ofN Tryz.func126 rfl Tryz.ntmps126 rfl ?_
 refine am (ai (bH _ (rfl:_=AV.v (.slice _ _ _))) (aj (aq (am (dI rfl (aj (au (am (ai (aT (r:=false) _ _ Tryz.underlying9 rfl rfl rfl) (ct rfl ?_))))))))))
 refine aj (aP rfl rfl (am (ai (aT (r:=false) _ _ Tryz.underlying9 rfl rfl rfl) (ct rfl (aj (aP rfl rfl (am (ai (aT (r:=false) _ _ Tryz.underlying9 rfl rfl rfl) (ct rfl (aj ?_))))))))))
 refine aP rfl rfl (am (ai (aT (r:=false) _ _ Tryz.underlying9 rfl rfl rfl) (ct rfl (aj (aP rfl rfl (am (ai (aT (r:=false) _ _ Tryz.underlying9 rfl rfl rfl) (ct rfl (aj (aP rfl rfl ?_))))))))))
 refine am (ai (aT (r:=false) _ _ Tryz.underlying9 rfl rfl rfl) (ct rfl (aj (aP rfl rfl (am (ai (aT (r:=true) _ _ Tryz.underlying9 rfl rfl rfl) (ct rfl (aj (bF rfl rfl (aq ?_))))))))))
 refine aM (σ':=aB 45 [] [] [] []) kp ?_
 refine an (ai (aA _ aa rfl (by exact (rfl:_=some [_,_]))) ?_)
 refine ai (aV _ _ aa rfl ag (by (simp <;> rfl)) ah rfl) ?_
 exact kD rfl (aj (aC (aY (.inr rfl) rfl (.tmp (rfl:_=AV.sl _ _)) (Le.out [] [] .sl rfl rfl rfl trivial trivial))))
theorem Aw:Spec Tryz.prog 126 (bj [.v (bt [62])] []) (aW (.sl (Bo.gt).code.length (inl (Bo.gt).code)) []):=by
 refine Spec.ofN Tryz.func126 rfl Tryz.ntmps126 rfl ?_
 refine am (ai (bH _ (rfl:_=AV.v (.slice _ _ _))) (aj (aq (am (dI rfl (aj (au (am (ai (aT (r:=false) _ _ Tryz.underlying9 rfl rfl rfl) (ct rfl ?_))))))))))
 refine aj (aP rfl rfl (am (ai (aT (r:=false) _ _ Tryz.underlying9 rfl rfl rfl) (ct rfl (aj (aP rfl rfl (am (ai (aT (r:=false) _ _ Tryz.underlying9 rfl rfl rfl) (ct rfl (aj ?_))))))))))
 refine aP rfl rfl (am (ai (aT (r:=false) _ _ Tryz.underlying9 rfl rfl rfl) (ct rfl (aj (aP rfl rfl (am (ai (aT (r:=false) _ _ Tryz.underlying9 rfl rfl rfl) (ct rfl (aj (aP rfl rfl ?_))))))))))
 refine am (ai (aT (r:=false) _ _ Tryz.underlying9 rfl rfl rfl) (ct rfl (aj (aP rfl rfl (am (ai (aT (r:=false) _ _ Tryz.underlying9 rfl rfl rfl) (ct rfl (aj (aP rfl rfl (aq ?_))))))))))
 refine aM (σ':=aB 45 [(3,_)] [] [] []) kp ?_
 refine an (ai (aT (r:=true) _ _ Tryz.underlying9 rfl rfl rfl) (ct rfl (aj (bF rfl rfl (am (ai (aA _ aa rfl (by exact (rfl:_=some [_,_]))) ?_))))))
 refine ai (aA _ aa rfl (by exact (rfl:_=some [_,_]))) ?_
 refine ai (aV _ _ aa rfl ag (by (simp <;> rfl)) ah rfl) ?_
 exact kD rfl (aj (aC (aY (.inr rfl) rfl (.tmp (rfl:_=AV.sl _ _)) (Le.out [] [] .sl rfl rfl rfl trivial trivial))))
theorem Af:Spec Tryz.prog 126 (bj [.v (bt [62,61])] []) (aW (.sl (Bo.ge).code.length (inl (Bo.ge).code)) []):=by
 refine Spec.ofN Tryz.func126 rfl Tryz.ntmps126 rfl ?_
 refine am (ai (bH _ (rfl:_=AV.v (.slice _ _ _))) (aj (aq (am (dI rfl (aj (au (am (ai (aT (r:=false) _ _ Tryz.underlying9 rfl rfl rfl) (ct rfl ?_))))))))))
 refine aj (aP rfl rfl (am (ai (aT (r:=false) _ _ Tryz.underlying9 rfl rfl rfl) (ct rfl (aj (aP rfl rfl (am (ai (aT (r:=false) _ _ Tryz.underlying9 rfl rfl rfl) (ct rfl (aj ?_))))))))))
 refine aP rfl rfl (am (ai (aT (r:=false) _ _ Tryz.underlying9 rfl rfl rfl) (ct rfl (aj (aP rfl rfl (am (ai (aT (r:=false) _ _ Tryz.underlying9 rfl rfl rfl) (ct rfl (aj (aP rfl rfl ?_))))))))))
 refine am (ai (aT (r:=false) _ _ Tryz.underlying9 rfl rfl rfl) (ct rfl (aj (aP rfl rfl (am (ai (aT (r:=false) _ _ Tryz.underlying9 rfl rfl rfl) (ct rfl (aj (aP rfl rfl (aq ?_))))))))))
 refine aM (σ':=aB 45 [(3,_)] [] [] []) kp ?_
 refine an (ai (aT (r:=false) _ _ Tryz.underlying9 rfl rfl rfl) (ct rfl (aj (aP rfl rfl (am (ai (aT (r:=true) _ _ Tryz.underlying9 rfl rfl rfl) (ct rfl (aj (bF rfl rfl (am ?_))))))))))
 refine ai (aA _ aa rfl (by exact (rfl:_=some [_,_]))) ?_
 refine ai (aA _ aa rfl (by exact (rfl:_=some [_,_]))) ?_
 refine ai (aV _ _ aa rfl ag (by (simp <;> rfl)) ah rfl) ?_
 exact kD rfl (aj (aC (aY (.inr rfl) rfl (.tmp (rfl:_=AV.sl _ _)) (Le.out [] [] .sl rfl rfl rfl trivial trivial))))
theorem zE:Spec Tryz.prog 126 (bj [.v (bt [33,61])] []) (aW (.sl (Bo.ne).code.length (inl (Bo.ne).code)) []):=by
 refine Spec.ofN Tryz.func126 rfl Tryz.ntmps126 rfl ?_
 refine am (ai (bH _ (rfl:_=AV.v (.slice _ _ _))) (aj (aq (am (dI rfl (aj (au (am (ai (aT (r:=false) _ _ Tryz.underlying9 rfl rfl rfl) (ct rfl ?_))))))))))
 refine aj (aP rfl rfl (am (ai (aT (r:=false) _ _ Tryz.underlying9 rfl rfl rfl) (ct rfl (aj (aP rfl rfl (am (ai (aT (r:=false) _ _ Tryz.underlying9 rfl rfl rfl) (ct rfl (aj ?_))))))))))
 refine aP rfl rfl (am (ai (aT (r:=false) _ _ Tryz.underlying9 rfl rfl rfl) (ct rfl (aj (aP rfl rfl (am (ai (aT (r:=false) _ _ Tryz.underlying9 rfl rfl rfl) (ct rfl (aj (aP rfl rfl ?_))))))))))
 refine am (ai (aT (r:=false) _ _ Tryz.underlying9 rfl rfl rfl) (ct rfl (aj (aP rfl rfl (am (ai (aT (r:=false) _ _ Tryz.underlying9 rfl rfl rfl) (ct rfl (aj (aP rfl rfl (aq ?_))))))))))
 refine aM (σ':=aB 45 [(3,_)] [] [] []) kp ?_
 refine an (ai (aT (r:=false) _ _ Tryz.underlying9 rfl rfl rfl) (ct rfl (aj (aP rfl rfl (am (ai (aT (r:=false) _ _ Tryz.underlying9 rfl rfl rfl) (ct rfl (aj (aP rfl rfl (cf ?_))))))))))
 refine am (ai (aA _ aa rfl (by exact (rfl:_=some [_,_]))) ?_)
 refine ai (aA _ aa rfl (by exact (rfl:_=some [_,_]))) ?_
 refine ai (aV _ _ aa rfl ag (by (simp <;> rfl)) ah rfl) ?_
 exact kD rfl (aj (aC (aY (.inr rfl) rfl (.tmp (rfl:_=AV.sl _ _)) (Le.out [] [] .sl rfl rfl rfl trivial trivial))))
theorem vz (o:Bo):Spec Tryz.prog 126 (bj [.v (bt o.txt)] []) (aW (.sl o.code.length (inl o.code)) []):=by
 cases o
 ·exact wR
 ·exact wQ
 ·exact wB
 ·exact yl
 ·exact Bw
 ·exact BF
 ·exact zX
 ·exact Aw
 ·exact Af
 ·exact zE

abbrev Cd:=Nat→List eu
abbrev CoS (u:AV) (d:Nd) (c:Cd):Prop:= ∀ a,a+(c a).length≤1000000→Spec Tryz.prog 91 (bj [u,mN d, .v (.int .i64 (a:Int))] []) (aW (.ref (0,8) 0 (c a).length) [((0,8), .row 48 2 (inl (c a)))])
def cN:List Cd→Nat→List eu
 | [],_=> []
 | c::cs,a=> c a++cN cs (a+(c a).length)
theorem nA: ∀ (l m:List Cd) (a:Nat),cN (l++m) a=cN l a++cN m (a+(cN l a).length)
 | [],m,a=> by simp [cN]
 | c::l,m,a=> by simp only [List.cons_append,cN,nA l m,List.append_assoc,List.length_append,Nat.add_assoc]
theorem vk {cs:List Cd} {j a:Nat} (h:j < cs.length):cN (cs.take (j+1)) a=cN (cs.take j) a++(cs.getD j fun _=> []) (a+(cN (cs.take j) a).length):=by
 rw [List.take_succ_eq_append_getElem h,nA]
 simp [cN,h]
theorem pD {cs:List Cd} {j a:Nat}:(cN (cs.take j) a).length≤(cN cs a).length:=by
 conv=> rhs;rw [← List.take_append_drop j cs,nA]
 rw [List.length_append];omega
abbrev la (u:AV) (L:List Nd) (cs:List Cd):Prop:= ∀ j,j < L.length→CoS u (jy L j) (cs.getD j fun _=> [])
theorem AS {u:AV}:la u [] []:=fun j hj=> by simp at hj
theorem uH {u:AV} {d:Nd} {c:Cd} {L:List Nd} {cs:List Cd} (h:CoS u d c) (h':la u L cs):la u (d::L) (c::cs):=fun j hj=> by
 cases j with
 | zero=> exact h
 | succ j=> exact h' j (by simpa using hj)
section
variable {d v:List Tx} {no:Nat} {on:List PV}
abbrev uu (d v:List Tx) (no:Nat) (on:List PV):AV:= .agg [.sl d.length (dS d), .sl v.length (dS v), .sl no on]
theorem dx (L:List Nd) (cs:List Cd) (hc:cs.length=L.length) (hk:la (uu d v no on) L cs) (a:Nat) (ha:a+(cN cs a).length≤1000000):
  Spec Tryz.prog 125 (bj [uu d v no on, .sl L.length (kB L), .v (.int .i64 (a:Int))] []) (aW (.ref (0,8) 0 (cN cs a).length) [((0,8), .row 48 2 (inl (cN cs a)))]):=by
 refine Spec.ofN Tryz.func125 rfl Tryz.ntmps125 rfl ?_
 refine aq ?_
 refine Dn 1 rfl rfl fun hlen=> ?_
 unfold maxLen at hlen
 refine an (ai (bk (3,0) _ rfl rfl) (ai (bH _ (rfl:_=AV.v (.slice _ _ _))) (aj (am (ai (nJ (7,0) _ 48 2 rfl rfl) ?_)))))
 refine aj (aF fun K3 hK3=> ?_)
 refine am (ba rfl (aj (au ?_)))
 refine bD (α:=Nat) (fun j=> j≤L.length) 28 [(1,_),(2,_),(3,_)] [((3,0),_)] (fun j=> [(8, .v (.int .i64 (j:Int))),(7, .ref (7,0) 0 (cN (cs.take j) a).length)]) (fun j=> [((7,0), .row 48 2 (inl (cN (cs.take j) a)))]) [] [] (fun j=> L.length - j) 0 ?_ (by
  refine Le.mkJ [] [] rfl ?_ ?_ trivial trivial ?_
  ·exact ⟨(iS rfl),(iV rfl),(iP rfl),(ci ag),(dj rfl ag),trivial⟩
  ·exact ⟨(cG rfl rfl rfl),(gz rfl rfl rfl ag),trivial⟩
  ·kernel_rfl) ?_
 ·omega
 intro j hj
 have htk:(cN (cs.take j) a).length≤(cN cs a).length:=pD
 refine aF fun K5 hK5=> ?_
 refine am (aQ rfl (eJ rfl (ai (bB _ aa rfl) (ai (bp _ _ rfl rfl rfl) (aj (aU rfl (fun hc12=> ?_) (fun hc12=> ?_)))))))
 ·skip
  have hs:=vk (cs:=cs) (j:=j) (a:=a) ab
  have htk1:(cN (cs.take (j+1)) a).length≤(cN cs a).length:=pD
  have hsl:=congrArg List.length hs
  rw [List.length_append] at hsl
  have hcj:=hk j ab (a+(cN (cs.take j) a).length) ab
  generalize (cs.getD j fun _=> []) (a+(cN (cs.take j) a).length)=C at hs hsl hcj
  refine bw (hK5 _ ?_)
  clear hK5;try clear K5
  refine aq (au ?_)
  refine aM (σ':=aB 28 [(1,_),(2,_),(3,_),(7,_),(8,_)] [((3,0),_),((7,0),_)] [] []) kp ?_
  refine bG 11 [15,16,17,18,19,20,21,22,23,24,25] [(50,0)] ae ae rfl (aL rfl) (rfl:_=[_,_,_,_,_,_,_,_,_,_,_]) (rfl:_=[_,_]) ?_
  refine ap (_,[]) (fun τ=> aD _ (rfl:_=AV.ref _ _ _)) ?_
  refine eH rfl ?_
  refine ap (_,[]) (fun τ=> aR _ aa rfl rfl rfl rfl) ?_
  refine eG rfl ?_
  refine ap (_,[]) (fun τ=> aD _ (rfl:_=AV.sl _ _)) ?_
  refine eI rfl ?_
  refine ap (_,[]) (fun τ=> aD _ (rfl:_=AV.v (.int _ _))) ?_
  refine eQ rfl ?_
  refine ap (_,[]) (fun τ=> bf _ _ aa rfl rfl _ rfl ab (by (simp only [aZ,bm,bl,bA,bv,bJ,bz,bK];omega)) ag) ?_
  refine fb rfl ?_
  refine ap (_,[]) (fun τ=> cg _ aa rfl (by exact cF _ _ ab) rfl) ?_
  refine fB rfl ?_
  refine ap (_,[]) (fun τ=> aD _ (rfl:_=AV.v (.int _ _))) ?_
  refine gD rfl ?_
  refine ap (_,[]) (fun τ=> aD _ (rfl:_=AV.ref _ _ _)) ?_
  refine jL rfl ?_
  refine ap (_,[]) (fun τ=> dv _ aa rfl rfl) ?_
  refine jF rfl ?_
  refine ap (_,[]) (fun τ=> be _ _ rfl rfl (bq ab)) ?_
  refine fV rfl ?_
  refine ap (_,[((50,0),_)]) (fun τ=> (ei aa [((0,8),(50,0))] ar (hcj.toI) trivial tr tr rfl rfl ae ae)) ?_
  refine gB rfl (bh ⟨rfl,?_⟩)
  refine ai (dh (26,0) _ _ aa rfl rfl (bK _).symm (.ref rfl (lZ _) (jG _)) ab rfl (ko _ _) hsl.symm) ?_
  refine eX rfl (fZ (an (aQ rfl (ai (be _ _ rfl rfl (bq ab)) ?_))))
  refine ba rfl (az (⟨j+1,?_,?_,?_⟩))
  ·omega
  ·skip
   refine Le.mkJ [((7,0),(26,0))] [] rfl ?_ ?_ trivial trivial ?_
   ·exact ⟨(by repeat' (exact Lv.sl)),(by repeat' (exact Lv.v)),(dU (id:=(3,0)) rfl),(ci ag),(dj rfl ag),trivial⟩
   ·exact ⟨(fR rfl rfl rfl rfl (by repeat' (first | exact Lv.sl | exact bu | refine aH ?_ ?_))),(gz rfl rfl rfl (by (rw [hs]))),trivial⟩
   ·kernel_rfl
  ·omega
 ·skip
  obtain rfl:j=cs.length:=by omega
  rw [List.take_length]
  refine bL (id (hK3 _ ?_))
  clear hK3;try clear K3
  exact am (gF rfl (eX rfl (aj (aC (aY (.inr rfl) rfl (.tmp (rfl:_=AV.ref _ _ _)) (Le.out [((0,8),(7,0))] [] (dj rfl rfl) rfl rfl rfl trivial ob))))))
theorem nf (N:Nd) (c:Cd) (h:CoS (uu d v no on) N c) (n:Int) (a:Nat) (ha:a+(c a).length≤1000000):
  Spec Tryz.prog 187 (bj [uu d v no on, .sl 1 (kB [N]), .v (.int .i64 n), .v (.int .i64 (a:Int))] []) (aW (.ref (0,8) 0 (c a).length) [((0,8), .row 48 2 (inl (c a)))]):=by
 have hc:=h a ha
 refine Spec.ofN Tryz.func187 rfl Tryz.ntmps187 rfl ?_
 refine am (ai (bk (4,0) _ rfl rfl) (ai (bH _ (rfl:_=AV.v (.slice _ _ _))) (aj (aq (am (eJ rfl (ai (bB _ aa rfl) (ai (dy _ _ rfl rfl rfl) (aj (bF rfl rfl ?_))))))))))
 refine aq ?_
 refine aM (σ':=aB 21 [(1,_),(3,_),(4,_)] [((4,0),_)] [] []) kp ?_
 refine bG 5 [12,13,14,15,16] [] ae ae rfl (aL rfl) (rfl:_=[_,_,_,_,_]) (rfl:_=[_,_]) ?_
 refine ap (_,[]) (fun τ=> aR _ aa rfl rfl rfl rfl) ?_
 refine eH rfl ?_
 refine ap (_,[]) (fun τ=> aD _ (rfl:_=AV.sl _ _)) ?_
 refine eG rfl ?_
 refine ap (_,[]) (fun τ=> bf _ _ aa rfl rfl 0 rfl ab (by simp [kB,Nd.row]) rfl) ?_
 refine eI rfl ?_
 refine ap (_,[]) (fun τ=> cg _ aa rfl (by exact cF [N] 0 (by simp)) rfl) ?_
 refine eQ rfl ?_
 refine ap (_,[]) (fun τ=> aD _ (rfl:_=AV.v (.int _ _))) ?_
 refine fb rfl (bh ⟨rfl,?_⟩)
 refine ai (dl aa [((0,8),(50,0))] ar (hc.toI) trivial tr ae) ?_
 exact eX rfl (aj (aC (aY (.inr rfl) rfl (.tmp (rfl:_=AV.ref _ _ _)) (Le.out [((0,8),(50,0))] [] (dj rfl rfl) rfl rfl rfl trivial ob))))
theorem sg (n:Int) (a:Nat):
  Spec Tryz.prog 187 (bj [uu d v no on, .sl 0 [], .v (.int .i64 n), .v (.int .i64 (a:Int))] []) (aW (.ref (0,8) 0 1) [((0,8), .row 48 2 (inl [{ op:= .push,n:=n }]))]):=by
 refine Spec.ofN Tryz.func187 rfl Tryz.ntmps187 rfl ?_
 refine am (ai (bk (4,0) _ rfl rfl) (ai (bH _ (rfl:_=AV.v (.slice _ _ _))) (aj (aq (am (eJ rfl (ai (bB _ aa rfl) (ai (dy _ _ rfl rfl rfl) (aj (aP rfl rfl ?_))))))))))
 refine aI (am (aQ rfl (ai (aA _ aa rfl (by exact (rfl:_=some [_,_]))) ?_)))
 refine ai (js (20,0) _ _ aa rfl ag (by (simp <;> rfl)) ah rfl rfl) ?_
 exact eX rfl (aj (aC (aY (.inr rfl) rfl (.tmp (rfl:_=AV.ref _ _ _)) (Le.out [((0,8),(20,0))] [] (dj rfl rfl) rfl rfl rfl trivial ob))))
def Cq (c y z:Cd) (a:Nat):List eu:=
 c a++[{ op:= .unl,n:=((a+(c a).length+1+(y (a+(c a).length+1)).length+1:Nat):Int) }]++y (a+(c a).length+1)++
  [{ op:= .jump,n:=((a+(c a).length+1+(y (a+(c a).length+1)).length+1+(z (a+(c a).length+1+(y (a+(c a).length+1)).length+1)).length:Nat):Int) }]++z (a+(c a).length+1+(y (a+(c a).length+1)).length+1)
abbrev Rm (u:AV) (l:AV) (n:Int) (c:Cd):Prop:= ∀ a,a+(c a).length≤1000000→Spec Tryz.prog 187 (bj [u,l, .v (.int .i64 n), .v (.int .i64 (a:Int))] []) (aW (.ref (0,8) 0 (c a).length) [((0,8), .row 48 2 (inl (c a)))])
theorem kb (N:Nd) (c y z:Cd) (hc:CoS (uu d v no on) N c) (ly lz:Nat) (ys zs:List PV) (n:Int) (hy:Rm (uu d v no on) (.sl ly ys) n y) (hz:Rm (uu d v no on) (.sl lz zs) n z) (a:Nat) (ha:a+(Cq c y z a).length≤1000000):
  Spec Tryz.prog 124 (bj [uu d v no on,mN N, .sl ly ys, .sl lz zs, .v (.int .i64 n), .v (.int .i64 (a:Int))] []) (aW (.ref (0,8) 0 (Cq c y z a).length) [((0,8), .row 48 2 (inl (Cq c y z a)))]):=by
 have hb: ∃ b,b=Cq c y z a:=⟨_,rfl⟩
 obtain ⟨b,hb⟩:=hb
 rw [← hb] at ha ⊢
 unfold Cq at hb
 have hbl:=congrArg List.length hb
 simp only [List.length_append,List.length_cons,List.length_nil] at hbl
 have h1:=hc a ab
 generalize c a=C at h1 hb hbl
 have h2:=hy (a+C.length+1) ab
 generalize y (a+C.length+1)=Y at h2 hb hbl
 obtain ⟨f,hf⟩: ∃ f,f=a+C.length+1+Y.length+1:=⟨_,rfl⟩
 rw [← hf] at hb hbl
 have h3:=hz f ab
 generalize z f=Z at h3 hb hbl
 refine Spec.ofN Tryz.func124 rfl Tryz.ntmps124 rfl ?_
 refine am (ai (bk (6,0) _ rfl rfl) (ai (bk (7,0) _ rfl rfl) (ai (bH _ (rfl:_=AV.v (.slice _ _ _))) (aj (am (ai (aR _ aa rfl rfl rfl rfl) (ai (aR _ aa rfl rfl rfl rfl) (aQ rfl (ai (dl aa [((0,8),(50,0))] ar (h1.toI) trivial tr ae) ?_)))))))))
 refine eX rfl (aj (aF fun K3 hK3=> ?_))
 refine an (ai (aR _ aa rfl rfl rfl rfl) (eJ rfl (aQ rfl (aQ rfl (gF rfl (ai (dv _ aa rfl rfl) (ai (be _ _ rfl rfl (bq ab)) ?_)))))))
 refine ai (be _ _ rfl rfl (bq ab)) ?_
 refine ai (dl aa [((0,8),(51,0))] ar (h2.toI) trivial tr ae) ?_
 refine eX rfl (az (hK3 _ ?_))
 clear hK3;try clear K3
 refine aq ?_
 refine aM (σ':=aB 63 [(3,_),(4,_),(5,_),(6,_),(13,_),(14,_)] [((6,0),_),((50,0),_),((51,0),_)] [] []) kp ?_
 refine an (aQ rfl (gF rfl (ai (dv _ aa rfl rfl) (ai (be _ _ rfl rfl (bq ab)) ?_))))
 refine ai (be _ _ rfl rfl (bq ab)) ?_
 refine gF rfl (ai (dv _ aa rfl rfl) (ai (be _ _ rfl rfl (bq ab)) ?_))
 refine ai (be (r:=(f:Int)) _ _ rfl rfl ((bq ab).trans ab)) ?_
 refine ba rfl (aj (aF fun K5 hK5=> ?_))
 refine an (ai (aR _ aa rfl rfl rfl rfl) (eJ rfl (aQ rfl (aQ rfl (ai (dl aa [((0,8),(52,0))] ar (h3.toI) trivial tr ae) ?_)))))
 refine eX rfl (az (hK5 _ ?_))
 clear hK5;try clear K5
 refine aq ?_
 refine aM (σ':=aB 63 [(13,_),(14,_),(15,_),(16,_)] [((50,0),_),((51,0),_),((52,0),_)] [] []) kp ?_
 refine an (gF rfl (aQ rfl (ai (aA _ aa rfl (by exact (rfl:_=some [_,_]))) ?_)))
 refine ai (aV _ _ aa rfl ag (by (simp <;> rfl)) ah rfl) ?_
 refine ai (dh (48,0) _ _ aa rfl rfl (bK _).symm (.sl rfl) ab rfl (ey _ { op:= .unl,n:=f }) (show C.length+1=(C++[({ op:= .unl,n:=f }:eu)]).length by simp)) ?_
 refine eX rfl (aj (am (gF rfl (gF rfl (ai (dh (51,1) _ _ aa rfl rfl (bK _).symm (.ref rfl (lZ _) (jG _)) (by simp;omega) rfl (ko _ _) (show (C++[({ op:= .unl,n:=f }:eu)]).length+Y.length=(C++[({ op:= .unl,n:=f }:eu)]++Y).length by simp;omega)) ?_)))))
 refine eX rfl (aj (am (gF rfl (aQ rfl (gF rfl (ai (dv _ aa rfl rfl) (ai (be _ _ rfl rfl (bq ab)) ?_)))))))
 refine ai (aA _ aa rfl (by exact (rfl:_=some [_,_]))) ?_
 refine ai (aV _ _ aa rfl ag (by (simp <;> rfl)) ah rfl) ?_
 refine ai (dh (59,0) _ _ aa rfl rfl (bK _).symm (.sl rfl) (by simp;omega) rfl (ey _ { op:= .jump,n:=((f+Z.length:Nat):Int) }) (show (C++[({ op:= .unl,n:=f }:eu)]++Y).length+1=(C++[({ op:= .unl,n:=f }:eu)]++Y++[({ op:= .jump,n:=((f+Z.length:Nat):Int) }:eu)]).length by simp;omega)) ?_
 refine eX rfl (aj (aq ?_))
 refine aM (σ':=aB 63 [(13,_),(16,_)] [((52,0),_),((59,0),_)] [] []) kp ?_
 refine an (gF rfl (gF rfl (ai (dh (62,0) _ _ aa rfl rfl (bK _).symm (.ref rfl (lZ _) (jG _)) (by simp;omega) rfl ((ko _ _).trans (congrArg inl hb.symm)) (show _+Z.length=b.length by simp;omega)) ?_)))
 exact eX rfl (aj (aC (aY (.inr rfl) rfl (.tmp (rfl:_=AV.ref _ _ _)) (Le.out [((0,8),(62,0))] [] (dj rfl rfl) rfl rfl rfl trivial ob))))
end
end Go.Proofs.YtmjnackchaahbaaGreat
