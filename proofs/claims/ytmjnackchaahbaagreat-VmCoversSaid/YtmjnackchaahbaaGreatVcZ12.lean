/- Part 12 of the texts that the walk leans on: the machine, the walks, the plain laws. -/
import Derived.Test.YtmjnackchaahbaaGreatVcZ11
set_option linter.unusedSimpArgs false
set_option linter.unusedVariables false
namespace Go.Proofs.YtmjnackchaahbaaGreat
open Go.RowKit

theorem nl: ∀ e,eL e≤2
 | .int _=> by simp [eL] | .bool _=> by simp [eL] | .var _=> by simp [eL] | .name _=> by simp [eL]
 | .draw e=> by simp only [eL];split <;> omega
 | .neg e=> by simp only [eL];split <;> omega
 | .not e=> by simp only [eL];split <;> omega
 | .bin o a b=> by cases o <;> simp only [eL] <;> split <;> omega
 | .and a b=> by simp only [eL];split <;> omega
 | .or a b=> by simp only [eL];split <;> omega
def qJ (a b:Ex) (j:Nat):Nat:=if j=0 then eL a else eL b
theorem ng (a b:Ex) (j:Nat):qJ a b j≤2:=by unfold qJ;split <;> exact nl _
theorem mW {a b:Ex} {op j:Nat} (hj:j < 2) (h:qJ a b j≠op): ¬ (eL a=op∧eL b=op):=fun e=> by
 have:j=0∨j=1:=by omega
 rcases this with rfl | rfl
 ·exact h e.1
 ·exact h e.2
theorem rA (o:Bo):o.txt∉([[38,38],[124,124]]:List Tx):=by cases o <;> decide
def Lu:Bo→Nat | .add=> 1 | .sub=> 1 | .mul=> 1 | .div=> 1 | _=> 2
abbrev sM (d:Nd) (t:Nat):Prop:=Spec Tryz.prog 203 (bj [mA d] []) (aX (.v (.int .i64 (t:Int))) [])
theorem qr {d:Nd} {t:Nat} (h:sM d t): ∀ j,j < [d].length→sM (jx [d] j) t:=fun j hj=> by
 have:j=0:=by simpa using hj
 subst this
 exact h
theorem oA {d e:Nd} {a b:Ex} (h1:sM d (eL a)) (h2:sM e (eL b)): ∀ j,j < [d,e].length→sM (jx [d,e] j) (qJ a b j):=fun j hj=> by
 have hj:j < 2:=hj
 have:j=0∨j=1:=by omega
 rcases this with rfl | rfl
 ·exact h1
 ·exact h2
theorem dU (nm:List Tx): ∀ e:Ex,sM (dS nm e) (eL e)
 | .int n=> Dw n.toNat
 | .bool b=> Bv (if b then 1 else 0)
 | .var i=> Cz (nm.getD i [])
 | .name k=> Bs (bltT.getD k [])
 | .draw e=> Ba [dS nm e] (by simp) (fun _=> eL e) (fun _=> nl e) (qr (dU nm e)) _ (fun h=> if_pos (h 0 (by simp))) (fun _ _ h=> if_neg h)
 | .neg e=> DG [dS nm e] (by simp) (fun _=> eL e) (fun _=> nl e) (qr (dU nm e)) _ (fun h=> if_pos (h 0 (by simp))) (fun _ _ h=> if_neg h)
 | .not e=> CB [dS nm e] (by simp) (fun _=> eL e) (fun _=> nl e) (qr (dU nm e)) _ (fun h=> if_pos (h 0 (by simp))) (fun _ _ h=> if_neg h)
 | .and a b=> sk [38,38] ah ah [dS nm a,dS nm b] (by simp) (qJ a b) (ng a b) (oA (dU nm a) (dU nm b)) _ (fun h=> if_pos ⟨h 0 (by simp),h 1 (by simp)⟩) (fun _ hj h=> if_neg (mW hj h))
 | .or a b=> sk [124,124] ah ah [dS nm a,dS nm b] (by simp) (qJ a b) (ng a b) (oA (dU nm a) (dU nm b)) _ (fun h=> if_pos ⟨h 0 (by simp),h 1 (by simp)⟩) (fun _ hj h=> if_neg (mW hj h))
 | .bin o a b=> by
  have hty:eL (.bin o a b)=if eL a=1∧eL b=1 then Lu o else 0:=by cases o <;> rfl
  have hk:=oA (dU nm a) (dU nm b)
  by_cases ho:o.txt∈vu
  ·have h2:Lu o=2:=by cases o <;> first | rfl | (exact absurd ho ah)
   rw [h2] at hty
   exact CT o.txt (rA o) ho [dS nm a,dS nm b] (by simp) (qJ a b) (ng a b) hk _ (fun h=> hty.trans (if_pos ⟨h 0 (by simp),h 1 (by simp)⟩)) (fun _ hj h=> hty.trans (if_neg (mW hj h)))
  ·have h2:Lu o=1:=by cases o <;> first | rfl | (exact absurd ah ho)
   rw [h2] at hty
   exact xX o.txt (rA o) ho [dS nm a,dS nm b] (by simp) (qJ a b) (ng a b) hk _ (fun h=> hty.trans (if_pos ⟨h 0 (by simp),h 1 (by simp)⟩)) (fun _ hj h=> hty.trans (if_neg (mW hj h)))
theorem jp (n:Int) (s:Tx) (L:List Nd) (h: ∀ j,j < L.length→Spec Tryz.prog 166 (bj [mA (jx L j)] []) (aX (.v (.bool true)) [])):
  Spec Tryz.prog 166 (bj [.agg [.v (.int .i64 11), .v (.int .i64 n), .v (bt s), .sl L.length (kC L)]] []) (aX (.v (.bool true)) []):=by
 refine Spec.ofN Tryz.func166 rfl Tryz.ntmps166 rfl ?_
 refine aq ?_
 refine jV 0 3 rfl rfl rfl fun hlen=> ?_
 unfold maxLen at hlen
 refine an (ai (bk (1,0) _ rfl rfl) (cm rfl (aj (aq (am (bE rfl rfl rfl (cK rfl rfl rfl (iX rfl rfl rfl (aj (bD rfl rfl ?_))))))))))
 refine aG fun K4 hK4=> ?_
 refine am (aZ rfl (aj (au ?_)))
 refine bB (α:=Nat) (fun j=> j≤L.length) 73 [(1,_)] [((1,0),_)] (fun j=> [(3, .v (.int .i64 (j:Int)))]) (fun j=> []) [] [] (fun j=> L.length - j) 0 ?_ (by
  refine Le.mkJ [] [] rfl ?_ ?_ trivial trivial ?_
  ·exact ⟨(iP rfl),(ci ag),trivial⟩
  ·exact ⟨(cD rfl rfl rfl),trivial⟩
  ·kernel_rfl) ?_
 ·omega
 intro j hj
 refine aG fun K6 hK6=> ?_
 refine am (aQ rfl (bE rfl rfl rfl (fo rfl rfl rfl (ai (bF _ aa rfl) (ai (bq _ _ rfl rfl rfl) (aj (aU rfl (fun hc17=> ?_) (fun hc17=> ?_))))))))
 ·skip
  refine bu (hK6 _ ?_)
  clear hK6;try clear K6
  refine aq (au (am (bE rfl rfl rfl (fo rfl rfl rfl (aQ rfl (ai (bf _ _ aa rfl rfl _ rfl ab (by (simp only [ba,bn,bm,bz,bw,bJ,bA];omega)) ag) ?_))))))
  refine ai (cg _ aa rfl (by exact cG _ _ ab) rfl) ?_
  refine ai (aK aa al (h j ab) rfl rfl) ?_
  refine cm rfl (aj (am (cL rfl (ai (cR (r:=false) _ rfl rfl) (aj (aP rfl rfl (ce (an (aQ rfl (ai (bc _ _ rfl rfl (bp ab)) ?_))))))))))
  refine aZ rfl (az (⟨j+1,?_,?_,?_⟩))
  ·omega
  ·skip
   refine Le.mkJ [] [] rfl ?_ ?_ trivial trivial ?_
   ·exact ⟨(iP rfl),(ci ag),trivial⟩
   ·exact ⟨(cD rfl rfl rfl),trivial⟩
   ·kernel_rfl
  ·omega
 ·skip
  refine bK (id (hK4 _ ?_))
  clear hK4;try clear K4
  refine am (cm rfl (aj (aC (aY (.inr rfl) rfl (.tmp (rfl:_=AV.v (.bool _))) (Le.out [] [] (gz ?_) rfl rfl rfl trivial trivial)))))
  rfl
theorem pm (k:Nat) (hk:k=2∨k=3) (n:Int) (s:Tx) (L:List Nd) (hL:0 < L.length) (ht:Spec Tryz.prog 203 (bj [mA (jx L 0)] []) (aX (.v (.int .i64 2)) [])) (h: ∀ j,1≤j→j < L.length→Spec Tryz.prog 166 (bj [mA (jx L j)] []) (aX (.v (.bool true)) [])):
  Spec Tryz.prog 166 (bj [.agg [.v (.int .i64 (k:Int)), .v (.int .i64 n), .v (bt s), .sl L.length (kC L)]] []) (aX (.v (.bool true)) []):=by
 refine Spec.ofN Tryz.func166 rfl Tryz.ntmps166 rfl ?_
 refine aq ?_
 refine jV 0 3 rfl rfl rfl fun hlen=> ?_
 unfold maxLen at hlen
 refine an (ai (bk (1,0) _ rfl rfl) (cm rfl (aj (aq (am (bE rfl rfl rfl (cK rfl rfl rfl (eG rfl rfl (beq_eq_false_iff_ne.2 ab) ?_))))))))
 refine aj (aP rfl rfl (aH (aq (am (bE rfl rfl rfl (cK rfl rfl rfl (ai (bP _ _ rfl rfl rfl) (cL rfl (dn (fun hg31=> ?_) (fun hg31=> ?_))))))))))
 ·skip
  refine aR rfl rfl ah ?_
  refine aR rfl rfl ah ?_
  refine aR rfl rfl ah ?_
  refine ai (aD _ _ _ rfl (rfl:_=AV.v (.bool _))) (aj (bD rfl rfl (am (bE rfl rfl rfl (fo rfl rfl rfl (ai (bf _ _ aa rfl rfl 0 rfl hL (by simp only [bJ];omega) rfl) ?_))))))
  refine ai (cg _ aa rfl (by exact cG L 0 hL) rfl) ?_
  refine ai (aK aa al (ht) rfl rfl) ?_
  refine aZ rfl (aj (aG fun K7 hK7=> ?_))
  refine aq ?_
  refine aN (σ':=aB 73 [(1,_),(5,_)] [((1,0),_)] [] []) kp ?_
  refine an (aZ rfl (aj (au ?_)))
  refine bB (α:=Nat) (fun j=> 1≤j∧j≤L.length) 73 [(1,_),(5,_)] [((1,0),_)] (fun j=> [(6, .v (.int .i64 (j:Int)))]) (fun j=> []) [] [] (fun j=> L.length - j) 1 ?_ (by
   refine Le.mkJ [] [] rfl ?_ ?_ trivial trivial ?_
   ·exact ⟨(iP rfl),(iV rfl),(ci ag),trivial⟩
   ·exact ⟨(cD rfl rfl rfl),trivial⟩
   ·kernel_rfl) ?_
  ·exact ⟨Nat.le_refl _,hL⟩
  intro j hj
  obtain ⟨hj1,hj2⟩:=hj
  refine aG fun K9 hK9=> ?_
  refine am (aQ rfl (bE rfl rfl rfl (fo rfl rfl rfl (ai (bF _ aa rfl) (ai (bq _ _ rfl rfl rfl) (aj (aU rfl (fun hc45=> ?_) (fun hc45=> ?_))))))))
  ·skip
   refine bu (hK9 _ ?_)
   clear hK9;try clear K9
   refine aq (au (am (bE rfl rfl rfl (fo rfl rfl rfl (aQ rfl (ai (bf _ _ aa rfl rfl _ rfl ab (by (simp only [ba,bn,bm,bz,bw,bJ,bA];omega)) ag) ?_))))))
   refine ai (cg _ aa rfl (by exact cG _ _ ab) rfl) ?_
   refine ai (aK aa al (h j hj1 ab) rfl rfl) ?_
   refine cm rfl (aj (am (cL rfl (ai (cR (r:=false) _ rfl rfl) (aj (aP rfl rfl (ce (an (aQ rfl (ai (bc _ _ rfl rfl (bp ab)) ?_))))))))))
   refine aZ rfl (az (⟨j+1,?_,?_,?_⟩))
   ·omega
   ·skip
    refine Le.mkJ [] [] rfl ?_ ?_ trivial trivial ?_
    ·exact ⟨(iP rfl),(iV rfl),(ci ag),trivial⟩
    ·exact ⟨(cD rfl rfl rfl),trivial⟩
    ·kernel_rfl
   ·omega
  ·skip
   refine bK (id (hK7 _ ?_))
   clear hK7;try clear K7
   refine am (aQ rfl (iX rfl rfl rfl (cm rfl (aj (aC (aY (.inr rfl) rfl (.tmp (rfl:_=AV.v (.bool _))) (Le.out [] [] (gz ?_) rfl rfl rfl trivial trivial)))))))
   rfl
 ·skip
  have hk3:k=3:=by omega
  refine ax rfl rfl (aJ _ aa rfl rfl rfl) (ax rfl rfl (aM _ aa rfl rfl (rfl:_=some (AV.v (.int _ _)))) (ax rfl rfl (bP (r:=true) _ _ rfl rfl (beq_iff_eq.2 ab)) ?_))
  refine ai (aD _ _ _ rfl (rfl:_=AV.v (.bool _))) (aj (bD rfl rfl (am (bE rfl rfl rfl (fo rfl rfl rfl (ai (bf _ _ aa rfl rfl 0 rfl hL (by simp only [bJ];omega) rfl) ?_))))))
  refine ai (cg _ aa rfl (by exact cG L 0 hL) rfl) ?_
  refine ai (aK aa al (ht) rfl rfl) ?_
  refine aZ rfl (aj (aG fun K16 hK16=> ?_))
  refine aq ?_
  refine aN (σ':=aB 73 [(1,_),(5,_)] [((1,0),_)] [] []) kp ?_
  refine an (aZ rfl (aj (au ?_)))
  refine bB (α:=Nat) (fun j=> 1≤j∧j≤L.length) 73 [(1,_),(5,_)] [((1,0),_)] (fun j=> [(6, .v (.int .i64 (j:Int)))]) (fun j=> []) [] [] (fun j=> L.length - j) 1 ?_ (by
   refine Le.mkJ [] [] rfl ?_ ?_ trivial trivial ?_
   ·exact ⟨(iP rfl),(iV rfl),(ci ag),trivial⟩
   ·exact ⟨(cD rfl rfl rfl),trivial⟩
   ·kernel_rfl) ?_
  ·exact ⟨Nat.le_refl _,hL⟩
  intro j hj
  obtain ⟨hj1,hj2⟩:=hj
  refine aG fun K18 hK18=> ?_
  refine am (aQ rfl (bE rfl rfl rfl (fo rfl rfl rfl (ai (bF _ aa rfl) (ai (bq _ _ rfl rfl rfl) (aj (aU rfl (fun hc45=> ?_) (fun hc45=> ?_))))))))
  ·skip
   refine bu (hK18 _ ?_)
   clear hK18;try clear K18
   refine aq (au (am (bE rfl rfl rfl (fo rfl rfl rfl (aQ rfl (ai (bf _ _ aa rfl rfl _ rfl ab (by (simp only [ba,bn,bm,bz,bw,bJ,bA];omega)) ag) ?_))))))
   refine ai (cg _ aa rfl (by exact cG _ _ ab) rfl) ?_
   refine ai (aK aa al (h j hj1 ab) rfl rfl) ?_
   refine cm rfl (aj (am (cL rfl (ai (cR (r:=false) _ rfl rfl) (aj (aP rfl rfl (ce (an (aQ rfl (ai (bc _ _ rfl rfl (bp ab)) ?_))))))))))
   refine aZ rfl (az (⟨j+1,?_,?_,?_⟩))
   ·omega
   ·skip
    refine Le.mkJ [] [] rfl ?_ ?_ trivial trivial ?_
    ·exact ⟨(iP rfl),(iV rfl),(ci ag),trivial⟩
    ·exact ⟨(cD rfl rfl rfl),trivial⟩
    ·kernel_rfl
   ·omega
  ·skip
   refine bK (id (hK16 _ ?_))
   clear hK16;try clear K16
   refine am (aQ rfl (iX rfl rfl rfl (cm rfl (aj (aC (aY (.inr rfl) rfl (.tmp (rfl:_=AV.v (.bool _))) (Le.out [] [] (gz ?_) rfl rfl rfl trivial trivial)))))))
   rfl
theorem eP (k:Nat) (hk:k≠2∧k≠3∧k≠11) (n:Int) (s:Tx) (L:List Nd) (h: ∀ j,j < L.length→Spec Tryz.prog 203 (bj [mA (jx L j)] []) (aX (.v (.int .i64 1)) [])):
  Spec Tryz.prog 166 (bj [.agg [.v (.int .i64 (k:Int)), .v (.int .i64 n), .v (bt s), .sl L.length (kC L)]] []) (aX (.v (.bool true)) []):=by
 refine Spec.ofN Tryz.func166 rfl Tryz.ntmps166 rfl ?_
 refine aq ?_
 refine jV 0 3 rfl rfl rfl fun hlen=> ?_
 unfold maxLen at hlen
 refine an (ai (bk (1,0) _ rfl rfl) (cm rfl (aj (aq (am (bE rfl rfl rfl (cK rfl rfl rfl (eG rfl rfl (beq_eq_false_iff_ne.2 ab) ?_))))))))
 refine aj (aP rfl rfl (aH (aq (am (bE rfl rfl rfl (cK rfl rfl rfl (eG rfl rfl (beq_eq_false_iff_ne.2 ab) ?_)))))))
 refine cL rfl (ax rfl rfl (aJ _ aa rfl rfl rfl) (ax rfl rfl (aM _ aa rfl rfl (rfl:_=some (AV.v (.int _ _)))) (ax rfl rfl (bP (r:=false) _ _ rfl rfl (beq_eq_false_iff_ne.2 ab)) ?_)))
 refine ai (aD _ _ _ rfl (rfl:_=AV.v (.bool _))) (aj (aP rfl rfl (aH (aG fun K6 hK6=> ?_))))
 refine am (aZ rfl (aj (au ?_)))
 refine bB (α:=Nat) (fun j=> j≤L.length) 73 [(1,_)] [((1,0),_)] (fun j=> [(8, .v (.int .i64 (j:Int)))]) (fun j=> []) [] [] (fun j=> L.length - j) 0 ?_ (by
  refine Le.mkJ [] [] rfl ?_ ?_ trivial trivial ?_
  ·exact ⟨(iP rfl),(ci ag),trivial⟩
  ·exact ⟨(cD rfl rfl rfl),trivial⟩
  ·kernel_rfl) ?_
 ·omega
 intro j hj
 refine aG fun K8 hK8=> ?_
 refine am (aQ rfl (bE rfl rfl rfl (fo rfl rfl rfl (ai (bF _ aa rfl) (ai (bq _ _ rfl rfl rfl) (aj (aU rfl (fun hc62=> ?_) (fun hc62=> ?_))))))))
 ·skip
  refine bu (hK8 _ ?_)
  clear hK8;try clear K8
  refine aq (au (am (bE rfl rfl rfl (fo rfl rfl rfl (aQ rfl (ai (bf _ _ aa rfl rfl _ rfl ab (by (simp only [ba,bn,bm,bz,bw,bJ,bA];omega)) ag) ?_))))))
  refine ai (cg _ aa rfl (by exact cG _ _ ab) rfl) ?_
  refine ai (aK aa al (h j ab) rfl rfl) ?_
  refine aZ rfl (aj (am (aQ rfl (ai (bX (r:=false) _ _ rfl rfl rfl) (aj (aP rfl rfl (ce (an (aQ rfl (ai (bc _ _ rfl rfl (bp ab)) ?_))))))))))
  refine aZ rfl (az (⟨j+1,?_,?_,?_⟩))
  ·omega
  ·skip
   refine Le.mkJ [] [] rfl ?_ ?_ trivial trivial ?_
   ·exact ⟨(iP rfl),(ci ag),trivial⟩
   ·exact ⟨(cD rfl rfl rfl),trivial⟩
   ·kernel_rfl
  ·omega
 ·skip
  refine bK (id (hK6 _ ?_))
  clear hK6;try clear K6
  refine am (cm rfl (aj (aC (aY (.inr rfl) rfl (.tmp (rfl:_=AV.v (.bool _))) (Le.out [] [] (gz ?_) rfl rfl rfl trivial trivial)))))
  rfl

abbrev Kl (d:Nd):Prop:=Spec Tryz.prog 166 (bj [mA d] []) (aX (.v (.bool true)) [])
theorem hY {nm:List Tx} {e:Ex} (h:mC e=true):sM (dS nm e) 1:=by
 have:=Nat.eq_of_beq_eq_true h
 have h2:=dU nm e
 rwa [this] at h2
theorem FW {P:Nd→Prop} {d:Nd} (h:P d): ∀ j,j < [d].length→P (jx [d] j):=fun j hj=> by
 have:j=0:=by simpa using hj
 subst this
 exact h
theorem Ll {P:Nd→Prop} {d e:Nd} (h:P d) (h':P e): ∀ j,j < [d,e].length→P (jx [d,e] j):=fun j hj=> by
 have hj:j < 2:=hj
 have:j=0∨j=1:=by omega
 rcases this with rfl | rfl
 ·exact h
 ·exact h'
theorem LE {P:Nd→Prop} {d e f:Nd} (h:P d) (h':P e) (h2:P f): ∀ j,j < [d,e,f].length→P (jx [d,e,f] j):=fun j hj=> by
 have hj:j < 3:=hj
 have:j=0∨j=1∨j=2:=by omega
 rcases this with rfl | rfl | rfl
 ·exact h
 ·exact h'
 ·exact h2
theorem xd {P:Nd→Prop}: ∀ j,j < ([]:List Nd).length→P (jx [] j):=fun j hj=> by simp at hj
theorem KK {P:Nd→Prop} {d:Nd} {l:List Nd} (h:P d) (h': ∀ j,j < l.length→P (jx l j)): ∀ j,j < (d::l).length→P (jx (d::l) j):=fun j hj=> by
 cases j with
 | zero=> exact h
 | succ j=> exact h' j (by simpa using hj)
mutual
theorem zw (nm:List Tx): ∀ s:Sm,vF s=true→Kl (nY nm s)
 | .assign i e,h=> eP 1 ab 0 (nm.getD i []) [dS nm e] (FW (P:=fun d=> sM d 1) (hY h))
 | .send t k a b,h=> by
  simp only [vF,Bool.and_eq_true] at h
  exact eP 4 ab k [] [dS nm t,dS nm a,dS nm b] (LE (P:=fun d=> sM d 1) (hY h.1.1) (hY h.1.2) (hY h.2))
 | .timer k,_=> eP 5 ab k [] [] (xd (P:=fun d=> sM d 1))
 | .cancel k,_=> eP 6 ab k [] [] (xd (P:=fun d=> sM d 1))
 | .sync,_=> eP 7 ab 0 [] [] (xd (P:=fun d=> sM d 1))
 | .stop,_=> eP 10 ab 0 [] [] (xd (P:=fun d=> sM d 1))
 | .reply a b,h=> by
  simp only [vF,Bool.and_eq_true] at h
  exact eP 8 ab 0 [] [dS nm a,dS nm b] (Ll (P:=fun d=> sM d 1) (hY h.1) (hY h.2))
 | .fail e,h=> eP 9 ab 0 [] [dS nm e] (FW (P:=fun d=> sM d 1) (hY h))
 | .loop c b,h=> by
  simp only [vF,Bool.and_eq_true] at h
  have h1:=dU nm c
  rw [Nat.eq_of_beq_eq_true h.1] at h1
  refine pm 3 (.inr rfl) 0 [] [dS nm c,nd 11 0 [] (fU nm b)] (by simp) h1 fun j h1 hj=> ?_
  have hj:j < 2:=hj
  obtain rfl:j=1:=by omega
  exact jp 0 [] (fU nm b) (lY nm b h.2)
 | .ite c a b,h=> by
  simp only [vF,Bool.and_eq_true] at h
  have h1:=dU nm c
  rw [Nat.eq_of_beq_eq_true h.1.1] at h1
  refine pm 2 (.inl rfl) 0 [] [dS nm c,nd 11 0 [] (fU nm a),nd 11 0 [] (fU nm b)] (by simp) h1 fun j h1 hj=> ?_
  have hj:j < 3:=hj
  have:j=1∨j=2:=by omega
  rcases this with rfl | rfl
  ·exact jp 0 [] (fU nm a) (lY nm a h.1.2)
  ·exact jp 0 [] (fU nm b) (lY nm b h.2)
theorem lY (nm:List Tx): ∀ b:Bk,nu b=true→ ∀ j,j < (fU nm b).length→Kl (jx (fU nm b) j)
 | .nil,_=> xd
 | .cons s b,h=> by
  simp only [nu,Bool.and_eq_true] at h
  exact KK (zw nm s h.1) (lY nm b h.2)
end
theorem zS (nm:List Tx) (b:Bk) (h:nu b=true):Kl (jy nm b):=jp 0 [] (fU nm b) (lY nm b h)

def gH (s:Tx) (l:List Tx):List Tx:=if s∈l then l else l++[s]
section
variable (nm:List Tx)
def qs:Ex→List Tx→List Tx
 | .int _,l=> l | .bool _,l=> l | .name _,l=> l
 | .var i,l=> gH (nm.getD i []) l
 | .draw e,l=> qs e l | .neg e,l=> qs e l | .not e,l=> qs e l
 | .bin _ a b,l=> qs b (qs a l)
 | .and a b,l=> qs b (qs a l)
 | .or a b,l=> qs b (qs a l)
mutual
def La:Sm→List Tx→List Tx
 | .assign i e,l=> qs nm e (gH (nm.getD i []) l)
 | .send t _ a b,l=> qs nm b (qs nm a (qs nm t l))
 | .timer _,l=> l | .cancel _,l=> l | .sync,l=> l | .stop,l=> l
 | .reply a b,l=> qs nm b (qs nm a l)
 | .fail e,l=> qs nm e l
 | .loop c b,l=> zo b (qs nm c l)
 | .ite c a b,l=> zo b (zo a (qs nm c l))
def zo:Bk→List Tx→List Tx
 | .nil,l=> l
 | .cons s b,l=> zo b (La s l)
end
def GN (l:List Tx):Prop:=l.Nodup∧ ∀ x∈l,x∈nm
end
theorem GN.len {nm l:List Tx} (h:GN nm l):l.length≤nm.length:=h.1.length_le_of_subset fun x hx=> h.2 x hx
theorem GN.add {nm l:List Tx} (h:GN nm l) {i:Nat} (hi:i < nm.length):GN nm (gH (nm.getD i []) l):=by
 unfold gH
 split
 ·exact h
 ·rename_i hn
  refine ⟨List.nodup_append.2 ⟨h.1,by simp,fun a ha b hb e=> hn (by rw [List.mem_singleton.1 hb] at e;exact e ▸ ha)⟩,fun x hx=> ?_⟩
  rcases List.mem_append.1 hx with hx | hx
  ·exact h.2 x hx
  ·rw [List.mem_singleton.1 hx];exact iy hi
theorem GN.nil {nm:List Tx}:GN nm []:=⟨.nil,fun x hx=> by simp at hx⟩
theorem rQ (n:Int) (s:Tx) (L:List Nd) (l:List Tx) (hs:s∉l) (hl:l.length≤1000) (F:Nat→List Tx) (hF:F 0=l++[s]) (h: ∀ j,j < L.length→Spec Tryz.prog 167 (bj [mA (jx L j), .sl (F j).length (dT (F j))] []) (aX (.sl (F (j+1)).length (dT (F (j+1)))) [])):
  Spec Tryz.prog 167 (bj [.agg [.v (.int .i64 1), .v (.int .i64 n), .v (bt s), .sl L.length (kC L)], .sl l.length (dT l)] []) (aX (.sl (F L.length).length (dT (F L.length))) []):=by
 refine Spec.ofN Tryz.func167 rfl Tryz.ntmps167 rfl ?_
 refine aq ?_
 refine jV 0 3 rfl rfl rfl fun hlen=> ?_
 unfold maxLen at hlen
 refine an (ai (bk (2,0) _ rfl rfl) (ai (bH _ (rfl:_=AV.v (.slice _ _ _))) (aj (aq (am (bE rfl rfl rfl (cK rfl rfl rfl (iX rfl rfl rfl (cL rfl (aR rfl rfl ah ?_))))))))))
 refine aR rfl rfl ah ?_
 refine aR rfl rfl ah ?_
 refine ai (aD _ _ _ rfl (rfl:_=AV.v (.bool _))) (cL rfl (ax rfl rfl (aE _ (rfl:_=AV.sl _ _)) (ax rfl rfl (aJ _ aa rfl rfl rfl) (ax rfl rfl (aM _ aa rfl rfl (rfl:_=some (AV.v (.string _)))) (ax rfl rfl (aK aa al (fH l _ rfl ab s) rfl rfl) ?_)))))
 refine ax rfl rfl (cR _ rfl rfl) (ai (aD _ _ _ rfl (rfl:_=AV.v (.bool _))) (aj (bD rfl (by rw [decide_eq_false hs];rfl) ?_)))
 refine aq ?_
 refine aN (σ':=aB 45 [(1,_),(2,_)] [((2,0),_)] [] []) kp ?_
 refine an (ai (bH _ (rfl:_=AV.v (.slice _ _ _))) (aj (am (ai (aE _ (rfl:_=AV.v (.slice _ _ _))) (eN rfl (ai (sP (24,0) _ _ aa rfl (.sl (by simp)) ab rfl) ?_))))))
 refine eZ rfl (aj (an (gD rfl (bE rfl rfl rfl (ai (aM _ aa rfl rfl (rfl:_=some (AV.v (.string _)))) (ai (aW _ _ aa rfl ag (by (simp <;> rfl)) ah rfl) ?_))))))
 refine ai (dq (29,0) _ _ aa rfl rfl (by simp) (.sl rfl) ab rfl (lK _ _) (show l.length+1=(l++[s]).length by simp)) ?_
 refine eZ rfl (aj (aG fun K6 hK6=> ?_))
 refine am (aZ rfl (aj (au ?_)))
 refine aN (Le.frzS 1 (ys:=dT (l++[s])) rfl rfl rfl (by rw [List.drop_zero,Nat.mul_one];exact List.take_of_length_le (by simp)) (by simp)) ?_
 refine bB (α:=Nat) (fun j=> j≤L.length) 45 [(2,_)] [((2,0),_)] (fun j=> [(6, .v (.int .i64 (j:Int))),(1, .sl (F j).length (dT (F j)))]) (fun j=> []) [] [] (fun j=> L.length - j) 0 ?_ (by
  refine Le.mkJ [] [] rfl ?_ ?_ trivial trivial ?_
  ·exact ⟨(iP rfl),(ci ag),(iw (by rw [hF]) (by rw [hF])),trivial⟩
  ·exact ⟨(cD rfl rfl rfl),trivial⟩
  ·kernel_rfl) ?_
 ·omega
 intro j hj
 refine aG fun K8 hK8=> ?_
 refine am (aQ rfl (bE rfl rfl rfl (fo rfl rfl rfl (ai (bF _ aa rfl) (ai (bq _ _ rfl rfl rfl) (aj (aU rfl (fun hc34=> ?_) (fun hc34=> ?_))))))))
 ·skip
  refine bu (hK8 _ ?_)
  clear hK8;try clear K8
  refine aq (au (an (bE rfl rfl rfl (fo rfl rfl rfl (aQ rfl (ai (bf _ _ aa rfl rfl _ rfl ab (by (simp only [ba,bn,bm,bz,bw,bJ,bA];omega)) ag) ?_))))))
  refine ai (cg _ aa rfl (by exact cG _ _ ab) rfl) ?_
  refine eN rfl (ai (aK aa al (h j ab) rfl rfl) ?_)
  refine lf rfl (fc (an (aQ rfl (ai (bc _ _ rfl rfl (bp ab)) ?_))))
  refine aZ rfl (az (⟨j+1,?_,?_,?_⟩))
  ·omega
  ·skip
   refine Le.mkJ [] [] rfl ?_ ?_ trivial trivial ?_
   ·exact ⟨(iP rfl),(ci ag),(iw ag ag),trivial⟩
   ·exact ⟨(cD rfl rfl rfl),trivial⟩
   ·kernel_rfl
  ·omega
 ·skip
  obtain rfl:j=L.length:=by omega
  refine bK (id (hK6 _ ?_))
  clear hK6;try clear K6
  exact am (eN rfl (lf rfl (aj (aC (aY (.inr rfl) rfl (.tmp (rfl:_=AV.sl _ _)) (Le.out [] [] .sl rfl rfl rfl trivial trivial))))))
theorem rH (n:Int) (s:Tx) (L:List Nd) (l:List Tx) (hs:s∈l) (hl:l.length≤1000) (F:Nat→List Tx) (hF:F 0=l) (h: ∀ j,j < L.length→Spec Tryz.prog 167 (bj [mA (jx L j), .sl (F j).length (dT (F j))] []) (aX (.sl (F (j+1)).length (dT (F (j+1)))) [])):
  Spec Tryz.prog 167 (bj [.agg [.v (.int .i64 1), .v (.int .i64 n), .v (bt s), .sl L.length (kC L)], .sl l.length (dT l)] []) (aX (.sl (F L.length).length (dT (F L.length))) []):=by
 refine Spec.ofN Tryz.func167 rfl Tryz.ntmps167 rfl ?_
 refine aq ?_
 refine jV 0 3 rfl rfl rfl fun hlen=> ?_
 unfold maxLen at hlen
 refine an (ai (bk (2,0) _ rfl rfl) (ai (bH _ (rfl:_=AV.v (.slice _ _ _))) (aj (aq (am (bE rfl rfl rfl (cK rfl rfl rfl (iX rfl rfl rfl (cL rfl (aR rfl rfl ah ?_))))))))))
 refine aR rfl rfl ah ?_
 refine aR rfl rfl ah ?_
 refine ai (aD _ _ _ rfl (rfl:_=AV.v (.bool _))) (cL rfl (ax rfl rfl (aE _ (rfl:_=AV.sl _ _)) (ax rfl rfl (aJ _ aa rfl rfl rfl) (ax rfl rfl (aM _ aa rfl rfl (rfl:_=some (AV.v (.string _)))) (ax rfl rfl (aK aa al (fH l _ rfl ab s) rfl rfl) ?_)))))
 refine ax rfl rfl (cR _ rfl rfl) (ai (aD _ _ _ rfl (rfl:_=AV.v (.bool _))) (aj (aP rfl (by rw [decide_eq_true hs];rfl) ?_)))
 refine aH (aG fun K4 hK4=> ?_)
 refine aq ?_
 refine aN (σ':=aB 45 [(1,_),(2,_)] [((2,0),_)] [] []) kp ?_
 refine an (aZ rfl (aj (au ?_)))
 refine bB (α:=Nat) (fun j=> j≤L.length) 45 [(2,_)] [((2,0),_)] (fun j=> [(6, .v (.int .i64 (j:Int))),(1, .sl (F j).length (dT (F j)))]) (fun j=> []) [] [] (fun j=> L.length - j) 0 ?_ (by
  refine Le.mkJ [] [] rfl ?_ ?_ trivial trivial ?_
  ·exact ⟨(iP rfl),(ci ag),(iw (by rw [hF]) (by rw [hF])),trivial⟩
  ·exact ⟨(cD rfl rfl rfl),trivial⟩
  ·kernel_rfl) ?_
 ·omega
 intro j hj
 refine aG fun K6 hK6=> ?_
 refine am (aQ rfl (bE rfl rfl rfl (fo rfl rfl rfl (ai (bF _ aa rfl) (ai (bq _ _ rfl rfl rfl) (aj (aU rfl (fun hc34=> ?_) (fun hc34=> ?_))))))))
 ·skip
  refine bu (hK6 _ ?_)
  clear hK6;try clear K6
  refine aq (au (an (bE rfl rfl rfl (fo rfl rfl rfl (aQ rfl (ai (bf _ _ aa rfl rfl _ rfl ab (by (simp only [ba,bn,bm,bz,bw,bJ,bA];omega)) ag) ?_))))))
  refine ai (cg _ aa rfl (by exact cG _ _ ab) rfl) ?_
  refine eN rfl (ai (aK aa al (h j ab) rfl rfl) ?_)
  refine lf rfl (fc (an (aQ rfl (ai (bc _ _ rfl rfl (bp ab)) ?_))))
  refine aZ rfl (az (⟨j+1,?_,?_,?_⟩))
  ·omega
  ·skip
   refine Le.mkJ [] [] rfl ?_ ?_ trivial trivial ?_
   ·exact ⟨(iP rfl),(ci ag),(iw ag ag),trivial⟩
   ·exact ⟨(cD rfl rfl rfl),trivial⟩
   ·kernel_rfl
  ·omega
 ·skip
  obtain rfl:j=L.length:=by omega
  refine bK (id (hK4 _ ?_))
  clear hK4;try clear K4
  exact am (eN rfl (lf rfl (aj (aC (aY (.inr rfl) rfl (.tmp (rfl:_=AV.sl _ _)) (Le.out [] [] .sl rfl rfl rfl trivial trivial))))))
theorem pQ (n:Int) (s:Tx) (L:List Nd) (l:List Tx) (hs:s∉l) (hl:l.length≤1000) (F:Nat→List Tx) (hF:F 0=l++[s]) (h: ∀ j,j < L.length→Spec Tryz.prog 167 (bj [mA (jx L j), .sl (F j).length (dT (F j))] []) (aX (.sl (F (j+1)).length (dT (F (j+1)))) [])):
  Spec Tryz.prog 167 (bj [.agg [.v (.int .i64 14), .v (.int .i64 n), .v (bt s), .sl L.length (kC L)], .sl l.length (dT l)] []) (aX (.sl (F L.length).length (dT (F L.length))) []):=by
 refine Spec.ofN Tryz.func167 rfl Tryz.ntmps167 rfl ?_
 refine aq ?_
 refine jV 0 3 rfl rfl rfl fun hlen=> ?_
 unfold maxLen at hlen
 refine an (ai (bk (2,0) _ rfl rfl) (ai (bH _ (rfl:_=AV.v (.slice _ _ _))) (aj (aq (am (bE rfl rfl rfl (cK rfl rfl rfl (eG rfl rfl rfl (cL rfl (ax rfl rfl (aJ _ aa rfl rfl rfl) ?_))))))))))
 refine ax rfl rfl (aM _ aa rfl rfl (rfl:_=some (AV.v (.int _ _)))) (ax rfl rfl (bP (r:=true) _ _ rfl rfl rfl) (ai (aD _ _ _ rfl (rfl:_=AV.v (.bool _))) (cL rfl (ax rfl rfl (aE _ (rfl:_=AV.sl _ _)) (ax rfl rfl (aJ _ aa rfl rfl rfl) (ax rfl rfl (aM _ aa rfl rfl (rfl:_=some (AV.v (.string _)))) (ax rfl rfl (aK aa al (fH l _ rfl ab s) rfl rfl) ?_)))))))
 refine ax rfl rfl (cR _ rfl rfl) (ai (aD _ _ _ rfl (rfl:_=AV.v (.bool _))) (aj (bD rfl (by rw [decide_eq_false hs];rfl) ?_)))
 refine aq ?_
 refine aN (σ':=aB 45 [(1,_),(2,_)] [((2,0),_)] [] []) kp ?_
 refine an (ai (bH _ (rfl:_=AV.v (.slice _ _ _))) (aj (am (ai (aE _ (rfl:_=AV.v (.slice _ _ _))) (eN rfl (ai (sP (24,0) _ _ aa rfl (.sl (by simp)) ab rfl) ?_))))))
 refine eZ rfl (aj (an (gD rfl (bE rfl rfl rfl (ai (aM _ aa rfl rfl (rfl:_=some (AV.v (.string _)))) (ai (aW _ _ aa rfl ag (by (simp <;> rfl)) ah rfl) ?_))))))
 refine ai (dq (29,0) _ _ aa rfl rfl (by simp) (.sl rfl) ab rfl (lK _ _) (show l.length+1=(l++[s]).length by simp)) ?_
 refine eZ rfl (aj (aG fun K6 hK6=> ?_))
 refine am (aZ rfl (aj (au ?_)))
 refine aN (Le.frzS 1 (ys:=dT (l++[s])) rfl rfl rfl (by rw [List.drop_zero,Nat.mul_one];exact List.take_of_length_le (by simp)) (by simp)) ?_
 refine bB (α:=Nat) (fun j=> j≤L.length) 45 [(2,_)] [((2,0),_)] (fun j=> [(6, .v (.int .i64 (j:Int))),(1, .sl (F j).length (dT (F j)))]) (fun j=> []) [] [] (fun j=> L.length - j) 0 ?_ (by
  refine Le.mkJ [] [] rfl ?_ ?_ trivial trivial ?_
  ·exact ⟨(iP rfl),(ci ag),(iw (by rw [hF]) (by rw [hF])),trivial⟩
  ·exact ⟨(cD rfl rfl rfl),trivial⟩
  ·kernel_rfl) ?_
 ·omega
 intro j hj
 refine aG fun K8 hK8=> ?_
 refine am (aQ rfl (bE rfl rfl rfl (fo rfl rfl rfl (ai (bF _ aa rfl) (ai (bq _ _ rfl rfl rfl) (aj (aU rfl (fun hc34=> ?_) (fun hc34=> ?_))))))))
 ·skip
  refine bu (hK8 _ ?_)
  clear hK8;try clear K8
  refine aq (au (an (bE rfl rfl rfl (fo rfl rfl rfl (aQ rfl (ai (bf _ _ aa rfl rfl _ rfl ab (by (simp only [ba,bn,bm,bz,bw,bJ,bA];omega)) ag) ?_))))))
  refine ai (cg _ aa rfl (by exact cG _ _ ab) rfl) ?_
  refine eN rfl (ai (aK aa al (h j ab) rfl rfl) ?_)
  refine lf rfl (fc (an (aQ rfl (ai (bc _ _ rfl rfl (bp ab)) ?_))))
  refine aZ rfl (az (⟨j+1,?_,?_,?_⟩))
  ·omega
  ·skip
   refine Le.mkJ [] [] rfl ?_ ?_ trivial trivial ?_
   ·exact ⟨(iP rfl),(ci ag),(iw ag ag),trivial⟩
   ·exact ⟨(cD rfl rfl rfl),trivial⟩
   ·kernel_rfl
  ·omega
 ·skip
  obtain rfl:j=L.length:=by omega
  refine bK (id (hK6 _ ?_))
  clear hK6;try clear K6
  exact am (eN rfl (lf rfl (aj (aC (aY (.inr rfl) rfl (.tmp (rfl:_=AV.sl _ _)) (Le.out [] [] .sl rfl rfl rfl trivial trivial))))))
theorem qn (n:Int) (s:Tx) (L:List Nd) (l:List Tx) (hs:s∈l) (hl:l.length≤1000) (F:Nat→List Tx) (hF:F 0=l) (h: ∀ j,j < L.length→Spec Tryz.prog 167 (bj [mA (jx L j), .sl (F j).length (dT (F j))] []) (aX (.sl (F (j+1)).length (dT (F (j+1)))) [])):
  Spec Tryz.prog 167 (bj [.agg [.v (.int .i64 14), .v (.int .i64 n), .v (bt s), .sl L.length (kC L)], .sl l.length (dT l)] []) (aX (.sl (F L.length).length (dT (F L.length))) []):=by
 refine Spec.ofN Tryz.func167 rfl Tryz.ntmps167 rfl ?_
 refine aq ?_
 refine jV 0 3 rfl rfl rfl fun hlen=> ?_
 unfold maxLen at hlen
 refine an (ai (bk (2,0) _ rfl rfl) (ai (bH _ (rfl:_=AV.v (.slice _ _ _))) (aj (aq (am (bE rfl rfl rfl (cK rfl rfl rfl (eG rfl rfl rfl (cL rfl (ax rfl rfl (aJ _ aa rfl rfl rfl) ?_))))))))))
 refine ax rfl rfl (aM _ aa rfl rfl (rfl:_=some (AV.v (.int _ _)))) (ax rfl rfl (bP (r:=true) _ _ rfl rfl rfl) (ai (aD _ _ _ rfl (rfl:_=AV.v (.bool _))) (cL rfl (ax rfl rfl (aE _ (rfl:_=AV.sl _ _)) (ax rfl rfl (aJ _ aa rfl rfl rfl) (ax rfl rfl (aM _ aa rfl rfl (rfl:_=some (AV.v (.string _)))) (ax rfl rfl (aK aa al (fH l _ rfl ab s) rfl rfl) ?_)))))))
 refine ax rfl rfl (cR _ rfl rfl) (ai (aD _ _ _ rfl (rfl:_=AV.v (.bool _))) (aj (aP rfl (by rw [decide_eq_true hs];rfl) ?_)))
 refine aH (aG fun K4 hK4=> ?_)
 refine aq ?_
 refine aN (σ':=aB 45 [(1,_),(2,_)] [((2,0),_)] [] []) kp ?_
 refine an (aZ rfl (aj (au ?_)))
 refine bB (α:=Nat) (fun j=> j≤L.length) 45 [(2,_)] [((2,0),_)] (fun j=> [(6, .v (.int .i64 (j:Int))),(1, .sl (F j).length (dT (F j)))]) (fun j=> []) [] [] (fun j=> L.length - j) 0 ?_ (by
  refine Le.mkJ [] [] rfl ?_ ?_ trivial trivial ?_
  ·exact ⟨(iP rfl),(ci ag),(iw (by rw [hF]) (by rw [hF])),trivial⟩
  ·exact ⟨(cD rfl rfl rfl),trivial⟩
  ·kernel_rfl) ?_
 ·omega
 intro j hj
 refine aG fun K6 hK6=> ?_
 refine am (aQ rfl (bE rfl rfl rfl (fo rfl rfl rfl (ai (bF _ aa rfl) (ai (bq _ _ rfl rfl rfl) (aj (aU rfl (fun hc34=> ?_) (fun hc34=> ?_))))))))
 ·skip
  refine bu (hK6 _ ?_)
  clear hK6;try clear K6
  refine aq (au (an (bE rfl rfl rfl (fo rfl rfl rfl (aQ rfl (ai (bf _ _ aa rfl rfl _ rfl ab (by (simp only [ba,bn,bm,bz,bw,bJ,bA];omega)) ag) ?_))))))
  refine ai (cg _ aa rfl (by exact cG _ _ ab) rfl) ?_
  refine eN rfl (ai (aK aa al (h j ab) rfl rfl) ?_)
  refine lf rfl (fc (an (aQ rfl (ai (bc _ _ rfl rfl (bp ab)) ?_))))
  refine aZ rfl (az (⟨j+1,?_,?_,?_⟩))
  ·omega
  ·skip
   refine Le.mkJ [] [] rfl ?_ ?_ trivial trivial ?_
   ·exact ⟨(iP rfl),(ci ag),(iw ag ag),trivial⟩
   ·exact ⟨(cD rfl rfl rfl),trivial⟩
   ·kernel_rfl
  ·omega
 ·skip
  obtain rfl:j=L.length:=by omega
  refine bK (id (hK4 _ ?_))
  clear hK4;try clear K4
  exact am (eN rfl (lf rfl (aj (aC (aY (.inr rfl) rfl (.tmp (rfl:_=AV.sl _ _)) (Le.out [] [] .sl rfl rfl rfl trivial trivial))))))
theorem qN (k:Nat) (hk:k≠1∧k≠14) (n:Int) (s:Tx) (L:List Nd) (l:List Tx) (hl:l.length≤1000) (F:Nat→List Tx) (hF:F 0=l) (h: ∀ j,j < L.length→Spec Tryz.prog 167 (bj [mA (jx L j), .sl (F j).length (dT (F j))] []) (aX (.sl (F (j+1)).length (dT (F (j+1)))) [])):
  Spec Tryz.prog 167 (bj [.agg [.v (.int .i64 (k:Int)), .v (.int .i64 n), .v (bt s), .sl L.length (kC L)], .sl l.length (dT l)] []) (aX (.sl (F L.length).length (dT (F L.length))) []):=by
 refine Spec.ofN Tryz.func167 rfl Tryz.ntmps167 rfl ?_
 refine aq ?_
 refine jV 0 3 rfl rfl rfl fun hlen=> ?_
 unfold maxLen at hlen
 refine an (ai (bk (2,0) _ rfl rfl) (ai (bH _ (rfl:_=AV.v (.slice _ _ _))) (aj (aq (am (bE rfl rfl rfl (cK rfl rfl rfl (eG rfl rfl (beq_eq_false_iff_ne.2 ab) ?_))))))))
 refine cL rfl (ax rfl rfl (aJ _ aa rfl rfl rfl) (ax rfl rfl (aM _ aa rfl rfl (rfl:_=some (AV.v (.int _ _)))) (ax rfl rfl (bP (r:=false) _ _ rfl rfl (beq_eq_false_iff_ne.2 ab)) ?_)))
 refine ai (aD _ _ _ rfl (rfl:_=AV.v (.bool _))) (cL rfl (aR rfl rfl ah ?_))
 refine aR rfl rfl ah ?_
 refine aR rfl rfl ah ?_
 refine aR rfl rfl ah ?_
 refine aR rfl rfl ah ?_
 refine ai (aD _ _ _ rfl (rfl:_=AV.v (.bool _))) (aj (aP rfl rfl (aH (aG fun K4 hK4=> ?_))))
 refine aq ?_
 refine aN (σ':=aB 45 [(1,_),(2,_)] [((2,0),_)] [] []) kp ?_
 refine an (aZ rfl (aj (au ?_)))
 refine bB (α:=Nat) (fun j=> j≤L.length) 45 [(2,_)] [((2,0),_)] (fun j=> [(6, .v (.int .i64 (j:Int))),(1, .sl (F j).length (dT (F j)))]) (fun j=> []) [] [] (fun j=> L.length - j) 0 ?_ (by
  refine Le.mkJ [] [] rfl ?_ ?_ trivial trivial ?_
  ·exact ⟨(iP rfl),(ci ag),(iw (by rw [hF]) (by rw [hF])),trivial⟩
  ·exact ⟨(cD rfl rfl rfl),trivial⟩
  ·kernel_rfl) ?_
 ·omega
 intro j hj
 refine aG fun K6 hK6=> ?_
 refine am (aQ rfl (bE rfl rfl rfl (fo rfl rfl rfl (ai (bF _ aa rfl) (ai (bq _ _ rfl rfl rfl) (aj (aU rfl (fun hc34=> ?_) (fun hc34=> ?_))))))))
 ·skip
  refine bu (hK6 _ ?_)
  clear hK6;try clear K6
  refine aq (au (an (bE rfl rfl rfl (fo rfl rfl rfl (aQ rfl (ai (bf _ _ aa rfl rfl _ rfl ab (by (simp only [ba,bn,bm,bz,bw,bJ,bA];omega)) ag) ?_))))))
  refine ai (cg _ aa rfl (by exact cG _ _ ab) rfl) ?_
  refine eN rfl (ai (aK aa al (h j ab) rfl rfl) ?_)
  refine lf rfl (fc (an (aQ rfl (ai (bc _ _ rfl rfl (bp ab)) ?_))))
  refine aZ rfl (az (⟨j+1,?_,?_,?_⟩))
  ·omega
  ·skip
   refine Le.mkJ [] [] rfl ?_ ?_ trivial trivial ?_
   ·exact ⟨(iP rfl),(ci ag),(iw ag ag),trivial⟩
   ·exact ⟨(cD rfl rfl rfl),trivial⟩
   ·kernel_rfl
  ·omega
 ·skip
  obtain rfl:j=L.length:=by omega
  refine bK (id (hK4 _ ?_))
  clear hK4;try clear K4
  exact am (eN rfl (lf rfl (aj (aC (aY (.inr rfl) rfl (.tmp (rfl:_=AV.sl _ _)) (Le.out [] [] .sl rfl rfl rfl trivial trivial))))))
def fb (fs:List (List Tx→List Tx)) (l:List Tx):List Tx:=fs.foldl (fun l f=> f l) l
theorem ja {fs:List (List Tx→List Tx)} {l:List Tx} {j:Nat} (h:j < fs.length):fb (fs.take (j+1)) l=fs.getD j id (fb (fs.take j) l):=by
 rw [List.take_succ_eq_append_getElem h]
 unfold fb
 rw [List.foldl_append,List.getD_eq_getElem?_getD,List.getElem?_eq_getElem h];rfl
abbrev vY (nm:List Tx) (d:Nd) (f:List Tx→List Tx):Prop:= ∀ l,GN nm l→Spec Tryz.prog 167 (bj [mA d, .sl l.length (dT l)] []) (aX (.sl (f l).length (dT (f l))) [])∧GN nm (f l)
section
variable {nm:List Tx} (hnm:nm.length≤16) {L:List Nd} {fs:List (List Tx→List Tx)} (hfs:fs.length=L.length) (h: ∀ j,j < L.length→vY nm (jx L j) (fs.getD j id))
theorem nW (hfs:fs.length=L.length) (h: ∀ j,j < L.length→vY nm (jx L j) (fs.getD j id)) {l:List Tx} (hl:GN nm l): ∀ j,j≤L.length→GN nm (fb (fs.take j) l)
 | 0,_=> by simpa [fb] using hl
 | j+1,hj=> by
  rw [ja ab]
  exact (h j ab _ (nW hfs h hl j ab)).2
theorem cA (hnm:nm.length≤16) (hfs:fs.length=L.length) (h: ∀ j,j < L.length→vY nm (jx L j) (fs.getD j id)) (k:Nat) (hk:k≠1∧k≠14) (n:Nat) (s:Tx):vY nm (nd k n s L) (fb fs):=fun l hl=> by
 have hg:=nW hfs h hl
 have he:fb (fs.take L.length) l=fb fs l:=by rw [← hfs,List.take_length]
 have hw:=qN k hk n s L l (by have:=hl.len;omega) (fun j=> fb (fs.take j) l) rfl fun j hj=> by
  rw [show fb (fs.take (j+1)) l=_ from ja ab]
  exact (h j hj _ (hg j ab)).1
 rw [he] at hw
 exact ⟨hw,he ▸ hg _ (Nat.le_refl _)⟩
theorem wm (hnm:nm.length≤16) (hfs:fs.length=L.length) (h: ∀ j,j < L.length→vY nm (jx L j) (fs.getD j id)) (n:Nat) {i:Nat} (hi:i < nm.length):vY nm (nd 1 n (nm.getD i []) L) (fun l=> fb fs (gH (nm.getD i []) l)):=fun l hl=> by
 have hg:=nW hfs h (hl.add hi)
 have he:fb (fs.take L.length) (gH (nm.getD i []) l)=fb fs (gH (nm.getD i []) l):=by rw [← hfs,List.take_length]
 have hkid: ∀ j,j < L.length→_:=fun j hj=> (h j hj _ (hg j ab)).1
 have hll:=hl.len
 show Spec _ _ _ (aX (.sl (fb fs (gH (nm.getD i []) l)).length (dT (fb fs (gH (nm.getD i []) l)))) [])∧GN nm (fb fs (gH (nm.getD i []) l))
 rw [← he]
 refine ⟨?_,hg _ (Nat.le_refl _)⟩
 by_cases hs:nm.getD i []∈l
 ·exact rH n _ L l hs ab (fun j=> fb (fs.take j) (gH (nm.getD i []) l)) (by show gH _ l=l;unfold gH;rw [if_pos hs]) fun j hj=> by
   rw [show fb (fs.take (j+1)) (gH (nm.getD i []) l)=_ from ja ab]
   exact hkid j hj
 ·exact rQ n _ L l hs ab (fun j=> fb (fs.take j) (gH (nm.getD i []) l)) (by show gH _ l=_;unfold gH;rw [if_neg hs]) fun j hj=> by
   rw [show fb (fs.take (j+1)) (gH (nm.getD i []) l)=_ from ja ab]
   exact hkid j hj
end
theorem uG {nm:List Tx} (hnm:nm.length≤16) {i:Nat} (hi:i < nm.length):vY nm (nd 14 0 (nm.getD i []) []) (gH (nm.getD i [])):=fun l hl=> by
 have hll:=hl.len
 refine ⟨?_,hl.add hi⟩
 by_cases hs:nm.getD i []∈l
 ·exact qn 0 _ [] l hs ab (fun _=> gH (nm.getD i []) l) (by show gH _ l=l;unfold gH;rw [if_pos hs]) fun j hj=> by simp at hj
 ·exact pQ 0 _ [] l hs ab (fun _=> gH (nm.getD i []) l) (by show gH _ l=_;unfold gH;rw [if_neg hs]) fun j hj=> by simp at hj
section
variable {nm:List Tx}
abbrev yc (nm:List Tx) (L:List Nd) (fs:List (List Tx→List Tx)):Prop:= ∀ j,j < L.length→vY nm (jx L j) (fs.getD j id)
theorem pz:yc nm [] []:=fun j hj=> by simp at hj
theorem oG {d:Nd} {f:List Tx→List Tx} {L:List Nd} {fs:List (List Tx→List Tx)} (h:vY nm d f) (h':yc nm L fs):yc nm (d::L) (f::fs):=fun j hj=> by
 cases j with
 | zero=> exact h
 | succ j=> exact h' j (by simpa using hj)
theorem dl (hnm:nm.length≤16): ∀ e:Ex,ft nm.length e→vY nm (dS nm e) (qs nm e)
 | .int _,_=> cA hnm rfl pz 12 ab _ _
 | .bool _,_=> cA hnm rfl pz 13 ab _ _
 | .name _,_=> cA hnm rfl pz 15 ab _ _
 | .var i,h=> uG hnm h
 | .draw e,h=> cA hnm rfl (oG (dl hnm e h) pz) 16 ab _ _
 | .neg e,h=> cA hnm rfl (oG (dl hnm e h) pz) 17 ab _ _
 | .not e,h=> cA hnm rfl (oG (dl hnm e h) pz) 17 ab _ _
 | .bin _ a b,h=> cA hnm rfl (oG (dl hnm a h.1) (oG (dl hnm b h.2) pz)) 18 ab _ _
 | .and a b,h=> cA hnm rfl (oG (dl hnm a h.1) (oG (dl hnm b h.2) pz)) 18 ab _ _
 | .or a b,h=> cA hnm rfl (oG (dl hnm a h.1) (oG (dl hnm b h.2) pz)) 18 ab _ _
def Ck (nm:List Tx):Bk→List (List Tx→List Tx)
 | .nil=> []
 | .cons s b=> La nm s::Ck nm b
theorem ux (nm:List Tx): ∀ b:Bk,(Ck nm b).length=(fU nm b).length
 | .nil=> by simp [Ck,fU]
 | .cons s b=> by simp [Ck,fU,ux nm b]
theorem rV (nm:List Tx): ∀ (b:Bk) (l:List Tx),fb (Ck nm b) l=zo nm b l
 | .nil,l=> rfl
 | .cons s b,l=> by rw [zo,← rV nm b];rfl
theorem kg (hnm:nm.length≤16) {b:Bk} (h:yc nm (fU nm b) (Ck nm b)):vY nm (jy nm b) (zo nm b):=by
 have:=cA hnm (ux nm b) h 11 ab 0 []
 rwa [show fb (Ck nm b)=zo nm b from funext (rV nm b)] at this
mutual
theorem xD (hnm:nm.length≤16): ∀ s:Sm,eY nm.length s→vY nm (nY nm s) (La nm s)
 | .assign i e,h=> by rw [eY] at h;exact wm hnm rfl (oG (dl hnm e h.2) pz) 0 h.1
 | .send t k a b,h=> by rw [eY] at h;exact cA hnm rfl (oG (dl hnm t h.2.1) (oG (dl hnm a h.2.2.1) (oG (dl hnm b h.2.2.2) pz))) 4 ab _ _
 | .timer _,_=> cA hnm rfl pz 5 ab _ _
 | .cancel _,_=> cA hnm rfl pz 6 ab _ _
 | .sync,_=> cA hnm rfl pz 7 ab _ _
 | .stop,_=> cA hnm rfl pz 10 ab _ _
 | .reply a b,h=> by rw [eY] at h;exact cA hnm rfl (oG (dl hnm a h.1) (oG (dl hnm b h.2) pz)) 8 ab _ _
 | .fail e,h=> by rw [eY] at h;exact cA hnm rfl (oG (dl hnm e h) pz) 9 ab _ _
 | .loop c b,h=> by rw [eY] at h;exact cA hnm rfl (oG (dl hnm c h.1) (oG (kg hnm (jT hnm b h.2)) pz)) 3 ab _ _
 | .ite c a b,h=> by rw [eY] at h;exact cA hnm rfl (oG (dl hnm c h.1) (oG (kg hnm (jT hnm a h.2.1)) (oG (kg hnm (jT hnm b h.2.2)) pz))) 2 ab _ _
theorem jT (hnm:nm.length≤16): ∀ b:Bk,ia nm.length b→yc nm (fU nm b) (Ck nm b)
 | .nil,_=> pz
 | .cons s b,h=> by rw [ia] at h;exact oG (xD hnm s h.1) (jT hnm b h.2)
end
theorem yJ (hnm:nm.length≤16) (b:Bk) (h:ia nm.length b):vY nm (jy nm b) (zo nm b):=kg hnm (jT hnm b h)
end

theorem kQ {l:List Tx} (h:l.Nodup) {i j:Nat} (hi:i < l.length) (hj:j < l.length) (e:l.getD i []=l.getD j []):i=j:=by
 rw [List.getD_eq_getElem?_getD,List.getD_eq_getElem?_getD,List.getElem?_eq_getElem hi,List.getElem?_eq_getElem hj] at e
 have h:=List.pairwise_iff_getElem.1 h
 rcases Nat.lt_trichotomy i j with hlt | rfl | hlt
 ·exact absurd (Option.some.inj (by simpa using e)) (h i j hi hj hlt)
 ·rfl
 ·exact absurd (Option.some.inj (by simpa using e)).symm (h j i hj hi hlt)
theorem pD {a b:List Tx} {k:Nat} (h:k < a.length):a.getD k []=(a++b).getD k []:=by
 rw [List.getD_eq_getElem?_getD,List.getD_eq_getElem?_getD,List.getElem?_append_left h]
theorem getD_right {a b:List Tx} {k:Nat}:b.getD k []=(a++b).getD (a.length+k) []:=by
 rw [List.getD_eq_getElem?_getD,List.getD_eq_getElem?_getD,List.getElem?_append_right ab,Nat.add_sub_cancel_left]
theorem kT (d v:List Tx) (on:List PV) (no:Nat) (hn:(d++v).Nodup) (hl:(d++v).length≤1000) (i:Nat) (hi:i < (d++v).length):
  Spec Tryz.prog 121 (bj [.agg [.sl d.length (dT d), .sl v.length (dT v), .sl no on], .v (bt ((d++v).getD i []))] []) (aX (.v (.int .i64 (i:Int))) []):=by
 have hl2:(d++v).length=d.length+v.length:=List.length_append
 refine Spec.ofN Tryz.func121 rfl Tryz.ntmps121 rfl ?_
 refine am (ai (bk (2,0) _ rfl rfl) (aZ rfl (aj (aG fun K2 hK2=> ?_))))
 refine am (aZ rfl (aj (au ?_)))
 refine bB (α:=Nat) (fun k=> k≤d.length∧k≤i) 41 [(1,_),(2,_)] [((2,0),_)] (fun k=> [(5, .v (.int .i64 (k:Int)))]) (fun k=> []) [] [] (fun k=> d.length - k) 0 ?_ (by
  refine Le.mkJ [] [] rfl ?_ ?_ trivial trivial ?_
  ·exact ⟨(iV rfl),(iP rfl),(ci ag),trivial⟩
  ·exact ⟨(cD rfl rfl rfl),trivial⟩
  ·kernel_rfl) ?_
 ·exact ⟨Nat.zero_le _,Nat.zero_le _⟩
 intro k hk
 obtain ⟨hk,hki⟩:=hk
 refine aG fun K4 hK4=> ?_
 refine am (aQ rfl (bE rfl rfl rfl (fo rfl rfl rfl (ai (bF _ aa rfl) (ai (bq _ _ rfl rfl rfl) (aj (aU rfl (fun hc11=> ?_) (fun hc11=> ?_))))))))
 ·skip
  refine bu (hK4 _ ?_)
  clear hK4;try clear K4
  refine aq (au (am (bE rfl rfl rfl (fo rfl rfl rfl (aQ rfl (ai (bf _ _ aa rfl rfl _ rfl ab (by (simp only [ba,bn,bm,bz,bw,bJ,bA,List.length_map];omega)) (by exact Nat.mul_one _)) ?_))))))
  refine ai (bC _ aa rfl (by exact fy _ _ ab) rfl) ?_
  refine dK rfl (ai (aV _ _ Tryz.underlying9 rfl rfl rfl) (aj (aU rfl (fun hc20=> ?_) (fun hc20=> ?_))))
  ·skip
   have he:k=i:=kQ hn ab hi ((pD ab).symm.trans hc20)
   refine am (aQ rfl (aZ rfl (aj (aC (aY (.inr rfl) rfl (.tmp (rfl:_=AV.v (.int _ _))) (Le.out [] [] (ci ?_) rfl rfl rfl trivial trivial))))))
   rw [he]
  ·skip
   have he:k≠i:=fun e=> hc20 ((pD ab).trans (by rw [e]))
   refine ce (an (aQ rfl (ai (bc _ _ rfl rfl (bp ab)) ?_)))
   refine aZ rfl (az (⟨k+1,?_,?_,?_⟩))
   ·exact ⟨by omega,by omega⟩
   ·skip
    refine Le.mkJ [] [] rfl ?_ ?_ trivial trivial ?_
    ·exact ⟨(iV rfl),(iP rfl),(ci ag),trivial⟩
    ·exact ⟨(cD rfl rfl rfl),trivial⟩
    ·kernel_rfl
   ·omega
 ·skip
  refine bK (id (hK2 _ ?_))
  clear hK2;try clear K2
  refine aq (am (aZ rfl (aj (au ?_))))
  refine bB (α:=Nat) (fun q=> q≤v.length∧d.length+q≤i) 41 [(1,_),(2,_)] [((2,0),_)] (fun q=> [(6, .v (.int .i64 (q:Int)))]) (fun q=> []) [] [] (fun q=> v.length - q) 0 ?_ (by
   refine Le.mkJ [] [] rfl ?_ ?_ trivial trivial ?_
   ·exact ⟨(iV rfl),(iP rfl),(ci ag),trivial⟩
   ·exact ⟨(cD rfl rfl rfl),trivial⟩
   ·kernel_rfl) ?_
  ·exact ⟨Nat.zero_le _,by omega⟩
  intro q hq
  obtain ⟨hq,hqi⟩:=hq
  refine aG fun K11 hK11=> ?_
  refine am (aQ rfl (bE rfl rfl rfl (fo rfl rfl rfl (ai (bF _ aa rfl) (ai (bq _ _ rfl rfl rfl) (aj (aU rfl (fun hc26=> ?_) (fun hc26=> ?_))))))))
  ·skip
   refine bu (hK11 _ ?_)
   clear hK11;try clear K11
   refine aq (au (am (bE rfl rfl rfl (fo rfl rfl rfl (aQ rfl (ai (bf _ _ aa rfl rfl _ rfl ab (by (simp only [ba,bn,bm,bz,bw,bJ,bA,List.length_map];omega)) (by exact Nat.mul_one _)) ?_))))))
   refine ai (bC _ aa rfl (by exact fy _ _ ab) rfl) ?_
   refine dK rfl (ai (aV _ _ Tryz.underlying9 rfl rfl rfl) (aj (aU rfl (fun hc35=> ?_) (fun hc35=> ?_))))
   ·skip
    have he:d.length+q=i:=kQ hn ab hi (getD_right.symm.trans hc35)
    refine am (bE rfl rfl rfl (fo rfl rfl rfl (ai (bF _ aa rfl) (aQ rfl (ai (bc _ _ rfl rfl (bp ab)) ?_)))))
    refine aZ rfl (aj (aC (aY (.inr rfl) rfl (.tmp (rfl:_=AV.v (.int _ _))) (Le.out [] [] (ci ?_) rfl rfl rfl trivial trivial))))
    omega
   ·skip
    have he:d.length+q≠i:=fun e=> hc35 (getD_right.trans (by rw [e]))
    refine ce (an (aQ rfl (ai (bc _ _ rfl rfl (bp ab)) ?_)))
    refine aZ rfl (az (⟨q+1,?_,?_,?_⟩))
    ·exact ⟨by omega,by omega⟩
    ·skip
     refine Le.mkJ [] [] rfl ?_ ?_ trivial trivial ?_
     ·exact ⟨(iV rfl),(iP rfl),(ci ag),trivial⟩
     ·exact ⟨(cD rfl rfl rfl),trivial⟩
     ·kernel_rfl
    ·omega
  ·skip
   exact absurd hqi ab
theorem yY (ons:List (Nat×Bk)) (nm:List Tx) (k:Nat) (h:k < ons.length):mn (ons.map fun p=> (p.1,jy nm p.2)) k=((ons[k]).1,jy nm (ons[k]).2):=by
 rw [mf _ _ (by simpa using h),List.getElem_map]
theorem rc (l:List Hd) (k:Nat) (h:k < l.length):PV.ups (((lg l).drop (k*5+1)).take 4)=[.v (.int .i64 ((mn l k).2.k:Int)), .v (.int .i64 ((mn l k).2.n:Int)), .v (bt (mn l k).2.s), .sl (mn l k).2.kn (mn l k).2.kids]:=by
 have e:=nP wq 5 (fun _=> rfl) l k h
 have:((lg l).drop (k*5+1)).take 4=(((l.flatMap wq).drop (k*5)).take 5).drop 1:=by
  rw [List.drop_take,List.drop_drop];rfl
 rw [this,e,mf l k h];rfl
theorem od (d v:List Tx) (ons:List (Nat×Bk)) (hn:(d++v).Nodup) (hl:(d++v).length≤16) (ho: ∀ p∈ons,ia (d++v).length p.2) (hw: ∀ p∈ons,nu p.2=true) (hc:ons.length≤1000):
  Spec Tryz.prog 97 (bj [Ep d v (ons.map fun p=> (p.1,jy (d++v) p.2))] []) (aX (.v (.int .i64 0)) []):=by
 obtain ⟨H,hH⟩: ∃ H,H=ons.map fun p=> (p.1,jy (d++v) p.2):=⟨_,rfl⟩
 have hHl:H.length=ons.length:=by rw [hH,List.length_map]
 rw [← hH]
 have hHk: ∀ k (h:k < ons.length),mn H k=((ons[k]).1,jy (d++v) (ons[k]).2):=fun k h=> by rw [hH];exact yY ons _ k h
 clear hH
 refine Spec.ofN Tryz.func97 rfl Tryz.ntmps97 rfl ?_
 refine am (ai (bk (1,0) _ rfl rfl) (aZ rfl (aj (aG fun K2 hK2=> ?_))))
 refine am (aZ rfl (aj (au ?_)))
 refine bB (α:=Nat) (fun k=> k≤H.length) 43 [(1,_)] [((1,0),_)] (fun k=> [(3, .v (.int .i64 (k:Int)))]) (fun k=> []) [] [] (fun k=> H.length - k) 0 ?_ (by
  refine Le.mkJ [] [] rfl ?_ ?_ trivial trivial ?_
  ·exact ⟨(iP rfl),(ci ag),trivial⟩
  ·exact ⟨(cD rfl rfl rfl),trivial⟩
  ·kernel_rfl) ?_
 ·omega
 intro k hk
 refine aG fun K4 hK4=> ?_
 refine am (aQ rfl (bE rfl rfl rfl (fo rfl rfl rfl (ai (bF _ aa rfl) (ai (bq _ _ rfl rfl rfl) (aj (aU rfl (fun hc11=> ?_) (fun hc11=> ?_))))))))
 ·skip
  have hk2:k < ons.length:=by omega
  obtain ⟨b,hb⟩: ∃ b,b=(ons[k]).2:=⟨_,rfl⟩
  have hkH:=hHk k hk2
  rw [← hb] at hkH
  have hwb:=zS (d++v) b (hb ▸ hw _ (List.getElem_mem hk2))
  obtain ⟨hnb,hng⟩:=yJ hl b (hb ▸ ho _ (List.getElem_mem hk2)) [] GN.nil
  have hbody:=rc H k ab
  rw [hkH] at hbody
  generalize zo (d++v) b []=M at hnb hng
  have hMl:=hng.len
  refine bu (hK4 _ ?_)
  clear hK4;try clear K4
  refine aG fun K6 hK6=> ?_
  refine au (am (bE rfl rfl rfl (fo rfl rfl rfl (aQ rfl (ai (bf _ _ aa rfl rfl _ rfl ab (by (simp only [ba,bn,bm,bz,bw,bJ,bA,List.length_map];omega)) ag) ?_)))))
  refine ai (cY _ aa rfl rfl) (ai (cg _ aa rfl (by exact hbody) rfl) ?_)
  refine ai (aK aa al (hwb) rfl rfl) ?_
  refine cm rfl (aj (aq (am (cL rfl (ai (cR (r:=false) _ rfl rfl) (aj (aP rfl rfl (aH (aq ?_)))))))))
  refine aN (σ':=aB 43 [(1,_),(3,_)] [((1,0),_)] [] []) kp ?_
  refine an (bE rfl rfl rfl (fo rfl rfl rfl (aQ rfl (ai (bf _ _ aa rfl rfl _ rfl ab (by (simp only [ba,bn,bm,bz,bw,bJ,bA,List.length_map];omega)) ag) ?_))))
  refine ai (cY _ aa rfl rfl) (ai (cg _ aa rfl (by exact hbody) rfl) ?_)
  refine ai (aK aa al (hnb) rfl rfl) ?_
  refine lf rfl (aj (am (aZ rfl (aj (au ?_)))))
  refine bB (α:=Nat) (fun q=> q≤M.length) 43 [(1,_),(3,_),(5,_)] [((1,0),_)] (fun q=> [(6, .v (.int .i64 (q:Int)))]) (fun q=> []) [] [] (fun q=> M.length - q) 0 ?_ (by
   refine Le.mkJ [] [] rfl ?_ ?_ trivial trivial ?_
   ·exact ⟨(iP rfl),(iV rfl),(iS rfl),(ci ag),trivial⟩
   ·exact ⟨(cD rfl rfl rfl),trivial⟩
   ·kernel_rfl) ?_
  ·omega
  intro q hq
  refine aG fun K12 hK12=> ?_
  refine am (aQ rfl (eN rfl (ai (bF _ aa rfl) (ai (bq _ _ rfl rfl rfl) (aj (aU rfl (fun hc33=> ?_) (fun hc33=> ?_)))))))
  ·skip
   obtain ⟨i,hi,hiq⟩: ∃ i,i < (d++v).length∧M.getD q []=(d++v).getD i []:=by
    have hm:=hng.2 _ (iy (show q < M.length by omega))
    obtain ⟨i,hi,he⟩:=List.getElem_of_mem hm
    exact ⟨i,hi,by rw [List.getD_eq_getElem?_getD (l:=d++v),List.getElem?_eq_getElem hi,← he];rfl⟩
   have hix:=kT d v (lg H) H.length hn ab i hi
   rw [← hiq] at hix
   refine bu (hK12 _ ?_)
   clear hK12;try clear K12
   refine aq (au (aq ?_))
   refine aN (σ':=aB 43 [(1,_),(3,_),(5,_),(6,_)] [((1,0),_)] [] []) kp ?_
   refine bG 7 [36,37,38,39,40,41,42] [] ae ae rfl (aL rfl) (rfl:_=[_,_,_,_,_,_,_]) (rfl:_=[]) ?_
   refine ap (_,[]) (fun τ=> aS _ aa rfl rfl rfl rfl) ?_
   refine eK rfl ?_
   refine ap (_,[]) (fun τ=> aE _ (rfl:_=AV.sl _ _)) ?_
   refine eJ rfl ?_
   refine ap (_,[]) (fun τ=> aE _ (rfl:_=AV.v (.int _ _))) ?_
   refine eI rfl ?_
   refine ap (_,[]) (fun τ=> bf _ _ aa rfl rfl _ rfl ab (by (simp only [ba,bn,bm,bz,bw,bJ,bA,List.length_map];omega)) (by exact Nat.mul_one _)) ?_
   refine eO rfl ?_
   refine ap (_,[]) (fun τ=> bC _ aa rfl (by exact fy _ _ ab) rfl) ?_
   refine fa rfl ?_
   refine ap (_,[]) (fun τ=> (aK aa al (hix) rfl rfl)) ?_
   refine fC rfl ?_
   refine ap (_,[]) (fun τ=> bq (r:=false) _ _ rfl rfl (decide_eq_false ab)) ?_
   refine gv rfl (bh ⟨rfl,?_⟩)
   refine aj (aP rfl rfl (ce (an (aQ rfl (ai (bc _ _ rfl rfl (bp ab)) ?_)))))
   refine aZ rfl (az (⟨q+1,?_,?_,?_⟩))
   ·omega
   ·skip
    refine Le.mkJ [] [] rfl ?_ ?_ trivial trivial ?_
    ·exact ⟨(iP rfl),(iV rfl),(iS rfl),(ci ag),trivial⟩
    ·exact ⟨(cD rfl rfl rfl),trivial⟩
    ·kernel_rfl
   ·omega
  ·skip
   refine bK (id (hK6 _ ?_))
   clear hK6;try clear K6
   refine an (aQ rfl (ai (bc _ _ rfl rfl (bp ab)) ?_))
   refine aZ rfl (az (⟨k+1,?_,?_,?_⟩))
   ·omega
   ·skip
    refine Le.mkJ [] [] rfl ?_ ?_ trivial trivial ?_
    ·exact ⟨(iP rfl),(ci ag),trivial⟩
    ·exact ⟨(cD rfl rfl rfl),trivial⟩
    ·kernel_rfl
   ·omega
 ·skip
  refine bK (id (hK2 _ ?_))
  clear hK2;try clear K2
  exact am (aZ rfl (aj (aC (aY (.inr rfl) rfl (.tmp (rfl:_=AV.v _)) (Le.out [] [] .v rfl rfl rfl trivial trivial)))))

theorem lM (C:List et):((inl C).drop 0).take (C.length*2)=inl C:=List.take_of_length_le (by rw [List.drop_zero,bL];exact Nat.le_refl _)
theorem jR (C:List et):0+C.length*2≤(inl C).length:=by rw [bL,Nat.zero_add];exact Nat.le_refl _
theorem vc (l:List Tx) (n:Nat) (hn:l.length=n) (h1:n≤1000) (hd:l.Nodup) (i:Nat) (hi:i < n):Spec Tryz.prog 122 (bj [.sl n (dT l), .v (bt (l.getD i []))] []) (aX (.v (.int .i64 (i:Int))) []):=by
 refine Spec.ofN Tryz.func122 rfl Tryz.ntmps122 rfl ?_
 refine am (aZ rfl (aj (aq (am (aZ rfl (aj (au ?_)))))))
 refine bB (α:=Nat) (fun k=> k≤n∧k≤i) 19 [(0,_),(1,_)] [] (fun k=> [(5, .v (.int .i64 (k:Int)))]) (fun k=> []) [] [] (fun k=> n - k) 0 ?_ (by
  refine Le.mkJ [] [] rfl ?_ ?_ trivial trivial ?_
  ·exact ⟨(iS rfl),(iV rfl),(ci ag),trivial⟩
  ·exact trivial
  ·kernel_rfl) ?_
 ·exact ⟨Nat.zero_le _,Nat.zero_le _⟩
 intro k hk
 obtain ⟨hk,hki⟩:=hk
 refine aG fun K4 hK4=> ?_
 refine am (aQ rfl (eN rfl (ai (bF _ aa rfl) (ai (bq _ _ rfl rfl rfl) (aj (aU rfl (fun hc9=> ?_) (fun hc9=> ?_)))))))
 ·skip
  refine bu (hK4 _ ?_)
  clear hK4;try clear K4
  refine aq (au (am (eN rfl (aQ rfl (ai (bf _ _ aa rfl rfl _ rfl ab (by (simp only [ba,bn,bm,bz,bw,bJ,bA,bL];omega)) (by exact Nat.mul_one _)) ?_)))))
  refine ai (bC _ aa rfl (by exact fy _ _ ab) rfl) ?_
  refine dK rfl (ai (aV _ _ Tryz.underlying9 rfl rfl rfl) (aj (aU rfl (fun hc17=> ?_) (fun hc17=> ?_))))
  ·skip
   have he:k=i:=kQ hd ab ab hc17
   refine am (aQ rfl (aZ rfl (aj (aC (aY (.inr rfl) rfl (.tmp (rfl:_=AV.v (.int _ _))) (Le.out [] [] (ci ?_) rfl rfl rfl trivial trivial))))))
   rw [he]
  ·skip
   have he:k≠i:=fun e=> hc17 (by rw [e])
   refine ce (an (aQ rfl (ai (bc _ _ rfl rfl (bp ab)) ?_)))
   refine aZ rfl (az (⟨k+1,?_,?_,?_⟩))
   ·exact ⟨by omega,by omega⟩
   ·skip
    refine Le.mkJ [] [] rfl ?_ ?_ trivial trivial ?_
    ·exact ⟨(iS rfl),(iV rfl),(ci ag),trivial⟩
    ·exact trivial
    ·kernel_rfl
   ·omega
 ·skip
  exact absurd hki ab
theorem mQ:Spec Tryz.prog 123 (bj [] []) (aX (.sl 9 (dT bltT)) []):=by
 refine Spec.ofN Tryz.func123 rfl Tryz.ntmps123 rfl ?_
 refine am (ai (bH _ (rfl:_=AV.v (.slice _ _ _))) (aj (am (ai (aW _ _ aa rfl ag (by (simp <;> rfl)) ah rfl) ?_))))
 exact lf rfl (aj (aC (aY (.inr rfl) rfl (.tmp (rfl:_=AV.sl _ _)) (Le.out [] [] .sl rfl rfl rfl trivial trivial))))
theorem yN:Spec Tryz.prog 126 (bj [.v (bt [43])] []) (aX (.sl (Bo.add).code.length (inl (Bo.add).code)) []):=by
 refine Spec.ofN Tryz.func126 rfl Tryz.ntmps126 rfl ?_
 refine am (ai (bH _ (rfl:_=AV.v (.slice _ _ _))) (aj (aq (am (dK rfl (aj (au (am (ai (aV (r:=true) _ _ Tryz.underlying9 rfl rfl rfl) (cm rfl ?_))))))))))
 refine aj (bD rfl rfl (am (ai (aA _ aa rfl (by exact (rfl:_=some [_,_]))) ?_)))
 refine ai (aW _ _ aa rfl ag (by (simp <;> rfl)) ah rfl) ?_
 exact lf rfl (aj (aC (aY (.inr rfl) rfl (.tmp (rfl:_=AV.sl _ _)) (Le.out [] [] .sl rfl rfl rfl trivial trivial))))
theorem zi:Spec Tryz.prog 126 (bj [.v (bt [45])] []) (aX (.sl (Bo.sub).code.length (inl (Bo.sub).code)) []):=by
 refine Spec.ofN Tryz.func126 rfl Tryz.ntmps126 rfl ?_
 refine am (ai (bH _ (rfl:_=AV.v (.slice _ _ _))) (aj (aq (am (dK rfl (aj (au (am (ai (aV (r:=false) _ _ Tryz.underlying9 rfl rfl rfl) (cm rfl ?_))))))))))
 refine aj (aP rfl rfl (am (ai (aV (r:=true) _ _ Tryz.underlying9 rfl rfl rfl) (cm rfl (aj (bD rfl rfl (am (ai (aA _ aa rfl (by exact (rfl:_=some [_,_]))) ?_))))))))
 refine ai (aW _ _ aa rfl ag (by (simp <;> rfl)) ah rfl) ?_
 exact lf rfl (aj (aC (aY (.inr rfl) rfl (.tmp (rfl:_=AV.sl _ _)) (Le.out [] [] .sl rfl rfl rfl trivial trivial))))
theorem zj:Spec Tryz.prog 126 (bj [.v (bt [42])] []) (aX (.sl (Bo.mul).code.length (inl (Bo.mul).code)) []):=by
 refine Spec.ofN Tryz.func126 rfl Tryz.ntmps126 rfl ?_
 refine am (ai (bH _ (rfl:_=AV.v (.slice _ _ _))) (aj (aq (am (dK rfl (aj (au (am (ai (aV (r:=false) _ _ Tryz.underlying9 rfl rfl rfl) (cm rfl ?_))))))))))
 refine aj (aP rfl rfl (am (ai (aV (r:=false) _ _ Tryz.underlying9 rfl rfl rfl) (cm rfl (aj (aP rfl rfl (am (ai (aV (r:=true) _ _ Tryz.underlying9 rfl rfl rfl) (cm rfl (aj ?_))))))))))
 refine bD rfl rfl (am (ai (aA _ aa rfl (by exact (rfl:_=some [_,_]))) ?_))
 refine ai (aW _ _ aa rfl ag (by (simp <;> rfl)) ah rfl) ?_
 exact lf rfl (aj (aC (aY (.inr rfl) rfl (.tmp (rfl:_=AV.sl _ _)) (Le.out [] [] .sl rfl rfl rfl trivial trivial))))
theorem xz:Spec Tryz.prog 126 (bj [.v (bt [47])] []) (aX (.sl (Bo.div).code.length (inl (Bo.div).code)) []):=by
 refine Spec.ofN Tryz.func126 rfl Tryz.ntmps126 rfl ?_
 refine am (ai (bH _ (rfl:_=AV.v (.slice _ _ _))) (aj (aq (am (dK rfl (aj (au (am (ai (aV (r:=false) _ _ Tryz.underlying9 rfl rfl rfl) (cm rfl ?_))))))))))
 refine aj (aP rfl rfl (am (ai (aV (r:=false) _ _ Tryz.underlying9 rfl rfl rfl) (cm rfl (aj (aP rfl rfl (am (ai (aV (r:=false) _ _ Tryz.underlying9 rfl rfl rfl) (cm rfl (aj ?_))))))))))
 refine aP rfl rfl (am (ai (aV (r:=true) _ _ Tryz.underlying9 rfl rfl rfl) (cm rfl (aj (bD rfl rfl (am (ai (aA _ aa rfl (by exact (rfl:_=some [_,_]))) ?_)))))))
 refine ai (aW _ _ aa rfl ag (by (simp <;> rfl)) ah rfl) ?_
 exact lf rfl (aj (aC (aY (.inr rfl) rfl (.tmp (rfl:_=AV.sl _ _)) (Le.out [] [] .sl rfl rfl rfl trivial trivial))))
theorem BL:Spec Tryz.prog 126 (bj [.v (bt [60])] []) (aX (.sl (Bo.lt).code.length (inl (Bo.lt).code)) []):=by
 refine Spec.ofN Tryz.func126 rfl Tryz.ntmps126 rfl ?_
 refine am (ai (bH _ (rfl:_=AV.v (.slice _ _ _))) (aj (aq (am (dK rfl (aj (au (am (ai (aV (r:=false) _ _ Tryz.underlying9 rfl rfl rfl) (cm rfl ?_))))))))))
 refine aj (aP rfl rfl (am (ai (aV (r:=false) _ _ Tryz.underlying9 rfl rfl rfl) (cm rfl (aj (aP rfl rfl (am (ai (aV (r:=false) _ _ Tryz.underlying9 rfl rfl rfl) (cm rfl (aj ?_))))))))))
 refine aP rfl rfl (am (ai (aV (r:=false) _ _ Tryz.underlying9 rfl rfl rfl) (cm rfl (aj (aP rfl rfl (am (ai (aV (r:=true) _ _ Tryz.underlying9 rfl rfl rfl) (cm rfl (aj (bD rfl rfl ?_))))))))))
 refine am (ai (aA _ aa rfl (by exact (rfl:_=some [_,_]))) ?_)
 refine ai (aW _ _ aa rfl ag (by (simp <;> rfl)) ah rfl) ?_
 exact lf rfl (aj (aC (aY (.inr rfl) rfl (.tmp (rfl:_=AV.sl _ _)) (Le.out [] [] .sl rfl rfl rfl trivial trivial))))
theorem BV:Spec Tryz.prog 126 (bj [.v (bt [60,61])] []) (aX (.sl (Bo.le).code.length (inl (Bo.le).code)) []):=by
 refine Spec.ofN Tryz.func126 rfl Tryz.ntmps126 rfl ?_
 refine am (ai (bH _ (rfl:_=AV.v (.slice _ _ _))) (aj (aq (am (dK rfl (aj (au (am (ai (aV (r:=false) _ _ Tryz.underlying9 rfl rfl rfl) (cm rfl ?_))))))))))
 refine aj (aP rfl rfl (am (ai (aV (r:=false) _ _ Tryz.underlying9 rfl rfl rfl) (cm rfl (aj (aP rfl rfl (am (ai (aV (r:=false) _ _ Tryz.underlying9 rfl rfl rfl) (cm rfl (aj ?_))))))))))
 refine aP rfl rfl (am (ai (aV (r:=false) _ _ Tryz.underlying9 rfl rfl rfl) (cm rfl (aj (aP rfl rfl (am (ai (aV (r:=false) _ _ Tryz.underlying9 rfl rfl rfl) (cm rfl (aj (aP rfl rfl ?_))))))))))
 refine am (ai (aV (r:=true) _ _ Tryz.underlying9 rfl rfl rfl) (cm rfl (aj (bD rfl rfl (am (ai (aA _ aa rfl (by exact (rfl:_=some [_,_]))) ?_))))))
 refine ai (aW _ _ aa rfl ag (by (simp <;> rfl)) ah rfl) ?_
 exact lf rfl (aj (aC (aY (.inr rfl) rfl (.tmp (rfl:_=AV.sl _ _)) (Le.out [] [] .sl rfl rfl rfl trivial trivial))))
theorem zT:Spec Tryz.prog 126 (bj [.v (bt [61,61])] []) (aX (.sl (Bo.eq).code.length (inl (Bo.eq).code)) []):=by
 refine Spec.ofN Tryz.func126 rfl Tryz.ntmps126 rfl ?_
 refine am (ai (bH _ (rfl:_=AV.v (.slice _ _ _))) (aj (aq (am (dK rfl (aj (au (am (ai (aV (r:=false) _ _ Tryz.underlying9 rfl rfl rfl) (cm rfl ?_))))))))))
 refine aj (aP rfl rfl (am (ai (aV (r:=false) _ _ Tryz.underlying9 rfl rfl rfl) (cm rfl (aj (aP rfl rfl (am (ai (aV (r:=false) _ _ Tryz.underlying9 rfl rfl rfl) (cm rfl (aj ?_))))))))))
 refine aP rfl rfl (am (ai (aV (r:=false) _ _ Tryz.underlying9 rfl rfl rfl) (cm rfl (aj (aP rfl rfl (am (ai (aV (r:=false) _ _ Tryz.underlying9 rfl rfl rfl) (cm rfl (aj (aP rfl rfl ?_))))))))))
 refine am (ai (aV (r:=false) _ _ Tryz.underlying9 rfl rfl rfl) (cm rfl (aj (aP rfl rfl (am (ai (aV (r:=true) _ _ Tryz.underlying9 rfl rfl rfl) (cm rfl (aj (bD rfl rfl (aq ?_))))))))))
 refine aN (σ':=aB 45 [] [] [] []) kp ?_
 refine an (ai (aA _ aa rfl (by exact (rfl:_=some [_,_]))) ?_)
 refine ai (aW _ _ aa rfl ag (by (simp <;> rfl)) ah rfl) ?_
 exact lf rfl (aj (aC (aY (.inr rfl) rfl (.tmp (rfl:_=AV.sl _ _)) (Le.out [] [] .sl rfl rfl rfl trivial trivial))))
theorem BU:Spec Tryz.prog 126 (bj [.v (bt [62])] []) (aX (.sl (Bo.gt).code.length (inl (Bo.gt).code)) []):=by
 refine Spec.ofN Tryz.func126 rfl Tryz.ntmps126 rfl ?_
 refine am (ai (bH _ (rfl:_=AV.v (.slice _ _ _))) (aj (aq (am (dK rfl (aj (au (am (ai (aV (r:=false) _ _ Tryz.underlying9 rfl rfl rfl) (cm rfl ?_))))))))))
 refine aj (aP rfl rfl (am (ai (aV (r:=false) _ _ Tryz.underlying9 rfl rfl rfl) (cm rfl (aj (aP rfl rfl (am (ai (aV (r:=false) _ _ Tryz.underlying9 rfl rfl rfl) (cm rfl (aj ?_))))))))))
 refine aP rfl rfl (am (ai (aV (r:=false) _ _ Tryz.underlying9 rfl rfl rfl) (cm rfl (aj (aP rfl rfl (am (ai (aV (r:=false) _ _ Tryz.underlying9 rfl rfl rfl) (cm rfl (aj (aP rfl rfl ?_))))))))))
 refine am (ai (aV (r:=false) _ _ Tryz.underlying9 rfl rfl rfl) (cm rfl (aj (aP rfl rfl (am (ai (aV (r:=false) _ _ Tryz.underlying9 rfl rfl rfl) (cm rfl (aj (aP rfl rfl (aq ?_))))))))))
 refine aN (σ':=aB 45 [(3,_)] [] [] []) kp ?_
 refine an (ai (aV (r:=true) _ _ Tryz.underlying9 rfl rfl rfl) (cm rfl (aj (bD rfl rfl (am (ai (aA _ aa rfl (by exact (rfl:_=some [_,_]))) ?_))))))
 refine ai (aA _ aa rfl (by exact (rfl:_=some [_,_]))) ?_
 refine ai (aW _ _ aa rfl ag (by (simp <;> rfl)) ah rfl) ?_
 exact lf rfl (aj (aC (aY (.inr rfl) rfl (.tmp (rfl:_=AV.sl _ _)) (Le.out [] [] .sl rfl rfl rfl trivial trivial))))
theorem An:Spec Tryz.prog 126 (bj [.v (bt [62,61])] []) (aX (.sl (Bo.ge).code.length (inl (Bo.ge).code)) []):=by
 refine Spec.ofN Tryz.func126 rfl Tryz.ntmps126 rfl ?_
 refine am (ai (bH _ (rfl:_=AV.v (.slice _ _ _))) (aj (aq (am (dK rfl (aj (au (am (ai (aV (r:=false) _ _ Tryz.underlying9 rfl rfl rfl) (cm rfl ?_))))))))))
 refine aj (aP rfl rfl (am (ai (aV (r:=false) _ _ Tryz.underlying9 rfl rfl rfl) (cm rfl (aj (aP rfl rfl (am (ai (aV (r:=false) _ _ Tryz.underlying9 rfl rfl rfl) (cm rfl (aj ?_))))))))))
 refine aP rfl rfl (am (ai (aV (r:=false) _ _ Tryz.underlying9 rfl rfl rfl) (cm rfl (aj (aP rfl rfl (am (ai (aV (r:=false) _ _ Tryz.underlying9 rfl rfl rfl) (cm rfl (aj (aP rfl rfl ?_))))))))))
 refine am (ai (aV (r:=false) _ _ Tryz.underlying9 rfl rfl rfl) (cm rfl (aj (aP rfl rfl (am (ai (aV (r:=false) _ _ Tryz.underlying9 rfl rfl rfl) (cm rfl (aj (aP rfl rfl (aq ?_))))))))))
 refine aN (σ':=aB 45 [(3,_)] [] [] []) kp ?_
 refine an (ai (aV (r:=false) _ _ Tryz.underlying9 rfl rfl rfl) (cm rfl (aj (aP rfl rfl (am (ai (aV (r:=true) _ _ Tryz.underlying9 rfl rfl rfl) (cm rfl (aj (bD rfl rfl (am ?_))))))))))
 refine ai (aA _ aa rfl (by exact (rfl:_=some [_,_]))) ?_
 refine ai (aA _ aa rfl (by exact (rfl:_=some [_,_]))) ?_
 refine ai (aW _ _ aa rfl ag (by (simp <;> rfl)) ah rfl) ?_
 exact lf rfl (aj (aC (aY (.inr rfl) rfl (.tmp (rfl:_=AV.sl _ _)) (Le.out [] [] .sl rfl rfl rfl trivial trivial))))
theorem Af:Spec Tryz.prog 126 (bj [.v (bt [33,61])] []) (aX (.sl (Bo.ne).code.length (inl (Bo.ne).code)) []):=by
 refine Spec.ofN Tryz.func126 rfl Tryz.ntmps126 rfl ?_
 refine am (ai (bH _ (rfl:_=AV.v (.slice _ _ _))) (aj (aq (am (dK rfl (aj (au (am (ai (aV (r:=false) _ _ Tryz.underlying9 rfl rfl rfl) (cm rfl ?_))))))))))
 refine aj (aP rfl rfl (am (ai (aV (r:=false) _ _ Tryz.underlying9 rfl rfl rfl) (cm rfl (aj (aP rfl rfl (am (ai (aV (r:=false) _ _ Tryz.underlying9 rfl rfl rfl) (cm rfl (aj ?_))))))))))
 refine aP rfl rfl (am (ai (aV (r:=false) _ _ Tryz.underlying9 rfl rfl rfl) (cm rfl (aj (aP rfl rfl (am (ai (aV (r:=false) _ _ Tryz.underlying9 rfl rfl rfl) (cm rfl (aj (aP rfl rfl ?_))))))))))
 refine am (ai (aV (r:=false) _ _ Tryz.underlying9 rfl rfl rfl) (cm rfl (aj (aP rfl rfl (am (ai (aV (r:=false) _ _ Tryz.underlying9 rfl rfl rfl) (cm rfl (aj (aP rfl rfl (aq ?_))))))))))
 refine aN (σ':=aB 45 [(3,_)] [] [] []) kp ?_
 refine an (ai (aV (r:=false) _ _ Tryz.underlying9 rfl rfl rfl) (cm rfl (aj (aP rfl rfl (am (ai (aV (r:=false) _ _ Tryz.underlying9 rfl rfl rfl) (cm rfl (aj (aP rfl rfl (ce ?_))))))))))
 refine am (ai (aA _ aa rfl (by exact (rfl:_=some [_,_]))) ?_)
 refine ai (aA _ aa rfl (by exact (rfl:_=some [_,_]))) ?_
 refine ai (aW _ _ aa rfl ag (by (simp <;> rfl)) ah rfl) ?_
 exact lf rfl (aj (aC (aY (.inr rfl) rfl (.tmp (rfl:_=AV.sl _ _)) (Le.out [] [] .sl rfl rfl rfl trivial trivial))))
theorem vO (o:Bo):Spec Tryz.prog 126 (bj [.v (bt o.txt)] []) (aX (.sl o.code.length (inl o.code)) []):=by
 cases o
 ·exact yN
 ·exact zi
 ·exact zj
 ·exact xz
 ·exact BL
 ·exact BV
 ·exact zT
 ·exact BU
 ·exact An
 ·exact Af

abbrev Cd:=Nat→List et
abbrev CoS (u:AV) (d:Nd) (c:Cd):Prop:= ∀ a,a+(c a).length≤1000000→Spec Tryz.prog 91 (bj [u,mA d, .v (.int .i64 (a:Int))] []) (aX (.ref (0,8) 0 (c a).length) [((0,8), .row 48 2 (inl (c a)))])
def cO:List Cd→Nat→List et
 | [],_=> []
 | c::cs,a=> c a++cO cs (a+(c a).length)
theorem oa: ∀ (l m:List Cd) (a:Nat),cO (l++m) a=cO l a++cO m (a+(cO l a).length)
 | [],m,a=> by simp [cO]
 | c::l,m,a=> by simp only [List.cons_append,cO,oa l m,List.append_assoc,List.length_append,Nat.add_assoc]
theorem vV {cs:List Cd} {j a:Nat} (h:j < cs.length):cO (cs.take (j+1)) a=cO (cs.take j) a++(cs.getD j fun _=> []) (a+(cO (cs.take j) a).length):=by
 rw [List.take_succ_eq_append_getElem h,oa]
 simp [cO,h]
theorem pJ {cs:List Cd} {j a:Nat}:(cO (cs.take j) a).length≤(cO cs a).length:=by
 conv=> rhs;rw [← List.take_append_drop j cs,oa]
 rw [List.length_append];omega
abbrev ld (u:AV) (L:List Nd) (cs:List Cd):Prop:= ∀ j,j < L.length→CoS u (jx L j) (cs.getD j fun _=> [])
theorem Ah {u:AV}:ld u [] []:=fun j hj=> by simp at hj
theorem vW {u:AV} {d:Nd} {c:Cd} {L:List Nd} {cs:List Cd} (h:CoS u d c) (h':ld u L cs):ld u (d::L) (c::cs):=fun j hj=> by
 cases j with
 | zero=> exact h
 | succ j=> exact h' j (by simpa using hj)
section
variable {d v:List Tx} {no:Nat} {on:List PV}
abbrev uu (d v:List Tx) (no:Nat) (on:List PV):AV:= .agg [.sl d.length (dT d), .sl v.length (dT v), .sl no on]
theorem dw (L:List Nd) (cs:List Cd) (hc:cs.length=L.length) (hk:ld (uu d v no on) L cs) (a:Nat) (ha:a+(cO cs a).length≤1000000):
  Spec Tryz.prog 125 (bj [uu d v no on, .sl L.length (kC L), .v (.int .i64 (a:Int))] []) (aX (.ref (0,8) 0 (cO cs a).length) [((0,8), .row 48 2 (inl (cO cs a)))]):=by
 refine Spec.ofN Tryz.func125 rfl Tryz.ntmps125 rfl ?_
 refine aq ?_
 refine Cw 1 rfl rfl fun hlen=> ?_
 unfold maxLen at hlen
 refine an (ai (bk (3,0) _ rfl rfl) (ai (bH _ (rfl:_=AV.v (.slice _ _ _))) (aj (am (ai (oF (7,0) _ 48 2 rfl rfl) ?_)))))
 refine aj (aG fun K3 hK3=> ?_)
 refine am (aZ rfl (aj (au ?_)))
 refine bB (α:=Nat) (fun j=> j≤L.length) 28 [(1,_),(2,_),(3,_)] [((3,0),_)] (fun j=> [(8, .v (.int .i64 (j:Int))),(7, .ref (7,0) 0 (cO (cs.take j) a).length)]) (fun j=> [((7,0), .row 48 2 (inl (cO (cs.take j) a)))]) [] [] (fun j=> L.length - j) 0 ?_ (by
  refine Le.mkJ [] [] rfl ?_ ?_ trivial trivial ?_
  ·exact ⟨(iS rfl),(iV rfl),(iP rfl),(ci ag),(dh rfl ag),trivial⟩
  ·exact ⟨(cD rfl rfl rfl),(gJ rfl rfl rfl ag),trivial⟩
  ·kernel_rfl) ?_
 ·omega
 intro j hj
 have htk:(cO (cs.take j) a).length≤(cO cs a).length:=pJ
 refine aG fun K5 hK5=> ?_
 refine am (aQ rfl (eN rfl (ai (bF _ aa rfl) (ai (bq _ _ rfl rfl rfl) (aj (aU rfl (fun hc12=> ?_) (fun hc12=> ?_)))))))
 ·skip
  have hs:=vV (cs:=cs) (j:=j) (a:=a) ab
  have htk1:(cO (cs.take (j+1)) a).length≤(cO cs a).length:=pJ
  have hsl:=congrArg List.length hs
  rw [List.length_append] at hsl
  have hcj:=hk j ab (a+(cO (cs.take j) a).length) ab
  generalize (cs.getD j fun _=> []) (a+(cO (cs.take j) a).length)=C at hs hsl hcj
  refine bu (hK5 _ ?_)
  clear hK5;try clear K5
  refine aq (au ?_)
  refine aN (σ':=aB 28 [(1,_),(2,_),(3,_),(7,_),(8,_)] [((3,0),_),((7,0),_)] [] []) kp ?_
  refine bG 11 [15,16,17,18,19,20,21,22,23,24,25] [(50,0)] ae ae rfl (aL rfl) (rfl:_=[_,_,_,_,_,_,_,_,_,_,_]) (rfl:_=[_,_]) ?_
  refine ap (_,[]) (fun τ=> aE _ (rfl:_=AV.ref _ _ _)) ?_
  refine eK rfl ?_
  refine ap (_,[]) (fun τ=> aS _ aa rfl rfl rfl rfl) ?_
  refine eJ rfl ?_
  refine ap (_,[]) (fun τ=> aE _ (rfl:_=AV.sl _ _)) ?_
  refine eI rfl ?_
  refine ap (_,[]) (fun τ=> aE _ (rfl:_=AV.v (.int _ _))) ?_
  refine eO rfl ?_
  refine ap (_,[]) (fun τ=> bf _ _ aa rfl rfl _ rfl ab (by (simp only [ba,bn,bm,bz,bw,bJ,bA,bL];omega)) ag) ?_
  refine fa rfl ?_
  refine ap (_,[]) (fun τ=> cg _ aa rfl (by exact cG _ _ ab) rfl) ?_
  refine fC rfl ?_
  refine ap (_,[]) (fun τ=> aE _ (rfl:_=AV.v (.int _ _))) ?_
  refine gv rfl ?_
  refine ap (_,[]) (fun τ=> aE _ (rfl:_=AV.ref _ _ _)) ?_
  refine jI rfl ?_
  refine ap (_,[]) (fun τ=> dB _ aa rfl rfl) ?_
  refine jQ rfl ?_
  refine ap (_,[]) (fun τ=> bc _ _ rfl rfl (bp ab)) ?_
  refine fW rfl ?_
  refine ap (_,[((50,0),_)]) (fun τ=> (eh aa [((0,8),(50,0))] ar (hcj.toI) trivial tr tr rfl rfl ae ae)) ?_
  refine gx rfl (bh ⟨rfl,?_⟩)
  refine ai (dq (26,0) _ _ aa rfl rfl (bL _).symm (.ref rfl (lM _) (jR _)) ab rfl (kv _ _) hsl.symm) ?_
  refine eZ rfl (fc (an (aQ rfl (ai (bc _ _ rfl rfl (bp ab)) ?_))))
  refine aZ rfl (az (⟨j+1,?_,?_,?_⟩))
  ·omega
  ·skip
   refine Le.mkJ [((7,0),(26,0))] [] rfl ?_ ?_ trivial trivial ?_
   ·exact ⟨(by repeat' (exact Lv.sl)),(by repeat' (exact Lv.v)),(dX (id:=(3,0)) rfl),(ci ag),(dh rfl ag),trivial⟩
   ·exact ⟨(fM rfl rfl rfl rfl (by repeat' (first | exact Lv.sl | exact bv | refine aI ?_ ?_))),(gJ rfl rfl rfl (by (rw [hs]))),trivial⟩
   ·kernel_rfl
  ·omega
 ·skip
  obtain rfl:j=cs.length:=by omega
  rw [List.take_length]
  refine bK (id (hK3 _ ?_))
  clear hK3;try clear K3
  exact am (gD rfl (eZ rfl (aj (aC (aY (.inr rfl) rfl (.tmp (rfl:_=AV.ref _ _ _)) (Le.out [((0,8),(7,0))] [] (dh rfl rfl) rfl rfl rfl trivial ob))))))
theorem mX (N:Nd) (c:Cd) (h:CoS (uu d v no on) N c) (n:Int) (a:Nat) (ha:a+(c a).length≤1000000):
  Spec Tryz.prog 187 (bj [uu d v no on, .sl 1 (kC [N]), .v (.int .i64 n), .v (.int .i64 (a:Int))] []) (aX (.ref (0,8) 0 (c a).length) [((0,8), .row 48 2 (inl (c a)))]):=by
 have hc:=h a ha
 refine Spec.ofN Tryz.func187 rfl Tryz.ntmps187 rfl ?_
 refine am (ai (bk (4,0) _ rfl rfl) (ai (bH _ (rfl:_=AV.v (.slice _ _ _))) (aj (aq (am (eN rfl (ai (bF _ aa rfl) (ai (dt _ _ rfl rfl rfl) (aj (bD rfl rfl ?_))))))))))
 refine aq ?_
 refine aN (σ':=aB 21 [(1,_),(3,_),(4,_)] [((4,0),_)] [] []) kp ?_
 refine bG 5 [12,13,14,15,16] [] ae ae rfl (aL rfl) (rfl:_=[_,_,_,_,_]) (rfl:_=[_,_]) ?_
 refine ap (_,[]) (fun τ=> aS _ aa rfl rfl rfl rfl) ?_
 refine eK rfl ?_
 refine ap (_,[]) (fun τ=> aE _ (rfl:_=AV.sl _ _)) ?_
 refine eJ rfl ?_
 refine ap (_,[]) (fun τ=> bf _ _ aa rfl rfl 0 rfl ab (by simp [kC,Nd.row]) rfl) ?_
 refine eI rfl ?_
 refine ap (_,[]) (fun τ=> cg _ aa rfl (by exact cG [N] 0 (by simp)) rfl) ?_
 refine eO rfl ?_
 refine ap (_,[]) (fun τ=> aE _ (rfl:_=AV.v (.int _ _))) ?_
 refine fa rfl (bh ⟨rfl,?_⟩)
 refine ai (dm aa [((0,8),(50,0))] ar (hc.toI) trivial tr ae) ?_
 exact eZ rfl (aj (aC (aY (.inr rfl) rfl (.tmp (rfl:_=AV.ref _ _ _)) (Le.out [((0,8),(50,0))] [] (dh rfl rfl) rfl rfl rfl trivial ob))))
theorem qZ (n:Int) (a:Nat):
  Spec Tryz.prog 187 (bj [uu d v no on, .sl 0 [], .v (.int .i64 n), .v (.int .i64 (a:Int))] []) (aX (.ref (0,8) 0 1) [((0,8), .row 48 2 (inl [{ op:= .push,n:=n }]))]):=by
 refine Spec.ofN Tryz.func187 rfl Tryz.ntmps187 rfl ?_
 refine am (ai (bk (4,0) _ rfl rfl) (ai (bH _ (rfl:_=AV.v (.slice _ _ _))) (aj (aq (am (eN rfl (ai (bF _ aa rfl) (ai (dt _ _ rfl rfl rfl) (aj (aP rfl rfl ?_))))))))))
 refine aH (am (aQ rfl (ai (aA _ aa rfl (by exact (rfl:_=some [_,_]))) ?_)))
 refine ai (jS (20,0) _ _ aa rfl ag (by (simp <;> rfl)) ah rfl rfl) ?_
 exact eZ rfl (aj (aC (aY (.inr rfl) rfl (.tmp (rfl:_=AV.ref _ _ _)) (Le.out [((0,8),(20,0))] [] (dh rfl rfl) rfl rfl rfl trivial ob))))
def Ce (c y z:Cd) (a:Nat):List et:=
 c a++[{ op:= .unl,n:=((a+(c a).length+1+(y (a+(c a).length+1)).length+1:Nat):Int) }]++y (a+(c a).length+1)++
  [{ op:= .jump,n:=((a+(c a).length+1+(y (a+(c a).length+1)).length+1+(z (a+(c a).length+1+(y (a+(c a).length+1)).length+1)).length:Nat):Int) }]++z (a+(c a).length+1+(y (a+(c a).length+1)).length+1)
abbrev ON (u:AV) (l:AV) (n:Int) (c:Cd):Prop:= ∀ a,a+(c a).length≤1000000→Spec Tryz.prog 187 (bj [u,l, .v (.int .i64 n), .v (.int .i64 (a:Int))] []) (aX (.ref (0,8) 0 (c a).length) [((0,8), .row 48 2 (inl (c a)))])
theorem jz (N:Nd) (c y z:Cd) (hc:CoS (uu d v no on) N c) (ly lz:Nat) (ys zs:List PV) (n:Int) (hy:ON (uu d v no on) (.sl ly ys) n y) (hz:ON (uu d v no on) (.sl lz zs) n z) (a:Nat) (ha:a+(Ce c y z a).length≤1000000):
  Spec Tryz.prog 124 (bj [uu d v no on,mA N, .sl ly ys, .sl lz zs, .v (.int .i64 n), .v (.int .i64 (a:Int))] []) (aX (.ref (0,8) 0 (Ce c y z a).length) [((0,8), .row 48 2 (inl (Ce c y z a)))]):=by
 have hb: ∃ b,b=Ce c y z a:=⟨_,rfl⟩
 obtain ⟨b,hb⟩:=hb
 rw [← hb] at ha ⊢
 unfold Ce at hb
 have hbl:=congrArg List.length hb
 simp only [List.length_append,List.length_cons,List.length_nil] at hbl
 have h1:=hc a ab
 generalize c a=C at h1 hb hbl
 have h2:=hy (a+C.length+1) ab
 generalize y (a+C.length+1)=Y at h2 hb hbl
 obtain ⟨f,hf⟩: ∃ f,f=a+C.length+1+Y.length+1:=⟨_,rfl⟩
 rw [← hf] at hb hbl
 have h3:=hz f ab
 generalize z f=Z at h3 hb hbl
 refine Spec.ofN Tryz.func124 rfl Tryz.ntmps124 rfl ?_
 refine am (ai (bk (6,0) _ rfl rfl) (ai (bk (7,0) _ rfl rfl) (ai (bH _ (rfl:_=AV.v (.slice _ _ _))) (aj (am (ai (aS _ aa rfl rfl rfl rfl) (ai (aS _ aa rfl rfl rfl rfl) (aQ rfl (ai (dm aa [((0,8),(50,0))] ar (h1.toI) trivial tr ae) ?_)))))))))
 refine eZ rfl (aj (aG fun K3 hK3=> ?_))
 refine an (ai (aS _ aa rfl rfl rfl rfl) (eN rfl (aQ rfl (aQ rfl (gD rfl (ai (dB _ aa rfl rfl) (ai (bc _ _ rfl rfl (bp ab)) ?_)))))))
 refine ai (bc _ _ rfl rfl (bp ab)) ?_
 refine ai (dm aa [((0,8),(51,0))] ar (h2.toI) trivial tr ae) ?_
 refine eZ rfl (az (hK3 _ ?_))
 clear hK3;try clear K3
 refine aq ?_
 refine aN (σ':=aB 63 [(3,_),(4,_),(5,_),(6,_),(13,_),(14,_)] [((6,0),_),((50,0),_),((51,0),_)] [] []) kp ?_
 refine an (aQ rfl (gD rfl (ai (dB _ aa rfl rfl) (ai (bc _ _ rfl rfl (bp ab)) ?_))))
 refine ai (bc _ _ rfl rfl (bp ab)) ?_
 refine gD rfl (ai (dB _ aa rfl rfl) (ai (bc _ _ rfl rfl (bp ab)) ?_))
 refine ai (bc (r:=(f:Int)) _ _ rfl rfl ((bp ab).trans ab)) ?_
 refine aZ rfl (aj (aG fun K5 hK5=> ?_))
 refine an (ai (aS _ aa rfl rfl rfl rfl) (eN rfl (aQ rfl (aQ rfl (ai (dm aa [((0,8),(52,0))] ar (h3.toI) trivial tr ae) ?_)))))
 refine eZ rfl (az (hK5 _ ?_))
 clear hK5;try clear K5
 refine aq ?_
 refine aN (σ':=aB 63 [(13,_),(14,_),(15,_),(16,_)] [((50,0),_),((51,0),_),((52,0),_)] [] []) kp ?_
 refine an (gD rfl (aQ rfl (ai (aA _ aa rfl (by exact (rfl:_=some [_,_]))) ?_)))
 refine ai (aW _ _ aa rfl ag (by (simp <;> rfl)) ah rfl) ?_
 refine ai (dq (48,0) _ _ aa rfl rfl (bL _).symm (.sl rfl) ab rfl (ew _ { op:= .unl,n:=f }) (show C.length+1=(C++[({ op:= .unl,n:=f }:et)]).length by simp)) ?_
 refine eZ rfl (aj (am (gD rfl (gD rfl (ai (dq (51,1) _ _ aa rfl rfl (bL _).symm (.ref rfl (lM _) (jR _)) (by simp;omega) rfl (kv _ _) (show (C++[({ op:= .unl,n:=f }:et)]).length+Y.length=(C++[({ op:= .unl,n:=f }:et)]++Y).length by simp;omega)) ?_)))))
 refine eZ rfl (aj (am (gD rfl (aQ rfl (gD rfl (ai (dB _ aa rfl rfl) (ai (bc _ _ rfl rfl (bp ab)) ?_)))))))
 refine ai (aA _ aa rfl (by exact (rfl:_=some [_,_]))) ?_
 refine ai (aW _ _ aa rfl ag (by (simp <;> rfl)) ah rfl) ?_
 refine ai (dq (59,0) _ _ aa rfl rfl (bL _).symm (.sl rfl) (by simp;omega) rfl (ew _ { op:= .jump,n:=((f+Z.length:Nat):Int) }) (show (C++[({ op:= .unl,n:=f }:et)]++Y).length+1=(C++[({ op:= .unl,n:=f }:et)]++Y++[({ op:= .jump,n:=((f+Z.length:Nat):Int) }:et)]).length by simp;omega)) ?_
 refine eZ rfl (aj (aq ?_))
 refine aN (σ':=aB 63 [(13,_),(16,_)] [((52,0),_),((59,0),_)] [] []) kp ?_
 refine an (gD rfl (gD rfl (ai (dq (62,0) _ _ aa rfl rfl (bL _).symm (.ref rfl (lM _) (jR _)) (by simp;omega) rfl ((kv _ _).trans (congrArg inl hb.symm)) (show _+Z.length=b.length by simp;omega)) ?_)))
 exact eZ rfl (aj (aC (aY (.inr rfl) rfl (.tmp (rfl:_=AV.ref _ _ _)) (Le.out [((0,8),(62,0))] [] (dh rfl rfl) rfl rfl rfl trivial ob))))
end
end Go.Proofs.YtmjnackchaahbaaGreat
