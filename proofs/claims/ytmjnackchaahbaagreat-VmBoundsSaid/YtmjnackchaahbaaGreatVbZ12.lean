/- Part 12 of the texts that the walk leans on: the machine, the walks, the plain laws. -/
import Derived.Test.YtmjnackchaahbaaGreatVbZ11
set_option linter.unusedSimpArgs false
set_option linter.unusedVariables false
namespace Go.Proofs.YtmjnackchaahbaaGreat
open Go.RowKit

theorem nn: ∀ e,eI e≤2
 | .int _=> by simp [eI] | .bool _=> by simp [eI] | .var _=> by simp [eI] | .name _=> by simp [eI]
 | .draw e=> by simp only [eI];split <;> omega
 | .neg e=> by simp only [eI];split <;> omega
 | .not e=> by simp only [eI];split <;> omega
 | .bin o a b=> by cases o <;> simp only [eI] <;> split <;> omega
 | .and a b=> by simp only [eI];split <;> omega
 | .or a b=> by simp only [eI];split <;> omega
def rG (a b:Ex) (j:Nat):Nat:=if j=0 then eI a else eI b
theorem nc (a b:Ex) (j:Nat):rG a b j≤2:=by unfold rG;split <;> exact nn _
theorem mX {a b:Ex} {op j:Nat} (hj:j < 2) (h:rG a b j≠op): ¬ (eI a=op∧eI b=op):=fun e=> by
 have:j=0∨j=1:=by omega
 rcases this with rfl | rfl
 ·exact h e.1
 ·exact h e.2
theorem sA (o:Bo):o.txt∉([[38,38],[124,124]]:List Tx):=by cases o <;> decide
def LE:Bo→Nat | .add=> 1 | .sub=> 1 | .mul=> 1 | .div=> 1 | _=> 2
abbrev sF (d:Nd) (t:Nat):Prop:=Spec Tryz.prog 203 (bj [mI d] []) (aX (.v (.int .i64 (t:Int))) [])
theorem qI {d:Nd} {t:Nat} (h:sF d t): ∀ j,j < [d].length→sF (jx [d] j) t:=fun j hj=> by
 have:j=0:=by simpa using hj
 subst this
 exact h
theorem nO {d e:Nd} {a b:Ex} (h1:sF d (eI a)) (h2:sF e (eI b)): ∀ j,j < [d,e].length→sF (jx [d,e] j) (rG a b j):=fun j hj=> by
 have hj:j < 2:=hj
 have:j=0∨j=1:=by omega
 rcases this with rfl | rfl
 ·exact h1
 ·exact h2
theorem dU (nm:List Tx): ∀ e:Ex,sF (dR nm e) (eI e)
 | .int n=> CG n.toNat
 | .bool b=> AR (if b then 1 else 0)
 | .var i=> DE (nm.getD i [])
 | .name k=> BX (bltT.getD k [])
 | .draw e=> Ae [dR nm e] (by simp) (fun _=> eI e) (fun _=> nn e) (qI (dU nm e)) _ (fun h=> if_pos (h 0 (by simp))) (fun _ _ h=> if_neg h)
 | .neg e=> Eh [dR nm e] (by simp) (fun _=> eI e) (fun _=> nn e) (qI (dU nm e)) _ (fun h=> if_pos (h 0 (by simp))) (fun _ _ h=> if_neg h)
 | .not e=> DJ [dR nm e] (by simp) (fun _=> eI e) (fun _=> nn e) (qI (dU nm e)) _ (fun h=> if_pos (h 0 (by simp))) (fun _ _ h=> if_neg h)
 | .and a b=> so [38,38] ah ah [dR nm a,dR nm b] (by simp) (rG a b) (nc a b) (nO (dU nm a) (dU nm b)) _ (fun h=> if_pos ⟨h 0 (by simp),h 1 (by simp)⟩) (fun _ hj h=> if_neg (mX hj h))
 | .or a b=> so [124,124] ah ah [dR nm a,dR nm b] (by simp) (rG a b) (nc a b) (nO (dU nm a) (dU nm b)) _ (fun h=> if_pos ⟨h 0 (by simp),h 1 (by simp)⟩) (fun _ hj h=> if_neg (mX hj h))
 | .bin o a b=> by
  have hty:eI (.bin o a b)=if eI a=1∧eI b=1 then LE o else 0:=by cases o <;> rfl
  have hk:=nO (dU nm a) (dU nm b)
  by_cases ho:o.txt∈ve
  ·have h2:LE o=2:=by cases o <;> first | rfl | (exact absurd ho ah)
   rw [h2] at hty
   exact CR o.txt (sA o) ho [dR nm a,dR nm b] (by simp) (rG a b) (nc a b) hk _ (fun h=> hty.trans (if_pos ⟨h 0 (by simp),h 1 (by simp)⟩)) (fun _ hj h=> hty.trans (if_neg (mX hj h)))
  ·have h2:LE o=1:=by cases o <;> first | rfl | (exact absurd ah ho)
   rw [h2] at hty
   exact xK o.txt (sA o) ho [dR nm a,dR nm b] (by simp) (rG a b) (nc a b) hk _ (fun h=> hty.trans (if_pos ⟨h 0 (by simp),h 1 (by simp)⟩)) (fun _ hj h=> hty.trans (if_neg (mX hj h)))
theorem jh (n:Int) (s:Tx) (L:List Nd) (h: ∀ j,j < L.length→Spec Tryz.prog 166 (bj [mI (jx L j)] []) (aX (.v (.bool true)) [])):
  Spec Tryz.prog 166 (bj [.agg [.v (.int .i64 11), .v (.int .i64 n), .v (bt s), .sl L.length (kB L)]] []) (aX (.v (.bool true)) []):=by
 refine Spec.ofN Tryz.func166 rfl Tryz.ntmps166 rfl ?_
 refine ap ?_
 refine jH 0 3 rfl rfl rfl fun hlen=> ?_
 unfold maxLen at hlen
 refine an (ai (bk (1,0) _ rfl rfl) (ct rfl (aj (ap (am (bA rfl rfl rfl (cC rfl rfl rfl (iY rfl rfl rfl (aj (bD rfl rfl ?_))))))))))
 refine aF fun K4 hK4=> ?_
 refine am (aZ rfl (aj (au ?_)))
 refine bw (α:=Nat) (fun j=> j≤L.length) 73 [(1,_)] [((1,0),_)] (fun j=> [(3, .v (.int .i64 (j:Int)))]) (fun j=> []) [] [] (fun j=> L.length - j) 0 ?_ (by
  refine Le.mkJ [] [] rfl ?_ ?_ trivial trivial ?_
  ·exact ⟨(iP rfl),(ck ag),trivial⟩
  ·exact ⟨(cF rfl rfl rfl),trivial⟩
  ·kernel_rfl) ?_
 ·omega
 intro j hj
 refine aF fun K6 hK6=> ?_
 refine am (aQ rfl (bA rfl rfl rfl (fh rfl rfl rfl (ai (bE _ aa rfl) (ai (bo _ _ rfl rfl rfl) (aj (aT rfl (fun hc17=> ?_) (fun hc17=> ?_))))))))
 ·skip
  refine bv (hK6 _ ?_)
  clear hK6;try clear K6
  refine ap (au (am (bA rfl rfl rfl (fh rfl rfl rfl (aQ rfl (ai (bf _ _ aa rfl rfl _ rfl ab (by (simp only [ba,bn,bl,bC,bz,bJ,bB];omega)) ag) ?_))))))
  refine ai (cd _ aa rfl (by exact cH _ _ ab) rfl) ?_
  refine ai (aL aa al (h j ab) rfl rfl) ?_
  refine ct rfl (aj (am (cJ rfl (ai (dc (r:=false) _ rfl rfl) (aj (aP rfl rfl (bZ (an (aQ rfl (ai (bc _ _ rfl rfl (bq ab)) ?_))))))))))
  refine aZ rfl (az (⟨j+1,?_,?_,?_⟩))
  ·omega
  ·skip
   refine Le.mkJ [] [] rfl ?_ ?_ trivial trivial ?_
   ·exact ⟨(iP rfl),(ck ag),trivial⟩
   ·exact ⟨(cF rfl rfl rfl),trivial⟩
   ·kernel_rfl
  ·omega
 ·skip
  refine bK (id (hK4 _ ?_))
  clear hK4;try clear K4
  refine am (ct rfl (aj (aC (aY (.inr rfl) rfl (.tmp (rfl:_=AV.v (.bool _))) (Le.out [] [] (ic ?_) rfl rfl rfl trivial trivial)))))
  rfl
theorem pS (k:Nat) (hk:k=2∨k=3) (n:Int) (s:Tx) (L:List Nd) (hL:0 < L.length) (ht:Spec Tryz.prog 203 (bj [mI (jx L 0)] []) (aX (.v (.int .i64 2)) [])) (h: ∀ j,1≤j→j < L.length→Spec Tryz.prog 166 (bj [mI (jx L j)] []) (aX (.v (.bool true)) [])):
  Spec Tryz.prog 166 (bj [.agg [.v (.int .i64 (k:Int)), .v (.int .i64 n), .v (bt s), .sl L.length (kB L)]] []) (aX (.v (.bool true)) []):=by
 refine Spec.ofN Tryz.func166 rfl Tryz.ntmps166 rfl ?_
 refine ap ?_
 refine jH 0 3 rfl rfl rfl fun hlen=> ?_
 unfold maxLen at hlen
 refine an (ai (bk (1,0) _ rfl rfl) (ct rfl (aj (ap (am (bA rfl rfl rfl (cC rfl rfl rfl (eG rfl rfl (beq_eq_false_iff_ne.2 ab) ?_))))))))
 refine aj (aP rfl rfl (aJ (ap (am (bA rfl rfl rfl (cC rfl rfl rfl (ai (bP _ _ rfl rfl rfl) (cJ rfl (dE (fun hg31=> ?_) (fun hg31=> ?_))))))))))
 ·skip
  refine aW rfl rfl ah ?_
  refine aW rfl rfl ah ?_
  refine aW rfl rfl ah ?_
  refine ai (aD _ _ _ rfl (rfl:_=AV.v (.bool _))) (aj (bD rfl rfl (am (bA rfl rfl rfl (fh rfl rfl rfl (ai (bf _ _ aa rfl rfl 0 rfl hL (by simp only [bJ];omega) rfl) ?_))))))
  refine ai (cd _ aa rfl (by exact cH L 0 hL) rfl) ?_
  refine ai (aL aa al (ht) rfl rfl) ?_
  refine aZ rfl (aj (aF fun K7 hK7=> ?_))
  refine ap ?_
  refine aN (σ':=aB 73 [(1,_),(5,_)] [((1,0),_)] [] []) kp ?_
  refine an (aZ rfl (aj (au ?_)))
  refine bw (α:=Nat) (fun j=> 1≤j∧j≤L.length) 73 [(1,_),(5,_)] [((1,0),_)] (fun j=> [(6, .v (.int .i64 (j:Int)))]) (fun j=> []) [] [] (fun j=> L.length - j) 1 ?_ (by
   refine Le.mkJ [] [] rfl ?_ ?_ trivial trivial ?_
   ·exact ⟨(iP rfl),(iV rfl),(ck ag),trivial⟩
   ·exact ⟨(cF rfl rfl rfl),trivial⟩
   ·kernel_rfl) ?_
  ·exact ⟨Nat.le_refl _,hL⟩
  intro j hj
  obtain ⟨hj1,hj2⟩:=hj
  refine aF fun K9 hK9=> ?_
  refine am (aQ rfl (bA rfl rfl rfl (fh rfl rfl rfl (ai (bE _ aa rfl) (ai (bo _ _ rfl rfl rfl) (aj (aT rfl (fun hc45=> ?_) (fun hc45=> ?_))))))))
  ·skip
   refine bv (hK9 _ ?_)
   clear hK9;try clear K9
   refine ap (au (am (bA rfl rfl rfl (fh rfl rfl rfl (aQ rfl (ai (bf _ _ aa rfl rfl _ rfl ab (by (simp only [ba,bn,bl,bC,bz,bJ,bB];omega)) ag) ?_))))))
   refine ai (cd _ aa rfl (by exact cH _ _ ab) rfl) ?_
   refine ai (aL aa al (h j hj1 ab) rfl rfl) ?_
   refine ct rfl (aj (am (cJ rfl (ai (dc (r:=false) _ rfl rfl) (aj (aP rfl rfl (bZ (an (aQ rfl (ai (bc _ _ rfl rfl (bq ab)) ?_))))))))))
   refine aZ rfl (az (⟨j+1,?_,?_,?_⟩))
   ·omega
   ·skip
    refine Le.mkJ [] [] rfl ?_ ?_ trivial trivial ?_
    ·exact ⟨(iP rfl),(iV rfl),(ck ag),trivial⟩
    ·exact ⟨(cF rfl rfl rfl),trivial⟩
    ·kernel_rfl
   ·omega
  ·skip
   refine bK (id (hK7 _ ?_))
   clear hK7;try clear K7
   refine am (aQ rfl (iY rfl rfl rfl (ct rfl (aj (aC (aY (.inr rfl) rfl (.tmp (rfl:_=AV.v (.bool _))) (Le.out [] [] (ic ?_) rfl rfl rfl trivial trivial)))))))
   rfl
 ·skip
  have hk3:k=3:=by omega
  refine ax rfl rfl (aH _ aa rfl rfl rfl) (ax rfl rfl (aK _ aa rfl rfl (rfl:_=some (AV.v (.int _ _)))) (ax rfl rfl (bP (r:=true) _ _ rfl rfl (beq_iff_eq.2 ab)) ?_))
  refine ai (aD _ _ _ rfl (rfl:_=AV.v (.bool _))) (aj (bD rfl rfl (am (bA rfl rfl rfl (fh rfl rfl rfl (ai (bf _ _ aa rfl rfl 0 rfl hL (by simp only [bJ];omega) rfl) ?_))))))
  refine ai (cd _ aa rfl (by exact cH L 0 hL) rfl) ?_
  refine ai (aL aa al (ht) rfl rfl) ?_
  refine aZ rfl (aj (aF fun K16 hK16=> ?_))
  refine ap ?_
  refine aN (σ':=aB 73 [(1,_),(5,_)] [((1,0),_)] [] []) kp ?_
  refine an (aZ rfl (aj (au ?_)))
  refine bw (α:=Nat) (fun j=> 1≤j∧j≤L.length) 73 [(1,_),(5,_)] [((1,0),_)] (fun j=> [(6, .v (.int .i64 (j:Int)))]) (fun j=> []) [] [] (fun j=> L.length - j) 1 ?_ (by
   refine Le.mkJ [] [] rfl ?_ ?_ trivial trivial ?_
   ·exact ⟨(iP rfl),(iV rfl),(ck ag),trivial⟩
   ·exact ⟨(cF rfl rfl rfl),trivial⟩
   ·kernel_rfl) ?_
  ·exact ⟨Nat.le_refl _,hL⟩
  intro j hj
  obtain ⟨hj1,hj2⟩:=hj
  refine aF fun K18 hK18=> ?_
  refine am (aQ rfl (bA rfl rfl rfl (fh rfl rfl rfl (ai (bE _ aa rfl) (ai (bo _ _ rfl rfl rfl) (aj (aT rfl (fun hc45=> ?_) (fun hc45=> ?_))))))))
  ·skip
   refine bv (hK18 _ ?_)
   clear hK18;try clear K18
   refine ap (au (am (bA rfl rfl rfl (fh rfl rfl rfl (aQ rfl (ai (bf _ _ aa rfl rfl _ rfl ab (by (simp only [ba,bn,bl,bC,bz,bJ,bB];omega)) ag) ?_))))))
   refine ai (cd _ aa rfl (by exact cH _ _ ab) rfl) ?_
   refine ai (aL aa al (h j hj1 ab) rfl rfl) ?_
   refine ct rfl (aj (am (cJ rfl (ai (dc (r:=false) _ rfl rfl) (aj (aP rfl rfl (bZ (an (aQ rfl (ai (bc _ _ rfl rfl (bq ab)) ?_))))))))))
   refine aZ rfl (az (⟨j+1,?_,?_,?_⟩))
   ·omega
   ·skip
    refine Le.mkJ [] [] rfl ?_ ?_ trivial trivial ?_
    ·exact ⟨(iP rfl),(iV rfl),(ck ag),trivial⟩
    ·exact ⟨(cF rfl rfl rfl),trivial⟩
    ·kernel_rfl
   ·omega
  ·skip
   refine bK (id (hK16 _ ?_))
   clear hK16;try clear K16
   refine am (aQ rfl (iY rfl rfl rfl (ct rfl (aj (aC (aY (.inr rfl) rfl (.tmp (rfl:_=AV.v (.bool _))) (Le.out [] [] (ic ?_) rfl rfl rfl trivial trivial)))))))
   rfl
theorem eT (k:Nat) (hk:k≠2∧k≠3∧k≠11) (n:Int) (s:Tx) (L:List Nd) (h: ∀ j,j < L.length→Spec Tryz.prog 203 (bj [mI (jx L j)] []) (aX (.v (.int .i64 1)) [])):
  Spec Tryz.prog 166 (bj [.agg [.v (.int .i64 (k:Int)), .v (.int .i64 n), .v (bt s), .sl L.length (kB L)]] []) (aX (.v (.bool true)) []):=by
 refine Spec.ofN Tryz.func166 rfl Tryz.ntmps166 rfl ?_
 refine ap ?_
 refine jH 0 3 rfl rfl rfl fun hlen=> ?_
 unfold maxLen at hlen
 refine an (ai (bk (1,0) _ rfl rfl) (ct rfl (aj (ap (am (bA rfl rfl rfl (cC rfl rfl rfl (eG rfl rfl (beq_eq_false_iff_ne.2 ab) ?_))))))))
 refine aj (aP rfl rfl (aJ (ap (am (bA rfl rfl rfl (cC rfl rfl rfl (eG rfl rfl (beq_eq_false_iff_ne.2 ab) ?_)))))))
 refine cJ rfl (ax rfl rfl (aH _ aa rfl rfl rfl) (ax rfl rfl (aK _ aa rfl rfl (rfl:_=some (AV.v (.int _ _)))) (ax rfl rfl (bP (r:=false) _ _ rfl rfl (beq_eq_false_iff_ne.2 ab)) ?_)))
 refine ai (aD _ _ _ rfl (rfl:_=AV.v (.bool _))) (aj (aP rfl rfl (aJ (aF fun K6 hK6=> ?_))))
 refine am (aZ rfl (aj (au ?_)))
 refine bw (α:=Nat) (fun j=> j≤L.length) 73 [(1,_)] [((1,0),_)] (fun j=> [(8, .v (.int .i64 (j:Int)))]) (fun j=> []) [] [] (fun j=> L.length - j) 0 ?_ (by
  refine Le.mkJ [] [] rfl ?_ ?_ trivial trivial ?_
  ·exact ⟨(iP rfl),(ck ag),trivial⟩
  ·exact ⟨(cF rfl rfl rfl),trivial⟩
  ·kernel_rfl) ?_
 ·omega
 intro j hj
 refine aF fun K8 hK8=> ?_
 refine am (aQ rfl (bA rfl rfl rfl (fh rfl rfl rfl (ai (bE _ aa rfl) (ai (bo _ _ rfl rfl rfl) (aj (aT rfl (fun hc62=> ?_) (fun hc62=> ?_))))))))
 ·skip
  refine bv (hK8 _ ?_)
  clear hK8;try clear K8
  refine ap (au (am (bA rfl rfl rfl (fh rfl rfl rfl (aQ rfl (ai (bf _ _ aa rfl rfl _ rfl ab (by (simp only [ba,bn,bl,bC,bz,bJ,bB];omega)) ag) ?_))))))
  refine ai (cd _ aa rfl (by exact cH _ _ ab) rfl) ?_
  refine ai (aL aa al (h j ab) rfl rfl) ?_
  refine aZ rfl (aj (am (aQ rfl (ai (ca (r:=false) _ _ rfl rfl rfl) (aj (aP rfl rfl (bZ (an (aQ rfl (ai (bc _ _ rfl rfl (bq ab)) ?_))))))))))
  refine aZ rfl (az (⟨j+1,?_,?_,?_⟩))
  ·omega
  ·skip
   refine Le.mkJ [] [] rfl ?_ ?_ trivial trivial ?_
   ·exact ⟨(iP rfl),(ck ag),trivial⟩
   ·exact ⟨(cF rfl rfl rfl),trivial⟩
   ·kernel_rfl
  ·omega
 ·skip
  refine bK (id (hK6 _ ?_))
  clear hK6;try clear K6
  refine am (ct rfl (aj (aC (aY (.inr rfl) rfl (.tmp (rfl:_=AV.v (.bool _))) (Le.out [] [] (ic ?_) rfl rfl rfl trivial trivial)))))
  rfl

abbrev KQ (d:Nd):Prop:=Spec Tryz.prog 166 (bj [mI d] []) (aX (.v (.bool true)) [])
theorem hP {nm:List Tx} {e:Ex} (h:mQ e=true):sF (dR nm e) 1:=by
 have:=Nat.eq_of_beq_eq_true h
 have h2:=dU nm e
 rwa [this] at h2
theorem FR {P:Nd→Prop} {d:Nd} (h:P d): ∀ j,j < [d].length→P (jx [d] j):=fun j hj=> by
 have:j=0:=by simpa using hj
 subst this
 exact h
theorem Lw {P:Nd→Prop} {d e:Nd} (h:P d) (h':P e): ∀ j,j < [d,e].length→P (jx [d,e] j):=fun j hj=> by
 have hj:j < 2:=hj
 have:j=0∨j=1:=by omega
 rcases this with rfl | rfl
 ·exact h
 ·exact h'
theorem Kz {P:Nd→Prop} {d e f:Nd} (h:P d) (h':P e) (h2:P f): ∀ j,j < [d,e,f].length→P (jx [d,e,f] j):=fun j hj=> by
 have hj:j < 3:=hj
 have:j=0∨j=1∨j=2:=by omega
 rcases this with rfl | rfl | rfl
 ·exact h
 ·exact h'
 ·exact h2
theorem zo {P:Nd→Prop}: ∀ j,j < ([]:List Nd).length→P (jx [] j):=fun j hj=> by simp at hj
theorem KT {P:Nd→Prop} {d:Nd} {l:List Nd} (h:P d) (h': ∀ j,j < l.length→P (jx l j)): ∀ j,j < (d::l).length→P (jx (d::l) j):=fun j hj=> by
 cases j with
 | zero=> exact h
 | succ j=> exact h' j (by simpa using hj)
mutual
theorem zS (nm:List Tx): ∀ s:Sm,vA s=true→KQ (nG nm s)
 | .assign i e,h=> eT 1 ab 0 (nm.getD i []) [dR nm e] (FR (P:=fun d=> sF d 1) (hP h))
 | .send t k a b,h=> by
  simp only [vA,Bool.and_eq_true] at h
  exact eT 4 ab k [] [dR nm t,dR nm a,dR nm b] (Kz (P:=fun d=> sF d 1) (hP h.1.1) (hP h.1.2) (hP h.2))
 | .timer k,_=> eT 5 ab k [] [] (zo (P:=fun d=> sF d 1))
 | .cancel k,_=> eT 6 ab k [] [] (zo (P:=fun d=> sF d 1))
 | .sync,_=> eT 7 ab 0 [] [] (zo (P:=fun d=> sF d 1))
 | .stop,_=> eT 10 ab 0 [] [] (zo (P:=fun d=> sF d 1))
 | .reply a b,h=> by
  simp only [vA,Bool.and_eq_true] at h
  exact eT 8 ab 0 [] [dR nm a,dR nm b] (Lw (P:=fun d=> sF d 1) (hP h.1) (hP h.2))
 | .fail e,h=> eT 9 ab 0 [] [dR nm e] (FR (P:=fun d=> sF d 1) (hP h))
 | .loop c b,h=> by
  simp only [vA,Bool.and_eq_true] at h
  have h1:=dU nm c
  rw [Nat.eq_of_beq_eq_true h.1] at h1
  refine pS 3 (.inr rfl) 0 [] [dR nm c,nd 11 0 [] (fW nm b)] (by simp) h1 fun j h1 hj=> ?_
  have hj:j < 2:=hj
  obtain rfl:j=1:=by omega
  exact jh 0 [] (fW nm b) (lW nm b h.2)
 | .ite c a b,h=> by
  simp only [vA,Bool.and_eq_true] at h
  have h1:=dU nm c
  rw [Nat.eq_of_beq_eq_true h.1.1] at h1
  refine pS 2 (.inl rfl) 0 [] [dR nm c,nd 11 0 [] (fW nm a),nd 11 0 [] (fW nm b)] (by simp) h1 fun j h1 hj=> ?_
  have hj:j < 3:=hj
  have:j=1∨j=2:=by omega
  rcases this with rfl | rfl
  ·exact jh 0 [] (fW nm a) (lW nm a h.1.2)
  ·exact jh 0 [] (fW nm b) (lW nm b h.2)
theorem lW (nm:List Tx): ∀ b:Bk,oa b=true→ ∀ j,j < (fW nm b).length→KQ (jx (fW nm b) j)
 | .nil,_=> zo
 | .cons s b,h=> by
  simp only [oa,Bool.and_eq_true] at h
  exact KT (zS nm s h.1) (lW nm b h.2)
end
theorem Ao (nm:List Tx) (b:Bk) (h:oa b=true):KQ (jy nm b):=jh 0 [] (fW nm b) (lW nm b h)

def gL (s:Tx) (l:List Tx):List Tx:=if s∈l then l else l++[s]
section
variable (nm:List Tx)
def qy:Ex→List Tx→List Tx
 | .int _,l=> l | .bool _,l=> l | .name _,l=> l
 | .var i,l=> gL (nm.getD i []) l
 | .draw e,l=> qy e l | .neg e,l=> qy e l | .not e,l=> qy e l
 | .bin _ a b,l=> qy b (qy a l)
 | .and a b,l=> qy b (qy a l)
 | .or a b,l=> qy b (qy a l)
mutual
def LG:Sm→List Tx→List Tx
 | .assign i e,l=> qy nm e (gL (nm.getD i []) l)
 | .send t _ a b,l=> qy nm b (qy nm a (qy nm t l))
 | .timer _,l=> l | .cancel _,l=> l | .sync,l=> l | .stop,l=> l
 | .reply a b,l=> qy nm b (qy nm a l)
 | .fail e,l=> qy nm e l
 | .loop c b,l=> zy b (qy nm c l)
 | .ite c a b,l=> zy b (zy a (qy nm c l))
def zy:Bk→List Tx→List Tx
 | .nil,l=> l
 | .cons s b,l=> zy b (LG s l)
end
def GN (l:List Tx):Prop:=l.Nodup∧ ∀ x∈l,x∈nm
end
theorem GN.len {nm l:List Tx} (h:GN nm l):l.length≤nm.length:=h.1.length_le_of_subset fun x hx=> h.2 x hx
theorem GN.add {nm l:List Tx} (h:GN nm l) {i:Nat} (hi:i < nm.length):GN nm (gL (nm.getD i []) l):=by
 unfold gL
 split
 ·exact h
 ·rename_i hn
  refine ⟨List.nodup_append.2 ⟨h.1,by simp,fun a ha b hb e=> hn (by rw [List.mem_singleton.1 hb] at e;exact e ▸ ha)⟩,fun x hx=> ?_⟩
  rcases List.mem_append.1 hx with hx | hx
  ·exact h.2 x hx
  ·rw [List.mem_singleton.1 hx];exact iO hi
theorem GN.nil {nm:List Tx}:GN nm []:=⟨.nil,fun x hx=> by simp at hx⟩
theorem rI (n:Int) (s:Tx) (L:List Nd) (l:List Tx) (hs:s∉l) (hl:l.length≤1000) (F:Nat→List Tx) (hF:F 0=l++[s]) (h: ∀ j,j < L.length→Spec Tryz.prog 167 (bj [mI (jx L j), .sl (F j).length (dT (F j))] []) (aX (.sl (F (j+1)).length (dT (F (j+1)))) [])):
  Spec Tryz.prog 167 (bj [.agg [.v (.int .i64 1), .v (.int .i64 n), .v (bt s), .sl L.length (kB L)], .sl l.length (dT l)] []) (aX (.sl (F L.length).length (dT (F L.length))) []):=by
 refine Spec.ofN Tryz.func167 rfl Tryz.ntmps167 rfl ?_
 refine ap ?_
 refine jH 0 3 rfl rfl rfl fun hlen=> ?_
 unfold maxLen at hlen
 refine an (ai (bk (2,0) _ rfl rfl) (ai (bG _ (rfl:_=AV.v (.slice _ _ _))) (aj (ap (am (bA rfl rfl rfl (cC rfl rfl rfl (iY rfl rfl rfl (cJ rfl (aW rfl rfl ah ?_))))))))))
 refine aW rfl rfl ah ?_
 refine aW rfl rfl ah ?_
 refine ai (aD _ _ _ rfl (rfl:_=AV.v (.bool _))) (cJ rfl (ax rfl rfl (aE _ (rfl:_=AV.sl _ _)) (ax rfl rfl (aH _ aa rfl rfl rfl) (ax rfl rfl (aK _ aa rfl rfl (rfl:_=some (AV.v (.string _)))) (ax rfl rfl (aL aa al (fG l _ rfl ab s) rfl rfl) ?_)))))
 refine ax rfl rfl (dc _ rfl rfl) (ai (aD _ _ _ rfl (rfl:_=AV.v (.bool _))) (aj (bD rfl (by rw [decide_eq_false hs];rfl) ?_)))
 refine ap ?_
 refine aN (σ':=aB 45 [(1,_),(2,_)] [((2,0),_)] [] []) kp ?_
 refine an (ai (bG _ (rfl:_=AV.v (.slice _ _ _))) (aj (am (ai (aE _ (rfl:_=AV.v (.slice _ _ _))) (eV rfl (ai (sL (24,0) _ _ aa rfl (.sl (by simp)) ab rfl) ?_))))))
 refine fa rfl (aj (an (gG rfl (bA rfl rfl rfl (ai (aK _ aa rfl rfl (rfl:_=some (AV.v (.string _)))) (ai (aV _ _ aa rfl ag (by (simp <;> rfl)) ah rfl) ?_))))))
 refine ai (dl (29,0) _ _ aa rfl rfl (by simp) (.sl rfl) ab rfl (ls _ _) (show l.length+1=(l++[s]).length by simp)) ?_
 refine fa rfl (aj (aF fun K6 hK6=> ?_))
 refine am (aZ rfl (aj (au ?_)))
 refine aN (Le.frzS 1 (ys:=dT (l++[s])) rfl rfl rfl (by rw [List.drop_zero,Nat.mul_one];exact List.take_of_length_le (by simp)) (by simp)) ?_
 refine bw (α:=Nat) (fun j=> j≤L.length) 45 [(2,_)] [((2,0),_)] (fun j=> [(6, .v (.int .i64 (j:Int))),(1, .sl (F j).length (dT (F j)))]) (fun j=> []) [] [] (fun j=> L.length - j) 0 ?_ (by
  refine Le.mkJ [] [] rfl ?_ ?_ trivial trivial ?_
  ·exact ⟨(iP rfl),(ck ag),(ix (by rw [hF]) (by rw [hF])),trivial⟩
  ·exact ⟨(cF rfl rfl rfl),trivial⟩
  ·kernel_rfl) ?_
 ·omega
 intro j hj
 refine aF fun K8 hK8=> ?_
 refine am (aQ rfl (bA rfl rfl rfl (fh rfl rfl rfl (ai (bE _ aa rfl) (ai (bo _ _ rfl rfl rfl) (aj (aT rfl (fun hc34=> ?_) (fun hc34=> ?_))))))))
 ·skip
  refine bv (hK8 _ ?_)
  clear hK8;try clear K8
  refine ap (au (an (bA rfl rfl rfl (fh rfl rfl rfl (aQ rfl (ai (bf _ _ aa rfl rfl _ rfl ab (by (simp only [ba,bn,bl,bC,bz,bJ,bB];omega)) ag) ?_))))))
  refine ai (cd _ aa rfl (by exact cH _ _ ab) rfl) ?_
  refine eV rfl (ai (aL aa al (h j ab) rfl rfl) ?_)
  refine kJ rfl (fY (an (aQ rfl (ai (bc _ _ rfl rfl (bq ab)) ?_))))
  refine aZ rfl (az (⟨j+1,?_,?_,?_⟩))
  ·omega
  ·skip
   refine Le.mkJ [] [] rfl ?_ ?_ trivial trivial ?_
   ·exact ⟨(iP rfl),(ck ag),(ix ag ag),trivial⟩
   ·exact ⟨(cF rfl rfl rfl),trivial⟩
   ·kernel_rfl
  ·omega
 ·skip
  obtain rfl:j=L.length:=by omega
  refine bK (id (hK6 _ ?_))
  clear hK6;try clear K6
  exact am (eV rfl (kJ rfl (aj (aC (aY (.inr rfl) rfl (.tmp (rfl:_=AV.sl _ _)) (Le.out [] [] .sl rfl rfl rfl trivial trivial))))))
theorem rN (n:Int) (s:Tx) (L:List Nd) (l:List Tx) (hs:s∈l) (hl:l.length≤1000) (F:Nat→List Tx) (hF:F 0=l) (h: ∀ j,j < L.length→Spec Tryz.prog 167 (bj [mI (jx L j), .sl (F j).length (dT (F j))] []) (aX (.sl (F (j+1)).length (dT (F (j+1)))) [])):
  Spec Tryz.prog 167 (bj [.agg [.v (.int .i64 1), .v (.int .i64 n), .v (bt s), .sl L.length (kB L)], .sl l.length (dT l)] []) (aX (.sl (F L.length).length (dT (F L.length))) []):=by
 refine Spec.ofN Tryz.func167 rfl Tryz.ntmps167 rfl ?_
 refine ap ?_
 refine jH 0 3 rfl rfl rfl fun hlen=> ?_
 unfold maxLen at hlen
 refine an (ai (bk (2,0) _ rfl rfl) (ai (bG _ (rfl:_=AV.v (.slice _ _ _))) (aj (ap (am (bA rfl rfl rfl (cC rfl rfl rfl (iY rfl rfl rfl (cJ rfl (aW rfl rfl ah ?_))))))))))
 refine aW rfl rfl ah ?_
 refine aW rfl rfl ah ?_
 refine ai (aD _ _ _ rfl (rfl:_=AV.v (.bool _))) (cJ rfl (ax rfl rfl (aE _ (rfl:_=AV.sl _ _)) (ax rfl rfl (aH _ aa rfl rfl rfl) (ax rfl rfl (aK _ aa rfl rfl (rfl:_=some (AV.v (.string _)))) (ax rfl rfl (aL aa al (fG l _ rfl ab s) rfl rfl) ?_)))))
 refine ax rfl rfl (dc _ rfl rfl) (ai (aD _ _ _ rfl (rfl:_=AV.v (.bool _))) (aj (aP rfl (by rw [decide_eq_true hs];rfl) ?_)))
 refine aJ (aF fun K4 hK4=> ?_)
 refine ap ?_
 refine aN (σ':=aB 45 [(1,_),(2,_)] [((2,0),_)] [] []) kp ?_
 refine an (aZ rfl (aj (au ?_)))
 refine bw (α:=Nat) (fun j=> j≤L.length) 45 [(2,_)] [((2,0),_)] (fun j=> [(6, .v (.int .i64 (j:Int))),(1, .sl (F j).length (dT (F j)))]) (fun j=> []) [] [] (fun j=> L.length - j) 0 ?_ (by
  refine Le.mkJ [] [] rfl ?_ ?_ trivial trivial ?_
  ·exact ⟨(iP rfl),(ck ag),(ix (by rw [hF]) (by rw [hF])),trivial⟩
  ·exact ⟨(cF rfl rfl rfl),trivial⟩
  ·kernel_rfl) ?_
 ·omega
 intro j hj
 refine aF fun K6 hK6=> ?_
 refine am (aQ rfl (bA rfl rfl rfl (fh rfl rfl rfl (ai (bE _ aa rfl) (ai (bo _ _ rfl rfl rfl) (aj (aT rfl (fun hc34=> ?_) (fun hc34=> ?_))))))))
 ·skip
  refine bv (hK6 _ ?_)
  clear hK6;try clear K6
  refine ap (au (an (bA rfl rfl rfl (fh rfl rfl rfl (aQ rfl (ai (bf _ _ aa rfl rfl _ rfl ab (by (simp only [ba,bn,bl,bC,bz,bJ,bB];omega)) ag) ?_))))))
  refine ai (cd _ aa rfl (by exact cH _ _ ab) rfl) ?_
  refine eV rfl (ai (aL aa al (h j ab) rfl rfl) ?_)
  refine kJ rfl (fY (an (aQ rfl (ai (bc _ _ rfl rfl (bq ab)) ?_))))
  refine aZ rfl (az (⟨j+1,?_,?_,?_⟩))
  ·omega
  ·skip
   refine Le.mkJ [] [] rfl ?_ ?_ trivial trivial ?_
   ·exact ⟨(iP rfl),(ck ag),(ix ag ag),trivial⟩
   ·exact ⟨(cF rfl rfl rfl),trivial⟩
   ·kernel_rfl
  ·omega
 ·skip
  obtain rfl:j=L.length:=by omega
  refine bK (id (hK4 _ ?_))
  clear hK4;try clear K4
  exact am (eV rfl (kJ rfl (aj (aC (aY (.inr rfl) rfl (.tmp (rfl:_=AV.sl _ _)) (Le.out [] [] .sl rfl rfl rfl trivial trivial))))))
theorem qq (n:Int) (s:Tx) (L:List Nd) (l:List Tx) (hs:s∉l) (hl:l.length≤1000) (F:Nat→List Tx) (hF:F 0=l++[s]) (h: ∀ j,j < L.length→Spec Tryz.prog 167 (bj [mI (jx L j), .sl (F j).length (dT (F j))] []) (aX (.sl (F (j+1)).length (dT (F (j+1)))) [])):
  Spec Tryz.prog 167 (bj [.agg [.v (.int .i64 14), .v (.int .i64 n), .v (bt s), .sl L.length (kB L)], .sl l.length (dT l)] []) (aX (.sl (F L.length).length (dT (F L.length))) []):=by
 refine Spec.ofN Tryz.func167 rfl Tryz.ntmps167 rfl ?_
 refine ap ?_
 refine jH 0 3 rfl rfl rfl fun hlen=> ?_
 unfold maxLen at hlen
 refine an (ai (bk (2,0) _ rfl rfl) (ai (bG _ (rfl:_=AV.v (.slice _ _ _))) (aj (ap (am (bA rfl rfl rfl (cC rfl rfl rfl (eG rfl rfl rfl (cJ rfl (ax rfl rfl (aH _ aa rfl rfl rfl) ?_))))))))))
 refine ax rfl rfl (aK _ aa rfl rfl (rfl:_=some (AV.v (.int _ _)))) (ax rfl rfl (bP (r:=true) _ _ rfl rfl rfl) (ai (aD _ _ _ rfl (rfl:_=AV.v (.bool _))) (cJ rfl (ax rfl rfl (aE _ (rfl:_=AV.sl _ _)) (ax rfl rfl (aH _ aa rfl rfl rfl) (ax rfl rfl (aK _ aa rfl rfl (rfl:_=some (AV.v (.string _)))) (ax rfl rfl (aL aa al (fG l _ rfl ab s) rfl rfl) ?_)))))))
 refine ax rfl rfl (dc _ rfl rfl) (ai (aD _ _ _ rfl (rfl:_=AV.v (.bool _))) (aj (bD rfl (by rw [decide_eq_false hs];rfl) ?_)))
 refine ap ?_
 refine aN (σ':=aB 45 [(1,_),(2,_)] [((2,0),_)] [] []) kp ?_
 refine an (ai (bG _ (rfl:_=AV.v (.slice _ _ _))) (aj (am (ai (aE _ (rfl:_=AV.v (.slice _ _ _))) (eV rfl (ai (sL (24,0) _ _ aa rfl (.sl (by simp)) ab rfl) ?_))))))
 refine fa rfl (aj (an (gG rfl (bA rfl rfl rfl (ai (aK _ aa rfl rfl (rfl:_=some (AV.v (.string _)))) (ai (aV _ _ aa rfl ag (by (simp <;> rfl)) ah rfl) ?_))))))
 refine ai (dl (29,0) _ _ aa rfl rfl (by simp) (.sl rfl) ab rfl (ls _ _) (show l.length+1=(l++[s]).length by simp)) ?_
 refine fa rfl (aj (aF fun K6 hK6=> ?_))
 refine am (aZ rfl (aj (au ?_)))
 refine aN (Le.frzS 1 (ys:=dT (l++[s])) rfl rfl rfl (by rw [List.drop_zero,Nat.mul_one];exact List.take_of_length_le (by simp)) (by simp)) ?_
 refine bw (α:=Nat) (fun j=> j≤L.length) 45 [(2,_)] [((2,0),_)] (fun j=> [(6, .v (.int .i64 (j:Int))),(1, .sl (F j).length (dT (F j)))]) (fun j=> []) [] [] (fun j=> L.length - j) 0 ?_ (by
  refine Le.mkJ [] [] rfl ?_ ?_ trivial trivial ?_
  ·exact ⟨(iP rfl),(ck ag),(ix (by rw [hF]) (by rw [hF])),trivial⟩
  ·exact ⟨(cF rfl rfl rfl),trivial⟩
  ·kernel_rfl) ?_
 ·omega
 intro j hj
 refine aF fun K8 hK8=> ?_
 refine am (aQ rfl (bA rfl rfl rfl (fh rfl rfl rfl (ai (bE _ aa rfl) (ai (bo _ _ rfl rfl rfl) (aj (aT rfl (fun hc34=> ?_) (fun hc34=> ?_))))))))
 ·skip
  refine bv (hK8 _ ?_)
  clear hK8;try clear K8
  refine ap (au (an (bA rfl rfl rfl (fh rfl rfl rfl (aQ rfl (ai (bf _ _ aa rfl rfl _ rfl ab (by (simp only [ba,bn,bl,bC,bz,bJ,bB];omega)) ag) ?_))))))
  refine ai (cd _ aa rfl (by exact cH _ _ ab) rfl) ?_
  refine eV rfl (ai (aL aa al (h j ab) rfl rfl) ?_)
  refine kJ rfl (fY (an (aQ rfl (ai (bc _ _ rfl rfl (bq ab)) ?_))))
  refine aZ rfl (az (⟨j+1,?_,?_,?_⟩))
  ·omega
  ·skip
   refine Le.mkJ [] [] rfl ?_ ?_ trivial trivial ?_
   ·exact ⟨(iP rfl),(ck ag),(ix ag ag),trivial⟩
   ·exact ⟨(cF rfl rfl rfl),trivial⟩
   ·kernel_rfl
  ·omega
 ·skip
  obtain rfl:j=L.length:=by omega
  refine bK (id (hK6 _ ?_))
  clear hK6;try clear K6
  exact am (eV rfl (kJ rfl (aj (aC (aY (.inr rfl) rfl (.tmp (rfl:_=AV.sl _ _)) (Le.out [] [] .sl rfl rfl rfl trivial trivial))))))
theorem qx (n:Int) (s:Tx) (L:List Nd) (l:List Tx) (hs:s∈l) (hl:l.length≤1000) (F:Nat→List Tx) (hF:F 0=l) (h: ∀ j,j < L.length→Spec Tryz.prog 167 (bj [mI (jx L j), .sl (F j).length (dT (F j))] []) (aX (.sl (F (j+1)).length (dT (F (j+1)))) [])):
  Spec Tryz.prog 167 (bj [.agg [.v (.int .i64 14), .v (.int .i64 n), .v (bt s), .sl L.length (kB L)], .sl l.length (dT l)] []) (aX (.sl (F L.length).length (dT (F L.length))) []):=by
 refine Spec.ofN Tryz.func167 rfl Tryz.ntmps167 rfl ?_
 refine ap ?_
 refine jH 0 3 rfl rfl rfl fun hlen=> ?_
 unfold maxLen at hlen
 refine an (ai (bk (2,0) _ rfl rfl) (ai (bG _ (rfl:_=AV.v (.slice _ _ _))) (aj (ap (am (bA rfl rfl rfl (cC rfl rfl rfl (eG rfl rfl rfl (cJ rfl (ax rfl rfl (aH _ aa rfl rfl rfl) ?_))))))))))
 refine ax rfl rfl (aK _ aa rfl rfl (rfl:_=some (AV.v (.int _ _)))) (ax rfl rfl (bP (r:=true) _ _ rfl rfl rfl) (ai (aD _ _ _ rfl (rfl:_=AV.v (.bool _))) (cJ rfl (ax rfl rfl (aE _ (rfl:_=AV.sl _ _)) (ax rfl rfl (aH _ aa rfl rfl rfl) (ax rfl rfl (aK _ aa rfl rfl (rfl:_=some (AV.v (.string _)))) (ax rfl rfl (aL aa al (fG l _ rfl ab s) rfl rfl) ?_)))))))
 refine ax rfl rfl (dc _ rfl rfl) (ai (aD _ _ _ rfl (rfl:_=AV.v (.bool _))) (aj (aP rfl (by rw [decide_eq_true hs];rfl) ?_)))
 refine aJ (aF fun K4 hK4=> ?_)
 refine ap ?_
 refine aN (σ':=aB 45 [(1,_),(2,_)] [((2,0),_)] [] []) kp ?_
 refine an (aZ rfl (aj (au ?_)))
 refine bw (α:=Nat) (fun j=> j≤L.length) 45 [(2,_)] [((2,0),_)] (fun j=> [(6, .v (.int .i64 (j:Int))),(1, .sl (F j).length (dT (F j)))]) (fun j=> []) [] [] (fun j=> L.length - j) 0 ?_ (by
  refine Le.mkJ [] [] rfl ?_ ?_ trivial trivial ?_
  ·exact ⟨(iP rfl),(ck ag),(ix (by rw [hF]) (by rw [hF])),trivial⟩
  ·exact ⟨(cF rfl rfl rfl),trivial⟩
  ·kernel_rfl) ?_
 ·omega
 intro j hj
 refine aF fun K6 hK6=> ?_
 refine am (aQ rfl (bA rfl rfl rfl (fh rfl rfl rfl (ai (bE _ aa rfl) (ai (bo _ _ rfl rfl rfl) (aj (aT rfl (fun hc34=> ?_) (fun hc34=> ?_))))))))
 ·skip
  refine bv (hK6 _ ?_)
  clear hK6;try clear K6
  refine ap (au (an (bA rfl rfl rfl (fh rfl rfl rfl (aQ rfl (ai (bf _ _ aa rfl rfl _ rfl ab (by (simp only [ba,bn,bl,bC,bz,bJ,bB];omega)) ag) ?_))))))
  refine ai (cd _ aa rfl (by exact cH _ _ ab) rfl) ?_
  refine eV rfl (ai (aL aa al (h j ab) rfl rfl) ?_)
  refine kJ rfl (fY (an (aQ rfl (ai (bc _ _ rfl rfl (bq ab)) ?_))))
  refine aZ rfl (az (⟨j+1,?_,?_,?_⟩))
  ·omega
  ·skip
   refine Le.mkJ [] [] rfl ?_ ?_ trivial trivial ?_
   ·exact ⟨(iP rfl),(ck ag),(ix ag ag),trivial⟩
   ·exact ⟨(cF rfl rfl rfl),trivial⟩
   ·kernel_rfl
  ·omega
 ·skip
  obtain rfl:j=L.length:=by omega
  refine bK (id (hK4 _ ?_))
  clear hK4;try clear K4
  exact am (eV rfl (kJ rfl (aj (aC (aY (.inr rfl) rfl (.tmp (rfl:_=AV.sl _ _)) (Le.out [] [] .sl rfl rfl rfl trivial trivial))))))
theorem rF (k:Nat) (hk:k≠1∧k≠14) (n:Int) (s:Tx) (L:List Nd) (l:List Tx) (hl:l.length≤1000) (F:Nat→List Tx) (hF:F 0=l) (h: ∀ j,j < L.length→Spec Tryz.prog 167 (bj [mI (jx L j), .sl (F j).length (dT (F j))] []) (aX (.sl (F (j+1)).length (dT (F (j+1)))) [])):
  Spec Tryz.prog 167 (bj [.agg [.v (.int .i64 (k:Int)), .v (.int .i64 n), .v (bt s), .sl L.length (kB L)], .sl l.length (dT l)] []) (aX (.sl (F L.length).length (dT (F L.length))) []):=by
 refine Spec.ofN Tryz.func167 rfl Tryz.ntmps167 rfl ?_
 refine ap ?_
 refine jH 0 3 rfl rfl rfl fun hlen=> ?_
 unfold maxLen at hlen
 refine an (ai (bk (2,0) _ rfl rfl) (ai (bG _ (rfl:_=AV.v (.slice _ _ _))) (aj (ap (am (bA rfl rfl rfl (cC rfl rfl rfl (eG rfl rfl (beq_eq_false_iff_ne.2 ab) ?_))))))))
 refine cJ rfl (ax rfl rfl (aH _ aa rfl rfl rfl) (ax rfl rfl (aK _ aa rfl rfl (rfl:_=some (AV.v (.int _ _)))) (ax rfl rfl (bP (r:=false) _ _ rfl rfl (beq_eq_false_iff_ne.2 ab)) ?_)))
 refine ai (aD _ _ _ rfl (rfl:_=AV.v (.bool _))) (cJ rfl (aW rfl rfl ah ?_))
 refine aW rfl rfl ah ?_
 refine aW rfl rfl ah ?_
 refine aW rfl rfl ah ?_
 refine aW rfl rfl ah ?_
 refine ai (aD _ _ _ rfl (rfl:_=AV.v (.bool _))) (aj (aP rfl rfl (aJ (aF fun K4 hK4=> ?_))))
 refine ap ?_
 refine aN (σ':=aB 45 [(1,_),(2,_)] [((2,0),_)] [] []) kp ?_
 refine an (aZ rfl (aj (au ?_)))
 refine bw (α:=Nat) (fun j=> j≤L.length) 45 [(2,_)] [((2,0),_)] (fun j=> [(6, .v (.int .i64 (j:Int))),(1, .sl (F j).length (dT (F j)))]) (fun j=> []) [] [] (fun j=> L.length - j) 0 ?_ (by
  refine Le.mkJ [] [] rfl ?_ ?_ trivial trivial ?_
  ·exact ⟨(iP rfl),(ck ag),(ix (by rw [hF]) (by rw [hF])),trivial⟩
  ·exact ⟨(cF rfl rfl rfl),trivial⟩
  ·kernel_rfl) ?_
 ·omega
 intro j hj
 refine aF fun K6 hK6=> ?_
 refine am (aQ rfl (bA rfl rfl rfl (fh rfl rfl rfl (ai (bE _ aa rfl) (ai (bo _ _ rfl rfl rfl) (aj (aT rfl (fun hc34=> ?_) (fun hc34=> ?_))))))))
 ·skip
  refine bv (hK6 _ ?_)
  clear hK6;try clear K6
  refine ap (au (an (bA rfl rfl rfl (fh rfl rfl rfl (aQ rfl (ai (bf _ _ aa rfl rfl _ rfl ab (by (simp only [ba,bn,bl,bC,bz,bJ,bB];omega)) ag) ?_))))))
  refine ai (cd _ aa rfl (by exact cH _ _ ab) rfl) ?_
  refine eV rfl (ai (aL aa al (h j ab) rfl rfl) ?_)
  refine kJ rfl (fY (an (aQ rfl (ai (bc _ _ rfl rfl (bq ab)) ?_))))
  refine aZ rfl (az (⟨j+1,?_,?_,?_⟩))
  ·omega
  ·skip
   refine Le.mkJ [] [] rfl ?_ ?_ trivial trivial ?_
   ·exact ⟨(iP rfl),(ck ag),(ix ag ag),trivial⟩
   ·exact ⟨(cF rfl rfl rfl),trivial⟩
   ·kernel_rfl
  ·omega
 ·skip
  obtain rfl:j=L.length:=by omega
  refine bK (id (hK4 _ ?_))
  clear hK4;try clear K4
  exact am (eV rfl (kJ rfl (aj (aC (aY (.inr rfl) rfl (.tmp (rfl:_=AV.sl _ _)) (Le.out [] [] .sl rfl rfl rfl trivial trivial))))))
def fb (fs:List (List Tx→List Tx)) (l:List Tx):List Tx:=fs.foldl (fun l f=> f l) l
theorem jg {fs:List (List Tx→List Tx)} {l:List Tx} {j:Nat} (h:j < fs.length):fb (fs.take (j+1)) l=fs.getD j id (fb (fs.take j) l):=by
 rw [List.take_succ_eq_append_getElem h]
 unfold fb
 rw [List.foldl_append,List.getD_eq_getElem?_getD,List.getElem?_eq_getElem h];rfl
abbrev uU (nm:List Tx) (d:Nd) (f:List Tx→List Tx):Prop:= ∀ l,GN nm l→Spec Tryz.prog 167 (bj [mI d, .sl l.length (dT l)] []) (aX (.sl (f l).length (dT (f l))) [])∧GN nm (f l)
section
variable {nm:List Tx} (hnm:nm.length≤16) {L:List Nd} {fs:List (List Tx→List Tx)} (hfs:fs.length=L.length) (h: ∀ j,j < L.length→uU nm (jx L j) (fs.getD j id))
theorem nz (hfs:fs.length=L.length) (h: ∀ j,j < L.length→uU nm (jx L j) (fs.getD j id)) {l:List Tx} (hl:GN nm l): ∀ j,j≤L.length→GN nm (fb (fs.take j) l)
 | 0,_=> by simpa [fb] using hl
 | j+1,hj=> by
  rw [jg ab]
  exact (h j ab _ (nz hfs h hl j ab)).2
theorem cA (hnm:nm.length≤16) (hfs:fs.length=L.length) (h: ∀ j,j < L.length→uU nm (jx L j) (fs.getD j id)) (k:Nat) (hk:k≠1∧k≠14) (n:Nat) (s:Tx):uU nm (nd k n s L) (fb fs):=fun l hl=> by
 have hg:=nz hfs h hl
 have he:fb (fs.take L.length) l=fb fs l:=by rw [← hfs,List.take_length]
 have hw:=rF k hk n s L l (by have:=hl.len;omega) (fun j=> fb (fs.take j) l) rfl fun j hj=> by
  rw [show fb (fs.take (j+1)) l=_ from jg ab]
  exact (h j hj _ (hg j ab)).1
 rw [he] at hw
 exact ⟨hw,he ▸ hg _ (Nat.le_refl _)⟩
theorem uR (hnm:nm.length≤16) (hfs:fs.length=L.length) (h: ∀ j,j < L.length→uU nm (jx L j) (fs.getD j id)) (n:Nat) {i:Nat} (hi:i < nm.length):uU nm (nd 1 n (nm.getD i []) L) (fun l=> fb fs (gL (nm.getD i []) l)):=fun l hl=> by
 have hg:=nz hfs h (hl.add hi)
 have he:fb (fs.take L.length) (gL (nm.getD i []) l)=fb fs (gL (nm.getD i []) l):=by rw [← hfs,List.take_length]
 have hkid: ∀ j,j < L.length→_:=fun j hj=> (h j hj _ (hg j ab)).1
 have hll:=hl.len
 show Spec _ _ _ (aX (.sl (fb fs (gL (nm.getD i []) l)).length (dT (fb fs (gL (nm.getD i []) l)))) [])∧GN nm (fb fs (gL (nm.getD i []) l))
 rw [← he]
 refine ⟨?_,hg _ (Nat.le_refl _)⟩
 by_cases hs:nm.getD i []∈l
 ·exact rN n _ L l hs ab (fun j=> fb (fs.take j) (gL (nm.getD i []) l)) (by show gL _ l=l;unfold gL;rw [if_pos hs]) fun j hj=> by
   rw [show fb (fs.take (j+1)) (gL (nm.getD i []) l)=_ from jg ab]
   exact hkid j hj
 ·exact rI n _ L l hs ab (fun j=> fb (fs.take j) (gL (nm.getD i []) l)) (by show gL _ l=_;unfold gL;rw [if_neg hs]) fun j hj=> by
   rw [show fb (fs.take (j+1)) (gL (nm.getD i []) l)=_ from jg ab]
   exact hkid j hj
end
theorem uO {nm:List Tx} (hnm:nm.length≤16) {i:Nat} (hi:i < nm.length):uU nm (nd 14 0 (nm.getD i []) []) (gL (nm.getD i [])):=fun l hl=> by
 have hll:=hl.len
 refine ⟨?_,hl.add hi⟩
 by_cases hs:nm.getD i []∈l
 ·exact qx 0 _ [] l hs ab (fun _=> gL (nm.getD i []) l) (by show gL _ l=l;unfold gL;rw [if_pos hs]) fun j hj=> by simp at hj
 ·exact qq 0 _ [] l hs ab (fun _=> gL (nm.getD i []) l) (by show gL _ l=_;unfold gL;rw [if_neg hs]) fun j hj=> by simp at hj
section
variable {nm:List Tx}
abbrev yJ (nm:List Tx) (L:List Nd) (fs:List (List Tx→List Tx)):Prop:= ∀ j,j < L.length→uU nm (jx L j) (fs.getD j id)
theorem pU:yJ nm [] []:=fun j hj=> by simp at hj
theorem oL {d:Nd} {f:List Tx→List Tx} {L:List Nd} {fs:List (List Tx→List Tx)} (h:uU nm d f) (h':yJ nm L fs):yJ nm (d::L) (f::fs):=fun j hj=> by
 cases j with
 | zero=> exact h
 | succ j=> exact h' j (by simpa using hj)
theorem dk (hnm:nm.length≤16): ∀ e:Ex,fq nm.length e→uU nm (dR nm e) (qy nm e)
 | .int _,_=> cA hnm rfl pU 12 ab _ _
 | .bool _,_=> cA hnm rfl pU 13 ab _ _
 | .name _,_=> cA hnm rfl pU 15 ab _ _
 | .var i,h=> uO hnm h
 | .draw e,h=> cA hnm rfl (oL (dk hnm e h) pU) 16 ab _ _
 | .neg e,h=> cA hnm rfl (oL (dk hnm e h) pU) 17 ab _ _
 | .not e,h=> cA hnm rfl (oL (dk hnm e h) pU) 17 ab _ _
 | .bin _ a b,h=> cA hnm rfl (oL (dk hnm a h.1) (oL (dk hnm b h.2) pU)) 18 ab _ _
 | .and a b,h=> cA hnm rfl (oL (dk hnm a h.1) (oL (dk hnm b h.2) pU)) 18 ab _ _
 | .or a b,h=> cA hnm rfl (oL (dk hnm a h.1) (oL (dk hnm b h.2) pU)) 18 ab _ _
def Cz (nm:List Tx):Bk→List (List Tx→List Tx)
 | .nil=> []
 | .cons s b=> LG nm s::Cz nm b
theorem ux (nm:List Tx): ∀ b:Bk,(Cz nm b).length=(fW nm b).length
 | .nil=> by simp [Cz,fW]
 | .cons s b=> by simp [Cz,fW,ux nm b]
theorem sg (nm:List Tx): ∀ (b:Bk) (l:List Tx),fb (Cz nm b) l=zy nm b l
 | .nil,l=> rfl
 | .cons s b,l=> by rw [zy,← sg nm b];rfl
theorem kk (hnm:nm.length≤16) {b:Bk} (h:yJ nm (fW nm b) (Cz nm b)):uU nm (jy nm b) (zy nm b):=by
 have:=cA hnm (ux nm b) h 11 ab 0 []
 rwa [show fb (Cz nm b)=zy nm b from funext (sg nm b)] at this
mutual
theorem xg (hnm:nm.length≤16): ∀ s:Sm,eW nm.length s→uU nm (nG nm s) (LG nm s)
 | .assign i e,h=> by rw [eW] at h;exact uR hnm rfl (oL (dk hnm e h.2) pU) 0 h.1
 | .send t k a b,h=> by rw [eW] at h;exact cA hnm rfl (oL (dk hnm t h.2.1) (oL (dk hnm a h.2.2.1) (oL (dk hnm b h.2.2.2) pU))) 4 ab _ _
 | .timer _,_=> cA hnm rfl pU 5 ab _ _
 | .cancel _,_=> cA hnm rfl pU 6 ab _ _
 | .sync,_=> cA hnm rfl pU 7 ab _ _
 | .stop,_=> cA hnm rfl pU 10 ab _ _
 | .reply a b,h=> by rw [eW] at h;exact cA hnm rfl (oL (dk hnm a h.1) (oL (dk hnm b h.2) pU)) 8 ab _ _
 | .fail e,h=> by rw [eW] at h;exact cA hnm rfl (oL (dk hnm e h) pU) 9 ab _ _
 | .loop c b,h=> by rw [eW] at h;exact cA hnm rfl (oL (dk hnm c h.1) (oL (kk hnm (jA hnm b h.2)) pU)) 3 ab _ _
 | .ite c a b,h=> by rw [eW] at h;exact cA hnm rfl (oL (dk hnm c h.1) (oL (kk hnm (jA hnm a h.2.1)) (oL (kk hnm (jA hnm b h.2.2)) pU))) 2 ab _ _
theorem jA (hnm:nm.length≤16): ∀ b:Bk,ie nm.length b→yJ nm (fW nm b) (Cz nm b)
 | .nil,_=> pU
 | .cons s b,h=> by rw [ie] at h;exact oL (xg hnm s h.1) (jA hnm b h.2)
end
theorem ym (hnm:nm.length≤16) (b:Bk) (h:ie nm.length b):uU nm (jy nm b) (zy nm b):=kk hnm (jA hnm b h)
end

theorem la {l:List Tx} (h:l.Nodup) {i j:Nat} (hi:i < l.length) (hj:j < l.length) (e:l.getD i []=l.getD j []):i=j:=by
 rw [List.getD_eq_getElem?_getD,List.getD_eq_getElem?_getD,List.getElem?_eq_getElem hi,List.getElem?_eq_getElem hj] at e
 have h:=List.pairwise_iff_getElem.1 h
 rcases Nat.lt_trichotomy i j with hlt | rfl | hlt
 ·exact absurd (Option.some.inj (by simpa using e)) (h i j hi hj hlt)
 ·rfl
 ·exact absurd (Option.some.inj (by simpa using e)).symm (h j i hj hi hlt)
theorem pv {a b:List Tx} {k:Nat} (h:k < a.length):a.getD k []=(a++b).getD k []:=by
 rw [List.getD_eq_getElem?_getD,List.getD_eq_getElem?_getD,List.getElem?_append_left h]
theorem getD_right {a b:List Tx} {k:Nat}:b.getD k []=(a++b).getD (a.length+k) []:=by
 rw [List.getD_eq_getElem?_getD,List.getD_eq_getElem?_getD,List.getElem?_append_right ab,Nat.add_sub_cancel_left]
theorem kV (d v:List Tx) (on:List PV) (no:Nat) (hn:(d++v).Nodup) (hl:(d++v).length≤1000) (i:Nat) (hi:i < (d++v).length):
  Spec Tryz.prog 121 (bj [.agg [.sl d.length (dT d), .sl v.length (dT v), .sl no on], .v (bt ((d++v).getD i []))] []) (aX (.v (.int .i64 (i:Int))) []):=by
 have hl2:(d++v).length=d.length+v.length:=List.length_append
 refine Spec.ofN Tryz.func121 rfl Tryz.ntmps121 rfl ?_
 refine am (ai (bk (2,0) _ rfl rfl) (aZ rfl (aj (aF fun K2 hK2=> ?_))))
 refine am (aZ rfl (aj (au ?_)))
 refine bw (α:=Nat) (fun k=> k≤d.length∧k≤i) 41 [(1,_),(2,_)] [((2,0),_)] (fun k=> [(5, .v (.int .i64 (k:Int)))]) (fun k=> []) [] [] (fun k=> d.length - k) 0 ?_ (by
  refine Le.mkJ [] [] rfl ?_ ?_ trivial trivial ?_
  ·exact ⟨(iV rfl),(iP rfl),(ck ag),trivial⟩
  ·exact ⟨(cF rfl rfl rfl),trivial⟩
  ·kernel_rfl) ?_
 ·exact ⟨Nat.zero_le _,Nat.zero_le _⟩
 intro k hk
 obtain ⟨hk,hki⟩:=hk
 refine aF fun K4 hK4=> ?_
 refine am (aQ rfl (bA rfl rfl rfl (fh rfl rfl rfl (ai (bE _ aa rfl) (ai (bo _ _ rfl rfl rfl) (aj (aT rfl (fun hc11=> ?_) (fun hc11=> ?_))))))))
 ·skip
  refine bv (hK4 _ ?_)
  clear hK4;try clear K4
  refine ap (au (am (bA rfl rfl rfl (fh rfl rfl rfl (aQ rfl (ai (bf _ _ aa rfl rfl _ rfl ab (by (simp only [ba,bn,bl,bC,bz,bJ,bB,List.length_map];omega)) (by exact Nat.mul_one _)) ?_))))))
  refine ai (bH _ aa rfl (by exact fx _ _ ab) rfl) ?_
  refine dK rfl (ai (aU _ _ Tryz.underlying9 rfl rfl rfl) (aj (aT rfl (fun hc20=> ?_) (fun hc20=> ?_))))
  ·skip
   have he:k=i:=la hn ab hi ((pv ab).symm.trans hc20)
   refine am (aQ rfl (aZ rfl (aj (aC (aY (.inr rfl) rfl (.tmp (rfl:_=AV.v (.int _ _))) (Le.out [] [] (ck ?_) rfl rfl rfl trivial trivial))))))
   rw [he]
  ·skip
   have he:k≠i:=fun e=> hc20 ((pv ab).trans (by rw [e]))
   refine bZ (an (aQ rfl (ai (bc _ _ rfl rfl (bq ab)) ?_)))
   refine aZ rfl (az (⟨k+1,?_,?_,?_⟩))
   ·exact ⟨by omega,by omega⟩
   ·skip
    refine Le.mkJ [] [] rfl ?_ ?_ trivial trivial ?_
    ·exact ⟨(iV rfl),(iP rfl),(ck ag),trivial⟩
    ·exact ⟨(cF rfl rfl rfl),trivial⟩
    ·kernel_rfl
   ·omega
 ·skip
  refine bK (id (hK2 _ ?_))
  clear hK2;try clear K2
  refine ap (am (aZ rfl (aj (au ?_))))
  refine bw (α:=Nat) (fun q=> q≤v.length∧d.length+q≤i) 41 [(1,_),(2,_)] [((2,0),_)] (fun q=> [(6, .v (.int .i64 (q:Int)))]) (fun q=> []) [] [] (fun q=> v.length - q) 0 ?_ (by
   refine Le.mkJ [] [] rfl ?_ ?_ trivial trivial ?_
   ·exact ⟨(iV rfl),(iP rfl),(ck ag),trivial⟩
   ·exact ⟨(cF rfl rfl rfl),trivial⟩
   ·kernel_rfl) ?_
  ·exact ⟨Nat.zero_le _,by omega⟩
  intro q hq
  obtain ⟨hq,hqi⟩:=hq
  refine aF fun K11 hK11=> ?_
  refine am (aQ rfl (bA rfl rfl rfl (fh rfl rfl rfl (ai (bE _ aa rfl) (ai (bo _ _ rfl rfl rfl) (aj (aT rfl (fun hc26=> ?_) (fun hc26=> ?_))))))))
  ·skip
   refine bv (hK11 _ ?_)
   clear hK11;try clear K11
   refine ap (au (am (bA rfl rfl rfl (fh rfl rfl rfl (aQ rfl (ai (bf _ _ aa rfl rfl _ rfl ab (by (simp only [ba,bn,bl,bC,bz,bJ,bB,List.length_map];omega)) (by exact Nat.mul_one _)) ?_))))))
   refine ai (bH _ aa rfl (by exact fx _ _ ab) rfl) ?_
   refine dK rfl (ai (aU _ _ Tryz.underlying9 rfl rfl rfl) (aj (aT rfl (fun hc35=> ?_) (fun hc35=> ?_))))
   ·skip
    have he:d.length+q=i:=la hn ab hi (getD_right.symm.trans hc35)
    refine am (bA rfl rfl rfl (fh rfl rfl rfl (ai (bE _ aa rfl) (aQ rfl (ai (bc _ _ rfl rfl (bq ab)) ?_)))))
    refine aZ rfl (aj (aC (aY (.inr rfl) rfl (.tmp (rfl:_=AV.v (.int _ _))) (Le.out [] [] (ck ?_) rfl rfl rfl trivial trivial))))
    omega
   ·skip
    have he:d.length+q≠i:=fun e=> hc35 (getD_right.trans (by rw [e]))
    refine bZ (an (aQ rfl (ai (bc _ _ rfl rfl (bq ab)) ?_)))
    refine aZ rfl (az (⟨q+1,?_,?_,?_⟩))
    ·exact ⟨by omega,by omega⟩
    ·skip
     refine Le.mkJ [] [] rfl ?_ ?_ trivial trivial ?_
     ·exact ⟨(iV rfl),(iP rfl),(ck ag),trivial⟩
     ·exact ⟨(cF rfl rfl rfl),trivial⟩
     ·kernel_rfl
    ·omega
  ·skip
   exact absurd hqi ab
theorem xW (ons:List (Nat×Bk)) (nm:List Tx) (k:Nat) (h:k < ons.length):mq (ons.map fun p=> (p.1,jy nm p.2)) k=((ons[k]).1,jy nm (ons[k]).2):=by
 rw [mn _ _ (by simpa using h),List.getElem_map]
theorem rV (l:List Hd) (k:Nat) (h:k < l.length):PV.ups (((lg l).drop (k*5+1)).take 4)=[.v (.int .i64 ((mq l k).2.k:Int)), .v (.int .i64 ((mq l k).2.n:Int)), .v (bt (mq l k).2.s), .sl (mq l k).2.kn (mq l k).2.kids]:=by
 have e:=oo wA 5 (fun _=> rfl) l k h
 have:((lg l).drop (k*5+1)).take 4=(((l.flatMap wA).drop (k*5)).take 5).drop 1:=by
  rw [List.drop_take,List.drop_drop];rfl
 rw [this,e,mn l k h];rfl
theorem od (d v:List Tx) (ons:List (Nat×Bk)) (hn:(d++v).Nodup) (hl:(d++v).length≤16) (ho: ∀ p∈ons,ie (d++v).length p.2) (hw: ∀ p∈ons,oa p.2=true) (hc:ons.length≤1000):
  Spec Tryz.prog 97 (bj [Ez d v (ons.map fun p=> (p.1,jy (d++v) p.2))] []) (aX (.v (.int .i64 0)) []):=by
 obtain ⟨H,hH⟩: ∃ H,H=ons.map fun p=> (p.1,jy (d++v) p.2):=⟨_,rfl⟩
 have hHl:H.length=ons.length:=by rw [hH,List.length_map]
 rw [← hH]
 have hHk: ∀ k (h:k < ons.length),mq H k=((ons[k]).1,jy (d++v) (ons[k]).2):=fun k h=> by rw [hH];exact xW ons _ k h
 clear hH
 refine Spec.ofN Tryz.func97 rfl Tryz.ntmps97 rfl ?_
 refine am (ai (bk (1,0) _ rfl rfl) (aZ rfl (aj (aF fun K2 hK2=> ?_))))
 refine am (aZ rfl (aj (au ?_)))
 refine bw (α:=Nat) (fun k=> k≤H.length) 43 [(1,_)] [((1,0),_)] (fun k=> [(3, .v (.int .i64 (k:Int)))]) (fun k=> []) [] [] (fun k=> H.length - k) 0 ?_ (by
  refine Le.mkJ [] [] rfl ?_ ?_ trivial trivial ?_
  ·exact ⟨(iP rfl),(ck ag),trivial⟩
  ·exact ⟨(cF rfl rfl rfl),trivial⟩
  ·kernel_rfl) ?_
 ·omega
 intro k hk
 refine aF fun K4 hK4=> ?_
 refine am (aQ rfl (bA rfl rfl rfl (fh rfl rfl rfl (ai (bE _ aa rfl) (ai (bo _ _ rfl rfl rfl) (aj (aT rfl (fun hc11=> ?_) (fun hc11=> ?_))))))))
 ·skip
  have hk2:k < ons.length:=by omega
  obtain ⟨b,hb⟩: ∃ b,b=(ons[k]).2:=⟨_,rfl⟩
  have hkH:=hHk k hk2
  rw [← hb] at hkH
  have hwb:=Ao (d++v) b (hb ▸ hw _ (List.getElem_mem hk2))
  obtain ⟨hnb,hng⟩:=ym hl b (hb ▸ ho _ (List.getElem_mem hk2)) [] GN.nil
  have hbody:=rV H k ab
  rw [hkH] at hbody
  generalize zy (d++v) b []=M at hnb hng
  have hMl:=hng.len
  refine bv (hK4 _ ?_)
  clear hK4;try clear K4
  refine aF fun K6 hK6=> ?_
  refine au (am (bA rfl rfl rfl (fh rfl rfl rfl (aQ rfl (ai (bf _ _ aa rfl rfl _ rfl ab (by (simp only [ba,bn,bl,bC,bz,bJ,bB,List.length_map];omega)) ag) ?_)))))
  refine ai (di _ aa rfl rfl) (ai (cd _ aa rfl (by exact hbody) rfl) ?_)
  refine ai (aL aa al (hwb) rfl rfl) ?_
  refine ct rfl (aj (ap (am (cJ rfl (ai (dc (r:=false) _ rfl rfl) (aj (aP rfl rfl (aJ (ap ?_)))))))))
  refine aN (σ':=aB 43 [(1,_),(3,_)] [((1,0),_)] [] []) kp ?_
  refine an (bA rfl rfl rfl (fh rfl rfl rfl (aQ rfl (ai (bf _ _ aa rfl rfl _ rfl ab (by (simp only [ba,bn,bl,bC,bz,bJ,bB,List.length_map];omega)) ag) ?_))))
  refine ai (di _ aa rfl rfl) (ai (cd _ aa rfl (by exact hbody) rfl) ?_)
  refine ai (aL aa al (hnb) rfl rfl) ?_
  refine kJ rfl (aj (am (aZ rfl (aj (au ?_)))))
  refine bw (α:=Nat) (fun q=> q≤M.length) 43 [(1,_),(3,_),(5,_)] [((1,0),_)] (fun q=> [(6, .v (.int .i64 (q:Int)))]) (fun q=> []) [] [] (fun q=> M.length - q) 0 ?_ (by
   refine Le.mkJ [] [] rfl ?_ ?_ trivial trivial ?_
   ·exact ⟨(iP rfl),(iV rfl),(iS rfl),(ck ag),trivial⟩
   ·exact ⟨(cF rfl rfl rfl),trivial⟩
   ·kernel_rfl) ?_
  ·omega
  intro q hq
  refine aF fun K12 hK12=> ?_
  refine am (aQ rfl (eV rfl (ai (bE _ aa rfl) (ai (bo _ _ rfl rfl rfl) (aj (aT rfl (fun hc33=> ?_) (fun hc33=> ?_)))))))
  ·skip
   obtain ⟨i,hi,hiq⟩: ∃ i,i < (d++v).length∧M.getD q []=(d++v).getD i []:=by
    have hm:=hng.2 _ (iO (show q < M.length by omega))
    obtain ⟨i,hi,he⟩:=List.getElem_of_mem hm
    exact ⟨i,hi,by rw [List.getD_eq_getElem?_getD (l:=d++v),List.getElem?_eq_getElem hi,← he];rfl⟩
   have hix:=kV d v (lg H) H.length hn ab i hi
   rw [← hiq] at hix
   refine bv (hK12 _ ?_)
   clear hK12;try clear K12
   refine ap (au (ap ?_))
   refine aN (σ':=aB 43 [(1,_),(3,_),(5,_),(6,_)] [((1,0),_)] [] []) kp ?_
   refine bF 7 [36,37,38,39,40,41,42] [] ae ae rfl (aM rfl) (rfl:_=[_,_,_,_,_,_,_]) (rfl:_=[]) ?_
   refine aq (_,[]) (fun τ=> aR _ aa rfl rfl rfl rfl) ?_
   refine eJ rfl ?_
   refine aq (_,[]) (fun τ=> aE _ (rfl:_=AV.sl _ _)) ?_
   refine eK rfl ?_
   refine aq (_,[]) (fun τ=> aE _ (rfl:_=AV.v (.int _ _))) ?_
   refine eH rfl ?_
   refine aq (_,[]) (fun τ=> bf _ _ aa rfl rfl _ rfl ab (by (simp only [ba,bn,bl,bC,bz,bJ,bB,List.length_map];omega)) (by exact Nat.mul_one _)) ?_
   refine eS rfl ?_
   refine aq (_,[]) (fun τ=> bH _ aa rfl (by exact fx _ _ ab) rfl) ?_
   refine eZ rfl ?_
   refine aq (_,[]) (fun τ=> (aL aa al (hix) rfl rfl)) ?_
   refine fH rfl ?_
   refine aq (_,[]) (fun τ=> bo (r:=false) _ _ rfl rfl (decide_eq_false ab)) ?_
   refine gF rfl (bh ⟨rfl,?_⟩)
   refine aj (aP rfl rfl (bZ (an (aQ rfl (ai (bc _ _ rfl rfl (bq ab)) ?_)))))
   refine aZ rfl (az (⟨q+1,?_,?_,?_⟩))
   ·omega
   ·skip
    refine Le.mkJ [] [] rfl ?_ ?_ trivial trivial ?_
    ·exact ⟨(iP rfl),(iV rfl),(iS rfl),(ck ag),trivial⟩
    ·exact ⟨(cF rfl rfl rfl),trivial⟩
    ·kernel_rfl
   ·omega
  ·skip
   refine bK (id (hK6 _ ?_))
   clear hK6;try clear K6
   refine an (aQ rfl (ai (bc _ _ rfl rfl (bq ab)) ?_))
   refine aZ rfl (az (⟨k+1,?_,?_,?_⟩))
   ·omega
   ·skip
    refine Le.mkJ [] [] rfl ?_ ?_ trivial trivial ?_
    ·exact ⟨(iP rfl),(ck ag),trivial⟩
    ·exact ⟨(cF rfl rfl rfl),trivial⟩
    ·kernel_rfl
   ·omega
 ·skip
  refine bK (id (hK2 _ ?_))
  clear hK2;try clear K2
  exact am (aZ rfl (aj (aC (aY (.inr rfl) rfl (.tmp (rfl:_=AV.v _)) (Le.out [] [] .v rfl rfl rfl trivial trivial)))))

theorem lI (C:List eu):((inl C).drop 0).take (C.length*2)=inl C:=List.take_of_length_le (by rw [List.drop_zero,bM];exact Nat.le_refl _)
theorem jD (C:List eu):0+C.length*2≤(inl C).length:=by rw [bM,Nat.zero_add];exact Nat.le_refl _
theorem vF (l:List Tx) (n:Nat) (hn:l.length=n) (h1:n≤1000) (hd:l.Nodup) (i:Nat) (hi:i < n):Spec Tryz.prog 122 (bj [.sl n (dT l), .v (bt (l.getD i []))] []) (aX (.v (.int .i64 (i:Int))) []):=by
 refine Spec.ofN Tryz.func122 rfl Tryz.ntmps122 rfl ?_
 refine am (aZ rfl (aj (ap (am (aZ rfl (aj (au ?_)))))))
 refine bw (α:=Nat) (fun k=> k≤n∧k≤i) 19 [(0,_),(1,_)] [] (fun k=> [(5, .v (.int .i64 (k:Int)))]) (fun k=> []) [] [] (fun k=> n - k) 0 ?_ (by
  refine Le.mkJ [] [] rfl ?_ ?_ trivial trivial ?_
  ·exact ⟨(iS rfl),(iV rfl),(ck ag),trivial⟩
  ·exact trivial
  ·kernel_rfl) ?_
 ·exact ⟨Nat.zero_le _,Nat.zero_le _⟩
 intro k hk
 obtain ⟨hk,hki⟩:=hk
 refine aF fun K4 hK4=> ?_
 refine am (aQ rfl (eV rfl (ai (bE _ aa rfl) (ai (bo _ _ rfl rfl rfl) (aj (aT rfl (fun hc9=> ?_) (fun hc9=> ?_)))))))
 ·skip
  refine bv (hK4 _ ?_)
  clear hK4;try clear K4
  refine ap (au (am (eV rfl (aQ rfl (ai (bf _ _ aa rfl rfl _ rfl ab (by (simp only [ba,bn,bl,bC,bz,bJ,bB,bM];omega)) (by exact Nat.mul_one _)) ?_)))))
  refine ai (bH _ aa rfl (by exact fx _ _ ab) rfl) ?_
  refine dK rfl (ai (aU _ _ Tryz.underlying9 rfl rfl rfl) (aj (aT rfl (fun hc17=> ?_) (fun hc17=> ?_))))
  ·skip
   have he:k=i:=la hd ab ab hc17
   refine am (aQ rfl (aZ rfl (aj (aC (aY (.inr rfl) rfl (.tmp (rfl:_=AV.v (.int _ _))) (Le.out [] [] (ck ?_) rfl rfl rfl trivial trivial))))))
   rw [he]
  ·skip
   have he:k≠i:=fun e=> hc17 (by rw [e])
   refine bZ (an (aQ rfl (ai (bc _ _ rfl rfl (bq ab)) ?_)))
   refine aZ rfl (az (⟨k+1,?_,?_,?_⟩))
   ·exact ⟨by omega,by omega⟩
   ·skip
    refine Le.mkJ [] [] rfl ?_ ?_ trivial trivial ?_
    ·exact ⟨(iS rfl),(iV rfl),(ck ag),trivial⟩
    ·exact trivial
    ·kernel_rfl
   ·omega
 ·skip
  exact absurd hki ab
theorem mU:Spec Tryz.prog 123 (bj [] []) (aX (.sl 9 (dT bltT)) []):=by
 refine Spec.ofN Tryz.func123 rfl Tryz.ntmps123 rfl ?_
 refine am (ai (bG _ (rfl:_=AV.v (.slice _ _ _))) (aj (am (ai (aV _ _ aa rfl ag (by (simp <;> rfl)) ah rfl) ?_))))
 exact kJ rfl (aj (aC (aY (.inr rfl) rfl (.tmp (rfl:_=AV.sl _ _)) (Le.out [] [] .sl rfl rfl rfl trivial trivial))))
theorem xC:Spec Tryz.prog 126 (bj [.v (bt [43])] []) (aX (.sl (Bo.add).code.length (inl (Bo.add).code)) []):=by
 refine Spec.ofN Tryz.func126 rfl Tryz.ntmps126 rfl ?_
 refine am (ai (bG _ (rfl:_=AV.v (.slice _ _ _))) (aj (ap (am (dK rfl (aj (au (am (ai (aU (r:=true) _ _ Tryz.underlying9 rfl rfl rfl) (ct rfl ?_))))))))))
 refine aj (bD rfl rfl (am (ai (aA _ aa rfl (by exact (rfl:_=some [_,_]))) ?_)))
 refine ai (aV _ _ aa rfl ag (by (simp <;> rfl)) ah rfl) ?_
 exact kJ rfl (aj (aC (aY (.inr rfl) rfl (.tmp (rfl:_=AV.sl _ _)) (Le.out [] [] .sl rfl rfl rfl trivial trivial))))
theorem xl:Spec Tryz.prog 126 (bj [.v (bt [45])] []) (aX (.sl (Bo.sub).code.length (inl (Bo.sub).code)) []):=by
 refine Spec.ofN Tryz.func126 rfl Tryz.ntmps126 rfl ?_
 refine am (ai (bG _ (rfl:_=AV.v (.slice _ _ _))) (aj (ap (am (dK rfl (aj (au (am (ai (aU (r:=false) _ _ Tryz.underlying9 rfl rfl rfl) (ct rfl ?_))))))))))
 refine aj (aP rfl rfl (am (ai (aU (r:=true) _ _ Tryz.underlying9 rfl rfl rfl) (ct rfl (aj (bD rfl rfl (am (ai (aA _ aa rfl (by exact (rfl:_=some [_,_]))) ?_))))))))
 refine ai (aV _ _ aa rfl ag (by (simp <;> rfl)) ah rfl) ?_
 exact kJ rfl (aj (aC (aY (.inr rfl) rfl (.tmp (rfl:_=AV.sl _ _)) (Le.out [] [] .sl rfl rfl rfl trivial trivial))))
theorem yV:Spec Tryz.prog 126 (bj [.v (bt [42])] []) (aX (.sl (Bo.mul).code.length (inl (Bo.mul).code)) []):=by
 refine Spec.ofN Tryz.func126 rfl Tryz.ntmps126 rfl ?_
 refine am (ai (bG _ (rfl:_=AV.v (.slice _ _ _))) (aj (ap (am (dK rfl (aj (au (am (ai (aU (r:=false) _ _ Tryz.underlying9 rfl rfl rfl) (ct rfl ?_))))))))))
 refine aj (aP rfl rfl (am (ai (aU (r:=false) _ _ Tryz.underlying9 rfl rfl rfl) (ct rfl (aj (aP rfl rfl (am (ai (aU (r:=true) _ _ Tryz.underlying9 rfl rfl rfl) (ct rfl (aj ?_))))))))))
 refine bD rfl rfl (am (ai (aA _ aa rfl (by exact (rfl:_=some [_,_]))) ?_))
 refine ai (aV _ _ aa rfl ag (by (simp <;> rfl)) ah rfl) ?_
 exact kJ rfl (aj (aC (aY (.inr rfl) rfl (.tmp (rfl:_=AV.sl _ _)) (Le.out [] [] .sl rfl rfl rfl trivial trivial))))
theorem zh:Spec Tryz.prog 126 (bj [.v (bt [47])] []) (aX (.sl (Bo.div).code.length (inl (Bo.div).code)) []):=by
 refine Spec.ofN Tryz.func126 rfl Tryz.ntmps126 rfl ?_
 refine am (ai (bG _ (rfl:_=AV.v (.slice _ _ _))) (aj (ap (am (dK rfl (aj (au (am (ai (aU (r:=false) _ _ Tryz.underlying9 rfl rfl rfl) (ct rfl ?_))))))))))
 refine aj (aP rfl rfl (am (ai (aU (r:=false) _ _ Tryz.underlying9 rfl rfl rfl) (ct rfl (aj (aP rfl rfl (am (ai (aU (r:=false) _ _ Tryz.underlying9 rfl rfl rfl) (ct rfl (aj ?_))))))))))
 refine aP rfl rfl (am (ai (aU (r:=true) _ _ Tryz.underlying9 rfl rfl rfl) (ct rfl (aj (bD rfl rfl (am (ai (aA _ aa rfl (by exact (rfl:_=some [_,_]))) ?_)))))))
 refine ai (aV _ _ aa rfl ag (by (simp <;> rfl)) ah rfl) ?_
 exact kJ rfl (aj (aC (aY (.inr rfl) rfl (.tmp (rfl:_=AV.sl _ _)) (Le.out [] [] .sl rfl rfl rfl trivial trivial))))
theorem Ap:Spec Tryz.prog 126 (bj [.v (bt [60])] []) (aX (.sl (Bo.lt).code.length (inl (Bo.lt).code)) []):=by
 refine Spec.ofN Tryz.func126 rfl Tryz.ntmps126 rfl ?_
 refine am (ai (bG _ (rfl:_=AV.v (.slice _ _ _))) (aj (ap (am (dK rfl (aj (au (am (ai (aU (r:=false) _ _ Tryz.underlying9 rfl rfl rfl) (ct rfl ?_))))))))))
 refine aj (aP rfl rfl (am (ai (aU (r:=false) _ _ Tryz.underlying9 rfl rfl rfl) (ct rfl (aj (aP rfl rfl (am (ai (aU (r:=false) _ _ Tryz.underlying9 rfl rfl rfl) (ct rfl (aj ?_))))))))))
 refine aP rfl rfl (am (ai (aU (r:=false) _ _ Tryz.underlying9 rfl rfl rfl) (ct rfl (aj (aP rfl rfl (am (ai (aU (r:=true) _ _ Tryz.underlying9 rfl rfl rfl) (ct rfl (aj (bD rfl rfl ?_))))))))))
 refine am (ai (aA _ aa rfl (by exact (rfl:_=some [_,_]))) ?_)
 refine ai (aV _ _ aa rfl ag (by (simp <;> rfl)) ah rfl) ?_
 exact kJ rfl (aj (aC (aY (.inr rfl) rfl (.tmp (rfl:_=AV.sl _ _)) (Le.out [] [] .sl rfl rfl rfl trivial trivial))))
theorem BO:Spec Tryz.prog 126 (bj [.v (bt [60,61])] []) (aX (.sl (Bo.le).code.length (inl (Bo.le).code)) []):=by
 refine Spec.ofN Tryz.func126 rfl Tryz.ntmps126 rfl ?_
 refine am (ai (bG _ (rfl:_=AV.v (.slice _ _ _))) (aj (ap (am (dK rfl (aj (au (am (ai (aU (r:=false) _ _ Tryz.underlying9 rfl rfl rfl) (ct rfl ?_))))))))))
 refine aj (aP rfl rfl (am (ai (aU (r:=false) _ _ Tryz.underlying9 rfl rfl rfl) (ct rfl (aj (aP rfl rfl (am (ai (aU (r:=false) _ _ Tryz.underlying9 rfl rfl rfl) (ct rfl (aj ?_))))))))))
 refine aP rfl rfl (am (ai (aU (r:=false) _ _ Tryz.underlying9 rfl rfl rfl) (ct rfl (aj (aP rfl rfl (am (ai (aU (r:=false) _ _ Tryz.underlying9 rfl rfl rfl) (ct rfl (aj (aP rfl rfl ?_))))))))))
 refine am (ai (aU (r:=true) _ _ Tryz.underlying9 rfl rfl rfl) (ct rfl (aj (bD rfl rfl (am (ai (aA _ aa rfl (by exact (rfl:_=some [_,_]))) ?_))))))
 refine ai (aV _ _ aa rfl ag (by (simp <;> rfl)) ah rfl) ?_
 exact kJ rfl (aj (aC (aY (.inr rfl) rfl (.tmp (rfl:_=AV.sl _ _)) (Le.out [] [] .sl rfl rfl rfl trivial trivial))))
theorem AI:Spec Tryz.prog 126 (bj [.v (bt [61,61])] []) (aX (.sl (Bo.eq).code.length (inl (Bo.eq).code)) []):=by
 refine Spec.ofN Tryz.func126 rfl Tryz.ntmps126 rfl ?_
 refine am (ai (bG _ (rfl:_=AV.v (.slice _ _ _))) (aj (ap (am (dK rfl (aj (au (am (ai (aU (r:=false) _ _ Tryz.underlying9 rfl rfl rfl) (ct rfl ?_))))))))))
 refine aj (aP rfl rfl (am (ai (aU (r:=false) _ _ Tryz.underlying9 rfl rfl rfl) (ct rfl (aj (aP rfl rfl (am (ai (aU (r:=false) _ _ Tryz.underlying9 rfl rfl rfl) (ct rfl (aj ?_))))))))))
 refine aP rfl rfl (am (ai (aU (r:=false) _ _ Tryz.underlying9 rfl rfl rfl) (ct rfl (aj (aP rfl rfl (am (ai (aU (r:=false) _ _ Tryz.underlying9 rfl rfl rfl) (ct rfl (aj (aP rfl rfl ?_))))))))))
 refine am (ai (aU (r:=false) _ _ Tryz.underlying9 rfl rfl rfl) (ct rfl (aj (aP rfl rfl (am (ai (aU (r:=true) _ _ Tryz.underlying9 rfl rfl rfl) (ct rfl (aj (bD rfl rfl (ap ?_))))))))))
 refine aN (σ':=aB 45 [] [] [] []) kp ?_
 refine an (ai (aA _ aa rfl (by exact (rfl:_=some [_,_]))) ?_)
 refine ai (aV _ _ aa rfl ag (by (simp <;> rfl)) ah rfl) ?_
 exact kJ rfl (aj (aC (aY (.inr rfl) rfl (.tmp (rfl:_=AV.sl _ _)) (Le.out [] [] .sl rfl rfl rfl trivial trivial))))
theorem Bm:Spec Tryz.prog 126 (bj [.v (bt [62])] []) (aX (.sl (Bo.gt).code.length (inl (Bo.gt).code)) []):=by
 refine Spec.ofN Tryz.func126 rfl Tryz.ntmps126 rfl ?_
 refine am (ai (bG _ (rfl:_=AV.v (.slice _ _ _))) (aj (ap (am (dK rfl (aj (au (am (ai (aU (r:=false) _ _ Tryz.underlying9 rfl rfl rfl) (ct rfl ?_))))))))))
 refine aj (aP rfl rfl (am (ai (aU (r:=false) _ _ Tryz.underlying9 rfl rfl rfl) (ct rfl (aj (aP rfl rfl (am (ai (aU (r:=false) _ _ Tryz.underlying9 rfl rfl rfl) (ct rfl (aj ?_))))))))))
 refine aP rfl rfl (am (ai (aU (r:=false) _ _ Tryz.underlying9 rfl rfl rfl) (ct rfl (aj (aP rfl rfl (am (ai (aU (r:=false) _ _ Tryz.underlying9 rfl rfl rfl) (ct rfl (aj (aP rfl rfl ?_))))))))))
 refine am (ai (aU (r:=false) _ _ Tryz.underlying9 rfl rfl rfl) (ct rfl (aj (aP rfl rfl (am (ai (aU (r:=false) _ _ Tryz.underlying9 rfl rfl rfl) (ct rfl (aj (aP rfl rfl (ap ?_))))))))))
 refine aN (σ':=aB 45 [(3,_)] [] [] []) kp ?_
 refine an (ai (aU (r:=true) _ _ Tryz.underlying9 rfl rfl rfl) (ct rfl (aj (bD rfl rfl (am (ai (aA _ aa rfl (by exact (rfl:_=some [_,_]))) ?_))))))
 refine ai (aA _ aa rfl (by exact (rfl:_=some [_,_]))) ?_
 refine ai (aV _ _ aa rfl ag (by (simp <;> rfl)) ah rfl) ?_
 exact kJ rfl (aj (aC (aY (.inr rfl) rfl (.tmp (rfl:_=AV.sl _ _)) (Le.out [] [] .sl rfl rfl rfl trivial trivial))))
theorem AD:Spec Tryz.prog 126 (bj [.v (bt [62,61])] []) (aX (.sl (Bo.ge).code.length (inl (Bo.ge).code)) []):=by
 refine Spec.ofN Tryz.func126 rfl Tryz.ntmps126 rfl ?_
 refine am (ai (bG _ (rfl:_=AV.v (.slice _ _ _))) (aj (ap (am (dK rfl (aj (au (am (ai (aU (r:=false) _ _ Tryz.underlying9 rfl rfl rfl) (ct rfl ?_))))))))))
 refine aj (aP rfl rfl (am (ai (aU (r:=false) _ _ Tryz.underlying9 rfl rfl rfl) (ct rfl (aj (aP rfl rfl (am (ai (aU (r:=false) _ _ Tryz.underlying9 rfl rfl rfl) (ct rfl (aj ?_))))))))))
 refine aP rfl rfl (am (ai (aU (r:=false) _ _ Tryz.underlying9 rfl rfl rfl) (ct rfl (aj (aP rfl rfl (am (ai (aU (r:=false) _ _ Tryz.underlying9 rfl rfl rfl) (ct rfl (aj (aP rfl rfl ?_))))))))))
 refine am (ai (aU (r:=false) _ _ Tryz.underlying9 rfl rfl rfl) (ct rfl (aj (aP rfl rfl (am (ai (aU (r:=false) _ _ Tryz.underlying9 rfl rfl rfl) (ct rfl (aj (aP rfl rfl (ap ?_))))))))))
 refine aN (σ':=aB 45 [(3,_)] [] [] []) kp ?_
 refine an (ai (aU (r:=false) _ _ Tryz.underlying9 rfl rfl rfl) (ct rfl (aj (aP rfl rfl (am (ai (aU (r:=true) _ _ Tryz.underlying9 rfl rfl rfl) (ct rfl (aj (bD rfl rfl (am ?_))))))))))
 refine ai (aA _ aa rfl (by exact (rfl:_=some [_,_]))) ?_
 refine ai (aA _ aa rfl (by exact (rfl:_=some [_,_]))) ?_
 refine ai (aV _ _ aa rfl ag (by (simp <;> rfl)) ah rfl) ?_
 exact kJ rfl (aj (aC (aY (.inr rfl) rfl (.tmp (rfl:_=AV.sl _ _)) (Le.out [] [] .sl rfl rfl rfl trivial trivial))))
theorem AS:Spec Tryz.prog 126 (bj [.v (bt [33,61])] []) (aX (.sl (Bo.ne).code.length (inl (Bo.ne).code)) []):=by
 refine Spec.ofN Tryz.func126 rfl Tryz.ntmps126 rfl ?_
 refine am (ai (bG _ (rfl:_=AV.v (.slice _ _ _))) (aj (ap (am (dK rfl (aj (au (am (ai (aU (r:=false) _ _ Tryz.underlying9 rfl rfl rfl) (ct rfl ?_))))))))))
 refine aj (aP rfl rfl (am (ai (aU (r:=false) _ _ Tryz.underlying9 rfl rfl rfl) (ct rfl (aj (aP rfl rfl (am (ai (aU (r:=false) _ _ Tryz.underlying9 rfl rfl rfl) (ct rfl (aj ?_))))))))))
 refine aP rfl rfl (am (ai (aU (r:=false) _ _ Tryz.underlying9 rfl rfl rfl) (ct rfl (aj (aP rfl rfl (am (ai (aU (r:=false) _ _ Tryz.underlying9 rfl rfl rfl) (ct rfl (aj (aP rfl rfl ?_))))))))))
 refine am (ai (aU (r:=false) _ _ Tryz.underlying9 rfl rfl rfl) (ct rfl (aj (aP rfl rfl (am (ai (aU (r:=false) _ _ Tryz.underlying9 rfl rfl rfl) (ct rfl (aj (aP rfl rfl (ap ?_))))))))))
 refine aN (σ':=aB 45 [(3,_)] [] [] []) kp ?_
 refine an (ai (aU (r:=false) _ _ Tryz.underlying9 rfl rfl rfl) (ct rfl (aj (aP rfl rfl (am (ai (aU (r:=false) _ _ Tryz.underlying9 rfl rfl rfl) (ct rfl (aj (aP rfl rfl (bZ ?_))))))))))
 refine am (ai (aA _ aa rfl (by exact (rfl:_=some [_,_]))) ?_)
 refine ai (aA _ aa rfl (by exact (rfl:_=some [_,_]))) ?_
 refine ai (aV _ _ aa rfl ag (by (simp <;> rfl)) ah rfl) ?_
 exact kJ rfl (aj (aC (aY (.inr rfl) rfl (.tmp (rfl:_=AV.sl _ _)) (Le.out [] [] .sl rfl rfl rfl trivial trivial))))
theorem wt (o:Bo):Spec Tryz.prog 126 (bj [.v (bt o.txt)] []) (aX (.sl o.code.length (inl o.code)) []):=by
 cases o
 ·exact xC
 ·exact xl
 ·exact yV
 ·exact zh
 ·exact Ap
 ·exact BO
 ·exact AI
 ·exact Bm
 ·exact AD
 ·exact AS

abbrev Cd:=Nat→List eu
abbrev CoS (u:AV) (d:Nd) (c:Cd):Prop:= ∀ a,a+(c a).length≤1000000→Spec Tryz.prog 91 (bj [u,mI d, .v (.int .i64 (a:Int))] []) (aX (.ref (0,8) 0 (c a).length) [((0,8), .row 48 2 (inl (c a)))])
def cM:List Cd→Nat→List eu
 | [],_=> []
 | c::cs,a=> c a++cM cs (a+(c a).length)
theorem oB: ∀ (l m:List Cd) (a:Nat),cM (l++m) a=cM l a++cM m (a+(cM l a).length)
 | [],m,a=> by simp [cM]
 | c::l,m,a=> by simp only [List.cons_append,cM,oB l m,List.append_assoc,List.length_append,Nat.add_assoc]
theorem wp {cs:List Cd} {j a:Nat} (h:j < cs.length):cM (cs.take (j+1)) a=cM (cs.take j) a++(cs.getD j fun _=> []) (a+(cM (cs.take j) a).length):=by
 rw [List.take_succ_eq_append_getElem h,oB]
 simp [cM,h]
theorem pM {cs:List Cd} {j a:Nat}:(cM (cs.take j) a).length≤(cM cs a).length:=by
 conv=> rhs;rw [← List.take_append_drop j cs,oB]
 rw [List.length_append];omega
abbrev kT (u:AV) (L:List Nd) (cs:List Cd):Prop:= ∀ j,j < L.length→CoS u (jx L j) (cs.getD j fun _=> [])
theorem BN {u:AV}:kT u [] []:=fun j hj=> by simp at hj
theorem wg {u:AV} {d:Nd} {c:Cd} {L:List Nd} {cs:List Cd} (h:CoS u d c) (h':kT u L cs):kT u (d::L) (c::cs):=fun j hj=> by
 cases j with
 | zero=> exact h
 | succ j=> exact h' j (by simpa using hj)
section
variable {d v:List Tx} {no:Nat} {on:List PV}
abbrev uu (d v:List Tx) (no:Nat) (on:List PV):AV:= .agg [.sl d.length (dT d), .sl v.length (dT v), .sl no on]
theorem dv (L:List Nd) (cs:List Cd) (hc:cs.length=L.length) (hk:kT (uu d v no on) L cs) (a:Nat) (ha:a+(cM cs a).length≤1000000):
  Spec Tryz.prog 125 (bj [uu d v no on, .sl L.length (kB L), .v (.int .i64 (a:Int))] []) (aX (.ref (0,8) 0 (cM cs a).length) [((0,8), .row 48 2 (inl (cM cs a)))]):=by
 refine Spec.ofN Tryz.func125 rfl Tryz.ntmps125 rfl ?_
 refine ap ?_
 refine DX 1 rfl rfl fun hlen=> ?_
 unfold maxLen at hlen
 refine an (ai (bk (3,0) _ rfl rfl) (ai (bG _ (rfl:_=AV.v (.slice _ _ _))) (aj (am (ai (oJ (7,0) _ 48 2 rfl rfl) ?_)))))
 refine aj (aF fun K3 hK3=> ?_)
 refine am (aZ rfl (aj (au ?_)))
 refine bw (α:=Nat) (fun j=> j≤L.length) 28 [(1,_),(2,_),(3,_)] [((3,0),_)] (fun j=> [(8, .v (.int .i64 (j:Int))),(7, .ref (7,0) 0 (cM (cs.take j) a).length)]) (fun j=> [((7,0), .row 48 2 (inl (cM (cs.take j) a)))]) [] [] (fun j=> L.length - j) 0 ?_ (by
  refine Le.mkJ [] [] rfl ?_ ?_ trivial trivial ?_
  ·exact ⟨(iS rfl),(iV rfl),(iP rfl),(ck ag),(dh rfl ag),trivial⟩
  ·exact ⟨(cF rfl rfl rfl),(gM rfl rfl rfl ag),trivial⟩
  ·kernel_rfl) ?_
 ·omega
 intro j hj
 have htk:(cM (cs.take j) a).length≤(cM cs a).length:=pM
 refine aF fun K5 hK5=> ?_
 refine am (aQ rfl (eV rfl (ai (bE _ aa rfl) (ai (bo _ _ rfl rfl rfl) (aj (aT rfl (fun hc12=> ?_) (fun hc12=> ?_)))))))
 ·skip
  have hs:=wp (cs:=cs) (j:=j) (a:=a) ab
  have htk1:(cM (cs.take (j+1)) a).length≤(cM cs a).length:=pM
  have hsl:=congrArg List.length hs
  rw [List.length_append] at hsl
  have hcj:=hk j ab (a+(cM (cs.take j) a).length) ab
  generalize (cs.getD j fun _=> []) (a+(cM (cs.take j) a).length)=C at hs hsl hcj
  refine bv (hK5 _ ?_)
  clear hK5;try clear K5
  refine ap (au ?_)
  refine aN (σ':=aB 28 [(1,_),(2,_),(3,_),(7,_),(8,_)] [((3,0),_),((7,0),_)] [] []) kp ?_
  refine bF 11 [15,16,17,18,19,20,21,22,23,24,25] [(50,0)] ae ae rfl (aM rfl) (rfl:_=[_,_,_,_,_,_,_,_,_,_,_]) (rfl:_=[_,_]) ?_
  refine aq (_,[]) (fun τ=> aE _ (rfl:_=AV.ref _ _ _)) ?_
  refine eJ rfl ?_
  refine aq (_,[]) (fun τ=> aR _ aa rfl rfl rfl rfl) ?_
  refine eK rfl ?_
  refine aq (_,[]) (fun τ=> aE _ (rfl:_=AV.sl _ _)) ?_
  refine eH rfl ?_
  refine aq (_,[]) (fun τ=> aE _ (rfl:_=AV.v (.int _ _))) ?_
  refine eS rfl ?_
  refine aq (_,[]) (fun τ=> bf _ _ aa rfl rfl _ rfl ab (by (simp only [ba,bn,bl,bC,bz,bJ,bB,bM];omega)) ag) ?_
  refine eZ rfl ?_
  refine aq (_,[]) (fun τ=> cd _ aa rfl (by exact cH _ _ ab) rfl) ?_
  refine fH rfl ?_
  refine aq (_,[]) (fun τ=> aE _ (rfl:_=AV.v (.int _ _))) ?_
  refine gF rfl ?_
  refine aq (_,[]) (fun τ=> aE _ (rfl:_=AV.ref _ _ _)) ?_
  refine kv rfl ?_
  refine aq (_,[]) (fun τ=> dA _ aa rfl rfl) ?_
  refine ko rfl ?_
  refine aq (_,[]) (fun τ=> bc _ _ rfl rfl (bq ab)) ?_
  refine gj rfl ?_
  refine aq (_,[((50,0),_)]) (fun τ=> (ef aa [((0,8),(50,0))] ar (hcj.toI) trivial tr tr rfl rfl ae ae)) ?_
  refine gH rfl (bh ⟨rfl,?_⟩)
  refine ai (dl (26,0) _ _ aa rfl rfl (bM _).symm (.ref rfl (lI _) (jD _)) ab rfl (kj _ _) hsl.symm) ?_
  refine fa rfl (fY (an (aQ rfl (ai (bc _ _ rfl rfl (bq ab)) ?_))))
  refine aZ rfl (az (⟨j+1,?_,?_,?_⟩))
  ·omega
  ·skip
   refine Le.mkJ [((7,0),(26,0))] [] rfl ?_ ?_ trivial trivial ?_
   ·exact ⟨(by repeat' (exact Lv.sl)),(by repeat' (exact Lv.v)),(dW (id:=(3,0)) rfl),(ck ag),(dh rfl ag),trivial⟩
   ·exact ⟨(fS rfl rfl rfl rfl (by repeat' (first | exact Lv.sl | exact bu | refine aI ?_ ?_))),(gM rfl rfl rfl (by (rw [hs]))),trivial⟩
   ·kernel_rfl
  ·omega
 ·skip
  obtain rfl:j=cs.length:=by omega
  rw [List.take_length]
  refine bK (id (hK3 _ ?_))
  clear hK3;try clear K3
  exact am (gG rfl (fa rfl (aj (aC (aY (.inr rfl) rfl (.tmp (rfl:_=AV.ref _ _ _)) (Le.out [((0,8),(7,0))] [] (dh rfl rfl) rfl rfl rfl trivial ob))))))
theorem ng (N:Nd) (c:Cd) (h:CoS (uu d v no on) N c) (n:Int) (a:Nat) (ha:a+(c a).length≤1000000):
  Spec Tryz.prog 187 (bj [uu d v no on, .sl 1 (kB [N]), .v (.int .i64 n), .v (.int .i64 (a:Int))] []) (aX (.ref (0,8) 0 (c a).length) [((0,8), .row 48 2 (inl (c a)))]):=by
 have hc:=h a ha
 refine Spec.ofN Tryz.func187 rfl Tryz.ntmps187 rfl ?_
 refine am (ai (bk (4,0) _ rfl rfl) (ai (bG _ (rfl:_=AV.v (.slice _ _ _))) (aj (ap (am (eV rfl (ai (bE _ aa rfl) (ai (cP _ _ rfl rfl rfl) (aj (bD rfl rfl ?_))))))))))
 refine ap ?_
 refine aN (σ':=aB 21 [(1,_),(3,_),(4,_)] [((4,0),_)] [] []) kp ?_
 refine bF 5 [12,13,14,15,16] [] ae ae rfl (aM rfl) (rfl:_=[_,_,_,_,_]) (rfl:_=[_,_]) ?_
 refine aq (_,[]) (fun τ=> aR _ aa rfl rfl rfl rfl) ?_
 refine eJ rfl ?_
 refine aq (_,[]) (fun τ=> aE _ (rfl:_=AV.sl _ _)) ?_
 refine eK rfl ?_
 refine aq (_,[]) (fun τ=> bf _ _ aa rfl rfl 0 rfl ab (by simp [kB,Nd.row]) rfl) ?_
 refine eH rfl ?_
 refine aq (_,[]) (fun τ=> cd _ aa rfl (by exact cH [N] 0 (by simp)) rfl) ?_
 refine eS rfl ?_
 refine aq (_,[]) (fun τ=> aE _ (rfl:_=AV.v (.int _ _))) ?_
 refine eZ rfl (bh ⟨rfl,?_⟩)
 refine ai (dm aa [((0,8),(50,0))] ar (hc.toI) trivial tr ae) ?_
 exact fa rfl (aj (aC (aY (.inr rfl) rfl (.tmp (rfl:_=AV.ref _ _ _)) (Le.out [((0,8),(50,0))] [] (dh rfl rfl) rfl rfl rfl trivial ob))))
theorem sk (n:Int) (a:Nat):
  Spec Tryz.prog 187 (bj [uu d v no on, .sl 0 [], .v (.int .i64 n), .v (.int .i64 (a:Int))] []) (aX (.ref (0,8) 0 1) [((0,8), .row 48 2 (inl [{ op:= .push,n:=n }]))]):=by
 refine Spec.ofN Tryz.func187 rfl Tryz.ntmps187 rfl ?_
 refine am (ai (bk (4,0) _ rfl rfl) (ai (bG _ (rfl:_=AV.v (.slice _ _ _))) (aj (ap (am (eV rfl (ai (bE _ aa rfl) (ai (cP _ _ rfl rfl rfl) (aj (aP rfl rfl ?_))))))))))
 refine aJ (am (aQ rfl (ai (aA _ aa rfl (by exact (rfl:_=some [_,_]))) ?_)))
 refine ai (jZ (20,0) _ _ aa rfl ag (by (simp <;> rfl)) ah rfl rfl) ?_
 exact fa rfl (aj (aC (aY (.inr rfl) rfl (.tmp (rfl:_=AV.ref _ _ _)) (Le.out [((0,8),(20,0))] [] (dh rfl rfl) rfl rfl rfl trivial ob))))
def Ch (c y z:Cd) (a:Nat):List eu:=
 c a++[{ op:= .unl,n:=((a+(c a).length+1+(y (a+(c a).length+1)).length+1:Nat):Int) }]++y (a+(c a).length+1)++
  [{ op:= .jump,n:=((a+(c a).length+1+(y (a+(c a).length+1)).length+1+(z (a+(c a).length+1+(y (a+(c a).length+1)).length+1)).length:Nat):Int) }]++z (a+(c a).length+1+(y (a+(c a).length+1)).length+1)
abbrev PQ (u:AV) (l:AV) (n:Int) (c:Cd):Prop:= ∀ a,a+(c a).length≤1000000→Spec Tryz.prog 187 (bj [u,l, .v (.int .i64 n), .v (.int .i64 (a:Int))] []) (aX (.ref (0,8) 0 (c a).length) [((0,8), .row 48 2 (inl (c a)))])
theorem jO (N:Nd) (c y z:Cd) (hc:CoS (uu d v no on) N c) (ly lz:Nat) (ys zs:List PV) (n:Int) (hy:PQ (uu d v no on) (.sl ly ys) n y) (hz:PQ (uu d v no on) (.sl lz zs) n z) (a:Nat) (ha:a+(Ch c y z a).length≤1000000):
  Spec Tryz.prog 124 (bj [uu d v no on,mI N, .sl ly ys, .sl lz zs, .v (.int .i64 n), .v (.int .i64 (a:Int))] []) (aX (.ref (0,8) 0 (Ch c y z a).length) [((0,8), .row 48 2 (inl (Ch c y z a)))]):=by
 have hb: ∃ b,b=Ch c y z a:=⟨_,rfl⟩
 obtain ⟨b,hb⟩:=hb
 rw [← hb] at ha ⊢
 unfold Ch at hb
 have hbl:=congrArg List.length hb
 simp only [List.length_append,List.length_cons,List.length_nil] at hbl
 have h1:=hc a ab
 generalize c a=C at h1 hb hbl
 have h2:=hy (a+C.length+1) ab
 generalize y (a+C.length+1)=Y at h2 hb hbl
 obtain ⟨f,hf⟩: ∃ f,f=a+C.length+1+Y.length+1:=⟨_,rfl⟩
 rw [← hf] at hb hbl
 have h3:=hz f ab
 generalize z f=Z at h3 hb hbl
 refine Spec.ofN Tryz.func124 rfl Tryz.ntmps124 rfl ?_
 refine am (ai (bk (6,0) _ rfl rfl) (ai (bk (7,0) _ rfl rfl) (ai (bG _ (rfl:_=AV.v (.slice _ _ _))) (aj (am (ai (aR _ aa rfl rfl rfl rfl) (ai (aR _ aa rfl rfl rfl rfl) (aQ rfl (ai (dm aa [((0,8),(50,0))] ar (h1.toI) trivial tr ae) ?_)))))))))
 refine fa rfl (aj (aF fun K3 hK3=> ?_))
 refine an (ai (aR _ aa rfl rfl rfl rfl) (eV rfl (aQ rfl (aQ rfl (gG rfl (ai (dA _ aa rfl rfl) (ai (bc _ _ rfl rfl (bq ab)) ?_)))))))
 refine ai (bc _ _ rfl rfl (bq ab)) ?_
 refine ai (dm aa [((0,8),(51,0))] ar (h2.toI) trivial tr ae) ?_
 refine fa rfl (az (hK3 _ ?_))
 clear hK3;try clear K3
 refine ap ?_
 refine aN (σ':=aB 63 [(3,_),(4,_),(5,_),(6,_),(13,_),(14,_)] [((6,0),_),((50,0),_),((51,0),_)] [] []) kp ?_
 refine an (aQ rfl (gG rfl (ai (dA _ aa rfl rfl) (ai (bc _ _ rfl rfl (bq ab)) ?_))))
 refine ai (bc _ _ rfl rfl (bq ab)) ?_
 refine gG rfl (ai (dA _ aa rfl rfl) (ai (bc _ _ rfl rfl (bq ab)) ?_))
 refine ai (bc (r:=(f:Int)) _ _ rfl rfl ((bq ab).trans ab)) ?_
 refine aZ rfl (aj (aF fun K5 hK5=> ?_))
 refine an (ai (aR _ aa rfl rfl rfl rfl) (eV rfl (aQ rfl (aQ rfl (ai (dm aa [((0,8),(52,0))] ar (h3.toI) trivial tr ae) ?_)))))
 refine fa rfl (az (hK5 _ ?_))
 clear hK5;try clear K5
 refine ap ?_
 refine aN (σ':=aB 63 [(13,_),(14,_),(15,_),(16,_)] [((50,0),_),((51,0),_),((52,0),_)] [] []) kp ?_
 refine an (gG rfl (aQ rfl (ai (aA _ aa rfl (by exact (rfl:_=some [_,_]))) ?_)))
 refine ai (aV _ _ aa rfl ag (by (simp <;> rfl)) ah rfl) ?_
 refine ai (dl (48,0) _ _ aa rfl rfl (bM _).symm (.sl rfl) ab rfl (ey _ { op:= .unl,n:=f }) (show C.length+1=(C++[({ op:= .unl,n:=f }:eu)]).length by simp)) ?_
 refine fa rfl (aj (am (gG rfl (gG rfl (ai (dl (51,1) _ _ aa rfl rfl (bM _).symm (.ref rfl (lI _) (jD _)) (by simp;omega) rfl (kj _ _) (show (C++[({ op:= .unl,n:=f }:eu)]).length+Y.length=(C++[({ op:= .unl,n:=f }:eu)]++Y).length by simp;omega)) ?_)))))
 refine fa rfl (aj (am (gG rfl (aQ rfl (gG rfl (ai (dA _ aa rfl rfl) (ai (bc _ _ rfl rfl (bq ab)) ?_)))))))
 refine ai (aA _ aa rfl (by exact (rfl:_=some [_,_]))) ?_
 refine ai (aV _ _ aa rfl ag (by (simp <;> rfl)) ah rfl) ?_
 refine ai (dl (59,0) _ _ aa rfl rfl (bM _).symm (.sl rfl) (by simp;omega) rfl (ey _ { op:= .jump,n:=((f+Z.length:Nat):Int) }) (show (C++[({ op:= .unl,n:=f }:eu)]++Y).length+1=(C++[({ op:= .unl,n:=f }:eu)]++Y++[({ op:= .jump,n:=((f+Z.length:Nat):Int) }:eu)]).length by simp;omega)) ?_
 refine fa rfl (aj (ap ?_))
 refine aN (σ':=aB 63 [(13,_),(16,_)] [((52,0),_),((59,0),_)] [] []) kp ?_
 refine an (gG rfl (gG rfl (ai (dl (62,0) _ _ aa rfl rfl (bM _).symm (.ref rfl (lI _) (jD _)) (by simp;omega) rfl ((kj _ _).trans (congrArg inl hb.symm)) (show _+Z.length=b.length by simp;omega)) ?_)))
 exact fa rfl (aj (aC (aY (.inr rfl) rfl (.tmp (rfl:_=AV.ref _ _ _)) (Le.out [((0,8),(62,0))] [] (dh rfl rfl) rfl rfl rfl trivial ob))))
end
end Go.Proofs.YtmjnackchaahbaaGreat
