/- Part 12 of the texts that the walk leans on: the machine, the walks, the plain laws. -/
import Derived.Test.YtmjnackchaahbaaGreatVtZ11
set_option linter.unusedSimpArgs false
set_option linter.unusedVariables false
namespace Go.Proofs.YtmjnackchaahbaaGreat
open Go.RowKit

abbrev IQ (d:Nd):Prop:=Spec Tryz.prog 166 (bf [me d] []) (aL (.v (.bool true)) [])
theorem gm {nm:List Tx} {e:Ex} (h:lZ e=true):rG (dK nm e) 1:=by
 have:=Nat.eq_of_beq_eq_true h
 have h2:=dE nm e
 rwa [this] at h2
theorem CJ {P:Nd→Prop} {d:Nd} (h:P d): ∀ j,j < [d].length→P (iJ [d] j):=fun j hj=> by
 have:j=0:=by simpa using hj
 subst this
 exact h
theorem Hj {P:Nd→Prop} {d e:Nd} (h:P d) (h':P e): ∀ j,j < [d,e].length→P (iJ [d,e] j):=fun j hj=> by
 have hj:j < 2:=hj
 have:j=0∨j=1:=by omega
 rcases this with rfl | rfl
 ·exact h
 ·exact h'
theorem Ha {P:Nd→Prop} {d e f:Nd} (h:P d) (h':P e) (h2:P f): ∀ j,j < [d,e,f].length→P (iJ [d,e,f] j):=fun j hj=> by
 have hj:j < 3:=hj
 have:j=0∨j=1∨j=2:=by omega
 rcases this with rfl | rfl | rfl
 ·exact h
 ·exact h'
 ·exact h2
theorem uP {P:Nd→Prop}: ∀ j,j < ([]:List Nd).length→P (iJ [] j):=fun j hj=> by simp at hj
theorem JK {P:Nd→Prop} {d:Nd} {l:List Nd} (h:P d) (h': ∀ j,j < l.length→P (iJ l j)): ∀ j,j < (d::l).length→P (iJ (d::l) j):=fun j hj=> by
 cases j with
 | zero=> exact h
 | succ j=> exact h' j (by simpa using hj)
mutual
theorem zn (nm:List Tx): ∀ s:Sm,tY s=true→IQ (zl nm s)
 | .assign i e,h=> ek 1 ab 0 (nm.getD i []) [dK nm e] (CJ (P:=fun d=> rG d 1) (gm h))
 | .send t k a b,h=> by
  simp only [tY,Bool.and_eq_true] at h
  exact ek 4 ab k [] [dK nm t,dK nm a,dK nm b] (Ha (P:=fun d=> rG d 1) (gm h.1.1) (gm h.1.2) (gm h.2))
 | .timer k,_=> ek 5 ab k [] [] (uP (P:=fun d=> rG d 1))
 | .cancel k,_=> ek 6 ab k [] [] (uP (P:=fun d=> rG d 1))
 | .sync,_=> ek 7 ab 0 [] [] (uP (P:=fun d=> rG d 1))
 | .stop,_=> ek 10 ab 0 [] [] (uP (P:=fun d=> rG d 1))
 | .reply a b,h=> by
  simp only [tY,Bool.and_eq_true] at h
  exact ek 8 ab 0 [] [dK nm a,dK nm b] (Hj (P:=fun d=> rG d 1) (gm h.1) (gm h.2))
 | .fail e,h=> ek 9 ab 0 [] [dK nm e] (CJ (P:=fun d=> rG d 1) (gm h))
 | .loop c b,h=> by
  simp only [tY,Bool.and_eq_true] at h
  have h1:=dE nm c
  rw [Nat.eq_of_beq_eq_true h.1] at h1
  refine nZ 3 (.inr rfl) 0 [] [dK nm c,nd 11 0 [] (ga nm b)] (by simp) h1 fun j h1 hj=> ?_
  have hj:j < 2:=hj
  obtain rfl:j=1:=by omega
  exact hQ 0 [] (ga nm b) (kR nm b h.2)
 | .ite c a b,h=> by
  simp only [tY,Bool.and_eq_true] at h
  have h1:=dE nm c
  rw [Nat.eq_of_beq_eq_true h.1.1] at h1
  refine nZ 2 (.inl rfl) 0 [] [dK nm c,nd 11 0 [] (ga nm a),nd 11 0 [] (ga nm b)] (by simp) h1 fun j h1 hj=> ?_
  have hj:j < 3:=hj
  have:j=1∨j=2:=by omega
  rcases this with rfl | rfl
  ·exact hQ 0 [] (ga nm a) (kR nm a h.1.2)
  ·exact hQ 0 [] (ga nm b) (kR nm b h.2)
theorem kR (nm:List Tx): ∀ b:Bk,nG b=true→ ∀ j,j < (ga nm b).length→IQ (iJ (ga nm b) j)
 | .nil,_=> uP
 | .cons s b,h=> by
  simp only [nG,Bool.and_eq_true] at h
  exact JK (zn nm s h.1) (kR nm b h.2)
end
theorem xy (nm:List Tx) (b:Bk) (h:nG b=true):IQ (lp nm b):=hQ 0 [] (ga nm b) (kR nm b h)

def fU (s:Tx) (l:List Tx):List Tx:=if s∈l then l else l++[s]
section
variable (nm:List Tx)
def oJ:Ex→List Tx→List Tx
 | .int _,l=> l | .bool _,l=> l | .name _,l=> l
 | .var i,l=> fU (nm.getD i []) l
 | .draw e,l=> oJ e l | .neg e,l=> oJ e l | .not e,l=> oJ e l
 | .bin _ a b,l=> oJ b (oJ a l)
 | .and a b,l=> oJ b (oJ a l)
 | .or a b,l=> oJ b (oJ a l)
mutual
def GF:Sm→List Tx→List Tx
 | .assign i e,l=> oJ nm e (fU (nm.getD i []) l)
 | .send t _ a b,l=> oJ nm b (oJ nm a (oJ nm t l))
 | .timer _,l=> l | .cancel _,l=> l | .sync,l=> l | .stop,l=> l
 | .reply a b,l=> oJ nm b (oJ nm a l)
 | .fail e,l=> oJ nm e l
 | .loop c b,l=> xr b (oJ nm c l)
 | .ite c a b,l=> xr b (xr a (oJ nm c l))
def xr:Bk→List Tx→List Tx
 | .nil,l=> l
 | .cons s b,l=> xr b (GF s l)
end
def GN (l:List Tx):Prop:=l.Nodup∧ ∀ x∈l,x∈nm
end
theorem GN.len {nm l:List Tx} (h:GN nm l):l.length≤nm.length:=h.1.length_le_of_subset fun x hx=> h.2 x hx
theorem GN.add {nm l:List Tx} (h:GN nm l) {i:Nat} (hi:i < nm.length):GN nm (fU (nm.getD i []) l):=by
 unfold fU
 split
 ·exact h
 ·rename_i hn
  refine ⟨List.nodup_append.2 ⟨h.1,by simp,fun a ha b hb e=> hn (by rw [List.mem_singleton.1 hb] at e;exact e ▸ ha)⟩,fun x hx=> ?_⟩
  rcases List.mem_append.1 hx with hx | hx
  ·exact h.2 x hx
  ·rw [List.mem_singleton.1 hx];exact gO hi
theorem GN.nil {nm:List Tx}:GN nm []:=⟨.nil,fun x hx=> by simp at hx⟩
theorem qs (n:Int) (s:Tx) (L:List Nd) (l:List Tx) (hs:s∉l) (hl:l.length≤1000) (F:Nat→List Tx) (hF:F 0=l++[s]) (h: ∀ j,j < L.length→Spec Tryz.prog 167 (bf [me (iJ L j), .sl (F j).length (ed (F j))] []) (aL (.sl (F (j+1)).length (ed (F (j+1)))) [])):
  Spec Tryz.prog 167 (bf [.agg [.v (.int .i64 1), .v (.int .i64 n), .v (bt s), .sl L.length (ko L)], .sl l.length (ed l)] []) (aL (.sl (F L.length).length (ed (F L.length))) []):=by
 refine Spec.ofN Tryz.func167 rfl Tryz.ntmps167 rfl ?_
 refine aq ?_
 refine jA 0 3 rfl rfl rfl fun hlen=> ?_
 unfold maxLen at hlen
 refine an (aj (bg (2,0) _ rfl rfl) (aj (bB _ (rfl:_=AV.v (.slice _ _ _))) (ai (aq (am (bu rfl rfl rfl (cw rfl rfl rfl (jv rfl rfl rfl (cE rfl (aN rfl rfl ah ?_))))))))))
 refine aN rfl rfl ah ?_
 refine aN rfl rfl ah ?_
 refine aj (az _ _ _ rfl (rfl:_=AV.v (.bool _))) (cE rfl (ax rfl rfl (aH _ (rfl:_=AV.sl _ _)) (ax rfl rfl (aD _ aa rfl rfl rfl) (ax rfl rfl (aG _ aa rfl rfl (rfl:_=some (AV.v (.string _)))) (ax rfl rfl (aC aa al (eW l _ rfl ab s) rfl rfl) ?_)))))
 refine ax rfl rfl (cL _ rfl rfl) (aj (az _ _ _ rfl (rfl:_=AV.v (.bool _))) (ai (bR rfl (by rw [decide_eq_false hs];rfl) ?_)))
 refine aq ?_
 refine aQ (σ':=aA 45 [(1,_),(2,_)] [((2,0),_)] [] []) kp ?_
 refine an (aj (bB _ (rfl:_=AV.v (.slice _ _ _))) (ai (am (aj (aH _ (rfl:_=AV.v (.slice _ _ _))) (eT rfl (aj (vU (24,0) _ _ aa rfl (.sl (by simp)) ab rfl) ?_))))))
 refine eE rfl (ai (an (fW rfl (bu rfl rfl rfl (aj (aG _ aa rfl rfl (rfl:_=some (AV.v (.string _)))) (aj (bi _ _ aa rfl ag (by (simp <;> rfl)) ah rfl) ?_))))))
 refine aj (de (29,0) _ _ aa rfl rfl (by simp) (.sl rfl) ab rfl (li _ _) (show l.length+1=(l++[s]).length by simp)) ?_
 refine eE rfl (ai (aT fun K6 hK6=> ?_))
 refine am (bc rfl (ai (au ?_)))
 refine aQ (Le.frzS 1 (ys:=ed (l++[s])) rfl rfl rfl (by rw [List.drop_zero,Nat.mul_one];exact List.take_of_length_le (by simp)) (by simp)) ?_
 refine bv (α:=Nat) (fun j=> j≤L.length) 45 [(2,_)] [((2,0),_)] (fun j=> [(6, .v (.int .i64 (j:Int))),(1, .sl (F j).length (ed (F j)))]) (fun j=> []) [] [] (fun j=> L.length - j) 0 ?_ (by
  refine Le.mkJ [] [] rfl ?_ ?_ trivial trivial ?_
  ·exact ⟨(iP rfl),(cd ag),(gS (by rw [hF]) (by rw [hF])),trivial⟩
  ·exact ⟨(cH rfl rfl rfl),trivial⟩
  ·kernel_rfl) ?_
 ·omega
 intro j hj
 refine aT fun K8 hK8=> ?_
 refine am (aV rfl (bu rfl rfl rfl (eY rfl rfl rfl (aj (bD _ aa rfl) (aj (bo _ _ rfl rfl rfl) (ai (aP rfl (fun hc34=> ?_) (fun hc34=> ?_))))))))
 ·skip
  refine bA (hK8 _ ?_)
  clear hK8;try clear K8
  refine aq (au (an (bu rfl rfl rfl (eY rfl rfl rfl (aV rfl (aj (bl _ _ aa rfl rfl _ rfl ab (by (simp only [aU,bj,bh,bq,bp,bE,bs];omega)) ag) ?_))))))
  refine aj (bZ _ aa rfl (by exact cp _ _ ab) rfl) ?_
  refine eT rfl (aj (aC aa al (h j ab) rfl rfl) ?_)
  refine jS rfl (gq (an (aV rfl (aj (aZ _ _ rfl rfl (bJ ab)) ?_))))
  refine bc rfl (aI (⟨j+1,?_,?_,?_⟩))
  ·omega
  ·skip
   refine Le.mkJ [] [] rfl ?_ ?_ trivial trivial ?_
   ·exact ⟨(iP rfl),(cd ag),(gS ag ag),trivial⟩
   ·exact ⟨(cH rfl rfl rfl),trivial⟩
   ·kernel_rfl
  ·omega
 ·skip
  obtain rfl:j=L.length:=by omega
  refine bI (id (hK6 _ ?_))
  clear hK6;try clear K6
  exact am (eT rfl (jS rfl (ai (aE (aW (.inr rfl) rfl (.tmp (rfl:_=AV.sl _ _)) (Le.out [] [] .sl rfl rfl rfl trivial trivial))))))
theorem qB (n:Int) (s:Tx) (L:List Nd) (l:List Tx) (hs:s∈l) (hl:l.length≤1000) (F:Nat→List Tx) (hF:F 0=l) (h: ∀ j,j < L.length→Spec Tryz.prog 167 (bf [me (iJ L j), .sl (F j).length (ed (F j))] []) (aL (.sl (F (j+1)).length (ed (F (j+1)))) [])):
  Spec Tryz.prog 167 (bf [.agg [.v (.int .i64 1), .v (.int .i64 n), .v (bt s), .sl L.length (ko L)], .sl l.length (ed l)] []) (aL (.sl (F L.length).length (ed (F L.length))) []):=by
 refine Spec.ofN Tryz.func167 rfl Tryz.ntmps167 rfl ?_
 refine aq ?_
 refine jA 0 3 rfl rfl rfl fun hlen=> ?_
 unfold maxLen at hlen
 refine an (aj (bg (2,0) _ rfl rfl) (aj (bB _ (rfl:_=AV.v (.slice _ _ _))) (ai (aq (am (bu rfl rfl rfl (cw rfl rfl rfl (jv rfl rfl rfl (cE rfl (aN rfl rfl ah ?_))))))))))
 refine aN rfl rfl ah ?_
 refine aN rfl rfl ah ?_
 refine aj (az _ _ _ rfl (rfl:_=AV.v (.bool _))) (cE rfl (ax rfl rfl (aH _ (rfl:_=AV.sl _ _)) (ax rfl rfl (aD _ aa rfl rfl rfl) (ax rfl rfl (aG _ aa rfl rfl (rfl:_=some (AV.v (.string _)))) (ax rfl rfl (aC aa al (eW l _ rfl ab s) rfl rfl) ?_)))))
 refine ax rfl rfl (cL _ rfl rfl) (aj (az _ _ _ rfl (rfl:_=AV.v (.bool _))) (ai (aS rfl (by rw [decide_eq_true hs];rfl) ?_)))
 refine aO (aT fun K4 hK4=> ?_)
 refine aq ?_
 refine aQ (σ':=aA 45 [(1,_),(2,_)] [((2,0),_)] [] []) kp ?_
 refine an (bc rfl (ai (au ?_)))
 refine bv (α:=Nat) (fun j=> j≤L.length) 45 [(2,_)] [((2,0),_)] (fun j=> [(6, .v (.int .i64 (j:Int))),(1, .sl (F j).length (ed (F j)))]) (fun j=> []) [] [] (fun j=> L.length - j) 0 ?_ (by
  refine Le.mkJ [] [] rfl ?_ ?_ trivial trivial ?_
  ·exact ⟨(iP rfl),(cd ag),(gS (by rw [hF]) (by rw [hF])),trivial⟩
  ·exact ⟨(cH rfl rfl rfl),trivial⟩
  ·kernel_rfl) ?_
 ·omega
 intro j hj
 refine aT fun K6 hK6=> ?_
 refine am (aV rfl (bu rfl rfl rfl (eY rfl rfl rfl (aj (bD _ aa rfl) (aj (bo _ _ rfl rfl rfl) (ai (aP rfl (fun hc34=> ?_) (fun hc34=> ?_))))))))
 ·skip
  refine bA (hK6 _ ?_)
  clear hK6;try clear K6
  refine aq (au (an (bu rfl rfl rfl (eY rfl rfl rfl (aV rfl (aj (bl _ _ aa rfl rfl _ rfl ab (by (simp only [aU,bj,bh,bq,bp,bE,bs];omega)) ag) ?_))))))
  refine aj (bZ _ aa rfl (by exact cp _ _ ab) rfl) ?_
  refine eT rfl (aj (aC aa al (h j ab) rfl rfl) ?_)
  refine jS rfl (gq (an (aV rfl (aj (aZ _ _ rfl rfl (bJ ab)) ?_))))
  refine bc rfl (aI (⟨j+1,?_,?_,?_⟩))
  ·omega
  ·skip
   refine Le.mkJ [] [] rfl ?_ ?_ trivial trivial ?_
   ·exact ⟨(iP rfl),(cd ag),(gS ag ag),trivial⟩
   ·exact ⟨(cH rfl rfl rfl),trivial⟩
   ·kernel_rfl
  ·omega
 ·skip
  obtain rfl:j=L.length:=by omega
  refine bI (id (hK4 _ ?_))
  clear hK4;try clear K4
  exact am (eT rfl (jS rfl (ai (aE (aW (.inr rfl) rfl (.tmp (rfl:_=AV.sl _ _)) (Le.out [] [] .sl rfl rfl rfl trivial trivial))))))
theorem oS (n:Int) (s:Tx) (L:List Nd) (l:List Tx) (hs:s∉l) (hl:l.length≤1000) (F:Nat→List Tx) (hF:F 0=l++[s]) (h: ∀ j,j < L.length→Spec Tryz.prog 167 (bf [me (iJ L j), .sl (F j).length (ed (F j))] []) (aL (.sl (F (j+1)).length (ed (F (j+1)))) [])):
  Spec Tryz.prog 167 (bf [.agg [.v (.int .i64 14), .v (.int .i64 n), .v (bt s), .sl L.length (ko L)], .sl l.length (ed l)] []) (aL (.sl (F L.length).length (ed (F L.length))) []):=by
 refine Spec.ofN Tryz.func167 rfl Tryz.ntmps167 rfl ?_
 refine aq ?_
 refine jA 0 3 rfl rfl rfl fun hlen=> ?_
 unfold maxLen at hlen
 refine an (aj (bg (2,0) _ rfl rfl) (aj (bB _ (rfl:_=AV.v (.slice _ _ _))) (ai (aq (am (bu rfl rfl rfl (cw rfl rfl rfl (fJ rfl rfl rfl (cE rfl (ax rfl rfl (aD _ aa rfl rfl rfl) ?_))))))))))
 refine ax rfl rfl (aG _ aa rfl rfl (rfl:_=some (AV.v (.int _ _)))) (ax rfl rfl (bH (r:=true) _ _ rfl rfl rfl) (aj (az _ _ _ rfl (rfl:_=AV.v (.bool _))) (cE rfl (ax rfl rfl (aH _ (rfl:_=AV.sl _ _)) (ax rfl rfl (aD _ aa rfl rfl rfl) (ax rfl rfl (aG _ aa rfl rfl (rfl:_=some (AV.v (.string _)))) (ax rfl rfl (aC aa al (eW l _ rfl ab s) rfl rfl) ?_)))))))
 refine ax rfl rfl (cL _ rfl rfl) (aj (az _ _ _ rfl (rfl:_=AV.v (.bool _))) (ai (bR rfl (by rw [decide_eq_false hs];rfl) ?_)))
 refine aq ?_
 refine aQ (σ':=aA 45 [(1,_),(2,_)] [((2,0),_)] [] []) kp ?_
 refine an (aj (bB _ (rfl:_=AV.v (.slice _ _ _))) (ai (am (aj (aH _ (rfl:_=AV.v (.slice _ _ _))) (eT rfl (aj (vU (24,0) _ _ aa rfl (.sl (by simp)) ab rfl) ?_))))))
 refine eE rfl (ai (an (fW rfl (bu rfl rfl rfl (aj (aG _ aa rfl rfl (rfl:_=some (AV.v (.string _)))) (aj (bi _ _ aa rfl ag (by (simp <;> rfl)) ah rfl) ?_))))))
 refine aj (de (29,0) _ _ aa rfl rfl (by simp) (.sl rfl) ab rfl (li _ _) (show l.length+1=(l++[s]).length by simp)) ?_
 refine eE rfl (ai (aT fun K6 hK6=> ?_))
 refine am (bc rfl (ai (au ?_)))
 refine aQ (Le.frzS 1 (ys:=ed (l++[s])) rfl rfl rfl (by rw [List.drop_zero,Nat.mul_one];exact List.take_of_length_le (by simp)) (by simp)) ?_
 refine bv (α:=Nat) (fun j=> j≤L.length) 45 [(2,_)] [((2,0),_)] (fun j=> [(6, .v (.int .i64 (j:Int))),(1, .sl (F j).length (ed (F j)))]) (fun j=> []) [] [] (fun j=> L.length - j) 0 ?_ (by
  refine Le.mkJ [] [] rfl ?_ ?_ trivial trivial ?_
  ·exact ⟨(iP rfl),(cd ag),(gS (by rw [hF]) (by rw [hF])),trivial⟩
  ·exact ⟨(cH rfl rfl rfl),trivial⟩
  ·kernel_rfl) ?_
 ·omega
 intro j hj
 refine aT fun K8 hK8=> ?_
 refine am (aV rfl (bu rfl rfl rfl (eY rfl rfl rfl (aj (bD _ aa rfl) (aj (bo _ _ rfl rfl rfl) (ai (aP rfl (fun hc34=> ?_) (fun hc34=> ?_))))))))
 ·skip
  refine bA (hK8 _ ?_)
  clear hK8;try clear K8
  refine aq (au (an (bu rfl rfl rfl (eY rfl rfl rfl (aV rfl (aj (bl _ _ aa rfl rfl _ rfl ab (by (simp only [aU,bj,bh,bq,bp,bE,bs];omega)) ag) ?_))))))
  refine aj (bZ _ aa rfl (by exact cp _ _ ab) rfl) ?_
  refine eT rfl (aj (aC aa al (h j ab) rfl rfl) ?_)
  refine jS rfl (gq (an (aV rfl (aj (aZ _ _ rfl rfl (bJ ab)) ?_))))
  refine bc rfl (aI (⟨j+1,?_,?_,?_⟩))
  ·omega
  ·skip
   refine Le.mkJ [] [] rfl ?_ ?_ trivial trivial ?_
   ·exact ⟨(iP rfl),(cd ag),(gS ag ag),trivial⟩
   ·exact ⟨(cH rfl rfl rfl),trivial⟩
   ·kernel_rfl
  ·omega
 ·skip
  obtain rfl:j=L.length:=by omega
  refine bI (id (hK6 _ ?_))
  clear hK6;try clear K6
  exact am (eT rfl (jS rfl (ai (aE (aW (.inr rfl) rfl (.tmp (rfl:_=AV.sl _ _)) (Le.out [] [] .sl rfl rfl rfl trivial trivial))))))
theorem oX (n:Int) (s:Tx) (L:List Nd) (l:List Tx) (hs:s∈l) (hl:l.length≤1000) (F:Nat→List Tx) (hF:F 0=l) (h: ∀ j,j < L.length→Spec Tryz.prog 167 (bf [me (iJ L j), .sl (F j).length (ed (F j))] []) (aL (.sl (F (j+1)).length (ed (F (j+1)))) [])):
  Spec Tryz.prog 167 (bf [.agg [.v (.int .i64 14), .v (.int .i64 n), .v (bt s), .sl L.length (ko L)], .sl l.length (ed l)] []) (aL (.sl (F L.length).length (ed (F L.length))) []):=by
 refine Spec.ofN Tryz.func167 rfl Tryz.ntmps167 rfl ?_
 refine aq ?_
 refine jA 0 3 rfl rfl rfl fun hlen=> ?_
 unfold maxLen at hlen
 refine an (aj (bg (2,0) _ rfl rfl) (aj (bB _ (rfl:_=AV.v (.slice _ _ _))) (ai (aq (am (bu rfl rfl rfl (cw rfl rfl rfl (fJ rfl rfl rfl (cE rfl (ax rfl rfl (aD _ aa rfl rfl rfl) ?_))))))))))
 refine ax rfl rfl (aG _ aa rfl rfl (rfl:_=some (AV.v (.int _ _)))) (ax rfl rfl (bH (r:=true) _ _ rfl rfl rfl) (aj (az _ _ _ rfl (rfl:_=AV.v (.bool _))) (cE rfl (ax rfl rfl (aH _ (rfl:_=AV.sl _ _)) (ax rfl rfl (aD _ aa rfl rfl rfl) (ax rfl rfl (aG _ aa rfl rfl (rfl:_=some (AV.v (.string _)))) (ax rfl rfl (aC aa al (eW l _ rfl ab s) rfl rfl) ?_)))))))
 refine ax rfl rfl (cL _ rfl rfl) (aj (az _ _ _ rfl (rfl:_=AV.v (.bool _))) (ai (aS rfl (by rw [decide_eq_true hs];rfl) ?_)))
 refine aO (aT fun K4 hK4=> ?_)
 refine aq ?_
 refine aQ (σ':=aA 45 [(1,_),(2,_)] [((2,0),_)] [] []) kp ?_
 refine an (bc rfl (ai (au ?_)))
 refine bv (α:=Nat) (fun j=> j≤L.length) 45 [(2,_)] [((2,0),_)] (fun j=> [(6, .v (.int .i64 (j:Int))),(1, .sl (F j).length (ed (F j)))]) (fun j=> []) [] [] (fun j=> L.length - j) 0 ?_ (by
  refine Le.mkJ [] [] rfl ?_ ?_ trivial trivial ?_
  ·exact ⟨(iP rfl),(cd ag),(gS (by rw [hF]) (by rw [hF])),trivial⟩
  ·exact ⟨(cH rfl rfl rfl),trivial⟩
  ·kernel_rfl) ?_
 ·omega
 intro j hj
 refine aT fun K6 hK6=> ?_
 refine am (aV rfl (bu rfl rfl rfl (eY rfl rfl rfl (aj (bD _ aa rfl) (aj (bo _ _ rfl rfl rfl) (ai (aP rfl (fun hc34=> ?_) (fun hc34=> ?_))))))))
 ·skip
  refine bA (hK6 _ ?_)
  clear hK6;try clear K6
  refine aq (au (an (bu rfl rfl rfl (eY rfl rfl rfl (aV rfl (aj (bl _ _ aa rfl rfl _ rfl ab (by (simp only [aU,bj,bh,bq,bp,bE,bs];omega)) ag) ?_))))))
  refine aj (bZ _ aa rfl (by exact cp _ _ ab) rfl) ?_
  refine eT rfl (aj (aC aa al (h j ab) rfl rfl) ?_)
  refine jS rfl (gq (an (aV rfl (aj (aZ _ _ rfl rfl (bJ ab)) ?_))))
  refine bc rfl (aI (⟨j+1,?_,?_,?_⟩))
  ·omega
  ·skip
   refine Le.mkJ [] [] rfl ?_ ?_ trivial trivial ?_
   ·exact ⟨(iP rfl),(cd ag),(gS ag ag),trivial⟩
   ·exact ⟨(cH rfl rfl rfl),trivial⟩
   ·kernel_rfl
  ·omega
 ·skip
  obtain rfl:j=L.length:=by omega
  refine bI (id (hK4 _ ?_))
  clear hK4;try clear K4
  exact am (eT rfl (jS rfl (ai (aE (aW (.inr rfl) rfl (.tmp (rfl:_=AV.sl _ _)) (Le.out [] [] .sl rfl rfl rfl trivial trivial))))))
theorem pX (k:Nat) (hk:k≠1∧k≠14) (n:Int) (s:Tx) (L:List Nd) (l:List Tx) (hl:l.length≤1000) (F:Nat→List Tx) (hF:F 0=l) (h: ∀ j,j < L.length→Spec Tryz.prog 167 (bf [me (iJ L j), .sl (F j).length (ed (F j))] []) (aL (.sl (F (j+1)).length (ed (F (j+1)))) [])):
  Spec Tryz.prog 167 (bf [.agg [.v (.int .i64 (k:Int)), .v (.int .i64 n), .v (bt s), .sl L.length (ko L)], .sl l.length (ed l)] []) (aL (.sl (F L.length).length (ed (F L.length))) []):=by
 refine Spec.ofN Tryz.func167 rfl Tryz.ntmps167 rfl ?_
 refine aq ?_
 refine jA 0 3 rfl rfl rfl fun hlen=> ?_
 unfold maxLen at hlen
 refine an (aj (bg (2,0) _ rfl rfl) (aj (bB _ (rfl:_=AV.v (.slice _ _ _))) (ai (aq (am (bu rfl rfl rfl (cw rfl rfl rfl (fJ rfl rfl (beq_eq_false_iff_ne.2 ab) ?_))))))))
 refine cE rfl (ax rfl rfl (aD _ aa rfl rfl rfl) (ax rfl rfl (aG _ aa rfl rfl (rfl:_=some (AV.v (.int _ _)))) (ax rfl rfl (bH (r:=false) _ _ rfl rfl (beq_eq_false_iff_ne.2 ab)) ?_)))
 refine aj (az _ _ _ rfl (rfl:_=AV.v (.bool _))) (cE rfl (aN rfl rfl ah ?_))
 refine aN rfl rfl ah ?_
 refine aN rfl rfl ah ?_
 refine aN rfl rfl ah ?_
 refine aN rfl rfl ah ?_
 refine aj (az _ _ _ rfl (rfl:_=AV.v (.bool _))) (ai (aS rfl rfl (aO (aT fun K4 hK4=> ?_))))
 refine aq ?_
 refine aQ (σ':=aA 45 [(1,_),(2,_)] [((2,0),_)] [] []) kp ?_
 refine an (bc rfl (ai (au ?_)))
 refine bv (α:=Nat) (fun j=> j≤L.length) 45 [(2,_)] [((2,0),_)] (fun j=> [(6, .v (.int .i64 (j:Int))),(1, .sl (F j).length (ed (F j)))]) (fun j=> []) [] [] (fun j=> L.length - j) 0 ?_ (by
  refine Le.mkJ [] [] rfl ?_ ?_ trivial trivial ?_
  ·exact ⟨(iP rfl),(cd ag),(gS (by rw [hF]) (by rw [hF])),trivial⟩
  ·exact ⟨(cH rfl rfl rfl),trivial⟩
  ·kernel_rfl) ?_
 ·omega
 intro j hj
 refine aT fun K6 hK6=> ?_
 refine am (aV rfl (bu rfl rfl rfl (eY rfl rfl rfl (aj (bD _ aa rfl) (aj (bo _ _ rfl rfl rfl) (ai (aP rfl (fun hc34=> ?_) (fun hc34=> ?_))))))))
 ·skip
  refine bA (hK6 _ ?_)
  clear hK6;try clear K6
  refine aq (au (an (bu rfl rfl rfl (eY rfl rfl rfl (aV rfl (aj (bl _ _ aa rfl rfl _ rfl ab (by (simp only [aU,bj,bh,bq,bp,bE,bs];omega)) ag) ?_))))))
  refine aj (bZ _ aa rfl (by exact cp _ _ ab) rfl) ?_
  refine eT rfl (aj (aC aa al (h j ab) rfl rfl) ?_)
  refine jS rfl (gq (an (aV rfl (aj (aZ _ _ rfl rfl (bJ ab)) ?_))))
  refine bc rfl (aI (⟨j+1,?_,?_,?_⟩))
  ·omega
  ·skip
   refine Le.mkJ [] [] rfl ?_ ?_ trivial trivial ?_
   ·exact ⟨(iP rfl),(cd ag),(gS ag ag),trivial⟩
   ·exact ⟨(cH rfl rfl rfl),trivial⟩
   ·kernel_rfl
  ·omega
 ·skip
  obtain rfl:j=L.length:=by omega
  refine bI (id (hK4 _ ?_))
  clear hK4;try clear K4
  exact am (eT rfl (jS rfl (ai (aE (aW (.inr rfl) rfl (.tmp (rfl:_=AV.sl _ _)) (Le.out [] [] .sl rfl rfl rfl trivial trivial))))))
def ez (fs:List (List Tx→List Tx)) (l:List Tx):List Tx:=fs.foldl (fun l f=> f l) l
theorem ii {fs:List (List Tx→List Tx)} {l:List Tx} {j:Nat} (h:j < fs.length):ez (fs.take (j+1)) l=fs.getD j id (ez (fs.take j) l):=by
 rw [List.take_succ_eq_append_getElem h]
 unfold ez
 rw [List.foldl_append,List.getD_eq_getElem?_getD,List.getElem?_eq_getElem h];rfl
abbrev ta (nm:List Tx) (d:Nd) (f:List Tx→List Tx):Prop:= ∀ l,GN nm l→Spec Tryz.prog 167 (bf [me d, .sl l.length (ed l)] []) (aL (.sl (f l).length (ed (f l))) [])∧GN nm (f l)
section
variable {nm:List Tx} (hnm:nm.length≤16) {L:List Nd} {fs:List (List Tx→List Tx)} (hfs:fs.length=L.length) (h: ∀ j,j < L.length→ta nm (iJ L j) (fs.getD j id))
theorem np (hfs:fs.length=L.length) (h: ∀ j,j < L.length→ta nm (iJ L j) (fs.getD j id)) {l:List Tx} (hl:GN nm l): ∀ j,j≤L.length→GN nm (ez (fs.take j) l)
 | 0,_=> by simpa [ez] using hl
 | j+1,hj=> by
  rw [ii ab]
  exact (h j ab _ (np hfs h hl j ab)).2
theorem ck (hnm:nm.length≤16) (hfs:fs.length=L.length) (h: ∀ j,j < L.length→ta nm (iJ L j) (fs.getD j id)) (k:Nat) (hk:k≠1∧k≠14) (n:Nat) (s:Tx):ta nm (nd k n s L) (ez fs):=fun l hl=> by
 have hg:=np hfs h hl
 have he:ez (fs.take L.length) l=ez fs l:=by rw [← hfs,List.take_length]
 have hw:=pX k hk n s L l (by have:=hl.len;omega) (fun j=> ez (fs.take j) l) rfl fun j hj=> by
  rw [show ez (fs.take (j+1)) l=_ from ii ab]
  exact (h j hj _ (hg j ab)).1
 rw [he] at hw
 exact ⟨hw,he ▸ hg _ (Nat.le_refl _)⟩
theorem sS (hnm:nm.length≤16) (hfs:fs.length=L.length) (h: ∀ j,j < L.length→ta nm (iJ L j) (fs.getD j id)) (n:Nat) {i:Nat} (hi:i < nm.length):ta nm (nd 1 n (nm.getD i []) L) (fun l=> ez fs (fU (nm.getD i []) l)):=fun l hl=> by
 have hg:=np hfs h (hl.add hi)
 have he:ez (fs.take L.length) (fU (nm.getD i []) l)=ez fs (fU (nm.getD i []) l):=by rw [← hfs,List.take_length]
 have hkid: ∀ j,j < L.length→_:=fun j hj=> (h j hj _ (hg j ab)).1
 have hll:=hl.len
 show Spec _ _ _ (aL (.sl (ez fs (fU (nm.getD i []) l)).length (ed (ez fs (fU (nm.getD i []) l)))) [])∧GN nm (ez fs (fU (nm.getD i []) l))
 rw [← he]
 refine ⟨?_,hg _ (Nat.le_refl _)⟩
 by_cases hs:nm.getD i []∈l
 ·exact qB n _ L l hs ab (fun j=> ez (fs.take j) (fU (nm.getD i []) l)) (by show fU _ l=l;unfold fU;rw [if_pos hs]) fun j hj=> by
   rw [show ez (fs.take (j+1)) (fU (nm.getD i []) l)=_ from ii ab]
   exact hkid j hj
 ·exact qs n _ L l hs ab (fun j=> ez (fs.take j) (fU (nm.getD i []) l)) (by show fU _ l=_;unfold fU;rw [if_neg hs]) fun j hj=> by
   rw [show ez (fs.take (j+1)) (fU (nm.getD i []) l)=_ from ii ab]
   exact hkid j hj
end
theorem tc {nm:List Tx} (hnm:nm.length≤16) {i:Nat} (hi:i < nm.length):ta nm (nd 14 0 (nm.getD i []) []) (fU (nm.getD i [])):=fun l hl=> by
 have hll:=hl.len
 refine ⟨?_,hl.add hi⟩
 by_cases hs:nm.getD i []∈l
 ·exact oX 0 _ [] l hs ab (fun _=> fU (nm.getD i []) l) (by show fU _ l=l;unfold fU;rw [if_pos hs]) fun j hj=> by simp at hj
 ·exact oS 0 _ [] l hs ab (fun _=> fU (nm.getD i []) l) (by show fU _ l=_;unfold fU;rw [if_neg hs]) fun j hj=> by simp at hj
section
variable {nm:List Tx}
abbrev wi (nm:List Tx) (L:List Nd) (fs:List (List Tx→List Tx)):Prop:= ∀ j,j < L.length→ta nm (iJ L j) (fs.getD j id)
theorem oq:wi nm [] []:=fun j hj=> by simp at hj
theorem nI {d:Nd} {f:List Tx→List Tx} {L:List Nd} {fs:List (List Tx→List Tx)} (h:ta nm d f) (h':wi nm L fs):wi nm (d::L) (f::fs):=fun j hj=> by
 cases j with
 | zero=> exact h
 | succ j=> exact h' j (by simpa using hj)
theorem cV (hnm:nm.length≤16): ∀ e:Ex,fy nm.length e→ta nm (dK nm e) (oJ nm e)
 | .int _,_=> ck hnm rfl oq 12 ab _ _
 | .bool _,_=> ck hnm rfl oq 13 ab _ _
 | .name _,_=> ck hnm rfl oq 15 ab _ _
 | .var i,h=> tc hnm h
 | .draw e,h=> ck hnm rfl (nI (cV hnm e h) oq) 16 ab _ _
 | .neg e,h=> ck hnm rfl (nI (cV hnm e h) oq) 17 ab _ _
 | .not e,h=> ck hnm rfl (nI (cV hnm e h) oq) 17 ab _ _
 | .bin _ a b,h=> ck hnm rfl (nI (cV hnm a h.1) (nI (cV hnm b h.2) oq)) 18 ab _ _
 | .and a b,h=> ck hnm rfl (nI (cV hnm a h.1) (nI (cV hnm b h.2) oq)) 18 ab _ _
 | .or a b,h=> ck hnm rfl (nI (cV hnm a h.1) (nI (cV hnm b h.2) oq)) 18 ab _ _
def Ae (nm:List Tx):Bk→List (List Tx→List Tx)
 | .nil=> []
 | .cons s b=> GF nm s::Ae nm b
theorem sD (nm:List Tx): ∀ b:Bk,(Ae nm b).length=(ga nm b).length
 | .nil=> by simp [Ae,ga]
 | .cons s b=> by simp [Ae,ga,sD nm b]
theorem ql (nm:List Tx): ∀ (b:Bk) (l:List Tx),ez (Ae nm b) l=xr nm b l
 | .nil,l=> rfl
 | .cons s b,l=> by rw [xr,← ql nm b];rfl
theorem jC (hnm:nm.length≤16) {b:Bk} (h:wi nm (ga nm b) (Ae nm b)):ta nm (lp nm b) (xr nm b):=by
 have:=ck hnm (sD nm b) h 11 ab 0 []
 rwa [show ez (Ae nm b)=xr nm b from funext (ql nm b)] at this
mutual
theorem vR (hnm:nm.length≤16): ∀ s:Sm,fa nm.length s→ta nm (zl nm s) (GF nm s)
 | .assign i e,h=> by rw [fa] at h;exact sS hnm rfl (nI (cV hnm e h.2) oq) 0 h.1
 | .send t k a b,h=> by rw [fa] at h;exact ck hnm rfl (nI (cV hnm t h.2.1) (nI (cV hnm a h.2.2.1) (nI (cV hnm b h.2.2.2) oq))) 4 ab _ _
 | .timer _,_=> ck hnm rfl oq 5 ab _ _
 | .cancel _,_=> ck hnm rfl oq 6 ab _ _
 | .sync,_=> ck hnm rfl oq 7 ab _ _
 | .stop,_=> ck hnm rfl oq 10 ab _ _
 | .reply a b,h=> by rw [fa] at h;exact ck hnm rfl (nI (cV hnm a h.1) (nI (cV hnm b h.2) oq)) 8 ab _ _
 | .fail e,h=> by rw [fa] at h;exact ck hnm rfl (nI (cV hnm e h) oq) 9 ab _ _
 | .loop c b,h=> by rw [fa] at h;exact ck hnm rfl (nI (cV hnm c h.1) (nI (jC hnm (jh hnm b h.2)) oq)) 3 ab _ _
 | .ite c a b,h=> by rw [fa] at h;exact ck hnm rfl (nI (cV hnm c h.1) (nI (jC hnm (jh hnm a h.2.1)) (nI (jC hnm (jh hnm b h.2.2)) oq))) 2 ab _ _
theorem jh (hnm:nm.length≤16): ∀ b:Bk,iu nm.length b→wi nm (ga nm b) (Ae nm b)
 | .nil,_=> oq
 | .cons s b,h=> by rw [iu] at h;exact nI (vR hnm s h.1) (jh hnm b h.2)
end
theorem uX (hnm:nm.length≤16) (b:Bk) (h:iu nm.length b):ta nm (lp nm b) (xr nm b):=jC hnm (jh hnm b h)
end

theorem kw {l:List Tx} (h:l.Nodup) {i j:Nat} (hi:i < l.length) (hj:j < l.length) (e:l.getD i []=l.getD j []):i=j:=by
 rw [List.getD_eq_getElem?_getD,List.getD_eq_getElem?_getD,List.getElem?_eq_getElem hi,List.getElem?_eq_getElem hj] at e
 have h:=List.pairwise_iff_getElem.1 h
 rcases Nat.lt_trichotomy i j with hlt | rfl | hlt
 ·exact absurd (Option.some.inj (by simpa using e)) (h i j hi hj hlt)
 ·rfl
 ·exact absurd (Option.some.inj (by simpa using e)).symm (h j i hj hi hlt)
theorem oB {a b:List Tx} {k:Nat} (h:k < a.length):a.getD k []=(a++b).getD k []:=by
 rw [List.getD_eq_getElem?_getD,List.getD_eq_getElem?_getD,List.getElem?_append_left h]
theorem getD_right {a b:List Tx} {k:Nat}:b.getD k []=(a++b).getD (a.length+k) []:=by
 rw [List.getD_eq_getElem?_getD,List.getD_eq_getElem?_getD,List.getElem?_append_right ab,Nat.add_sub_cancel_left]
theorem kk (d v:List Tx) (on:List PV) (no:Nat) (hn:(d++v).Nodup) (hl:(d++v).length≤1000) (i:Nat) (hi:i < (d++v).length):
  Spec Tryz.prog 121 (bf [.agg [.sl d.length (ed d), .sl v.length (ed v), .sl no on], .v (bt ((d++v).getD i []))] []) (aL (.v (.int .i64 (i:Int))) []):=by
 have hl2:(d++v).length=d.length+v.length:=List.length_append
 refine Spec.ofN Tryz.func121 rfl Tryz.ntmps121 rfl ?_
 refine am (aj (bg (2,0) _ rfl rfl) (bc rfl (ai (aT fun K2 hK2=> ?_))))
 refine am (bc rfl (ai (au ?_)))
 refine bv (α:=Nat) (fun k=> k≤d.length∧k≤i) 41 [(1,_),(2,_)] [((2,0),_)] (fun k=> [(5, .v (.int .i64 (k:Int)))]) (fun k=> []) [] [] (fun k=> d.length - k) 0 ?_ (by
  refine Le.mkJ [] [] rfl ?_ ?_ trivial trivial ?_
  ·exact ⟨(iV rfl),(iP rfl),(cd ag),trivial⟩
  ·exact ⟨(cH rfl rfl rfl),trivial⟩
  ·kernel_rfl) ?_
 ·exact ⟨Nat.zero_le _,Nat.zero_le _⟩
 intro k hk
 obtain ⟨hk,hki⟩:=hk
 refine aT fun K4 hK4=> ?_
 refine am (aV rfl (bu rfl rfl rfl (eY rfl rfl rfl (aj (bD _ aa rfl) (aj (bo _ _ rfl rfl rfl) (ai (aP rfl (fun hc11=> ?_) (fun hc11=> ?_))))))))
 ·skip
  refine bA (hK4 _ ?_)
  clear hK4;try clear K4
  refine aq (au (am (bu rfl rfl rfl (eY rfl rfl rfl (aV rfl (aj (bl _ _ aa rfl rfl _ rfl ab (by (simp only [aU,bj,bh,bq,bp,bE,bs,List.length_map];omega)) (by exact Nat.mul_one _)) ?_))))))
  refine aj (bU _ aa rfl (by exact ik _ _ ab) rfl) ?_
  refine dv rfl (aj (aK _ _ Tryz.underlying9 rfl rfl rfl) (ai (aP rfl (fun hc20=> ?_) (fun hc20=> ?_))))
  ·skip
   have he:k=i:=kw hn ab hi ((oB ab).symm.trans hc20)
   refine am (aV rfl (bc rfl (ai (aE (aW (.inr rfl) rfl (.tmp (rfl:_=AV.v (.int _ _))) (Le.out [] [] (cd ?_) rfl rfl rfl trivial trivial))))))
   rw [he]
  ·skip
   have he:k≠i:=fun e=> hc20 ((oB ab).trans (by rw [e]))
   refine cf (an (aV rfl (aj (aZ _ _ rfl rfl (bJ ab)) ?_)))
   refine bc rfl (aI (⟨k+1,?_,?_,?_⟩))
   ·exact ⟨by omega,by omega⟩
   ·skip
    refine Le.mkJ [] [] rfl ?_ ?_ trivial trivial ?_
    ·exact ⟨(iV rfl),(iP rfl),(cd ag),trivial⟩
    ·exact ⟨(cH rfl rfl rfl),trivial⟩
    ·kernel_rfl
   ·omega
 ·skip
  refine bI (id (hK2 _ ?_))
  clear hK2;try clear K2
  refine aq (am (bc rfl (ai (au ?_))))
  refine bv (α:=Nat) (fun q=> q≤v.length∧d.length+q≤i) 41 [(1,_),(2,_)] [((2,0),_)] (fun q=> [(6, .v (.int .i64 (q:Int)))]) (fun q=> []) [] [] (fun q=> v.length - q) 0 ?_ (by
   refine Le.mkJ [] [] rfl ?_ ?_ trivial trivial ?_
   ·exact ⟨(iV rfl),(iP rfl),(cd ag),trivial⟩
   ·exact ⟨(cH rfl rfl rfl),trivial⟩
   ·kernel_rfl) ?_
  ·exact ⟨Nat.zero_le _,by omega⟩
  intro q hq
  obtain ⟨hq,hqi⟩:=hq
  refine aT fun K11 hK11=> ?_
  refine am (aV rfl (bu rfl rfl rfl (eY rfl rfl rfl (aj (bD _ aa rfl) (aj (bo _ _ rfl rfl rfl) (ai (aP rfl (fun hc26=> ?_) (fun hc26=> ?_))))))))
  ·skip
   refine bA (hK11 _ ?_)
   clear hK11;try clear K11
   refine aq (au (am (bu rfl rfl rfl (eY rfl rfl rfl (aV rfl (aj (bl _ _ aa rfl rfl _ rfl ab (by (simp only [aU,bj,bh,bq,bp,bE,bs,List.length_map];omega)) (by exact Nat.mul_one _)) ?_))))))
   refine aj (bU _ aa rfl (by exact ik _ _ ab) rfl) ?_
   refine dv rfl (aj (aK _ _ Tryz.underlying9 rfl rfl rfl) (ai (aP rfl (fun hc35=> ?_) (fun hc35=> ?_))))
   ·skip
    have he:d.length+q=i:=kw hn ab hi (getD_right.symm.trans hc35)
    refine am (bu rfl rfl rfl (eY rfl rfl rfl (aj (bD _ aa rfl) (aV rfl (aj (aZ _ _ rfl rfl (bJ ab)) ?_)))))
    refine bc rfl (ai (aE (aW (.inr rfl) rfl (.tmp (rfl:_=AV.v (.int _ _))) (Le.out [] [] (cd ?_) rfl rfl rfl trivial trivial))))
    omega
   ·skip
    have he:d.length+q≠i:=fun e=> hc35 (getD_right.trans (by rw [e]))
    refine cf (an (aV rfl (aj (aZ _ _ rfl rfl (bJ ab)) ?_)))
    refine bc rfl (aI (⟨q+1,?_,?_,?_⟩))
    ·exact ⟨by omega,by omega⟩
    ·skip
     refine Le.mkJ [] [] rfl ?_ ?_ trivial trivial ?_
     ·exact ⟨(iV rfl),(iP rfl),(cd ag),trivial⟩
     ·exact ⟨(cH rfl rfl rfl),trivial⟩
     ·kernel_rfl
    ·omega
  ·skip
   exact absurd hqi ab
theorem wx (ons:List (Nat×Bk)) (nm:List Tx) (k:Nat) (h:k < ons.length):lu (ons.map fun p=> (p.1,lp nm p.2)) k=((ons[k]).1,lp nm (ons[k]).2):=by
 rw [lG _ _ (by simpa using h),List.getElem_map]
theorem pN (l:List Hd) (k:Nat) (h:k < l.length):PV.ups (((kU l).drop (k*5+1)).take 4)=[.v (.int .i64 ((lu l k).2.k:Int)), .v (.int .i64 ((lu l k).2.n:Int)), .v (bt (lu l k).2.s), .sl (lu l k).2.kn (lu l k).2.kids]:=by
 have e:=nc uF 5 (fun _=> rfl) l k h
 have:((kU l).drop (k*5+1)).take 4=(((l.flatMap uF).drop (k*5)).take 5).drop 1:=by
  rw [List.drop_take,List.drop_drop];rfl
 rw [this,e,lG l k h];rfl
theorem mV (d v:List Tx) (ons:List (Nat×Bk)) (hn:(d++v).Nodup) (hl:(d++v).length≤16) (ho: ∀ p∈ons,iu (d++v).length p.2) (hw: ∀ p∈ons,nG p.2=true) (hc:ons.length≤1000):
  Spec Tryz.prog 97 (bf [Dd d v (ons.map fun p=> (p.1,lp (d++v) p.2))] []) (aL (.v (.int .i64 0)) []):=by
 obtain ⟨H,hH⟩: ∃ H,H=ons.map fun p=> (p.1,lp (d++v) p.2):=⟨_,rfl⟩
 have hHl:H.length=ons.length:=by rw [hH,List.length_map]
 rw [← hH]
 have hHk: ∀ k (h:k < ons.length),lu H k=((ons[k]).1,lp (d++v) (ons[k]).2):=fun k h=> by rw [hH];exact wx ons _ k h
 clear hH
 refine Spec.ofN Tryz.func97 rfl Tryz.ntmps97 rfl ?_
 refine am (aj (bg (1,0) _ rfl rfl) (bc rfl (ai (aT fun K2 hK2=> ?_))))
 refine am (bc rfl (ai (au ?_)))
 refine bv (α:=Nat) (fun k=> k≤H.length) 43 [(1,_)] [((1,0),_)] (fun k=> [(3, .v (.int .i64 (k:Int)))]) (fun k=> []) [] [] (fun k=> H.length - k) 0 ?_ (by
  refine Le.mkJ [] [] rfl ?_ ?_ trivial trivial ?_
  ·exact ⟨(iP rfl),(cd ag),trivial⟩
  ·exact ⟨(cH rfl rfl rfl),trivial⟩
  ·kernel_rfl) ?_
 ·omega
 intro k hk
 refine aT fun K4 hK4=> ?_
 refine am (aV rfl (bu rfl rfl rfl (eY rfl rfl rfl (aj (bD _ aa rfl) (aj (bo _ _ rfl rfl rfl) (ai (aP rfl (fun hc11=> ?_) (fun hc11=> ?_))))))))
 ·skip
  have hk2:k < ons.length:=by omega
  obtain ⟨b,hb⟩: ∃ b,b=(ons[k]).2:=⟨_,rfl⟩
  have hkH:=hHk k hk2
  rw [← hb] at hkH
  have hwb:=xy (d++v) b (hb ▸ hw _ (List.getElem_mem hk2))
  obtain ⟨hnb,hng⟩:=uX hl b (hb ▸ ho _ (List.getElem_mem hk2)) [] GN.nil
  have hbody:=pN H k ab
  rw [hkH] at hbody
  generalize xr (d++v) b []=M at hnb hng
  have hMl:=hng.len
  refine bA (hK4 _ ?_)
  clear hK4;try clear K4
  refine aT fun K6 hK6=> ?_
  refine au (am (bu rfl rfl rfl (eY rfl rfl rfl (aV rfl (aj (bl _ _ aa rfl rfl _ rfl ab (by (simp only [aU,bj,bh,bq,bp,bE,bs,List.length_map];omega)) ag) ?_)))))
  refine aj (cQ _ aa rfl rfl) (aj (bZ _ aa rfl (by exact hbody) rfl) ?_)
  refine aj (aC aa al (hwb) rfl rfl) ?_
  refine ce rfl (ai (aq (am (cE rfl (aj (cL (r:=false) _ rfl rfl) (ai (aS rfl rfl (aO (aq ?_)))))))))
  refine aQ (σ':=aA 43 [(1,_),(3,_)] [((1,0),_)] [] []) kp ?_
  refine an (bu rfl rfl rfl (eY rfl rfl rfl (aV rfl (aj (bl _ _ aa rfl rfl _ rfl ab (by (simp only [aU,bj,bh,bq,bp,bE,bs,List.length_map];omega)) ag) ?_))))
  refine aj (cQ _ aa rfl rfl) (aj (bZ _ aa rfl (by exact hbody) rfl) ?_)
  refine aj (aC aa al (hnb) rfl rfl) ?_
  refine jS rfl (ai (am (bc rfl (ai (au ?_)))))
  refine bv (α:=Nat) (fun q=> q≤M.length) 43 [(1,_),(3,_),(5,_)] [((1,0),_)] (fun q=> [(6, .v (.int .i64 (q:Int)))]) (fun q=> []) [] [] (fun q=> M.length - q) 0 ?_ (by
   refine Le.mkJ [] [] rfl ?_ ?_ trivial trivial ?_
   ·exact ⟨(iP rfl),(iV rfl),(iS rfl),(cd ag),trivial⟩
   ·exact ⟨(cH rfl rfl rfl),trivial⟩
   ·kernel_rfl) ?_
  ·omega
  intro q hq
  refine aT fun K12 hK12=> ?_
  refine am (aV rfl (eT rfl (aj (bD _ aa rfl) (aj (bo _ _ rfl rfl rfl) (ai (aP rfl (fun hc33=> ?_) (fun hc33=> ?_)))))))
  ·skip
   obtain ⟨i,hi,hiq⟩: ∃ i,i < (d++v).length∧M.getD q []=(d++v).getD i []:=by
    have hm:=hng.2 _ (gO (show q < M.length by omega))
    obtain ⟨i,hi,he⟩:=List.getElem_of_mem hm
    exact ⟨i,hi,by rw [List.getD_eq_getElem?_getD (l:=d++v),List.getElem?_eq_getElem hi,← he];rfl⟩
   have hix:=kk d v (kU H) H.length hn ab i hi
   rw [← hiq] at hix
   refine bA (hK12 _ ?_)
   clear hK12;try clear K12
   refine aq (au (aq ?_))
   refine aQ (σ':=aA 43 [(1,_),(3,_),(5,_),(6,_)] [((1,0),_)] [] []) kp ?_
   refine bT 7 [36,37,38,39,40,41,42] [] ae ae rfl (aM rfl) (rfl:_=[_,_,_,_,_,_,_]) (rfl:_=[]) ?_
   refine ap (_,[]) (fun τ=> aX _ aa rfl rfl rfl rfl) ?_
   refine fO rfl ?_
   refine ap (_,[]) (fun τ=> aH _ (rfl:_=AV.sl _ _)) ?_
   refine fR rfl ?_
   refine ap (_,[]) (fun τ=> aH _ (rfl:_=AV.v (.int _ _))) ?_
   refine fT rfl ?_
   refine ap (_,[]) (fun τ=> bl _ _ aa rfl rfl _ rfl ab (by (simp only [aU,bj,bh,bq,bp,bE,bs,List.length_map];omega)) (by exact Nat.mul_one _)) ?_
   refine fP rfl ?_
   refine ap (_,[]) (fun τ=> bU _ aa rfl (by exact ik _ _ ab) rfl) ?_
   refine gb rfl ?_
   refine ap (_,[]) (fun τ=> (aC aa al (hix) rfl rfl)) ?_
   refine gC rfl ?_
   refine ap (_,[]) (fun τ=> bo (r:=false) _ _ rfl rfl (decide_eq_false ab)) ?_
   refine iy rfl (bw ⟨rfl,?_⟩)
   refine ai (aS rfl rfl (cf (an (aV rfl (aj (aZ _ _ rfl rfl (bJ ab)) ?_)))))
   refine bc rfl (aI (⟨q+1,?_,?_,?_⟩))
   ·omega
   ·skip
    refine Le.mkJ [] [] rfl ?_ ?_ trivial trivial ?_
    ·exact ⟨(iP rfl),(iV rfl),(iS rfl),(cd ag),trivial⟩
    ·exact ⟨(cH rfl rfl rfl),trivial⟩
    ·kernel_rfl
   ·omega
  ·skip
   refine bI (id (hK6 _ ?_))
   clear hK6;try clear K6
   refine an (aV rfl (aj (aZ _ _ rfl rfl (bJ ab)) ?_))
   refine bc rfl (aI (⟨k+1,?_,?_,?_⟩))
   ·omega
   ·skip
    refine Le.mkJ [] [] rfl ?_ ?_ trivial trivial ?_
    ·exact ⟨(iP rfl),(cd ag),trivial⟩
    ·exact ⟨(cH rfl rfl rfl),trivial⟩
    ·kernel_rfl
   ·omega
 ·skip
  refine bI (id (hK2 _ ?_))
  clear hK2;try clear K2
  exact am (bc rfl (ai (aE (aW (.inr rfl) rfl (.tmp (rfl:_=AV.v _)) (Le.out [] [] .v rfl rfl rfl trivial trivial)))))

theorem kK (C:List dY):((inl C).drop 0).take (C.length*2)=inl C:=List.take_of_length_le (by rw [List.drop_zero,bF];exact Nat.le_refl _)
theorem jb (C:List dY):0+C.length*2≤(inl C).length:=by rw [bF,Nat.zero_add];exact Nat.le_refl _
theorem sR (l:List Tx) (n:Nat) (hn:l.length=n) (h1:n≤1000) (hd:l.Nodup) (i:Nat) (hi:i < n):Spec Tryz.prog 122 (bf [.sl n (ed l), .v (bt (l.getD i []))] []) (aL (.v (.int .i64 (i:Int))) []):=by
 refine Spec.ofN Tryz.func122 rfl Tryz.ntmps122 rfl ?_
 refine am (bc rfl (ai (aq (am (bc rfl (ai (au ?_)))))))
 refine bv (α:=Nat) (fun k=> k≤n∧k≤i) 19 [(0,_),(1,_)] [] (fun k=> [(5, .v (.int .i64 (k:Int)))]) (fun k=> []) [] [] (fun k=> n - k) 0 ?_ (by
  refine Le.mkJ [] [] rfl ?_ ?_ trivial trivial ?_
  ·exact ⟨(iS rfl),(iV rfl),(cd ag),trivial⟩
  ·exact trivial
  ·kernel_rfl) ?_
 ·exact ⟨Nat.zero_le _,Nat.zero_le _⟩
 intro k hk
 obtain ⟨hk,hki⟩:=hk
 refine aT fun K4 hK4=> ?_
 refine am (aV rfl (eT rfl (aj (bD _ aa rfl) (aj (bo _ _ rfl rfl rfl) (ai (aP rfl (fun hc9=> ?_) (fun hc9=> ?_)))))))
 ·skip
  refine bA (hK4 _ ?_)
  clear hK4;try clear K4
  refine aq (au (am (eT rfl (aV rfl (aj (bl _ _ aa rfl rfl _ rfl ab (by (simp only [aU,bj,bh,bq,bp,bE,bs,bF];omega)) (by exact Nat.mul_one _)) ?_)))))
  refine aj (bU _ aa rfl (by exact ik _ _ ab) rfl) ?_
  refine dv rfl (aj (aK _ _ Tryz.underlying9 rfl rfl rfl) (ai (aP rfl (fun hc17=> ?_) (fun hc17=> ?_))))
  ·skip
   have he:k=i:=kw hd ab ab hc17
   refine am (aV rfl (bc rfl (ai (aE (aW (.inr rfl) rfl (.tmp (rfl:_=AV.v (.int _ _))) (Le.out [] [] (cd ?_) rfl rfl rfl trivial trivial))))))
   rw [he]
  ·skip
   have he:k≠i:=fun e=> hc17 (by rw [e])
   refine cf (an (aV rfl (aj (aZ _ _ rfl rfl (bJ ab)) ?_)))
   refine bc rfl (aI (⟨k+1,?_,?_,?_⟩))
   ·exact ⟨by omega,by omega⟩
   ·skip
    refine Le.mkJ [] [] rfl ?_ ?_ trivial trivial ?_
    ·exact ⟨(iS rfl),(iV rfl),(cd ag),trivial⟩
    ·exact trivial
    ·kernel_rfl
   ·omega
 ·skip
  exact absurd hki ab
theorem mj:Spec Tryz.prog 123 (bf [] []) (aL (.sl 9 (ed bltT)) []):=by
 refine Spec.ofN Tryz.func123 rfl Tryz.ntmps123 rfl ?_
 refine am (aj (bB _ (rfl:_=AV.v (.slice _ _ _))) (ai (am (aj (bi _ _ aa rfl ag (by (simp <;> rfl)) ah rfl) ?_))))
 exact jS rfl (ai (aE (aW (.inr rfl) rfl (.tmp (rfl:_=AV.sl _ _)) (Le.out [] [] .sl rfl rfl rfl trivial trivial))))
theorem wn:Spec Tryz.prog 126 (bf [.v (bt [43])] []) (aL (.sl (Bo.add).code.length (inl (Bo.add).code)) []):=by
 refine Spec.ofN Tryz.func126 rfl Tryz.ntmps126 rfl ?_
 refine am (aj (bB _ (rfl:_=AV.v (.slice _ _ _))) (ai (aq (am (dv rfl (ai (au (am (aj (aK (r:=true) _ _ Tryz.underlying9 rfl rfl rfl) (ce rfl ?_))))))))))
 refine ai (bR rfl rfl (am (aj (aF _ aa rfl (by exact (rfl:_=some [_,_]))) ?_)))
 refine aj (bi _ _ aa rfl ag (by (simp <;> rfl)) ah rfl) ?_
 exact jS rfl (ai (aE (aW (.inr rfl) rfl (.tmp (rfl:_=AV.sl _ _)) (Le.out [] [] .sl rfl rfl rfl trivial trivial))))
theorem wK:Spec Tryz.prog 126 (bf [.v (bt [45])] []) (aL (.sl (Bo.sub).code.length (inl (Bo.sub).code)) []):=by
 refine Spec.ofN Tryz.func126 rfl Tryz.ntmps126 rfl ?_
 refine am (aj (bB _ (rfl:_=AV.v (.slice _ _ _))) (ai (aq (am (dv rfl (ai (au (am (aj (aK (r:=false) _ _ Tryz.underlying9 rfl rfl rfl) (ce rfl ?_))))))))))
 refine ai (aS rfl rfl (am (aj (aK (r:=true) _ _ Tryz.underlying9 rfl rfl rfl) (ce rfl (ai (bR rfl rfl (am (aj (aF _ aa rfl (by exact (rfl:_=some [_,_]))) ?_))))))))
 refine aj (bi _ _ aa rfl ag (by (simp <;> rfl)) ah rfl) ?_
 exact jS rfl (ai (aE (aW (.inr rfl) rfl (.tmp (rfl:_=AV.sl _ _)) (Le.out [] [] .sl rfl rfl rfl trivial trivial))))
theorem uH:Spec Tryz.prog 126 (bf [.v (bt [42])] []) (aL (.sl (Bo.mul).code.length (inl (Bo.mul).code)) []):=by
 refine Spec.ofN Tryz.func126 rfl Tryz.ntmps126 rfl ?_
 refine am (aj (bB _ (rfl:_=AV.v (.slice _ _ _))) (ai (aq (am (dv rfl (ai (au (am (aj (aK (r:=false) _ _ Tryz.underlying9 rfl rfl rfl) (ce rfl ?_))))))))))
 refine ai (aS rfl rfl (am (aj (aK (r:=false) _ _ Tryz.underlying9 rfl rfl rfl) (ce rfl (ai (aS rfl rfl (am (aj (aK (r:=true) _ _ Tryz.underlying9 rfl rfl rfl) (ce rfl (ai ?_))))))))))
 refine bR rfl rfl (am (aj (aF _ aa rfl (by exact (rfl:_=some [_,_]))) ?_))
 refine aj (bi _ _ aa rfl ag (by (simp <;> rfl)) ah rfl) ?_
 exact jS rfl (ai (aE (aW (.inr rfl) rfl (.tmp (rfl:_=AV.sl _ _)) (Le.out [] [] .sl rfl rfl rfl trivial trivial))))
theorem va:Spec Tryz.prog 126 (bf [.v (bt [47])] []) (aL (.sl (Bo.div).code.length (inl (Bo.div).code)) []):=by
 refine Spec.ofN Tryz.func126 rfl Tryz.ntmps126 rfl ?_
 refine am (aj (bB _ (rfl:_=AV.v (.slice _ _ _))) (ai (aq (am (dv rfl (ai (au (am (aj (aK (r:=false) _ _ Tryz.underlying9 rfl rfl rfl) (ce rfl ?_))))))))))
 refine ai (aS rfl rfl (am (aj (aK (r:=false) _ _ Tryz.underlying9 rfl rfl rfl) (ce rfl (ai (aS rfl rfl (am (aj (aK (r:=false) _ _ Tryz.underlying9 rfl rfl rfl) (ce rfl (ai ?_))))))))))
 refine aS rfl rfl (am (aj (aK (r:=true) _ _ Tryz.underlying9 rfl rfl rfl) (ce rfl (ai (bR rfl rfl (am (aj (aF _ aa rfl (by exact (rfl:_=some [_,_]))) ?_)))))))
 refine aj (bi _ _ aa rfl ag (by (simp <;> rfl)) ah rfl) ?_
 exact jS rfl (ai (aE (aW (.inr rfl) rfl (.tmp (rfl:_=AV.sl _ _)) (Le.out [] [] .sl rfl rfl rfl trivial trivial))))
theorem yW:Spec Tryz.prog 126 (bf [.v (bt [60])] []) (aL (.sl (Bo.lt).code.length (inl (Bo.lt).code)) []):=by
 refine Spec.ofN Tryz.func126 rfl Tryz.ntmps126 rfl ?_
 refine am (aj (bB _ (rfl:_=AV.v (.slice _ _ _))) (ai (aq (am (dv rfl (ai (au (am (aj (aK (r:=false) _ _ Tryz.underlying9 rfl rfl rfl) (ce rfl ?_))))))))))
 refine ai (aS rfl rfl (am (aj (aK (r:=false) _ _ Tryz.underlying9 rfl rfl rfl) (ce rfl (ai (aS rfl rfl (am (aj (aK (r:=false) _ _ Tryz.underlying9 rfl rfl rfl) (ce rfl (ai ?_))))))))))
 refine aS rfl rfl (am (aj (aK (r:=false) _ _ Tryz.underlying9 rfl rfl rfl) (ce rfl (ai (aS rfl rfl (am (aj (aK (r:=true) _ _ Tryz.underlying9 rfl rfl rfl) (ce rfl (ai (bR rfl rfl ?_))))))))))
 refine am (aj (aF _ aa rfl (by exact (rfl:_=some [_,_]))) ?_)
 refine aj (bi _ _ aa rfl ag (by (simp <;> rfl)) ah rfl) ?_
 exact jS rfl (ai (aE (aW (.inr rfl) rfl (.tmp (rfl:_=AV.sl _ _)) (Le.out [] [] .sl rfl rfl rfl trivial trivial))))
theorem zt:Spec Tryz.prog 126 (bf [.v (bt [60,61])] []) (aL (.sl (Bo.le).code.length (inl (Bo.le).code)) []):=by
 refine Spec.ofN Tryz.func126 rfl Tryz.ntmps126 rfl ?_
 refine am (aj (bB _ (rfl:_=AV.v (.slice _ _ _))) (ai (aq (am (dv rfl (ai (au (am (aj (aK (r:=false) _ _ Tryz.underlying9 rfl rfl rfl) (ce rfl ?_))))))))))
 refine ai (aS rfl rfl (am (aj (aK (r:=false) _ _ Tryz.underlying9 rfl rfl rfl) (ce rfl (ai (aS rfl rfl (am (aj (aK (r:=false) _ _ Tryz.underlying9 rfl rfl rfl) (ce rfl (ai ?_))))))))))
 refine aS rfl rfl (am (aj (aK (r:=false) _ _ Tryz.underlying9 rfl rfl rfl) (ce rfl (ai (aS rfl rfl (am (aj (aK (r:=false) _ _ Tryz.underlying9 rfl rfl rfl) (ce rfl (ai (aS rfl rfl ?_))))))))))
 refine am (aj (aK (r:=true) _ _ Tryz.underlying9 rfl rfl rfl) (ce rfl (ai (bR rfl rfl (am (aj (aF _ aa rfl (by exact (rfl:_=some [_,_]))) ?_))))))
 refine aj (bi _ _ aa rfl ag (by (simp <;> rfl)) ah rfl) ?_
 exact jS rfl (ai (aE (aW (.inr rfl) rfl (.tmp (rfl:_=AV.sl _ _)) (Le.out [] [] .sl rfl rfl rfl trivial trivial))))
theorem yB:Spec Tryz.prog 126 (bf [.v (bt [61,61])] []) (aL (.sl (Bo.eq).code.length (inl (Bo.eq).code)) []):=by
 refine Spec.ofN Tryz.func126 rfl Tryz.ntmps126 rfl ?_
 refine am (aj (bB _ (rfl:_=AV.v (.slice _ _ _))) (ai (aq (am (dv rfl (ai (au (am (aj (aK (r:=false) _ _ Tryz.underlying9 rfl rfl rfl) (ce rfl ?_))))))))))
 refine ai (aS rfl rfl (am (aj (aK (r:=false) _ _ Tryz.underlying9 rfl rfl rfl) (ce rfl (ai (aS rfl rfl (am (aj (aK (r:=false) _ _ Tryz.underlying9 rfl rfl rfl) (ce rfl (ai ?_))))))))))
 refine aS rfl rfl (am (aj (aK (r:=false) _ _ Tryz.underlying9 rfl rfl rfl) (ce rfl (ai (aS rfl rfl (am (aj (aK (r:=false) _ _ Tryz.underlying9 rfl rfl rfl) (ce rfl (ai (aS rfl rfl ?_))))))))))
 refine am (aj (aK (r:=false) _ _ Tryz.underlying9 rfl rfl rfl) (ce rfl (ai (aS rfl rfl (am (aj (aK (r:=true) _ _ Tryz.underlying9 rfl rfl rfl) (ce rfl (ai (bR rfl rfl (aq ?_))))))))))
 refine aQ (σ':=aA 45 [] [] [] []) kp ?_
 refine an (aj (aF _ aa rfl (by exact (rfl:_=some [_,_]))) ?_)
 refine aj (bi _ _ aa rfl ag (by (simp <;> rfl)) ah rfl) ?_
 exact jS rfl (ai (aE (aW (.inr rfl) rfl (.tmp (rfl:_=AV.sl _ _)) (Le.out [] [] .sl rfl rfl rfl trivial trivial))))
theorem zB:Spec Tryz.prog 126 (bf [.v (bt [62])] []) (aL (.sl (Bo.gt).code.length (inl (Bo.gt).code)) []):=by
 refine Spec.ofN Tryz.func126 rfl Tryz.ntmps126 rfl ?_
 refine am (aj (bB _ (rfl:_=AV.v (.slice _ _ _))) (ai (aq (am (dv rfl (ai (au (am (aj (aK (r:=false) _ _ Tryz.underlying9 rfl rfl rfl) (ce rfl ?_))))))))))
 refine ai (aS rfl rfl (am (aj (aK (r:=false) _ _ Tryz.underlying9 rfl rfl rfl) (ce rfl (ai (aS rfl rfl (am (aj (aK (r:=false) _ _ Tryz.underlying9 rfl rfl rfl) (ce rfl (ai ?_))))))))))
 refine aS rfl rfl (am (aj (aK (r:=false) _ _ Tryz.underlying9 rfl rfl rfl) (ce rfl (ai (aS rfl rfl (am (aj (aK (r:=false) _ _ Tryz.underlying9 rfl rfl rfl) (ce rfl (ai (aS rfl rfl ?_))))))))))
 refine am (aj (aK (r:=false) _ _ Tryz.underlying9 rfl rfl rfl) (ce rfl (ai (aS rfl rfl (am (aj (aK (r:=false) _ _ Tryz.underlying9 rfl rfl rfl) (ce rfl (ai (aS rfl rfl (aq ?_))))))))))
 refine aQ (σ':=aA 45 [(3,_)] [] [] []) kp ?_
 refine an (aj (aK (r:=true) _ _ Tryz.underlying9 rfl rfl rfl) (ce rfl (ai (bR rfl rfl (am (aj (aF _ aa rfl (by exact (rfl:_=some [_,_]))) ?_))))))
 refine aj (aF _ aa rfl (by exact (rfl:_=some [_,_]))) ?_
 refine aj (bi _ _ aa rfl ag (by (simp <;> rfl)) ah rfl) ?_
 exact jS rfl (ai (aE (aW (.inr rfl) rfl (.tmp (rfl:_=AV.sl _ _)) (Le.out [] [] .sl rfl rfl rfl trivial trivial))))
theorem xS:Spec Tryz.prog 126 (bf [.v (bt [62,61])] []) (aL (.sl (Bo.ge).code.length (inl (Bo.ge).code)) []):=by
 refine Spec.ofN Tryz.func126 rfl Tryz.ntmps126 rfl ?_
 refine am (aj (bB _ (rfl:_=AV.v (.slice _ _ _))) (ai (aq (am (dv rfl (ai (au (am (aj (aK (r:=false) _ _ Tryz.underlying9 rfl rfl rfl) (ce rfl ?_))))))))))
 refine ai (aS rfl rfl (am (aj (aK (r:=false) _ _ Tryz.underlying9 rfl rfl rfl) (ce rfl (ai (aS rfl rfl (am (aj (aK (r:=false) _ _ Tryz.underlying9 rfl rfl rfl) (ce rfl (ai ?_))))))))))
 refine aS rfl rfl (am (aj (aK (r:=false) _ _ Tryz.underlying9 rfl rfl rfl) (ce rfl (ai (aS rfl rfl (am (aj (aK (r:=false) _ _ Tryz.underlying9 rfl rfl rfl) (ce rfl (ai (aS rfl rfl ?_))))))))))
 refine am (aj (aK (r:=false) _ _ Tryz.underlying9 rfl rfl rfl) (ce rfl (ai (aS rfl rfl (am (aj (aK (r:=false) _ _ Tryz.underlying9 rfl rfl rfl) (ce rfl (ai (aS rfl rfl (aq ?_))))))))))
 refine aQ (σ':=aA 45 [(3,_)] [] [] []) kp ?_
 refine an (aj (aK (r:=false) _ _ Tryz.underlying9 rfl rfl rfl) (ce rfl (ai (aS rfl rfl (am (aj (aK (r:=true) _ _ Tryz.underlying9 rfl rfl rfl) (ce rfl (ai (bR rfl rfl (am ?_))))))))))
 refine aj (aF _ aa rfl (by exact (rfl:_=some [_,_]))) ?_
 refine aj (aF _ aa rfl (by exact (rfl:_=some [_,_]))) ?_
 refine aj (bi _ _ aa rfl ag (by (simp <;> rfl)) ah rfl) ?_
 exact jS rfl (ai (aE (aW (.inr rfl) rfl (.tmp (rfl:_=AV.sl _ _)) (Le.out [] [] .sl rfl rfl rfl trivial trivial))))
theorem xz:Spec Tryz.prog 126 (bf [.v (bt [33,61])] []) (aL (.sl (Bo.ne).code.length (inl (Bo.ne).code)) []):=by
 refine Spec.ofN Tryz.func126 rfl Tryz.ntmps126 rfl ?_
 refine am (aj (bB _ (rfl:_=AV.v (.slice _ _ _))) (ai (aq (am (dv rfl (ai (au (am (aj (aK (r:=false) _ _ Tryz.underlying9 rfl rfl rfl) (ce rfl ?_))))))))))
 refine ai (aS rfl rfl (am (aj (aK (r:=false) _ _ Tryz.underlying9 rfl rfl rfl) (ce rfl (ai (aS rfl rfl (am (aj (aK (r:=false) _ _ Tryz.underlying9 rfl rfl rfl) (ce rfl (ai ?_))))))))))
 refine aS rfl rfl (am (aj (aK (r:=false) _ _ Tryz.underlying9 rfl rfl rfl) (ce rfl (ai (aS rfl rfl (am (aj (aK (r:=false) _ _ Tryz.underlying9 rfl rfl rfl) (ce rfl (ai (aS rfl rfl ?_))))))))))
 refine am (aj (aK (r:=false) _ _ Tryz.underlying9 rfl rfl rfl) (ce rfl (ai (aS rfl rfl (am (aj (aK (r:=false) _ _ Tryz.underlying9 rfl rfl rfl) (ce rfl (ai (aS rfl rfl (aq ?_))))))))))
 refine aQ (σ':=aA 45 [(3,_)] [] [] []) kp ?_
 refine an (aj (aK (r:=false) _ _ Tryz.underlying9 rfl rfl rfl) (ce rfl (ai (aS rfl rfl (am (aj (aK (r:=false) _ _ Tryz.underlying9 rfl rfl rfl) (ce rfl (ai (aS rfl rfl (cf ?_))))))))))
 refine am (aj (aF _ aa rfl (by exact (rfl:_=some [_,_]))) ?_)
 refine aj (aF _ aa rfl (by exact (rfl:_=some [_,_]))) ?_
 refine aj (bi _ _ aa rfl ag (by (simp <;> rfl)) ah rfl) ?_
 exact jS rfl (ai (aE (aW (.inr rfl) rfl (.tmp (rfl:_=AV.sl _ _)) (Le.out [] [] .sl rfl rfl rfl trivial trivial))))
theorem tw (o:Bo):Spec Tryz.prog 126 (bf [.v (bt o.txt)] []) (aL (.sl o.code.length (inl o.code)) []):=by
 cases o
 ·exact wn
 ·exact wK
 ·exact uH
 ·exact va
 ·exact yW
 ·exact zt
 ·exact yB
 ·exact zB
 ·exact xS
 ·exact xz

abbrev Cd:=Nat→List dY
abbrev CoS (u:AV) (d:Nd) (c:Cd):Prop:= ∀ a,a+(c a).length≤1000000→Spec Tryz.prog 91 (bf [u,me d, .v (.int .i64 (a:Int))] []) (aL (.ref (0,8) 0 (c a).length) [((0,8), .row 48 2 (inl (c a)))])
def cC:List Cd→Nat→List dY
 | [],_=> []
 | c::cs,a=> c a++cC cs (a+(c a).length)
theorem mU: ∀ (l m:List Cd) (a:Nat),cC (l++m) a=cC l a++cC m (a+(cC l a).length)
 | [],m,a=> by simp [cC]
 | c::l,m,a=> by simp only [List.cons_append,cC,mU l m,List.append_assoc,List.length_append,Nat.add_assoc]
theorem uw {cs:List Cd} {j a:Nat} (h:j < cs.length):cC (cs.take (j+1)) a=cC (cs.take j) a++(cs.getD j fun _=> []) (a+(cC (cs.take j) a).length):=by
 rw [List.take_succ_eq_append_getElem h,mU]
 simp [cC,h]
theorem oG {cs:List Cd} {j a:Nat}:(cC (cs.take j) a).length≤(cC cs a).length:=by
 conv=> rhs;rw [← List.take_append_drop j cs,mU]
 rw [List.length_append];omega
abbrev kj (u:AV) (L:List Nd) (cs:List Cd):Prop:= ∀ j,j < L.length→CoS u (iJ L j) (cs.getD j fun _=> [])
theorem zc {u:AV}:kj u [] []:=fun j hj=> by simp at hj
theorem ur {u:AV} {d:Nd} {c:Cd} {L:List Nd} {cs:List Cd} (h:CoS u d c) (h':kj u L cs):kj u (d::L) (c::cs):=fun j hj=> by
 cases j with
 | zero=> exact h
 | succ j=> exact h' j (by simpa using hj)
section
variable {d v:List Tx} {no:Nat} {on:List PV}
abbrev uu (d v:List Tx) (no:Nat) (on:List PV):AV:= .agg [.sl d.length (ed d), .sl v.length (ed v), .sl no on]
theorem cZ (L:List Nd) (cs:List Cd) (hc:cs.length=L.length) (hk:kj (uu d v no on) L cs) (a:Nat) (ha:a+(cC cs a).length≤1000000):
  Spec Tryz.prog 125 (bf [uu d v no on, .sl L.length (ko L), .v (.int .i64 (a:Int))] []) (aL (.ref (0,8) 0 (cC cs a).length) [((0,8), .row 48 2 (inl (cC cs a)))]):=by
 refine Spec.ofN Tryz.func125 rfl Tryz.ntmps125 rfl ?_
 refine aq ?_
 refine Bc 1 rfl rfl fun hlen=> ?_
 unfold maxLen at hlen
 refine an (aj (bg (3,0) _ rfl rfl) (aj (bB _ (rfl:_=AV.v (.slice _ _ _))) (ai (am (aj (pk (7,0) _ 48 2 rfl rfl) ?_)))))
 refine ai (aT fun K3 hK3=> ?_)
 refine am (bc rfl (ai (au ?_)))
 refine bv (α:=Nat) (fun j=> j≤L.length) 28 [(1,_),(2,_),(3,_)] [((3,0),_)] (fun j=> [(8, .v (.int .i64 (j:Int))),(7, .ref (7,0) 0 (cC (cs.take j) a).length)]) (fun j=> [((7,0), .row 48 2 (inl (cC (cs.take j) a)))]) [] [] (fun j=> L.length - j) 0 ?_ (by
  refine Le.mkJ [] [] rfl ?_ ?_ trivial trivial ?_
  ·exact ⟨(iS rfl),(iV rfl),(iP rfl),(cd ag),(cY rfl ag),trivial⟩
  ·exact ⟨(cH rfl rfl rfl),(gJ rfl rfl rfl ag),trivial⟩
  ·kernel_rfl) ?_
 ·omega
 intro j hj
 have htk:(cC (cs.take j) a).length≤(cC cs a).length:=oG
 refine aT fun K5 hK5=> ?_
 refine am (aV rfl (eT rfl (aj (bD _ aa rfl) (aj (bo _ _ rfl rfl rfl) (ai (aP rfl (fun hc12=> ?_) (fun hc12=> ?_)))))))
 ·skip
  have hs:=uw (cs:=cs) (j:=j) (a:=a) ab
  have htk1:(cC (cs.take (j+1)) a).length≤(cC cs a).length:=oG
  have hsl:=congrArg List.length hs
  rw [List.length_append] at hsl
  have hcj:=hk j ab (a+(cC (cs.take j) a).length) ab
  generalize (cs.getD j fun _=> []) (a+(cC (cs.take j) a).length)=C at hs hsl hcj
  refine bA (hK5 _ ?_)
  clear hK5;try clear K5
  refine aq (au ?_)
  refine aQ (σ':=aA 28 [(1,_),(2,_),(3,_),(7,_),(8,_)] [((3,0),_),((7,0),_)] [] []) kp ?_
  refine bT 11 [15,16,17,18,19,20,21,22,23,24,25] [(50,0)] ae ae rfl (aM rfl) (rfl:_=[_,_,_,_,_,_,_,_,_,_,_]) (rfl:_=[_,_]) ?_
  refine ap (_,[]) (fun τ=> aH _ (rfl:_=AV.ref _ _ _)) ?_
  refine fO rfl ?_
  refine ap (_,[]) (fun τ=> aX _ aa rfl rfl rfl rfl) ?_
  refine fR rfl ?_
  refine ap (_,[]) (fun τ=> aH _ (rfl:_=AV.sl _ _)) ?_
  refine fT rfl ?_
  refine ap (_,[]) (fun τ=> aH _ (rfl:_=AV.v (.int _ _))) ?_
  refine fP rfl ?_
  refine ap (_,[]) (fun τ=> bl _ _ aa rfl rfl _ rfl ab (by (simp only [aU,bj,bh,bq,bp,bE,bs,bF];omega)) ag) ?_
  refine gb rfl ?_
  refine ap (_,[]) (fun τ=> bZ _ aa rfl (by exact cp _ _ ab) rfl) ?_
  refine gC rfl ?_
  refine ap (_,[]) (fun τ=> aH _ (rfl:_=AV.v (.int _ _))) ?_
  refine iy rfl ?_
  refine ap (_,[]) (fun τ=> aH _ (rfl:_=AV.ref _ _ _)) ?_
  refine jy rfl ?_
  refine ap (_,[]) (fun τ=> dh _ aa rfl rfl) ?_
  refine jr rfl ?_
  refine ap (_,[]) (fun τ=> aZ _ _ rfl rfl (bJ ab)) ?_
  refine fq rfl ?_
  refine ap (_,[((50,0),_)]) (fun τ=> (eb aa [((0,8),(50,0))] ar (hcj.toI) trivial tr tr rfl rfl ae ae)) ?_
  refine fv rfl (bw ⟨rfl,?_⟩)
  refine aj (de (26,0) _ _ aa rfl rfl (bF _).symm (.ref rfl (kK _) (jb _)) ab rfl (jD _ _) hsl.symm) ?_
  refine eE rfl (gq (an (aV rfl (aj (aZ _ _ rfl rfl (bJ ab)) ?_))))
  refine bc rfl (aI (⟨j+1,?_,?_,?_⟩))
  ·omega
  ·skip
   refine Le.mkJ [((7,0),(26,0))] [] rfl ?_ ?_ trivial trivial ?_
   ·exact ⟨(by repeat' (exact Lv.sl)),(by repeat' (exact Lv.v)),(eg (id:=(3,0)) rfl),(cd ag),(cY rfl ag),trivial⟩
   ·exact ⟨(gz rfl rfl rfl rfl (by repeat' (first | exact Lv.sl | exact br | refine aB ?_ ?_))),(gJ rfl rfl rfl (by (rw [hs]))),trivial⟩
   ·kernel_rfl
  ·omega
 ·skip
  obtain rfl:j=cs.length:=by omega
  rw [List.take_length]
  refine bI (id (hK3 _ ?_))
  clear hK3;try clear K3
  exact am (fW rfl (eE rfl (ai (aE (aW (.inr rfl) rfl (.tmp (rfl:_=AV.ref _ _ _)) (Le.out [((0,8),(7,0))] [] (cY rfl rfl) rfl rfl rfl trivial ob))))))
theorem ms (N:Nd) (c:Cd) (h:CoS (uu d v no on) N c) (n:Int) (a:Nat) (ha:a+(c a).length≤1000000):
  Spec Tryz.prog 187 (bf [uu d v no on, .sl 1 (ko [N]), .v (.int .i64 n), .v (.int .i64 (a:Int))] []) (aL (.ref (0,8) 0 (c a).length) [((0,8), .row 48 2 (inl (c a)))]):=by
 have hc:=h a ha
 refine Spec.ofN Tryz.func187 rfl Tryz.ntmps187 rfl ?_
 refine am (aj (bg (4,0) _ rfl rfl) (aj (bB _ (rfl:_=AV.v (.slice _ _ _))) (ai (aq (am (eT rfl (aj (bD _ aa rfl) (aj (gj _ _ rfl rfl rfl) (ai (bR rfl rfl ?_))))))))))
 refine aq ?_
 refine aQ (σ':=aA 21 [(1,_),(3,_),(4,_)] [((4,0),_)] [] []) kp ?_
 refine bT 5 [12,13,14,15,16] [] ae ae rfl (aM rfl) (rfl:_=[_,_,_,_,_]) (rfl:_=[_,_]) ?_
 refine ap (_,[]) (fun τ=> aX _ aa rfl rfl rfl rfl) ?_
 refine fO rfl ?_
 refine ap (_,[]) (fun τ=> aH _ (rfl:_=AV.sl _ _)) ?_
 refine fR rfl ?_
 refine ap (_,[]) (fun τ=> bl _ _ aa rfl rfl 0 rfl ab (by simp [ko,Nd.row]) rfl) ?_
 refine fT rfl ?_
 refine ap (_,[]) (fun τ=> bZ _ aa rfl (by exact cp [N] 0 (by simp)) rfl) ?_
 refine fP rfl ?_
 refine ap (_,[]) (fun τ=> aH _ (rfl:_=AV.v (.int _ _))) ?_
 refine gb rfl (bw ⟨rfl,?_⟩)
 refine aj (cT aa [((0,8),(50,0))] ar (hc.toI) trivial tr ae) ?_
 exact eE rfl (ai (aE (aW (.inr rfl) rfl (.tmp (rfl:_=AV.ref _ _ _)) (Le.out [((0,8),(50,0))] [] (cY rfl rfl) rfl rfl rfl trivial ob))))
theorem qA (n:Int) (a:Nat):
  Spec Tryz.prog 187 (bf [uu d v no on, .sl 0 [], .v (.int .i64 n), .v (.int .i64 (a:Int))] []) (aL (.ref (0,8) 0 1) [((0,8), .row 48 2 (inl [{ op:= .push,n:=n }]))]):=by
 refine Spec.ofN Tryz.func187 rfl Tryz.ntmps187 rfl ?_
 refine am (aj (bg (4,0) _ rfl rfl) (aj (bB _ (rfl:_=AV.v (.slice _ _ _))) (ai (aq (am (eT rfl (aj (bD _ aa rfl) (aj (gj _ _ rfl rfl rfl) (ai (aS rfl rfl ?_))))))))))
 refine aO (am (aV rfl (aj (aF _ aa rfl (by exact (rfl:_=some [_,_]))) ?_)))
 refine aj (js (20,0) _ _ aa rfl ag (by (simp <;> rfl)) ah rfl rfl) ?_
 exact eE rfl (ai (aE (aW (.inr rfl) rfl (.tmp (rfl:_=AV.ref _ _ _)) (Le.out [((0,8),(20,0))] [] (cY rfl rfl) rfl rfl rfl trivial ob))))
def Af (c y z:Cd) (a:Nat):List dY:=
 c a++[{ op:= .unl,n:=((a+(c a).length+1+(y (a+(c a).length+1)).length+1:Nat):Int) }]++y (a+(c a).length+1)++
  [{ op:= .jump,n:=((a+(c a).length+1+(y (a+(c a).length+1)).length+1+(z (a+(c a).length+1+(y (a+(c a).length+1)).length+1)).length:Nat):Int) }]++z (a+(c a).length+1+(y (a+(c a).length+1)).length+1)
abbrev KZ (u:AV) (l:AV) (n:Int) (c:Cd):Prop:= ∀ a,a+(c a).length≤1000000→Spec Tryz.prog 187 (bf [u,l, .v (.int .i64 n), .v (.int .i64 (a:Int))] []) (aL (.ref (0,8) 0 (c a).length) [((0,8), .row 48 2 (inl (c a)))])
theorem jn (N:Nd) (c y z:Cd) (hc:CoS (uu d v no on) N c) (ly lz:Nat) (ys zs:List PV) (n:Int) (hy:KZ (uu d v no on) (.sl ly ys) n y) (hz:KZ (uu d v no on) (.sl lz zs) n z) (a:Nat) (ha:a+(Af c y z a).length≤1000000):
  Spec Tryz.prog 124 (bf [uu d v no on,me N, .sl ly ys, .sl lz zs, .v (.int .i64 n), .v (.int .i64 (a:Int))] []) (aL (.ref (0,8) 0 (Af c y z a).length) [((0,8), .row 48 2 (inl (Af c y z a)))]):=by
 have hb: ∃ b,b=Af c y z a:=⟨_,rfl⟩
 obtain ⟨b,hb⟩:=hb
 rw [← hb] at ha ⊢
 unfold Af at hb
 have hbl:=congrArg List.length hb
 simp only [List.length_append,List.length_cons,List.length_nil] at hbl
 have h1:=hc a ab
 generalize c a=C at h1 hb hbl
 have h2:=hy (a+C.length+1) ab
 generalize y (a+C.length+1)=Y at h2 hb hbl
 obtain ⟨f,hf⟩: ∃ f,f=a+C.length+1+Y.length+1:=⟨_,rfl⟩
 rw [← hf] at hb hbl
 have h3:=hz f ab
 generalize z f=Z at h3 hb hbl
 refine Spec.ofN Tryz.func124 rfl Tryz.ntmps124 rfl ?_
 refine am (aj (bg (6,0) _ rfl rfl) (aj (bg (7,0) _ rfl rfl) (aj (bB _ (rfl:_=AV.v (.slice _ _ _))) (ai (am (aj (aX _ aa rfl rfl rfl rfl) (aj (aX _ aa rfl rfl rfl rfl) (aV rfl (aj (cT aa [((0,8),(50,0))] ar (h1.toI) trivial tr ae) ?_)))))))))
 refine eE rfl (ai (aT fun K3 hK3=> ?_))
 refine an (aj (aX _ aa rfl rfl rfl rfl) (eT rfl (aV rfl (aV rfl (fW rfl (aj (dh _ aa rfl rfl) (aj (aZ _ _ rfl rfl (bJ ab)) ?_)))))))
 refine aj (aZ _ _ rfl rfl (bJ ab)) ?_
 refine aj (cT aa [((0,8),(51,0))] ar (h2.toI) trivial tr ae) ?_
 refine eE rfl (aI (hK3 _ ?_))
 clear hK3;try clear K3
 refine aq ?_
 refine aQ (σ':=aA 63 [(3,_),(4,_),(5,_),(6,_),(13,_),(14,_)] [((6,0),_),((50,0),_),((51,0),_)] [] []) kp ?_
 refine an (aV rfl (fW rfl (aj (dh _ aa rfl rfl) (aj (aZ _ _ rfl rfl (bJ ab)) ?_))))
 refine aj (aZ _ _ rfl rfl (bJ ab)) ?_
 refine fW rfl (aj (dh _ aa rfl rfl) (aj (aZ _ _ rfl rfl (bJ ab)) ?_))
 refine aj (aZ (r:=(f:Int)) _ _ rfl rfl ((bJ ab).trans ab)) ?_
 refine bc rfl (ai (aT fun K5 hK5=> ?_))
 refine an (aj (aX _ aa rfl rfl rfl rfl) (eT rfl (aV rfl (aV rfl (aj (cT aa [((0,8),(52,0))] ar (h3.toI) trivial tr ae) ?_)))))
 refine eE rfl (aI (hK5 _ ?_))
 clear hK5;try clear K5
 refine aq ?_
 refine aQ (σ':=aA 63 [(13,_),(14,_),(15,_),(16,_)] [((50,0),_),((51,0),_),((52,0),_)] [] []) kp ?_
 refine an (fW rfl (aV rfl (aj (aF _ aa rfl (by exact (rfl:_=some [_,_]))) ?_)))
 refine aj (bi _ _ aa rfl ag (by (simp <;> rfl)) ah rfl) ?_
 refine aj (de (48,0) _ _ aa rfl rfl (bF _).symm (.sl rfl) ab rfl (dZ _ { op:= .unl,n:=f }) (show C.length+1=(C++[({ op:= .unl,n:=f }:dY)]).length by simp)) ?_
 refine eE rfl (ai (am (fW rfl (fW rfl (aj (de (51,1) _ _ aa rfl rfl (bF _).symm (.ref rfl (kK _) (jb _)) (by simp;omega) rfl (jD _ _) (show (C++[({ op:= .unl,n:=f }:dY)]).length+Y.length=(C++[({ op:= .unl,n:=f }:dY)]++Y).length by simp;omega)) ?_)))))
 refine eE rfl (ai (am (fW rfl (aV rfl (fW rfl (aj (dh _ aa rfl rfl) (aj (aZ _ _ rfl rfl (bJ ab)) ?_)))))))
 refine aj (aF _ aa rfl (by exact (rfl:_=some [_,_]))) ?_
 refine aj (bi _ _ aa rfl ag (by (simp <;> rfl)) ah rfl) ?_
 refine aj (de (59,0) _ _ aa rfl rfl (bF _).symm (.sl rfl) (by simp;omega) rfl (dZ _ { op:= .jump,n:=((f+Z.length:Nat):Int) }) (show (C++[({ op:= .unl,n:=f }:dY)]++Y).length+1=(C++[({ op:= .unl,n:=f }:dY)]++Y++[({ op:= .jump,n:=((f+Z.length:Nat):Int) }:dY)]).length by simp;omega)) ?_
 refine eE rfl (ai (aq ?_))
 refine aQ (σ':=aA 63 [(13,_),(16,_)] [((52,0),_),((59,0),_)] [] []) kp ?_
 refine an (fW rfl (fW rfl (aj (de (62,0) _ _ aa rfl rfl (bF _).symm (.ref rfl (kK _) (jb _)) (by simp;omega) rfl ((jD _ _).trans (congrArg inl hb.symm)) (show _+Z.length=b.length by simp;omega)) ?_)))
 exact eE rfl (ai (aE (aW (.inr rfl) rfl (.tmp (rfl:_=AV.ref _ _ _)) (Le.out [((0,8),(62,0))] [] (cY rfl rfl) rfl rfl rfl trivial ob))))
end
end Go.Proofs.YtmjnackchaahbaaGreat
