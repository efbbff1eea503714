/- Part 12 of the texts that the walk leans on: the machine, the walks, the plain laws. -/
import Derived.Test.YtmjnackchaahbaaGreatVoZ11
set_option linter.unusedSimpArgs false
set_option linter.unusedVariables false
namespace Go.Proofs.YtmjnackchaahbaaGreat
open Go.RowKit

abbrev LU (d:Nd):Prop:=Spec Tryz.prog 166 (bk [mW d] []) (aW (.v (.bool true)) [])
theorem hG {nm:List Tx} {e:Ex} (h:mX e=true):tD (dR nm e) 1:=by
 have:=Nat.eq_of_beq_eq_true h
 have h2:=dU nm e
 rwa [this] at h2
theorem EX {P:Nd→Prop} {d:Nd} (h:P d): ∀ j,j < [d].length→P (jA [d] j):=fun j hj=> by
 have:j=0:=by simpa using hj
 subst this
 exact h
theorem Kg {P:Nd→Prop} {d e:Nd} (h:P d) (h':P e): ∀ j,j < [d,e].length→P (jA [d,e] j):=fun j hj=> by
 have hj:j < 2:=hj
 have:j=0∨j=1:=by omega
 rcases this with rfl | rfl
 ·exact h
 ·exact h'
theorem Mm {P:Nd→Prop} {d e f:Nd} (h:P d) (h':P e) (h2:P f): ∀ j,j < [d,e,f].length→P (jA [d,e,f] j):=fun j hj=> by
 have hj:j < 3:=hj
 have:j=0∨j=1∨j=2:=by omega
 rcases this with rfl | rfl | rfl
 ·exact h
 ·exact h'
 ·exact h2
theorem wW {P:Nd→Prop}: ∀ j,j < ([]:List Nd).length→P (jA [] j):=fun j hj=> by simp at hj
theorem KT {P:Nd→Prop} {d:Nd} {l:List Nd} (h:P d) (h': ∀ j,j < l.length→P (jA l j)): ∀ j,j < (d::l).length→P (jA (d::l) j):=fun j hj=> by
 cases j with
 | zero=> exact h
 | succ j=> exact h' j (by simpa using hj)
mutual
theorem AM (nm:List Tx): ∀ s:Sm,vB s=true→LU (ol nm s)
 | .assign i e,h=> eO 1 ab 0 (nm.getD i []) [dR nm e] (EX (P:=fun d=> tD d 1) (hG h))
 | .send t k a b,h=> by
  simp only [vB,Bool.and_eq_true] at h
  exact eO 4 ab k [] [dR nm t,dR nm a,dR nm b] (Mm (P:=fun d=> tD d 1) (hG h.1.1) (hG h.1.2) (hG h.2))
 | .timer k,_=> eO 5 ab k [] [] (wW (P:=fun d=> tD d 1))
 | .cancel k,_=> eO 6 ab k [] [] (wW (P:=fun d=> tD d 1))
 | .sync,_=> eO 7 ab 0 [] [] (wW (P:=fun d=> tD d 1))
 | .stop,_=> eO 10 ab 0 [] [] (wW (P:=fun d=> tD d 1))
 | .reply a b,h=> by
  simp only [vB,Bool.and_eq_true] at h
  exact eO 8 ab 0 [] [dR nm a,dR nm b] (Kg (P:=fun d=> tD d 1) (hG h.1) (hG h.2))
 | .fail e,h=> eO 9 ab 0 [] [dR nm e] (EX (P:=fun d=> tD d 1) (hG h))
 | .loop c b,h=> by
  simp only [vB,Bool.and_eq_true] at h
  have h1:=dU nm c
  rw [Nat.eq_of_beq_eq_true h.1] at h1
  refine pB 3 (.inr rfl) 0 [] [dR nm c,nd 11 0 [] (fV nm b)] (by simp) h1 fun j h1 hj=> ?_
  have hj:j < 2:=hj
  obtain rfl:j=1:=by omega
  exact jp 0 [] (fV nm b) (lR nm b h.2)
 | .ite c a b,h=> by
  simp only [vB,Bool.and_eq_true] at h
  have h1:=dU nm c
  rw [Nat.eq_of_beq_eq_true h.1.1] at h1
  refine pB 2 (.inl rfl) 0 [] [dR nm c,nd 11 0 [] (fV nm a),nd 11 0 [] (fV nm b)] (by simp) h1 fun j h1 hj=> ?_
  have hj:j < 3:=hj
  have:j=1∨j=2:=by omega
  rcases this with rfl | rfl
  ·exact jp 0 [] (fV nm a) (lR nm a h.1.2)
  ·exact jp 0 [] (fV nm b) (lR nm b h.2)
theorem lR (nm:List Tx): ∀ b:Bk,nH b=true→ ∀ j,j < (fV nm b).length→LU (jA (fV nm b) j)
 | .nil,_=> wW
 | .cons s b,h=> by
  simp only [nH,Bool.and_eq_true] at h
  exact KT (AM nm s h.1) (lR nm b h.2)
end
theorem BL (nm:List Tx) (b:Bk) (h:nH b=true):LU (jB nm b):=jp 0 [] (fV nm b) (lR nm b h)

def gF (s:Tx) (l:List Tx):List Tx:=if s∈l then l else l++[s]
section
variable (nm:List Tx)
def qB:Ex→List Tx→List Tx
 | .int _,l=> l | .bool _,l=> l | .name _,l=> l
 | .var i,l=> gF (nm.getD i []) l
 | .draw e,l=> qB e l | .neg e,l=> qB e l | .not e,l=> qB e l
 | .bin _ a b,l=> qB b (qB a l)
 | .and a b,l=> qB b (qB a l)
 | .or a b,l=> qB b (qB a l)
mutual
def MF:Sm→List Tx→List Tx
 | .assign i e,l=> qB nm e (gF (nm.getD i []) l)
 | .send t _ a b,l=> qB nm b (qB nm a (qB nm t l))
 | .timer _,l=> l | .cancel _,l=> l | .sync,l=> l | .stop,l=> l
 | .reply a b,l=> qB nm b (qB nm a l)
 | .fail e,l=> qB nm e l
 | .loop c b,l=> zn b (qB nm c l)
 | .ite c a b,l=> zn b (zn a (qB nm c l))
def zn:Bk→List Tx→List Tx
 | .nil,l=> l
 | .cons s b,l=> zn b (MF s l)
end
def GN (l:List Tx):Prop:=l.Nodup∧ ∀ x∈l,x∈nm
end
theorem GN.len {nm l:List Tx} (h:GN nm l):l.length≤nm.length:=h.1.length_le_of_subset fun x hx=> h.2 x hx
theorem GN.add {nm l:List Tx} (h:GN nm l) {i:Nat} (hi:i < nm.length):GN nm (gF (nm.getD i []) l):=by
 unfold gF
 split
 ·exact h
 ·rename_i hn
  refine ⟨List.nodup_append.2 ⟨h.1,by simp,fun a ha b hb e=> hn (by rw [List.mem_singleton.1 hb] at e;exact e ▸ ha)⟩,fun x hx=> ?_⟩
  rcases List.mem_append.1 hx with hx | hx
  ·exact h.2 x hx
  ·rw [List.mem_singleton.1 hx];exact iW hi
theorem GN.nil {nm:List Tx}:GN nm []:=⟨.nil,fun x hx=> by simp at hx⟩
theorem rQ (n:Int) (s:Tx) (L:List Nd) (l:List Tx) (hs:s∉l) (hl:l.length≤1000) (F:Nat→List Tx) (hF:F 0=l++[s]) (h: ∀ j,j < L.length→Spec Tryz.prog 167 (bk [mW (jA L j), .sl (F j).length (dT (F j))] []) (aW (.sl (F (j+1)).length (dT (F (j+1)))) [])):
  Spec Tryz.prog 167 (bk [.agg [.v (.int .i64 1), .v (.int .i64 n), .v (bt s), .sl L.length (kG L)], .sl l.length (dT l)] []) (aW (.sl (F L.length).length (dT (F L.length))) []):=by
 refine Spec.ofN Tryz.func167 rfl Tryz.ntmps167 rfl ?_
 refine aq ?_
 refine jF 0 3 rfl rfl rfl fun hlen=> ?_
 unfold maxLen at hlen
 refine an (ai (bf (2,0) _ rfl rfl) (ai (bA _ (rfl:_=AV.v (.slice _ _ _))) (aj (aq (am (bv rfl rfl rfl (cG rfl rfl rfl (iY rfl rfl rfl (cP rfl (aU rfl rfl ah ?_))))))))))
 refine aU rfl rfl ah ?_
 refine aU rfl rfl ah ?_
 refine ai (aH _ _ _ rfl (rfl:_=AV.v (.bool _))) (cP rfl (aA rfl rfl (aE _ (rfl:_=AV.sl _ _)) (aA rfl rfl (aI _ aa rfl rfl rfl) (aA rfl rfl (aL _ aa rfl rfl (rfl:_=some (AV.v (.string _)))) (aA rfl rfl (aM aa al (fF l _ rfl ab s) rfl rfl) ?_)))))
 refine aA rfl rfl (cT _ rfl rfl) (ai (aH _ _ _ rfl (rfl:_=AV.v (.bool _))) (aj (bF rfl (by rw [decide_eq_false hs];rfl) ?_)))
 refine aq ?_
 refine aO (σ':=aB 45 [(1,_),(2,_)] [((2,0),_)] [] []) kp ?_
 refine an (ai (bA _ (rfl:_=AV.v (.slice _ _ _))) (aj (am (ai (aE _ (rfl:_=AV.v (.slice _ _ _))) (ez rfl (ai (tq (24,0) _ _ aa rfl (.sl (by simp)) ab rfl) ?_))))))
 refine fb rfl (aj (an (gD rfl (bv rfl rfl rfl (ai (aL _ aa rfl rfl (rfl:_=some (AV.v (.string _)))) (ai (aX _ _ aa rfl ag (by (simp <;> rfl)) ah rfl) ?_))))))
 refine ai (dt (29,0) _ _ aa rfl rfl (by simp) (.sl rfl) ab rfl (lP _ _) (show l.length+1=(l++[s]).length by simp)) ?_
 refine fb rfl (aj (aG fun K6 hK6=> ?_))
 refine am (aZ rfl (aj (au ?_)))
 refine aO (Le.frzS 1 (ys:=dT (l++[s])) rfl rfl rfl (by rw [List.drop_zero,Nat.mul_one];exact List.take_of_length_le (by simp)) (by simp)) ?_
 refine bB (α:=Nat) (fun j=> j≤L.length) 45 [(2,_)] [((2,0),_)] (fun j=> [(6, .v (.int .i64 (j:Int))),(1, .sl (F j).length (dT (F j)))]) (fun j=> []) [] [] (fun j=> L.length - j) 0 ?_ (by
  refine Le.mkJ [] [] rfl ?_ ?_ trivial trivial ?_
  ·exact ⟨(iP rfl),(co ag),(gP (by rw [hF]) (by rw [hF])),trivial⟩
  ·exact ⟨(cI rfl rfl rfl),trivial⟩
  ·kernel_rfl) ?_
 ·omega
 intro j hj
 refine aG fun K8 hK8=> ?_
 refine am (aS rfl (bv rfl rfl rfl (fG rfl rfl rfl (ai (bH _ aa rfl) (ai (bq _ _ rfl rfl rfl) (aj (aV rfl (fun hc34=> ?_) (fun hc34=> ?_))))))))
 ·skip
  refine bz (hK8 _ ?_)
  clear hK8;try clear K8
  refine aq (au (an (bv rfl rfl rfl (fG rfl rfl rfl (aS rfl (ai (bg _ _ aa rfl rfl _ rfl ab (by (simp only [ba,bo,bm,bC,bw,bJ,bD];omega)) ag) ?_))))))
  refine ai (cj _ aa rfl (by exact cH _ _ ab) rfl) ?_
  refine ez rfl (ai (aM aa al (h j ab) rfl rfl) ?_)
  refine kB rfl (fP (an (aS rfl (ai (be _ _ rfl rfl (br ab)) ?_))))
  refine aZ rfl (az (⟨j+1,?_,?_,?_⟩))
  ·omega
  ·skip
   refine Le.mkJ [] [] rfl ?_ ?_ trivial trivial ?_
   ·exact ⟨(iP rfl),(co ag),(gP ag ag),trivial⟩
   ·exact ⟨(cI rfl rfl rfl),trivial⟩
   ·kernel_rfl
  ·omega
 ·skip
  obtain rfl:j=L.length:=by omega
  refine bK (id (hK6 _ ?_))
  clear hK6;try clear K6
  exact am (ez rfl (kB rfl (aj (aD (aY (.inr rfl) rfl (.tmp (rfl:_=AV.sl _ _)) (Le.out [] [] .sl rfl rfl rfl trivial trivial))))))
theorem rS (n:Int) (s:Tx) (L:List Nd) (l:List Tx) (hs:s∈l) (hl:l.length≤1000) (F:Nat→List Tx) (hF:F 0=l) (h: ∀ j,j < L.length→Spec Tryz.prog 167 (bk [mW (jA L j), .sl (F j).length (dT (F j))] []) (aW (.sl (F (j+1)).length (dT (F (j+1)))) [])):
  Spec Tryz.prog 167 (bk [.agg [.v (.int .i64 1), .v (.int .i64 n), .v (bt s), .sl L.length (kG L)], .sl l.length (dT l)] []) (aW (.sl (F L.length).length (dT (F L.length))) []):=by
 refine Spec.ofN Tryz.func167 rfl Tryz.ntmps167 rfl ?_
 refine aq ?_
 refine jF 0 3 rfl rfl rfl fun hlen=> ?_
 unfold maxLen at hlen
 refine an (ai (bf (2,0) _ rfl rfl) (ai (bA _ (rfl:_=AV.v (.slice _ _ _))) (aj (aq (am (bv rfl rfl rfl (cG rfl rfl rfl (iY rfl rfl rfl (cP rfl (aU rfl rfl ah ?_))))))))))
 refine aU rfl rfl ah ?_
 refine aU rfl rfl ah ?_
 refine ai (aH _ _ _ rfl (rfl:_=AV.v (.bool _))) (cP rfl (aA rfl rfl (aE _ (rfl:_=AV.sl _ _)) (aA rfl rfl (aI _ aa rfl rfl rfl) (aA rfl rfl (aL _ aa rfl rfl (rfl:_=some (AV.v (.string _)))) (aA rfl rfl (aM aa al (fF l _ rfl ab s) rfl rfl) ?_)))))
 refine aA rfl rfl (cT _ rfl rfl) (ai (aH _ _ _ rfl (rfl:_=AV.v (.bool _))) (aj (aR rfl (by rw [decide_eq_true hs];rfl) ?_)))
 refine aJ (aG fun K4 hK4=> ?_)
 refine aq ?_
 refine aO (σ':=aB 45 [(1,_),(2,_)] [((2,0),_)] [] []) kp ?_
 refine an (aZ rfl (aj (au ?_)))
 refine bB (α:=Nat) (fun j=> j≤L.length) 45 [(2,_)] [((2,0),_)] (fun j=> [(6, .v (.int .i64 (j:Int))),(1, .sl (F j).length (dT (F j)))]) (fun j=> []) [] [] (fun j=> L.length - j) 0 ?_ (by
  refine Le.mkJ [] [] rfl ?_ ?_ trivial trivial ?_
  ·exact ⟨(iP rfl),(co ag),(gP (by rw [hF]) (by rw [hF])),trivial⟩
  ·exact ⟨(cI rfl rfl rfl),trivial⟩
  ·kernel_rfl) ?_
 ·omega
 intro j hj
 refine aG fun K6 hK6=> ?_
 refine am (aS rfl (bv rfl rfl rfl (fG rfl rfl rfl (ai (bH _ aa rfl) (ai (bq _ _ rfl rfl rfl) (aj (aV rfl (fun hc34=> ?_) (fun hc34=> ?_))))))))
 ·skip
  refine bz (hK6 _ ?_)
  clear hK6;try clear K6
  refine aq (au (an (bv rfl rfl rfl (fG rfl rfl rfl (aS rfl (ai (bg _ _ aa rfl rfl _ rfl ab (by (simp only [ba,bo,bm,bC,bw,bJ,bD];omega)) ag) ?_))))))
  refine ai (cj _ aa rfl (by exact cH _ _ ab) rfl) ?_
  refine ez rfl (ai (aM aa al (h j ab) rfl rfl) ?_)
  refine kB rfl (fP (an (aS rfl (ai (be _ _ rfl rfl (br ab)) ?_))))
  refine aZ rfl (az (⟨j+1,?_,?_,?_⟩))
  ·omega
  ·skip
   refine Le.mkJ [] [] rfl ?_ ?_ trivial trivial ?_
   ·exact ⟨(iP rfl),(co ag),(gP ag ag),trivial⟩
   ·exact ⟨(cI rfl rfl rfl),trivial⟩
   ·kernel_rfl
  ·omega
 ·skip
  obtain rfl:j=L.length:=by omega
  refine bK (id (hK4 _ ?_))
  clear hK4;try clear K4
  exact am (ez rfl (kB rfl (aj (aD (aY (.inr rfl) rfl (.tmp (rfl:_=AV.sl _ _)) (Le.out [] [] .sl rfl rfl rfl trivial trivial))))))
theorem qo (n:Int) (s:Tx) (L:List Nd) (l:List Tx) (hs:s∉l) (hl:l.length≤1000) (F:Nat→List Tx) (hF:F 0=l++[s]) (h: ∀ j,j < L.length→Spec Tryz.prog 167 (bk [mW (jA L j), .sl (F j).length (dT (F j))] []) (aW (.sl (F (j+1)).length (dT (F (j+1)))) [])):
  Spec Tryz.prog 167 (bk [.agg [.v (.int .i64 14), .v (.int .i64 n), .v (bt s), .sl L.length (kG L)], .sl l.length (dT l)] []) (aW (.sl (F L.length).length (dT (F L.length))) []):=by
 refine Spec.ofN Tryz.func167 rfl Tryz.ntmps167 rfl ?_
 refine aq ?_
 refine jF 0 3 rfl rfl rfl fun hlen=> ?_
 unfold maxLen at hlen
 refine an (ai (bf (2,0) _ rfl rfl) (ai (bA _ (rfl:_=AV.v (.slice _ _ _))) (aj (aq (am (bv rfl rfl rfl (cG rfl rfl rfl (eJ rfl rfl rfl (cP rfl (aA rfl rfl (aI _ aa rfl rfl rfl) ?_))))))))))
 refine aA rfl rfl (aL _ aa rfl rfl (rfl:_=some (AV.v (.int _ _)))) (aA rfl rfl (bT (r:=true) _ _ rfl rfl rfl) (ai (aH _ _ _ rfl (rfl:_=AV.v (.bool _))) (cP rfl (aA rfl rfl (aE _ (rfl:_=AV.sl _ _)) (aA rfl rfl (aI _ aa rfl rfl rfl) (aA rfl rfl (aL _ aa rfl rfl (rfl:_=some (AV.v (.string _)))) (aA rfl rfl (aM aa al (fF l _ rfl ab s) rfl rfl) ?_)))))))
 refine aA rfl rfl (cT _ rfl rfl) (ai (aH _ _ _ rfl (rfl:_=AV.v (.bool _))) (aj (bF rfl (by rw [decide_eq_false hs];rfl) ?_)))
 refine aq ?_
 refine aO (σ':=aB 45 [(1,_),(2,_)] [((2,0),_)] [] []) kp ?_
 refine an (ai (bA _ (rfl:_=AV.v (.slice _ _ _))) (aj (am (ai (aE _ (rfl:_=AV.v (.slice _ _ _))) (ez rfl (ai (tq (24,0) _ _ aa rfl (.sl (by simp)) ab rfl) ?_))))))
 refine fb rfl (aj (an (gD rfl (bv rfl rfl rfl (ai (aL _ aa rfl rfl (rfl:_=some (AV.v (.string _)))) (ai (aX _ _ aa rfl ag (by (simp <;> rfl)) ah rfl) ?_))))))
 refine ai (dt (29,0) _ _ aa rfl rfl (by simp) (.sl rfl) ab rfl (lP _ _) (show l.length+1=(l++[s]).length by simp)) ?_
 refine fb rfl (aj (aG fun K6 hK6=> ?_))
 refine am (aZ rfl (aj (au ?_)))
 refine aO (Le.frzS 1 (ys:=dT (l++[s])) rfl rfl rfl (by rw [List.drop_zero,Nat.mul_one];exact List.take_of_length_le (by simp)) (by simp)) ?_
 refine bB (α:=Nat) (fun j=> j≤L.length) 45 [(2,_)] [((2,0),_)] (fun j=> [(6, .v (.int .i64 (j:Int))),(1, .sl (F j).length (dT (F j)))]) (fun j=> []) [] [] (fun j=> L.length - j) 0 ?_ (by
  refine Le.mkJ [] [] rfl ?_ ?_ trivial trivial ?_
  ·exact ⟨(iP rfl),(co ag),(gP (by rw [hF]) (by rw [hF])),trivial⟩
  ·exact ⟨(cI rfl rfl rfl),trivial⟩
  ·kernel_rfl) ?_
 ·omega
 intro j hj
 refine aG fun K8 hK8=> ?_
 refine am (aS rfl (bv rfl rfl rfl (fG rfl rfl rfl (ai (bH _ aa rfl) (ai (bq _ _ rfl rfl rfl) (aj (aV rfl (fun hc34=> ?_) (fun hc34=> ?_))))))))
 ·skip
  refine bz (hK8 _ ?_)
  clear hK8;try clear K8
  refine aq (au (an (bv rfl rfl rfl (fG rfl rfl rfl (aS rfl (ai (bg _ _ aa rfl rfl _ rfl ab (by (simp only [ba,bo,bm,bC,bw,bJ,bD];omega)) ag) ?_))))))
  refine ai (cj _ aa rfl (by exact cH _ _ ab) rfl) ?_
  refine ez rfl (ai (aM aa al (h j ab) rfl rfl) ?_)
  refine kB rfl (fP (an (aS rfl (ai (be _ _ rfl rfl (br ab)) ?_))))
  refine aZ rfl (az (⟨j+1,?_,?_,?_⟩))
  ·omega
  ·skip
   refine Le.mkJ [] [] rfl ?_ ?_ trivial trivial ?_
   ·exact ⟨(iP rfl),(co ag),(gP ag ag),trivial⟩
   ·exact ⟨(cI rfl rfl rfl),trivial⟩
   ·kernel_rfl
  ·omega
 ·skip
  obtain rfl:j=L.length:=by omega
  refine bK (id (hK6 _ ?_))
  clear hK6;try clear K6
  exact am (ez rfl (kB rfl (aj (aD (aY (.inr rfl) rfl (.tmp (rfl:_=AV.sl _ _)) (Le.out [] [] .sl rfl rfl rfl trivial trivial))))))
theorem qq (n:Int) (s:Tx) (L:List Nd) (l:List Tx) (hs:s∈l) (hl:l.length≤1000) (F:Nat→List Tx) (hF:F 0=l) (h: ∀ j,j < L.length→Spec Tryz.prog 167 (bk [mW (jA L j), .sl (F j).length (dT (F j))] []) (aW (.sl (F (j+1)).length (dT (F (j+1)))) [])):
  Spec Tryz.prog 167 (bk [.agg [.v (.int .i64 14), .v (.int .i64 n), .v (bt s), .sl L.length (kG L)], .sl l.length (dT l)] []) (aW (.sl (F L.length).length (dT (F L.length))) []):=by
 refine Spec.ofN Tryz.func167 rfl Tryz.ntmps167 rfl ?_
 refine aq ?_
 refine jF 0 3 rfl rfl rfl fun hlen=> ?_
 unfold maxLen at hlen
 refine an (ai (bf (2,0) _ rfl rfl) (ai (bA _ (rfl:_=AV.v (.slice _ _ _))) (aj (aq (am (bv rfl rfl rfl (cG rfl rfl rfl (eJ rfl rfl rfl (cP rfl (aA rfl rfl (aI _ aa rfl rfl rfl) ?_))))))))))
 refine aA rfl rfl (aL _ aa rfl rfl (rfl:_=some (AV.v (.int _ _)))) (aA rfl rfl (bT (r:=true) _ _ rfl rfl rfl) (ai (aH _ _ _ rfl (rfl:_=AV.v (.bool _))) (cP rfl (aA rfl rfl (aE _ (rfl:_=AV.sl _ _)) (aA rfl rfl (aI _ aa rfl rfl rfl) (aA rfl rfl (aL _ aa rfl rfl (rfl:_=some (AV.v (.string _)))) (aA rfl rfl (aM aa al (fF l _ rfl ab s) rfl rfl) ?_)))))))
 refine aA rfl rfl (cT _ rfl rfl) (ai (aH _ _ _ rfl (rfl:_=AV.v (.bool _))) (aj (aR rfl (by rw [decide_eq_true hs];rfl) ?_)))
 refine aJ (aG fun K4 hK4=> ?_)
 refine aq ?_
 refine aO (σ':=aB 45 [(1,_),(2,_)] [((2,0),_)] [] []) kp ?_
 refine an (aZ rfl (aj (au ?_)))
 refine bB (α:=Nat) (fun j=> j≤L.length) 45 [(2,_)] [((2,0),_)] (fun j=> [(6, .v (.int .i64 (j:Int))),(1, .sl (F j).length (dT (F j)))]) (fun j=> []) [] [] (fun j=> L.length - j) 0 ?_ (by
  refine Le.mkJ [] [] rfl ?_ ?_ trivial trivial ?_
  ·exact ⟨(iP rfl),(co ag),(gP (by rw [hF]) (by rw [hF])),trivial⟩
  ·exact ⟨(cI rfl rfl rfl),trivial⟩
  ·kernel_rfl) ?_
 ·omega
 intro j hj
 refine aG fun K6 hK6=> ?_
 refine am (aS rfl (bv rfl rfl rfl (fG rfl rfl rfl (ai (bH _ aa rfl) (ai (bq _ _ rfl rfl rfl) (aj (aV rfl (fun hc34=> ?_) (fun hc34=> ?_))))))))
 ·skip
  refine bz (hK6 _ ?_)
  clear hK6;try clear K6
  refine aq (au (an (bv rfl rfl rfl (fG rfl rfl rfl (aS rfl (ai (bg _ _ aa rfl rfl _ rfl ab (by (simp only [ba,bo,bm,bC,bw,bJ,bD];omega)) ag) ?_))))))
  refine ai (cj _ aa rfl (by exact cH _ _ ab) rfl) ?_
  refine ez rfl (ai (aM aa al (h j ab) rfl rfl) ?_)
  refine kB rfl (fP (an (aS rfl (ai (be _ _ rfl rfl (br ab)) ?_))))
  refine aZ rfl (az (⟨j+1,?_,?_,?_⟩))
  ·omega
  ·skip
   refine Le.mkJ [] [] rfl ?_ ?_ trivial trivial ?_
   ·exact ⟨(iP rfl),(co ag),(gP ag ag),trivial⟩
   ·exact ⟨(cI rfl rfl rfl),trivial⟩
   ·kernel_rfl
  ·omega
 ·skip
  obtain rfl:j=L.length:=by omega
  refine bK (id (hK4 _ ?_))
  clear hK4;try clear K4
  exact am (ez rfl (kB rfl (aj (aD (aY (.inr rfl) rfl (.tmp (rfl:_=AV.sl _ _)) (Le.out [] [] .sl rfl rfl rfl trivial trivial))))))
theorem so (k:Nat) (hk:k≠1∧k≠14) (n:Int) (s:Tx) (L:List Nd) (l:List Tx) (hl:l.length≤1000) (F:Nat→List Tx) (hF:F 0=l) (h: ∀ j,j < L.length→Spec Tryz.prog 167 (bk [mW (jA L j), .sl (F j).length (dT (F j))] []) (aW (.sl (F (j+1)).length (dT (F (j+1)))) [])):
  Spec Tryz.prog 167 (bk [.agg [.v (.int .i64 (k:Int)), .v (.int .i64 n), .v (bt s), .sl L.length (kG L)], .sl l.length (dT l)] []) (aW (.sl (F L.length).length (dT (F L.length))) []):=by
 refine Spec.ofN Tryz.func167 rfl Tryz.ntmps167 rfl ?_
 refine aq ?_
 refine jF 0 3 rfl rfl rfl fun hlen=> ?_
 unfold maxLen at hlen
 refine an (ai (bf (2,0) _ rfl rfl) (ai (bA _ (rfl:_=AV.v (.slice _ _ _))) (aj (aq (am (bv rfl rfl rfl (cG rfl rfl rfl (eJ rfl rfl (beq_eq_false_iff_ne.2 ab) ?_))))))))
 refine cP rfl (aA rfl rfl (aI _ aa rfl rfl rfl) (aA rfl rfl (aL _ aa rfl rfl (rfl:_=some (AV.v (.int _ _)))) (aA rfl rfl (bT (r:=false) _ _ rfl rfl (beq_eq_false_iff_ne.2 ab)) ?_)))
 refine ai (aH _ _ _ rfl (rfl:_=AV.v (.bool _))) (cP rfl (aU rfl rfl ah ?_))
 refine aU rfl rfl ah ?_
 refine aU rfl rfl ah ?_
 refine aU rfl rfl ah ?_
 refine aU rfl rfl ah ?_
 refine ai (aH _ _ _ rfl (rfl:_=AV.v (.bool _))) (aj (aR rfl rfl (aJ (aG fun K4 hK4=> ?_))))
 refine aq ?_
 refine aO (σ':=aB 45 [(1,_),(2,_)] [((2,0),_)] [] []) kp ?_
 refine an (aZ rfl (aj (au ?_)))
 refine bB (α:=Nat) (fun j=> j≤L.length) 45 [(2,_)] [((2,0),_)] (fun j=> [(6, .v (.int .i64 (j:Int))),(1, .sl (F j).length (dT (F j)))]) (fun j=> []) [] [] (fun j=> L.length - j) 0 ?_ (by
  refine Le.mkJ [] [] rfl ?_ ?_ trivial trivial ?_
  ·exact ⟨(iP rfl),(co ag),(gP (by rw [hF]) (by rw [hF])),trivial⟩
  ·exact ⟨(cI rfl rfl rfl),trivial⟩
  ·kernel_rfl) ?_
 ·omega
 intro j hj
 refine aG fun K6 hK6=> ?_
 refine am (aS rfl (bv rfl rfl rfl (fG rfl rfl rfl (ai (bH _ aa rfl) (ai (bq _ _ rfl rfl rfl) (aj (aV rfl (fun hc34=> ?_) (fun hc34=> ?_))))))))
 ·skip
  refine bz (hK6 _ ?_)
  clear hK6;try clear K6
  refine aq (au (an (bv rfl rfl rfl (fG rfl rfl rfl (aS rfl (ai (bg _ _ aa rfl rfl _ rfl ab (by (simp only [ba,bo,bm,bC,bw,bJ,bD];omega)) ag) ?_))))))
  refine ai (cj _ aa rfl (by exact cH _ _ ab) rfl) ?_
  refine ez rfl (ai (aM aa al (h j ab) rfl rfl) ?_)
  refine kB rfl (fP (an (aS rfl (ai (be _ _ rfl rfl (br ab)) ?_))))
  refine aZ rfl (az (⟨j+1,?_,?_,?_⟩))
  ·omega
  ·skip
   refine Le.mkJ [] [] rfl ?_ ?_ trivial trivial ?_
   ·exact ⟨(iP rfl),(co ag),(gP ag ag),trivial⟩
   ·exact ⟨(cI rfl rfl rfl),trivial⟩
   ·kernel_rfl
  ·omega
 ·skip
  obtain rfl:j=L.length:=by omega
  refine bK (id (hK4 _ ?_))
  clear hK4;try clear K4
  exact am (ez rfl (kB rfl (aj (aD (aY (.inr rfl) rfl (.tmp (rfl:_=AV.sl _ _)) (Le.out [] [] .sl rfl rfl rfl trivial trivial))))))
def fa (fs:List (List Tx→List Tx)) (l:List Tx):List Tx:=fs.foldl (fun l f=> f l) l
theorem jg {fs:List (List Tx→List Tx)} {l:List Tx} {j:Nat} (h:j < fs.length):fa (fs.take (j+1)) l=fs.getD j id (fa (fs.take j) l):=by
 rw [List.take_succ_eq_append_getElem h]
 unfold fa
 rw [List.foldl_append,List.getD_eq_getElem?_getD,List.getElem?_eq_getElem h];rfl
abbrev wh (nm:List Tx) (d:Nd) (f:List Tx→List Tx):Prop:= ∀ l,GN nm l→Spec Tryz.prog 167 (bk [mW d, .sl l.length (dT l)] []) (aW (.sl (f l).length (dT (f l))) [])∧GN nm (f l)
section
variable {nm:List Tx} (hnm:nm.length≤16) {L:List Nd} {fs:List (List Tx→List Tx)} (hfs:fs.length=L.length) (h: ∀ j,j < L.length→wh nm (jA L j) (fs.getD j id))
theorem nC (hfs:fs.length=L.length) (h: ∀ j,j < L.length→wh nm (jA L j) (fs.getD j id)) {l:List Tx} (hl:GN nm l): ∀ j,j≤L.length→GN nm (fa (fs.take j) l)
 | 0,_=> by simpa [fa] using hl
 | j+1,hj=> by
  rw [jg ab]
  exact (h j ab _ (nC hfs h hl j ab)).2
theorem cB (hnm:nm.length≤16) (hfs:fs.length=L.length) (h: ∀ j,j < L.length→wh nm (jA L j) (fs.getD j id)) (k:Nat) (hk:k≠1∧k≠14) (n:Nat) (s:Tx):wh nm (nd k n s L) (fa fs):=fun l hl=> by
 have hg:=nC hfs h hl
 have he:fa (fs.take L.length) l=fa fs l:=by rw [← hfs,List.take_length]
 have hw:=so k hk n s L l (by have:=hl.len;omega) (fun j=> fa (fs.take j) l) rfl fun j hj=> by
  rw [show fa (fs.take (j+1)) l=_ from jg ab]
  exact (h j hj _ (hg j ab)).1
 rw [he] at hw
 exact ⟨hw,he ▸ hg _ (Nat.le_refl _)⟩
theorem vc (hnm:nm.length≤16) (hfs:fs.length=L.length) (h: ∀ j,j < L.length→wh nm (jA L j) (fs.getD j id)) (n:Nat) {i:Nat} (hi:i < nm.length):wh nm (nd 1 n (nm.getD i []) L) (fun l=> fa fs (gF (nm.getD i []) l)):=fun l hl=> by
 have hg:=nC hfs h (hl.add hi)
 have he:fa (fs.take L.length) (gF (nm.getD i []) l)=fa fs (gF (nm.getD i []) l):=by rw [← hfs,List.take_length]
 have hkid: ∀ j,j < L.length→_:=fun j hj=> (h j hj _ (hg j ab)).1
 have hll:=hl.len
 show Spec _ _ _ (aW (.sl (fa fs (gF (nm.getD i []) l)).length (dT (fa fs (gF (nm.getD i []) l)))) [])∧GN nm (fa fs (gF (nm.getD i []) l))
 rw [← he]
 refine ⟨?_,hg _ (Nat.le_refl _)⟩
 by_cases hs:nm.getD i []∈l
 ·exact rS n _ L l hs ab (fun j=> fa (fs.take j) (gF (nm.getD i []) l)) (by show gF _ l=l;unfold gF;rw [if_pos hs]) fun j hj=> by
   rw [show fa (fs.take (j+1)) (gF (nm.getD i []) l)=_ from jg ab]
   exact hkid j hj
 ·exact rQ n _ L l hs ab (fun j=> fa (fs.take j) (gF (nm.getD i []) l)) (by show gF _ l=_;unfold gF;rw [if_neg hs]) fun j hj=> by
   rw [show fa (fs.take (j+1)) (gF (nm.getD i []) l)=_ from jg ab]
   exact hkid j hj
end
theorem vp {nm:List Tx} (hnm:nm.length≤16) {i:Nat} (hi:i < nm.length):wh nm (nd 14 0 (nm.getD i []) []) (gF (nm.getD i [])):=fun l hl=> by
 have hll:=hl.len
 refine ⟨?_,hl.add hi⟩
 by_cases hs:nm.getD i []∈l
 ·exact qq 0 _ [] l hs ab (fun _=> gF (nm.getD i []) l) (by show gF _ l=l;unfold gF;rw [if_pos hs]) fun j hj=> by simp at hj
 ·exact qo 0 _ [] l hs ab (fun _=> gF (nm.getD i []) l) (by show gF _ l=_;unfold gF;rw [if_neg hs]) fun j hj=> by simp at hj
section
variable {nm:List Tx}
abbrev xw (nm:List Tx) (L:List Nd) (fs:List (List Tx→List Tx)):Prop:= ∀ j,j < L.length→wh nm (jA L j) (fs.getD j id)
theorem pm:xw nm [] []:=fun j hj=> by simp at hj
theorem oL {d:Nd} {f:List Tx→List Tx} {L:List Nd} {fs:List (List Tx→List Tx)} (h:wh nm d f) (h':xw nm L fs):xw nm (d::L) (f::fs):=fun j hj=> by
 cases j with
 | zero=> exact h
 | succ j=> exact h' j (by simpa using hj)
theorem dq (hnm:nm.length≤16): ∀ e:Ex,fo nm.length e→wh nm (dR nm e) (qB nm e)
 | .int _,_=> cB hnm rfl pm 12 ab _ _
 | .bool _,_=> cB hnm rfl pm 13 ab _ _
 | .name _,_=> cB hnm rfl pm 15 ab _ _
 | .var i,h=> vp hnm h
 | .draw e,h=> cB hnm rfl (oL (dq hnm e h) pm) 16 ab _ _
 | .neg e,h=> cB hnm rfl (oL (dq hnm e h) pm) 17 ab _ _
 | .not e,h=> cB hnm rfl (oL (dq hnm e h) pm) 17 ab _ _
 | .bin _ a b,h=> cB hnm rfl (oL (dq hnm a h.1) (oL (dq hnm b h.2) pm)) 18 ab _ _
 | .and a b,h=> cB hnm rfl (oL (dq hnm a h.1) (oL (dq hnm b h.2) pm)) 18 ab _ _
 | .or a b,h=> cB hnm rfl (oL (dq hnm a h.1) (oL (dq hnm b h.2) pm)) 18 ab _ _
def Ck (nm:List Tx):Bk→List (List Tx→List Tx)
 | .nil=> []
 | .cons s b=> MF nm s::Ck nm b
theorem ue (nm:List Tx): ∀ b:Bk,(Ck nm b).length=(fV nm b).length
 | .nil=> by simp [Ck,fV]
 | .cons s b=> by simp [Ck,fV,ue nm b]
theorem rm (nm:List Tx): ∀ (b:Bk) (l:List Tx),fa (Ck nm b) l=zn nm b l
 | .nil,l=> rfl
 | .cons s b,l=> by rw [zn,← rm nm b];rfl
theorem kx (hnm:nm.length≤16) {b:Bk} (h:xw nm (fV nm b) (Ck nm b)):wh nm (jB nm b) (zn nm b):=by
 have:=cB hnm (ue nm b) h 11 ab 0 []
 rwa [show fa (Ck nm b)=zn nm b from funext (rm nm b)] at this
mutual
theorem yI (hnm:nm.length≤16): ∀ s:Sm,eY nm.length s→wh nm (ol nm s) (MF nm s)
 | .assign i e,h=> by rw [eY] at h;exact vc hnm rfl (oL (dq hnm e h.2) pm) 0 h.1
 | .send t k a b,h=> by rw [eY] at h;exact cB hnm rfl (oL (dq hnm t h.2.1) (oL (dq hnm a h.2.2.1) (oL (dq hnm b h.2.2.2) pm))) 4 ab _ _
 | .timer _,_=> cB hnm rfl pm 5 ab _ _
 | .cancel _,_=> cB hnm rfl pm 6 ab _ _
 | .sync,_=> cB hnm rfl pm 7 ab _ _
 | .stop,_=> cB hnm rfl pm 10 ab _ _
 | .reply a b,h=> by rw [eY] at h;exact cB hnm rfl (oL (dq hnm a h.1) (oL (dq hnm b h.2) pm)) 8 ab _ _
 | .fail e,h=> by rw [eY] at h;exact cB hnm rfl (oL (dq hnm e h) pm) 9 ab _ _
 | .loop c b,h=> by rw [eY] at h;exact cB hnm rfl (oL (dq hnm c h.1) (oL (kx hnm (jU hnm b h.2)) pm)) 3 ab _ _
 | .ite c a b,h=> by rw [eY] at h;exact cB hnm rfl (oL (dq hnm c h.1) (oL (kx hnm (jU hnm a h.2.1)) (oL (kx hnm (jU hnm b h.2.2)) pm))) 2 ab _ _
theorem jU (hnm:nm.length≤16): ∀ b:Bk,ig nm.length b→xw nm (fV nm b) (Ck nm b)
 | .nil,_=> pm
 | .cons s b,h=> by rw [ig] at h;exact oL (yI hnm s h.1) (jU hnm b h.2)
end
theorem wT (hnm:nm.length≤16) (b:Bk) (h:ig nm.length b):wh nm (jB nm b) (zn nm b):=kx hnm (jU hnm b h)
end

theorem lj {l:List Tx} (h:l.Nodup) {i j:Nat} (hi:i < l.length) (hj:j < l.length) (e:l.getD i []=l.getD j []):i=j:=by
 rw [List.getD_eq_getElem?_getD,List.getD_eq_getElem?_getD,List.getElem?_eq_getElem hi,List.getElem?_eq_getElem hj] at e
 have h:=List.pairwise_iff_getElem.1 h
 rcases Nat.lt_trichotomy i j with hlt | rfl | hlt
 ·exact absurd (Option.some.inj (by simpa using e)) (h i j hi hj hlt)
 ·rfl
 ·exact absurd (Option.some.inj (by simpa using e)).symm (h j i hj hi hlt)
theorem pd {a b:List Tx} {k:Nat} (h:k < a.length):a.getD k []=(a++b).getD k []:=by
 rw [List.getD_eq_getElem?_getD,List.getD_eq_getElem?_getD,List.getElem?_append_left h]
theorem getD_right {a b:List Tx} {k:Nat}:b.getD k []=(a++b).getD (a.length+k) []:=by
 rw [List.getD_eq_getElem?_getD,List.getD_eq_getElem?_getD,List.getElem?_append_right ab,Nat.add_sub_cancel_left]
theorem lg (d v:List Tx) (on:List PV) (no:Nat) (hn:(d++v).Nodup) (hl:(d++v).length≤1000) (i:Nat) (hi:i < (d++v).length):
  Spec Tryz.prog 121 (bk [.agg [.sl d.length (dT d), .sl v.length (dT v), .sl no on], .v (bt ((d++v).getD i []))] []) (aW (.v (.int .i64 (i:Int))) []):=by
 have hl2:(d++v).length=d.length+v.length:=List.length_append
 refine Spec.ofN Tryz.func121 rfl Tryz.ntmps121 rfl ?_
 refine am (ai (bf (2,0) _ rfl rfl) (aZ rfl (aj (aG fun K2 hK2=> ?_))))
 refine am (aZ rfl (aj (au ?_)))
 refine bB (α:=Nat) (fun k=> k≤d.length∧k≤i) 41 [(1,_),(2,_)] [((2,0),_)] (fun k=> [(5, .v (.int .i64 (k:Int)))]) (fun k=> []) [] [] (fun k=> d.length - k) 0 ?_ (by
  refine Le.mkJ [] [] rfl ?_ ?_ trivial trivial ?_
  ·exact ⟨(iV rfl),(iP rfl),(co ag),trivial⟩
  ·exact ⟨(cI rfl rfl rfl),trivial⟩
  ·kernel_rfl) ?_
 ·exact ⟨Nat.zero_le _,Nat.zero_le _⟩
 intro k hk
 obtain ⟨hk,hki⟩:=hk
 refine aG fun K4 hK4=> ?_
 refine am (aS rfl (bv rfl rfl rfl (fG rfl rfl rfl (ai (bH _ aa rfl) (ai (bq _ _ rfl rfl rfl) (aj (aV rfl (fun hc11=> ?_) (fun hc11=> ?_))))))))
 ·skip
  refine bz (hK4 _ ?_)
  clear hK4;try clear K4
  refine aq (au (am (bv rfl rfl rfl (fG rfl rfl rfl (aS rfl (ai (bg _ _ aa rfl rfl _ rfl ab (by (simp only [ba,bo,bm,bC,bw,bJ,bD,List.length_map];omega)) (by exact Nat.mul_one _)) ?_))))))
  refine ai (bG _ aa rfl (by exact fu _ _ ab) rfl) ?_
  refine dL rfl (ai (aT _ _ Tryz.underlying9 rfl rfl rfl) (aj (aV rfl (fun hc20=> ?_) (fun hc20=> ?_))))
  ·skip
   have he:k=i:=lj hn ab hi ((pd ab).symm.trans hc20)
   refine am (aS rfl (aZ rfl (aj (aD (aY (.inr rfl) rfl (.tmp (rfl:_=AV.v (.int _ _))) (Le.out [] [] (co ?_) rfl rfl rfl trivial trivial))))))
   rw [he]
  ·skip
   have he:k≠i:=fun e=> hc20 ((pd ab).trans (by rw [e]))
   refine cg (an (aS rfl (ai (be _ _ rfl rfl (br ab)) ?_)))
   refine aZ rfl (az (⟨k+1,?_,?_,?_⟩))
   ·exact ⟨by omega,by omega⟩
   ·skip
    refine Le.mkJ [] [] rfl ?_ ?_ trivial trivial ?_
    ·exact ⟨(iV rfl),(iP rfl),(co ag),trivial⟩
    ·exact ⟨(cI rfl rfl rfl),trivial⟩
    ·kernel_rfl
   ·omega
 ·skip
  refine bK (id (hK2 _ ?_))
  clear hK2;try clear K2
  refine aq (am (aZ rfl (aj (au ?_))))
  refine bB (α:=Nat) (fun q=> q≤v.length∧d.length+q≤i) 41 [(1,_),(2,_)] [((2,0),_)] (fun q=> [(6, .v (.int .i64 (q:Int)))]) (fun q=> []) [] [] (fun q=> v.length - q) 0 ?_ (by
   refine Le.mkJ [] [] rfl ?_ ?_ trivial trivial ?_
   ·exact ⟨(iV rfl),(iP rfl),(co ag),trivial⟩
   ·exact ⟨(cI rfl rfl rfl),trivial⟩
   ·kernel_rfl) ?_
  ·exact ⟨Nat.zero_le _,by omega⟩
  intro q hq
  obtain ⟨hq,hqi⟩:=hq
  refine aG fun K11 hK11=> ?_
  refine am (aS rfl (bv rfl rfl rfl (fG rfl rfl rfl (ai (bH _ aa rfl) (ai (bq _ _ rfl rfl rfl) (aj (aV rfl (fun hc26=> ?_) (fun hc26=> ?_))))))))
  ·skip
   refine bz (hK11 _ ?_)
   clear hK11;try clear K11
   refine aq (au (am (bv rfl rfl rfl (fG rfl rfl rfl (aS rfl (ai (bg _ _ aa rfl rfl _ rfl ab (by (simp only [ba,bo,bm,bC,bw,bJ,bD,List.length_map];omega)) (by exact Nat.mul_one _)) ?_))))))
   refine ai (bG _ aa rfl (by exact fu _ _ ab) rfl) ?_
   refine dL rfl (ai (aT _ _ Tryz.underlying9 rfl rfl rfl) (aj (aV rfl (fun hc35=> ?_) (fun hc35=> ?_))))
   ·skip
    have he:d.length+q=i:=lj hn ab hi (getD_right.symm.trans hc35)
    refine am (bv rfl rfl rfl (fG rfl rfl rfl (ai (bH _ aa rfl) (aS rfl (ai (be _ _ rfl rfl (br ab)) ?_)))))
    refine aZ rfl (aj (aD (aY (.inr rfl) rfl (.tmp (rfl:_=AV.v (.int _ _))) (Le.out [] [] (co ?_) rfl rfl rfl trivial trivial))))
    omega
   ·skip
    have he:d.length+q≠i:=fun e=> hc35 (getD_right.trans (by rw [e]))
    refine cg (an (aS rfl (ai (be _ _ rfl rfl (br ab)) ?_)))
    refine aZ rfl (az (⟨q+1,?_,?_,?_⟩))
    ·exact ⟨by omega,by omega⟩
    ·skip
     refine Le.mkJ [] [] rfl ?_ ?_ trivial trivial ?_
     ·exact ⟨(iV rfl),(iP rfl),(co ag),trivial⟩
     ·exact ⟨(cI rfl rfl rfl),trivial⟩
     ·kernel_rfl
    ·omega
  ·skip
   exact absurd hqi ab
theorem yG (ons:List (Nat×Bk)) (nm:List Tx) (k:Nat) (h:k < ons.length):mt (ons.map fun p=> (p.1,jB nm p.2)) k=((ons[k]).1,jB nm (ons[k]).2):=by
 rw [ms _ _ (by simpa using h),List.getElem_map]
theorem qZ (l:List Hd) (k:Nat) (h:k < l.length):PV.ups (((lk l).drop (k*5+1)).take 4)=[.v (.int .i64 ((mt l k).2.k:Int)), .v (.int .i64 ((mt l k).2.n:Int)), .v (bt (mt l k).2.s), .sl (mt l k).2.kn (mt l k).2.kids]:=by
 have e:=nT ww 5 (fun _=> rfl) l k h
 have:((lk l).drop (k*5+1)).take 4=(((l.flatMap ww).drop (k*5)).take 5).drop 1:=by
  rw [List.drop_take,List.drop_drop];rfl
 rw [this,e,ms l k h];rfl
theorem nY (d v:List Tx) (ons:List (Nat×Bk)) (hn:(d++v).Nodup) (hl:(d++v).length≤16) (ho: ∀ p∈ons,ig (d++v).length p.2) (hw: ∀ p∈ons,nH p.2=true) (hc:ons.length≤1000):
  Spec Tryz.prog 97 (bk [Ed d v (ons.map fun p=> (p.1,jB (d++v) p.2))] []) (aW (.v (.int .i64 0)) []):=by
 obtain ⟨H,hH⟩: ∃ H,H=ons.map fun p=> (p.1,jB (d++v) p.2):=⟨_,rfl⟩
 have hHl:H.length=ons.length:=by rw [hH,List.length_map]
 rw [← hH]
 have hHk: ∀ k (h:k < ons.length),mt H k=((ons[k]).1,jB (d++v) (ons[k]).2):=fun k h=> by rw [hH];exact yG ons _ k h
 clear hH
 refine Spec.ofN Tryz.func97 rfl Tryz.ntmps97 rfl ?_
 refine am (ai (bf (1,0) _ rfl rfl) (aZ rfl (aj (aG fun K2 hK2=> ?_))))
 refine am (aZ rfl (aj (au ?_)))
 refine bB (α:=Nat) (fun k=> k≤H.length) 43 [(1,_)] [((1,0),_)] (fun k=> [(3, .v (.int .i64 (k:Int)))]) (fun k=> []) [] [] (fun k=> H.length - k) 0 ?_ (by
  refine Le.mkJ [] [] rfl ?_ ?_ trivial trivial ?_
  ·exact ⟨(iP rfl),(co ag),trivial⟩
  ·exact ⟨(cI rfl rfl rfl),trivial⟩
  ·kernel_rfl) ?_
 ·omega
 intro k hk
 refine aG fun K4 hK4=> ?_
 refine am (aS rfl (bv rfl rfl rfl (fG rfl rfl rfl (ai (bH _ aa rfl) (ai (bq _ _ rfl rfl rfl) (aj (aV rfl (fun hc11=> ?_) (fun hc11=> ?_))))))))
 ·skip
  have hk2:k < ons.length:=by omega
  obtain ⟨b,hb⟩: ∃ b,b=(ons[k]).2:=⟨_,rfl⟩
  have hkH:=hHk k hk2
  rw [← hb] at hkH
  have hwb:=BL (d++v) b (hb ▸ hw _ (List.getElem_mem hk2))
  obtain ⟨hnb,hng⟩:=wT hl b (hb ▸ ho _ (List.getElem_mem hk2)) [] GN.nil
  have hbody:=qZ H k ab
  rw [hkH] at hbody
  generalize zn (d++v) b []=M at hnb hng
  have hMl:=hng.len
  refine bz (hK4 _ ?_)
  clear hK4;try clear K4
  refine aG fun K6 hK6=> ?_
  refine au (am (bv rfl rfl rfl (fG rfl rfl rfl (aS rfl (ai (bg _ _ aa rfl rfl _ rfl ab (by (simp only [ba,bo,bm,bC,bw,bJ,bD,List.length_map];omega)) ag) ?_)))))
  refine ai (dk _ aa rfl rfl) (ai (cj _ aa rfl (by exact hbody) rfl) ?_)
  refine ai (aM aa al (hwb) rfl rfl) ?_
  refine cw rfl (aj (aq (am (cP rfl (ai (cT (r:=false) _ rfl rfl) (aj (aR rfl rfl (aJ (aq ?_)))))))))
  refine aO (σ':=aB 43 [(1,_),(3,_)] [((1,0),_)] [] []) kp ?_
  refine an (bv rfl rfl rfl (fG rfl rfl rfl (aS rfl (ai (bg _ _ aa rfl rfl _ rfl ab (by (simp only [ba,bo,bm,bC,bw,bJ,bD,List.length_map];omega)) ag) ?_))))
  refine ai (dk _ aa rfl rfl) (ai (cj _ aa rfl (by exact hbody) rfl) ?_)
  refine ai (aM aa al (hnb) rfl rfl) ?_
  refine kB rfl (aj (am (aZ rfl (aj (au ?_)))))
  refine bB (α:=Nat) (fun q=> q≤M.length) 43 [(1,_),(3,_),(5,_)] [((1,0),_)] (fun q=> [(6, .v (.int .i64 (q:Int)))]) (fun q=> []) [] [] (fun q=> M.length - q) 0 ?_ (by
   refine Le.mkJ [] [] rfl ?_ ?_ trivial trivial ?_
   ·exact ⟨(iP rfl),(iV rfl),(iS rfl),(co ag),trivial⟩
   ·exact ⟨(cI rfl rfl rfl),trivial⟩
   ·kernel_rfl) ?_
  ·omega
  intro q hq
  refine aG fun K12 hK12=> ?_
  refine am (aS rfl (ez rfl (ai (bH _ aa rfl) (ai (bq _ _ rfl rfl rfl) (aj (aV rfl (fun hc33=> ?_) (fun hc33=> ?_)))))))
  ·skip
   obtain ⟨i,hi,hiq⟩: ∃ i,i < (d++v).length∧M.getD q []=(d++v).getD i []:=by
    have hm:=hng.2 _ (iW (show q < M.length by omega))
    obtain ⟨i,hi,he⟩:=List.getElem_of_mem hm
    exact ⟨i,hi,by rw [List.getD_eq_getElem?_getD (l:=d++v),List.getElem?_eq_getElem hi,← he];rfl⟩
   have hix:=lg d v (lk H) H.length hn ab i hi
   rw [← hiq] at hix
   refine bz (hK12 _ ?_)
   clear hK12;try clear K12
   refine aq (au (aq ?_))
   refine aO (σ':=aB 43 [(1,_),(3,_),(5,_),(6,_)] [((1,0),_)] [] []) kp ?_
   refine bE 7 [36,37,38,39,40,41,42] [] ae ae rfl (aK rfl) (rfl:_=[_,_,_,_,_,_,_]) (rfl:_=[]) ?_
   refine ap (_,[]) (fun τ=> aP _ aa rfl rfl rfl rfl) ?_
   refine eE rfl ?_
   refine ap (_,[]) (fun τ=> aE _ (rfl:_=AV.sl _ _)) ?_
   refine eF rfl ?_
   refine ap (_,[]) (fun τ=> aE _ (rfl:_=AV.v (.int _ _))) ?_
   refine eD rfl ?_
   refine ap (_,[]) (fun τ=> bg _ _ aa rfl rfl _ rfl ab (by (simp only [ba,bo,bm,bC,bw,bJ,bD,List.length_map];omega)) (by exact Nat.mul_one _)) ?_
   refine eI rfl ?_
   refine ap (_,[]) (fun τ=> bG _ aa rfl (by exact fu _ _ ab) rfl) ?_
   refine eU rfl ?_
   refine ap (_,[]) (fun τ=> (aM aa al (hix) rfl rfl)) ?_
   refine fh rfl ?_
   refine ap (_,[]) (fun τ=> bq (r:=false) _ _ rfl rfl (decide_eq_false ab)) ?_
   refine fZ rfl (bi ⟨rfl,?_⟩)
   refine aj (aR rfl rfl (cg (an (aS rfl (ai (be _ _ rfl rfl (br ab)) ?_)))))
   refine aZ rfl (az (⟨q+1,?_,?_,?_⟩))
   ·omega
   ·skip
    refine Le.mkJ [] [] rfl ?_ ?_ trivial trivial ?_
    ·exact ⟨(iP rfl),(iV rfl),(iS rfl),(co ag),trivial⟩
    ·exact ⟨(cI rfl rfl rfl),trivial⟩
    ·kernel_rfl
   ·omega
  ·skip
   refine bK (id (hK6 _ ?_))
   clear hK6;try clear K6
   refine an (aS rfl (ai (be _ _ rfl rfl (br ab)) ?_))
   refine aZ rfl (az (⟨k+1,?_,?_,?_⟩))
   ·omega
   ·skip
    refine Le.mkJ [] [] rfl ?_ ?_ trivial trivial ?_
    ·exact ⟨(iP rfl),(co ag),trivial⟩
    ·exact ⟨(cI rfl rfl rfl),trivial⟩
    ·kernel_rfl
   ·omega
 ·skip
  refine bK (id (hK2 _ ?_))
  clear hK2;try clear K2
  exact am (aZ rfl (aj (aD (aY (.inr rfl) rfl (.tmp (rfl:_=AV.v _)) (Le.out [] [] .v rfl rfl rfl trivial trivial)))))

theorem mc (C:List eu):((inl C).drop 0).take (C.length*2)=inl C:=List.take_of_length_le (by rw [List.drop_zero,bQ];exact Nat.le_refl _)
theorem ka (C:List eu):0+C.length*2≤(inl C).length:=by rw [bQ,Nat.zero_add];exact Nat.le_refl _
theorem vI (l:List Tx) (n:Nat) (hn:l.length=n) (h1:n≤1000) (hd:l.Nodup) (i:Nat) (hi:i < n):Spec Tryz.prog 122 (bk [.sl n (dT l), .v (bt (l.getD i []))] []) (aW (.v (.int .i64 (i:Int))) []):=by
 refine Spec.ofN Tryz.func122 rfl Tryz.ntmps122 rfl ?_
 refine am (aZ rfl (aj (aq (am (aZ rfl (aj (au ?_)))))))
 refine bB (α:=Nat) (fun k=> k≤n∧k≤i) 19 [(0,_),(1,_)] [] (fun k=> [(5, .v (.int .i64 (k:Int)))]) (fun k=> []) [] [] (fun k=> n - k) 0 ?_ (by
  refine Le.mkJ [] [] rfl ?_ ?_ trivial trivial ?_
  ·exact ⟨(iS rfl),(iV rfl),(co ag),trivial⟩
  ·exact trivial
  ·kernel_rfl) ?_
 ·exact ⟨Nat.zero_le _,Nat.zero_le _⟩
 intro k hk
 obtain ⟨hk,hki⟩:=hk
 refine aG fun K4 hK4=> ?_
 refine am (aS rfl (ez rfl (ai (bH _ aa rfl) (ai (bq _ _ rfl rfl rfl) (aj (aV rfl (fun hc9=> ?_) (fun hc9=> ?_)))))))
 ·skip
  refine bz (hK4 _ ?_)
  clear hK4;try clear K4
  refine aq (au (am (ez rfl (aS rfl (ai (bg _ _ aa rfl rfl _ rfl ab (by (simp only [ba,bo,bm,bC,bw,bJ,bD,bQ];omega)) (by exact Nat.mul_one _)) ?_)))))
  refine ai (bG _ aa rfl (by exact fu _ _ ab) rfl) ?_
  refine dL rfl (ai (aT _ _ Tryz.underlying9 rfl rfl rfl) (aj (aV rfl (fun hc17=> ?_) (fun hc17=> ?_))))
  ·skip
   have he:k=i:=lj hd ab ab hc17
   refine am (aS rfl (aZ rfl (aj (aD (aY (.inr rfl) rfl (.tmp (rfl:_=AV.v (.int _ _))) (Le.out [] [] (co ?_) rfl rfl rfl trivial trivial))))))
   rw [he]
  ·skip
   have he:k≠i:=fun e=> hc17 (by rw [e])
   refine cg (an (aS rfl (ai (be _ _ rfl rfl (br ab)) ?_)))
   refine aZ rfl (az (⟨k+1,?_,?_,?_⟩))
   ·exact ⟨by omega,by omega⟩
   ·skip
    refine Le.mkJ [] [] rfl ?_ ?_ trivial trivial ?_
    ·exact ⟨(iS rfl),(iV rfl),(co ag),trivial⟩
    ·exact trivial
    ·kernel_rfl
   ·omega
 ·skip
  exact absurd hki ab
theorem mY:Spec Tryz.prog 123 (bk [] []) (aW (.sl 9 (dT bltT)) []):=by
 refine Spec.ofN Tryz.func123 rfl Tryz.ntmps123 rfl ?_
 refine am (ai (bA _ (rfl:_=AV.v (.slice _ _ _))) (aj (am (ai (aX _ _ aa rfl ag (by (simp <;> rfl)) ah rfl) ?_))))
 exact kB rfl (aj (aD (aY (.inr rfl) rfl (.tmp (rfl:_=AV.sl _ _)) (Le.out [] [] .sl rfl rfl rfl trivial trivial))))
theorem yX:Spec Tryz.prog 126 (bk [.v (bt [43])] []) (aW (.sl (Bo.add).code.length (inl (Bo.add).code)) []):=by
 refine Spec.ofN Tryz.func126 rfl Tryz.ntmps126 rfl ?_
 refine am (ai (bA _ (rfl:_=AV.v (.slice _ _ _))) (aj (aq (am (dL rfl (aj (au (am (ai (aT (r:=true) _ _ Tryz.underlying9 rfl rfl rfl) (cw rfl ?_))))))))))
 refine aj (bF rfl rfl (am (ai (ay _ aa rfl (by exact (rfl:_=some [_,_]))) ?_)))
 refine ai (aX _ _ aa rfl ag (by (simp <;> rfl)) ah rfl) ?_
 exact kB rfl (aj (aD (aY (.inr rfl) rfl (.tmp (rfl:_=AV.sl _ _)) (Le.out [] [] .sl rfl rfl rfl trivial trivial))))
theorem zh:Spec Tryz.prog 126 (bk [.v (bt [45])] []) (aW (.sl (Bo.sub).code.length (inl (Bo.sub).code)) []):=by
 refine Spec.ofN Tryz.func126 rfl Tryz.ntmps126 rfl ?_
 refine am (ai (bA _ (rfl:_=AV.v (.slice _ _ _))) (aj (aq (am (dL rfl (aj (au (am (ai (aT (r:=false) _ _ Tryz.underlying9 rfl rfl rfl) (cw rfl ?_))))))))))
 refine aj (aR rfl rfl (am (ai (aT (r:=true) _ _ Tryz.underlying9 rfl rfl rfl) (cw rfl (aj (bF rfl rfl (am (ai (ay _ aa rfl (by exact (rfl:_=some [_,_]))) ?_))))))))
 refine ai (aX _ _ aa rfl ag (by (simp <;> rfl)) ah rfl) ?_
 exact kB rfl (aj (aD (aY (.inr rfl) rfl (.tmp (rfl:_=AV.sl _ _)) (Le.out [] [] .sl rfl rfl rfl trivial trivial))))
theorem xu:Spec Tryz.prog 126 (bk [.v (bt [42])] []) (aW (.sl (Bo.mul).code.length (inl (Bo.mul).code)) []):=by
 refine Spec.ofN Tryz.func126 rfl Tryz.ntmps126 rfl ?_
 refine am (ai (bA _ (rfl:_=AV.v (.slice _ _ _))) (aj (aq (am (dL rfl (aj (au (am (ai (aT (r:=false) _ _ Tryz.underlying9 rfl rfl rfl) (cw rfl ?_))))))))))
 refine aj (aR rfl rfl (am (ai (aT (r:=false) _ _ Tryz.underlying9 rfl rfl rfl) (cw rfl (aj (aR rfl rfl (am (ai (aT (r:=true) _ _ Tryz.underlying9 rfl rfl rfl) (cw rfl (aj ?_))))))))))
 refine bF rfl rfl (am (ai (ay _ aa rfl (by exact (rfl:_=some [_,_]))) ?_))
 refine ai (aX _ _ aa rfl ag (by (simp <;> rfl)) ah rfl) ?_
 exact kB rfl (aj (aD (aY (.inr rfl) rfl (.tmp (rfl:_=AV.sl _ _)) (Le.out [] [] .sl rfl rfl rfl trivial trivial))))
theorem yu:Spec Tryz.prog 126 (bk [.v (bt [47])] []) (aW (.sl (Bo.div).code.length (inl (Bo.div).code)) []):=by
 refine Spec.ofN Tryz.func126 rfl Tryz.ntmps126 rfl ?_
 refine am (ai (bA _ (rfl:_=AV.v (.slice _ _ _))) (aj (aq (am (dL rfl (aj (au (am (ai (aT (r:=false) _ _ Tryz.underlying9 rfl rfl rfl) (cw rfl ?_))))))))))
 refine aj (aR rfl rfl (am (ai (aT (r:=false) _ _ Tryz.underlying9 rfl rfl rfl) (cw rfl (aj (aR rfl rfl (am (ai (aT (r:=false) _ _ Tryz.underlying9 rfl rfl rfl) (cw rfl (aj ?_))))))))))
 refine aR rfl rfl (am (ai (aT (r:=true) _ _ Tryz.underlying9 rfl rfl rfl) (cw rfl (aj (bF rfl rfl (am (ai (ay _ aa rfl (by exact (rfl:_=some [_,_]))) ?_)))))))
 refine ai (aX _ _ aa rfl ag (by (simp <;> rfl)) ah rfl) ?_
 exact kB rfl (aj (aD (aY (.inr rfl) rfl (.tmp (rfl:_=AV.sl _ _)) (Le.out [] [] .sl rfl rfl rfl trivial trivial))))
theorem BG:Spec Tryz.prog 126 (bk [.v (bt [60])] []) (aW (.sl (Bo.lt).code.length (inl (Bo.lt).code)) []):=by
 refine Spec.ofN Tryz.func126 rfl Tryz.ntmps126 rfl ?_
 refine am (ai (bA _ (rfl:_=AV.v (.slice _ _ _))) (aj (aq (am (dL rfl (aj (au (am (ai (aT (r:=false) _ _ Tryz.underlying9 rfl rfl rfl) (cw rfl ?_))))))))))
 refine aj (aR rfl rfl (am (ai (aT (r:=false) _ _ Tryz.underlying9 rfl rfl rfl) (cw rfl (aj (aR rfl rfl (am (ai (aT (r:=false) _ _ Tryz.underlying9 rfl rfl rfl) (cw rfl (aj ?_))))))))))
 refine aR rfl rfl (am (ai (aT (r:=false) _ _ Tryz.underlying9 rfl rfl rfl) (cw rfl (aj (aR rfl rfl (am (ai (aT (r:=true) _ _ Tryz.underlying9 rfl rfl rfl) (cw rfl (aj (bF rfl rfl ?_))))))))))
 refine am (ai (ay _ aa rfl (by exact (rfl:_=some [_,_]))) ?_)
 refine ai (aX _ _ aa rfl ag (by (simp <;> rfl)) ah rfl) ?_
 exact kB rfl (aj (aD (aY (.inr rfl) rfl (.tmp (rfl:_=AV.sl _ _)) (Le.out [] [] .sl rfl rfl rfl trivial trivial))))
theorem Bl:Spec Tryz.prog 126 (bk [.v (bt [60,61])] []) (aW (.sl (Bo.le).code.length (inl (Bo.le).code)) []):=by
 refine Spec.ofN Tryz.func126 rfl Tryz.ntmps126 rfl ?_
 refine am (ai (bA _ (rfl:_=AV.v (.slice _ _ _))) (aj (aq (am (dL rfl (aj (au (am (ai (aT (r:=false) _ _ Tryz.underlying9 rfl rfl rfl) (cw rfl ?_))))))))))
 refine aj (aR rfl rfl (am (ai (aT (r:=false) _ _ Tryz.underlying9 rfl rfl rfl) (cw rfl (aj (aR rfl rfl (am (ai (aT (r:=false) _ _ Tryz.underlying9 rfl rfl rfl) (cw rfl (aj ?_))))))))))
 refine aR rfl rfl (am (ai (aT (r:=false) _ _ Tryz.underlying9 rfl rfl rfl) (cw rfl (aj (aR rfl rfl (am (ai (aT (r:=false) _ _ Tryz.underlying9 rfl rfl rfl) (cw rfl (aj (aR rfl rfl ?_))))))))))
 refine am (ai (aT (r:=true) _ _ Tryz.underlying9 rfl rfl rfl) (cw rfl (aj (bF rfl rfl (am (ai (ay _ aa rfl (by exact (rfl:_=some [_,_]))) ?_))))))
 refine ai (aX _ _ aa rfl ag (by (simp <;> rfl)) ah rfl) ?_
 exact kB rfl (aj (aD (aY (.inr rfl) rfl (.tmp (rfl:_=AV.sl _ _)) (Le.out [] [] .sl rfl rfl rfl trivial trivial))))
theorem zO:Spec Tryz.prog 126 (bk [.v (bt [61,61])] []) (aW (.sl (Bo.eq).code.length (inl (Bo.eq).code)) []):=by
 refine Spec.ofN Tryz.func126 rfl Tryz.ntmps126 rfl ?_
 refine am (ai (bA _ (rfl:_=AV.v (.slice _ _ _))) (aj (aq (am (dL rfl (aj (au (am (ai (aT (r:=false) _ _ Tryz.underlying9 rfl rfl rfl) (cw rfl ?_))))))))))
 refine aj (aR rfl rfl (am (ai (aT (r:=false) _ _ Tryz.underlying9 rfl rfl rfl) (cw rfl (aj (aR rfl rfl (am (ai (aT (r:=false) _ _ Tryz.underlying9 rfl rfl rfl) (cw rfl (aj ?_))))))))))
 refine aR rfl rfl (am (ai (aT (r:=false) _ _ Tryz.underlying9 rfl rfl rfl) (cw rfl (aj (aR rfl rfl (am (ai (aT (r:=false) _ _ Tryz.underlying9 rfl rfl rfl) (cw rfl (aj (aR rfl rfl ?_))))))))))
 refine am (ai (aT (r:=false) _ _ Tryz.underlying9 rfl rfl rfl) (cw rfl (aj (aR rfl rfl (am (ai (aT (r:=true) _ _ Tryz.underlying9 rfl rfl rfl) (cw rfl (aj (bF rfl rfl (aq ?_))))))))))
 refine aO (σ':=aB 45 [] [] [] []) kp ?_
 refine an (ai (ay _ aa rfl (by exact (rfl:_=some [_,_]))) ?_)
 refine ai (aX _ _ aa rfl ag (by (simp <;> rfl)) ah rfl) ?_
 exact kB rfl (aj (aD (aY (.inr rfl) rfl (.tmp (rfl:_=AV.sl _ _)) (Le.out [] [] .sl rfl rfl rfl trivial trivial))))
theorem Al:Spec Tryz.prog 126 (bk [.v (bt [62])] []) (aW (.sl (Bo.gt).code.length (inl (Bo.gt).code)) []):=by
 refine Spec.ofN Tryz.func126 rfl Tryz.ntmps126 rfl ?_
 refine am (ai (bA _ (rfl:_=AV.v (.slice _ _ _))) (aj (aq (am (dL rfl (aj (au (am (ai (aT (r:=false) _ _ Tryz.underlying9 rfl rfl rfl) (cw rfl ?_))))))))))
 refine aj (aR rfl rfl (am (ai (aT (r:=false) _ _ Tryz.underlying9 rfl rfl rfl) (cw rfl (aj (aR rfl rfl (am (ai (aT (r:=false) _ _ Tryz.underlying9 rfl rfl rfl) (cw rfl (aj ?_))))))))))
 refine aR rfl rfl (am (ai (aT (r:=false) _ _ Tryz.underlying9 rfl rfl rfl) (cw rfl (aj (aR rfl rfl (am (ai (aT (r:=false) _ _ Tryz.underlying9 rfl rfl rfl) (cw rfl (aj (aR rfl rfl ?_))))))))))
 refine am (ai (aT (r:=false) _ _ Tryz.underlying9 rfl rfl rfl) (cw rfl (aj (aR rfl rfl (am (ai (aT (r:=false) _ _ Tryz.underlying9 rfl rfl rfl) (cw rfl (aj (aR rfl rfl (aq ?_))))))))))
 refine aO (σ':=aB 45 [(3,_)] [] [] []) kp ?_
 refine an (ai (aT (r:=true) _ _ Tryz.underlying9 rfl rfl rfl) (cw rfl (aj (bF rfl rfl (am (ai (ay _ aa rfl (by exact (rfl:_=some [_,_]))) ?_))))))
 refine ai (ay _ aa rfl (by exact (rfl:_=some [_,_]))) ?_
 refine ai (aX _ _ aa rfl ag (by (simp <;> rfl)) ah rfl) ?_
 exact kB rfl (aj (aD (aY (.inr rfl) rfl (.tmp (rfl:_=AV.sl _ _)) (Le.out [] [] .sl rfl rfl rfl trivial trivial))))
theorem zU:Spec Tryz.prog 126 (bk [.v (bt [62,61])] []) (aW (.sl (Bo.ge).code.length (inl (Bo.ge).code)) []):=by
 refine Spec.ofN Tryz.func126 rfl Tryz.ntmps126 rfl ?_
 refine am (ai (bA _ (rfl:_=AV.v (.slice _ _ _))) (aj (aq (am (dL rfl (aj (au (am (ai (aT (r:=false) _ _ Tryz.underlying9 rfl rfl rfl) (cw rfl ?_))))))))))
 refine aj (aR rfl rfl (am (ai (aT (r:=false) _ _ Tryz.underlying9 rfl rfl rfl) (cw rfl (aj (aR rfl rfl (am (ai (aT (r:=false) _ _ Tryz.underlying9 rfl rfl rfl) (cw rfl (aj ?_))))))))))
 refine aR rfl rfl (am (ai (aT (r:=false) _ _ Tryz.underlying9 rfl rfl rfl) (cw rfl (aj (aR rfl rfl (am (ai (aT (r:=false) _ _ Tryz.underlying9 rfl rfl rfl) (cw rfl (aj (aR rfl rfl ?_))))))))))
 refine am (ai (aT (r:=false) _ _ Tryz.underlying9 rfl rfl rfl) (cw rfl (aj (aR rfl rfl (am (ai (aT (r:=false) _ _ Tryz.underlying9 rfl rfl rfl) (cw rfl (aj (aR rfl rfl (aq ?_))))))))))
 refine aO (σ':=aB 45 [(3,_)] [] [] []) kp ?_
 refine an (ai (aT (r:=false) _ _ Tryz.underlying9 rfl rfl rfl) (cw rfl (aj (aR rfl rfl (am (ai (aT (r:=true) _ _ Tryz.underlying9 rfl rfl rfl) (cw rfl (aj (bF rfl rfl (am ?_))))))))))
 refine ai (ay _ aa rfl (by exact (rfl:_=some [_,_]))) ?_
 refine ai (ay _ aa rfl (by exact (rfl:_=some [_,_]))) ?_
 refine ai (aX _ _ aa rfl ag (by (simp <;> rfl)) ah rfl) ?_
 exact kB rfl (aj (aD (aY (.inr rfl) rfl (.tmp (rfl:_=AV.sl _ _)) (Le.out [] [] .sl rfl rfl rfl trivial trivial))))
theorem zC:Spec Tryz.prog 126 (bk [.v (bt [33,61])] []) (aW (.sl (Bo.ne).code.length (inl (Bo.ne).code)) []):=by
 refine Spec.ofN Tryz.func126 rfl Tryz.ntmps126 rfl ?_
 refine am (ai (bA _ (rfl:_=AV.v (.slice _ _ _))) (aj (aq (am (dL rfl (aj (au (am (ai (aT (r:=false) _ _ Tryz.underlying9 rfl rfl rfl) (cw rfl ?_))))))))))
 refine aj (aR rfl rfl (am (ai (aT (r:=false) _ _ Tryz.underlying9 rfl rfl rfl) (cw rfl (aj (aR rfl rfl (am (ai (aT (r:=false) _ _ Tryz.underlying9 rfl rfl rfl) (cw rfl (aj ?_))))))))))
 refine aR rfl rfl (am (ai (aT (r:=false) _ _ Tryz.underlying9 rfl rfl rfl) (cw rfl (aj (aR rfl rfl (am (ai (aT (r:=false) _ _ Tryz.underlying9 rfl rfl rfl) (cw rfl (aj (aR rfl rfl ?_))))))))))
 refine am (ai (aT (r:=false) _ _ Tryz.underlying9 rfl rfl rfl) (cw rfl (aj (aR rfl rfl (am (ai (aT (r:=false) _ _ Tryz.underlying9 rfl rfl rfl) (cw rfl (aj (aR rfl rfl (aq ?_))))))))))
 refine aO (σ':=aB 45 [(3,_)] [] [] []) kp ?_
 refine an (ai (aT (r:=false) _ _ Tryz.underlying9 rfl rfl rfl) (cw rfl (aj (aR rfl rfl (am (ai (aT (r:=false) _ _ Tryz.underlying9 rfl rfl rfl) (cw rfl (aj (aR rfl rfl (cg ?_))))))))))
 refine am (ai (ay _ aa rfl (by exact (rfl:_=some [_,_]))) ?_)
 refine ai (ay _ aa rfl (by exact (rfl:_=some [_,_]))) ?_
 refine ai (aX _ _ aa rfl ag (by (simp <;> rfl)) ah rfl) ?_
 exact kB rfl (aj (aD (aY (.inr rfl) rfl (.tmp (rfl:_=AV.sl _ _)) (Le.out [] [] .sl rfl rfl rfl trivial trivial))))
theorem vZ (o:Bo):Spec Tryz.prog 126 (bk [.v (bt o.txt)] []) (aW (.sl o.code.length (inl o.code)) []):=by
 cases o
 ·exact yX
 ·exact zh
 ·exact xu
 ·exact yu
 ·exact BG
 ·exact Bl
 ·exact zO
 ·exact Al
 ·exact zU
 ·exact zC

abbrev Cd:=Nat→List eu
abbrev CoS (u:AV) (d:Nd) (c:Cd):Prop:= ∀ a,a+(c a).length≤1000000→Spec Tryz.prog 91 (bk [u,mW d, .v (.int .i64 (a:Int))] []) (aW (.ref (0,8) 0 (c a).length) [((0,8), .row 48 2 (inl (c a)))])
def cN:List Cd→Nat→List eu
 | [],_=> []
 | c::cs,a=> c a++cN cs (a+(c a).length)
theorem oy: ∀ (l m:List Cd) (a:Nat),cN (l++m) a=cN l a++cN m (a+(cN l a).length)
 | [],m,a=> by simp [cN]
 | c::l,m,a=> by simp only [List.cons_append,cN,oy l m,List.append_assoc,List.length_append,Nat.add_assoc]
theorem vb {cs:List Cd} {j a:Nat} (h:j < cs.length):cN (cs.take (j+1)) a=cN (cs.take j) a++(cs.getD j fun _=> []) (a+(cN (cs.take j) a).length):=by
 rw [List.take_succ_eq_append_getElem h,oy]
 simp [cN,h]
theorem ph {cs:List Cd} {j a:Nat}:(cN (cs.take j) a).length≤(cN cs a).length:=by
 conv=> rhs;rw [← List.take_append_drop j cs,oy]
 rw [List.length_append];omega
abbrev kU (u:AV) (L:List Nd) (cs:List Cd):Prop:= ∀ j,j < L.length→CoS u (jA L j) (cs.getD j fun _=> [])
theorem zP {u:AV}:kU u [] []:=fun j hj=> by simp at hj
theorem vY {u:AV} {d:Nd} {c:Cd} {L:List Nd} {cs:List Cd} (h:CoS u d c) (h':kU u L cs):kU u (d::L) (c::cs):=fun j hj=> by
 cases j with
 | zero=> exact h
 | succ j=> exact h' j (by simpa using hj)
section
variable {d v:List Tx} {no:Nat} {on:List PV}
abbrev uu (d v:List Tx) (no:Nat) (on:List PV):AV:= .agg [.sl d.length (dT d), .sl v.length (dT v), .sl no on]
theorem dw (L:List Nd) (cs:List Cd) (hc:cs.length=L.length) (hk:kU (uu d v no on) L cs) (a:Nat) (ha:a+(cN cs a).length≤1000000):
  Spec Tryz.prog 125 (bk [uu d v no on, .sl L.length (kG L), .v (.int .i64 (a:Int))] []) (aW (.ref (0,8) 0 (cN cs a).length) [((0,8), .row 48 2 (inl (cN cs a)))]):=by
 refine Spec.ofN Tryz.func125 rfl Tryz.ntmps125 rfl ?_
 refine aq ?_
 refine CE 1 rfl rfl fun hlen=> ?_
 unfold maxLen at hlen
 refine an (ai (bf (3,0) _ rfl rfl) (ai (bA _ (rfl:_=AV.v (.slice _ _ _))) (aj (am (ai (oD (7,0) _ 48 2 rfl rfl) ?_)))))
 refine aj (aG fun K3 hK3=> ?_)
 refine am (aZ rfl (aj (au ?_)))
 refine bB (α:=Nat) (fun j=> j≤L.length) 28 [(1,_),(2,_),(3,_)] [((3,0),_)] (fun j=> [(8, .v (.int .i64 (j:Int))),(7, .ref (7,0) 0 (cN (cs.take j) a).length)]) (fun j=> [((7,0), .row 48 2 (inl (cN (cs.take j) a)))]) [] [] (fun j=> L.length - j) 0 ?_ (by
  refine Le.mkJ [] [] rfl ?_ ?_ trivial trivial ?_
  ·exact ⟨(iS rfl),(iV rfl),(iP rfl),(co ag),(cX rfl ag),trivial⟩
  ·exact ⟨(cI rfl rfl rfl),(fJ rfl rfl rfl ag),trivial⟩
  ·kernel_rfl) ?_
 ·omega
 intro j hj
 have htk:(cN (cs.take j) a).length≤(cN cs a).length:=ph
 refine aG fun K5 hK5=> ?_
 refine am (aS rfl (ez rfl (ai (bH _ aa rfl) (ai (bq _ _ rfl rfl rfl) (aj (aV rfl (fun hc12=> ?_) (fun hc12=> ?_)))))))
 ·skip
  have hs:=vb (cs:=cs) (j:=j) (a:=a) ab
  have htk1:(cN (cs.take (j+1)) a).length≤(cN cs a).length:=ph
  have hsl:=congrArg List.length hs
  rw [List.length_append] at hsl
  have hcj:=hk j ab (a+(cN (cs.take j) a).length) ab
  generalize (cs.getD j fun _=> []) (a+(cN (cs.take j) a).length)=C at hs hsl hcj
  refine bz (hK5 _ ?_)
  clear hK5;try clear K5
  refine aq (au ?_)
  refine aO (σ':=aB 28 [(1,_),(2,_),(3,_),(7,_),(8,_)] [((3,0),_),((7,0),_)] [] []) kp ?_
  refine bE 11 [15,16,17,18,19,20,21,22,23,24,25] [(50,0)] ae ae rfl (aK rfl) (rfl:_=[_,_,_,_,_,_,_,_,_,_,_]) (rfl:_=[_,_]) ?_
  refine ap (_,[]) (fun τ=> aE _ (rfl:_=AV.ref _ _ _)) ?_
  refine eE rfl ?_
  refine ap (_,[]) (fun τ=> aP _ aa rfl rfl rfl rfl) ?_
  refine eF rfl ?_
  refine ap (_,[]) (fun τ=> aE _ (rfl:_=AV.sl _ _)) ?_
  refine eD rfl ?_
  refine ap (_,[]) (fun τ=> aE _ (rfl:_=AV.v (.int _ _))) ?_
  refine eI rfl ?_
  refine ap (_,[]) (fun τ=> bg _ _ aa rfl rfl _ rfl ab (by (simp only [ba,bo,bm,bC,bw,bJ,bD,bQ];omega)) ag) ?_
  refine eU rfl ?_
  refine ap (_,[]) (fun τ=> cj _ aa rfl (by exact cH _ _ ab) rfl) ?_
  refine fh rfl ?_
  refine ap (_,[]) (fun τ=> aE _ (rfl:_=AV.v (.int _ _))) ?_
  refine fZ rfl ?_
  refine ap (_,[]) (fun τ=> aE _ (rfl:_=AV.ref _ _ _)) ?_
  refine jz rfl ?_
  refine ap (_,[]) (fun τ=> dv _ aa rfl rfl) ?_
  refine jC rfl ?_
  refine ap (_,[]) (fun τ=> be _ _ rfl rfl (br ab)) ?_
  refine fK rfl ?_
  refine ap (_,[((50,0),_)]) (fun τ=> (cQ aa [((0,8),(50,0))] ar (hcj.toI) trivial tr tr rfl rfl ae ae)) ?_
  refine gl rfl (bi ⟨rfl,?_⟩)
  refine ai (dt (26,0) _ _ aa rfl rfl (bQ _).symm (.ref rfl (mc _) (ka _)) ab rfl (ko _ _) hsl.symm) ?_
  refine fb rfl (fP (an (aS rfl (ai (be _ _ rfl rfl (br ab)) ?_))))
  refine aZ rfl (az (⟨j+1,?_,?_,?_⟩))
  ·omega
  ·skip
   refine Le.mkJ [((7,0),(26,0))] [] rfl ?_ ?_ trivial trivial ?_
   ·exact ⟨(by repeat' (exact Lv.sl)),(by repeat' (exact Lv.v)),(dD (id:=(3,0)) rfl),(co ag),(cX rfl ag),trivial⟩
   ·exact ⟨(fg rfl rfl rfl rfl (by repeat' (first | exact Lv.sl | exact bn | refine aC ?_ ?_))),(fJ rfl rfl rfl (by (rw [hs]))),trivial⟩
   ·kernel_rfl
  ·omega
 ·skip
  obtain rfl:j=cs.length:=by omega
  rw [List.take_length]
  refine bK (id (hK3 _ ?_))
  clear hK3;try clear K3
  exact am (gD rfl (fb rfl (aj (aD (aY (.inr rfl) rfl (.tmp (rfl:_=AV.ref _ _ _)) (Le.out [((0,8),(7,0))] [] (cX rfl rfl) rfl rfl rfl trivial ob))))))
theorem nr (N:Nd) (c:Cd) (h:CoS (uu d v no on) N c) (n:Int) (a:Nat) (ha:a+(c a).length≤1000000):
  Spec Tryz.prog 187 (bk [uu d v no on, .sl 1 (kG [N]), .v (.int .i64 n), .v (.int .i64 (a:Int))] []) (aW (.ref (0,8) 0 (c a).length) [((0,8), .row 48 2 (inl (c a)))]):=by
 have hc:=h a ha
 refine Spec.ofN Tryz.func187 rfl Tryz.ntmps187 rfl ?_
 refine am (ai (bf (4,0) _ rfl rfl) (ai (bA _ (rfl:_=AV.v (.slice _ _ _))) (aj (aq (am (ez rfl (ai (bH _ aa rfl) (ai (dB _ _ rfl rfl rfl) (aj (bF rfl rfl ?_))))))))))
 refine aq ?_
 refine aO (σ':=aB 21 [(1,_),(3,_),(4,_)] [((4,0),_)] [] []) kp ?_
 refine bE 5 [12,13,14,15,16] [] ae ae rfl (aK rfl) (rfl:_=[_,_,_,_,_]) (rfl:_=[_,_]) ?_
 refine ap (_,[]) (fun τ=> aP _ aa rfl rfl rfl rfl) ?_
 refine eE rfl ?_
 refine ap (_,[]) (fun τ=> aE _ (rfl:_=AV.sl _ _)) ?_
 refine eF rfl ?_
 refine ap (_,[]) (fun τ=> bg _ _ aa rfl rfl 0 rfl ab (by simp [kG,Nd.row]) rfl) ?_
 refine eD rfl ?_
 refine ap (_,[]) (fun τ=> cj _ aa rfl (by exact cH [N] 0 (by simp)) rfl) ?_
 refine eI rfl ?_
 refine ap (_,[]) (fun τ=> aE _ (rfl:_=AV.v (.int _ _))) ?_
 refine eU rfl (bi ⟨rfl,?_⟩)
 refine ai (dl aa [((0,8),(50,0))] ar (hc.toI) trivial tr ae) ?_
 exact fb rfl (aj (aD (aY (.inr rfl) rfl (.tmp (rfl:_=AV.ref _ _ _)) (Le.out [((0,8),(50,0))] [] (cX rfl rfl) rfl rfl rfl trivial ob))))
theorem rx (n:Int) (a:Nat):
  Spec Tryz.prog 187 (bk [uu d v no on, .sl 0 [], .v (.int .i64 n), .v (.int .i64 (a:Int))] []) (aW (.ref (0,8) 0 1) [((0,8), .row 48 2 (inl [{ op:= .push,n:=n }]))]):=by
 refine Spec.ofN Tryz.func187 rfl Tryz.ntmps187 rfl ?_
 refine am (ai (bf (4,0) _ rfl rfl) (ai (bA _ (rfl:_=AV.v (.slice _ _ _))) (aj (aq (am (ez rfl (ai (bH _ aa rfl) (ai (dB _ _ rfl rfl rfl) (aj (aR rfl rfl ?_))))))))))
 refine aJ (am (aS rfl (ai (ay _ aa rfl (by exact (rfl:_=some [_,_]))) ?_)))
 refine ai (jO (20,0) _ _ aa rfl ag (by (simp <;> rfl)) ah rfl rfl) ?_
 exact fb rfl (aj (aD (aY (.inr rfl) rfl (.tmp (rfl:_=AV.ref _ _ _)) (Le.out [((0,8),(20,0))] [] (cX rfl rfl) rfl rfl rfl trivial ob))))
def BZ (c y z:Cd) (a:Nat):List eu:=
 c a++[{ op:= .unl,n:=((a+(c a).length+1+(y (a+(c a).length+1)).length+1:Nat):Int) }]++y (a+(c a).length+1)++
  [{ op:= .jump,n:=((a+(c a).length+1+(y (a+(c a).length+1)).length+1+(z (a+(c a).length+1+(y (a+(c a).length+1)).length+1)).length:Nat):Int) }]++z (a+(c a).length+1+(y (a+(c a).length+1)).length+1)
abbrev NC (u:AV) (l:AV) (n:Int) (c:Cd):Prop:= ∀ a,a+(c a).length≤1000000→Spec Tryz.prog 187 (bk [u,l, .v (.int .i64 n), .v (.int .i64 (a:Int))] []) (aW (.ref (0,8) 0 (c a).length) [((0,8), .row 48 2 (inl (c a)))])
theorem kh (N:Nd) (c y z:Cd) (hc:CoS (uu d v no on) N c) (ly lz:Nat) (ys zs:List PV) (n:Int) (hy:NC (uu d v no on) (.sl ly ys) n y) (hz:NC (uu d v no on) (.sl lz zs) n z) (a:Nat) (ha:a+(BZ c y z a).length≤1000000):
  Spec Tryz.prog 124 (bk [uu d v no on,mW N, .sl ly ys, .sl lz zs, .v (.int .i64 n), .v (.int .i64 (a:Int))] []) (aW (.ref (0,8) 0 (BZ c y z a).length) [((0,8), .row 48 2 (inl (BZ c y z a)))]):=by
 have hb: ∃ b,b=BZ c y z a:=⟨_,rfl⟩
 obtain ⟨b,hb⟩:=hb
 rw [← hb] at ha ⊢
 unfold BZ at hb
 have hbl:=congrArg List.length hb
 simp only [List.length_append,List.length_cons,List.length_nil] at hbl
 have h1:=hc a ab
 generalize c a=C at h1 hb hbl
 have h2:=hy (a+C.length+1) ab
 generalize y (a+C.length+1)=Y at h2 hb hbl
 obtain ⟨f,hf⟩: ∃ f,f=a+C.length+1+Y.length+1:=⟨_,rfl⟩
 rw [← hf] at hb hbl
 have h3:=hz f ab
 generalize z f=Z at h3 hb hbl
 refine Spec.ofN Tryz.func124 rfl Tryz.ntmps124 rfl ?_
 refine am (ai (bf (6,0) _ rfl rfl) (ai (bf (7,0) _ rfl rfl) (ai (bA _ (rfl:_=AV.v (.slice _ _ _))) (aj (am (ai (aP _ aa rfl rfl rfl rfl) (ai (aP _ aa rfl rfl rfl rfl) (aS rfl (ai (dl aa [((0,8),(50,0))] ar (h1.toI) trivial tr ae) ?_)))))))))
 refine fb rfl (aj (aG fun K3 hK3=> ?_))
 refine an (ai (aP _ aa rfl rfl rfl rfl) (ez rfl (aS rfl (aS rfl (gD rfl (ai (dv _ aa rfl rfl) (ai (be _ _ rfl rfl (br ab)) ?_)))))))
 refine ai (be _ _ rfl rfl (br ab)) ?_
 refine ai (dl aa [((0,8),(51,0))] ar (h2.toI) trivial tr ae) ?_
 refine fb rfl (az (hK3 _ ?_))
 clear hK3;try clear K3
 refine aq ?_
 refine aO (σ':=aB 63 [(3,_),(4,_),(5,_),(6,_),(13,_),(14,_)] [((6,0),_),((50,0),_),((51,0),_)] [] []) kp ?_
 refine an (aS rfl (gD rfl (ai (dv _ aa rfl rfl) (ai (be _ _ rfl rfl (br ab)) ?_))))
 refine ai (be _ _ rfl rfl (br ab)) ?_
 refine gD rfl (ai (dv _ aa rfl rfl) (ai (be _ _ rfl rfl (br ab)) ?_))
 refine ai (be (r:=(f:Int)) _ _ rfl rfl ((br ab).trans ab)) ?_
 refine aZ rfl (aj (aG fun K5 hK5=> ?_))
 refine an (ai (aP _ aa rfl rfl rfl rfl) (ez rfl (aS rfl (aS rfl (ai (dl aa [((0,8),(52,0))] ar (h3.toI) trivial tr ae) ?_)))))
 refine fb rfl (az (hK5 _ ?_))
 clear hK5;try clear K5
 refine aq ?_
 refine aO (σ':=aB 63 [(13,_),(14,_),(15,_),(16,_)] [((50,0),_),((51,0),_),((52,0),_)] [] []) kp ?_
 refine an (gD rfl (aS rfl (ai (ay _ aa rfl (by exact (rfl:_=some [_,_]))) ?_)))
 refine ai (aX _ _ aa rfl ag (by (simp <;> rfl)) ah rfl) ?_
 refine ai (dt (48,0) _ _ aa rfl rfl (bQ _).symm (.sl rfl) ab rfl (ev _ { op:= .unl,n:=f }) (show C.length+1=(C++[({ op:= .unl,n:=f }:eu)]).length by simp)) ?_
 refine fb rfl (aj (am (gD rfl (gD rfl (ai (dt (51,1) _ _ aa rfl rfl (bQ _).symm (.ref rfl (mc _) (ka _)) (by simp;omega) rfl (ko _ _) (show (C++[({ op:= .unl,n:=f }:eu)]).length+Y.length=(C++[({ op:= .unl,n:=f }:eu)]++Y).length by simp;omega)) ?_)))))
 refine fb rfl (aj (am (gD rfl (aS rfl (gD rfl (ai (dv _ aa rfl rfl) (ai (be _ _ rfl rfl (br ab)) ?_)))))))
 refine ai (ay _ aa rfl (by exact (rfl:_=some [_,_]))) ?_
 refine ai (aX _ _ aa rfl ag (by (simp <;> rfl)) ah rfl) ?_
 refine ai (dt (59,0) _ _ aa rfl rfl (bQ _).symm (.sl rfl) (by simp;omega) rfl (ev _ { op:= .jump,n:=((f+Z.length:Nat):Int) }) (show (C++[({ op:= .unl,n:=f }:eu)]++Y).length+1=(C++[({ op:= .unl,n:=f }:eu)]++Y++[({ op:= .jump,n:=((f+Z.length:Nat):Int) }:eu)]).length by simp;omega)) ?_
 refine fb rfl (aj (aq ?_))
 refine aO (σ':=aB 63 [(13,_),(16,_)] [((52,0),_),((59,0),_)] [] []) kp ?_
 refine an (gD rfl (gD rfl (ai (dt (62,0) _ _ aa rfl rfl (bQ _).symm (.ref rfl (mc _) (ka _)) (by simp;omega) rfl ((ko _ _).trans (congrArg inl hb.symm)) (show _+Z.length=b.length by simp;omega)) ?_)))
 exact fb rfl (aj (aD (aY (.inr rfl) rfl (.tmp (rfl:_=AV.ref _ _ _)) (Le.out [((0,8),(62,0))] [] (cX rfl rfl) rfl rfl rfl trivial ob))))
end
end Go.Proofs.YtmjnackchaahbaaGreat
