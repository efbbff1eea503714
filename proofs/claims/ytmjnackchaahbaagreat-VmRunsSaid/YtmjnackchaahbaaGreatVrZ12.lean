/- Part 12 of the texts that the walk leans on: the machine, the walks, the plain laws. -/
import Derived.Test.YtmjnackchaahbaaGreatVrZ11
set_option linter.unusedSimpArgs false
set_option linter.unusedVariables false
namespace Go.Proofs.YtmjnackchaahbaaGreat
open Go.RowKit

abbrev GD (d:Nd):Prop:=Spec Tryz.prog 166 (bj [mS d] []) (aT (.v (.bool true)) [])
theorem iy {nm:List Tx} {e:Ex} (h:nb e=true):tL (dW nm e) 1:=by
 have:=Nat.eq_of_beq_eq_true h
 have h2:=eb nm e
 rwa [this] at h2
theorem Ew {P:Nd→Prop} {d:Nd} (h:P d): ∀ j,j < [d].length→P (jQ [d] j):=fun j hj=> by
 have:j=0:=by simpa using hj
 subst this
 exact h
theorem Hr {P:Nd→Prop} {d e:Nd} (h:P d) (h':P e): ∀ j,j < [d,e].length→P (jQ [d,e] j):=fun j hj=> by
 have hj:j < 2:=hj
 have:j=0∨j=1:=by omega
 rcases this with rfl | rfl
 ·exact h
 ·exact h'
theorem GQ {P:Nd→Prop} {d e f:Nd} (h:P d) (h':P e) (h2:P f): ∀ j,j < [d,e,f].length→P (jQ [d,e,f] j):=fun j hj=> by
 have hj:j < 3:=hj
 have:j=0∨j=1∨j=2:=by omega
 rcases this with rfl | rfl | rfl
 ·exact h
 ·exact h'
 ·exact h2
theorem xM {P:Nd→Prop}: ∀ j,j < ([]:List Nd).length→P (jQ [] j):=fun j hj=> by simp at hj
theorem GI {P:Nd→Prop} {d:Nd} {l:List Nd} (h:P d) (h': ∀ j,j < l.length→P (jQ l j)): ∀ j,j < (d::l).length→P (jQ (d::l) j):=fun j hj=> by
 cases j with
 | zero=> exact h
 | succ j=> exact h' j (by simpa using hj)
mutual
theorem zk (nm:List Tx): ∀ s:Sm,wj s=true→GD (oC nm s)
 | .assign i e,h=> fq 1 ab 0 (nm.getD i []) [dW nm e] (Ew (P:=fun d=> tL d 1) (iy h))
 | .send t k a b,h=> by
  simp only [wj,Bool.and_eq_true] at h
  exact fq 4 ab k [] [dW nm t,dW nm a,dW nm b] (GQ (P:=fun d=> tL d 1) (iy h.1.1) (iy h.1.2) (iy h.2))
 | .timer k,_=> fq 5 ab k [] [] (xM (P:=fun d=> tL d 1))
 | .cancel k,_=> fq 6 ab k [] [] (xM (P:=fun d=> tL d 1))
 | .sync,_=> fq 7 ab 0 [] [] (xM (P:=fun d=> tL d 1))
 | .stop,_=> fq 10 ab 0 [] [] (xM (P:=fun d=> tL d 1))
 | .reply a b,h=> by
  simp only [wj,Bool.and_eq_true] at h
  exact fq 8 ab 0 [] [dW nm a,dW nm b] (Hr (P:=fun d=> tL d 1) (iy h.1) (iy h.2))
 | .fail e,h=> fq 9 ab 0 [] [dW nm e] (Ew (P:=fun d=> tL d 1) (iy h))
 | .loop c b,h=> by
  simp only [wj,Bool.and_eq_true] at h
  have h1:=eb nm c
  rw [Nat.eq_of_beq_eq_true h.1] at h1
  refine pv 3 (.inr rfl) 0 [] [dW nm c,nd 11 0 [] (gi nm b)] (by simp) h1 fun j h1 hj=> ?_
  have hj:j < 2:=hj
  obtain rfl:j=1:=by omega
  exact jv 0 [] (gi nm b) (lN nm b h.2)
 | .ite c a b,h=> by
  simp only [wj,Bool.and_eq_true] at h
  have h1:=eb nm c
  rw [Nat.eq_of_beq_eq_true h.1.1] at h1
  refine pv 2 (.inl rfl) 0 [] [dW nm c,nd 11 0 [] (gi nm a),nd 11 0 [] (gi nm b)] (by simp) h1 fun j h1 hj=> ?_
  have hj:j < 3:=hj
  have:j=1∨j=2:=by omega
  rcases this with rfl | rfl
  ·exact jv 0 [] (gi nm a) (lN nm a h.1.2)
  ·exact jv 0 [] (gi nm b) (lN nm b h.2)
theorem lN (nm:List Tx): ∀ b:Bk,oK b=true→ ∀ j,j < (gi nm b).length→GD (jQ (gi nm b) j)
 | .nil,_=> xM
 | .cons s b,h=> by
  simp only [oK,Bool.and_eq_true] at h
  exact GI (zk nm s h.1) (lN nm b h.2)
end
theorem Ao (nm:List Tx) (b:Bk) (h:oK b=true):GD (jP nm b):=jv 0 [] (gi nm b) (lN nm b h)

def gR (s:Tx) (l:List Tx):List Tx:=if s∈l then l else l++[s]
section
variable (nm:List Tx)
def qd:Ex→List Tx→List Tx
 | .int _,l=> l | .bool _,l=> l | .name _,l=> l
 | .var i,l=> gR (nm.getD i []) l
 | .draw e,l=> qd e l | .neg e,l=> qd e l | .not e,l=> qd e l
 | .bin _ a b,l=> qd b (qd a l)
 | .and a b,l=> qd b (qd a l)
 | .or a b,l=> qd b (qd a l)
mutual
def GW:Sm→List Tx→List Tx
 | .assign i e,l=> qd nm e (gR (nm.getD i []) l)
 | .send t _ a b,l=> qd nm b (qd nm a (qd nm t l))
 | .timer _,l=> l | .cancel _,l=> l | .sync,l=> l | .stop,l=> l
 | .reply a b,l=> qd nm b (qd nm a l)
 | .fail e,l=> qd nm e l
 | .loop c b,l=> zi b (qd nm c l)
 | .ite c a b,l=> zi b (zi a (qd nm c l))
def zi:Bk→List Tx→List Tx
 | .nil,l=> l
 | .cons s b,l=> zi b (GW s l)
end
def GN (l:List Tx):Prop:=l.Nodup∧ ∀ x∈l,x∈nm
end
theorem GN.len {nm l:List Tx} (h:GN nm l):l.length≤nm.length:=h.1.length_le_of_subset fun x hx=> h.2 x hx
theorem GN.add {nm l:List Tx} (h:GN nm l) {i:Nat} (hi:i < nm.length):GN nm (gR (nm.getD i []) l):=by
 unfold gR
 split
 ·exact h
 ·rename_i hn
  refine ⟨List.nodup_append.2 ⟨h.1,by simp,fun a ha b hb e=> hn (by rw [List.mem_singleton.1 hb] at e;exact e ▸ ha)⟩,fun x hx=> ?_⟩
  rcases List.mem_append.1 hx with hx | hx
  ·exact h.2 x hx
  ·rw [List.mem_singleton.1 hx];exact iY hi
theorem GN.nil {nm:List Tx}:GN nm []:=⟨.nil,fun x hx=> by simp at hx⟩
theorem sG (n:Int) (s:Tx) (L:List Nd) (l:List Tx) (hs:s∉l) (hl:l.length≤1000) (F:Nat→List Tx) (hF:F 0=l++[s]) (h: ∀ j,j < L.length→Spec Tryz.prog 167 (bj [mS (jQ L j), .sl (F j).length (ea (F j))] []) (aT (.sl (F (j+1)).length (ea (F (j+1)))) [])):
  Spec Tryz.prog 167 (bj [.agg [.v (.int .i64 1), .v (.int .i64 n), .v (bt s), .sl L.length (kR L)], .sl l.length (ea l)] []) (aT (.sl (F L.length).length (ea (F L.length))) []):=by
 refine Spec.ofN Tryz.func167 rfl Tryz.ntmps167 rfl ?_
 refine aq ?_
 refine kh 0 3 rfl rfl rfl fun hlen=> ?_
 unfold maxLen at hlen
 refine an (ai (bm (2,0) _ rfl rfl) (ai (bJ _ (rfl:_=AV.v (.slice _ _ _))) (aj (aq (am (bz rfl rfl rfl (cI rfl rfl rfl (jq rfl rfl rfl (cM rfl (aW rfl rfl ah ?_))))))))))
 refine aW rfl rfl ah ?_
 refine aW rfl rfl ah ?_
 refine ai (aG _ _ _ rfl (rfl:_=AV.v (.bool _))) (cM rfl (ay rfl rfl (aC _ (rfl:_=AV.sl _ _)) (ay rfl rfl (aI _ aa rfl rfl rfl) (ay rfl rfl (aM _ aa rfl rfl (rfl:_=some (AV.v (.string _)))) (ay rfl rfl (aF aa al (fV l _ rfl ab s) rfl rfl) ?_)))))
 refine ay rfl rfl (da _ rfl rfl) (ai (aG _ _ _ rfl (rfl:_=AV.v (.bool _))) (aj (bC rfl (by rw [decide_eq_false hs];rfl) ?_)))
 refine aq ?_
 refine aN (σ':=aA 45 [(1,_),(2,_)] [((2,0),_)] [] []) kp ?_
 refine an (ai (bJ _ (rfl:_=AV.v (.slice _ _ _))) (aj (am (ai (aC _ (rfl:_=AV.v (.slice _ _ _))) (ef rfl (ai (sO (24,0) _ _ aa rfl (.sl (by simp)) ab rfl) ?_))))))
 refine dY rfl (aj (an (ei rfl (bz rfl rfl rfl (ai (aM _ aa rfl rfl (rfl:_=some (AV.v (.string _)))) (ai (aU _ _ aa rfl ag (by (simp <;> rfl)) ah rfl) ?_))))))
 refine ai (cE (29,0) _ _ aa rfl rfl (by simp) (.sl rfl) ab rfl (mw _ _) (show l.length+1=(l++[s]).length by simp)) ?_
 refine dY rfl (aj (aH fun K6 hK6=> ?_))
 refine am (ba rfl (aj (au ?_)))
 refine aN (Le.frzS 1 (ys:=ea (l++[s])) rfl rfl rfl (by rw [List.drop_zero,Nat.mul_one];exact List.take_of_length_le (by simp)) (by simp)) ?_
 refine bD (α:=Nat) (fun j=> j≤L.length) 45 [(2,_)] [((2,0),_)] (fun j=> [(6, .v (.int .i64 (j:Int))),(1, .sl (F j).length (ea (F j)))]) (fun j=> []) [] [] (fun j=> L.length - j) 0 ?_ (by
  refine Le.mkJ [] [] rfl ?_ ?_ trivial trivial ?_
  ·exact ⟨(iP rfl),(bY ag),(jh (by rw [hF]) (by rw [hF])),trivial⟩
  ·exact ⟨(ce rfl rfl rfl),trivial⟩
  ·kernel_rfl) ?_
 ·omega
 intro j hj
 refine aH fun K8 hK8=> ?_
 refine am (aP rfl (bz rfl rfl rfl (fA rfl rfl rfl (ai (bI _ aa rfl) (ai (bp _ _ rfl rfl rfl) (aj (aO rfl (fun hc34=> ?_) (fun hc34=> ?_))))))))
 ·skip
  refine bB (hK8 _ ?_)
  clear hK8;try clear K8
  refine aq (au (an (bz rfl rfl rfl (fA rfl rfl rfl (aP rfl (ai (bi _ _ aa rfl rfl _ rfl ab (by (simp only [aZ,bq,bo,bG,bE,bM,bF];omega)) ag) ?_))))))
  refine ai (cp _ aa rfl (by exact cL _ _ ab) rfl) ?_
  refine ef rfl (ai (aF aa al (h j ab) rfl rfl) ?_)
  refine ke rfl (ga (an (aP rfl (ai (bc _ _ rfl rfl (be ab)) ?_))))
  refine ba rfl (ax (⟨j+1,?_,?_,?_⟩))
  ·omega
  ·skip
   refine Le.mkJ [] [] rfl ?_ ?_ trivial trivial ?_
   ·exact ⟨(iP rfl),(bY ag),(jh ag ag),trivial⟩
   ·exact ⟨(ce rfl rfl rfl),trivial⟩
   ·kernel_rfl
  ·omega
 ·skip
  obtain rfl:j=L.length:=by omega
  refine bK (id (hK6 _ ?_))
  clear hK6;try clear K6
  exact am (ef rfl (ke rfl (aj (aE (aX (.inr rfl) rfl (.tmp (rfl:_=AV.sl _ _)) (Le.out [] [] .sl rfl rfl rfl trivial trivial))))))
theorem so (n:Int) (s:Tx) (L:List Nd) (l:List Tx) (hs:s∈l) (hl:l.length≤1000) (F:Nat→List Tx) (hF:F 0=l) (h: ∀ j,j < L.length→Spec Tryz.prog 167 (bj [mS (jQ L j), .sl (F j).length (ea (F j))] []) (aT (.sl (F (j+1)).length (ea (F (j+1)))) [])):
  Spec Tryz.prog 167 (bj [.agg [.v (.int .i64 1), .v (.int .i64 n), .v (bt s), .sl L.length (kR L)], .sl l.length (ea l)] []) (aT (.sl (F L.length).length (ea (F L.length))) []):=by
 refine Spec.ofN Tryz.func167 rfl Tryz.ntmps167 rfl ?_
 refine aq ?_
 refine kh 0 3 rfl rfl rfl fun hlen=> ?_
 unfold maxLen at hlen
 refine an (ai (bm (2,0) _ rfl rfl) (ai (bJ _ (rfl:_=AV.v (.slice _ _ _))) (aj (aq (am (bz rfl rfl rfl (cI rfl rfl rfl (jq rfl rfl rfl (cM rfl (aW rfl rfl ah ?_))))))))))
 refine aW rfl rfl ah ?_
 refine aW rfl rfl ah ?_
 refine ai (aG _ _ _ rfl (rfl:_=AV.v (.bool _))) (cM rfl (ay rfl rfl (aC _ (rfl:_=AV.sl _ _)) (ay rfl rfl (aI _ aa rfl rfl rfl) (ay rfl rfl (aM _ aa rfl rfl (rfl:_=some (AV.v (.string _)))) (ay rfl rfl (aF aa al (fV l _ rfl ab s) rfl rfl) ?_)))))
 refine ay rfl rfl (da _ rfl rfl) (ai (aG _ _ _ rfl (rfl:_=AV.v (.bool _))) (aj (aS rfl (by rw [decide_eq_true hs];rfl) ?_)))
 refine aL (aH fun K4 hK4=> ?_)
 refine aq ?_
 refine aN (σ':=aA 45 [(1,_),(2,_)] [((2,0),_)] [] []) kp ?_
 refine an (ba rfl (aj (au ?_)))
 refine bD (α:=Nat) (fun j=> j≤L.length) 45 [(2,_)] [((2,0),_)] (fun j=> [(6, .v (.int .i64 (j:Int))),(1, .sl (F j).length (ea (F j)))]) (fun j=> []) [] [] (fun j=> L.length - j) 0 ?_ (by
  refine Le.mkJ [] [] rfl ?_ ?_ trivial trivial ?_
  ·exact ⟨(iP rfl),(bY ag),(jh (by rw [hF]) (by rw [hF])),trivial⟩
  ·exact ⟨(ce rfl rfl rfl),trivial⟩
  ·kernel_rfl) ?_
 ·omega
 intro j hj
 refine aH fun K6 hK6=> ?_
 refine am (aP rfl (bz rfl rfl rfl (fA rfl rfl rfl (ai (bI _ aa rfl) (ai (bp _ _ rfl rfl rfl) (aj (aO rfl (fun hc34=> ?_) (fun hc34=> ?_))))))))
 ·skip
  refine bB (hK6 _ ?_)
  clear hK6;try clear K6
  refine aq (au (an (bz rfl rfl rfl (fA rfl rfl rfl (aP rfl (ai (bi _ _ aa rfl rfl _ rfl ab (by (simp only [aZ,bq,bo,bG,bE,bM,bF];omega)) ag) ?_))))))
  refine ai (cp _ aa rfl (by exact cL _ _ ab) rfl) ?_
  refine ef rfl (ai (aF aa al (h j ab) rfl rfl) ?_)
  refine ke rfl (ga (an (aP rfl (ai (bc _ _ rfl rfl (be ab)) ?_))))
  refine ba rfl (ax (⟨j+1,?_,?_,?_⟩))
  ·omega
  ·skip
   refine Le.mkJ [] [] rfl ?_ ?_ trivial trivial ?_
   ·exact ⟨(iP rfl),(bY ag),(jh ag ag),trivial⟩
   ·exact ⟨(ce rfl rfl rfl),trivial⟩
   ·kernel_rfl
  ·omega
 ·skip
  obtain rfl:j=L.length:=by omega
  refine bK (id (hK4 _ ?_))
  clear hK4;try clear K4
  exact am (ef rfl (ke rfl (aj (aE (aX (.inr rfl) rfl (.tmp (rfl:_=AV.sl _ _)) (Le.out [] [] .sl rfl rfl rfl trivial trivial))))))
theorem qS (n:Int) (s:Tx) (L:List Nd) (l:List Tx) (hs:s∉l) (hl:l.length≤1000) (F:Nat→List Tx) (hF:F 0=l++[s]) (h: ∀ j,j < L.length→Spec Tryz.prog 167 (bj [mS (jQ L j), .sl (F j).length (ea (F j))] []) (aT (.sl (F (j+1)).length (ea (F (j+1)))) [])):
  Spec Tryz.prog 167 (bj [.agg [.v (.int .i64 14), .v (.int .i64 n), .v (bt s), .sl L.length (kR L)], .sl l.length (ea l)] []) (aT (.sl (F L.length).length (ea (F L.length))) []):=by
 refine Spec.ofN Tryz.func167 rfl Tryz.ntmps167 rfl ?_
 refine aq ?_
 refine kh 0 3 rfl rfl rfl fun hlen=> ?_
 unfold maxLen at hlen
 refine an (ai (bm (2,0) _ rfl rfl) (ai (bJ _ (rfl:_=AV.v (.slice _ _ _))) (aj (aq (am (bz rfl rfl rfl (cI rfl rfl rfl (fa rfl rfl rfl (cM rfl (ay rfl rfl (aI _ aa rfl rfl rfl) ?_))))))))))
 refine ay rfl rfl (aM _ aa rfl rfl (rfl:_=some (AV.v (.int _ _)))) (ay rfl rfl (br (r:=true) _ _ rfl rfl rfl) (ai (aG _ _ _ rfl (rfl:_=AV.v (.bool _))) (cM rfl (ay rfl rfl (aC _ (rfl:_=AV.sl _ _)) (ay rfl rfl (aI _ aa rfl rfl rfl) (ay rfl rfl (aM _ aa rfl rfl (rfl:_=some (AV.v (.string _)))) (ay rfl rfl (aF aa al (fV l _ rfl ab s) rfl rfl) ?_)))))))
 refine ay rfl rfl (da _ rfl rfl) (ai (aG _ _ _ rfl (rfl:_=AV.v (.bool _))) (aj (bC rfl (by rw [decide_eq_false hs];rfl) ?_)))
 refine aq ?_
 refine aN (σ':=aA 45 [(1,_),(2,_)] [((2,0),_)] [] []) kp ?_
 refine an (ai (bJ _ (rfl:_=AV.v (.slice _ _ _))) (aj (am (ai (aC _ (rfl:_=AV.v (.slice _ _ _))) (ef rfl (ai (sO (24,0) _ _ aa rfl (.sl (by simp)) ab rfl) ?_))))))
 refine dY rfl (aj (an (ei rfl (bz rfl rfl rfl (ai (aM _ aa rfl rfl (rfl:_=some (AV.v (.string _)))) (ai (aU _ _ aa rfl ag (by (simp <;> rfl)) ah rfl) ?_))))))
 refine ai (cE (29,0) _ _ aa rfl rfl (by simp) (.sl rfl) ab rfl (mw _ _) (show l.length+1=(l++[s]).length by simp)) ?_
 refine dY rfl (aj (aH fun K6 hK6=> ?_))
 refine am (ba rfl (aj (au ?_)))
 refine aN (Le.frzS 1 (ys:=ea (l++[s])) rfl rfl rfl (by rw [List.drop_zero,Nat.mul_one];exact List.take_of_length_le (by simp)) (by simp)) ?_
 refine bD (α:=Nat) (fun j=> j≤L.length) 45 [(2,_)] [((2,0),_)] (fun j=> [(6, .v (.int .i64 (j:Int))),(1, .sl (F j).length (ea (F j)))]) (fun j=> []) [] [] (fun j=> L.length - j) 0 ?_ (by
  refine Le.mkJ [] [] rfl ?_ ?_ trivial trivial ?_
  ·exact ⟨(iP rfl),(bY ag),(jh (by rw [hF]) (by rw [hF])),trivial⟩
  ·exact ⟨(ce rfl rfl rfl),trivial⟩
  ·kernel_rfl) ?_
 ·omega
 intro j hj
 refine aH fun K8 hK8=> ?_
 refine am (aP rfl (bz rfl rfl rfl (fA rfl rfl rfl (ai (bI _ aa rfl) (ai (bp _ _ rfl rfl rfl) (aj (aO rfl (fun hc34=> ?_) (fun hc34=> ?_))))))))
 ·skip
  refine bB (hK8 _ ?_)
  clear hK8;try clear K8
  refine aq (au (an (bz rfl rfl rfl (fA rfl rfl rfl (aP rfl (ai (bi _ _ aa rfl rfl _ rfl ab (by (simp only [aZ,bq,bo,bG,bE,bM,bF];omega)) ag) ?_))))))
  refine ai (cp _ aa rfl (by exact cL _ _ ab) rfl) ?_
  refine ef rfl (ai (aF aa al (h j ab) rfl rfl) ?_)
  refine ke rfl (ga (an (aP rfl (ai (bc _ _ rfl rfl (be ab)) ?_))))
  refine ba rfl (ax (⟨j+1,?_,?_,?_⟩))
  ·omega
  ·skip
   refine Le.mkJ [] [] rfl ?_ ?_ trivial trivial ?_
   ·exact ⟨(iP rfl),(bY ag),(jh ag ag),trivial⟩
   ·exact ⟨(ce rfl rfl rfl),trivial⟩
   ·kernel_rfl
  ·omega
 ·skip
  obtain rfl:j=L.length:=by omega
  refine bK (id (hK6 _ ?_))
  clear hK6;try clear K6
  exact am (ef rfl (ke rfl (aj (aE (aX (.inr rfl) rfl (.tmp (rfl:_=AV.sl _ _)) (Le.out [] [] .sl rfl rfl rfl trivial trivial))))))
theorem qh (n:Int) (s:Tx) (L:List Nd) (l:List Tx) (hs:s∈l) (hl:l.length≤1000) (F:Nat→List Tx) (hF:F 0=l) (h: ∀ j,j < L.length→Spec Tryz.prog 167 (bj [mS (jQ L j), .sl (F j).length (ea (F j))] []) (aT (.sl (F (j+1)).length (ea (F (j+1)))) [])):
  Spec Tryz.prog 167 (bj [.agg [.v (.int .i64 14), .v (.int .i64 n), .v (bt s), .sl L.length (kR L)], .sl l.length (ea l)] []) (aT (.sl (F L.length).length (ea (F L.length))) []):=by
 refine Spec.ofN Tryz.func167 rfl Tryz.ntmps167 rfl ?_
 refine aq ?_
 refine kh 0 3 rfl rfl rfl fun hlen=> ?_
 unfold maxLen at hlen
 refine an (ai (bm (2,0) _ rfl rfl) (ai (bJ _ (rfl:_=AV.v (.slice _ _ _))) (aj (aq (am (bz rfl rfl rfl (cI rfl rfl rfl (fa rfl rfl rfl (cM rfl (ay rfl rfl (aI _ aa rfl rfl rfl) ?_))))))))))
 refine ay rfl rfl (aM _ aa rfl rfl (rfl:_=some (AV.v (.int _ _)))) (ay rfl rfl (br (r:=true) _ _ rfl rfl rfl) (ai (aG _ _ _ rfl (rfl:_=AV.v (.bool _))) (cM rfl (ay rfl rfl (aC _ (rfl:_=AV.sl _ _)) (ay rfl rfl (aI _ aa rfl rfl rfl) (ay rfl rfl (aM _ aa rfl rfl (rfl:_=some (AV.v (.string _)))) (ay rfl rfl (aF aa al (fV l _ rfl ab s) rfl rfl) ?_)))))))
 refine ay rfl rfl (da _ rfl rfl) (ai (aG _ _ _ rfl (rfl:_=AV.v (.bool _))) (aj (aS rfl (by rw [decide_eq_true hs];rfl) ?_)))
 refine aL (aH fun K4 hK4=> ?_)
 refine aq ?_
 refine aN (σ':=aA 45 [(1,_),(2,_)] [((2,0),_)] [] []) kp ?_
 refine an (ba rfl (aj (au ?_)))
 refine bD (α:=Nat) (fun j=> j≤L.length) 45 [(2,_)] [((2,0),_)] (fun j=> [(6, .v (.int .i64 (j:Int))),(1, .sl (F j).length (ea (F j)))]) (fun j=> []) [] [] (fun j=> L.length - j) 0 ?_ (by
  refine Le.mkJ [] [] rfl ?_ ?_ trivial trivial ?_
  ·exact ⟨(iP rfl),(bY ag),(jh (by rw [hF]) (by rw [hF])),trivial⟩
  ·exact ⟨(ce rfl rfl rfl),trivial⟩
  ·kernel_rfl) ?_
 ·omega
 intro j hj
 refine aH fun K6 hK6=> ?_
 refine am (aP rfl (bz rfl rfl rfl (fA rfl rfl rfl (ai (bI _ aa rfl) (ai (bp _ _ rfl rfl rfl) (aj (aO rfl (fun hc34=> ?_) (fun hc34=> ?_))))))))
 ·skip
  refine bB (hK6 _ ?_)
  clear hK6;try clear K6
  refine aq (au (an (bz rfl rfl rfl (fA rfl rfl rfl (aP rfl (ai (bi _ _ aa rfl rfl _ rfl ab (by (simp only [aZ,bq,bo,bG,bE,bM,bF];omega)) ag) ?_))))))
  refine ai (cp _ aa rfl (by exact cL _ _ ab) rfl) ?_
  refine ef rfl (ai (aF aa al (h j ab) rfl rfl) ?_)
  refine ke rfl (ga (an (aP rfl (ai (bc _ _ rfl rfl (be ab)) ?_))))
  refine ba rfl (ax (⟨j+1,?_,?_,?_⟩))
  ·omega
  ·skip
   refine Le.mkJ [] [] rfl ?_ ?_ trivial trivial ?_
   ·exact ⟨(iP rfl),(bY ag),(jh ag ag),trivial⟩
   ·exact ⟨(ce rfl rfl rfl),trivial⟩
   ·kernel_rfl
  ·omega
 ·skip
  obtain rfl:j=L.length:=by omega
  refine bK (id (hK4 _ ?_))
  clear hK4;try clear K4
  exact am (ef rfl (ke rfl (aj (aE (aX (.inr rfl) rfl (.tmp (rfl:_=AV.sl _ _)) (Le.out [] [] .sl rfl rfl rfl trivial trivial))))))
theorem sJ (k:Nat) (hk:k≠1∧k≠14) (n:Int) (s:Tx) (L:List Nd) (l:List Tx) (hl:l.length≤1000) (F:Nat→List Tx) (hF:F 0=l) (h: ∀ j,j < L.length→Spec Tryz.prog 167 (bj [mS (jQ L j), .sl (F j).length (ea (F j))] []) (aT (.sl (F (j+1)).length (ea (F (j+1)))) [])):
  Spec Tryz.prog 167 (bj [.agg [.v (.int .i64 (k:Int)), .v (.int .i64 n), .v (bt s), .sl L.length (kR L)], .sl l.length (ea l)] []) (aT (.sl (F L.length).length (ea (F L.length))) []):=by
 refine Spec.ofN Tryz.func167 rfl Tryz.ntmps167 rfl ?_
 refine aq ?_
 refine kh 0 3 rfl rfl rfl fun hlen=> ?_
 unfold maxLen at hlen
 refine an (ai (bm (2,0) _ rfl rfl) (ai (bJ _ (rfl:_=AV.v (.slice _ _ _))) (aj (aq (am (bz rfl rfl rfl (cI rfl rfl rfl (fa rfl rfl (beq_eq_false_iff_ne.2 ab) ?_))))))))
 refine cM rfl (ay rfl rfl (aI _ aa rfl rfl rfl) (ay rfl rfl (aM _ aa rfl rfl (rfl:_=some (AV.v (.int _ _)))) (ay rfl rfl (br (r:=false) _ _ rfl rfl (beq_eq_false_iff_ne.2 ab)) ?_)))
 refine ai (aG _ _ _ rfl (rfl:_=AV.v (.bool _))) (cM rfl (aW rfl rfl ah ?_))
 refine aW rfl rfl ah ?_
 refine aW rfl rfl ah ?_
 refine aW rfl rfl ah ?_
 refine aW rfl rfl ah ?_
 refine ai (aG _ _ _ rfl (rfl:_=AV.v (.bool _))) (aj (aS rfl rfl (aL (aH fun K4 hK4=> ?_))))
 refine aq ?_
 refine aN (σ':=aA 45 [(1,_),(2,_)] [((2,0),_)] [] []) kp ?_
 refine an (ba rfl (aj (au ?_)))
 refine bD (α:=Nat) (fun j=> j≤L.length) 45 [(2,_)] [((2,0),_)] (fun j=> [(6, .v (.int .i64 (j:Int))),(1, .sl (F j).length (ea (F j)))]) (fun j=> []) [] [] (fun j=> L.length - j) 0 ?_ (by
  refine Le.mkJ [] [] rfl ?_ ?_ trivial trivial ?_
  ·exact ⟨(iP rfl),(bY ag),(jh (by rw [hF]) (by rw [hF])),trivial⟩
  ·exact ⟨(ce rfl rfl rfl),trivial⟩
  ·kernel_rfl) ?_
 ·omega
 intro j hj
 refine aH fun K6 hK6=> ?_
 refine am (aP rfl (bz rfl rfl rfl (fA rfl rfl rfl (ai (bI _ aa rfl) (ai (bp _ _ rfl rfl rfl) (aj (aO rfl (fun hc34=> ?_) (fun hc34=> ?_))))))))
 ·skip
  refine bB (hK6 _ ?_)
  clear hK6;try clear K6
  refine aq (au (an (bz rfl rfl rfl (fA rfl rfl rfl (aP rfl (ai (bi _ _ aa rfl rfl _ rfl ab (by (simp only [aZ,bq,bo,bG,bE,bM,bF];omega)) ag) ?_))))))
  refine ai (cp _ aa rfl (by exact cL _ _ ab) rfl) ?_
  refine ef rfl (ai (aF aa al (h j ab) rfl rfl) ?_)
  refine ke rfl (ga (an (aP rfl (ai (bc _ _ rfl rfl (be ab)) ?_))))
  refine ba rfl (ax (⟨j+1,?_,?_,?_⟩))
  ·omega
  ·skip
   refine Le.mkJ [] [] rfl ?_ ?_ trivial trivial ?_
   ·exact ⟨(iP rfl),(bY ag),(jh ag ag),trivial⟩
   ·exact ⟨(ce rfl rfl rfl),trivial⟩
   ·kernel_rfl
  ·omega
 ·skip
  obtain rfl:j=L.length:=by omega
  refine bK (id (hK4 _ ?_))
  clear hK4;try clear K4
  exact am (ef rfl (ke rfl (aj (aE (aX (.inr rfl) rfl (.tmp (rfl:_=AV.sl _ _)) (Le.out [] [] .sl rfl rfl rfl trivial trivial))))))
def fw (fs:List (List Tx→List Tx)) (l:List Tx):List Tx:=fs.foldl (fun l f=> f l) l
theorem jz {fs:List (List Tx→List Tx)} {l:List Tx} {j:Nat} (h:j < fs.length):fw (fs.take (j+1)) l=fs.getD j id (fw (fs.take j) l):=by
 rw [List.take_succ_eq_append_getElem h]
 unfold fw
 rw [List.foldl_append,List.getD_eq_getElem?_getD,List.getElem?_eq_getElem h];rfl
abbrev vw (nm:List Tx) (d:Nd) (f:List Tx→List Tx):Prop:= ∀ l,GN nm l→Spec Tryz.prog 167 (bj [mS d, .sl l.length (ea l)] []) (aT (.sl (f l).length (ea (f l))) [])∧GN nm (f l)
section
variable {nm:List Tx} (hnm:nm.length≤16) {L:List Nd} {fs:List (List Tx→List Tx)} (hfs:fs.length=L.length) (h: ∀ j,j < L.length→vw nm (jQ L j) (fs.getD j id))
theorem oo (hfs:fs.length=L.length) (h: ∀ j,j < L.length→vw nm (jQ L j) (fs.getD j id)) {l:List Tx} (hl:GN nm l): ∀ j,j≤L.length→GN nm (fw (fs.take j) l)
 | 0,_=> by simpa [fw] using hl
 | j+1,hj=> by
  rw [jz ab]
  exact (h j ab _ (oo hfs h hl j ab)).2
theorem cF (hnm:nm.length≤16) (hfs:fs.length=L.length) (h: ∀ j,j < L.length→vw nm (jQ L j) (fs.getD j id)) (k:Nat) (hk:k≠1∧k≠14) (n:Nat) (s:Tx):vw nm (nd k n s L) (fw fs):=fun l hl=> by
 have hg:=oo hfs h hl
 have he:fw (fs.take L.length) l=fw fs l:=by rw [← hfs,List.take_length]
 have hw:=sJ k hk n s L l (by have:=hl.len;omega) (fun j=> fw (fs.take j) l) rfl fun j hj=> by
  rw [show fw (fs.take (j+1)) l=_ from jz ab]
  exact (h j hj _ (hg j ab)).1
 rw [he] at hw
 exact ⟨hw,he ▸ hg _ (Nat.le_refl _)⟩
theorem vh (hnm:nm.length≤16) (hfs:fs.length=L.length) (h: ∀ j,j < L.length→vw nm (jQ L j) (fs.getD j id)) (n:Nat) {i:Nat} (hi:i < nm.length):vw nm (nd 1 n (nm.getD i []) L) (fun l=> fw fs (gR (nm.getD i []) l)):=fun l hl=> by
 have hg:=oo hfs h (hl.add hi)
 have he:fw (fs.take L.length) (gR (nm.getD i []) l)=fw fs (gR (nm.getD i []) l):=by rw [← hfs,List.take_length]
 have hkid: ∀ j,j < L.length→_:=fun j hj=> (h j hj _ (hg j ab)).1
 have hll:=hl.len
 show Spec _ _ _ (aT (.sl (fw fs (gR (nm.getD i []) l)).length (ea (fw fs (gR (nm.getD i []) l)))) [])∧GN nm (fw fs (gR (nm.getD i []) l))
 rw [← he]
 refine ⟨?_,hg _ (Nat.le_refl _)⟩
 by_cases hs:nm.getD i []∈l
 ·exact so n _ L l hs ab (fun j=> fw (fs.take j) (gR (nm.getD i []) l)) (by show gR _ l=l;unfold gR;rw [if_pos hs]) fun j hj=> by
   rw [show fw (fs.take (j+1)) (gR (nm.getD i []) l)=_ from jz ab]
   exact hkid j hj
 ·exact sG n _ L l hs ab (fun j=> fw (fs.take j) (gR (nm.getD i []) l)) (by show gR _ l=_;unfold gR;rw [if_neg hs]) fun j hj=> by
   rw [show fw (fs.take (j+1)) (gR (nm.getD i []) l)=_ from jz ab]
   exact hkid j hj
end
theorem wq {nm:List Tx} (hnm:nm.length≤16) {i:Nat} (hi:i < nm.length):vw nm (nd 14 0 (nm.getD i []) []) (gR (nm.getD i [])):=fun l hl=> by
 have hll:=hl.len
 refine ⟨?_,hl.add hi⟩
 by_cases hs:nm.getD i []∈l
 ·exact qh 0 _ [] l hs ab (fun _=> gR (nm.getD i []) l) (by show gR _ l=l;unfold gR;rw [if_pos hs]) fun j hj=> by simp at hj
 ·exact qS 0 _ [] l hs ab (fun _=> gR (nm.getD i []) l) (by show gR _ l=_;unfold gR;rw [if_neg hs]) fun j hj=> by simp at hj
section
variable {nm:List Tx}
abbrev wx (nm:List Tx) (L:List Nd) (fs:List (List Tx→List Tx)):Prop:= ∀ j,j < L.length→vw nm (jQ L j) (fs.getD j id)
theorem pm:wx nm [] []:=fun j hj=> by simp at hj
theorem oS {d:Nd} {f:List Tx→List Tx} {L:List Nd} {fs:List (List Tx→List Tx)} (h:vw nm d f) (h':wx nm L fs):wx nm (d::L) (f::fs):=fun j hj=> by
 cases j with
 | zero=> exact h
 | succ j=> exact h' j (by simpa using hj)
theorem dz (hnm:nm.length≤16): ∀ e:Ex,fG nm.length e→vw nm (dW nm e) (qd nm e)
 | .int _,_=> cF hnm rfl pm 12 ab _ _
 | .bool _,_=> cF hnm rfl pm 13 ab _ _
 | .name _,_=> cF hnm rfl pm 15 ab _ _
 | .var i,h=> wq hnm h
 | .draw e,h=> cF hnm rfl (oS (dz hnm e h) pm) 16 ab _ _
 | .neg e,h=> cF hnm rfl (oS (dz hnm e h) pm) 17 ab _ _
 | .not e,h=> cF hnm rfl (oS (dz hnm e h) pm) 17 ab _ _
 | .bin _ a b,h=> cF hnm rfl (oS (dz hnm a h.1) (oS (dz hnm b h.2) pm)) 18 ab _ _
 | .and a b,h=> cF hnm rfl (oS (dz hnm a h.1) (oS (dz hnm b h.2) pm)) 18 ab _ _
 | .or a b,h=> cF hnm rfl (oS (dz hnm a h.1) (oS (dz hnm b h.2) pm)) 18 ab _ _
def BO (nm:List Tx):Bk→List (List Tx→List Tx)
 | .nil=> []
 | .cons s b=> GW nm s::BO nm b
theorem uA (nm:List Tx): ∀ b:Bk,(BO nm b).length=(gi nm b).length
 | .nil=> by simp [BO,gi]
 | .cons s b=> by simp [BO,gi,uA nm b]
theorem rH (nm:List Tx): ∀ (b:Bk) (l:List Tx),fw (BO nm b) l=zi nm b l
 | .nil,l=> rfl
 | .cons s b,l=> by rw [zi,← rH nm b];rfl
theorem kG (hnm:nm.length≤16) {b:Bk} (h:wx nm (gi nm b) (BO nm b)):vw nm (jP nm b) (zi nm b):=by
 have:=cF hnm (uA nm b) h 11 ab 0 []
 rwa [show fw (BO nm b)=zi nm b from funext (rH nm b)] at this
mutual
theorem xW (hnm:nm.length≤16): ∀ s:Sm,ft nm.length s→vw nm (oC nm s) (GW nm s)
 | .assign i e,h=> by rw [ft] at h;exact vh hnm rfl (oS (dz hnm e h.2) pm) 0 h.1
 | .send t k a b,h=> by rw [ft] at h;exact cF hnm rfl (oS (dz hnm t h.2.1) (oS (dz hnm a h.2.2.1) (oS (dz hnm b h.2.2.2) pm))) 4 ab _ _
 | .timer _,_=> cF hnm rfl pm 5 ab _ _
 | .cancel _,_=> cF hnm rfl pm 6 ab _ _
 | .sync,_=> cF hnm rfl pm 7 ab _ _
 | .stop,_=> cF hnm rfl pm 10 ab _ _
 | .reply a b,h=> by rw [ft] at h;exact cF hnm rfl (oS (dz hnm a h.1) (oS (dz hnm b h.2) pm)) 8 ab _ _
 | .fail e,h=> by rw [ft] at h;exact cF hnm rfl (oS (dz hnm e h) pm) 9 ab _ _
 | .loop c b,h=> by rw [ft] at h;exact cF hnm rfl (oS (dz hnm c h.1) (oS (kG hnm (jU hnm b h.2)) pm)) 3 ab _ _
 | .ite c a b,h=> by rw [ft] at h;exact cF hnm rfl (oS (dz hnm c h.1) (oS (kG hnm (jU hnm a h.2.1)) (oS (kG hnm (jU hnm b h.2.2)) pm))) 2 ab _ _
theorem jU (hnm:nm.length≤16): ∀ b:Bk,iB nm.length b→wx nm (gi nm b) (BO nm b)
 | .nil,_=> pm
 | .cons s b,h=> by rw [iB] at h;exact oS (xW hnm s h.1) (jU hnm b h.2)
end
theorem yG (hnm:nm.length≤16) (b:Bk) (h:iB nm.length b):vw nm (jP nm b) (zi nm b):=kG hnm (jU hnm b h)
end

theorem lx {l:List Tx} (h:l.Nodup) {i j:Nat} (hi:i < l.length) (hj:j < l.length) (e:l.getD i []=l.getD j []):i=j:=by
 rw [List.getD_eq_getElem?_getD,List.getD_eq_getElem?_getD,List.getElem?_eq_getElem hi,List.getElem?_eq_getElem hj] at e
 have h:=List.pairwise_iff_getElem.1 h
 rcases Nat.lt_trichotomy i j with hlt | rfl | hlt
 ·exact absurd (Option.some.inj (by simpa using e)) (h i j hi hj hlt)
 ·rfl
 ·exact absurd (Option.some.inj (by simpa using e)).symm (h j i hj hi hlt)
theorem po {a b:List Tx} {k:Nat} (h:k < a.length):a.getD k []=(a++b).getD k []:=by
 rw [List.getD_eq_getElem?_getD,List.getD_eq_getElem?_getD,List.getElem?_append_left h]
theorem getD_right {a b:List Tx} {k:Nat}:b.getD k []=(a++b).getD (a.length+k) []:=by
 rw [List.getD_eq_getElem?_getD,List.getD_eq_getElem?_getD,List.getElem?_append_right ab,Nat.add_sub_cancel_left]
theorem lp (d v:List Tx) (on:List PV) (no:Nat) (hn:(d++v).Nodup) (hl:(d++v).length≤1000) (i:Nat) (hi:i < (d++v).length):
  Spec Tryz.prog 121 (bj [.agg [.sl d.length (ea d), .sl v.length (ea v), .sl no on], .v (bt ((d++v).getD i []))] []) (aT (.v (.int .i64 (i:Int))) []):=by
 have hl2:(d++v).length=d.length+v.length:=List.length_append
 refine Spec.ofN Tryz.func121 rfl Tryz.ntmps121 rfl ?_
 refine am (ai (bm (2,0) _ rfl rfl) (ba rfl (aj (aH fun K2 hK2=> ?_))))
 refine am (ba rfl (aj (au ?_)))
 refine bD (α:=Nat) (fun k=> k≤d.length∧k≤i) 41 [(1,_),(2,_)] [((2,0),_)] (fun k=> [(5, .v (.int .i64 (k:Int)))]) (fun k=> []) [] [] (fun k=> d.length - k) 0 ?_ (by
  refine Le.mkJ [] [] rfl ?_ ?_ trivial trivial ?_
  ·exact ⟨(iV rfl),(iP rfl),(bY ag),trivial⟩
  ·exact ⟨(ce rfl rfl rfl),trivial⟩
  ·kernel_rfl) ?_
 ·exact ⟨Nat.zero_le _,Nat.zero_le _⟩
 intro k hk
 obtain ⟨hk,hki⟩:=hk
 refine aH fun K4 hK4=> ?_
 refine am (aP rfl (bz rfl rfl rfl (fA rfl rfl rfl (ai (bI _ aa rfl) (ai (bp _ _ rfl rfl rfl) (aj (aO rfl (fun hc11=> ?_) (fun hc11=> ?_))))))))
 ·skip
  refine bB (hK4 _ ?_)
  clear hK4;try clear K4
  refine aq (au (am (bz rfl rfl rfl (fA rfl rfl rfl (aP rfl (ai (bi _ _ aa rfl rfl _ rfl ab (by (simp only [aZ,bq,bo,bG,bE,bM,bF,List.length_map];omega)) (by exact Nat.mul_one _)) ?_))))))
  refine ai (bH _ aa rfl (by exact fK _ _ ab) rfl) ?_
  refine dQ rfl (ai (aY _ _ Tryz.underlying9 rfl rfl rfl) (aj (aO rfl (fun hc20=> ?_) (fun hc20=> ?_))))
  ·skip
   have he:k=i:=lx hn ab hi ((po ab).symm.trans hc20)
   refine am (aP rfl (ba rfl (aj (aE (aX (.inr rfl) rfl (.tmp (rfl:_=AV.v (.int _ _))) (Le.out [] [] (bY ?_) rfl rfl rfl trivial trivial))))))
   rw [he]
  ·skip
   have he:k≠i:=fun e=> hc20 ((po ab).trans (by rw [e]))
   refine cf (an (aP rfl (ai (bc _ _ rfl rfl (be ab)) ?_)))
   refine ba rfl (ax (⟨k+1,?_,?_,?_⟩))
   ·exact ⟨by omega,by omega⟩
   ·skip
    refine Le.mkJ [] [] rfl ?_ ?_ trivial trivial ?_
    ·exact ⟨(iV rfl),(iP rfl),(bY ag),trivial⟩
    ·exact ⟨(ce rfl rfl rfl),trivial⟩
    ·kernel_rfl
   ·omega
 ·skip
  refine bK (id (hK2 _ ?_))
  clear hK2;try clear K2
  refine aq (am (ba rfl (aj (au ?_))))
  refine bD (α:=Nat) (fun q=> q≤v.length∧d.length+q≤i) 41 [(1,_),(2,_)] [((2,0),_)] (fun q=> [(6, .v (.int .i64 (q:Int)))]) (fun q=> []) [] [] (fun q=> v.length - q) 0 ?_ (by
   refine Le.mkJ [] [] rfl ?_ ?_ trivial trivial ?_
   ·exact ⟨(iV rfl),(iP rfl),(bY ag),trivial⟩
   ·exact ⟨(ce rfl rfl rfl),trivial⟩
   ·kernel_rfl) ?_
  ·exact ⟨Nat.zero_le _,by omega⟩
  intro q hq
  obtain ⟨hq,hqi⟩:=hq
  refine aH fun K11 hK11=> ?_
  refine am (aP rfl (bz rfl rfl rfl (fA rfl rfl rfl (ai (bI _ aa rfl) (ai (bp _ _ rfl rfl rfl) (aj (aO rfl (fun hc26=> ?_) (fun hc26=> ?_))))))))
  ·skip
   refine bB (hK11 _ ?_)
   clear hK11;try clear K11
   refine aq (au (am (bz rfl rfl rfl (fA rfl rfl rfl (aP rfl (ai (bi _ _ aa rfl rfl _ rfl ab (by (simp only [aZ,bq,bo,bG,bE,bM,bF,List.length_map];omega)) (by exact Nat.mul_one _)) ?_))))))
   refine ai (bH _ aa rfl (by exact fK _ _ ab) rfl) ?_
   refine dQ rfl (ai (aY _ _ Tryz.underlying9 rfl rfl rfl) (aj (aO rfl (fun hc35=> ?_) (fun hc35=> ?_))))
   ·skip
    have he:d.length+q=i:=lx hn ab hi (getD_right.symm.trans hc35)
    refine am (bz rfl rfl rfl (fA rfl rfl rfl (ai (bI _ aa rfl) (aP rfl (ai (bc _ _ rfl rfl (be ab)) ?_)))))
    refine ba rfl (aj (aE (aX (.inr rfl) rfl (.tmp (rfl:_=AV.v (.int _ _))) (Le.out [] [] (bY ?_) rfl rfl rfl trivial trivial))))
    omega
   ·skip
    have he:d.length+q≠i:=fun e=> hc35 (getD_right.trans (by rw [e]))
    refine cf (an (aP rfl (ai (bc _ _ rfl rfl (be ab)) ?_)))
    refine ba rfl (ax (⟨q+1,?_,?_,?_⟩))
    ·exact ⟨by omega,by omega⟩
    ·skip
     refine Le.mkJ [] [] rfl ?_ ?_ trivial trivial ?_
     ·exact ⟨(iV rfl),(iP rfl),(bY ag),trivial⟩
     ·exact ⟨(ce rfl rfl rfl),trivial⟩
     ·kernel_rfl
    ·omega
  ·skip
   exact absurd hqi ab
theorem za (ons:List (Nat×Bk)) (nm:List Tx) (k:Nat) (h:k < ons.length):mK (ons.map fun p=> (p.1,jP nm p.2)) k=((ons[k]).1,jP nm (ons[k]).2):=by
 rw [mN _ _ (by simpa using h),List.getElem_map]
theorem rC (l:List Hd) (k:Nat) (h:k < l.length):PV.ups (((lA l).drop (k*5+1)).take 4)=[.v (.int .i64 ((mK l k).2.k:Int)), .v (.int .i64 ((mK l k).2.n:Int)), .v (bt (mK l k).2.s), .sl (mK l k).2.kn (mK l k).2.kids]:=by
 have e:=oP tX 5 (fun _=> rfl) l k h
 have:((lA l).drop (k*5+1)).take 4=(((l.flatMap tX).drop (k*5)).take 5).drop 1:=by
  rw [List.drop_take,List.drop_drop];rfl
 rw [this,e,mN l k h];rfl
theorem oA (d v:List Tx) (ons:List (Nat×Bk)) (hn:(d++v).Nodup) (hl:(d++v).length≤16) (ho: ∀ p∈ons,iB (d++v).length p.2) (hw: ∀ p∈ons,oK p.2=true) (hc:ons.length≤1000):
  Spec Tryz.prog 97 (bj [DX d v (ons.map fun p=> (p.1,jP (d++v) p.2))] []) (aT (.v (.int .i64 0)) []):=by
 obtain ⟨H,hH⟩: ∃ H,H=ons.map fun p=> (p.1,jP (d++v) p.2):=⟨_,rfl⟩
 have hHl:H.length=ons.length:=by rw [hH,List.length_map]
 rw [← hH]
 have hHk: ∀ k (h:k < ons.length),mK H k=((ons[k]).1,jP (d++v) (ons[k]).2):=fun k h=> by rw [hH];exact za ons _ k h
 clear hH
 refine Spec.ofN Tryz.func97 rfl Tryz.ntmps97 rfl ?_
 refine am (ai (bm (1,0) _ rfl rfl) (ba rfl (aj (aH fun K2 hK2=> ?_))))
 refine am (ba rfl (aj (au ?_)))
 refine bD (α:=Nat) (fun k=> k≤H.length) 43 [(1,_)] [((1,0),_)] (fun k=> [(3, .v (.int .i64 (k:Int)))]) (fun k=> []) [] [] (fun k=> H.length - k) 0 ?_ (by
  refine Le.mkJ [] [] rfl ?_ ?_ trivial trivial ?_
  ·exact ⟨(iP rfl),(bY ag),trivial⟩
  ·exact ⟨(ce rfl rfl rfl),trivial⟩
  ·kernel_rfl) ?_
 ·omega
 intro k hk
 refine aH fun K4 hK4=> ?_
 refine am (aP rfl (bz rfl rfl rfl (fA rfl rfl rfl (ai (bI _ aa rfl) (ai (bp _ _ rfl rfl rfl) (aj (aO rfl (fun hc11=> ?_) (fun hc11=> ?_))))))))
 ·skip
  have hk2:k < ons.length:=by omega
  obtain ⟨b,hb⟩: ∃ b,b=(ons[k]).2:=⟨_,rfl⟩
  have hkH:=hHk k hk2
  rw [← hb] at hkH
  have hwb:=Ao (d++v) b (hb ▸ hw _ (List.getElem_mem hk2))
  obtain ⟨hnb,hng⟩:=yG hl b (hb ▸ ho _ (List.getElem_mem hk2)) [] GN.nil
  have hbody:=rC H k ab
  rw [hkH] at hbody
  generalize zi (d++v) b []=M at hnb hng
  have hMl:=hng.len
  refine bB (hK4 _ ?_)
  clear hK4;try clear K4
  refine aH fun K6 hK6=> ?_
  refine au (am (bz rfl rfl rfl (fA rfl rfl rfl (aP rfl (ai (bi _ _ aa rfl rfl _ rfl ab (by (simp only [aZ,bq,bo,bG,bE,bM,bF,List.length_map];omega)) ag) ?_)))))
  refine ai (dn _ aa rfl rfl) (ai (cp _ aa rfl (by exact hbody) rfl) ?_)
  refine ai (aF aa al (hwb) rfl rfl) ?_
  refine ci rfl (aj (aq (am (cM rfl (ai (da (r:=false) _ rfl rfl) (aj (aS rfl rfl (aL (aq ?_)))))))))
  refine aN (σ':=aA 43 [(1,_),(3,_)] [((1,0),_)] [] []) kp ?_
  refine an (bz rfl rfl rfl (fA rfl rfl rfl (aP rfl (ai (bi _ _ aa rfl rfl _ rfl ab (by (simp only [aZ,bq,bo,bG,bE,bM,bF,List.length_map];omega)) ag) ?_))))
  refine ai (dn _ aa rfl rfl) (ai (cp _ aa rfl (by exact hbody) rfl) ?_)
  refine ai (aF aa al (hnb) rfl rfl) ?_
  refine ke rfl (aj (am (ba rfl (aj (au ?_)))))
  refine bD (α:=Nat) (fun q=> q≤M.length) 43 [(1,_),(3,_),(5,_)] [((1,0),_)] (fun q=> [(6, .v (.int .i64 (q:Int)))]) (fun q=> []) [] [] (fun q=> M.length - q) 0 ?_ (by
   refine Le.mkJ [] [] rfl ?_ ?_ trivial trivial ?_
   ·exact ⟨(iP rfl),(iV rfl),(iS rfl),(bY ag),trivial⟩
   ·exact ⟨(ce rfl rfl rfl),trivial⟩
   ·kernel_rfl) ?_
  ·omega
  intro q hq
  refine aH fun K12 hK12=> ?_
  refine am (aP rfl (ef rfl (ai (bI _ aa rfl) (ai (bp _ _ rfl rfl rfl) (aj (aO rfl (fun hc33=> ?_) (fun hc33=> ?_)))))))
  ·skip
   obtain ⟨i,hi,hiq⟩: ∃ i,i < (d++v).length∧M.getD q []=(d++v).getD i []:=by
    have hm:=hng.2 _ (iY (show q < M.length by omega))
    obtain ⟨i,hi,he⟩:=List.getElem_of_mem hm
    exact ⟨i,hi,by rw [List.getD_eq_getElem?_getD (l:=d++v),List.getElem?_eq_getElem hi,← he];rfl⟩
   have hix:=lp d v (lA H) H.length hn ab i hi
   rw [← hiq] at hix
   refine bB (hK12 _ ?_)
   clear hK12;try clear K12
   refine aq (au (aq ?_))
   refine aN (σ':=aA 43 [(1,_),(3,_),(5,_),(6,_)] [((1,0),_)] [] []) kp ?_
   refine bu 7 [36,37,38,39,40,41,42] [] ae ae rfl (aK rfl) (rfl:_=[_,_,_,_,_,_,_]) (rfl:_=[]) ?_
   refine ap (_,[]) (fun τ=> aR _ aa rfl rfl rfl rfl) ?_
   refine el rfl ?_
   refine ap (_,[]) (fun τ=> aC _ (rfl:_=AV.sl _ _)) ?_
   refine eo rfl ?_
   refine ap (_,[]) (fun τ=> aC _ (rfl:_=AV.v (.int _ _))) ?_
   refine ep rfl ?_
   refine ap (_,[]) (fun τ=> bi _ _ aa rfl rfl _ rfl ab (by (simp only [aZ,bq,bo,bG,bE,bM,bF,List.length_map];omega)) (by exact Nat.mul_one _)) ?_
   refine ew rfl ?_
   refine ap (_,[]) (fun τ=> bH _ aa rfl (by exact fK _ _ ab) rfl) ?_
   refine eF rfl ?_
   refine ap (_,[]) (fun τ=> (aF aa al (hix) rfl rfl)) ?_
   refine eV rfl ?_
   refine ap (_,[]) (fun τ=> bp (r:=false) _ _ rfl rfl (decide_eq_false ab)) ?_
   refine fF rfl (bg ⟨rfl,?_⟩)
   refine aj (aS rfl rfl (cf (an (aP rfl (ai (bc _ _ rfl rfl (be ab)) ?_)))))
   refine ba rfl (ax (⟨q+1,?_,?_,?_⟩))
   ·omega
   ·skip
    refine Le.mkJ [] [] rfl ?_ ?_ trivial trivial ?_
    ·exact ⟨(iP rfl),(iV rfl),(iS rfl),(bY ag),trivial⟩
    ·exact ⟨(ce rfl rfl rfl),trivial⟩
    ·kernel_rfl
   ·omega
  ·skip
   refine bK (id (hK6 _ ?_))
   clear hK6;try clear K6
   refine an (aP rfl (ai (bc _ _ rfl rfl (be ab)) ?_))
   refine ba rfl (ax (⟨k+1,?_,?_,?_⟩))
   ·omega
   ·skip
    refine Le.mkJ [] [] rfl ?_ ?_ trivial trivial ?_
    ·exact ⟨(iP rfl),(bY ag),trivial⟩
    ·exact ⟨(ce rfl rfl rfl),trivial⟩
    ·kernel_rfl
   ·omega
 ·skip
  refine bK (id (hK2 _ ?_))
  clear hK2;try clear K2
  exact am (ba rfl (aj (aE (aX (.inr rfl) rfl (.tmp (rfl:_=AV.v _)) (Le.out [] [] .v rfl rfl rfl trivial trivial)))))

theorem lD (C:List eQ):((inl C).drop 0).take (C.length*2)=inl C:=List.take_of_length_le (by rw [List.drop_zero,bN];exact Nat.le_refl _)
theorem kr (C:List eQ):0+C.length*2≤(inl C).length:=by rw [bN,Nat.zero_add];exact Nat.le_refl _
theorem uY (l:List Tx) (n:Nat) (hn:l.length=n) (h1:n≤1000) (hd:l.Nodup) (i:Nat) (hi:i < n):Spec Tryz.prog 122 (bj [.sl n (ea l), .v (bt (l.getD i []))] []) (aT (.v (.int .i64 (i:Int))) []):=by
 refine Spec.ofN Tryz.func122 rfl Tryz.ntmps122 rfl ?_
 refine am (ba rfl (aj (aq (am (ba rfl (aj (au ?_)))))))
 refine bD (α:=Nat) (fun k=> k≤n∧k≤i) 19 [(0,_),(1,_)] [] (fun k=> [(5, .v (.int .i64 (k:Int)))]) (fun k=> []) [] [] (fun k=> n - k) 0 ?_ (by
  refine Le.mkJ [] [] rfl ?_ ?_ trivial trivial ?_
  ·exact ⟨(iS rfl),(iV rfl),(bY ag),trivial⟩
  ·exact trivial
  ·kernel_rfl) ?_
 ·exact ⟨Nat.zero_le _,Nat.zero_le _⟩
 intro k hk
 obtain ⟨hk,hki⟩:=hk
 refine aH fun K4 hK4=> ?_
 refine am (aP rfl (ef rfl (ai (bI _ aa rfl) (ai (bp _ _ rfl rfl rfl) (aj (aO rfl (fun hc9=> ?_) (fun hc9=> ?_)))))))
 ·skip
  refine bB (hK4 _ ?_)
  clear hK4;try clear K4
  refine aq (au (am (ef rfl (aP rfl (ai (bi _ _ aa rfl rfl _ rfl ab (by (simp only [aZ,bq,bo,bG,bE,bM,bF,bN];omega)) (by exact Nat.mul_one _)) ?_)))))
  refine ai (bH _ aa rfl (by exact fK _ _ ab) rfl) ?_
  refine dQ rfl (ai (aY _ _ Tryz.underlying9 rfl rfl rfl) (aj (aO rfl (fun hc17=> ?_) (fun hc17=> ?_))))
  ·skip
   have he:k=i:=lx hd ab ab hc17
   refine am (aP rfl (ba rfl (aj (aE (aX (.inr rfl) rfl (.tmp (rfl:_=AV.v (.int _ _))) (Le.out [] [] (bY ?_) rfl rfl rfl trivial trivial))))))
   rw [he]
  ·skip
   have he:k≠i:=fun e=> hc17 (by rw [e])
   refine cf (an (aP rfl (ai (bc _ _ rfl rfl (be ab)) ?_)))
   refine ba rfl (ax (⟨k+1,?_,?_,?_⟩))
   ·exact ⟨by omega,by omega⟩
   ·skip
    refine Le.mkJ [] [] rfl ?_ ?_ trivial trivial ?_
    ·exact ⟨(iS rfl),(iV rfl),(bY ag),trivial⟩
    ·exact trivial
    ·kernel_rfl
   ·omega
 ·skip
  exact absurd hki ab
theorem ng:Spec Tryz.prog 123 (bj [] []) (aT (.sl 9 (ea bltT)) []):=by
 refine Spec.ofN Tryz.func123 rfl Tryz.ntmps123 rfl ?_
 refine am (ai (bJ _ (rfl:_=AV.v (.slice _ _ _))) (aj (am (ai (aU _ _ aa rfl ag (by (simp <;> rfl)) ah rfl) ?_))))
 exact ke rfl (aj (aE (aX (.inr rfl) rfl (.tmp (rfl:_=AV.sl _ _)) (Le.out [] [] .sl rfl rfl rfl trivial trivial))))
theorem wG:Spec Tryz.prog 126 (bj [.v (bt [43])] []) (aT (.sl (Bo.add).code.length (inl (Bo.add).code)) []):=by
 refine Spec.ofN Tryz.func126 rfl Tryz.ntmps126 rfl ?_
 refine am (ai (bJ _ (rfl:_=AV.v (.slice _ _ _))) (aj (aq (am (dQ rfl (aj (au (am (ai (aY (r:=true) _ _ Tryz.underlying9 rfl rfl rfl) (ci rfl ?_))))))))))
 refine aj (bC rfl rfl (am (ai (aB _ aa rfl (by exact (rfl:_=some [_,_]))) ?_)))
 refine ai (aU _ _ aa rfl ag (by (simp <;> rfl)) ah rfl) ?_
 exact ke rfl (aj (aE (aX (.inr rfl) rfl (.tmp (rfl:_=AV.sl _ _)) (Le.out [] [] .sl rfl rfl rfl trivial trivial))))
theorem xu:Spec Tryz.prog 126 (bj [.v (bt [45])] []) (aT (.sl (Bo.sub).code.length (inl (Bo.sub).code)) []):=by
 refine Spec.ofN Tryz.func126 rfl Tryz.ntmps126 rfl ?_
 refine am (ai (bJ _ (rfl:_=AV.v (.slice _ _ _))) (aj (aq (am (dQ rfl (aj (au (am (ai (aY (r:=false) _ _ Tryz.underlying9 rfl rfl rfl) (ci rfl ?_))))))))))
 refine aj (aS rfl rfl (am (ai (aY (r:=true) _ _ Tryz.underlying9 rfl rfl rfl) (ci rfl (aj (bC rfl rfl (am (ai (aB _ aa rfl (by exact (rfl:_=some [_,_]))) ?_))))))))
 refine ai (aU _ _ aa rfl ag (by (simp <;> rfl)) ah rfl) ?_
 exact ke rfl (aj (aE (aX (.inr rfl) rfl (.tmp (rfl:_=AV.sl _ _)) (Le.out [] [] .sl rfl rfl rfl trivial trivial))))
theorem yP:Spec Tryz.prog 126 (bj [.v (bt [42])] []) (aT (.sl (Bo.mul).code.length (inl (Bo.mul).code)) []):=by
 refine Spec.ofN Tryz.func126 rfl Tryz.ntmps126 rfl ?_
 refine am (ai (bJ _ (rfl:_=AV.v (.slice _ _ _))) (aj (aq (am (dQ rfl (aj (au (am (ai (aY (r:=false) _ _ Tryz.underlying9 rfl rfl rfl) (ci rfl ?_))))))))))
 refine aj (aS rfl rfl (am (ai (aY (r:=false) _ _ Tryz.underlying9 rfl rfl rfl) (ci rfl (aj (aS rfl rfl (am (ai (aY (r:=true) _ _ Tryz.underlying9 rfl rfl rfl) (ci rfl (aj ?_))))))))))
 refine bC rfl rfl (am (ai (aB _ aa rfl (by exact (rfl:_=some [_,_]))) ?_))
 refine ai (aU _ _ aa rfl ag (by (simp <;> rfl)) ah rfl) ?_
 exact ke rfl (aj (aE (aX (.inr rfl) rfl (.tmp (rfl:_=AV.sl _ _)) (Le.out [] [] .sl rfl rfl rfl trivial trivial))))
theorem wY:Spec Tryz.prog 126 (bj [.v (bt [47])] []) (aT (.sl (Bo.div).code.length (inl (Bo.div).code)) []):=by
 refine Spec.ofN Tryz.func126 rfl Tryz.ntmps126 rfl ?_
 refine am (ai (bJ _ (rfl:_=AV.v (.slice _ _ _))) (aj (aq (am (dQ rfl (aj (au (am (ai (aY (r:=false) _ _ Tryz.underlying9 rfl rfl rfl) (ci rfl ?_))))))))))
 refine aj (aS rfl rfl (am (ai (aY (r:=false) _ _ Tryz.underlying9 rfl rfl rfl) (ci rfl (aj (aS rfl rfl (am (ai (aY (r:=false) _ _ Tryz.underlying9 rfl rfl rfl) (ci rfl (aj ?_))))))))))
 refine aS rfl rfl (am (ai (aY (r:=true) _ _ Tryz.underlying9 rfl rfl rfl) (ci rfl (aj (bC rfl rfl (am (ai (aB _ aa rfl (by exact (rfl:_=some [_,_]))) ?_)))))))
 refine ai (aU _ _ aa rfl ag (by (simp <;> rfl)) ah rfl) ?_
 exact ke rfl (aj (aE (aX (.inr rfl) rfl (.tmp (rfl:_=AV.sl _ _)) (Le.out [] [] .sl rfl rfl rfl trivial trivial))))
theorem AC:Spec Tryz.prog 126 (bj [.v (bt [60])] []) (aT (.sl (Bo.lt).code.length (inl (Bo.lt).code)) []):=by
 refine Spec.ofN Tryz.func126 rfl Tryz.ntmps126 rfl ?_
 refine am (ai (bJ _ (rfl:_=AV.v (.slice _ _ _))) (aj (aq (am (dQ rfl (aj (au (am (ai (aY (r:=false) _ _ Tryz.underlying9 rfl rfl rfl) (ci rfl ?_))))))))))
 refine aj (aS rfl rfl (am (ai (aY (r:=false) _ _ Tryz.underlying9 rfl rfl rfl) (ci rfl (aj (aS rfl rfl (am (ai (aY (r:=false) _ _ Tryz.underlying9 rfl rfl rfl) (ci rfl (aj ?_))))))))))
 refine aS rfl rfl (am (ai (aY (r:=false) _ _ Tryz.underlying9 rfl rfl rfl) (ci rfl (aj (aS rfl rfl (am (ai (aY (r:=true) _ _ Tryz.underlying9 rfl rfl rfl) (ci rfl (aj (bC rfl rfl ?_))))))))))
 refine am (ai (aB _ aa rfl (by exact (rfl:_=some [_,_]))) ?_)
 refine ai (aU _ _ aa rfl ag (by (simp <;> rfl)) ah rfl) ?_
 exact ke rfl (aj (aE (aX (.inr rfl) rfl (.tmp (rfl:_=AV.sl _ _)) (Le.out [] [] .sl rfl rfl rfl trivial trivial))))
theorem Bs:Spec Tryz.prog 126 (bj [.v (bt [60,61])] []) (aT (.sl (Bo.le).code.length (inl (Bo.le).code)) []):=by
 refine Spec.ofN Tryz.func126 rfl Tryz.ntmps126 rfl ?_
 refine am (ai (bJ _ (rfl:_=AV.v (.slice _ _ _))) (aj (aq (am (dQ rfl (aj (au (am (ai (aY (r:=false) _ _ Tryz.underlying9 rfl rfl rfl) (ci rfl ?_))))))))))
 refine aj (aS rfl rfl (am (ai (aY (r:=false) _ _ Tryz.underlying9 rfl rfl rfl) (ci rfl (aj (aS rfl rfl (am (ai (aY (r:=false) _ _ Tryz.underlying9 rfl rfl rfl) (ci rfl (aj ?_))))))))))
 refine aS rfl rfl (am (ai (aY (r:=false) _ _ Tryz.underlying9 rfl rfl rfl) (ci rfl (aj (aS rfl rfl (am (ai (aY (r:=false) _ _ Tryz.underlying9 rfl rfl rfl) (ci rfl (aj (aS rfl rfl ?_))))))))))
 refine am (ai (aY (r:=true) _ _ Tryz.underlying9 rfl rfl rfl) (ci rfl (aj (bC rfl rfl (am (ai (aB _ aa rfl (by exact (rfl:_=some [_,_]))) ?_))))))
 refine ai (aU _ _ aa rfl ag (by (simp <;> rfl)) ah rfl) ?_
 exact ke rfl (aj (aE (aX (.inr rfl) rfl (.tmp (rfl:_=AV.sl _ _)) (Le.out [] [] .sl rfl rfl rfl trivial trivial))))
theorem BE:Spec Tryz.prog 126 (bj [.v (bt [61,61])] []) (aT (.sl (Bo.eq).code.length (inl (Bo.eq).code)) []):=by
 refine Spec.ofN Tryz.func126 rfl Tryz.ntmps126 rfl ?_
 refine am (ai (bJ _ (rfl:_=AV.v (.slice _ _ _))) (aj (aq (am (dQ rfl (aj (au (am (ai (aY (r:=false) _ _ Tryz.underlying9 rfl rfl rfl) (ci rfl ?_))))))))))
 refine aj (aS rfl rfl (am (ai (aY (r:=false) _ _ Tryz.underlying9 rfl rfl rfl) (ci rfl (aj (aS rfl rfl (am (ai (aY (r:=false) _ _ Tryz.underlying9 rfl rfl rfl) (ci rfl (aj ?_))))))))))
 refine aS rfl rfl (am (ai (aY (r:=false) _ _ Tryz.underlying9 rfl rfl rfl) (ci rfl (aj (aS rfl rfl (am (ai (aY (r:=false) _ _ Tryz.underlying9 rfl rfl rfl) (ci rfl (aj (aS rfl rfl ?_))))))))))
 refine am (ai (aY (r:=false) _ _ Tryz.underlying9 rfl rfl rfl) (ci rfl (aj (aS rfl rfl (am (ai (aY (r:=true) _ _ Tryz.underlying9 rfl rfl rfl) (ci rfl (aj (bC rfl rfl (aq ?_))))))))))
 refine aN (σ':=aA 45 [] [] [] []) kp ?_
 refine an (ai (aB _ aa rfl (by exact (rfl:_=some [_,_]))) ?_)
 refine ai (aU _ _ aa rfl ag (by (simp <;> rfl)) ah rfl) ?_
 exact ke rfl (aj (aE (aX (.inr rfl) rfl (.tmp (rfl:_=AV.sl _ _)) (Le.out [] [] .sl rfl rfl rfl trivial trivial))))
theorem zM:Spec Tryz.prog 126 (bj [.v (bt [62])] []) (aT (.sl (Bo.gt).code.length (inl (Bo.gt).code)) []):=by
 refine Spec.ofN Tryz.func126 rfl Tryz.ntmps126 rfl ?_
 refine am (ai (bJ _ (rfl:_=AV.v (.slice _ _ _))) (aj (aq (am (dQ rfl (aj (au (am (ai (aY (r:=false) _ _ Tryz.underlying9 rfl rfl rfl) (ci rfl ?_))))))))))
 refine aj (aS rfl rfl (am (ai (aY (r:=false) _ _ Tryz.underlying9 rfl rfl rfl) (ci rfl (aj (aS rfl rfl (am (ai (aY (r:=false) _ _ Tryz.underlying9 rfl rfl rfl) (ci rfl (aj ?_))))))))))
 refine aS rfl rfl (am (ai (aY (r:=false) _ _ Tryz.underlying9 rfl rfl rfl) (ci rfl (aj (aS rfl rfl (am (ai (aY (r:=false) _ _ Tryz.underlying9 rfl rfl rfl) (ci rfl (aj (aS rfl rfl ?_))))))))))
 refine am (ai (aY (r:=false) _ _ Tryz.underlying9 rfl rfl rfl) (ci rfl (aj (aS rfl rfl (am (ai (aY (r:=false) _ _ Tryz.underlying9 rfl rfl rfl) (ci rfl (aj (aS rfl rfl (aq ?_))))))))))
 refine aN (σ':=aA 45 [(3,_)] [] [] []) kp ?_
 refine an (ai (aY (r:=true) _ _ Tryz.underlying9 rfl rfl rfl) (ci rfl (aj (bC rfl rfl (am (ai (aB _ aa rfl (by exact (rfl:_=some [_,_]))) ?_))))))
 refine ai (aB _ aa rfl (by exact (rfl:_=some [_,_]))) ?_
 refine ai (aU _ _ aa rfl ag (by (simp <;> rfl)) ah rfl) ?_
 exact ke rfl (aj (aE (aX (.inr rfl) rfl (.tmp (rfl:_=AV.sl _ _)) (Le.out [] [] .sl rfl rfl rfl trivial trivial))))
theorem AW:Spec Tryz.prog 126 (bj [.v (bt [62,61])] []) (aT (.sl (Bo.ge).code.length (inl (Bo.ge).code)) []):=by
 refine Spec.ofN Tryz.func126 rfl Tryz.ntmps126 rfl ?_
 refine am (ai (bJ _ (rfl:_=AV.v (.slice _ _ _))) (aj (aq (am (dQ rfl (aj (au (am (ai (aY (r:=false) _ _ Tryz.underlying9 rfl rfl rfl) (ci rfl ?_))))))))))
 refine aj (aS rfl rfl (am (ai (aY (r:=false) _ _ Tryz.underlying9 rfl rfl rfl) (ci rfl (aj (aS rfl rfl (am (ai (aY (r:=false) _ _ Tryz.underlying9 rfl rfl rfl) (ci rfl (aj ?_))))))))))
 refine aS rfl rfl (am (ai (aY (r:=false) _ _ Tryz.underlying9 rfl rfl rfl) (ci rfl (aj (aS rfl rfl (am (ai (aY (r:=false) _ _ Tryz.underlying9 rfl rfl rfl) (ci rfl (aj (aS rfl rfl ?_))))))))))
 refine am (ai (aY (r:=false) _ _ Tryz.underlying9 rfl rfl rfl) (ci rfl (aj (aS rfl rfl (am (ai (aY (r:=false) _ _ Tryz.underlying9 rfl rfl rfl) (ci rfl (aj (aS rfl rfl (aq ?_))))))))))
 refine aN (σ':=aA 45 [(3,_)] [] [] []) kp ?_
 refine an (ai (aY (r:=false) _ _ Tryz.underlying9 rfl rfl rfl) (ci rfl (aj (aS rfl rfl (am (ai (aY (r:=true) _ _ Tryz.underlying9 rfl rfl rfl) (ci rfl (aj (bC rfl rfl (am ?_))))))))))
 refine ai (aB _ aa rfl (by exact (rfl:_=some [_,_]))) ?_
 refine ai (aB _ aa rfl (by exact (rfl:_=some [_,_]))) ?_
 refine ai (aU _ _ aa rfl ag (by (simp <;> rfl)) ah rfl) ?_
 exact ke rfl (aj (aE (aX (.inr rfl) rfl (.tmp (rfl:_=AV.sl _ _)) (Le.out [] [] .sl rfl rfl rfl trivial trivial))))
theorem Bt:Spec Tryz.prog 126 (bj [.v (bt [33,61])] []) (aT (.sl (Bo.ne).code.length (inl (Bo.ne).code)) []):=by
 refine Spec.ofN Tryz.func126 rfl Tryz.ntmps126 rfl ?_
 refine am (ai (bJ _ (rfl:_=AV.v (.slice _ _ _))) (aj (aq (am (dQ rfl (aj (au (am (ai (aY (r:=false) _ _ Tryz.underlying9 rfl rfl rfl) (ci rfl ?_))))))))))
 refine aj (aS rfl rfl (am (ai (aY (r:=false) _ _ Tryz.underlying9 rfl rfl rfl) (ci rfl (aj (aS rfl rfl (am (ai (aY (r:=false) _ _ Tryz.underlying9 rfl rfl rfl) (ci rfl (aj ?_))))))))))
 refine aS rfl rfl (am (ai (aY (r:=false) _ _ Tryz.underlying9 rfl rfl rfl) (ci rfl (aj (aS rfl rfl (am (ai (aY (r:=false) _ _ Tryz.underlying9 rfl rfl rfl) (ci rfl (aj (aS rfl rfl ?_))))))))))
 refine am (ai (aY (r:=false) _ _ Tryz.underlying9 rfl rfl rfl) (ci rfl (aj (aS rfl rfl (am (ai (aY (r:=false) _ _ Tryz.underlying9 rfl rfl rfl) (ci rfl (aj (aS rfl rfl (aq ?_))))))))))
 refine aN (σ':=aA 45 [(3,_)] [] [] []) kp ?_
 refine an (ai (aY (r:=false) _ _ Tryz.underlying9 rfl rfl rfl) (ci rfl (aj (aS rfl rfl (am (ai (aY (r:=false) _ _ Tryz.underlying9 rfl rfl rfl) (ci rfl (aj (aS rfl rfl (cf ?_))))))))))
 refine am (ai (aB _ aa rfl (by exact (rfl:_=some [_,_]))) ?_)
 refine ai (aB _ aa rfl (by exact (rfl:_=some [_,_]))) ?_
 refine ai (aU _ _ aa rfl ag (by (simp <;> rfl)) ah rfl) ?_
 exact ke rfl (aj (aE (aX (.inr rfl) rfl (.tmp (rfl:_=AV.sl _ _)) (Le.out [] [] .sl rfl rfl rfl trivial trivial))))
theorem vf (o:Bo):Spec Tryz.prog 126 (bj [.v (bt o.txt)] []) (aT (.sl o.code.length (inl o.code)) []):=by
 cases o
 ·exact wG
 ·exact xu
 ·exact yP
 ·exact wY
 ·exact AC
 ·exact Bs
 ·exact BE
 ·exact zM
 ·exact AW
 ·exact Bt

abbrev Cd:=Nat→List eQ
abbrev CoS (u:AV) (d:Nd) (c:Cd):Prop:= ∀ a,a+(c a).length≤1000000→Spec Tryz.prog 91 (bj [u,mS d, .v (.int .i64 (a:Int))] []) (aT (.ref (0,8) 0 (c a).length) [((0,8), .row 48 2 (inl (c a)))])
def cT:List Cd→Nat→List eQ
 | [],_=> []
 | c::cs,a=> c a++cT cs (a+(c a).length)
theorem oR: ∀ (l m:List Cd) (a:Nat),cT (l++m) a=cT l a++cT m (a+(cT l a).length)
 | [],m,a=> by simp [cT]
 | c::l,m,a=> by simp only [List.cons_append,cT,oR l m,List.append_assoc,List.length_append,Nat.add_assoc]
theorem vQ {cs:List Cd} {j a:Nat} (h:j < cs.length):cT (cs.take (j+1)) a=cT (cs.take j) a++(cs.getD j fun _=> []) (a+(cT (cs.take j) a).length):=by
 rw [List.take_succ_eq_append_getElem h,oR]
 simp [cT,h]
theorem pS {cs:List Cd} {j a:Nat}:(cT (cs.take j) a).length≤(cT cs a).length:=by
 conv=> rhs;rw [← List.take_append_drop j cs,oR]
 rw [List.length_append];omega
abbrev ll (u:AV) (L:List Nd) (cs:List Cd):Prop:= ∀ j,j < L.length→CoS u (jQ L j) (cs.getD j fun _=> [])
theorem zn {u:AV}:ll u [] []:=fun j hj=> by simp at hj
theorem uZ {u:AV} {d:Nd} {c:Cd} {L:List Nd} {cs:List Cd} (h:CoS u d c) (h':ll u L cs):ll u (d::L) (c::cs):=fun j hj=> by
 cases j with
 | zero=> exact h
 | succ j=> exact h' j (by simpa using hj)
section
variable {d v:List Tx} {no:Nat} {on:List PV}
abbrev uu (d v:List Tx) (no:Nat) (on:List PV):AV:= .agg [.sl d.length (ea d), .sl v.length (ea v), .sl no on]
theorem dF (L:List Nd) (cs:List Cd) (hc:cs.length=L.length) (hk:ll (uu d v no on) L cs) (a:Nat) (ha:a+(cT cs a).length≤1000000):
  Spec Tryz.prog 125 (bj [uu d v no on, .sl L.length (kR L), .v (.int .i64 (a:Int))] []) (aT (.ref (0,8) 0 (cT cs a).length) [((0,8), .row 48 2 (inl (cT cs a)))]):=by
 refine Spec.ofN Tryz.func125 rfl Tryz.ntmps125 rfl ?_
 refine aq ?_
 refine Dn 1 rfl rfl fun hlen=> ?_
 unfold maxLen at hlen
 refine an (ai (bm (3,0) _ rfl rfl) (ai (bJ _ (rfl:_=AV.v (.slice _ _ _))) (aj (am (ai (mP (7,0) _ 48 2 rfl rfl) ?_)))))
 refine aj (aH fun K3 hK3=> ?_)
 refine am (ba rfl (aj (au ?_)))
 refine bD (α:=Nat) (fun j=> j≤L.length) 28 [(1,_),(2,_),(3,_)] [((3,0),_)] (fun j=> [(8, .v (.int .i64 (j:Int))),(7, .ref (7,0) 0 (cT (cs.take j) a).length)]) (fun j=> [((7,0), .row 48 2 (inl (cT (cs.take j) a)))]) [] [] (fun j=> L.length - j) 0 ?_ (by
  refine Le.mkJ [] [] rfl ?_ ?_ trivial trivial ?_
  ·exact ⟨(iS rfl),(iV rfl),(iP rfl),(bY ag),(cq rfl ag),trivial⟩
  ·exact ⟨(ce rfl rfl rfl),(cw rfl rfl rfl ag),trivial⟩
  ·kernel_rfl) ?_
 ·omega
 intro j hj
 have htk:(cT (cs.take j) a).length≤(cT cs a).length:=pS
 refine aH fun K5 hK5=> ?_
 refine am (aP rfl (ef rfl (ai (bI _ aa rfl) (ai (bp _ _ rfl rfl rfl) (aj (aO rfl (fun hc12=> ?_) (fun hc12=> ?_)))))))
 ·skip
  have hs:=vQ (cs:=cs) (j:=j) (a:=a) ab
  have htk1:(cT (cs.take (j+1)) a).length≤(cT cs a).length:=pS
  have hsl:=congrArg List.length hs
  rw [List.length_append] at hsl
  have hcj:=hk j ab (a+(cT (cs.take j) a).length) ab
  generalize (cs.getD j fun _=> []) (a+(cT (cs.take j) a).length)=C at hs hsl hcj
  refine bB (hK5 _ ?_)
  clear hK5;try clear K5
  refine aq (au ?_)
  refine aN (σ':=aA 28 [(1,_),(2,_),(3,_),(7,_),(8,_)] [((3,0),_),((7,0),_)] [] []) kp ?_
  refine bu 11 [15,16,17,18,19,20,21,22,23,24,25] [(50,0)] ae ae rfl (aK rfl) (rfl:_=[_,_,_,_,_,_,_,_,_,_,_]) (rfl:_=[_,_]) ?_
  refine ap (_,[]) (fun τ=> aC _ (rfl:_=AV.ref _ _ _)) ?_
  refine el rfl ?_
  refine ap (_,[]) (fun τ=> aR _ aa rfl rfl rfl rfl) ?_
  refine eo rfl ?_
  refine ap (_,[]) (fun τ=> aC _ (rfl:_=AV.sl _ _)) ?_
  refine ep rfl ?_
  refine ap (_,[]) (fun τ=> aC _ (rfl:_=AV.v (.int _ _))) ?_
  refine ew rfl ?_
  refine ap (_,[]) (fun τ=> bi _ _ aa rfl rfl _ rfl ab (by (simp only [aZ,bq,bo,bG,bE,bM,bF,bN];omega)) ag) ?_
  refine eF rfl ?_
  refine ap (_,[]) (fun τ=> cp _ aa rfl (by exact cL _ _ ab) rfl) ?_
  refine eV rfl ?_
  refine ap (_,[]) (fun τ=> aC _ (rfl:_=AV.v (.int _ _))) ?_
  refine fF rfl ?_
  refine ap (_,[]) (fun τ=> aC _ (rfl:_=AV.ref _ _ _)) ?_
  refine iu rfl ?_
  refine ap (_,[]) (fun τ=> dv _ aa rfl rfl) ?_
  refine ig rfl ?_
  refine ap (_,[]) (fun τ=> bc _ _ rfl rfl (be ab)) ?_
  refine eO rfl ?_
  refine ap (_,[((50,0),_)]) (fun τ=> (eC aa [((0,8),(50,0))] ar (hcj.toI) trivial tr tr rfl rfl ae ae)) ?_
  refine fc rfl (bg ⟨rfl,?_⟩)
  refine ai (cE (26,0) _ _ aa rfl rfl (bN _).symm (.ref rfl (lD _) (kr _)) ab rfl (kL _ _) hsl.symm) ?_
  refine dY rfl (ga (an (aP rfl (ai (bc _ _ rfl rfl (be ab)) ?_))))
  refine ba rfl (ax (⟨j+1,?_,?_,?_⟩))
  ·omega
  ·skip
   refine Le.mkJ [((7,0),(26,0))] [] rfl ?_ ?_ trivial trivial ?_
   ·exact ⟨(by repeat' (exact Lv.sl)),(by repeat' (exact Lv.v)),(cr (id:=(3,0)) rfl),(bY ag),(cq rfl ag),trivial⟩
   ·exact ⟨(di rfl rfl rfl rfl (by repeat' (first | exact Lv.sl | exact bf | refine aD ?_ ?_))),(cw rfl rfl rfl (by (rw [hs]))),trivial⟩
   ·kernel_rfl
  ·omega
 ·skip
  obtain rfl:j=cs.length:=by omega
  rw [List.take_length]
  refine bK (id (hK3 _ ?_))
  clear hK3;try clear K3
  exact am (ei rfl (dY rfl (aj (aE (aX (.inr rfl) rfl (.tmp (rfl:_=AV.ref _ _ _)) (Le.out [((0,8),(7,0))] [] (cq rfl rfl) rfl rfl rfl trivial ob))))))
theorem nl (N:Nd) (c:Cd) (h:CoS (uu d v no on) N c) (n:Int) (a:Nat) (ha:a+(c a).length≤1000000):
  Spec Tryz.prog 187 (bj [uu d v no on, .sl 1 (kR [N]), .v (.int .i64 n), .v (.int .i64 (a:Int))] []) (aT (.ref (0,8) 0 (c a).length) [((0,8), .row 48 2 (inl (c a)))]):=by
 have hc:=h a ha
 refine Spec.ofN Tryz.func187 rfl Tryz.ntmps187 rfl ?_
 refine am (ai (bm (4,0) _ rfl rfl) (ai (bJ _ (rfl:_=AV.v (.slice _ _ _))) (aj (aq (am (ef rfl (ai (bI _ aa rfl) (ai (dB _ _ rfl rfl rfl) (aj (bC rfl rfl ?_))))))))))
 refine aq ?_
 refine aN (σ':=aA 21 [(1,_),(3,_),(4,_)] [((4,0),_)] [] []) kp ?_
 refine bu 5 [12,13,14,15,16] [] ae ae rfl (aK rfl) (rfl:_=[_,_,_,_,_]) (rfl:_=[_,_]) ?_
 refine ap (_,[]) (fun τ=> aR _ aa rfl rfl rfl rfl) ?_
 refine el rfl ?_
 refine ap (_,[]) (fun τ=> aC _ (rfl:_=AV.sl _ _)) ?_
 refine eo rfl ?_
 refine ap (_,[]) (fun τ=> bi _ _ aa rfl rfl 0 rfl ab (by simp [kR,Nd.row]) rfl) ?_
 refine ep rfl ?_
 refine ap (_,[]) (fun τ=> cp _ aa rfl (by exact cL [N] 0 (by simp)) rfl) ?_
 refine ew rfl ?_
 refine ap (_,[]) (fun τ=> aC _ (rfl:_=AV.v (.int _ _))) ?_
 refine eF rfl (bg ⟨rfl,?_⟩)
 refine ai (dw aa [((0,8),(50,0))] ar (hc.toI) trivial tr ae) ?_
 exact dY rfl (aj (aE (aX (.inr rfl) rfl (.tmp (rfl:_=AV.ref _ _ _)) (Le.out [((0,8),(50,0))] [] (cq rfl rfl) rfl rfl rfl trivial ob))))
theorem sh (n:Int) (a:Nat):
  Spec Tryz.prog 187 (bj [uu d v no on, .sl 0 [], .v (.int .i64 n), .v (.int .i64 (a:Int))] []) (aT (.ref (0,8) 0 1) [((0,8), .row 48 2 (inl [{ op:= .push,n:=n }]))]):=by
 refine Spec.ofN Tryz.func187 rfl Tryz.ntmps187 rfl ?_
 refine am (ai (bm (4,0) _ rfl rfl) (ai (bJ _ (rfl:_=AV.v (.slice _ _ _))) (aj (aq (am (ef rfl (ai (bI _ aa rfl) (ai (dB _ _ rfl rfl rfl) (aj (aS rfl rfl ?_))))))))))
 refine aL (am (aP rfl (ai (aB _ aa rfl (by exact (rfl:_=some [_,_]))) ?_)))
 refine ai (kd (20,0) _ _ aa rfl ag (by (simp <;> rfl)) ah rfl rfl) ?_
 exact dY rfl (aj (aE (aX (.inr rfl) rfl (.tmp (rfl:_=AV.ref _ _ _)) (Le.out [((0,8),(20,0))] [] (cq rfl rfl) rfl rfl rfl trivial ob))))
def BY (c y z:Cd) (a:Nat):List eQ:=
 c a++[{ op:= .unl,n:=((a+(c a).length+1+(y (a+(c a).length+1)).length+1:Nat):Int) }]++y (a+(c a).length+1)++
  [{ op:= .jump,n:=((a+(c a).length+1+(y (a+(c a).length+1)).length+1+(z (a+(c a).length+1+(y (a+(c a).length+1)).length+1)).length:Nat):Int) }]++z (a+(c a).length+1+(y (a+(c a).length+1)).length+1)
abbrev HE (u:AV) (l:AV) (n:Int) (c:Cd):Prop:= ∀ a,a+(c a).length≤1000000→Spec Tryz.prog 187 (bj [u,l, .v (.int .i64 n), .v (.int .i64 (a:Int))] []) (aT (.ref (0,8) 0 (c a).length) [((0,8), .row 48 2 (inl (c a)))])
theorem jY (N:Nd) (c y z:Cd) (hc:CoS (uu d v no on) N c) (ly lz:Nat) (ys zs:List PV) (n:Int) (hy:HE (uu d v no on) (.sl ly ys) n y) (hz:HE (uu d v no on) (.sl lz zs) n z) (a:Nat) (ha:a+(BY c y z a).length≤1000000):
  Spec Tryz.prog 124 (bj [uu d v no on,mS N, .sl ly ys, .sl lz zs, .v (.int .i64 n), .v (.int .i64 (a:Int))] []) (aT (.ref (0,8) 0 (BY c y z a).length) [((0,8), .row 48 2 (inl (BY c y z a)))]):=by
 have hb: ∃ b,b=BY c y z a:=⟨_,rfl⟩
 obtain ⟨b,hb⟩:=hb
 rw [← hb] at ha ⊢
 unfold BY at hb
 have hbl:=congrArg List.length hb
 simp only [List.length_append,List.length_cons,List.length_nil] at hbl
 have h1:=hc a ab
 generalize c a=C at h1 hb hbl
 have h2:=hy (a+C.length+1) ab
 generalize y (a+C.length+1)=Y at h2 hb hbl
 obtain ⟨f,hf⟩: ∃ f,f=a+C.length+1+Y.length+1:=⟨_,rfl⟩
 rw [← hf] at hb hbl
 have h3:=hz f ab
 generalize z f=Z at h3 hb hbl
 refine Spec.ofN Tryz.func124 rfl Tryz.ntmps124 rfl ?_
 refine am (ai (bm (6,0) _ rfl rfl) (ai (bm (7,0) _ rfl rfl) (ai (bJ _ (rfl:_=AV.v (.slice _ _ _))) (aj (am (ai (aR _ aa rfl rfl rfl rfl) (ai (aR _ aa rfl rfl rfl rfl) (aP rfl (ai (dw aa [((0,8),(50,0))] ar (h1.toI) trivial tr ae) ?_)))))))))
 refine dY rfl (aj (aH fun K3 hK3=> ?_))
 refine an (ai (aR _ aa rfl rfl rfl rfl) (ef rfl (aP rfl (aP rfl (ei rfl (ai (dv _ aa rfl rfl) (ai (bc _ _ rfl rfl (be ab)) ?_)))))))
 refine ai (bc _ _ rfl rfl (be ab)) ?_
 refine ai (dw aa [((0,8),(51,0))] ar (h2.toI) trivial tr ae) ?_
 refine dY rfl (ax (hK3 _ ?_))
 clear hK3;try clear K3
 refine aq ?_
 refine aN (σ':=aA 63 [(3,_),(4,_),(5,_),(6,_),(13,_),(14,_)] [((6,0),_),((50,0),_),((51,0),_)] [] []) kp ?_
 refine an (aP rfl (ei rfl (ai (dv _ aa rfl rfl) (ai (bc _ _ rfl rfl (be ab)) ?_))))
 refine ai (bc _ _ rfl rfl (be ab)) ?_
 refine ei rfl (ai (dv _ aa rfl rfl) (ai (bc _ _ rfl rfl (be ab)) ?_))
 refine ai (bc (r:=(f:Int)) _ _ rfl rfl ((be ab).trans ab)) ?_
 refine ba rfl (aj (aH fun K5 hK5=> ?_))
 refine an (ai (aR _ aa rfl rfl rfl rfl) (ef rfl (aP rfl (aP rfl (ai (dw aa [((0,8),(52,0))] ar (h3.toI) trivial tr ae) ?_)))))
 refine dY rfl (ax (hK5 _ ?_))
 clear hK5;try clear K5
 refine aq ?_
 refine aN (σ':=aA 63 [(13,_),(14,_),(15,_),(16,_)] [((50,0),_),((51,0),_),((52,0),_)] [] []) kp ?_
 refine an (ei rfl (aP rfl (ai (aB _ aa rfl (by exact (rfl:_=some [_,_]))) ?_)))
 refine ai (aU _ _ aa rfl ag (by (simp <;> rfl)) ah rfl) ?_
 refine ai (cE (48,0) _ _ aa rfl rfl (bN _).symm (.sl rfl) ab rfl (eR _ { op:= .unl,n:=f }) (show C.length+1=(C++[({ op:= .unl,n:=f }:eQ)]).length by simp)) ?_
 refine dY rfl (aj (am (ei rfl (ei rfl (ai (cE (51,1) _ _ aa rfl rfl (bN _).symm (.ref rfl (lD _) (kr _)) (by simp;omega) rfl (kL _ _) (show (C++[({ op:= .unl,n:=f }:eQ)]).length+Y.length=(C++[({ op:= .unl,n:=f }:eQ)]++Y).length by simp;omega)) ?_)))))
 refine dY rfl (aj (am (ei rfl (aP rfl (ei rfl (ai (dv _ aa rfl rfl) (ai (bc _ _ rfl rfl (be ab)) ?_)))))))
 refine ai (aB _ aa rfl (by exact (rfl:_=some [_,_]))) ?_
 refine ai (aU _ _ aa rfl ag (by (simp <;> rfl)) ah rfl) ?_
 refine ai (cE (59,0) _ _ aa rfl rfl (bN _).symm (.sl rfl) (by simp;omega) rfl (eR _ { op:= .jump,n:=((f+Z.length:Nat):Int) }) (show (C++[({ op:= .unl,n:=f }:eQ)]++Y).length+1=(C++[({ op:= .unl,n:=f }:eQ)]++Y++[({ op:= .jump,n:=((f+Z.length:Nat):Int) }:eQ)]).length by simp;omega)) ?_
 refine dY rfl (aj (aq ?_))
 refine aN (σ':=aA 63 [(13,_),(16,_)] [((52,0),_),((59,0),_)] [] []) kp ?_
 refine an (ei rfl (ei rfl (ai (cE (62,0) _ _ aa rfl rfl (bN _).symm (.ref rfl (lD _) (kr _)) (by simp;omega) rfl ((kL _ _).trans (congrArg inl hb.symm)) (show _+Z.length=b.length by simp;omega)) ?_)))
 exact dY rfl (aj (aE (aX (.inr rfl) rfl (.tmp (rfl:_=AV.ref _ _ _)) (Le.out [((0,8),(62,0))] [] (cq rfl rfl) rfl rfl rfl trivial ob))))
end
end Go.Proofs.YtmjnackchaahbaaGreat
