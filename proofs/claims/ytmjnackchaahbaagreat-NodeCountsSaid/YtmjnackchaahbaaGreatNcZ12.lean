/- Part 12 of the texts that the walk leans on: the machine, the walks, the plain laws. -/
import Derived.Test.YtmjnackchaahbaaGreatNcZ11
set_option linter.unusedSimpArgs false
set_option linter.unusedVariables false
namespace Go.Proofs.YtmjnackchaahbaaGreat
open Go.RowKit

theorem nc (C:List eT):((inl C).drop 0).take (C.length*2)=inl C:=List.take_of_length_le (by rw [List.drop_zero,bM];exact Nat.le_refl _)
theorem lp (C:List eT):0+C.length*2≤(inl C).length:=by rw [bM,Nat.zero_add];exact Nat.le_refl _
theorem xF (l:List Tx) (n:Nat) (hn:l.length=n) (h1:n≤1000) (hd:l.Nodup) (i:Nat) (hi:i < n):Spec Tryz.prog 122 (ba [.sl n (fk l), .v (bt (l.getD i []))] []) (aP (.v (.int .i64 (i:Int))) []):=by
 refine Spec.ofN Tryz.func122 rfl Tryz.ntmps122 rfl ?_
 refine am (be rfl (aj (aq (am (be rfl (aj (ay ?_)))))))
 refine bs (α:=Nat) (fun k=> k≤n∧k≤i) 19 [(0,_),(1,_)] [] (fun k=> [(5, .v (.int .i64 (k:Int)))]) (fun k=> []) [] [] (fun k=> n - k) 0 ?_ (by
  refine Le.mkJ [] [] rfl ?_ ?_ trivial trivial ?_
  ·exact ⟨(iS rfl),(iV rfl),(cj ag),trivial⟩
  ·exact trivial
  kernel_rfl) ?_
 ·exact ⟨Nat.zero_le _,Nat.zero_le _⟩
 intro k hk
 obtain ⟨hk,hki⟩:=hk
 refine aU fun K4 hK4=> ?_
 refine am (aX rfl (eQ rfl (ai (bo _ aa rfl) (ai (bm _ _ rfl rfl rfl) (aj (aR rfl (fun hc9=> ?_) (fun hc9=> ?_)))))))
 ·skip
  refine bq (hK4 _ ?_)
  clear hK4;try clear K4
  refine aq (ay (am (eQ rfl (aX rfl (ai (bn _ _ aa rfl rfl _ rfl ab (by (simp only [aN,bg,bj,bv,bu,bG,bw,bM];omega)) (by exact Nat.mul_one _)) ?_)))))
  refine ai (bQ _ aa rfl (by exact jP _ _ ab) rfl) ?_
  refine eh rfl (ai (aV _ _ Tryz.underlying9 rfl rfl rfl) (aj (aR rfl (fun hc17=> ?_) (fun hc17=> ?_))))
  ·skip
   have he:k=i:=mM hd ab ab hc17
   refine am (aX rfl (be rfl (aj (aF (rB rfl rfl ?_)))))
   rw [he]
  have he:k≠i:=fun e=> hc17 (by rw [e])
  refine cu (an (aX rfl (ai (aZ _ _ rfl rfl (bD ab)) ?_)))
  refine be rfl (aJ (⟨k+1,?_,?_,?_⟩))
  ·exact ⟨by omega,by omega⟩
  ·skip
   refine Le.mkJ [] [] rfl ?_ ?_ trivial trivial ?_
   ·exact ⟨(iS rfl),(iV rfl),(cj ag),trivial⟩
   ·exact trivial
   kernel_rfl
  omega
 exact absurd hki ab
theorem pu:Spec Tryz.prog 123 (ba [] []) (aP (.sl 9 (fk bltT)) []):=by
 refine Spec.ofN Tryz.func123 rfl Tryz.ntmps123 rfl ?_
 refine am (ai (bp _ fA) (aj (am (ai (bh _ _ aa rfl ag (by (simp <;> rfl)) ah rfl) ?_))))
 exact kD rfl (aj (aF (qt rfl rfl)))
theorem De:Spec Tryz.prog 126 (ba [.v (bt [43])] []) (aP (.sl (Bo.add).code.length (inl (Bo.add).code)) []):=by
 refine Spec.ofN Tryz.func126 rfl Tryz.ntmps126 rfl ?_
 refine am (ai (bp _ fA) (aj (aq (am (eh rfl (aj (ay (am (ai (aV (r:=true) _ _ Tryz.underlying9 rfl rfl rfl) (cq rfl ?_))))))))))
 refine aj (bJ rfl rfl (am (ai (aL _ aa rfl (by exact eW)) ?_)))
 refine ai (bh _ _ aa rfl ag (by (simp <;> rfl)) ah rfl) ?_
 exact kD rfl (aj (aF (qt rfl rfl)))
theorem Ct:Spec Tryz.prog 126 (ba [.v (bt [45])] []) (aP (.sl (Bo.sub).code.length (inl (Bo.sub).code)) []):=by
 refine Spec.ofN Tryz.func126 rfl Tryz.ntmps126 rfl ?_
 refine am (ai (bp _ fA) (aj (aq (am (eh rfl (aj (ay (am (ai (aV (r:=false) _ _ Tryz.underlying9 rfl rfl rfl) (cq rfl ?_))))))))))
 refine aj (aW rfl rfl (am (ai (aV (r:=true) _ _ Tryz.underlying9 rfl rfl rfl) (cq rfl (aj (bJ rfl rfl (am (ai (aL _ aa rfl (by exact eW)) ?_))))))))
 refine ai (bh _ _ aa rfl ag (by (simp <;> rfl)) ah rfl) ?_
 exact kD rfl (aj (aF (qt rfl rfl)))
theorem Al:Spec Tryz.prog 126 (ba [.v (bt [42])] []) (aP (.sl (Bo.mul).code.length (inl (Bo.mul).code)) []):=by
 refine Spec.ofN Tryz.func126 rfl Tryz.ntmps126 rfl ?_
 refine am (ai (bp _ fA) (aj (aq (am (eh rfl (aj (ay (am (ai (aV (r:=false) _ _ Tryz.underlying9 rfl rfl rfl) (cq rfl ?_))))))))))
 refine aj (aW rfl rfl (am (ai (aV (r:=false) _ _ Tryz.underlying9 rfl rfl rfl) (cq rfl (aj (aW rfl rfl (am (ai (aV (r:=true) _ _ Tryz.underlying9 rfl rfl rfl) (cq rfl (aj ?_))))))))))
 refine bJ rfl rfl (am (ai (aL _ aa rfl (by exact eW)) ?_))
 refine ai (bh _ _ aa rfl ag (by (simp <;> rfl)) ah rfl) ?_
 exact kD rfl (aj (aF (qt rfl rfl)))
theorem Bt:Spec Tryz.prog 126 (ba [.v (bt [47])] []) (aP (.sl (Bo.div).code.length (inl (Bo.div).code)) []):=by
 refine Spec.ofN Tryz.func126 rfl Tryz.ntmps126 rfl ?_
 refine am (ai (bp _ fA) (aj (aq (am (eh rfl (aj (ay (am (ai (aV (r:=false) _ _ Tryz.underlying9 rfl rfl rfl) (cq rfl ?_))))))))))
 refine aj (aW rfl rfl (am (ai (aV (r:=false) _ _ Tryz.underlying9 rfl rfl rfl) (cq rfl (aj (aW rfl rfl (am (ai (aV (r:=false) _ _ Tryz.underlying9 rfl rfl rfl) (cq rfl (aj ?_))))))))))
 refine aW rfl rfl (am (ai (aV (r:=true) _ _ Tryz.underlying9 rfl rfl rfl) (cq rfl (aj (bJ rfl rfl (am (ai (aL _ aa rfl (by exact eW)) ?_)))))))
 refine ai (bh _ _ aa rfl ag (by (simp <;> rfl)) ah rfl) ?_
 exact kD rfl (aj (aF (qt rfl rfl)))
theorem FH:Spec Tryz.prog 126 (ba [.v (bt [60])] []) (aP (.sl (Bo.lt).code.length (inl (Bo.lt).code)) []):=by
 refine Spec.ofN Tryz.func126 rfl Tryz.ntmps126 rfl ?_
 refine am (ai (bp _ fA) (aj (aq (am (eh rfl (aj (ay (am (ai (aV (r:=false) _ _ Tryz.underlying9 rfl rfl rfl) (cq rfl ?_))))))))))
 refine aj (aW rfl rfl (am (ai (aV (r:=false) _ _ Tryz.underlying9 rfl rfl rfl) (cq rfl (aj (aW rfl rfl (am (ai (aV (r:=false) _ _ Tryz.underlying9 rfl rfl rfl) (cq rfl (aj ?_))))))))))
 refine aW rfl rfl (am (ai (aV (r:=false) _ _ Tryz.underlying9 rfl rfl rfl) (cq rfl (aj (aW rfl rfl (am (ai (aV (r:=true) _ _ Tryz.underlying9 rfl rfl rfl) (cq rfl (aj (bJ rfl rfl ?_))))))))))
 refine am (ai (aL _ aa rfl (by exact eW)) ?_)
 refine ai (bh _ _ aa rfl ag (by (simp <;> rfl)) ah rfl) ?_
 exact kD rfl (aj (aF (qt rfl rfl)))
theorem DP:Spec Tryz.prog 126 (ba [.v (bt [60,61])] []) (aP (.sl (Bo.le).code.length (inl (Bo.le).code)) []):=by
 refine Spec.ofN Tryz.func126 rfl Tryz.ntmps126 rfl ?_
 refine am (ai (bp _ fA) (aj (aq (am (eh rfl (aj (ay (am (ai (aV (r:=false) _ _ Tryz.underlying9 rfl rfl rfl) (cq rfl ?_))))))))))
 refine aj (aW rfl rfl (am (ai (aV (r:=false) _ _ Tryz.underlying9 rfl rfl rfl) (cq rfl (aj (aW rfl rfl (am (ai (aV (r:=false) _ _ Tryz.underlying9 rfl rfl rfl) (cq rfl (aj ?_))))))))))
 refine aW rfl rfl (am (ai (aV (r:=false) _ _ Tryz.underlying9 rfl rfl rfl) (cq rfl (aj (aW rfl rfl (am (ai (aV (r:=false) _ _ Tryz.underlying9 rfl rfl rfl) (cq rfl (aj (aW rfl rfl ?_))))))))))
 refine am (ai (aV (r:=true) _ _ Tryz.underlying9 rfl rfl rfl) (cq rfl (aj (bJ rfl rfl (am (ai (aL _ aa rfl (by exact eW)) ?_))))))
 refine ai (bh _ _ aa rfl ag (by (simp <;> rfl)) ah rfl) ?_
 exact kD rfl (aj (aF (qt rfl rfl)))
theorem EU:Spec Tryz.prog 126 (ba [.v (bt [61,61])] []) (aP (.sl (Bo.eq).code.length (inl (Bo.eq).code)) []):=by
 refine Spec.ofN Tryz.func126 rfl Tryz.ntmps126 rfl ?_
 refine am (ai (bp _ fA) (aj (aq (am (eh rfl (aj (ay (am (ai (aV (r:=false) _ _ Tryz.underlying9 rfl rfl rfl) (cq rfl ?_))))))))))
 refine aj (aW rfl rfl (am (ai (aV (r:=false) _ _ Tryz.underlying9 rfl rfl rfl) (cq rfl (aj (aW rfl rfl (am (ai (aV (r:=false) _ _ Tryz.underlying9 rfl rfl rfl) (cq rfl (aj ?_))))))))))
 refine aW rfl rfl (am (ai (aV (r:=false) _ _ Tryz.underlying9 rfl rfl rfl) (cq rfl (aj (aW rfl rfl (am (ai (aV (r:=false) _ _ Tryz.underlying9 rfl rfl rfl) (cq rfl (aj (aW rfl rfl ?_))))))))))
 refine am (ai (aV (r:=false) _ _ Tryz.underlying9 rfl rfl rfl) (cq rfl (aj (aW rfl rfl (am (ai (aV (r:=true) _ _ Tryz.underlying9 rfl rfl rfl) (cq rfl (aj (bJ rfl rfl (aq ?_))))))))))
 refine aM (σ':=aD 45 [] [] [] []) kp ?_
 refine an (ai (aL _ aa rfl (by exact eW)) ?_)
 refine ai (bh _ _ aa rfl ag (by (simp <;> rfl)) ah rfl) ?_
 exact kD rfl (aj (aF (qt rfl rfl)))
theorem EN:Spec Tryz.prog 126 (ba [.v (bt [62])] []) (aP (.sl (Bo.gt).code.length (inl (Bo.gt).code)) []):=by
 refine Spec.ofN Tryz.func126 rfl Tryz.ntmps126 rfl ?_
 refine am (ai (bp _ fA) (aj (aq (am (eh rfl (aj (ay (am (ai (aV (r:=false) _ _ Tryz.underlying9 rfl rfl rfl) (cq rfl ?_))))))))))
 refine aj (aW rfl rfl (am (ai (aV (r:=false) _ _ Tryz.underlying9 rfl rfl rfl) (cq rfl (aj (aW rfl rfl (am (ai (aV (r:=false) _ _ Tryz.underlying9 rfl rfl rfl) (cq rfl (aj ?_))))))))))
 refine aW rfl rfl (am (ai (aV (r:=false) _ _ Tryz.underlying9 rfl rfl rfl) (cq rfl (aj (aW rfl rfl (am (ai (aV (r:=false) _ _ Tryz.underlying9 rfl rfl rfl) (cq rfl (aj (aW rfl rfl ?_))))))))))
 refine am (ai (aV (r:=false) _ _ Tryz.underlying9 rfl rfl rfl) (cq rfl (aj (aW rfl rfl (am (ai (aV (r:=false) _ _ Tryz.underlying9 rfl rfl rfl) (cq rfl (aj (aW rfl rfl (aq ?_))))))))))
 refine aM (σ':=aD 45 [(3,_)] [] [] []) kp ?_
 refine an (ai (aV (r:=true) _ _ Tryz.underlying9 rfl rfl rfl) (cq rfl (aj (bJ rfl rfl (am (ai (aL _ aa rfl (by exact eW)) ?_))))))
 refine ai (aL _ aa rfl (by exact eW)) ?_
 refine ai (bh _ _ aa rfl ag (by (simp <;> rfl)) ah rfl) ?_
 exact kD rfl (aj (aF (qt rfl rfl)))
theorem Eh:Spec Tryz.prog 126 (ba [.v (bt [62,61])] []) (aP (.sl (Bo.ge).code.length (inl (Bo.ge).code)) []):=by
 refine Spec.ofN Tryz.func126 rfl Tryz.ntmps126 rfl ?_
 refine am (ai (bp _ fA) (aj (aq (am (eh rfl (aj (ay (am (ai (aV (r:=false) _ _ Tryz.underlying9 rfl rfl rfl) (cq rfl ?_))))))))))
 refine aj (aW rfl rfl (am (ai (aV (r:=false) _ _ Tryz.underlying9 rfl rfl rfl) (cq rfl (aj (aW rfl rfl (am (ai (aV (r:=false) _ _ Tryz.underlying9 rfl rfl rfl) (cq rfl (aj ?_))))))))))
 refine aW rfl rfl (am (ai (aV (r:=false) _ _ Tryz.underlying9 rfl rfl rfl) (cq rfl (aj (aW rfl rfl (am (ai (aV (r:=false) _ _ Tryz.underlying9 rfl rfl rfl) (cq rfl (aj (aW rfl rfl ?_))))))))))
 refine am (ai (aV (r:=false) _ _ Tryz.underlying9 rfl rfl rfl) (cq rfl (aj (aW rfl rfl (am (ai (aV (r:=false) _ _ Tryz.underlying9 rfl rfl rfl) (cq rfl (aj (aW rfl rfl (aq ?_))))))))))
 refine aM (σ':=aD 45 [(3,_)] [] [] []) kp ?_
 refine an (ai (aV (r:=false) _ _ Tryz.underlying9 rfl rfl rfl) (cq rfl (aj (aW rfl rfl (am (ai (aV (r:=true) _ _ Tryz.underlying9 rfl rfl rfl) (cq rfl (aj (bJ rfl rfl (am ?_))))))))))
 refine ai (aL _ aa rfl (by exact eW)) ?_
 refine ai (aL _ aa rfl (by exact eW)) ?_
 refine ai (bh _ _ aa rfl ag (by (simp <;> rfl)) ah rfl) ?_
 exact kD rfl (aj (aF (qt rfl rfl)))
theorem El:Spec Tryz.prog 126 (ba [.v (bt [33,61])] []) (aP (.sl (Bo.ne).code.length (inl (Bo.ne).code)) []):=by
 refine Spec.ofN Tryz.func126 rfl Tryz.ntmps126 rfl ?_
 refine am (ai (bp _ fA) (aj (aq (am (eh rfl (aj (ay (am (ai (aV (r:=false) _ _ Tryz.underlying9 rfl rfl rfl) (cq rfl ?_))))))))))
 refine aj (aW rfl rfl (am (ai (aV (r:=false) _ _ Tryz.underlying9 rfl rfl rfl) (cq rfl (aj (aW rfl rfl (am (ai (aV (r:=false) _ _ Tryz.underlying9 rfl rfl rfl) (cq rfl (aj ?_))))))))))
 refine aW rfl rfl (am (ai (aV (r:=false) _ _ Tryz.underlying9 rfl rfl rfl) (cq rfl (aj (aW rfl rfl (am (ai (aV (r:=false) _ _ Tryz.underlying9 rfl rfl rfl) (cq rfl (aj (aW rfl rfl ?_))))))))))
 refine am (ai (aV (r:=false) _ _ Tryz.underlying9 rfl rfl rfl) (cq rfl (aj (aW rfl rfl (am (ai (aV (r:=false) _ _ Tryz.underlying9 rfl rfl rfl) (cq rfl (aj (aW rfl rfl (aq ?_))))))))))
 refine aM (σ':=aD 45 [(3,_)] [] [] []) kp ?_
 refine an (ai (aV (r:=false) _ _ Tryz.underlying9 rfl rfl rfl) (cq rfl (aj (aW rfl rfl (am (ai (aV (r:=false) _ _ Tryz.underlying9 rfl rfl rfl) (cq rfl (aj (aW rfl rfl (cu ?_))))))))))
 refine am (ai (aL _ aa rfl (by exact eW)) ?_)
 refine ai (aL _ aa rfl (by exact eW)) ?_
 refine ai (bh _ _ aa rfl ag (by (simp <;> rfl)) ah rfl) ?_
 exact kD rfl (aj (aF (qt rfl rfl)))
theorem yq (o:Bo):Spec Tryz.prog 126 (ba [.v (bt o.txt)] []) (aP (.sl o.code.length (inl o.code)) []):=by
 cases o
 ·exact De
 ·exact Ct
 ·exact Al
 ·exact Bt
 ·exact FH
 ·exact DP
 ·exact EU
 ·exact EN
 ·exact Eh
 exact El

abbrev Cd:=Nat→List eT
abbrev CoS (u:AV) (d:Nd) (c:Cd):Prop:= ∀ a,a+(c a).length≤1000000→Spec Tryz.prog 91 (ba [u,pi d, .v (.int .i64 (a:Int))] []) (aP (.ref (0,8) 0 (c a).length) [((0,8), .row 48 2 (inl (c a)))])
def cW:List Cd→Nat→List eT
 | [],_=> []
 | c::cs,a=> c a++cW cs (a+(c a).length)
theorem qI: ∀ (l m:List Cd) (a:Nat),cW (l++m) a=cW l a++cW m (a+(cW l a).length)
 | [],m,a=> by simp [cW]
 | c::l,m,a=> by simp only [List.cons_append,cW,qI l m,List.append_assoc,List.length_append,Nat.add_assoc]
theorem xS {cs:List Cd} {j a:Nat} (h:j < cs.length):cW (cs.take (j+1)) a=cW (cs.take j) a++(cs.getD j fun _=> []) (a+(cW (cs.take j) a).length):=by
 rw [List.take_succ_eq_append_getElem h,qI]
 simp [cW,h]
theorem rD {cs:List Cd} {j a:Nat}:(cW (cs.take j) a).length≤(cW cs a).length:=by
 conv=> rhs;rw [← List.take_append_drop j cs,qI]
 rw [List.length_append];omega
abbrev mL (u:AV) (L:List Nd) (cs:List Cd):Prop:= ∀ j,j < L.length→CoS u (lf L j) (cs.getD j fun _=> [])
theorem EX {u:AV}:mL u [] []:=fun j hj=> by simp at hj
theorem yD {u:AV} {d:Nd} {c:Cd} {L:List Nd} {cs:List Cd} (h:CoS u d c) (h':mL u L cs):mL u (d::L) (c::cs):=fun j hj=> by
 cases j with
 | zero=> exact h
 | succ j=> exact h' j (by simpa using hj)
section
variable {d v:List Tx} {no:Nat} {on:List PV}
abbrev uu (d v:List Tx) (no:Nat) (on:List PV):AV:= .agg [.sl d.length (fk d), .sl v.length (fk v), .sl no on]
theorem dJ (L:List Nd) (cs:List Cd) (hc:cs.length=L.length) (hk:mL (uu d v no on) L cs) (a:Nat) (ha:a+(cW cs a).length≤1000000):
  Spec Tryz.prog 125 (ba [uu d v no on, .sl L.length (mE L), .v (.int .i64 (a:Int))] []) (aP (.ref (0,8) 0 (cW cs a).length) [((0,8), .row 48 2 (inl (cW cs a)))]):=by
 refine Spec.ofN Tryz.func125 rfl Tryz.ntmps125 rfl ?_
 refine aq ?_
 refine GG 1 rfl rfl fun hlen=> ?_
 unfold maxLen at hlen
 refine an (ai (aQ (3,0) _ rfl rfl) (ai (bp _ fA) (aj (am (ai (tA (7,0) _ 48 2 rfl rfl) ?_)))))
 refine aj (aU fun K3 hK3=> ?_)
 refine am (be rfl (aj (ay ?_)))
 refine bs (α:=Nat) (fun j=> j≤L.length) 28 [(1,_),(2,_),(3,_)] [((3,0),_)] (fun j=> [(8, .v (.int .i64 (j:Int))),(7, .ref (7,0) 0 (cW (cs.take j) a).length)]) (fun j=> [((7,0), .row 48 2 (inl (cW (cs.take j) a)))]) [] [] (fun j=> L.length - j) 0 ?_ (by
  refine Le.mkJ [] [] rfl ?_ ?_ trivial trivial ?_
  ·exact ⟨(iS rfl),(iV rfl),(iP rfl),(cj ag),(cP rfl ag),trivial⟩
  ·exact ⟨(cp rfl rfl rfl),(fi rfl rfl rfl ag),trivial⟩
  kernel_rfl) ?_
 ·omega
 intro j hj
 have htk:(cW (cs.take j) a).length≤(cW cs a).length:=rD
 refine aU fun K5 hK5=> ?_
 refine am (aX rfl (eQ rfl (ai (bo _ aa rfl) (ai (bm _ _ rfl rfl rfl) (aj (aR rfl (fun hc12=> ?_) (fun hc12=> ?_)))))))
 ·skip
  have hs:=xS (cs:=cs) (j:=j) (a:=a) ab
  have htk1:(cW (cs.take (j+1)) a).length≤(cW cs a).length:=rD
  have hsl:=congrArg List.length hs
  rw [List.length_append] at hsl
  have hcj:=hk j ab (a+(cW (cs.take j) a).length) ab
  generalize (cs.getD j fun _=> []) (a+(cW (cs.take j) a).length)=C at hs hsl hcj
  refine bq (hK5 _ ?_)
  clear hK5;try clear K5
  refine aq (ay ?_)
  refine aM (σ':=aD 28 [(1,_),(2,_),(3,_),(7,_),(8,_)] [((3,0),_),((7,0),_)] [] []) kp ?_
  refine bL 11 [15,16,17,18,19,20,21,22,23,24,25] [(50,0)] ae ae rfl (aK rfl) (rfl:_=[_,_,_,_,_,_,_,_,_,_,_]) (rfl:_=[_,_]) ?_
  refine ap (_,[]) (fun τ=> aH _ dT) ?_
  refine fN rfl ?_
  refine ap (_,[]) (fun τ=> az _ aa rfl rfl rfl rfl) ?_
  refine fO rfl ?_
  refine ap (_,[]) (fun τ=> aH _ nf) ?_
  refine fS rfl ?_
  refine ap (_,[]) (fun τ=> aH _ ea) ?_
  refine fY rfl ?_
  refine ap (_,[]) (fun τ=> bn _ _ aa rfl rfl _ rfl ab (by (simp only [aN,bg,bj,bv,bu,bG,bw,bM];omega)) ag) ?_
  refine gz rfl ?_
  refine ap (_,[]) (fun τ=> cf _ aa rfl (by exact cO _ _ ab) rfl) ?_
  refine hZ rfl ?_
  refine ap (_,[]) (fun τ=> aH _ ea) ?_
  refine iX rfl ?_
  refine ap (_,[]) (fun τ=> aH _ dT) ?_
  refine jU rfl ?_
  refine ap (_,[]) (fun τ=> dg _ aa rfl rfl) ?_
  refine kC rfl ?_
  refine ap (_,[]) (fun τ=> aZ _ _ rfl rfl (bD ab)) ?_
  refine fW rfl ?_
  refine ap (_,[((50,0),_)]) (fun τ=> (bW aa [((0,8),(50,0))] ar (hcj.toI) trivial tr tr rfl rfl ae ae)) ?_
  refine gI rfl (bl ⟨rfl,?_⟩)
  refine ai (du (26,0) _ _ aa rfl rfl (bM _).symm (.ref rfl (nc _) (lp _)) ab rfl (lT _ _) hsl.symm) ?_
  refine fh rfl (ee (an (aX rfl (ai (aZ _ _ rfl rfl (bD ab)) ?_))))
  refine be rfl (aJ (⟨j+1,?_,?_,?_⟩))
  ·omega
  ·skip
   refine Le.mkJ [((7,0),(26,0))] [] rfl ?_ ?_ trivial trivial ?_
   ·exact ⟨(by repeat' (exact Lv.sl)),(by repeat' (exact Lv.v)),(dI (id:=(3,0)) rfl),(cj ag),(cP rfl ag),trivial⟩
   ·exact ⟨(fq rfl rfl rfl rfl (by repeat' (first | exact Lv.sl | exact bf | refine au ?_ ?_))),(fi rfl rfl rfl (by (rw [hs]))),trivial⟩
   kernel_rfl
  omega
 obtain rfl:j=cs.length:=by omega
 rw [List.take_length]
 refine bC (id (hK3 _ ?_))
 clear hK3;try clear K3
 exact am (gF rfl (fh rfl (aj (aF (bH (.inr rfl) rfl (.tmp dT) (Le.out [((0,8),(7,0))] [] (cP rfl rfl) rfl rfl rfl trivial ob))))))
theorem pJ (N:Nd) (c:Cd) (h:CoS (uu d v no on) N c) (n:Int) (a:Nat) (ha:a+(c a).length≤1000000):
  Spec Tryz.prog 187 (ba [uu d v no on, .sl 1 (mE [N]), .v (.int .i64 n), .v (.int .i64 (a:Int))] []) (aP (.ref (0,8) 0 (c a).length) [((0,8), .row 48 2 (inl (c a)))]):=by
 have hc:=h a ha
 refine Spec.ofN Tryz.func187 rfl Tryz.ntmps187 rfl ?_
 refine am (ai (aQ (4,0) _ rfl rfl) (ai (bp _ fA) (aj (aq (am (eQ rfl (ai (bo _ aa rfl) (ai (fU _ _ rfl rfl rfl) (aj (bJ rfl rfl ?_))))))))))
 refine aq ?_
 refine aM (σ':=aD 21 [(1,_),(3,_),(4,_)] [((4,0),_)] [] []) kp ?_
 refine bL 5 [12,13,14,15,16] [] ae ae rfl (aK rfl) (rfl:_=[_,_,_,_,_]) (rfl:_=[_,_]) ?_
 refine ap (_,[]) (fun τ=> az _ aa rfl rfl rfl rfl) ?_
 refine fN rfl ?_
 refine ap (_,[]) (fun τ=> aH _ nf) ?_
 refine fO rfl ?_
 refine ap (_,[]) (fun τ=> bn _ _ aa rfl rfl 0 rfl ab (by simp [mE,Nd.row]) rfl) ?_
 refine fS rfl ?_
 refine ap (_,[]) (fun τ=> cf _ aa rfl (by exact cO [N] 0 (by simp)) rfl) ?_
 refine fY rfl ?_
 refine ap (_,[]) (fun τ=> aH _ ea) ?_
 refine gz rfl (bl ⟨rfl,?_⟩)
 refine ai (ci aa [((0,8),(50,0))] ar (hc.toI) trivial tr ae) ?_
 exact fh rfl (aj (aF (bH (.inr rfl) rfl (.tmp dT) (Le.out [((0,8),(50,0))] [] (cP rfl rfl) rfl rfl rfl trivial ob))))
theorem ub (n:Int) (a:Nat):
  Spec Tryz.prog 187 (ba [uu d v no on, .sl 0 [], .v (.int .i64 n), .v (.int .i64 (a:Int))] []) (aP (.ref (0,8) 0 1) [((0,8), .row 48 2 (inl [{ op:= .push,n:=n }]))]):=by
 refine Spec.ofN Tryz.func187 rfl Tryz.ntmps187 rfl ?_
 refine am (ai (aQ (4,0) _ rfl rfl) (ai (bp _ fA) (aj (aq (am (eQ rfl (ai (bo _ aa rfl) (ai (fU _ _ rfl rfl rfl) (aj (aW rfl rfl ?_))))))))))
 refine aS (am (aX rfl (ai (aL _ aa rfl (by exact eW)) ?_)))
 refine ai (ky (20,0) _ _ aa rfl ag (by (simp <;> rfl)) ah rfl rfl) ?_
 exact fh rfl (aj (aF (bH (.inr rfl) rfl (.tmp dT) (Le.out [((0,8),(20,0))] [] (cP rfl rfl) rfl rfl rfl trivial ob))))
def Gq (c y z:Cd) (a:Nat):List eT:=
 c a++[{ op:= .unl,n:=((a+(c a).length+1+(y (a+(c a).length+1)).length+1:Nat):Int) }]++y (a+(c a).length+1)++
  [{ op:= .jump,n:=((a+(c a).length+1+(y (a+(c a).length+1)).length+1+(z (a+(c a).length+1+(y (a+(c a).length+1)).length+1)).length:Nat):Int) }]++z (a+(c a).length+1+(y (a+(c a).length+1)).length+1)
abbrev NC (u:AV) (l:AV) (n:Int) (c:Cd):Prop:= ∀ a,a+(c a).length≤1000000→Spec Tryz.prog 187 (ba [u,l, .v (.int .i64 n), .v (.int .i64 (a:Int))] []) (aP (.ref (0,8) 0 (c a).length) [((0,8), .row 48 2 (inl (c a)))])
theorem lB (N:Nd) (c y z:Cd) (hc:CoS (uu d v no on) N c) (ly lz:Nat) (ys zs:List PV) (n:Int) (hy:NC (uu d v no on) (.sl ly ys) n y) (hz:NC (uu d v no on) (.sl lz zs) n z) (a:Nat) (ha:a+(Gq c y z a).length≤1000000):
  Spec Tryz.prog 124 (ba [uu d v no on,pi N, .sl ly ys, .sl lz zs, .v (.int .i64 n), .v (.int .i64 (a:Int))] []) (aP (.ref (0,8) 0 (Gq c y z a).length) [((0,8), .row 48 2 (inl (Gq c y z a)))]):=by
 have hb: ∃ b,b=Gq c y z a:=⟨_,rfl⟩
 obtain ⟨b,hb⟩:=hb
 rw [← hb] at ha ⊢
 unfold Gq at hb
 have hbl:=congrArg List.length hb
 simp only [List.length_append,List.length_cons,List.length_nil] at hbl
 have h1:=hc a ab
 generalize c a=C at h1 hb hbl
 have h2:=hy (a+C.length+1) ab
 generalize y (a+C.length+1)=Y at h2 hb hbl
 obtain ⟨f,hf⟩: ∃ f,f=a+C.length+1+Y.length+1:=⟨_,rfl⟩
 rw [← hf] at hb hbl
 have h3:=hz f ab
 generalize z f=Z at h3 hb hbl
 refine Spec.ofN Tryz.func124 rfl Tryz.ntmps124 rfl ?_
 refine am (ai (aQ (6,0) _ rfl rfl) (ai (aQ (7,0) _ rfl rfl) (ai (bp _ fA) (aj (am (ai (az _ aa rfl rfl rfl rfl) (ai (az _ aa rfl rfl rfl rfl) (aX rfl (ai (ci aa [((0,8),(50,0))] ar (h1.toI) trivial tr ae) ?_)))))))))
 refine fh rfl (aj (aU fun K3 hK3=> ?_))
 refine an (ai (az _ aa rfl rfl rfl rfl) (eQ rfl (aX rfl (aX rfl (gF rfl (ai (dg _ aa rfl rfl) (ai (aZ _ _ rfl rfl (bD ab)) ?_)))))))
 refine ai (aZ _ _ rfl rfl (bD ab)) ?_
 refine ai (ci aa [((0,8),(51,0))] ar (h2.toI) trivial tr ae) ?_
 refine fh rfl (aJ (hK3 _ ?_))
 clear hK3;try clear K3
 refine aq ?_
 refine aM (σ':=aD 63 [(3,_),(4,_),(5,_),(6,_),(13,_),(14,_)] [((6,0),_),((50,0),_),((51,0),_)] [] []) kp ?_
 refine an (aX rfl (gF rfl (ai (dg _ aa rfl rfl) (ai (aZ _ _ rfl rfl (bD ab)) ?_))))
 refine ai (aZ _ _ rfl rfl (bD ab)) ?_
 refine gF rfl (ai (dg _ aa rfl rfl) (ai (aZ _ _ rfl rfl (bD ab)) ?_))
 refine ai (aZ (r:=(f:Int)) _ _ rfl rfl ((bD ab).trans ab)) ?_
 refine be rfl (aj (aU fun K5 hK5=> ?_))
 refine an (ai (az _ aa rfl rfl rfl rfl) (eQ rfl (aX rfl (aX rfl (ai (ci aa [((0,8),(52,0))] ar (h3.toI) trivial tr ae) ?_)))))
 refine fh rfl (aJ (hK5 _ ?_))
 clear hK5;try clear K5
 refine aq ?_
 refine aM (σ':=aD 63 [(13,_),(14,_),(15,_),(16,_)] [((50,0),_),((51,0),_),((52,0),_)] [] []) kp ?_
 refine an (gF rfl (aX rfl (ai (aL _ aa rfl (by exact eW)) ?_)))
 refine ai (bh _ _ aa rfl ag (by (simp <;> rfl)) ah rfl) ?_
 refine ai (du (48,0) _ _ aa rfl rfl (bM _).symm (.sl rfl) ab rfl (fj _ { op:= .unl,n:=f }) (show C.length+1=(C++[({ op:= .unl,n:=f }:eT)]).length by simp)) ?_
 refine fh rfl (aj (am (gF rfl (gF rfl (ai (du (51,1) _ _ aa rfl rfl (bM _).symm (.ref rfl (nc _) (lp _)) (by simp;omega) rfl (lT _ _) (show (C++[({ op:= .unl,n:=f }:eT)]).length+Y.length=(C++[({ op:= .unl,n:=f }:eT)]++Y).length by simp;omega)) ?_)))))
 refine fh rfl (aj (am (gF rfl (aX rfl (gF rfl (ai (dg _ aa rfl rfl) (ai (aZ _ _ rfl rfl (bD ab)) ?_)))))))
 refine ai (aL _ aa rfl (by exact eW)) ?_
 refine ai (bh _ _ aa rfl ag (by (simp <;> rfl)) ah rfl) ?_
 refine ai (du (59,0) _ _ aa rfl rfl (bM _).symm (.sl rfl) (by simp;omega) rfl (fj _ { op:= .jump,n:=((f+Z.length:Nat):Int) }) (show (C++[({ op:= .unl,n:=f }:eT)]++Y).length+1=(C++[({ op:= .unl,n:=f }:eT)]++Y++[({ op:= .jump,n:=((f+Z.length:Nat):Int) }:eT)]).length by simp;omega)) ?_
 refine fh rfl (aj (aq ?_))
 refine aM (σ':=aD 63 [(13,_),(16,_)] [((52,0),_),((59,0),_)] [] []) kp ?_
 refine an (gF rfl (gF rfl (ai (du (62,0) _ _ aa rfl rfl (bM _).symm (.ref rfl (nc _) (lp _)) (by simp;omega) rfl ((lT _ _).trans (congrArg inl hb.symm)) (show _+Z.length=b.length by simp;omega)) ?_)))
 exact fh rfl (aj (aF (bH (.inr rfl) rfl (.tmp dT) (Le.out [((0,8),(62,0))] [] (cP rfl rfl) rfl rfl rfl trivial ob))))
end

section
variable {d v:List Tx} {no:Nat} {on:List PV}
theorem HW (n:Nat):CoS (uu d v no on) (nd 12 n [] []) (fun _=> [{ op:= .push,n:=(n:Int) }]):=fun a ha=> by
 refine Spec.ofN Tryz.func91 rfl Tryz.ntmps91 rfl ?_
 refine am (ai (aQ (3,0) _ rfl rfl) (ai (aQ (4,0) _ rfl rfl) (ai (bp _ fA) (aj (aq (am (bb rfl rfl rfl (ca rfl rfl rfl (aj (ay ?_))))))))))
 refine aq (iE rfl rfl rfl rfl rfl (aS (bJ rfl rfl (am (bb rfl rfl rfl (ca rfl rfl rfl (ai (aL _ aa rfl (by exact eW)) ?_)))))))
 refine ai (ky (19,0) _ _ aa rfl ag (by (simp <;> rfl)) ah rfl rfl) ?_
 exact fh rfl (aj (aF (bH (.inr rfl) rfl (.tmp dT) (Le.out [((0,8),(19,0))] [] (cP rfl rfl) rfl rfl rfl trivial ob))))
theorem wU (n:Nat):CoS (uu d v no on) (nd 13 n [] []) (fun _=> [{ op:= .push,n:=(n:Int) }]):=fun a ha=> by
 refine Spec.ofN Tryz.func91 rfl Tryz.ntmps91 rfl ?_
 refine am (ai (aQ (3,0) _ rfl rfl) (ai (aQ (4,0) _ rfl rfl) (ai (bp _ fA) (aj (aq (am (bb rfl rfl rfl (ca rfl rfl rfl (aj (ay ?_))))))))))
 refine aq (cJ rfl rfl rfl rfl rfl (zn rfl rfl rfl rfl rfl (am (bb rfl rfl rfl (ca rfl rfl rfl (ai (aL _ aa rfl (by exact eW)) ?_))))))
 refine ai (ky (19,0) _ _ aa rfl ag (by (simp <;> rfl)) ah rfl rfl) ?_
 exact fh rfl (aj (aF (bH (.inr rfl) rfl (.tmp dT) (Le.out [((0,8),(19,0))] [] (cP rfl rfl) rfl rfl rfl trivial ob))))
theorem Hk (hn:(d++v).Nodup) (hl:(d++v).length≤1000) (i:Nat) (hi:i < (d++v).length):CoS (uu d v no on) (nd 14 0 ((d++v).getD i []) []) (fun _=> [{ op:= .var,n:=(i:Int) }]):=fun a ha=> by
 refine Spec.ofN Tryz.func91 rfl Tryz.ntmps91 rfl ?_
 refine am (ai (aQ (3,0) _ rfl rfl) (ai (aQ (4,0) _ rfl rfl) (ai (bp _ fA) (aj (aq (am (bb rfl rfl rfl (ca rfl rfl rfl (aj (ay ?_))))))))))
 refine aq (cJ rfl rfl rfl rfl rfl (dY rfl rfl rfl rfl rfl (iE rfl rfl rfl rfl rfl (am (ai (az _ aa rfl rfl rfl rfl) (bb rfl rfl rfl (ai (aG _ aa rfl rfl fw) (ai (aI aa al (mz d v on no hn hl i hi) rfl rfl) ?_))))))))
 refine ai (aL _ aa rfl (by exact eW)) ?_
 refine ai (ky (27,0) _ _ aa rfl ag (by (simp <;> rfl)) ah rfl rfl) ?_
 exact fh rfl (aj (aF (bH (.inr rfl) rfl (.tmp dT) (Le.out [((0,8),(27,0))] [] (cP rfl rfl) rfl rfl rfl trivial ob))))
theorem Fe (k:Nat) (hk:k < 9):CoS (uu d v no on) (nd 15 0 (bltT.getD k []) []) (fun _=> [{ op:= .name,n:=(k:Int) }]):=fun a ha=> by
 refine Spec.ofN Tryz.func91 rfl Tryz.ntmps91 rfl ?_
 refine am (ai (aQ (3,0) _ rfl rfl) (ai (aQ (4,0) _ rfl rfl) (ai (bp _ fA) (aj (aq (am (bb rfl rfl rfl (ca rfl rfl rfl (aj (ay ?_))))))))))
 refine aq (cJ rfl rfl rfl rfl rfl (dY rfl rfl rfl rfl rfl (cJ rfl rfl rfl rfl rfl (iE rfl rfl rfl rfl rfl (aq ?_)))))
 refine aM (σ':=aD 211 [(4,_)] [((4,0),_)] [] []) kp ?_
 refine bL 6 [30,31,32,33,34,35] [(35,0)] ae ae rfl (aK rfl) (rfl:_=[_,_,_,_,_,_]) (rfl:_=[_]) ?_
 refine ap (_,[]) (fun τ=> (aI aa (by repeat' (exact cV)) (pu) rfl rfl)) ?_
 refine fN rfl ?_
 refine ap (_,[]) (fun τ=> aE _ aa rfl rfl rfl) ?_
 refine fO rfl ?_
 refine ap (_,[]) (fun τ=> aG _ aa rfl rfl fw) ?_
 refine fS rfl ?_
 refine ap (_,[]) (fun τ=> (aI aa al (xF bltT 9 rfl ab ah k hk) rfl rfl)) ?_
 refine fY rfl ?_
 refine ap (_,[]) (fun τ=> aL _ aa rfl (by exact eW)) ?_
 refine gz rfl ?_
 refine ap (_,[((35,0),_)]) (fun τ=> ky (35,0) _ _ aa rfl ag (by (simp <;> rfl)) ah rfl rfl) ?_
 refine hZ rfl (bl ⟨rfl,?_⟩)
 exact fh rfl (aj (aF (bH (.inr rfl) rfl (.tmp dT) (Le.out [((0,8),(35,0))] [] (cP rfl rfl) rfl rfl rfl trivial ob))))
theorem Ae (n:Nat):CoS (uu d v no on) (nd 5 n [] []) (fun _=> [{ op:= .timer,n:=(n:Int) }]):=fun a ha=> by
 refine Spec.ofN Tryz.func91 rfl Tryz.ntmps91 rfl ?_
 refine am (ai (aQ (3,0) _ rfl rfl) (ai (aQ (4,0) _ rfl rfl) (ai (bp _ fA) (aj (aq (am (bb rfl rfl rfl (ca rfl rfl rfl (aj (ay ?_))))))))))
 refine aq (cJ rfl rfl rfl rfl rfl (dY rfl rfl rfl rfl rfl ?_))
 iterate 3 refine cJ rfl rfl rfl rfl rfl ?_
 refine aq ?_
 refine aM (σ':=aD 211 [(2,_),(3,_),(4,_),(12,_)] [((3,0),_),((4,0),_)] [] []) kp ?_
 refine zn rfl rfl rfl rfl rfl (am (bb rfl rfl rfl (ca rfl rfl rfl (ai (aL _ aa rfl (by exact eW)) ?_))))
 refine ai (ky (56,0) _ _ aa rfl ag (by (simp <;> rfl)) ah rfl rfl) ?_
 exact fh rfl (aj (aF (bH (.inr rfl) rfl (.tmp dT) (Le.out [((0,8),(56,0))] [] (cP rfl rfl) rfl rfl rfl trivial ob))))
theorem yS (n:Nat):CoS (uu d v no on) (nd 6 n [] []) (fun _=> [{ op:= .cancel,n:=(n:Int) }]):=fun a ha=> by
 refine Spec.ofN Tryz.func91 rfl Tryz.ntmps91 rfl ?_
 refine am (ai (aQ (3,0) _ rfl rfl) (ai (aQ (4,0) _ rfl rfl) (ai (bp _ fA) (aj (aq (am (bb rfl rfl rfl (ca rfl rfl rfl (aj (ay ?_))))))))))
 refine aq (cJ rfl rfl rfl rfl rfl (dY rfl rfl rfl rfl rfl ?_))
 iterate 3 refine cJ rfl rfl rfl rfl rfl ?_
 refine aq ?_
 refine aM (σ':=aD 211 [(2,_),(3,_),(4,_),(12,_)] [((3,0),_),((4,0),_)] [] []) kp ?_
 refine dY rfl rfl rfl rfl rfl (iE rfl rfl rfl rfl rfl (am (bb rfl rfl rfl (ca rfl rfl rfl (ai (aL _ aa rfl (by exact eW)) ?_)))))
 refine ai (ky (62,0) _ _ aa rfl ag (by (simp <;> rfl)) ah rfl rfl) ?_
 exact fh rfl (aj (aF (bH (.inr rfl) rfl (.tmp dT) (Le.out [((0,8),(62,0))] [] (cP rfl rfl) rfl rfl rfl trivial ob))))
theorem co_sync:CoS (uu d v no on) (nd 7 0 [] []) (fun _=> [{ op:= .sync }]):=fun a ha=> by
 refine Spec.ofN Tryz.func91 rfl Tryz.ntmps91 rfl ?_
 refine am (ai (aQ (3,0) _ rfl rfl) (ai (aQ (4,0) _ rfl rfl) (ai (bp _ fA) (aj (aq (am (bb rfl rfl rfl (ca rfl rfl rfl (aj (ay ?_))))))))))
 refine aq (cJ rfl rfl rfl rfl rfl (dY rfl rfl rfl rfl rfl ?_))
 iterate 3 refine cJ rfl rfl rfl rfl rfl ?_
 refine aq ?_
 refine aM (σ':=aD 211 [(2,_),(3,_),(4,_),(12,_)] [((3,0),_),((4,0),_)] [] []) kp ?_
 refine dY rfl rfl rfl rfl rfl (cJ rfl rfl rfl rfl rfl (iE rfl rfl rfl rfl rfl (am (ai (aL _ aa rfl (by exact eW)) ?_))))
 refine ai (ky (66,0) _ _ aa rfl ag (by (simp <;> rfl)) ah rfl rfl) ?_
 exact fh rfl (aj (aF (bH (.inr rfl) rfl (.tmp dT) (Le.out [((0,8),(66,0))] [] (cP rfl rfl) rfl rfl rfl trivial ob))))
theorem co_stop:CoS (uu d v no on) (nd 10 0 [] []) (fun _=> [{ op:= .stop }]):=fun a ha=> by
 refine Spec.ofN Tryz.func91 rfl Tryz.ntmps91 rfl ?_
 refine am (ai (aQ (3,0) _ rfl rfl) (ai (aQ (4,0) _ rfl rfl) (ai (bp _ fA) (aj (aq (am (bb rfl rfl rfl (ca rfl rfl rfl (aj (ay ?_))))))))))
 refine aq (cJ rfl rfl rfl rfl rfl (dY rfl rfl rfl rfl rfl ?_))
 iterate 3 refine cJ rfl rfl rfl rfl rfl ?_
 refine aq ?_
 refine aM (σ':=aD 211 [(2,_),(3,_),(4,_),(12,_)] [((3,0),_),((4,0),_)] [] []) kp ?_
 refine dY rfl rfl rfl rfl rfl ?_
 iterate 2 refine cJ rfl rfl rfl rfl rfl ?_
 refine iE rfl rfl rfl rfl rfl (am (ai (aL _ aa rfl (by exact eW)) ?_))
 refine ai (ky (70,0) _ _ aa rfl ag (by (simp <;> rfl)) ah rfl rfl) ?_
 exact fh rfl (aj (aF (bH (.inr rfl) rfl (.tmp dT) (Le.out [((0,8),(70,0))] [] (cP rfl rfl) rfl rfl rfl trivial ob))))
theorem It {c y z:Nd} {cc cy cz:Cd} (hc:CoS (uu d v no on) c cc) (hy:CoS (uu d v no on) y cy) (hz:CoS (uu d v no on) z cz):CoS (uu d v no on) (nd 2 0 [] [c,y,z]) (Gq cc cy cz):=fun a ha=> by
 have hb:=lB (on:=on) c cc cy cz hc 1 1 (mE [y]) (mE [z]) 0 (fun a ha=> pJ y cy hy 0 a ha) (fun a ha=> pJ z cz hz 0 a ha) a ha
 refine Spec.ofN Tryz.func91 rfl Tryz.ntmps91 rfl ?_
 refine am (ai (aQ (3,0) _ rfl rfl) (ai (aQ (4,0) _ rfl rfl) (ai (bp _ fA) (aj (aq (am (bb rfl rfl rfl (ca rfl rfl rfl (aj (ay ?_))))))))))
 refine aq (cJ rfl rfl rfl rfl rfl (dY rfl rfl rfl rfl rfl ?_))
 iterate 2 refine cJ rfl rfl rfl rfl rfl ?_
 refine iE rfl rfl rfl rfl rfl (aq ?_)
 refine aM (σ':=aD 211 [(2,_),(3,_),(4,_)] [((3,0),_),((4,0),_)] [] []) kp ?_
 refine bL 12 [38,39,40,41,42,43,44,45,46,47,48,49] [] ae ae rfl (aK rfl) (rfl:_=[_,_,_,_,_,_,_,_,_,_,_,_]) (rfl:_=[_,_]) ?_
 refine ap (_,[]) (fun τ=> az _ aa rfl rfl rfl rfl) ?_
 refine fN rfl ?_
 refine ap (_,[]) (fun τ=> aE _ aa rfl rfl rfl) ?_
 refine fO rfl ?_
 refine ap (_,[]) (fun τ=> aG _ aa rfl rfl eC) ?_
 refine fS rfl ?_
 refine ap (_,[]) (fun τ=> bn _ _ aa rfl rfl 0 rfl (show 0 < 3 by omega) (Nat.le_of_ble_eq_true rfl) rfl) ?_
 refine fY rfl ?_
 refine ap (_,[]) (fun τ=> cf _ aa rfl (by exact cO [c,y,z] 0 (by simp)) rfl) ?_
 refine gz rfl ?_
 refine ap (_,[]) (fun τ=> aE _ aa rfl rfl rfl) ?_
 refine hZ rfl ?_
 refine ap (_,[]) (fun τ=> aG _ aa rfl rfl eC) ?_
 refine iX rfl ?_
 refine ap (_,[]) (fun τ=> kS _ _ _ aa rfl 1 2 (.lit rfl rfl) (.lit rfl rfl) ab (show 2≤3 by omega) (show _=mE [y] from rfl) rfl) ?_
 refine jU rfl ?_
 refine ap (_,[]) (fun τ=> aE _ aa rfl rfl rfl) ?_
 refine kC rfl ?_
 refine ap (_,[]) (fun τ=> aG _ aa rfl rfl eC) ?_
 refine fW rfl ?_
 refine ap (_,[]) (fun τ=> kS _ _ _ aa rfl 2 3 (.lit rfl rfl) (.lit rfl rfl) ab (show 3≤3 by omega) (show _=mE [z] from rfl) rfl) ?_
 refine gI rfl ?_
 refine ap (_,[]) (fun τ=> aH _ ea) ?_
 refine kQ rfl (bl ⟨rfl,?_⟩)
 refine ai (ci aa [((0,8),(50,0))] ar (hb.toI) trivial tr ae) ?_
 exact fh rfl (aj (aF (bH (.inr rfl) rfl (.tmp dT) (Le.out [((0,8),(50,0))] [] (cP rfl rfl) rfl rfl rfl trivial ob))))
theorem Hr {c y:Nd} {cc cy:Cd} (hc:CoS (uu d v no on) c cc) (hy:CoS (uu d v no on) y cy):CoS (uu d v no on) (nd 18 0 [38,38] [c,y]) (Gq cc cy (fun _=> [{ op:= .push,n:=0 }])):=fun a ha=> by
 have hb:=lB (on:=on) c cc cy (fun _=> [{ op:= .push,n:=0 }]) hc 1 0 (mE [y]) [] 0 (fun a ha=> pJ y cy hy 0 a ha) (fun a _=> ub 0 a) a ha
 refine Spec.ofN Tryz.func91 rfl Tryz.ntmps91 rfl ?_
 refine am (ai (aQ (3,0) _ rfl rfl) (ai (aQ (4,0) _ rfl rfl) (ai (bp _ fA) (aj (aq (am (bb rfl rfl rfl (ca rfl rfl rfl (aj (ay ?_))))))))))
 refine aq (cJ rfl rfl rfl rfl rfl (dY rfl rfl rfl rfl rfl ?_))
 iterate 3 refine cJ rfl rfl rfl rfl rfl ?_
 refine aq ?_
 refine aM (σ':=aD 211 [(2,_),(3,_),(4,_),(12,_)] [((3,0),_),((4,0),_)] [] []) kp ?_
 refine dY rfl rfl rfl rfl rfl ?_
 iterate 4 refine cJ rfl rfl rfl rfl rfl ?_
 refine cu (aq (am (bb rfl rfl rfl (ca rfl rfl rfl (kx rfl rfl rfl (cL rfl (ax rfl rfl (aE _ aa rfl rfl rfl) (ax rfl rfl (aG _ aa rfl rfl fw) (ax rfl rfl (aV (r:=true) _ _ Tryz.underlying9 rfl rfl rfl) (ai (aC _ _ _ rfl bN) ?_))))))))))
 refine aj (bJ rfl rfl (aq ?_))
 refine aM (σ':=aD 211 [(2,_),(3,_),(4,_)] [((3,0),_),((4,0),_)] [] []) kp ?_
 refine bL 9 [119,120,121,122,123,124,125,126,127] [] ae ae rfl (aK rfl) (rfl:_=[_,_,_,_,_,_,_,_,_]) (rfl:_=[_,_]) ?_
 refine ap (_,[]) (fun τ=> az _ aa rfl rfl rfl rfl) ?_
 refine fN rfl ?_
 refine ap (_,[]) (fun τ=> aE _ aa rfl rfl rfl) ?_
 refine fO rfl ?_
 refine ap (_,[]) (fun τ=> aG _ aa rfl rfl eC) ?_
 refine fS rfl ?_
 refine ap (_,[]) (fun τ=> bn _ _ aa rfl rfl 0 rfl (show 0 < 2 by omega) (Nat.le_of_ble_eq_true rfl) rfl) ?_
 refine fY rfl ?_
 refine ap (_,[]) (fun τ=> cf _ aa rfl (by exact cO [c,y] 0 (by simp)) rfl) ?_
 refine gz rfl ?_
 refine ap (_,[]) (fun τ=> aE _ aa rfl rfl rfl) ?_
 refine hZ rfl ?_
 refine ap (_,[]) (fun τ=> aG _ aa rfl rfl eC) ?_
 refine iX rfl ?_
 refine ap (_,[]) (fun τ=> kS _ _ _ aa rfl 1 2 (.lit rfl rfl) (.lit rfl rfl) ab (show 2≤2 by omega) (show _=mE [y] from rfl) rfl) ?_
 refine jU rfl ?_
 refine ap (_,[]) (fun τ=> aH _ ea) ?_
 refine kC rfl (bl ⟨rfl,?_⟩)
 refine ai (ci aa [((0,8),(50,0))] ar (hb.toI) trivial tr ae) ?_
 exact fh rfl (aj (aF (bH (.inr rfl) rfl (.tmp dT) (Le.out [((0,8),(50,0))] [] (cP rfl rfl) rfl rfl rfl trivial ob))))
theorem Ka {c y:Nd} {cc cy:Cd} (hc:CoS (uu d v no on) c cc) (hy:CoS (uu d v no on) y cy):CoS (uu d v no on) (nd 18 0 [124,124] [c,y]) (Gq cc (fun _=> [{ op:= .push,n:=1 }]) cy):=fun a ha=> by
 have hb:=lB (on:=on) c cc (fun _=> [{ op:= .push,n:=1 }]) cy hc 0 1 [] (mE [y]) 1 (fun a _=> ub 1 a) (fun a ha=> pJ y cy hy 1 a ha) a ha
 refine Spec.ofN Tryz.func91 rfl Tryz.ntmps91 rfl ?_
 refine am (ai (aQ (3,0) _ rfl rfl) (ai (aQ (4,0) _ rfl rfl) (ai (bp _ fA) (aj (aq (am (bb rfl rfl rfl (ca rfl rfl rfl (aj (ay ?_))))))))))
 refine aq (cJ rfl rfl rfl rfl rfl (dY rfl rfl rfl rfl rfl ?_))
 iterate 3 refine cJ rfl rfl rfl rfl rfl ?_
 refine aq ?_
 refine aM (σ':=aD 211 [(2,_),(3,_),(4,_),(12,_)] [((3,0),_),((4,0),_)] [] []) kp ?_
 refine dY rfl rfl rfl rfl rfl ?_
 iterate 4 refine cJ rfl rfl rfl rfl rfl ?_
 refine cu (aq (am (bb rfl rfl rfl (ca rfl rfl rfl (kx rfl rfl rfl (cL rfl (ax rfl rfl (aE _ aa rfl rfl rfl) (ax rfl rfl (aG _ aa rfl rfl fw) (ax rfl rfl (aV (r:=false) _ _ Tryz.underlying9 rfl rfl rfl) (ai (aC _ _ _ rfl bN) ?_))))))))))
 refine aj (aW rfl rfl (aS (aq (aq ?_))))
 refine aM (σ':=aD 211 [(2,_),(3,_),(4,_)] [((3,0),_),((4,0),_)] [] []) kp ?_
 refine an (bb rfl rfl rfl (ca rfl rfl rfl (kx rfl rfl rfl (cL rfl (ax rfl rfl (aE _ aa rfl rfl rfl) (ax rfl rfl (aG _ aa rfl rfl fw) (ax rfl rfl (aV (r:=true) _ _ Tryz.underlying9 rfl rfl rfl) (ai (aC _ _ _ rfl bN) (aj (bJ rfl rfl ?_))))))))))
 refine aq ?_
 refine aM (σ':=aD 211 [(2,_),(3,_),(4,_)] [((3,0),_),((4,0),_)] [] []) kp ?_
 refine bL 9 [137,138,139,140,141,142,143,144,145] [] ae ae rfl (aK rfl) (rfl:_=[_,_,_,_,_,_,_,_,_]) (rfl:_=[_,_]) ?_
 refine ap (_,[]) (fun τ=> az _ aa rfl rfl rfl rfl) ?_
 refine fN rfl ?_
 refine ap (_,[]) (fun τ=> aE _ aa rfl rfl rfl) ?_
 refine fO rfl ?_
 refine ap (_,[]) (fun τ=> aG _ aa rfl rfl eC) ?_
 refine fS rfl ?_
 refine ap (_,[]) (fun τ=> bn _ _ aa rfl rfl 0 rfl (show 0 < 2 by omega) (Nat.le_of_ble_eq_true rfl) rfl) ?_
 refine fY rfl ?_
 refine ap (_,[]) (fun τ=> cf _ aa rfl (by exact cO [c,y] 0 (by simp)) rfl) ?_
 refine gz rfl ?_
 refine ap (_,[]) (fun τ=> aE _ aa rfl rfl rfl) ?_
 refine hZ rfl ?_
 refine ap (_,[]) (fun τ=> aG _ aa rfl rfl eC) ?_
 refine iX rfl ?_
 refine ap (_,[]) (fun τ=> kS _ _ _ aa rfl 1 2 (.lit rfl rfl) (.lit rfl rfl) ab (show 2≤2 by omega) (show _=mE [y] from rfl) rfl) ?_
 refine jU rfl ?_
 refine ap (_,[]) (fun τ=> aH _ ea) ?_
 refine kC rfl (bl ⟨rfl,?_⟩)
 refine ai (ci aa [((0,8),(50,0))] ar (hb.toI) trivial tr ae) ?_
 exact fh rfl (aj (aF (bH (.inr rfl) rfl (.tmp dT) (Le.out [((0,8),(50,0))] [] (cP rfl rfl) rfl rfl rfl trivial ob))))
theorem EJ {L:List Nd} {cs:List Cd} (hc:cs.length=L.length) (hk:mL (uu d v no on) L cs):CoS (uu d v no on) (nd 16 0 [] L) (fun a=> cW cs a++[{ op:= .draw }]):=fun a ha=> by
 have hl2:a+(cW cs a).length≤1000000:=by simp only [List.length_append] at ha;omega
 have hq:=dJ (d:=d) (v:=v) (no:=no) (on:=on) L cs hc hk a hl2
 refine Spec.ofN Tryz.func91 rfl Tryz.ntmps91 rfl ?_
 refine am (ai (aQ (3,0) _ rfl rfl) (ai (aQ (4,0) _ rfl rfl) (ai (bp _ fA) (aj (aq (am (bb rfl rfl rfl (ca rfl rfl rfl (aj (ay ?_))))))))))
 refine aq (cJ rfl rfl rfl rfl rfl (dY rfl rfl rfl rfl rfl ?_))
 iterate 3 refine cJ rfl rfl rfl rfl rfl ?_
 refine aq ?_
 refine aM (σ':=aD 211 [(2,_),(3,_),(4,_),(12,_)] [((3,0),_),((4,0),_)] [] []) kp ?_
 refine dY rfl rfl rfl rfl rfl ?_
 iterate 4 refine cJ rfl rfl rfl rfl rfl ?_
 refine cu (aq (am (bb rfl rfl rfl (ca rfl rfl rfl (gL rfl rfl rfl (cL rfl (aO rfl rfl ah ?_)))))))
 refine aO rfl rfl ah ?_
 refine aO rfl rfl ah ?_
 refine ai (aC _ _ _ rfl bN) (aj (aW rfl rfl (aS (aq (aq ?_)))))
 refine aM (σ':=aD 211 [(2,_),(3,_),(4,_)] [((3,0),_),((4,0),_)] [] []) kp ?_
 refine an (bb rfl rfl rfl (ca rfl rfl rfl (gL rfl rfl rfl (cL rfl (aO rfl rfl ah ?_)))))
 refine aO rfl rfl ah ?_
 refine aO rfl rfl ah ?_
 refine ai (aC _ _ _ rfl bN) (aj (aW rfl rfl (aS (am (ai (az _ aa rfl rfl rfl rfl) (bb rfl rfl rfl (fc rfl rfl rfl (aX rfl (ai (ci aa [((0,8),(50,0))] ar (hq.toI) trivial tr ae) ?_)))))))))
 refine fh rfl (aj (aq (am (bb rfl rfl rfl (ca rfl rfl rfl (aj (ay (aq ?_))))))))
 refine aM (σ':=aD 211 [(3,_),(4,_),(10,_),(153,_)] [((3,0),_),((4,0),_),((50,0),_)] [] []) kp ?_
 refine dY rfl rfl rfl rfl rfl (iE rfl rfl rfl rfl rfl (am (gF rfl (ai (aL _ aa rfl (by exact eW)) ?_))))
 refine ai (bh _ _ aa rfl ag (by (simp <;> rfl)) ah rfl) ?_
 refine ai (du (166,0) _ _ aa rfl rfl (bM _).symm (.sl rfl) ab rfl (fj _ { op:= .draw }) (show (cW cs a).length+1=(cW cs a++[({ op:= .draw }:eT)]).length by simp)) ?_
 exact fh rfl (aj (aF (bH (.inr rfl) rfl (.tmp dT) (Le.out [((0,8),(166,0))] [] (cP rfl rfl) rfl rfl rfl trivial ob))))
theorem GR {L:List Nd} {cs:List Cd} (hc:cs.length=L.length) (hk:mL (uu d v no on) L cs):CoS (uu d v no on) (nd 17 0 [45] L) (fun a=> cW cs a++[{ op:= .neg }]):=fun a ha=> by
 have hl2:a+(cW cs a).length≤1000000:=by simp only [List.length_append] at ha;omega
 have hq:=dJ (d:=d) (v:=v) (no:=no) (on:=on) L cs hc hk a hl2
 refine Spec.ofN Tryz.func91 rfl Tryz.ntmps91 rfl ?_
 refine am (ai (aQ (3,0) _ rfl rfl) (ai (aQ (4,0) _ rfl rfl) (ai (bp _ fA) (aj (aq (am (bb rfl rfl rfl (ca rfl rfl rfl (aj (ay ?_))))))))))
 refine aq (cJ rfl rfl rfl rfl rfl (dY rfl rfl rfl rfl rfl ?_))
 iterate 3 refine cJ rfl rfl rfl rfl rfl ?_
 refine aq ?_
 refine aM (σ':=aD 211 [(2,_),(3,_),(4,_),(12,_)] [((3,0),_),((4,0),_)] [] []) kp ?_
 refine dY rfl rfl rfl rfl rfl ?_
 iterate 4 refine cJ rfl rfl rfl rfl rfl ?_
 refine cu (aq (am (bb rfl rfl rfl (ca rfl rfl rfl (gL rfl rfl rfl (cL rfl (aO rfl rfl ah ?_)))))))
 refine aO rfl rfl ah ?_
 refine aO rfl rfl ah ?_
 refine ai (aC _ _ _ rfl bN) (aj (aW rfl rfl (aS (aq (aq ?_)))))
 refine aM (σ':=aD 211 [(2,_),(3,_),(4,_)] [((3,0),_),((4,0),_)] [] []) kp ?_
 refine an (bb rfl rfl rfl (ca rfl rfl rfl (gL rfl rfl rfl (cL rfl (aO rfl rfl ah ?_)))))
 refine aO rfl rfl ah ?_
 refine aO rfl rfl ah ?_
 refine ai (aC _ _ _ rfl bN) (aj (aW rfl rfl (aS (am (ai (az _ aa rfl rfl rfl rfl) (bb rfl rfl rfl (fc rfl rfl rfl (aX rfl (ai (ci aa [((0,8),(50,0))] ar (hq.toI) trivial tr ae) ?_)))))))))
 refine fh rfl (aj (aq (am (bb rfl rfl rfl (ca rfl rfl rfl (aj (ay (aq ?_))))))))
 refine aM (σ':=aD 211 [(3,_),(4,_),(10,_),(153,_)] [((3,0),_),((4,0),_),((50,0),_)] [] []) kp ?_
 refine dY rfl rfl rfl rfl rfl (cJ rfl rfl rfl rfl rfl (iE rfl rfl rfl rfl rfl (aq (am (bb rfl rfl rfl (ai (aG _ aa rfl rfl fw) (ai (aV (r:=true) _ _ Tryz.underlying9 rfl rfl rfl) (aj (bJ rfl rfl (am ?_))))))))))
 refine gF rfl (ai (aL _ aa rfl (by exact eW)) ?_)
 refine ai (bh _ _ aa rfl ag (by (simp <;> rfl)) ah rfl) ?_
 refine ai (du (175,0) _ _ aa rfl rfl (bM _).symm (.sl rfl) ab rfl (fj _ { op:= .neg }) (show (cW cs a).length+1=(cW cs a++[({ op:= .neg }:eT)]).length by simp)) ?_
 exact fh rfl (aj (aF (bH (.inr rfl) rfl (.tmp dT) (Le.out [((0,8),(175,0))] [] (cP rfl rfl) rfl rfl rfl trivial ob))))
theorem Hq {L:List Nd} {cs:List Cd} (hc:cs.length=L.length) (hk:mL (uu d v no on) L cs):CoS (uu d v no on) (nd 17 0 [33] L) (fun a=> cW cs a++[{ op:= .not }]):=fun a ha=> by
 have hl2:a+(cW cs a).length≤1000000:=by simp only [List.length_append] at ha;omega
 have hq:=dJ (d:=d) (v:=v) (no:=no) (on:=on) L cs hc hk a hl2
 refine Spec.ofN Tryz.func91 rfl Tryz.ntmps91 rfl ?_
 refine am (ai (aQ (3,0) _ rfl rfl) (ai (aQ (4,0) _ rfl rfl) (ai (bp _ fA) (aj (aq (am (bb rfl rfl rfl (ca rfl rfl rfl (aj (ay ?_))))))))))
 refine aq (cJ rfl rfl rfl rfl rfl (dY rfl rfl rfl rfl rfl ?_))
 iterate 3 refine cJ rfl rfl rfl rfl rfl ?_
 refine aq ?_
 refine aM (σ':=aD 211 [(2,_),(3,_),(4,_),(12,_)] [((3,0),_),((4,0),_)] [] []) kp ?_
 refine dY rfl rfl rfl rfl rfl ?_
 iterate 4 refine cJ rfl rfl rfl rfl rfl ?_
 refine cu (aq (am (bb rfl rfl rfl (ca rfl rfl rfl (gL rfl rfl rfl (cL rfl (aO rfl rfl ah ?_)))))))
 refine aO rfl rfl ah ?_
 refine aO rfl rfl ah ?_
 refine ai (aC _ _ _ rfl bN) (aj (aW rfl rfl (aS (aq (aq ?_)))))
 refine aM (σ':=aD 211 [(2,_),(3,_),(4,_)] [((3,0),_),((4,0),_)] [] []) kp ?_
 refine an (bb rfl rfl rfl (ca rfl rfl rfl (gL rfl rfl rfl (cL rfl (aO rfl rfl ah ?_)))))
 refine aO rfl rfl ah ?_
 refine aO rfl rfl ah ?_
 refine ai (aC _ _ _ rfl bN) (aj (aW rfl rfl (aS (am (ai (az _ aa rfl rfl rfl rfl) (bb rfl rfl rfl (fc rfl rfl rfl (aX rfl (ai (ci aa [((0,8),(50,0))] ar (hq.toI) trivial tr ae) ?_)))))))))
 refine fh rfl (aj (aq (am (bb rfl rfl rfl (ca rfl rfl rfl (aj (ay (aq ?_))))))))
 refine aM (σ':=aD 211 [(3,_),(4,_),(10,_),(153,_)] [((3,0),_),((4,0),_),((50,0),_)] [] []) kp ?_
 refine dY rfl rfl rfl rfl rfl (cJ rfl rfl rfl rfl rfl (iE rfl rfl rfl rfl rfl (aq (am (bb rfl rfl rfl (ai (aG _ aa rfl rfl fw) (ai (aV (r:=false) _ _ Tryz.underlying9 rfl rfl rfl) (aj (aW rfl rfl (aS ?_))))))))))
 refine am (gF rfl (ai (aL _ aa rfl (by exact eW)) ?_))
 refine ai (bh _ _ aa rfl ag (by (simp <;> rfl)) ah rfl) ?_
 refine ai (du (179,0) _ _ aa rfl rfl (bM _).symm (.sl rfl) ab rfl (fj _ { op:= .not }) (show (cW cs a).length+1=(cW cs a++[({ op:= .not }:eT)]).length by simp)) ?_
 exact fh rfl (aj (aF (bH (.inr rfl) rfl (.tmp dT) (Le.out [((0,8),(179,0))] [] (cP rfl rfl) rfl rfl rfl trivial ob))))
theorem ye {L:List Nd} {cs:List Cd} (hc:cs.length=L.length) (hk:mL (uu d v no on) L cs) (hn:(d++v).Nodup) (hl:(d++v).length≤1000) (i:Nat) (hi:i < (d++v).length):CoS (uu d v no on) (nd 1 0 ((d++v).getD i []) L) (fun a=> cW cs a++[{ op:= .setVar,n:=(i:Int) }]):=fun a ha=> by
 have hl2:a+(cW cs a).length≤1000000:=by simp only [List.length_append] at ha;omega
 have hq:=dJ (d:=d) (v:=v) (no:=no) (on:=on) L cs hc hk a hl2
 refine Spec.ofN Tryz.func91 rfl Tryz.ntmps91 rfl ?_
 refine am (ai (aQ (3,0) _ rfl rfl) (ai (aQ (4,0) _ rfl rfl) (ai (bp _ fA) (aj (aq (am (bb rfl rfl rfl (ca rfl rfl rfl (aj (ay ?_))))))))))
 refine aq (cJ rfl rfl rfl rfl rfl (dY rfl rfl rfl rfl rfl ?_))
 iterate 3 refine cJ rfl rfl rfl rfl rfl ?_
 refine aq ?_
 refine aM (σ':=aD 211 [(2,_),(3,_),(4,_),(12,_)] [((3,0),_),((4,0),_)] [] []) kp ?_
 refine dY rfl rfl rfl rfl rfl ?_
 iterate 4 refine cJ rfl rfl rfl rfl rfl ?_
 refine cu (aq (am (bb rfl rfl rfl (ca rfl rfl rfl (gL rfl rfl rfl (cL rfl (aO rfl rfl ah ?_)))))))
 refine aO rfl rfl ah ?_
 refine aO rfl rfl ah ?_
 refine ai (aC _ _ _ rfl bN) (aj (aW rfl rfl (aS (aq (aq ?_)))))
 refine aM (σ':=aD 211 [(2,_),(3,_),(4,_)] [((3,0),_),((4,0),_)] [] []) kp ?_
 refine an (bb rfl rfl rfl (ca rfl rfl rfl (gL rfl rfl rfl (cL rfl (aO rfl rfl ah ?_)))))
 refine aO rfl rfl ah ?_
 refine aO rfl rfl ah ?_
 refine ai (aC _ _ _ rfl bN) (aj (aW rfl rfl (aS (am (ai (az _ aa rfl rfl rfl rfl) (bb rfl rfl rfl (fc rfl rfl rfl (aX rfl (ai (ci aa [((0,8),(50,0))] ar (hq.toI) trivial tr ae) ?_)))))))))
 refine fh rfl (aj (aq (am (bb rfl rfl rfl (ca rfl rfl rfl (aj (ay (aq ?_))))))))
 refine aM (σ':=aD 211 [(3,_),(4,_),(10,_),(153,_)] [((3,0),_),((4,0),_),((50,0),_)] [] []) kp ?_
 refine dY rfl rfl rfl rfl rfl ?_
 iterate 2 refine cJ rfl rfl rfl rfl rfl ?_
 refine iE rfl rfl rfl rfl rfl (am (gF rfl (ai (az _ aa rfl rfl rfl rfl) (bb rfl rfl rfl (ai (aG _ aa rfl rfl fw) (ai (aI aa al (mz d v on no hn hl i hi) rfl rfl) ?_))))))
 refine ai (aL _ aa rfl (by exact eW)) ?_
 refine ai (bh _ _ aa rfl ag (by (simp <;> rfl)) ah rfl) ?_
 refine ai (du (189,0) _ _ aa rfl rfl (bM _).symm (.sl rfl) ab rfl (fj _ { op:= .setVar,n:=(i:Int) }) (show (cW cs a).length+1=(cW cs a++[({ op:= .setVar,n:=(i:Int) }:eT)]).length by simp)) ?_
 exact fh rfl (aj (aF (bH (.inr rfl) rfl (.tmp dT) (Le.out [((0,8),(189,0))] [] (cP rfl rfl) rfl rfl rfl trivial ob))))
theorem Ej {L:List Nd} {cs:List Cd} (hc:cs.length=L.length) (hk:mL (uu d v no on) L cs) (n:Nat):CoS (uu d v no on) (nd 4 n [] L) (fun a=> cW cs a++[{ op:= .send,n:=(n:Int) }]):=fun a ha=> by
 have hl2:a+(cW cs a).length≤1000000:=by simp only [List.length_append] at ha;omega
 have hq:=dJ (d:=d) (v:=v) (no:=no) (on:=on) L cs hc hk a hl2
 refine Spec.ofN Tryz.func91 rfl Tryz.ntmps91 rfl ?_
 refine am (ai (aQ (3,0) _ rfl rfl) (ai (aQ (4,0) _ rfl rfl) (ai (bp _ fA) (aj (aq (am (bb rfl rfl rfl (ca rfl rfl rfl (aj (ay ?_))))))))))
 refine aq (cJ rfl rfl rfl rfl rfl (dY rfl rfl rfl rfl rfl ?_))
 iterate 3 refine cJ rfl rfl rfl rfl rfl ?_
 refine aq ?_
 refine aM (σ':=aD 211 [(2,_),(3,_),(4,_),(12,_)] [((3,0),_),((4,0),_)] [] []) kp ?_
 refine dY rfl rfl rfl rfl rfl ?_
 iterate 4 refine cJ rfl rfl rfl rfl rfl ?_
 refine cu (aq (am (bb rfl rfl rfl (ca rfl rfl rfl (gL rfl rfl rfl (cL rfl (aO rfl rfl ah ?_)))))))
 refine aO rfl rfl ah ?_
 refine aO rfl rfl ah ?_
 refine ai (aC _ _ _ rfl bN) (aj (aW rfl rfl (aS (aq (aq ?_)))))
 refine aM (σ':=aD 211 [(2,_),(3,_),(4,_)] [((3,0),_),((4,0),_)] [] []) kp ?_
 refine an (bb rfl rfl rfl (ca rfl rfl rfl (gL rfl rfl rfl (cL rfl (aO rfl rfl ah ?_)))))
 refine aO rfl rfl ah ?_
 refine aO rfl rfl ah ?_
 refine ai (aC _ _ _ rfl bN) (aj (aW rfl rfl (aS (am (ai (az _ aa rfl rfl rfl rfl) (bb rfl rfl rfl (fc rfl rfl rfl (aX rfl (ai (ci aa [((0,8),(50,0))] ar (hq.toI) trivial tr ae) ?_)))))))))
 refine fh rfl (aj (aq (am (bb rfl rfl rfl (ca rfl rfl rfl (aj (ay (aq ?_))))))))
 refine aM (σ':=aD 211 [(3,_),(4,_),(10,_),(153,_)] [((3,0),_),((4,0),_),((50,0),_)] [] []) kp ?_
 refine dY rfl rfl rfl rfl rfl ?_
 iterate 3 refine cJ rfl rfl rfl rfl rfl ?_
 refine iE rfl rfl rfl rfl rfl (am (gF rfl (bb rfl rfl rfl (ca rfl rfl rfl (ai (aL _ aa rfl (by exact eW)) ?_)))))
 refine ai (bh _ _ aa rfl ag (by (simp <;> rfl)) ah rfl) ?_
 refine ai (du (197,0) _ _ aa rfl rfl (bM _).symm (.sl rfl) ab rfl (fj _ { op:= .send,n:=(n:Int) }) (show (cW cs a).length+1=(cW cs a++[({ op:= .send,n:=(n:Int) }:eT)]).length by simp)) ?_
 exact fh rfl (aj (aF (bH (.inr rfl) rfl (.tmp dT) (Le.out [((0,8),(197,0))] [] (cP rfl rfl) rfl rfl rfl trivial ob))))
theorem Dm {L:List Nd} {cs:List Cd} (hc:cs.length=L.length) (hk:mL (uu d v no on) L cs):CoS (uu d v no on) (nd 8 0 [] L) (fun a=> cW cs a++[{ op:= .reply }]):=fun a ha=> by
 have hl2:a+(cW cs a).length≤1000000:=by simp only [List.length_append] at ha;omega
 have hq:=dJ (d:=d) (v:=v) (no:=no) (on:=on) L cs hc hk a hl2
 refine Spec.ofN Tryz.func91 rfl Tryz.ntmps91 rfl ?_
 refine am (ai (aQ (3,0) _ rfl rfl) (ai (aQ (4,0) _ rfl rfl) (ai (bp _ fA) (aj (aq (am (bb rfl rfl rfl (ca rfl rfl rfl (aj (ay ?_))))))))))
 refine aq (cJ rfl rfl rfl rfl rfl (dY rfl rfl rfl rfl rfl ?_))
 iterate 3 refine cJ rfl rfl rfl rfl rfl ?_
 refine aq ?_
 refine aM (σ':=aD 211 [(2,_),(3,_),(4,_),(12,_)] [((3,0),_),((4,0),_)] [] []) kp ?_
 refine dY rfl rfl rfl rfl rfl ?_
 iterate 4 refine cJ rfl rfl rfl rfl rfl ?_
 refine cu (aq (am (bb rfl rfl rfl (ca rfl rfl rfl (gL rfl rfl rfl (cL rfl (aO rfl rfl ah ?_)))))))
 refine aO rfl rfl ah ?_
 refine aO rfl rfl ah ?_
 refine ai (aC _ _ _ rfl bN) (aj (aW rfl rfl (aS (aq (aq ?_)))))
 refine aM (σ':=aD 211 [(2,_),(3,_),(4,_)] [((3,0),_),((4,0),_)] [] []) kp ?_
 refine an (bb rfl rfl rfl (ca rfl rfl rfl (gL rfl rfl rfl (cL rfl (aO rfl rfl ah ?_)))))
 refine aO rfl rfl ah ?_
 refine aO rfl rfl ah ?_
 refine ai (aC _ _ _ rfl bN) (aj (aW rfl rfl (aS (am (ai (az _ aa rfl rfl rfl rfl) (bb rfl rfl rfl (fc rfl rfl rfl (aX rfl (ai (ci aa [((0,8),(50,0))] ar (hq.toI) trivial tr ae) ?_)))))))))
 refine fh rfl (aj (aq (am (bb rfl rfl rfl (ca rfl rfl rfl (aj (ay (aq ?_))))))))
 refine aM (σ':=aD 211 [(3,_),(4,_),(10,_),(153,_)] [((3,0),_),((4,0),_),((50,0),_)] [] []) kp ?_
 refine dY rfl rfl rfl rfl rfl ?_
 iterate 4 refine cJ rfl rfl rfl rfl rfl ?_
 refine iE rfl rfl rfl rfl rfl (am (gF rfl (ai (aL _ aa rfl (by exact eW)) ?_)))
 refine ai (bh _ _ aa rfl ag (by (simp <;> rfl)) ah rfl) ?_
 refine ai (du (203,0) _ _ aa rfl rfl (bM _).symm (.sl rfl) ab rfl (fj _ { op:= .reply }) (show (cW cs a).length+1=(cW cs a++[({ op:= .reply }:eT)]).length by simp)) ?_
 exact fh rfl (aj (aF (bH (.inr rfl) rfl (.tmp dT) (Le.out [((0,8),(203,0))] [] (cP rfl rfl) rfl rfl rfl trivial ob))))
theorem Ep {L:List Nd} {cs:List Cd} (hc:cs.length=L.length) (hk:mL (uu d v no on) L cs):CoS (uu d v no on) (nd 9 0 [] L) (fun a=> cW cs a++[{ op:= .fail }]):=fun a ha=> by
 have hl2:a+(cW cs a).length≤1000000:=by simp only [List.length_append] at ha;omega
 have hq:=dJ (d:=d) (v:=v) (no:=no) (on:=on) L cs hc hk a hl2
 refine Spec.ofN Tryz.func91 rfl Tryz.ntmps91 rfl ?_
 refine am (ai (aQ (3,0) _ rfl rfl) (ai (aQ (4,0) _ rfl rfl) (ai (bp _ fA) (aj (aq (am (bb rfl rfl rfl (ca rfl rfl rfl (aj (ay ?_))))))))))
 refine aq (cJ rfl rfl rfl rfl rfl (dY rfl rfl rfl rfl rfl ?_))
 iterate 3 refine cJ rfl rfl rfl rfl rfl ?_
 refine aq ?_
 refine aM (σ':=aD 211 [(2,_),(3,_),(4,_),(12,_)] [((3,0),_),((4,0),_)] [] []) kp ?_
 refine dY rfl rfl rfl rfl rfl ?_
 iterate 4 refine cJ rfl rfl rfl rfl rfl ?_
 refine cu (aq (am (bb rfl rfl rfl (ca rfl rfl rfl (gL rfl rfl rfl (cL rfl (aO rfl rfl ah ?_)))))))
 refine aO rfl rfl ah ?_
 refine aO rfl rfl ah ?_
 refine ai (aC _ _ _ rfl bN) (aj (aW rfl rfl (aS (aq (aq ?_)))))
 refine aM (σ':=aD 211 [(2,_),(3,_),(4,_)] [((3,0),_),((4,0),_)] [] []) kp ?_
 refine an (bb rfl rfl rfl (ca rfl rfl rfl (gL rfl rfl rfl (cL rfl (aO rfl rfl ah ?_)))))
 refine aO rfl rfl ah ?_
 refine aO rfl rfl ah ?_
 refine ai (aC _ _ _ rfl bN) (aj (aW rfl rfl (aS (am (ai (az _ aa rfl rfl rfl rfl) (bb rfl rfl rfl (fc rfl rfl rfl (aX rfl (ai (ci aa [((0,8),(50,0))] ar (hq.toI) trivial tr ae) ?_)))))))))
 refine fh rfl (aj (aq (am (bb rfl rfl rfl (ca rfl rfl rfl (aj (ay (aq ?_))))))))
 refine aM (σ':=aD 211 [(3,_),(4,_),(10,_),(153,_)] [((3,0),_),((4,0),_),((50,0),_)] [] []) kp ?_
 refine dY rfl rfl rfl rfl rfl ?_
 iterate 5 refine cJ rfl rfl rfl rfl rfl ?_
 refine iE rfl rfl rfl rfl rfl (am (gF rfl (ai (aL _ aa rfl (by exact eW)) ?_)))
 refine ai (bh _ _ aa rfl ag (by (simp <;> rfl)) ah rfl) ?_
 refine ai (du (209,0) _ _ aa rfl rfl (bM _).symm (.sl rfl) ab rfl (fj _ { op:= .fail }) (show (cW cs a).length+1=(cW cs a++[({ op:= .fail }:eT)]).length by simp)) ?_
 exact fh rfl (aj (aF (bH (.inr rfl) rfl (.tmp dT) (Le.out [((0,8),(209,0))] [] (cP rfl rfl) rfl rfl rfl trivial ob))))
theorem zD {L:List Nd} {cs:List Cd} (hc:cs.length=L.length) (hk:mL (uu d v no on) L cs):CoS (uu d v no on) (nd 11 0 [] L) (fun a=> cW cs a):=fun a ha=> by
 have hl2:a+(cW cs a).length≤1000000:=ha
 have hq:=dJ (d:=d) (v:=v) (no:=no) (on:=on) L cs hc hk a hl2
 refine Spec.ofN Tryz.func91 rfl Tryz.ntmps91 rfl ?_
 refine am (ai (aQ (3,0) _ rfl rfl) (ai (aQ (4,0) _ rfl rfl) (ai (bp _ fA) (aj (aq (am (bb rfl rfl rfl (ca rfl rfl rfl (aj (ay ?_))))))))))
 refine aq (cJ rfl rfl rfl rfl rfl (dY rfl rfl rfl rfl rfl ?_))
 iterate 3 refine cJ rfl rfl rfl rfl rfl ?_
 refine aq ?_
 refine aM (σ':=aD 211 [(2,_),(3,_),(4,_),(12,_)] [((3,0),_),((4,0),_)] [] []) kp ?_
 refine dY rfl rfl rfl rfl rfl ?_
 iterate 4 refine cJ rfl rfl rfl rfl rfl ?_
 refine cu (aq (am (bb rfl rfl rfl (ca rfl rfl rfl (gL rfl rfl rfl (cL rfl (aO rfl rfl ah ?_)))))))
 refine aO rfl rfl ah ?_
 refine aO rfl rfl ah ?_
 refine ai (aC _ _ _ rfl bN) (aj (aW rfl rfl (aS (aq (aq ?_)))))
 refine aM (σ':=aD 211 [(2,_),(3,_),(4,_)] [((3,0),_),((4,0),_)] [] []) kp ?_
 refine an (bb rfl rfl rfl (ca rfl rfl rfl (gL rfl rfl rfl (cL rfl (aO rfl rfl ah ?_)))))
 refine aO rfl rfl ah ?_
 refine aO rfl rfl ah ?_
 refine ai (aC _ _ _ rfl bN) (aj (aW rfl rfl (aS (am (ai (az _ aa rfl rfl rfl rfl) (bb rfl rfl rfl (fc rfl rfl rfl (aX rfl (ai (ci aa [((0,8),(50,0))] ar (hq.toI) trivial tr ae) ?_)))))))))
 refine fh rfl (aj (aq (am (bb rfl rfl rfl (ca rfl rfl rfl (aj (ay (aq ?_))))))))
 refine aM (σ':=aD 211 [(3,_),(4,_),(10,_),(153,_)] [((3,0),_),((4,0),_),((50,0),_)] [] []) kp ?_
 refine dY rfl rfl rfl rfl rfl ?_
 iterate 6 refine cJ rfl rfl rfl rfl rfl ?_
 exact cu (am (gF rfl (fh rfl (aj (aF (bH (.inr rfl) rfl (.tmp dT) (Le.out [((0,8),(50,0))] [] (cP rfl rfl) rfl rfl rfl trivial ob)))))))
theorem Iv {L:List Nd} {cs:List Cd} (hc:cs.length=L.length) (hk:mL (uu d v no on) L cs) (o:Bo):CoS (uu d v no on) (nd 18 0 o.txt L) (fun a=> cW cs a++o.code):=fun a ha=> by
 have hol:o.code.length≤2:=by cases o <;> decide
 have hs1:o.txt≠[38,38]:=by cases o <;> decide
 have hs2:o.txt≠[124,124]:=by cases o <;> decide
 have hl2:a+(cW cs a).length≤1000000:=by simp only [List.length_append] at ha;omega
 have hq:=dJ (d:=d) (v:=v) (no:=no) (on:=on) L cs hc hk a hl2
 refine Spec.ofN Tryz.func91 rfl Tryz.ntmps91 rfl ?_
 refine am (ai (aQ (3,0) _ rfl rfl) (ai (aQ (4,0) _ rfl rfl) (ai (bp _ fA) (aj (aq (am (bb rfl rfl rfl (ca rfl rfl rfl (aj (ay ?_))))))))))
 refine aq (cJ rfl rfl rfl rfl rfl (dY rfl rfl rfl rfl rfl ?_))
 iterate 3 refine cJ rfl rfl rfl rfl rfl ?_
 refine aq ?_
 refine aM (σ':=aD 211 [(2,_),(3,_),(4,_),(12,_)] [((3,0),_),((4,0),_)] [] []) kp ?_
 refine dY rfl rfl rfl rfl rfl ?_
 iterate 4 refine cJ rfl rfl rfl rfl rfl ?_
 refine cu (aq (am (bb rfl rfl rfl (ca rfl rfl rfl (kx rfl rfl rfl (cL rfl (ax rfl rfl (aE _ aa rfl rfl rfl) (ax rfl rfl (aG _ aa rfl rfl fw) (ax rfl rfl (aV (r:=false) _ _ Tryz.underlying9 rfl rfl (beq_eq_false_iff_ne.2 hs1)) ?_)))))))))
 refine ai (aC _ _ _ rfl bN) (aj (aW rfl rfl (aS (aq (aq ?_)))))
 refine aM (σ':=aD 211 [(2,_),(3,_),(4,_)] [((3,0),_),((4,0),_)] [] []) kp ?_
 refine an (bb rfl rfl rfl (ca rfl rfl rfl (kx rfl rfl rfl (cL rfl (ax rfl rfl (aE _ aa rfl rfl rfl) (ax rfl rfl (aG _ aa rfl rfl fw) (ax rfl rfl (aV (r:=false) _ _ Tryz.underlying9 rfl rfl (beq_eq_false_iff_ne.2 hs2)) ?_)))))))
 refine ai (aC _ _ _ rfl bN) (aj (aW rfl rfl (aS (am (ai (az _ aa rfl rfl rfl rfl) (bb rfl rfl rfl (fc rfl rfl rfl (aX rfl (ai (ci aa [((0,8),(50,0))] ar (hq.toI) trivial tr ae) ?_)))))))))
 refine fh rfl (aj (aq (am (bb rfl rfl rfl (ca rfl rfl rfl (aj (ay (aq ?_))))))))
 refine aM (σ':=aD 211 [(3,_),(4,_),(10,_),(153,_)] [((3,0),_),((4,0),_),((50,0),_)] [] []) kp ?_
 refine zn rfl rfl rfl rfl rfl (am (gF rfl (bb rfl rfl rfl (ai (aG _ aa rfl rfl fw) (ai (aI aa al (yq o) rfl rfl) ?_)))))
 refine ai (du (160,0) _ _ aa rfl rfl (bM _).symm (.sl (bM _)) ab rfl (lT _ _) (show (cW cs a).length+o.code.length=(cW cs a++o.code).length by simp)) ?_
 exact fh rfl (aj (aF (bH (.inr rfl) rfl (.tmp dT) (Le.out [((0,8),(160,0))] [] (cP rfl rfl) rfl rfl rfl trivial ob))))
def Ld (c y:Cd) (a:Nat):List eT:=c a++[{ op:= .unl,n:=((a+(c a).length+(y (a+(c a).length+1)).length+2:Nat):Int) }]++y (a+(c a).length+1)++[{ op:= .jump,n:=(a:Int) }]
theorem Ab {c y:Nd} {cc cy:Cd} (hc:CoS (uu d v no on) c cc) (hy:CoS (uu d v no on) y cy):CoS (uu d v no on) (nd 3 0 [] [c,y]) (Ld cc cy):=fun a ha=> by
 obtain ⟨b,hb⟩: ∃ b,b=Ld cc cy a:=⟨_,rfl⟩
 rw [← hb] at ha ⊢
 unfold Ld at hb
 have hbl:=congrArg List.length hb
 simp only [List.length_append,List.length_cons,List.length_nil] at hbl
 have h1:=hc a ab
 generalize cc a=C at h1 hb hbl
 have h2:=hy (a+C.length+1) ab
 generalize cy (a+C.length+1)=Y at h2 hb hbl
 refine Spec.ofN Tryz.func91 rfl Tryz.ntmps91 rfl ?_
 refine am (ai (aQ (3,0) _ rfl rfl) (ai (aQ (4,0) _ rfl rfl) (ai (bp _ fA) (aj (aq (am (bb rfl rfl rfl (ca rfl rfl rfl (aj (ay ?_))))))))))
 refine aq (cJ rfl rfl rfl rfl rfl (dY rfl rfl rfl rfl rfl ?_))
 iterate 3 refine cJ rfl rfl rfl rfl rfl ?_
 refine aq ?_
 refine aM (σ':=aD 211 [(2,_),(3,_),(4,_),(12,_)] [((3,0),_),((4,0),_)] [] []) kp ?_
 refine dY rfl rfl rfl rfl rfl ?_
 iterate 3 refine cJ rfl rfl rfl rfl rfl ?_
 refine iE rfl rfl rfl rfl rfl (aq ?_)
 refine aM (σ':=aD 211 [(2,_),(3,_),(4,_)] [((3,0),_),((4,0),_)] [] []) kp ?_
 refine bL 6 [73,74,75,76,77,78] [] ae ae rfl (aK rfl) (rfl:_=[_,_,_,_,_,_]) (rfl:_=[_,_]) ?_
 refine ap (_,[]) (fun τ=> az _ aa rfl rfl rfl rfl) ?_
 refine fN rfl ?_
 refine ap (_,[]) (fun τ=> aE _ aa rfl rfl rfl) ?_
 refine fO rfl ?_
 refine ap (_,[]) (fun τ=> aG _ aa rfl rfl eC) ?_
 refine fS rfl ?_
 refine ap (_,[]) (fun τ=> bn _ _ aa rfl rfl 0 rfl (show 0 < 2 by omega) (Nat.le_of_ble_eq_true rfl) rfl) ?_
 refine fY rfl ?_
 refine ap (_,[]) (fun τ=> cf _ aa rfl (by exact cO [c,y] 0 (by simp)) rfl) ?_
 refine gz rfl ?_
 refine ap (_,[]) (fun τ=> aH _ ea) ?_
 refine hZ rfl (bl ⟨rfl,?_⟩)
 refine ai (ci aa [((0,8),(50,0))] ar (h1.toI) trivial tr ae) ?_
 refine fh rfl (aj (aU fun K15 hK15=> ?_))
 refine aM (σ':=aD 211 [(2,_),(3,_),(4,_),(7,_)] [((3,0),_),((4,0),_),((50,0),_)] [] []) kp ?_
 refine bL 10 [80,81,82,83,84,85,86,87,88,89] [] ae ae rfl (aK rfl) (rfl:_=[_,_,_,_,_,_,_,_,_,_]) (rfl:_=[_,_]) ?_
 refine ap (_,[]) (fun τ=> az _ aa rfl rfl rfl rfl) ?_
 refine fN rfl ?_
 refine ap (_,[]) (fun τ=> aE _ aa rfl rfl rfl) ?_
 refine fO rfl ?_
 refine ap (_,[]) (fun τ=> aG _ aa rfl rfl eC) ?_
 refine fS rfl ?_
 refine ap (_,[]) (fun τ=> bn _ _ aa rfl rfl 1 rfl (show 1 < 2 by omega) (Nat.le_of_ble_eq_true rfl) rfl) ?_
 refine fY rfl ?_
 refine ap (_,[]) (fun τ=> cf _ aa rfl (by exact cO [c,y] 1 (by simp)) rfl) ?_
 refine gz rfl ?_
 refine ap (_,[]) (fun τ=> aH _ ea) ?_
 refine hZ rfl ?_
 refine ap (_,[]) (fun τ=> aH _ dT) ?_
 refine iX rfl ?_
 refine ap (_,[]) (fun τ=> dg _ aa rfl rfl) ?_
 refine jU rfl ?_
 refine ap (_,[]) (fun τ=> aZ _ _ rfl rfl (bD ab)) ?_
 refine kC rfl ?_
 refine ap (_,[]) (fun τ=> aZ _ _ rfl rfl (bD ab)) ?_
 refine fW rfl (bl ⟨rfl,?_⟩)
 refine ai (ci aa [((0,8),(51,0))] ar (h2.toI) trivial tr ae) ?_
 refine fh rfl (aJ (hK15 _ ?_))
 clear hK15;try clear K15
 refine am (gF rfl (aX rfl (gF rfl (ai (dg _ aa rfl rfl) (ai (aZ _ _ rfl rfl (bD ab)) ?_)))))
 refine gF rfl (ai (dg _ aa rfl rfl) (ai (aZ _ _ rfl rfl (bD ab)) ?_))
 refine ai (aZ (r:=((a+C.length+Y.length+2:Nat):Int)) _ _ rfl rfl ((bD ab).trans ab)) ?_
 refine ai (aL _ aa rfl (by exact eW)) ?_
 refine ai (bh _ _ aa rfl ag (by (simp <;> rfl)) ah rfl) ?_
 refine ai (du (102,0) _ _ aa rfl rfl (bM _).symm (.sl rfl) ab rfl (fj _ { op:= .unl,n:=((a+C.length+Y.length+2:Nat):Int) }) (show C.length+1=(C++[({ op:= .unl,n:=((a+C.length+Y.length+2:Nat):Int) }:eT)]).length by simp)) ?_
 refine fh rfl (aj (aq ?_))
 refine aM (σ':=aD 211 [(2,_),(8,_),(9,_)] [((51,0),_),((102,0),_)] [] []) kp ?_
 refine an (gF rfl (gF rfl (ai (du (105,0) _ _ aa rfl rfl (bM _).symm (.ref rfl (nc _) (lp _)) (by simp;omega) rfl (lT _ _) (show (C++[({ op:= .unl,n:=((a+C.length+Y.length+2:Nat):Int) }:eT)]).length+Y.length=(C++[({ op:= .unl,n:=((a+C.length+Y.length+2:Nat):Int) }:eT)]++Y).length by simp;omega)) ?_)))
 refine fh rfl (aj (am (gF rfl (aX rfl (ai (aL _ aa rfl (by exact eW)) ?_)))))
 refine ai (bh _ _ aa rfl ag (by (simp <;> rfl)) ah rfl) ?_
 refine ai (du (110,0) _ _ aa rfl rfl (bM _).symm (.sl rfl) (by simp;omega) rfl ((fj _ { op:= .jump,n:=(a:Int) }).trans (congrArg inl hb.symm)) (show _+1=b.length by simp;omega)) ?_
 exact fh rfl (aj (aF (bH (.inr rfl) rfl (.tmp dT) (Le.out [((0,8),(110,0))] [] (cP rfl rfl) rfl rfl rfl trivial ob))))
end

def jB:Ex→Bool
 | .int n=> decide (0≤n) | .bool _=> true | .var _=> true | .name _=> true
 | .draw e=> jB e | .neg e=> jB e | .not e=> jB e
 | .bin _ a b=> jB a && jB b
 | .and a b=> jB a && jB b
 | .or a b=> jB a && jB b
mutual
def yU:Sm→Bool
 | .assign _ e=> jB e
 | .send t _ a b=> jB t && jB a && jB b
 | .timer _=> true | .cancel _=> true | .sync=> true | .stop=> true
 | .reply a b=> jB a && jB b
 | .fail e=> jB e
 | .loop c b=> jB c && sK b
 | .ite c a b=> jB c && sK a && sK b
def sK:Bk→Bool
 | .nil=> true
 | .cons s b=> yU s && sK b
end
section
variable {d v:List Tx} {no:Nat} {on:List PV}
abbrev KM (d v:List Tx) (no:Nat) (on:List PV) (N:Nd) (c:Cd):Prop:=CoS (uu d v no on) N c
theorem CoS.cong {u:AV} {N:Nd} {c c':Cd} (h:CoS u N c) (e: ∀ a,c a=c' a):CoS u N c':=by
 rw [show c'=c from funext fun a=> (e a).symm];exact h
theorem ek (hn:(d++v).Nodup) (hl:(d++v).length≤1000): ∀ e:Ex,ia (d++v).length e→jB e=true→KM d v no on (eN (d++v) e) (bE e)
 | .int n,_,hp=> by
  have hp:=of_decide_eq_true hp
  have:=HW (d:=d) (v:=v) (no:=no) (on:=on) n.toNat
  exact this.cong fun a=> by rw [Int.toNat_of_nonneg hp];rfl
 | .bool b,_,_=> by
  cases b
  ·exact wU 0
  exact wU 1
 | .var i,h,_=> Hk hn hl i h
 | .name k,h,_=> Fe k h
 | .draw e,h,hp=> (EJ rfl (yD (ek hn hl e h hp) EX)).cong fun a=> by simp [bE,cW]
 | .neg e,h,hp=> (GR rfl (yD (ek hn hl e h hp) EX)).cong fun a=> by simp [bE,cW]
 | .not e,h,hp=> (Hq rfl (yD (ek hn hl e h hp) EX)).cong fun a=> by simp [bE,cW]
 | .bin o x y,h,hp=> by
  simp only [jB,Bool.and_eq_true] at hp
  exact (Iv rfl (yD (ek hn hl x h.1 hp.1) (yD (ek hn hl y h.2 hp.2) EX)) o).cong fun a=> by simp [bE,cW]
 | .and x y,h,hp=> by
  simp only [jB,Bool.and_eq_true] at hp
  exact (Hr (ek hn hl x h.1 hp.1) (ek hn hl y h.2 hp.2)).cong fun a=> rfl
 | .or x y,h,hp=> by
  simp only [jB,Bool.and_eq_true] at hp
  exact (Ka (ek hn hl x h.1 hp.1) (ek hn hl y h.2 hp.2)).cong fun a=> rfl
def Fk:Bk→List Cd
 | .nil=> []
 | .cons s b=> dw s::Fk b
theorem wL (nm:List Tx): ∀ b:Bk,(Fk b).length=(jc nm b).length
 | .nil=> by simp [Fk,jc]
 | .cons s b=> by simp [Fk,jc,wL nm b]
theorem xl: ∀ (b:Bk) (a:Nat),cW (Fk b) a=dQ b a
 | .nil,a=> by simp [Fk,cW,dQ]
 | .cons s b,a=> by simp only [Fk,cW,dQ,xl b]
theorem mU {b:Bk} (h:mL (uu d v no on) (jc (d++v) b) (Fk b)):KM d v no on (jf (d++v) b) (dQ b):=(zD (wL _ b) h).cong (xl b)
mutual
theorem FN (hn:(d++v).Nodup) (hl:(d++v).length≤1000): ∀ s:Sm,gJ (d++v).length s→yU s=true→KM d v no on (FD (d++v) s) (dw s)
 | .assign i e,h,hp=> by rw [gJ] at h;exact (ye rfl (yD (ek hn hl e h.2 hp) EX) hn hl i h.1).cong fun a=> by simp [dw,cW]
 | .send t k x y,h,hp=> by
  rw [gJ] at h
  simp only [yU,Bool.and_eq_true] at hp
  exact (Ej rfl (yD (ek hn hl t h.2.1 hp.1.1) (yD (ek hn hl x h.2.2.1 hp.1.2) (yD (ek hn hl y h.2.2.2 hp.2) EX))) k).cong fun a=> by simp [dw,cW,Nat.add_assoc]
 | .timer k,_,_=> (Ae k).cong fun a=> by rw [dw]
 | .cancel k,_,_=> (yS k).cong fun a=> by rw [dw]
 | .sync,_,_=> co_sync.cong fun a=> by rw [dw]
 | .stop,_,_=> co_stop.cong fun a=> by rw [dw]
 | .reply x y,h,hp=> by
  rw [gJ] at h
  simp only [yU,Bool.and_eq_true] at hp
  exact (Dm rfl (yD (ek hn hl x h.1 hp.1) (yD (ek hn hl y h.2 hp.2) EX))).cong fun a=> by simp [dw,cW]
 | .fail e,h,hp=> by rw [gJ] at h;exact (Ep rfl (yD (ek hn hl e h hp) EX)).cong fun a=> by simp [dw,cW]
 | .loop c b,h,hp=> by
  rw [gJ] at h
  simp only [yU,Bool.and_eq_true] at hp
  exact (Ab (ek hn hl c h.1 hp.1) (mU (mX hn hl b h.2 hp.2))).cong fun a=> by rw [dw];rfl
 | .ite c x y,h,hp=> by
  rw [gJ] at h
  simp only [yU,Bool.and_eq_true] at hp
  exact (It (ek hn hl c h.1 hp.1.1) (mU (mX hn hl x h.2.1 hp.1.2)) (mU (mX hn hl y h.2.2 hp.2))).cong fun a=> by rw [dw];rfl
theorem mX (hn:(d++v).Nodup) (hl:(d++v).length≤1000): ∀ b:Bk,li (d++v).length b→sK b=true→mL (uu d v no on) (jc (d++v) b) (Fk b)
 | .nil,_,_=> EX
 | .cons s b,h,hp=> by
  rw [li] at h
  simp only [sK,Bool.and_eq_true] at hp
  exact yD (FN hn hl s h.1 hp.1) (mX hn hl b h.2 hp.2)
end
theorem DW (hn:(d++v).Nodup) (hl:(d++v).length≤1000) (b:Bk) (h:li (d++v).length b) (hp:sK b=true):KM d v no on (jf (d++v) b) (dQ b):=mU (mX hn hl b h hp)
end
end Go.Proofs.YtmjnackchaahbaaGreat
