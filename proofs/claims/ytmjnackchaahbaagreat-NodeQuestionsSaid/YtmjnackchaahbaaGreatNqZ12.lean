/- part 12 -/
import Derived.Test.YtmjnackchaahbaaGreatNqZ11
set_option linter.unusedSimpArgs false
set_option linter.unusedVariables false
namespace Go.Proofs.YtmjnackchaahbaaGreat
open Go.RowKit

theorem od (C:List eW):((inl C).drop 0).take (C.length*2)=inl C:=List.take_of_length_le (by rw [List.drop_zero,bP];exact Nat.le_refl _)
theorem lB (C:List eW):0+C.length*2≤(inl C).length:=by rw [bP,Nat.zero_add];exact Nat.le_refl _
theorem yy (l:List Tx) (n:Nat) (hn:l.length=n) (h1:n≤1000) (hd:l.Nodup) (i:Nat) (hi:i < n):Spec Tryz.prog 122 (ba [.sl n (fo l), .v (bt (l.getD i []))] []) (aP (.v (.int .i64 (i:Int))) []):=by
 refine Spec.ofN Tryz.func122 rfl Tryz.ntmps122 rfl ?_
 refine am (be rfl (aj (aq (am (be rfl (aj (ay ?_)))))))
 refine bq (α:=Nat) (fun k=> k≤n∧k≤i) 19 [(0,_),(1,_)] [] (fun k=> [(5, .v (.int .i64 (k:Int)))]) (fun k=> []) [] [] (fun k=> n - k) 0 ?_ (by
  refine Le.mkJ [] [] rfl ?_ ?_ trivial trivial ?_
  ·exact ⟨(iS rfl),(iV rfl),(co ag),trivial⟩
  ·exact trivial
  kernel_rfl) ?_
 ·exact ⟨Nat.zero_le _,Nat.zero_le _⟩
 intro k hk
 obtain ⟨hk,hki⟩:=hk
 refine aU fun K4 hK4=> ?_
 refine am (aX rfl (eY rfl (ai (bo _ aa rfl) (ai (bl _ _ rfl rfl rfl) (aj (aR rfl (fun hc9=> ?_) (fun hc9=> ?_)))))))
 ·skip
  refine bs (hK4 _ ?_)
  clear hK4;try clear K4
  refine aq (ay (am (eY rfl (aX rfl (ai (bn _ _ aa rfl rfl _ rfl ab (by (simp only [aO,bg,bj,bv,bu,bH,bw,bP];omega)) (by exact Nat.mul_one _)) ?_)))))
  refine ai (bT _ aa rfl (by exact jO _ _ ab) rfl) ?_
  refine ej rfl (ai (aV _ _ Tryz.underlying9 rfl rfl rfl) (aj (aR rfl (fun hc17=> ?_) (fun hc17=> ?_))))
  ·skip
   have he:k=i:=mQ hd ab ab hc17
   refine am (aX rfl (be rfl (aj (aG (rK rfl rfl ?_)))))
   rw [he]
  have he:k≠i:=fun e=> hc17 (by rw [e])
  refine cp (an (aX rfl (ai (aZ _ _ rfl rfl (bD ab)) ?_)))
  refine be rfl (aJ (⟨k+1,?_,?_,?_⟩))
  ·exact ⟨by omega,by omega⟩
  ·skip
   refine Le.mkJ [] [] rfl ?_ ?_ trivial trivial ?_
   ·exact ⟨(iS rfl),(iV rfl),(co ag),trivial⟩
   ·exact trivial
   kernel_rfl
  omega
 exact absurd hki ab
theorem pv:Spec Tryz.prog 123 (ba [] []) (aP (.sl 9 (fo bltT)) []):=by
 refine Spec.ofN Tryz.func123 rfl Tryz.ntmps123 rfl ?_
 refine am (ai (bp _ fC) (aj (am (ai (bh _ _ aa rfl ag (by (simp <;> rfl)) ah rfl) ?_))))
 exact kH rfl (aj (aG (qV rfl rfl)))
theorem Ce:Spec Tryz.prog 126 (ba [.v (bt [43])] []) (aP (.sl (Bo.add).code.length (inl (Bo.add).code)) []):=by
 refine Spec.ofN Tryz.func126 rfl Tryz.ntmps126 rfl ?_
 refine am (ai (bp _ fC) (aj (aq (am (ej rfl (aj (ay (am (ai (aV (r:=true) _ _ Tryz.underlying9 rfl rfl rfl) (cu rfl ?_))))))))))
 refine aj (bM rfl rfl (am (ai (aN _ aa rfl (by exact eV)) ?_)))
 refine ai (bh _ _ aa rfl ag (by (simp <;> rfl)) ah rfl) ?_
 exact kH rfl (aj (aG (qV rfl rfl)))
theorem CV:Spec Tryz.prog 126 (ba [.v (bt [45])] []) (aP (.sl (Bo.sub).code.length (inl (Bo.sub).code)) []):=by
 refine Spec.ofN Tryz.func126 rfl Tryz.ntmps126 rfl ?_
 refine am (ai (bp _ fC) (aj (aq (am (ej rfl (aj (ay (am (ai (aV (r:=false) _ _ Tryz.underlying9 rfl rfl rfl) (cu rfl ?_))))))))))
 refine aj (aW rfl rfl (am (ai (aV (r:=true) _ _ Tryz.underlying9 rfl rfl rfl) (cu rfl (aj (bM rfl rfl (am (ai (aN _ aa rfl (by exact eV)) ?_))))))))
 refine ai (bh _ _ aa rfl ag (by (simp <;> rfl)) ah rfl) ?_
 exact kH rfl (aj (aG (qV rfl rfl)))
theorem AE:Spec Tryz.prog 126 (ba [.v (bt [42])] []) (aP (.sl (Bo.mul).code.length (inl (Bo.mul).code)) []):=by
 refine Spec.ofN Tryz.func126 rfl Tryz.ntmps126 rfl ?_
 refine am (ai (bp _ fC) (aj (aq (am (ej rfl (aj (ay (am (ai (aV (r:=false) _ _ Tryz.underlying9 rfl rfl rfl) (cu rfl ?_))))))))))
 refine aj (aW rfl rfl (am (ai (aV (r:=false) _ _ Tryz.underlying9 rfl rfl rfl) (cu rfl (aj (aW rfl rfl (am (ai (aV (r:=true) _ _ Tryz.underlying9 rfl rfl rfl) (cu rfl (aj ?_))))))))))
 refine bM rfl rfl (am (ai (aN _ aa rfl (by exact eV)) ?_))
 refine ai (bh _ _ aa rfl ag (by (simp <;> rfl)) ah rfl) ?_
 exact kH rfl (aj (aG (qV rfl rfl)))
theorem zJ:Spec Tryz.prog 126 (ba [.v (bt [47])] []) (aP (.sl (Bo.div).code.length (inl (Bo.div).code)) []):=by
 refine Spec.ofN Tryz.func126 rfl Tryz.ntmps126 rfl ?_
 refine am (ai (bp _ fC) (aj (aq (am (ej rfl (aj (ay (am (ai (aV (r:=false) _ _ Tryz.underlying9 rfl rfl rfl) (cu rfl ?_))))))))))
 refine aj (aW rfl rfl (am (ai (aV (r:=false) _ _ Tryz.underlying9 rfl rfl rfl) (cu rfl (aj (aW rfl rfl (am (ai (aV (r:=false) _ _ Tryz.underlying9 rfl rfl rfl) (cu rfl (aj ?_))))))))))
 refine aW rfl rfl (am (ai (aV (r:=true) _ _ Tryz.underlying9 rfl rfl rfl) (cu rfl (aj (bM rfl rfl (am (ai (aN _ aa rfl (by exact eV)) ?_)))))))
 refine ai (bh _ _ aa rfl ag (by (simp <;> rfl)) ah rfl) ?_
 exact kH rfl (aj (aG (qV rfl rfl)))
theorem FN:Spec Tryz.prog 126 (ba [.v (bt [60])] []) (aP (.sl (Bo.lt).code.length (inl (Bo.lt).code)) []):=by
 refine Spec.ofN Tryz.func126 rfl Tryz.ntmps126 rfl ?_
 refine am (ai (bp _ fC) (aj (aq (am (ej rfl (aj (ay (am (ai (aV (r:=false) _ _ Tryz.underlying9 rfl rfl rfl) (cu rfl ?_))))))))))
 refine aj (aW rfl rfl (am (ai (aV (r:=false) _ _ Tryz.underlying9 rfl rfl rfl) (cu rfl (aj (aW rfl rfl (am (ai (aV (r:=false) _ _ Tryz.underlying9 rfl rfl rfl) (cu rfl (aj ?_))))))))))
 refine aW rfl rfl (am (ai (aV (r:=false) _ _ Tryz.underlying9 rfl rfl rfl) (cu rfl (aj (aW rfl rfl (am (ai (aV (r:=true) _ _ Tryz.underlying9 rfl rfl rfl) (cu rfl (aj (bM rfl rfl ?_))))))))))
 refine am (ai (aN _ aa rfl (by exact eV)) ?_)
 refine ai (bh _ _ aa rfl ag (by (simp <;> rfl)) ah rfl) ?_
 exact kH rfl (aj (aG (qV rfl rfl)))
theorem FK:Spec Tryz.prog 126 (ba [.v (bt [60,61])] []) (aP (.sl (Bo.le).code.length (inl (Bo.le).code)) []):=by
 refine Spec.ofN Tryz.func126 rfl Tryz.ntmps126 rfl ?_
 refine am (ai (bp _ fC) (aj (aq (am (ej rfl (aj (ay (am (ai (aV (r:=false) _ _ Tryz.underlying9 rfl rfl rfl) (cu rfl ?_))))))))))
 refine aj (aW rfl rfl (am (ai (aV (r:=false) _ _ Tryz.underlying9 rfl rfl rfl) (cu rfl (aj (aW rfl rfl (am (ai (aV (r:=false) _ _ Tryz.underlying9 rfl rfl rfl) (cu rfl (aj ?_))))))))))
 refine aW rfl rfl (am (ai (aV (r:=false) _ _ Tryz.underlying9 rfl rfl rfl) (cu rfl (aj (aW rfl rfl (am (ai (aV (r:=false) _ _ Tryz.underlying9 rfl rfl rfl) (cu rfl (aj (aW rfl rfl ?_))))))))))
 refine am (ai (aV (r:=true) _ _ Tryz.underlying9 rfl rfl rfl) (cu rfl (aj (bM rfl rfl (am (ai (aN _ aa rfl (by exact eV)) ?_))))))
 refine ai (bh _ _ aa rfl ag (by (simp <;> rfl)) ah rfl) ?_
 exact kH rfl (aj (aG (qV rfl rfl)))
theorem DP:Spec Tryz.prog 126 (ba [.v (bt [61,61])] []) (aP (.sl (Bo.eq).code.length (inl (Bo.eq).code)) []):=by
 refine Spec.ofN Tryz.func126 rfl Tryz.ntmps126 rfl ?_
 refine am (ai (bp _ fC) (aj (aq (am (ej rfl (aj (ay (am (ai (aV (r:=false) _ _ Tryz.underlying9 rfl rfl rfl) (cu rfl ?_))))))))))
 refine aj (aW rfl rfl (am (ai (aV (r:=false) _ _ Tryz.underlying9 rfl rfl rfl) (cu rfl (aj (aW rfl rfl (am (ai (aV (r:=false) _ _ Tryz.underlying9 rfl rfl rfl) (cu rfl (aj ?_))))))))))
 refine aW rfl rfl (am (ai (aV (r:=false) _ _ Tryz.underlying9 rfl rfl rfl) (cu rfl (aj (aW rfl rfl (am (ai (aV (r:=false) _ _ Tryz.underlying9 rfl rfl rfl) (cu rfl (aj (aW rfl rfl ?_))))))))))
 refine am (ai (aV (r:=false) _ _ Tryz.underlying9 rfl rfl rfl) (cu rfl (aj (aW rfl rfl (am (ai (aV (r:=true) _ _ Tryz.underlying9 rfl rfl rfl) (cu rfl (aj (bM rfl rfl (aq ?_))))))))))
 refine aM (σ':=aE 45 [] [] [] []) kp ?_
 refine an (ai (aN _ aa rfl (by exact eV)) ?_)
 refine ai (bh _ _ aa rfl ag (by (simp <;> rfl)) ah rfl) ?_
 exact kH rfl (aj (aG (qV rfl rfl)))
theorem Gl:Spec Tryz.prog 126 (ba [.v (bt [62])] []) (aP (.sl (Bo.gt).code.length (inl (Bo.gt).code)) []):=by
 refine Spec.ofN Tryz.func126 rfl Tryz.ntmps126 rfl ?_
 refine am (ai (bp _ fC) (aj (aq (am (ej rfl (aj (ay (am (ai (aV (r:=false) _ _ Tryz.underlying9 rfl rfl rfl) (cu rfl ?_))))))))))
 refine aj (aW rfl rfl (am (ai (aV (r:=false) _ _ Tryz.underlying9 rfl rfl rfl) (cu rfl (aj (aW rfl rfl (am (ai (aV (r:=false) _ _ Tryz.underlying9 rfl rfl rfl) (cu rfl (aj ?_))))))))))
 refine aW rfl rfl (am (ai (aV (r:=false) _ _ Tryz.underlying9 rfl rfl rfl) (cu rfl (aj (aW rfl rfl (am (ai (aV (r:=false) _ _ Tryz.underlying9 rfl rfl rfl) (cu rfl (aj (aW rfl rfl ?_))))))))))
 refine am (ai (aV (r:=false) _ _ Tryz.underlying9 rfl rfl rfl) (cu rfl (aj (aW rfl rfl (am (ai (aV (r:=false) _ _ Tryz.underlying9 rfl rfl rfl) (cu rfl (aj (aW rfl rfl (aq ?_))))))))))
 refine aM (σ':=aE 45 [(3,_)] [] [] []) kp ?_
 refine an (ai (aV (r:=true) _ _ Tryz.underlying9 rfl rfl rfl) (cu rfl (aj (bM rfl rfl (am (ai (aN _ aa rfl (by exact eV)) ?_))))))
 refine ai (aN _ aa rfl (by exact eV)) ?_
 refine ai (bh _ _ aa rfl ag (by (simp <;> rfl)) ah rfl) ?_
 exact kH rfl (aj (aG (qV rfl rfl)))
theorem Ey:Spec Tryz.prog 126 (ba [.v (bt [62,61])] []) (aP (.sl (Bo.ge).code.length (inl (Bo.ge).code)) []):=by
 refine Spec.ofN Tryz.func126 rfl Tryz.ntmps126 rfl ?_
 refine am (ai (bp _ fC) (aj (aq (am (ej rfl (aj (ay (am (ai (aV (r:=false) _ _ Tryz.underlying9 rfl rfl rfl) (cu rfl ?_))))))))))
 refine aj (aW rfl rfl (am (ai (aV (r:=false) _ _ Tryz.underlying9 rfl rfl rfl) (cu rfl (aj (aW rfl rfl (am (ai (aV (r:=false) _ _ Tryz.underlying9 rfl rfl rfl) (cu rfl (aj ?_))))))))))
 refine aW rfl rfl (am (ai (aV (r:=false) _ _ Tryz.underlying9 rfl rfl rfl) (cu rfl (aj (aW rfl rfl (am (ai (aV (r:=false) _ _ Tryz.underlying9 rfl rfl rfl) (cu rfl (aj (aW rfl rfl ?_))))))))))
 refine am (ai (aV (r:=false) _ _ Tryz.underlying9 rfl rfl rfl) (cu rfl (aj (aW rfl rfl (am (ai (aV (r:=false) _ _ Tryz.underlying9 rfl rfl rfl) (cu rfl (aj (aW rfl rfl (aq ?_))))))))))
 refine aM (σ':=aE 45 [(3,_)] [] [] []) kp ?_
 refine an (ai (aV (r:=false) _ _ Tryz.underlying9 rfl rfl rfl) (cu rfl (aj (aW rfl rfl (am (ai (aV (r:=true) _ _ Tryz.underlying9 rfl rfl rfl) (cu rfl (aj (bM rfl rfl (am ?_))))))))))
 refine ai (aN _ aa rfl (by exact eV)) ?_
 refine ai (aN _ aa rfl (by exact eV)) ?_
 refine ai (bh _ _ aa rfl ag (by (simp <;> rfl)) ah rfl) ?_
 exact kH rfl (aj (aG (qV rfl rfl)))
theorem FG:Spec Tryz.prog 126 (ba [.v (bt [33,61])] []) (aP (.sl (Bo.ne).code.length (inl (Bo.ne).code)) []):=by
 refine Spec.ofN Tryz.func126 rfl Tryz.ntmps126 rfl ?_
 refine am (ai (bp _ fC) (aj (aq (am (ej rfl (aj (ay (am (ai (aV (r:=false) _ _ Tryz.underlying9 rfl rfl rfl) (cu rfl ?_))))))))))
 refine aj (aW rfl rfl (am (ai (aV (r:=false) _ _ Tryz.underlying9 rfl rfl rfl) (cu rfl (aj (aW rfl rfl (am (ai (aV (r:=false) _ _ Tryz.underlying9 rfl rfl rfl) (cu rfl (aj ?_))))))))))
 refine aW rfl rfl (am (ai (aV (r:=false) _ _ Tryz.underlying9 rfl rfl rfl) (cu rfl (aj (aW rfl rfl (am (ai (aV (r:=false) _ _ Tryz.underlying9 rfl rfl rfl) (cu rfl (aj (aW rfl rfl ?_))))))))))
 refine am (ai (aV (r:=false) _ _ Tryz.underlying9 rfl rfl rfl) (cu rfl (aj (aW rfl rfl (am (ai (aV (r:=false) _ _ Tryz.underlying9 rfl rfl rfl) (cu rfl (aj (aW rfl rfl (aq ?_))))))))))
 refine aM (σ':=aE 45 [(3,_)] [] [] []) kp ?_
 refine an (ai (aV (r:=false) _ _ Tryz.underlying9 rfl rfl rfl) (cu rfl (aj (aW rfl rfl (am (ai (aV (r:=false) _ _ Tryz.underlying9 rfl rfl rfl) (cu rfl (aj (aW rfl rfl (cp ?_))))))))))
 refine am (ai (aN _ aa rfl (by exact eV)) ?_)
 refine ai (aN _ aa rfl (by exact eV)) ?_
 refine ai (bh _ _ aa rfl ag (by (simp <;> rfl)) ah rfl) ?_
 exact kH rfl (aj (aG (qV rfl rfl)))
theorem zh (o:Bo):Spec Tryz.prog 126 (ba [.v (bt o.txt)] []) (aP (.sl o.code.length (inl o.code)) []):=by
 cases o
 ·exact Ce
 ·exact CV
 ·exact AE
 ·exact zJ
 ·exact FN
 ·exact FK
 ·exact DP
 ·exact Gl
 ·exact Ey
 exact FG

abbrev Cd:=Nat→List eW
abbrev CoS (u:AV) (d:Nd) (c:Cd):Prop:= ∀ a,a+(c a).length≤1000000→Spec Tryz.prog 91 (ba [u,pA d, .v (.int .i64 (a:Int))] []) (aP (.ref (0,8) 0 (c a).length) [((0,8), .row 48 2 (inl (c a)))])
def db:List Cd→Nat→List eW
 | [],_=> []
 | c::cs,a=> c a++db cs (a+(c a).length)
theorem qA: ∀ (l m:List Cd) (a:Nat),db (l++m) a=db l a++db m (a+(db l a).length)
 | [],m,a=> by simp [db]
 | c::l,m,a=> by simp only [List.cons_append,db,qA l m,List.append_assoc,List.length_append,Nat.add_assoc]
theorem yr {cs:List Cd} {j a:Nat} (h:j < cs.length):db (cs.take (j+1)) a=db (cs.take j) a++(cs.getD j fun _=> []) (a+(db (cs.take j) a).length):=by
 rw [List.take_succ_eq_append_getElem h,qA]
 simp [db,h]
theorem rV {cs:List Cd} {j a:Nat}:(db (cs.take j) a).length≤(db cs a).length:=by
 conv=> rhs;rw [← List.take_append_drop j cs,qA]
 rw [List.length_append];omega
abbrev mJ (u:AV) (L:List Nd) (cs:List Cd):Prop:= ∀ j,j < L.length→CoS u (ln L j) (cs.getD j fun _=> [])
theorem FY {u:AV}:mJ u [] []:=fun j hj=> by simp at hj
theorem yc {u:AV} {d:Nd} {c:Cd} {L:List Nd} {cs:List Cd} (h:CoS u d c) (h':mJ u L cs):mJ u (d::L) (c::cs):=fun j hj=> by
 cases j with
 | zero=> exact h
 | succ j=> exact h' j (by simpa using hj)
section
variable {d v:List Tx} {no:Nat} {on:List PV}
abbrev uu (d v:List Tx) (no:Nat) (on:List PV):AV:= .agg [.sl d.length (fo d), .sl v.length (fo v), .sl no on]
theorem dL (L:List Nd) (cs:List Cd) (hc:cs.length=L.length) (hk:mJ (uu d v no on) L cs) (a:Nat) (ha:a+(db cs a).length≤1000000):
  Spec Tryz.prog 125 (ba [uu d v no on, .sl L.length (nc L), .v (.int .i64 (a:Int))] []) (aP (.ref (0,8) 0 (db cs a).length) [((0,8), .row 48 2 (inl (db cs a)))]):=by
 refine Spec.ofN Tryz.func125 rfl Tryz.ntmps125 rfl ?_
 refine aq ?_
 refine HK 1 rfl rfl fun hlen=> ?_
 unfold maxLen at hlen
 refine an (ai (aQ (3,0) _ rfl rfl) (ai (bp _ fC) (aj (am (ai (so (7,0) _ 48 2 rfl rfl) ?_)))))
 refine aj (aU fun K3 hK3=> ?_)
 refine am (be rfl (aj (ay ?_)))
 refine bq (α:=Nat) (fun j=> j≤L.length) 28 [(1,_),(2,_),(3,_)] [((3,0),_)] (fun j=> [(8, .v (.int .i64 (j:Int))),(7, .ref (7,0) 0 (db (cs.take j) a).length)]) (fun j=> [((7,0), .row 48 2 (inl (db (cs.take j) a)))]) [] [] (fun j=> L.length - j) 0 ?_ (by
  refine Le.mkJ [] [] rfl ?_ ?_ trivial trivial ?_
  ·exact ⟨(iS rfl),(iV rfl),(iP rfl),(co ag),(cP rfl ag),trivial⟩
  ·exact ⟨(bF rfl rfl rfl),(fj rfl rfl rfl ag),trivial⟩
  kernel_rfl) ?_
 ·omega
 intro j hj
 have htk:(db (cs.take j) a).length≤(db cs a).length:=rV
 refine aU fun K5 hK5=> ?_
 refine am (aX rfl (eY rfl (ai (bo _ aa rfl) (ai (bl _ _ rfl rfl rfl) (aj (aR rfl (fun hc12=> ?_) (fun hc12=> ?_)))))))
 ·skip
  have hs:=yr (cs:=cs) (j:=j) (a:=a) ab
  have htk1:(db (cs.take (j+1)) a).length≤(db cs a).length:=rV
  have hsl:=congrArg List.length hs
  rw [List.length_append] at hsl
  have hcj:=hk j ab (a+(db (cs.take j) a).length) ab
  generalize (cs.getD j fun _=> []) (a+(db (cs.take j) a).length)=C at hs hsl hcj
  refine bs (hK5 _ ?_)
  clear hK5;try clear K5
  refine aq (ay ?_)
  refine aM (σ':=aE 28 [(1,_),(2,_),(3,_),(7,_),(8,_)] [((3,0),_),((7,0),_)] [] []) kp ?_
  refine bO 11 [15,16,17,18,19,20,21,22,23,24,25] [(50,0)] ae ae rfl (aL rfl) (rfl:_=[_,_,_,_,_,_,_,_,_,_,_]) (rfl:_=[_,_]) ?_
  refine ap (_,[]) (fun τ=> aH _ dW) ?_
  refine fP rfl ?_
  refine ap (_,[]) (fun τ=> az _ aa rfl rfl rfl rfl) ?_
  refine fQ rfl ?_
  refine ap (_,[]) (fun τ=> aH _ mL) ?_
  refine fU rfl ?_
  refine ap (_,[]) (fun τ=> aH _ eg) ?_
  refine fY rfl ?_
  refine ap (_,[]) (fun τ=> bn _ _ aa rfl rfl _ rfl ab (by (simp only [aO,bg,bj,bv,bu,bH,bw,bP];omega)) ag) ?_
  refine gz rfl ?_
  refine ap (_,[]) (fun τ=> cg _ aa rfl (by exact cN _ _ ab) rfl) ?_
  refine gZ rfl ?_
  refine ap (_,[]) (fun τ=> aH _ eg) ?_
  refine jg rfl ?_
  refine ap (_,[]) (fun τ=> aH _ dW) ?_
  refine ka rfl ?_
  refine ap (_,[]) (fun τ=> cV _ aa rfl rfl) ?_
  refine kG rfl ?_
  refine ap (_,[]) (fun τ=> aZ _ _ rfl rfl (bD ab)) ?_
  refine fW rfl ?_
  refine ap (_,[((50,0),_)]) (fun τ=> (bW aa [((0,8),(50,0))] ar (hcj.toI) trivial tr tr rfl rfl ae ae)) ?_
  refine gL rfl (bm ⟨rfl,?_⟩)
  refine ai (du (26,0) _ _ aa rfl rfl (bP _).symm (.ref rfl (od _) (lB _)) ab rfl (mr _ _) hsl.symm) ?_
  refine fk rfl (ek (an (aX rfl (ai (aZ _ _ rfl rfl (bD ab)) ?_))))
  refine be rfl (aJ (⟨j+1,?_,?_,?_⟩))
  ·omega
  ·skip
   refine Le.mkJ [((7,0),(26,0))] [] rfl ?_ ?_ trivial trivial ?_
   ·exact ⟨(by repeat' (exact Lv.sl)),(by repeat' (exact Lv.v)),(dJ (id:=(3,0)) rfl),(co ag),(cP rfl ag),trivial⟩
   ·exact ⟨(fu rfl rfl rfl rfl (by repeat' (first | exact Lv.sl | exact bf | refine ax ?_ ?_))),(fj rfl rfl rfl (by (rw [hs]))),trivial⟩
   kernel_rfl
  omega
 obtain rfl:j=cs.length:=by omega
 rw [List.take_length]
 refine bB (id (hK3 _ ?_))
 clear hK3;try clear K3
 exact am (gI rfl (fk rfl (aj (aG (bI (.inr rfl) rfl (.tmp dW) (Le.out [((0,8),(7,0))] [] (cP rfl rfl) rfl rfl rfl trivial ob))))))
theorem pD (N:Nd) (c:Cd) (h:CoS (uu d v no on) N c) (n:Int) (a:Nat) (ha:a+(c a).length≤1000000):
  Spec Tryz.prog 187 (ba [uu d v no on, .sl 1 (nc [N]), .v (.int .i64 n), .v (.int .i64 (a:Int))] []) (aP (.ref (0,8) 0 (c a).length) [((0,8), .row 48 2 (inl (c a)))]):=by
 have hc:=h a ha
 refine Spec.ofN Tryz.func187 rfl Tryz.ntmps187 rfl ?_
 refine am (ai (aQ (4,0) _ rfl rfl) (ai (bp _ fC) (aj (aq (am (eY rfl (ai (bo _ aa rfl) (ai (fM _ _ rfl rfl rfl) (aj (bM rfl rfl ?_))))))))))
 refine aq ?_
 refine aM (σ':=aE 21 [(1,_),(3,_),(4,_)] [((4,0),_)] [] []) kp ?_
 refine bO 5 [12,13,14,15,16] [] ae ae rfl (aL rfl) (rfl:_=[_,_,_,_,_]) (rfl:_=[_,_]) ?_
 refine ap (_,[]) (fun τ=> az _ aa rfl rfl rfl rfl) ?_
 refine fP rfl ?_
 refine ap (_,[]) (fun τ=> aH _ mL) ?_
 refine fQ rfl ?_
 refine ap (_,[]) (fun τ=> bn _ _ aa rfl rfl 0 rfl ab (by simp [nc,Nd.row]) rfl) ?_
 refine fU rfl ?_
 refine ap (_,[]) (fun τ=> cg _ aa rfl (by exact cN [N] 0 (by simp)) rfl) ?_
 refine fY rfl ?_
 refine ap (_,[]) (fun τ=> aH _ eg) ?_
 refine gz rfl (bm ⟨rfl,?_⟩)
 refine ai (cm aa [((0,8),(50,0))] ar (hc.toI) trivial tr ae) ?_
 exact fk rfl (aj (aG (bI (.inr rfl) rfl (.tmp dW) (Le.out [((0,8),(50,0))] [] (cP rfl rfl) rfl rfl rfl trivial ob))))
theorem vm (n:Int) (a:Nat):
  Spec Tryz.prog 187 (ba [uu d v no on, .sl 0 [], .v (.int .i64 n), .v (.int .i64 (a:Int))] []) (aP (.ref (0,8) 0 1) [((0,8), .row 48 2 (inl [{ op:= .push,n:=n }]))]):=by
 refine Spec.ofN Tryz.func187 rfl Tryz.ntmps187 rfl ?_
 refine am (ai (aQ (4,0) _ rfl rfl) (ai (bp _ fC) (aj (aq (am (eY rfl (ai (bo _ aa rfl) (ai (fM _ _ rfl rfl rfl) (aj (aW rfl rfl ?_))))))))))
 refine aT (am (aX rfl (ai (aN _ aa rfl (by exact eV)) ?_)))
 refine ai (kv (20,0) _ _ aa rfl ag (by (simp <;> rfl)) ah rfl rfl) ?_
 exact fk rfl (aj (aG (bI (.inr rfl) rfl (.tmp dW) (Le.out [((0,8),(20,0))] [] (cP rfl rfl) rfl rfl rfl trivial ob))))
def GD (c y z:Cd) (a:Nat):List eW:=
 c a++[{ op:= .unl,n:=((a+(c a).length+1+(y (a+(c a).length+1)).length+1:Nat):Int) }]++y (a+(c a).length+1)++
  [{ op:= .jump,n:=((a+(c a).length+1+(y (a+(c a).length+1)).length+1+(z (a+(c a).length+1+(y (a+(c a).length+1)).length+1)).length:Nat):Int) }]++z (a+(c a).length+1+(y (a+(c a).length+1)).length+1)
abbrev Nf (u:AV) (l:AV) (n:Int) (c:Cd):Prop:= ∀ a,a+(c a).length≤1000000→Spec Tryz.prog 187 (ba [u,l, .v (.int .i64 n), .v (.int .i64 (a:Int))] []) (aP (.ref (0,8) 0 (c a).length) [((0,8), .row 48 2 (inl (c a)))])
theorem lO (N:Nd) (c y z:Cd) (hc:CoS (uu d v no on) N c) (ly lz:Nat) (ys zs:List PV) (n:Int) (hy:Nf (uu d v no on) (.sl ly ys) n y) (hz:Nf (uu d v no on) (.sl lz zs) n z) (a:Nat) (ha:a+(GD c y z a).length≤1000000):
  Spec Tryz.prog 124 (ba [uu d v no on,pA N, .sl ly ys, .sl lz zs, .v (.int .i64 n), .v (.int .i64 (a:Int))] []) (aP (.ref (0,8) 0 (GD c y z a).length) [((0,8), .row 48 2 (inl (GD c y z a)))]):=by
 have hb: ∃ b,b=GD c y z a:=⟨_,rfl⟩
 obtain ⟨b,hb⟩:=hb
 rw [← hb] at ha ⊢
 unfold GD at hb
 have hbl:=congrArg List.length hb
 simp only [List.length_append,List.length_cons,List.length_nil] at hbl
 have h1:=hc a ab
 generalize c a=C at h1 hb hbl
 have h2:=hy (a+C.length+1) ab
 generalize y (a+C.length+1)=Y at h2 hb hbl
 obtain ⟨f,hf⟩: ∃ f,f=a+C.length+1+Y.length+1:=⟨_,rfl⟩
 rw [← hf] at hb hbl
 have h3:=hz f ab
 generalize z f=Z at h3 hb hbl
 refine Spec.ofN Tryz.func124 rfl Tryz.ntmps124 rfl ?_
 refine am (ai (aQ (6,0) _ rfl rfl) (ai (aQ (7,0) _ rfl rfl) (ai (bp _ fC) (aj (am (ai (az _ aa rfl rfl rfl rfl) (ai (az _ aa rfl rfl rfl rfl) (aX rfl (ai (cm aa [((0,8),(50,0))] ar (h1.toI) trivial tr ae) ?_)))))))))
 refine fk rfl (aj (aU fun K3 hK3=> ?_))
 refine an (ai (az _ aa rfl rfl rfl rfl) (eY rfl (aX rfl (aX rfl (gI rfl (ai (cV _ aa rfl rfl) (ai (aZ _ _ rfl rfl (bD ab)) ?_)))))))
 refine ai (aZ _ _ rfl rfl (bD ab)) ?_
 refine ai (cm aa [((0,8),(51,0))] ar (h2.toI) trivial tr ae) ?_
 refine fk rfl (aJ (hK3 _ ?_))
 clear hK3;try clear K3
 refine aq ?_
 refine aM (σ':=aE 63 [(3,_),(4,_),(5,_),(6,_),(13,_),(14,_)] [((6,0),_),((50,0),_),((51,0),_)] [] []) kp ?_
 refine an (aX rfl (gI rfl (ai (cV _ aa rfl rfl) (ai (aZ _ _ rfl rfl (bD ab)) ?_))))
 refine ai (aZ _ _ rfl rfl (bD ab)) ?_
 refine gI rfl (ai (cV _ aa rfl rfl) (ai (aZ _ _ rfl rfl (bD ab)) ?_))
 refine ai (aZ (r:=(f:Int)) _ _ rfl rfl ((bD ab).trans ab)) ?_
 refine be rfl (aj (aU fun K5 hK5=> ?_))
 refine an (ai (az _ aa rfl rfl rfl rfl) (eY rfl (aX rfl (aX rfl (ai (cm aa [((0,8),(52,0))] ar (h3.toI) trivial tr ae) ?_)))))
 refine fk rfl (aJ (hK5 _ ?_))
 clear hK5;try clear K5
 refine aq ?_
 refine aM (σ':=aE 63 [(13,_),(14,_),(15,_),(16,_)] [((50,0),_),((51,0),_),((52,0),_)] [] []) kp ?_
 refine an (gI rfl (aX rfl (ai (aN _ aa rfl (by exact eV)) ?_)))
 refine ai (bh _ _ aa rfl ag (by (simp <;> rfl)) ah rfl) ?_
 refine ai (du (48,0) _ _ aa rfl rfl (bP _).symm (.sl rfl) ab rfl (fl _ { op:= .unl,n:=f }) (show C.length+1=(C++[({ op:= .unl,n:=f }:eW)]).length by simp)) ?_
 refine fk rfl (aj (am (gI rfl (gI rfl (ai (du (51,1) _ _ aa rfl rfl (bP _).symm (.ref rfl (od _) (lB _)) (by simp;omega) rfl (mr _ _) (show (C++[({ op:= .unl,n:=f }:eW)]).length+Y.length=(C++[({ op:= .unl,n:=f }:eW)]++Y).length by simp;omega)) ?_)))))
 refine fk rfl (aj (am (gI rfl (aX rfl (gI rfl (ai (cV _ aa rfl rfl) (ai (aZ _ _ rfl rfl (bD ab)) ?_)))))))
 refine ai (aN _ aa rfl (by exact eV)) ?_
 refine ai (bh _ _ aa rfl ag (by (simp <;> rfl)) ah rfl) ?_
 refine ai (du (59,0) _ _ aa rfl rfl (bP _).symm (.sl rfl) (by simp;omega) rfl (fl _ { op:= .jump,n:=((f+Z.length:Nat):Int) }) (show (C++[({ op:= .unl,n:=f }:eW)]++Y).length+1=(C++[({ op:= .unl,n:=f }:eW)]++Y++[({ op:= .jump,n:=((f+Z.length:Nat):Int) }:eW)]).length by simp;omega)) ?_
 refine fk rfl (aj (aq ?_))
 refine aM (σ':=aE 63 [(13,_),(16,_)] [((52,0),_),((59,0),_)] [] []) kp ?_
 refine an (gI rfl (gI rfl (ai (du (62,0) _ _ aa rfl rfl (bP _).symm (.ref rfl (od _) (lB _)) (by simp;omega) rfl ((mr _ _).trans (congrArg inl hb.symm)) (show _+Z.length=b.length by simp;omega)) ?_)))
 exact fk rfl (aj (aG (bI (.inr rfl) rfl (.tmp dW) (Le.out [((0,8),(62,0))] [] (cP rfl rfl) rfl rfl rfl trivial ob))))
end

section
variable {d v:List Tx} {no:Nat} {on:List PV}
theorem GZ (n:Nat):CoS (uu d v no on) (nd 12 n [] []) (fun _=> [{ op:= .push,n:=(n:Int) }]):=fun a ha=> by
 refine Spec.ofN Tryz.func91 rfl Tryz.ntmps91 rfl ?_
 refine am (ai (aQ (3,0) _ rfl rfl) (ai (aQ (4,0) _ rfl rfl) (ai (bp _ fC) (aj (aq (am (bb rfl rfl rfl (cf rfl rfl rfl (aj (ay ?_))))))))))
 refine aq (iO rfl rfl rfl rfl rfl (aT (bM rfl rfl (am (bb rfl rfl rfl (cf rfl rfl rfl (ai (aN _ aa rfl (by exact eV)) ?_)))))))
 refine ai (kv (19,0) _ _ aa rfl ag (by (simp <;> rfl)) ah rfl rfl) ?_
 exact fk rfl (aj (aG (bI (.inr rfl) rfl (.tmp dW) (Le.out [((0,8),(19,0))] [] (cP rfl rfl) rfl rfl rfl trivial ob))))
theorem xb (n:Nat):CoS (uu d v no on) (nd 13 n [] []) (fun _=> [{ op:= .push,n:=(n:Int) }]):=fun a ha=> by
 refine Spec.ofN Tryz.func91 rfl Tryz.ntmps91 rfl ?_
 refine am (ai (aQ (3,0) _ rfl rfl) (ai (aQ (4,0) _ rfl rfl) (ai (bp _ fC) (aj (aq (am (bb rfl rfl rfl (cf rfl rfl rfl (aj (ay ?_))))))))))
 refine aq (cK rfl rfl rfl rfl rfl (zr rfl rfl rfl rfl rfl (am (bb rfl rfl rfl (cf rfl rfl rfl (ai (aN _ aa rfl (by exact eV)) ?_))))))
 refine ai (kv (19,0) _ _ aa rfl ag (by (simp <;> rfl)) ah rfl rfl) ?_
 exact fk rfl (aj (aG (bI (.inr rfl) rfl (.tmp dW) (Le.out [((0,8),(19,0))] [] (cP rfl rfl) rfl rfl rfl trivial ob))))
theorem Il (hn:(d++v).Nodup) (hl:(d++v).length≤1000) (i:Nat) (hi:i < (d++v).length):CoS (uu d v no on) (nd 14 0 ((d++v).getD i []) []) (fun _=> [{ op:= .var,n:=(i:Int) }]):=fun a ha=> by
 refine Spec.ofN Tryz.func91 rfl Tryz.ntmps91 rfl ?_
 refine am (ai (aQ (3,0) _ rfl rfl) (ai (aQ (4,0) _ rfl rfl) (ai (bp _ fC) (aj (aq (am (bb rfl rfl rfl (cf rfl rfl rfl (aj (ay ?_))))))))))
 refine aq (cK rfl rfl rfl rfl rfl (dZ rfl rfl rfl rfl rfl (iO rfl rfl rfl rfl rfl (am (ai (az _ aa rfl rfl rfl rfl) (bb rfl rfl rfl (ai (aF _ aa rfl rfl fA) (ai (aI aa al (mY d v on no hn hl i hi) rfl rfl) ?_))))))))
 refine ai (aN _ aa rfl (by exact eV)) ?_
 refine ai (kv (27,0) _ _ aa rfl ag (by (simp <;> rfl)) ah rfl rfl) ?_
 exact fk rfl (aj (aG (bI (.inr rfl) rfl (.tmp dW) (Le.out [((0,8),(27,0))] [] (cP rfl rfl) rfl rfl rfl trivial ob))))
theorem Fa (k:Nat) (hk:k < 9):CoS (uu d v no on) (nd 15 0 (bltT.getD k []) []) (fun _=> [{ op:= .name,n:=(k:Int) }]):=fun a ha=> by
 refine Spec.ofN Tryz.func91 rfl Tryz.ntmps91 rfl ?_
 refine am (ai (aQ (3,0) _ rfl rfl) (ai (aQ (4,0) _ rfl rfl) (ai (bp _ fC) (aj (aq (am (bb rfl rfl rfl (cf rfl rfl rfl (aj (ay ?_))))))))))
 refine aq (cK rfl rfl rfl rfl rfl (dZ rfl rfl rfl rfl rfl (cK rfl rfl rfl rfl rfl (iO rfl rfl rfl rfl rfl (aq ?_)))))
 refine aM (σ':=aE 211 [(4,_)] [((4,0),_)] [] []) kp ?_
 refine bO 6 [30,31,32,33,34,35] [(35,0)] ae ae rfl (aL rfl) (rfl:_=[_,_,_,_,_,_]) (rfl:_=[_]) ?_
 refine ap (_,[]) (fun τ=> (aI aa (by repeat' (exact cX)) (pv) rfl rfl)) ?_
 refine fP rfl ?_
 refine ap (_,[]) (fun τ=> aA _ aa rfl rfl rfl) ?_
 refine fQ rfl ?_
 refine ap (_,[]) (fun τ=> aF _ aa rfl rfl fA) ?_
 refine fU rfl ?_
 refine ap (_,[]) (fun τ=> (aI aa al (yy bltT 9 rfl ab ah k hk) rfl rfl)) ?_
 refine fY rfl ?_
 refine ap (_,[]) (fun τ=> aN _ aa rfl (by exact eV)) ?_
 refine gz rfl ?_
 refine ap (_,[((35,0),_)]) (fun τ=> kv (35,0) _ _ aa rfl ag (by (simp <;> rfl)) ah rfl rfl) ?_
 refine gZ rfl (bm ⟨rfl,?_⟩)
 exact fk rfl (aj (aG (bI (.inr rfl) rfl (.tmp dW) (Le.out [((0,8),(35,0))] [] (cP rfl rfl) rfl rfl rfl trivial ob))))
theorem CG (n:Nat):CoS (uu d v no on) (nd 5 n [] []) (fun _=> [{ op:= .timer,n:=(n:Int) }]):=fun a ha=> by
 refine Spec.ofN Tryz.func91 rfl Tryz.ntmps91 rfl ?_
 refine am (ai (aQ (3,0) _ rfl rfl) (ai (aQ (4,0) _ rfl rfl) (ai (bp _ fC) (aj (aq (am (bb rfl rfl rfl (cf rfl rfl rfl (aj (ay ?_))))))))))
 refine aq (cK rfl rfl rfl rfl rfl (dZ rfl rfl rfl rfl rfl ?_))
 iterate 3 refine cK rfl rfl rfl rfl rfl ?_
 refine aq ?_
 refine aM (σ':=aE 211 [(2,_),(3,_),(4,_),(12,_)] [((3,0),_),((4,0),_)] [] []) kp ?_
 refine zr rfl rfl rfl rfl rfl (am (bb rfl rfl rfl (cf rfl rfl rfl (ai (aN _ aa rfl (by exact eV)) ?_))))
 refine ai (kv (56,0) _ _ aa rfl ag (by (simp <;> rfl)) ah rfl rfl) ?_
 exact fk rfl (aj (aG (bI (.inr rfl) rfl (.tmp dW) (Le.out [((0,8),(56,0))] [] (cP rfl rfl) rfl rfl rfl trivial ob))))
theorem zn (n:Nat):CoS (uu d v no on) (nd 6 n [] []) (fun _=> [{ op:= .cancel,n:=(n:Int) }]):=fun a ha=> by
 refine Spec.ofN Tryz.func91 rfl Tryz.ntmps91 rfl ?_
 refine am (ai (aQ (3,0) _ rfl rfl) (ai (aQ (4,0) _ rfl rfl) (ai (bp _ fC) (aj (aq (am (bb rfl rfl rfl (cf rfl rfl rfl (aj (ay ?_))))))))))
 refine aq (cK rfl rfl rfl rfl rfl (dZ rfl rfl rfl rfl rfl ?_))
 iterate 3 refine cK rfl rfl rfl rfl rfl ?_
 refine aq ?_
 refine aM (σ':=aE 211 [(2,_),(3,_),(4,_),(12,_)] [((3,0),_),((4,0),_)] [] []) kp ?_
 refine dZ rfl rfl rfl rfl rfl (iO rfl rfl rfl rfl rfl (am (bb rfl rfl rfl (cf rfl rfl rfl (ai (aN _ aa rfl (by exact eV)) ?_)))))
 refine ai (kv (62,0) _ _ aa rfl ag (by (simp <;> rfl)) ah rfl rfl) ?_
 exact fk rfl (aj (aG (bI (.inr rfl) rfl (.tmp dW) (Le.out [((0,8),(62,0))] [] (cP rfl rfl) rfl rfl rfl trivial ob))))
theorem co_sync:CoS (uu d v no on) (nd 7 0 [] []) (fun _=> [{ op:= .sync }]):=fun a ha=> by
 refine Spec.ofN Tryz.func91 rfl Tryz.ntmps91 rfl ?_
 refine am (ai (aQ (3,0) _ rfl rfl) (ai (aQ (4,0) _ rfl rfl) (ai (bp _ fC) (aj (aq (am (bb rfl rfl rfl (cf rfl rfl rfl (aj (ay ?_))))))))))
 refine aq (cK rfl rfl rfl rfl rfl (dZ rfl rfl rfl rfl rfl ?_))
 iterate 3 refine cK rfl rfl rfl rfl rfl ?_
 refine aq ?_
 refine aM (σ':=aE 211 [(2,_),(3,_),(4,_),(12,_)] [((3,0),_),((4,0),_)] [] []) kp ?_
 refine dZ rfl rfl rfl rfl rfl (cK rfl rfl rfl rfl rfl (iO rfl rfl rfl rfl rfl (am (ai (aN _ aa rfl (by exact eV)) ?_))))
 refine ai (kv (66,0) _ _ aa rfl ag (by (simp <;> rfl)) ah rfl rfl) ?_
 exact fk rfl (aj (aG (bI (.inr rfl) rfl (.tmp dW) (Le.out [((0,8),(66,0))] [] (cP rfl rfl) rfl rfl rfl trivial ob))))
theorem co_stop:CoS (uu d v no on) (nd 10 0 [] []) (fun _=> [{ op:= .stop }]):=fun a ha=> by
 refine Spec.ofN Tryz.func91 rfl Tryz.ntmps91 rfl ?_
 refine am (ai (aQ (3,0) _ rfl rfl) (ai (aQ (4,0) _ rfl rfl) (ai (bp _ fC) (aj (aq (am (bb rfl rfl rfl (cf rfl rfl rfl (aj (ay ?_))))))))))
 refine aq (cK rfl rfl rfl rfl rfl (dZ rfl rfl rfl rfl rfl ?_))
 iterate 3 refine cK rfl rfl rfl rfl rfl ?_
 refine aq ?_
 refine aM (σ':=aE 211 [(2,_),(3,_),(4,_),(12,_)] [((3,0),_),((4,0),_)] [] []) kp ?_
 refine dZ rfl rfl rfl rfl rfl ?_
 iterate 2 refine cK rfl rfl rfl rfl rfl ?_
 refine iO rfl rfl rfl rfl rfl (am (ai (aN _ aa rfl (by exact eV)) ?_))
 refine ai (kv (70,0) _ _ aa rfl ag (by (simp <;> rfl)) ah rfl rfl) ?_
 exact fk rfl (aj (aG (bI (.inr rfl) rfl (.tmp dW) (Le.out [((0,8),(70,0))] [] (cP rfl rfl) rfl rfl rfl trivial ob))))
theorem Hx {c y z:Nd} {cc cy cz:Cd} (hc:CoS (uu d v no on) c cc) (hy:CoS (uu d v no on) y cy) (hz:CoS (uu d v no on) z cz):CoS (uu d v no on) (nd 2 0 [] [c,y,z]) (GD cc cy cz):=fun a ha=> by
 have hb:=lO (on:=on) c cc cy cz hc 1 1 (nc [y]) (nc [z]) 0 (fun a ha=> pD y cy hy 0 a ha) (fun a ha=> pD z cz hz 0 a ha) a ha
 refine Spec.ofN Tryz.func91 rfl Tryz.ntmps91 rfl ?_
 refine am (ai (aQ (3,0) _ rfl rfl) (ai (aQ (4,0) _ rfl rfl) (ai (bp _ fC) (aj (aq (am (bb rfl rfl rfl (cf rfl rfl rfl (aj (ay ?_))))))))))
 refine aq (cK rfl rfl rfl rfl rfl (dZ rfl rfl rfl rfl rfl ?_))
 iterate 2 refine cK rfl rfl rfl rfl rfl ?_
 refine iO rfl rfl rfl rfl rfl (aq ?_)
 refine aM (σ':=aE 211 [(2,_),(3,_),(4,_)] [((3,0),_),((4,0),_)] [] []) kp ?_
 refine bO 12 [38,39,40,41,42,43,44,45,46,47,48,49] [] ae ae rfl (aL rfl) (rfl:_=[_,_,_,_,_,_,_,_,_,_,_,_]) (rfl:_=[_,_]) ?_
 refine ap (_,[]) (fun τ=> az _ aa rfl rfl rfl rfl) ?_
 refine fP rfl ?_
 refine ap (_,[]) (fun τ=> aA _ aa rfl rfl rfl) ?_
 refine fQ rfl ?_
 refine ap (_,[]) (fun τ=> aF _ aa rfl rfl eG) ?_
 refine fU rfl ?_
 refine ap (_,[]) (fun τ=> bn _ _ aa rfl rfl 0 rfl (show 0 < 3 by omega) (Nat.le_of_ble_eq_true rfl) rfl) ?_
 refine fY rfl ?_
 refine ap (_,[]) (fun τ=> cg _ aa rfl (by exact cN [c,y,z] 0 (by simp)) rfl) ?_
 refine gz rfl ?_
 refine ap (_,[]) (fun τ=> aA _ aa rfl rfl rfl) ?_
 refine gZ rfl ?_
 refine ap (_,[]) (fun τ=> aF _ aa rfl rfl eG) ?_
 refine jg rfl ?_
 refine ap (_,[]) (fun τ=> lc _ _ _ aa rfl 1 2 (.lit rfl rfl) (.lit rfl rfl) ab (show 2≤3 by omega) (show _=nc [y] from rfl) rfl) ?_
 refine ka rfl ?_
 refine ap (_,[]) (fun τ=> aA _ aa rfl rfl rfl) ?_
 refine kG rfl ?_
 refine ap (_,[]) (fun τ=> aF _ aa rfl rfl eG) ?_
 refine fW rfl ?_
 refine ap (_,[]) (fun τ=> lc _ _ _ aa rfl 2 3 (.lit rfl rfl) (.lit rfl rfl) ab (show 3≤3 by omega) (show _=nc [z] from rfl) rfl) ?_
 refine gL rfl ?_
 refine ap (_,[]) (fun τ=> aH _ eg) ?_
 refine kP rfl (bm ⟨rfl,?_⟩)
 refine ai (cm aa [((0,8),(50,0))] ar (hb.toI) trivial tr ae) ?_
 exact fk rfl (aj (aG (bI (.inr rfl) rfl (.tmp dW) (Le.out [((0,8),(50,0))] [] (cP rfl rfl) rfl rfl rfl trivial ob))))
theorem GQ {c y:Nd} {cc cy:Cd} (hc:CoS (uu d v no on) c cc) (hy:CoS (uu d v no on) y cy):CoS (uu d v no on) (nd 18 0 [38,38] [c,y]) (GD cc cy (fun _=> [{ op:= .push,n:=0 }])):=fun a ha=> by
 have hb:=lO (on:=on) c cc cy (fun _=> [{ op:= .push,n:=0 }]) hc 1 0 (nc [y]) [] 0 (fun a ha=> pD y cy hy 0 a ha) (fun a _=> vm 0 a) a ha
 refine Spec.ofN Tryz.func91 rfl Tryz.ntmps91 rfl ?_
 refine am (ai (aQ (3,0) _ rfl rfl) (ai (aQ (4,0) _ rfl rfl) (ai (bp _ fC) (aj (aq (am (bb rfl rfl rfl (cf rfl rfl rfl (aj (ay ?_))))))))))
 refine aq (cK rfl rfl rfl rfl rfl (dZ rfl rfl rfl rfl rfl ?_))
 iterate 3 refine cK rfl rfl rfl rfl rfl ?_
 refine aq ?_
 refine aM (σ':=aE 211 [(2,_),(3,_),(4,_),(12,_)] [((3,0),_),((4,0),_)] [] []) kp ?_
 refine dZ rfl rfl rfl rfl rfl ?_
 iterate 4 refine cK rfl rfl rfl rfl rfl ?_
 refine cp (aq (am (bb rfl rfl rfl (cf rfl rfl rfl (kf rfl rfl rfl (cE rfl (au rfl rfl (aA _ aa rfl rfl rfl) (au rfl rfl (aF _ aa rfl rfl fA) (au rfl rfl (aV (r:=true) _ _ Tryz.underlying9 rfl rfl rfl) (ai (aB _ _ _ rfl bJ) ?_))))))))))
 refine aj (bM rfl rfl (aq ?_))
 refine aM (σ':=aE 211 [(2,_),(3,_),(4,_)] [((3,0),_),((4,0),_)] [] []) kp ?_
 refine bO 9 [119,120,121,122,123,124,125,126,127] [] ae ae rfl (aL rfl) (rfl:_=[_,_,_,_,_,_,_,_,_]) (rfl:_=[_,_]) ?_
 refine ap (_,[]) (fun τ=> az _ aa rfl rfl rfl rfl) ?_
 refine fP rfl ?_
 refine ap (_,[]) (fun τ=> aA _ aa rfl rfl rfl) ?_
 refine fQ rfl ?_
 refine ap (_,[]) (fun τ=> aF _ aa rfl rfl eG) ?_
 refine fU rfl ?_
 refine ap (_,[]) (fun τ=> bn _ _ aa rfl rfl 0 rfl (show 0 < 2 by omega) (Nat.le_of_ble_eq_true rfl) rfl) ?_
 refine fY rfl ?_
 refine ap (_,[]) (fun τ=> cg _ aa rfl (by exact cN [c,y] 0 (by simp)) rfl) ?_
 refine gz rfl ?_
 refine ap (_,[]) (fun τ=> aA _ aa rfl rfl rfl) ?_
 refine gZ rfl ?_
 refine ap (_,[]) (fun τ=> aF _ aa rfl rfl eG) ?_
 refine jg rfl ?_
 refine ap (_,[]) (fun τ=> lc _ _ _ aa rfl 1 2 (.lit rfl rfl) (.lit rfl rfl) ab (show 2≤2 by omega) (show _=nc [y] from rfl) rfl) ?_
 refine ka rfl ?_
 refine ap (_,[]) (fun τ=> aH _ eg) ?_
 refine kG rfl (bm ⟨rfl,?_⟩)
 refine ai (cm aa [((0,8),(50,0))] ar (hb.toI) trivial tr ae) ?_
 exact fk rfl (aj (aG (bI (.inr rfl) rfl (.tmp dW) (Le.out [((0,8),(50,0))] [] (cP rfl rfl) rfl rfl rfl trivial ob))))
theorem Jp {c y:Nd} {cc cy:Cd} (hc:CoS (uu d v no on) c cc) (hy:CoS (uu d v no on) y cy):CoS (uu d v no on) (nd 18 0 [124,124] [c,y]) (GD cc (fun _=> [{ op:= .push,n:=1 }]) cy):=fun a ha=> by
 have hb:=lO (on:=on) c cc (fun _=> [{ op:= .push,n:=1 }]) cy hc 0 1 [] (nc [y]) 1 (fun a _=> vm 1 a) (fun a ha=> pD y cy hy 1 a ha) a ha
 refine Spec.ofN Tryz.func91 rfl Tryz.ntmps91 rfl ?_
 refine am (ai (aQ (3,0) _ rfl rfl) (ai (aQ (4,0) _ rfl rfl) (ai (bp _ fC) (aj (aq (am (bb rfl rfl rfl (cf rfl rfl rfl (aj (ay ?_))))))))))
 refine aq (cK rfl rfl rfl rfl rfl (dZ rfl rfl rfl rfl rfl ?_))
 iterate 3 refine cK rfl rfl rfl rfl rfl ?_
 refine aq ?_
 refine aM (σ':=aE 211 [(2,_),(3,_),(4,_),(12,_)] [((3,0),_),((4,0),_)] [] []) kp ?_
 refine dZ rfl rfl rfl rfl rfl ?_
 iterate 4 refine cK rfl rfl rfl rfl rfl ?_
 refine cp (aq (am (bb rfl rfl rfl (cf rfl rfl rfl (kf rfl rfl rfl (cE rfl (au rfl rfl (aA _ aa rfl rfl rfl) (au rfl rfl (aF _ aa rfl rfl fA) (au rfl rfl (aV (r:=false) _ _ Tryz.underlying9 rfl rfl rfl) (ai (aB _ _ _ rfl bJ) ?_))))))))))
 refine aj (aW rfl rfl (aT (aq (aq ?_))))
 refine aM (σ':=aE 211 [(2,_),(3,_),(4,_)] [((3,0),_),((4,0),_)] [] []) kp ?_
 refine an (bb rfl rfl rfl (cf rfl rfl rfl (kf rfl rfl rfl (cE rfl (au rfl rfl (aA _ aa rfl rfl rfl) (au rfl rfl (aF _ aa rfl rfl fA) (au rfl rfl (aV (r:=true) _ _ Tryz.underlying9 rfl rfl rfl) (ai (aB _ _ _ rfl bJ) (aj (bM rfl rfl ?_))))))))))
 refine aq ?_
 refine aM (σ':=aE 211 [(2,_),(3,_),(4,_)] [((3,0),_),((4,0),_)] [] []) kp ?_
 refine bO 9 [137,138,139,140,141,142,143,144,145] [] ae ae rfl (aL rfl) (rfl:_=[_,_,_,_,_,_,_,_,_]) (rfl:_=[_,_]) ?_
 refine ap (_,[]) (fun τ=> az _ aa rfl rfl rfl rfl) ?_
 refine fP rfl ?_
 refine ap (_,[]) (fun τ=> aA _ aa rfl rfl rfl) ?_
 refine fQ rfl ?_
 refine ap (_,[]) (fun τ=> aF _ aa rfl rfl eG) ?_
 refine fU rfl ?_
 refine ap (_,[]) (fun τ=> bn _ _ aa rfl rfl 0 rfl (show 0 < 2 by omega) (Nat.le_of_ble_eq_true rfl) rfl) ?_
 refine fY rfl ?_
 refine ap (_,[]) (fun τ=> cg _ aa rfl (by exact cN [c,y] 0 (by simp)) rfl) ?_
 refine gz rfl ?_
 refine ap (_,[]) (fun τ=> aA _ aa rfl rfl rfl) ?_
 refine gZ rfl ?_
 refine ap (_,[]) (fun τ=> aF _ aa rfl rfl eG) ?_
 refine jg rfl ?_
 refine ap (_,[]) (fun τ=> lc _ _ _ aa rfl 1 2 (.lit rfl rfl) (.lit rfl rfl) ab (show 2≤2 by omega) (show _=nc [y] from rfl) rfl) ?_
 refine ka rfl ?_
 refine ap (_,[]) (fun τ=> aH _ eg) ?_
 refine kG rfl (bm ⟨rfl,?_⟩)
 refine ai (cm aa [((0,8),(50,0))] ar (hb.toI) trivial tr ae) ?_
 exact fk rfl (aj (aG (bI (.inr rfl) rfl (.tmp dW) (Le.out [((0,8),(50,0))] [] (cP rfl rfl) rfl rfl rfl trivial ob))))
theorem EO {L:List Nd} {cs:List Cd} (hc:cs.length=L.length) (hk:mJ (uu d v no on) L cs):CoS (uu d v no on) (nd 16 0 [] L) (fun a=> db cs a++[{ op:= .draw }]):=fun a ha=> by
 have hl2:a+(db cs a).length≤1000000:=by simp only [List.length_append] at ha;omega
 have hq:=dL (d:=d) (v:=v) (no:=no) (on:=on) L cs hc hk a hl2
 refine Spec.ofN Tryz.func91 rfl Tryz.ntmps91 rfl ?_
 refine am (ai (aQ (3,0) _ rfl rfl) (ai (aQ (4,0) _ rfl rfl) (ai (bp _ fC) (aj (aq (am (bb rfl rfl rfl (cf rfl rfl rfl (aj (ay ?_))))))))))
 refine aq (cK rfl rfl rfl rfl rfl (dZ rfl rfl rfl rfl rfl ?_))
 iterate 3 refine cK rfl rfl rfl rfl rfl ?_
 refine aq ?_
 refine aM (σ':=aE 211 [(2,_),(3,_),(4,_),(12,_)] [((3,0),_),((4,0),_)] [] []) kp ?_
 refine dZ rfl rfl rfl rfl rfl ?_
 iterate 4 refine cK rfl rfl rfl rfl rfl ?_
 refine cp (aq (am (bb rfl rfl rfl (cf rfl rfl rfl (gM rfl rfl rfl (cE rfl (aK rfl rfl ah ?_)))))))
 refine aK rfl rfl ah ?_
 refine aK rfl rfl ah ?_
 refine ai (aB _ _ _ rfl bJ) (aj (aW rfl rfl (aT (aq (aq ?_)))))
 refine aM (σ':=aE 211 [(2,_),(3,_),(4,_)] [((3,0),_),((4,0),_)] [] []) kp ?_
 refine an (bb rfl rfl rfl (cf rfl rfl rfl (gM rfl rfl rfl (cE rfl (aK rfl rfl ah ?_)))))
 refine aK rfl rfl ah ?_
 refine aK rfl rfl ah ?_
 refine ai (aB _ _ _ rfl bJ) (aj (aW rfl rfl (aT (am (ai (az _ aa rfl rfl rfl rfl) (bb rfl rfl rfl (eZ rfl rfl rfl (aX rfl (ai (cm aa [((0,8),(50,0))] ar (hq.toI) trivial tr ae) ?_)))))))))
 refine fk rfl (aj (aq (am (bb rfl rfl rfl (cf rfl rfl rfl (aj (ay (aq ?_))))))))
 refine aM (σ':=aE 211 [(3,_),(4,_),(10,_),(153,_)] [((3,0),_),((4,0),_),((50,0),_)] [] []) kp ?_
 refine dZ rfl rfl rfl rfl rfl (iO rfl rfl rfl rfl rfl (am (gI rfl (ai (aN _ aa rfl (by exact eV)) ?_))))
 refine ai (bh _ _ aa rfl ag (by (simp <;> rfl)) ah rfl) ?_
 refine ai (du (166,0) _ _ aa rfl rfl (bP _).symm (.sl rfl) ab rfl (fl _ { op:= .draw }) (show (db cs a).length+1=(db cs a++[({ op:= .draw }:eW)]).length by simp)) ?_
 exact fk rfl (aj (aG (bI (.inr rfl) rfl (.tmp dW) (Le.out [((0,8),(166,0))] [] (cP rfl rfl) rfl rfl rfl trivial ob))))
theorem IB {L:List Nd} {cs:List Cd} (hc:cs.length=L.length) (hk:mJ (uu d v no on) L cs):CoS (uu d v no on) (nd 17 0 [45] L) (fun a=> db cs a++[{ op:= .neg }]):=fun a ha=> by
 have hl2:a+(db cs a).length≤1000000:=by simp only [List.length_append] at ha;omega
 have hq:=dL (d:=d) (v:=v) (no:=no) (on:=on) L cs hc hk a hl2
 refine Spec.ofN Tryz.func91 rfl Tryz.ntmps91 rfl ?_
 refine am (ai (aQ (3,0) _ rfl rfl) (ai (aQ (4,0) _ rfl rfl) (ai (bp _ fC) (aj (aq (am (bb rfl rfl rfl (cf rfl rfl rfl (aj (ay ?_))))))))))
 refine aq (cK rfl rfl rfl rfl rfl (dZ rfl rfl rfl rfl rfl ?_))
 iterate 3 refine cK rfl rfl rfl rfl rfl ?_
 refine aq ?_
 refine aM (σ':=aE 211 [(2,_),(3,_),(4,_),(12,_)] [((3,0),_),((4,0),_)] [] []) kp ?_
 refine dZ rfl rfl rfl rfl rfl ?_
 iterate 4 refine cK rfl rfl rfl rfl rfl ?_
 refine cp (aq (am (bb rfl rfl rfl (cf rfl rfl rfl (gM rfl rfl rfl (cE rfl (aK rfl rfl ah ?_)))))))
 refine aK rfl rfl ah ?_
 refine aK rfl rfl ah ?_
 refine ai (aB _ _ _ rfl bJ) (aj (aW rfl rfl (aT (aq (aq ?_)))))
 refine aM (σ':=aE 211 [(2,_),(3,_),(4,_)] [((3,0),_),((4,0),_)] [] []) kp ?_
 refine an (bb rfl rfl rfl (cf rfl rfl rfl (gM rfl rfl rfl (cE rfl (aK rfl rfl ah ?_)))))
 refine aK rfl rfl ah ?_
 refine aK rfl rfl ah ?_
 refine ai (aB _ _ _ rfl bJ) (aj (aW rfl rfl (aT (am (ai (az _ aa rfl rfl rfl rfl) (bb rfl rfl rfl (eZ rfl rfl rfl (aX rfl (ai (cm aa [((0,8),(50,0))] ar (hq.toI) trivial tr ae) ?_)))))))))
 refine fk rfl (aj (aq (am (bb rfl rfl rfl (cf rfl rfl rfl (aj (ay (aq ?_))))))))
 refine aM (σ':=aE 211 [(3,_),(4,_),(10,_),(153,_)] [((3,0),_),((4,0),_),((50,0),_)] [] []) kp ?_
 refine dZ rfl rfl rfl rfl rfl (cK rfl rfl rfl rfl rfl (iO rfl rfl rfl rfl rfl (aq (am (bb rfl rfl rfl (ai (aF _ aa rfl rfl fA) (ai (aV (r:=true) _ _ Tryz.underlying9 rfl rfl rfl) (aj (bM rfl rfl (am ?_))))))))))
 refine gI rfl (ai (aN _ aa rfl (by exact eV)) ?_)
 refine ai (bh _ _ aa rfl ag (by (simp <;> rfl)) ah rfl) ?_
 refine ai (du (175,0) _ _ aa rfl rfl (bP _).symm (.sl rfl) ab rfl (fl _ { op:= .neg }) (show (db cs a).length+1=(db cs a++[({ op:= .neg }:eW)]).length by simp)) ?_
 exact fk rfl (aj (aG (bI (.inr rfl) rfl (.tmp dW) (Le.out [((0,8),(175,0))] [] (cP rfl rfl) rfl rfl rfl trivial ob))))
theorem HP {L:List Nd} {cs:List Cd} (hc:cs.length=L.length) (hk:mJ (uu d v no on) L cs):CoS (uu d v no on) (nd 17 0 [33] L) (fun a=> db cs a++[{ op:= .not }]):=fun a ha=> by
 have hl2:a+(db cs a).length≤1000000:=by simp only [List.length_append] at ha;omega
 have hq:=dL (d:=d) (v:=v) (no:=no) (on:=on) L cs hc hk a hl2
 refine Spec.ofN Tryz.func91 rfl Tryz.ntmps91 rfl ?_
 refine am (ai (aQ (3,0) _ rfl rfl) (ai (aQ (4,0) _ rfl rfl) (ai (bp _ fC) (aj (aq (am (bb rfl rfl rfl (cf rfl rfl rfl (aj (ay ?_))))))))))
 refine aq (cK rfl rfl rfl rfl rfl (dZ rfl rfl rfl rfl rfl ?_))
 iterate 3 refine cK rfl rfl rfl rfl rfl ?_
 refine aq ?_
 refine aM (σ':=aE 211 [(2,_),(3,_),(4,_),(12,_)] [((3,0),_),((4,0),_)] [] []) kp ?_
 refine dZ rfl rfl rfl rfl rfl ?_
 iterate 4 refine cK rfl rfl rfl rfl rfl ?_
 refine cp (aq (am (bb rfl rfl rfl (cf rfl rfl rfl (gM rfl rfl rfl (cE rfl (aK rfl rfl ah ?_)))))))
 refine aK rfl rfl ah ?_
 refine aK rfl rfl ah ?_
 refine ai (aB _ _ _ rfl bJ) (aj (aW rfl rfl (aT (aq (aq ?_)))))
 refine aM (σ':=aE 211 [(2,_),(3,_),(4,_)] [((3,0),_),((4,0),_)] [] []) kp ?_
 refine an (bb rfl rfl rfl (cf rfl rfl rfl (gM rfl rfl rfl (cE rfl (aK rfl rfl ah ?_)))))
 refine aK rfl rfl ah ?_
 refine aK rfl rfl ah ?_
 refine ai (aB _ _ _ rfl bJ) (aj (aW rfl rfl (aT (am (ai (az _ aa rfl rfl rfl rfl) (bb rfl rfl rfl (eZ rfl rfl rfl (aX rfl (ai (cm aa [((0,8),(50,0))] ar (hq.toI) trivial tr ae) ?_)))))))))
 refine fk rfl (aj (aq (am (bb rfl rfl rfl (cf rfl rfl rfl (aj (ay (aq ?_))))))))
 refine aM (σ':=aE 211 [(3,_),(4,_),(10,_),(153,_)] [((3,0),_),((4,0),_),((50,0),_)] [] []) kp ?_
 refine dZ rfl rfl rfl rfl rfl (cK rfl rfl rfl rfl rfl (iO rfl rfl rfl rfl rfl (aq (am (bb rfl rfl rfl (ai (aF _ aa rfl rfl fA) (ai (aV (r:=false) _ _ Tryz.underlying9 rfl rfl rfl) (aj (aW rfl rfl (aT ?_))))))))))
 refine am (gI rfl (ai (aN _ aa rfl (by exact eV)) ?_))
 refine ai (bh _ _ aa rfl ag (by (simp <;> rfl)) ah rfl) ?_
 refine ai (du (179,0) _ _ aa rfl rfl (bP _).symm (.sl rfl) ab rfl (fl _ { op:= .not }) (show (db cs a).length+1=(db cs a++[({ op:= .not }:eW)]).length by simp)) ?_
 exact fk rfl (aj (aG (bI (.inr rfl) rfl (.tmp dW) (Le.out [((0,8),(179,0))] [] (cP rfl rfl) rfl rfl rfl trivial ob))))
theorem yV {L:List Nd} {cs:List Cd} (hc:cs.length=L.length) (hk:mJ (uu d v no on) L cs) (hn:(d++v).Nodup) (hl:(d++v).length≤1000) (i:Nat) (hi:i < (d++v).length):CoS (uu d v no on) (nd 1 0 ((d++v).getD i []) L) (fun a=> db cs a++[{ op:= .setVar,n:=(i:Int) }]):=fun a ha=> by
 have hl2:a+(db cs a).length≤1000000:=by simp only [List.length_append] at ha;omega
 have hq:=dL (d:=d) (v:=v) (no:=no) (on:=on) L cs hc hk a hl2
 refine Spec.ofN Tryz.func91 rfl Tryz.ntmps91 rfl ?_
 refine am (ai (aQ (3,0) _ rfl rfl) (ai (aQ (4,0) _ rfl rfl) (ai (bp _ fC) (aj (aq (am (bb rfl rfl rfl (cf rfl rfl rfl (aj (ay ?_))))))))))
 refine aq (cK rfl rfl rfl rfl rfl (dZ rfl rfl rfl rfl rfl ?_))
 iterate 3 refine cK rfl rfl rfl rfl rfl ?_
 refine aq ?_
 refine aM (σ':=aE 211 [(2,_),(3,_),(4,_),(12,_)] [((3,0),_),((4,0),_)] [] []) kp ?_
 refine dZ rfl rfl rfl rfl rfl ?_
 iterate 4 refine cK rfl rfl rfl rfl rfl ?_
 refine cp (aq (am (bb rfl rfl rfl (cf rfl rfl rfl (gM rfl rfl rfl (cE rfl (aK rfl rfl ah ?_)))))))
 refine aK rfl rfl ah ?_
 refine aK rfl rfl ah ?_
 refine ai (aB _ _ _ rfl bJ) (aj (aW rfl rfl (aT (aq (aq ?_)))))
 refine aM (σ':=aE 211 [(2,_),(3,_),(4,_)] [((3,0),_),((4,0),_)] [] []) kp ?_
 refine an (bb rfl rfl rfl (cf rfl rfl rfl (gM rfl rfl rfl (cE rfl (aK rfl rfl ah ?_)))))
 refine aK rfl rfl ah ?_
 refine aK rfl rfl ah ?_
 refine ai (aB _ _ _ rfl bJ) (aj (aW rfl rfl (aT (am (ai (az _ aa rfl rfl rfl rfl) (bb rfl rfl rfl (eZ rfl rfl rfl (aX rfl (ai (cm aa [((0,8),(50,0))] ar (hq.toI) trivial tr ae) ?_)))))))))
 refine fk rfl (aj (aq (am (bb rfl rfl rfl (cf rfl rfl rfl (aj (ay (aq ?_))))))))
 refine aM (σ':=aE 211 [(3,_),(4,_),(10,_),(153,_)] [((3,0),_),((4,0),_),((50,0),_)] [] []) kp ?_
 refine dZ rfl rfl rfl rfl rfl ?_
 iterate 2 refine cK rfl rfl rfl rfl rfl ?_
 refine iO rfl rfl rfl rfl rfl (am (gI rfl (ai (az _ aa rfl rfl rfl rfl) (bb rfl rfl rfl (ai (aF _ aa rfl rfl fA) (ai (aI aa al (mY d v on no hn hl i hi) rfl rfl) ?_))))))
 refine ai (aN _ aa rfl (by exact eV)) ?_
 refine ai (bh _ _ aa rfl ag (by (simp <;> rfl)) ah rfl) ?_
 refine ai (du (189,0) _ _ aa rfl rfl (bP _).symm (.sl rfl) ab rfl (fl _ { op:= .setVar,n:=(i:Int) }) (show (db cs a).length+1=(db cs a++[({ op:= .setVar,n:=(i:Int) }:eW)]).length by simp)) ?_
 exact fk rfl (aj (aG (bI (.inr rfl) rfl (.tmp dW) (Le.out [((0,8),(189,0))] [] (cP rfl rfl) rfl rfl rfl trivial ob))))
theorem FU {L:List Nd} {cs:List Cd} (hc:cs.length=L.length) (hk:mJ (uu d v no on) L cs) (n:Nat):CoS (uu d v no on) (nd 4 n [] L) (fun a=> db cs a++[{ op:= .send,n:=(n:Int) }]):=fun a ha=> by
 have hl2:a+(db cs a).length≤1000000:=by simp only [List.length_append] at ha;omega
 have hq:=dL (d:=d) (v:=v) (no:=no) (on:=on) L cs hc hk a hl2
 refine Spec.ofN Tryz.func91 rfl Tryz.ntmps91 rfl ?_
 refine am (ai (aQ (3,0) _ rfl rfl) (ai (aQ (4,0) _ rfl rfl) (ai (bp _ fC) (aj (aq (am (bb rfl rfl rfl (cf rfl rfl rfl (aj (ay ?_))))))))))
 refine aq (cK rfl rfl rfl rfl rfl (dZ rfl rfl rfl rfl rfl ?_))
 iterate 3 refine cK rfl rfl rfl rfl rfl ?_
 refine aq ?_
 refine aM (σ':=aE 211 [(2,_),(3,_),(4,_),(12,_)] [((3,0),_),((4,0),_)] [] []) kp ?_
 refine dZ rfl rfl rfl rfl rfl ?_
 iterate 4 refine cK rfl rfl rfl rfl rfl ?_
 refine cp (aq (am (bb rfl rfl rfl (cf rfl rfl rfl (gM rfl rfl rfl (cE rfl (aK rfl rfl ah ?_)))))))
 refine aK rfl rfl ah ?_
 refine aK rfl rfl ah ?_
 refine ai (aB _ _ _ rfl bJ) (aj (aW rfl rfl (aT (aq (aq ?_)))))
 refine aM (σ':=aE 211 [(2,_),(3,_),(4,_)] [((3,0),_),((4,0),_)] [] []) kp ?_
 refine an (bb rfl rfl rfl (cf rfl rfl rfl (gM rfl rfl rfl (cE rfl (aK rfl rfl ah ?_)))))
 refine aK rfl rfl ah ?_
 refine aK rfl rfl ah ?_
 refine ai (aB _ _ _ rfl bJ) (aj (aW rfl rfl (aT (am (ai (az _ aa rfl rfl rfl rfl) (bb rfl rfl rfl (eZ rfl rfl rfl (aX rfl (ai (cm aa [((0,8),(50,0))] ar (hq.toI) trivial tr ae) ?_)))))))))
 refine fk rfl (aj (aq (am (bb rfl rfl rfl (cf rfl rfl rfl (aj (ay (aq ?_))))))))
 refine aM (σ':=aE 211 [(3,_),(4,_),(10,_),(153,_)] [((3,0),_),((4,0),_),((50,0),_)] [] []) kp ?_
 refine dZ rfl rfl rfl rfl rfl ?_
 iterate 3 refine cK rfl rfl rfl rfl rfl ?_
 refine iO rfl rfl rfl rfl rfl (am (gI rfl (bb rfl rfl rfl (cf rfl rfl rfl (ai (aN _ aa rfl (by exact eV)) ?_)))))
 refine ai (bh _ _ aa rfl ag (by (simp <;> rfl)) ah rfl) ?_
 refine ai (du (197,0) _ _ aa rfl rfl (bP _).symm (.sl rfl) ab rfl (fl _ { op:= .send,n:=(n:Int) }) (show (db cs a).length+1=(db cs a++[({ op:= .send,n:=(n:Int) }:eW)]).length by simp)) ?_
 exact fk rfl (aj (aG (bI (.inr rfl) rfl (.tmp dW) (Le.out [((0,8),(197,0))] [] (cP rfl rfl) rfl rfl rfl trivial ob))))
theorem Bq {L:List Nd} {cs:List Cd} (hc:cs.length=L.length) (hk:mJ (uu d v no on) L cs):CoS (uu d v no on) (nd 8 0 [] L) (fun a=> db cs a++[{ op:= .reply }]):=fun a ha=> by
 have hl2:a+(db cs a).length≤1000000:=by simp only [List.length_append] at ha;omega
 have hq:=dL (d:=d) (v:=v) (no:=no) (on:=on) L cs hc hk a hl2
 refine Spec.ofN Tryz.func91 rfl Tryz.ntmps91 rfl ?_
 refine am (ai (aQ (3,0) _ rfl rfl) (ai (aQ (4,0) _ rfl rfl) (ai (bp _ fC) (aj (aq (am (bb rfl rfl rfl (cf rfl rfl rfl (aj (ay ?_))))))))))
 refine aq (cK rfl rfl rfl rfl rfl (dZ rfl rfl rfl rfl rfl ?_))
 iterate 3 refine cK rfl rfl rfl rfl rfl ?_
 refine aq ?_
 refine aM (σ':=aE 211 [(2,_),(3,_),(4,_),(12,_)] [((3,0),_),((4,0),_)] [] []) kp ?_
 refine dZ rfl rfl rfl rfl rfl ?_
 iterate 4 refine cK rfl rfl rfl rfl rfl ?_
 refine cp (aq (am (bb rfl rfl rfl (cf rfl rfl rfl (gM rfl rfl rfl (cE rfl (aK rfl rfl ah ?_)))))))
 refine aK rfl rfl ah ?_
 refine aK rfl rfl ah ?_
 refine ai (aB _ _ _ rfl bJ) (aj (aW rfl rfl (aT (aq (aq ?_)))))
 refine aM (σ':=aE 211 [(2,_),(3,_),(4,_)] [((3,0),_),((4,0),_)] [] []) kp ?_
 refine an (bb rfl rfl rfl (cf rfl rfl rfl (gM rfl rfl rfl (cE rfl (aK rfl rfl ah ?_)))))
 refine aK rfl rfl ah ?_
 refine aK rfl rfl ah ?_
 refine ai (aB _ _ _ rfl bJ) (aj (aW rfl rfl (aT (am (ai (az _ aa rfl rfl rfl rfl) (bb rfl rfl rfl (eZ rfl rfl rfl (aX rfl (ai (cm aa [((0,8),(50,0))] ar (hq.toI) trivial tr ae) ?_)))))))))
 refine fk rfl (aj (aq (am (bb rfl rfl rfl (cf rfl rfl rfl (aj (ay (aq ?_))))))))
 refine aM (σ':=aE 211 [(3,_),(4,_),(10,_),(153,_)] [((3,0),_),((4,0),_),((50,0),_)] [] []) kp ?_
 refine dZ rfl rfl rfl rfl rfl ?_
 iterate 4 refine cK rfl rfl rfl rfl rfl ?_
 refine iO rfl rfl rfl rfl rfl (am (gI rfl (ai (aN _ aa rfl (by exact eV)) ?_)))
 refine ai (bh _ _ aa rfl ag (by (simp <;> rfl)) ah rfl) ?_
 refine ai (du (203,0) _ _ aa rfl rfl (bP _).symm (.sl rfl) ab rfl (fl _ { op:= .reply }) (show (db cs a).length+1=(db cs a++[({ op:= .reply }:eW)]).length by simp)) ?_
 exact fk rfl (aj (aG (bI (.inr rfl) rfl (.tmp dW) (Le.out [((0,8),(203,0))] [] (cP rfl rfl) rfl rfl rfl trivial ob))))
theorem EX {L:List Nd} {cs:List Cd} (hc:cs.length=L.length) (hk:mJ (uu d v no on) L cs):CoS (uu d v no on) (nd 9 0 [] L) (fun a=> db cs a++[{ op:= .fail }]):=fun a ha=> by
 have hl2:a+(db cs a).length≤1000000:=by simp only [List.length_append] at ha;omega
 have hq:=dL (d:=d) (v:=v) (no:=no) (on:=on) L cs hc hk a hl2
 refine Spec.ofN Tryz.func91 rfl Tryz.ntmps91 rfl ?_
 refine am (ai (aQ (3,0) _ rfl rfl) (ai (aQ (4,0) _ rfl rfl) (ai (bp _ fC) (aj (aq (am (bb rfl rfl rfl (cf rfl rfl rfl (aj (ay ?_))))))))))
 refine aq (cK rfl rfl rfl rfl rfl (dZ rfl rfl rfl rfl rfl ?_))
 iterate 3 refine cK rfl rfl rfl rfl rfl ?_
 refine aq ?_
 refine aM (σ':=aE 211 [(2,_),(3,_),(4,_),(12,_)] [((3,0),_),((4,0),_)] [] []) kp ?_
 refine dZ rfl rfl rfl rfl rfl ?_
 iterate 4 refine cK rfl rfl rfl rfl rfl ?_
 refine cp (aq (am (bb rfl rfl rfl (cf rfl rfl rfl (gM rfl rfl rfl (cE rfl (aK rfl rfl ah ?_)))))))
 refine aK rfl rfl ah ?_
 refine aK rfl rfl ah ?_
 refine ai (aB _ _ _ rfl bJ) (aj (aW rfl rfl (aT (aq (aq ?_)))))
 refine aM (σ':=aE 211 [(2,_),(3,_),(4,_)] [((3,0),_),((4,0),_)] [] []) kp ?_
 refine an (bb rfl rfl rfl (cf rfl rfl rfl (gM rfl rfl rfl (cE rfl (aK rfl rfl ah ?_)))))
 refine aK rfl rfl ah ?_
 refine aK rfl rfl ah ?_
 refine ai (aB _ _ _ rfl bJ) (aj (aW rfl rfl (aT (am (ai (az _ aa rfl rfl rfl rfl) (bb rfl rfl rfl (eZ rfl rfl rfl (aX rfl (ai (cm aa [((0,8),(50,0))] ar (hq.toI) trivial tr ae) ?_)))))))))
 refine fk rfl (aj (aq (am (bb rfl rfl rfl (cf rfl rfl rfl (aj (ay (aq ?_))))))))
 refine aM (σ':=aE 211 [(3,_),(4,_),(10,_),(153,_)] [((3,0),_),((4,0),_),((50,0),_)] [] []) kp ?_
 refine dZ rfl rfl rfl rfl rfl ?_
 iterate 5 refine cK rfl rfl rfl rfl rfl ?_
 refine iO rfl rfl rfl rfl rfl (am (gI rfl (ai (aN _ aa rfl (by exact eV)) ?_)))
 refine ai (bh _ _ aa rfl ag (by (simp <;> rfl)) ah rfl) ?_
 refine ai (du (209,0) _ _ aa rfl rfl (bP _).symm (.sl rfl) ab rfl (fl _ { op:= .fail }) (show (db cs a).length+1=(db cs a++[({ op:= .fail }:eW)]).length by simp)) ?_
 exact fk rfl (aj (aG (bI (.inr rfl) rfl (.tmp dW) (Le.out [((0,8),(209,0))] [] (cP rfl rfl) rfl rfl rfl trivial ob))))
theorem Df {L:List Nd} {cs:List Cd} (hc:cs.length=L.length) (hk:mJ (uu d v no on) L cs):CoS (uu d v no on) (nd 11 0 [] L) (fun a=> db cs a):=fun a ha=> by
 have hl2:a+(db cs a).length≤1000000:=ha
 have hq:=dL (d:=d) (v:=v) (no:=no) (on:=on) L cs hc hk a hl2
 refine Spec.ofN Tryz.func91 rfl Tryz.ntmps91 rfl ?_
 refine am (ai (aQ (3,0) _ rfl rfl) (ai (aQ (4,0) _ rfl rfl) (ai (bp _ fC) (aj (aq (am (bb rfl rfl rfl (cf rfl rfl rfl (aj (ay ?_))))))))))
 refine aq (cK rfl rfl rfl rfl rfl (dZ rfl rfl rfl rfl rfl ?_))
 iterate 3 refine cK rfl rfl rfl rfl rfl ?_
 refine aq ?_
 refine aM (σ':=aE 211 [(2,_),(3,_),(4,_),(12,_)] [((3,0),_),((4,0),_)] [] []) kp ?_
 refine dZ rfl rfl rfl rfl rfl ?_
 iterate 4 refine cK rfl rfl rfl rfl rfl ?_
 refine cp (aq (am (bb rfl rfl rfl (cf rfl rfl rfl (gM rfl rfl rfl (cE rfl (aK rfl rfl ah ?_)))))))
 refine aK rfl rfl ah ?_
 refine aK rfl rfl ah ?_
 refine ai (aB _ _ _ rfl bJ) (aj (aW rfl rfl (aT (aq (aq ?_)))))
 refine aM (σ':=aE 211 [(2,_),(3,_),(4,_)] [((3,0),_),((4,0),_)] [] []) kp ?_
 refine an (bb rfl rfl rfl (cf rfl rfl rfl (gM rfl rfl rfl (cE rfl (aK rfl rfl ah ?_)))))
 refine aK rfl rfl ah ?_
 refine aK rfl rfl ah ?_
 refine ai (aB _ _ _ rfl bJ) (aj (aW rfl rfl (aT (am (ai (az _ aa rfl rfl rfl rfl) (bb rfl rfl rfl (eZ rfl rfl rfl (aX rfl (ai (cm aa [((0,8),(50,0))] ar (hq.toI) trivial tr ae) ?_)))))))))
 refine fk rfl (aj (aq (am (bb rfl rfl rfl (cf rfl rfl rfl (aj (ay (aq ?_))))))))
 refine aM (σ':=aE 211 [(3,_),(4,_),(10,_),(153,_)] [((3,0),_),((4,0),_),((50,0),_)] [] []) kp ?_
 refine dZ rfl rfl rfl rfl rfl ?_
 iterate 6 refine cK rfl rfl rfl rfl rfl ?_
 exact cp (am (gI rfl (fk rfl (aj (aG (bI (.inr rfl) rfl (.tmp dW) (Le.out [((0,8),(50,0))] [] (cP rfl rfl) rfl rfl rfl trivial ob)))))))
theorem IC {L:List Nd} {cs:List Cd} (hc:cs.length=L.length) (hk:mJ (uu d v no on) L cs) (o:Bo):CoS (uu d v no on) (nd 18 0 o.txt L) (fun a=> db cs a++o.code):=fun a ha=> by
 have hol:o.code.length≤2:=by cases o <;> decide
 have hs1:o.txt≠[38,38]:=by cases o <;> decide
 have hs2:o.txt≠[124,124]:=by cases o <;> decide
 have hl2:a+(db cs a).length≤1000000:=by simp only [List.length_append] at ha;omega
 have hq:=dL (d:=d) (v:=v) (no:=no) (on:=on) L cs hc hk a hl2
 refine Spec.ofN Tryz.func91 rfl Tryz.ntmps91 rfl ?_
 refine am (ai (aQ (3,0) _ rfl rfl) (ai (aQ (4,0) _ rfl rfl) (ai (bp _ fC) (aj (aq (am (bb rfl rfl rfl (cf rfl rfl rfl (aj (ay ?_))))))))))
 refine aq (cK rfl rfl rfl rfl rfl (dZ rfl rfl rfl rfl rfl ?_))
 iterate 3 refine cK rfl rfl rfl rfl rfl ?_
 refine aq ?_
 refine aM (σ':=aE 211 [(2,_),(3,_),(4,_),(12,_)] [((3,0),_),((4,0),_)] [] []) kp ?_
 refine dZ rfl rfl rfl rfl rfl ?_
 iterate 4 refine cK rfl rfl rfl rfl rfl ?_
 refine cp (aq (am (bb rfl rfl rfl (cf rfl rfl rfl (kf rfl rfl rfl (cE rfl (au rfl rfl (aA _ aa rfl rfl rfl) (au rfl rfl (aF _ aa rfl rfl fA) (au rfl rfl (aV (r:=false) _ _ Tryz.underlying9 rfl rfl (beq_eq_false_iff_ne.2 hs1)) ?_)))))))))
 refine ai (aB _ _ _ rfl bJ) (aj (aW rfl rfl (aT (aq (aq ?_)))))
 refine aM (σ':=aE 211 [(2,_),(3,_),(4,_)] [((3,0),_),((4,0),_)] [] []) kp ?_
 refine an (bb rfl rfl rfl (cf rfl rfl rfl (kf rfl rfl rfl (cE rfl (au rfl rfl (aA _ aa rfl rfl rfl) (au rfl rfl (aF _ aa rfl rfl fA) (au rfl rfl (aV (r:=false) _ _ Tryz.underlying9 rfl rfl (beq_eq_false_iff_ne.2 hs2)) ?_)))))))
 refine ai (aB _ _ _ rfl bJ) (aj (aW rfl rfl (aT (am (ai (az _ aa rfl rfl rfl rfl) (bb rfl rfl rfl (eZ rfl rfl rfl (aX rfl (ai (cm aa [((0,8),(50,0))] ar (hq.toI) trivial tr ae) ?_)))))))))
 refine fk rfl (aj (aq (am (bb rfl rfl rfl (cf rfl rfl rfl (aj (ay (aq ?_))))))))
 refine aM (σ':=aE 211 [(3,_),(4,_),(10,_),(153,_)] [((3,0),_),((4,0),_),((50,0),_)] [] []) kp ?_
 refine zr rfl rfl rfl rfl rfl (am (gI rfl (bb rfl rfl rfl (ai (aF _ aa rfl rfl fA) (ai (aI aa al (zh o) rfl rfl) ?_)))))
 refine ai (du (160,0) _ _ aa rfl rfl (bP _).symm (.sl (bP _)) ab rfl (mr _ _) (show (db cs a).length+o.code.length=(db cs a++o.code).length by simp)) ?_
 exact fk rfl (aj (aG (bI (.inr rfl) rfl (.tmp dW) (Le.out [((0,8),(160,0))] [] (cP rfl rfl) rfl rfl rfl trivial ob))))
def Lo (c y:Cd) (a:Nat):List eW:=c a++[{ op:= .unl,n:=((a+(c a).length+(y (a+(c a).length+1)).length+2:Nat):Int) }]++y (a+(c a).length+1)++[{ op:= .jump,n:=(a:Int) }]
theorem CC {c y:Nd} {cc cy:Cd} (hc:CoS (uu d v no on) c cc) (hy:CoS (uu d v no on) y cy):CoS (uu d v no on) (nd 3 0 [] [c,y]) (Lo cc cy):=fun a ha=> by
 obtain ⟨b,hb⟩: ∃ b,b=Lo cc cy a:=⟨_,rfl⟩
 rw [← hb] at ha ⊢
 unfold Lo at hb
 have hbl:=congrArg List.length hb
 simp only [List.length_append,List.length_cons,List.length_nil] at hbl
 have h1:=hc a ab
 generalize cc a=C at h1 hb hbl
 have h2:=hy (a+C.length+1) ab
 generalize cy (a+C.length+1)=Y at h2 hb hbl
 refine Spec.ofN Tryz.func91 rfl Tryz.ntmps91 rfl ?_
 refine am (ai (aQ (3,0) _ rfl rfl) (ai (aQ (4,0) _ rfl rfl) (ai (bp _ fC) (aj (aq (am (bb rfl rfl rfl (cf rfl rfl rfl (aj (ay ?_))))))))))
 refine aq (cK rfl rfl rfl rfl rfl (dZ rfl rfl rfl rfl rfl ?_))
 iterate 3 refine cK rfl rfl rfl rfl rfl ?_
 refine aq ?_
 refine aM (σ':=aE 211 [(2,_),(3,_),(4,_),(12,_)] [((3,0),_),((4,0),_)] [] []) kp ?_
 refine dZ rfl rfl rfl rfl rfl ?_
 iterate 3 refine cK rfl rfl rfl rfl rfl ?_
 refine iO rfl rfl rfl rfl rfl (aq ?_)
 refine aM (σ':=aE 211 [(2,_),(3,_),(4,_)] [((3,0),_),((4,0),_)] [] []) kp ?_
 refine bO 6 [73,74,75,76,77,78] [] ae ae rfl (aL rfl) (rfl:_=[_,_,_,_,_,_]) (rfl:_=[_,_]) ?_
 refine ap (_,[]) (fun τ=> az _ aa rfl rfl rfl rfl) ?_
 refine fP rfl ?_
 refine ap (_,[]) (fun τ=> aA _ aa rfl rfl rfl) ?_
 refine fQ rfl ?_
 refine ap (_,[]) (fun τ=> aF _ aa rfl rfl eG) ?_
 refine fU rfl ?_
 refine ap (_,[]) (fun τ=> bn _ _ aa rfl rfl 0 rfl (show 0 < 2 by omega) (Nat.le_of_ble_eq_true rfl) rfl) ?_
 refine fY rfl ?_
 refine ap (_,[]) (fun τ=> cg _ aa rfl (by exact cN [c,y] 0 (by simp)) rfl) ?_
 refine gz rfl ?_
 refine ap (_,[]) (fun τ=> aH _ eg) ?_
 refine gZ rfl (bm ⟨rfl,?_⟩)
 refine ai (cm aa [((0,8),(50,0))] ar (h1.toI) trivial tr ae) ?_
 refine fk rfl (aj (aU fun K15 hK15=> ?_))
 refine aM (σ':=aE 211 [(2,_),(3,_),(4,_),(7,_)] [((3,0),_),((4,0),_),((50,0),_)] [] []) kp ?_
 refine bO 10 [80,81,82,83,84,85,86,87,88,89] [] ae ae rfl (aL rfl) (rfl:_=[_,_,_,_,_,_,_,_,_,_]) (rfl:_=[_,_]) ?_
 refine ap (_,[]) (fun τ=> az _ aa rfl rfl rfl rfl) ?_
 refine fP rfl ?_
 refine ap (_,[]) (fun τ=> aA _ aa rfl rfl rfl) ?_
 refine fQ rfl ?_
 refine ap (_,[]) (fun τ=> aF _ aa rfl rfl eG) ?_
 refine fU rfl ?_
 refine ap (_,[]) (fun τ=> bn _ _ aa rfl rfl 1 rfl (show 1 < 2 by omega) (Nat.le_of_ble_eq_true rfl) rfl) ?_
 refine fY rfl ?_
 refine ap (_,[]) (fun τ=> cg _ aa rfl (by exact cN [c,y] 1 (by simp)) rfl) ?_
 refine gz rfl ?_
 refine ap (_,[]) (fun τ=> aH _ eg) ?_
 refine gZ rfl ?_
 refine ap (_,[]) (fun τ=> aH _ dW) ?_
 refine jg rfl ?_
 refine ap (_,[]) (fun τ=> cV _ aa rfl rfl) ?_
 refine ka rfl ?_
 refine ap (_,[]) (fun τ=> aZ _ _ rfl rfl (bD ab)) ?_
 refine kG rfl ?_
 refine ap (_,[]) (fun τ=> aZ _ _ rfl rfl (bD ab)) ?_
 refine fW rfl (bm ⟨rfl,?_⟩)
 refine ai (cm aa [((0,8),(51,0))] ar (h2.toI) trivial tr ae) ?_
 refine fk rfl (aJ (hK15 _ ?_))
 clear hK15;try clear K15
 refine am (gI rfl (aX rfl (gI rfl (ai (cV _ aa rfl rfl) (ai (aZ _ _ rfl rfl (bD ab)) ?_)))))
 refine gI rfl (ai (cV _ aa rfl rfl) (ai (aZ _ _ rfl rfl (bD ab)) ?_))
 refine ai (aZ (r:=((a+C.length+Y.length+2:Nat):Int)) _ _ rfl rfl ((bD ab).trans ab)) ?_
 refine ai (aN _ aa rfl (by exact eV)) ?_
 refine ai (bh _ _ aa rfl ag (by (simp <;> rfl)) ah rfl) ?_
 refine ai (du (102,0) _ _ aa rfl rfl (bP _).symm (.sl rfl) ab rfl (fl _ { op:= .unl,n:=((a+C.length+Y.length+2:Nat):Int) }) (show C.length+1=(C++[({ op:= .unl,n:=((a+C.length+Y.length+2:Nat):Int) }:eW)]).length by simp)) ?_
 refine fk rfl (aj (aq ?_))
 refine aM (σ':=aE 211 [(2,_),(8,_),(9,_)] [((51,0),_),((102,0),_)] [] []) kp ?_
 refine an (gI rfl (gI rfl (ai (du (105,0) _ _ aa rfl rfl (bP _).symm (.ref rfl (od _) (lB _)) (by simp;omega) rfl (mr _ _) (show (C++[({ op:= .unl,n:=((a+C.length+Y.length+2:Nat):Int) }:eW)]).length+Y.length=(C++[({ op:= .unl,n:=((a+C.length+Y.length+2:Nat):Int) }:eW)]++Y).length by simp;omega)) ?_)))
 refine fk rfl (aj (am (gI rfl (aX rfl (ai (aN _ aa rfl (by exact eV)) ?_)))))
 refine ai (bh _ _ aa rfl ag (by (simp <;> rfl)) ah rfl) ?_
 refine ai (du (110,0) _ _ aa rfl rfl (bP _).symm (.sl rfl) (by simp;omega) rfl ((fl _ { op:= .jump,n:=(a:Int) }).trans (congrArg inl hb.symm)) (show _+1=b.length by simp;omega)) ?_
 exact fk rfl (aj (aG (bI (.inr rfl) rfl (.tmp dW) (Le.out [((0,8),(110,0))] [] (cP rfl rfl) rfl rfl rfl trivial ob))))
end

def jI:Ex→Bool
 | .int n=> decide (0≤n) | .bool _=> true | .var _=> true | .name _=> true
 | .draw e=> jI e | .neg e=> jI e | .not e=> jI e
 | .bin _ a b=> jI a && jI b
 | .and a b=> jI a && jI b
 | .or a b=> jI a && jI b
mutual
def xH:Sm→Bool
 | .assign _ e=> jI e
 | .send t _ a b=> jI t && jI a && jI b
 | .timer _=> true | .cancel _=> true | .sync=> true | .stop=> true
 | .reply a b=> jI a && jI b
 | .fail e=> jI e
 | .loop c b=> jI c && sP b
 | .ite c a b=> jI c && sP a && sP b
def sP:Bk→Bool
 | .nil=> true
 | .cons s b=> xH s && sP b
end
section
variable {d v:List Tx} {no:Nat} {on:List PV}
abbrev Kb (d v:List Tx) (no:Nat) (on:List PV) (N:Nd) (c:Cd):Prop:=CoS (uu d v no on) N c
theorem CoS.cong {u:AV} {N:Nd} {c c':Cd} (h:CoS u N c) (e: ∀ a,c a=c' a):CoS u N c':=by
 rw [show c'=c from funext fun a=> (e a).symm];exact h
theorem et (hn:(d++v).Nodup) (hl:(d++v).length≤1000): ∀ e:Ex,ic (d++v).length e→jI e=true→Kb d v no on (eQ (d++v) e) (bE e)
 | .int n,_,hp=> by
  have hp:=of_decide_eq_true hp
  have:=GZ (d:=d) (v:=v) (no:=no) (on:=on) n.toNat
  exact this.cong fun a=> by rw [Int.toNat_of_nonneg hp];rfl
 | .bool b,_,_=> by
  cases b
  ·exact xb 0
  exact xb 1
 | .var i,h,_=> Il hn hl i h
 | .name k,h,_=> Fa k h
 | .draw e,h,hp=> (EO rfl (yc (et hn hl e h hp) FY)).cong fun a=> by simp [bE,db]
 | .neg e,h,hp=> (IB rfl (yc (et hn hl e h hp) FY)).cong fun a=> by simp [bE,db]
 | .not e,h,hp=> (HP rfl (yc (et hn hl e h hp) FY)).cong fun a=> by simp [bE,db]
 | .bin o x y,h,hp=> by
  simp only [jI,Bool.and_eq_true] at hp
  exact (IC rfl (yc (et hn hl x h.1 hp.1) (yc (et hn hl y h.2 hp.2) FY)) o).cong fun a=> by simp [bE,db]
 | .and x y,h,hp=> by
  simp only [jI,Bool.and_eq_true] at hp
  exact (GQ (et hn hl x h.1 hp.1) (et hn hl y h.2 hp.2)).cong fun a=> rfl
 | .or x y,h,hp=> by
  simp only [jI,Bool.and_eq_true] at hp
  exact (Jp (et hn hl x h.1 hp.1) (et hn hl y h.2 hp.2)).cong fun a=> rfl
def DC:Bk→List Cd
 | .nil=> []
 | .cons s b=> dx s::DC b
theorem xh (nm:List Tx): ∀ b:Bk,(DC b).length=(ji nm b).length
 | .nil=> by simp [DC,ji]
 | .cons s b=> by simp [DC,ji,xh nm b]
theorem xC: ∀ (b:Bk) (a:Nat),db (DC b) a=dT b a
 | .nil,a=> by simp [DC,db,dT]
 | .cons s b,a=> by simp only [DC,db,dT,xC b]
theorem nU {b:Bk} (h:mJ (uu d v no on) (ji (d++v) b) (DC b)):Kb d v no on (jj (d++v) b) (dT b):=(Df (xh _ b) h).cong (xC b)
mutual
theorem El (hn:(d++v).Nodup) (hl:(d++v).length≤1000): ∀ s:Sm,gK (d++v).length s→xH s=true→Kb d v no on (Eg (d++v) s) (dx s)
 | .assign i e,h,hp=> by rw [gK] at h;exact (yV rfl (yc (et hn hl e h.2 hp) FY) hn hl i h.1).cong fun a=> by simp [dx,db]
 | .send t k x y,h,hp=> by
  rw [gK] at h
  simp only [xH,Bool.and_eq_true] at hp
  exact (FU rfl (yc (et hn hl t h.2.1 hp.1.1) (yc (et hn hl x h.2.2.1 hp.1.2) (yc (et hn hl y h.2.2.2 hp.2) FY))) k).cong fun a=> by simp [dx,db,Nat.add_assoc]
 | .timer k,_,_=> (CG k).cong fun a=> by rw [dx]
 | .cancel k,_,_=> (zn k).cong fun a=> by rw [dx]
 | .sync,_,_=> co_sync.cong fun a=> by rw [dx]
 | .stop,_,_=> co_stop.cong fun a=> by rw [dx]
 | .reply x y,h,hp=> by
  rw [gK] at h
  simp only [xH,Bool.and_eq_true] at hp
  exact (Bq rfl (yc (et hn hl x h.1 hp.1) (yc (et hn hl y h.2 hp.2) FY))).cong fun a=> by simp [dx,db]
 | .fail e,h,hp=> by rw [gK] at h;exact (EX rfl (yc (et hn hl e h hp) FY)).cong fun a=> by simp [dx,db]
 | .loop c b,h,hp=> by
  rw [gK] at h
  simp only [xH,Bool.and_eq_true] at hp
  exact (CC (et hn hl c h.1 hp.1) (nU (oh hn hl b h.2 hp.2))).cong fun a=> by rw [dx];rfl
 | .ite c x y,h,hp=> by
  rw [gK] at h
  simp only [xH,Bool.and_eq_true] at hp
  exact (Hx (et hn hl c h.1 hp.1.1) (nU (oh hn hl x h.2.1 hp.1.2)) (nU (oh hn hl y h.2.2 hp.2))).cong fun a=> by rw [dx];rfl
theorem oh (hn:(d++v).Nodup) (hl:(d++v).length≤1000): ∀ b:Bk,lj (d++v).length b→sP b=true→mJ (uu d v no on) (ji (d++v) b) (DC b)
 | .nil,_,_=> FY
 | .cons s b,h,hp=> by
  rw [lj] at h
  simp only [sP,Bool.and_eq_true] at hp
  exact yc (El hn hl s h.1 hp.1) (oh hn hl b h.2 hp.2)
end
theorem EZ (hn:(d++v).Nodup) (hl:(d++v).length≤1000) (b:Bk) (h:lj (d++v).length b) (hp:sP b=true):Kb d v no on (jj (d++v) b) (dT b):=nU (oh hn hl b h hp)
end
end Go.Proofs.YtmjnackchaahbaaGreat
