/- Part 12 of the texts that the walk leans on: the machine, the walks, the plain laws. -/
import Derived.Test.YtmjnackchaahbaaGreatNkZ11
set_option linter.unusedSimpArgs false
set_option linter.unusedVariables false
namespace Go.Proofs.YtmjnackchaahbaaGreat
open Go.RowKit

theorem nn (C:List eW):((inl C).drop 0).take (C.length*2)=inl C:=List.take_of_length_le (by rw [List.drop_zero,bO];exact Nat.le_refl _)
theorem lp (C:List eW):0+C.length*2≤(inl C).length:=by rw [bO,Nat.zero_add];exact Nat.le_refl _
theorem xO (l:List Tx) (n:Nat) (hn:l.length=n) (h1:n≤1000) (hd:l.Nodup) (i:Nat) (hi:i < n):Spec Tryz.prog 122 (ba [.sl n (fm l), .v (bt (l.getD i []))] []) (aP (.v (.int .i64 (i:Int))) []):=by
 refine Spec.ofN Tryz.func122 rfl Tryz.ntmps122 rfl ?_
 refine am (bg rfl (aj (aq (am (bg rfl (aj (ay ?_)))))))
 refine bq (α:=Nat) (fun k=> k≤n∧k≤i) 19 [(0,_),(1,_)] [] (fun k=> [(5, .v (.int .i64 (k:Int)))]) (fun k=> []) [] [] (fun k=> n - k) 0 ?_ (by
  refine Le.mkJ [] [] rfl ?_ ?_ trivial trivial ?_
  ·exact ⟨(iS rfl),(iV rfl),(ci ag),trivial⟩
  ·exact trivial
  kernel_rfl) ?_
 ·exact ⟨Nat.zero_le _,Nat.zero_le _⟩
 intro k hk
 obtain ⟨hk,hki⟩:=hk
 refine aT fun K4 hK4=> ?_
 refine am (aX rfl (eO rfl (ai (bi _ aa rfl) (ai (bm _ _ rfl rfl rfl) (aj (aR rfl (fun hc9=> ?_) (fun hc9=> ?_)))))))
 ·skip
  refine br (hK4 _ ?_)
  clear hK4;try clear K4
  refine aq (ay (am (eO rfl (aX rfl (ai (bn _ _ aa rfl rfl _ rfl ab (by (simp only [aL,bb,bj,bv,bu,bG,bw,bO];omega)) (by exact Nat.mul_one _)) ?_)))))
  refine ai (bL _ aa rfl (by exact jI _ _ ab) rfl) ?_
  refine ej rfl (ai (aV _ _ Tryz.underlying9 rfl rfl rfl) (aj (aR rfl (fun hc17=> ?_) (fun hc17=> ?_))))
  ·skip
   have he:k=i:=mC hd ab ab hc17
   refine am (aX rfl (bg rfl (aj (aG (ry rfl rfl ?_)))))
   rw [he]
  have he:k≠i:=fun e=> hc17 (by rw [e])
  refine cr (an (aX rfl (ai (aZ _ _ rfl rfl (bD ab)) ?_)))
  refine bg rfl (aJ (⟨k+1,?_,?_,?_⟩))
  ·exact ⟨by omega,by omega⟩
  ·skip
   refine Le.mkJ [] [] rfl ?_ ?_ trivial trivial ?_
   ·exact ⟨(iS rfl),(iV rfl),(ci ag),trivial⟩
   ·exact trivial
   kernel_rfl
  omega
 exact absurd hki ab
theorem po:Spec Tryz.prog 123 (ba [] []) (aP (.sl 9 (fm bltT)) []):=by
 refine Spec.ofN Tryz.func123 rfl Tryz.ntmps123 rfl ?_
 refine am (ai (bp _ fA) (aj (am (ai (bh _ _ aa rfl ag (by (simp <;> rfl)) ah rfl) ?_))))
 exact kB rfl (aj (aG (qd rfl rfl)))
theorem BF:Spec Tryz.prog 126 (ba [.v (bt [43])] []) (aP (.sl (Bo.add).code.length (inl (Bo.add).code)) []):=by
 refine Spec.ofN Tryz.func126 rfl Tryz.ntmps126 rfl ?_
 refine am (ai (bp _ fA) (aj (aq (am (ej rfl (aj (ay (am (ai (aV (r:=true) _ _ Tryz.underlying9 rfl rfl rfl) (cu rfl ?_))))))))))
 refine aj (bK rfl rfl (am (ai (aN _ aa rfl (by exact eX)) ?_)))
 refine ai (bh _ _ aa rfl ag (by (simp <;> rfl)) ah rfl) ?_
 exact kB rfl (aj (aG (qd rfl rfl)))
theorem BU:Spec Tryz.prog 126 (ba [.v (bt [45])] []) (aP (.sl (Bo.sub).code.length (inl (Bo.sub).code)) []):=by
 refine Spec.ofN Tryz.func126 rfl Tryz.ntmps126 rfl ?_
 refine am (ai (bp _ fA) (aj (aq (am (ej rfl (aj (ay (am (ai (aV (r:=false) _ _ Tryz.underlying9 rfl rfl rfl) (cu rfl ?_))))))))))
 refine aj (aW rfl rfl (am (ai (aV (r:=true) _ _ Tryz.underlying9 rfl rfl rfl) (cu rfl (aj (bK rfl rfl (am (ai (aN _ aa rfl (by exact eX)) ?_))))))))
 refine ai (bh _ _ aa rfl ag (by (simp <;> rfl)) ah rfl) ?_
 exact kB rfl (aj (aG (qd rfl rfl)))
theorem CR:Spec Tryz.prog 126 (ba [.v (bt [42])] []) (aP (.sl (Bo.mul).code.length (inl (Bo.mul).code)) []):=by
 refine Spec.ofN Tryz.func126 rfl Tryz.ntmps126 rfl ?_
 refine am (ai (bp _ fA) (aj (aq (am (ej rfl (aj (ay (am (ai (aV (r:=false) _ _ Tryz.underlying9 rfl rfl rfl) (cu rfl ?_))))))))))
 refine aj (aW rfl rfl (am (ai (aV (r:=false) _ _ Tryz.underlying9 rfl rfl rfl) (cu rfl (aj (aW rfl rfl (am (ai (aV (r:=true) _ _ Tryz.underlying9 rfl rfl rfl) (cu rfl (aj ?_))))))))))
 refine bK rfl rfl (am (ai (aN _ aa rfl (by exact eX)) ?_))
 refine ai (bh _ _ aa rfl ag (by (simp <;> rfl)) ah rfl) ?_
 exact kB rfl (aj (aG (qd rfl rfl)))
theorem Ab:Spec Tryz.prog 126 (ba [.v (bt [47])] []) (aP (.sl (Bo.div).code.length (inl (Bo.div).code)) []):=by
 refine Spec.ofN Tryz.func126 rfl Tryz.ntmps126 rfl ?_
 refine am (ai (bp _ fA) (aj (aq (am (ej rfl (aj (ay (am (ai (aV (r:=false) _ _ Tryz.underlying9 rfl rfl rfl) (cu rfl ?_))))))))))
 refine aj (aW rfl rfl (am (ai (aV (r:=false) _ _ Tryz.underlying9 rfl rfl rfl) (cu rfl (aj (aW rfl rfl (am (ai (aV (r:=false) _ _ Tryz.underlying9 rfl rfl rfl) (cu rfl (aj ?_))))))))))
 refine aW rfl rfl (am (ai (aV (r:=true) _ _ Tryz.underlying9 rfl rfl rfl) (cu rfl (aj (bK rfl rfl (am (ai (aN _ aa rfl (by exact eX)) ?_)))))))
 refine ai (bh _ _ aa rfl ag (by (simp <;> rfl)) ah rfl) ?_
 exact kB rfl (aj (aG (qd rfl rfl)))
theorem Ef:Spec Tryz.prog 126 (ba [.v (bt [60])] []) (aP (.sl (Bo.lt).code.length (inl (Bo.lt).code)) []):=by
 refine Spec.ofN Tryz.func126 rfl Tryz.ntmps126 rfl ?_
 refine am (ai (bp _ fA) (aj (aq (am (ej rfl (aj (ay (am (ai (aV (r:=false) _ _ Tryz.underlying9 rfl rfl rfl) (cu rfl ?_))))))))))
 refine aj (aW rfl rfl (am (ai (aV (r:=false) _ _ Tryz.underlying9 rfl rfl rfl) (cu rfl (aj (aW rfl rfl (am (ai (aV (r:=false) _ _ Tryz.underlying9 rfl rfl rfl) (cu rfl (aj ?_))))))))))
 refine aW rfl rfl (am (ai (aV (r:=false) _ _ Tryz.underlying9 rfl rfl rfl) (cu rfl (aj (aW rfl rfl (am (ai (aV (r:=true) _ _ Tryz.underlying9 rfl rfl rfl) (cu rfl (aj (bK rfl rfl ?_))))))))))
 refine am (ai (aN _ aa rfl (by exact eX)) ?_)
 refine ai (bh _ _ aa rfl ag (by (simp <;> rfl)) ah rfl) ?_
 exact kB rfl (aj (aG (qd rfl rfl)))
theorem DY:Spec Tryz.prog 126 (ba [.v (bt [60,61])] []) (aP (.sl (Bo.le).code.length (inl (Bo.le).code)) []):=by
 refine Spec.ofN Tryz.func126 rfl Tryz.ntmps126 rfl ?_
 refine am (ai (bp _ fA) (aj (aq (am (ej rfl (aj (ay (am (ai (aV (r:=false) _ _ Tryz.underlying9 rfl rfl rfl) (cu rfl ?_))))))))))
 refine aj (aW rfl rfl (am (ai (aV (r:=false) _ _ Tryz.underlying9 rfl rfl rfl) (cu rfl (aj (aW rfl rfl (am (ai (aV (r:=false) _ _ Tryz.underlying9 rfl rfl rfl) (cu rfl (aj ?_))))))))))
 refine aW rfl rfl (am (ai (aV (r:=false) _ _ Tryz.underlying9 rfl rfl rfl) (cu rfl (aj (aW rfl rfl (am (ai (aV (r:=false) _ _ Tryz.underlying9 rfl rfl rfl) (cu rfl (aj (aW rfl rfl ?_))))))))))
 refine am (ai (aV (r:=true) _ _ Tryz.underlying9 rfl rfl rfl) (cu rfl (aj (bK rfl rfl (am (ai (aN _ aa rfl (by exact eX)) ?_))))))
 refine ai (bh _ _ aa rfl ag (by (simp <;> rfl)) ah rfl) ?_
 exact kB rfl (aj (aG (qd rfl rfl)))
theorem DJ:Spec Tryz.prog 126 (ba [.v (bt [61,61])] []) (aP (.sl (Bo.eq).code.length (inl (Bo.eq).code)) []):=by
 refine Spec.ofN Tryz.func126 rfl Tryz.ntmps126 rfl ?_
 refine am (ai (bp _ fA) (aj (aq (am (ej rfl (aj (ay (am (ai (aV (r:=false) _ _ Tryz.underlying9 rfl rfl rfl) (cu rfl ?_))))))))))
 refine aj (aW rfl rfl (am (ai (aV (r:=false) _ _ Tryz.underlying9 rfl rfl rfl) (cu rfl (aj (aW rfl rfl (am (ai (aV (r:=false) _ _ Tryz.underlying9 rfl rfl rfl) (cu rfl (aj ?_))))))))))
 refine aW rfl rfl (am (ai (aV (r:=false) _ _ Tryz.underlying9 rfl rfl rfl) (cu rfl (aj (aW rfl rfl (am (ai (aV (r:=false) _ _ Tryz.underlying9 rfl rfl rfl) (cu rfl (aj (aW rfl rfl ?_))))))))))
 refine am (ai (aV (r:=false) _ _ Tryz.underlying9 rfl rfl rfl) (cu rfl (aj (aW rfl rfl (am (ai (aV (r:=true) _ _ Tryz.underlying9 rfl rfl rfl) (cu rfl (aj (bK rfl rfl (aq ?_))))))))))
 refine aM (σ':=aE 45 [] [] [] []) kp ?_
 refine an (ai (aN _ aa rfl (by exact eX)) ?_)
 refine ai (bh _ _ aa rfl ag (by (simp <;> rfl)) ah rfl) ?_
 exact kB rfl (aj (aG (qd rfl rfl)))
theorem DD:Spec Tryz.prog 126 (ba [.v (bt [62])] []) (aP (.sl (Bo.gt).code.length (inl (Bo.gt).code)) []):=by
 refine Spec.ofN Tryz.func126 rfl Tryz.ntmps126 rfl ?_
 refine am (ai (bp _ fA) (aj (aq (am (ej rfl (aj (ay (am (ai (aV (r:=false) _ _ Tryz.underlying9 rfl rfl rfl) (cu rfl ?_))))))))))
 refine aj (aW rfl rfl (am (ai (aV (r:=false) _ _ Tryz.underlying9 rfl rfl rfl) (cu rfl (aj (aW rfl rfl (am (ai (aV (r:=false) _ _ Tryz.underlying9 rfl rfl rfl) (cu rfl (aj ?_))))))))))
 refine aW rfl rfl (am (ai (aV (r:=false) _ _ Tryz.underlying9 rfl rfl rfl) (cu rfl (aj (aW rfl rfl (am (ai (aV (r:=false) _ _ Tryz.underlying9 rfl rfl rfl) (cu rfl (aj (aW rfl rfl ?_))))))))))
 refine am (ai (aV (r:=false) _ _ Tryz.underlying9 rfl rfl rfl) (cu rfl (aj (aW rfl rfl (am (ai (aV (r:=false) _ _ Tryz.underlying9 rfl rfl rfl) (cu rfl (aj (aW rfl rfl (aq ?_))))))))))
 refine aM (σ':=aE 45 [(3,_)] [] [] []) kp ?_
 refine an (ai (aV (r:=true) _ _ Tryz.underlying9 rfl rfl rfl) (cu rfl (aj (bK rfl rfl (am (ai (aN _ aa rfl (by exact eX)) ?_))))))
 refine ai (aN _ aa rfl (by exact eX)) ?_
 refine ai (bh _ _ aa rfl ag (by (simp <;> rfl)) ah rfl) ?_
 exact kB rfl (aj (aG (qd rfl rfl)))
theorem Ei:Spec Tryz.prog 126 (ba [.v (bt [62,61])] []) (aP (.sl (Bo.ge).code.length (inl (Bo.ge).code)) []):=by
 refine Spec.ofN Tryz.func126 rfl Tryz.ntmps126 rfl ?_
 refine am (ai (bp _ fA) (aj (aq (am (ej rfl (aj (ay (am (ai (aV (r:=false) _ _ Tryz.underlying9 rfl rfl rfl) (cu rfl ?_))))))))))
 refine aj (aW rfl rfl (am (ai (aV (r:=false) _ _ Tryz.underlying9 rfl rfl rfl) (cu rfl (aj (aW rfl rfl (am (ai (aV (r:=false) _ _ Tryz.underlying9 rfl rfl rfl) (cu rfl (aj ?_))))))))))
 refine aW rfl rfl (am (ai (aV (r:=false) _ _ Tryz.underlying9 rfl rfl rfl) (cu rfl (aj (aW rfl rfl (am (ai (aV (r:=false) _ _ Tryz.underlying9 rfl rfl rfl) (cu rfl (aj (aW rfl rfl ?_))))))))))
 refine am (ai (aV (r:=false) _ _ Tryz.underlying9 rfl rfl rfl) (cu rfl (aj (aW rfl rfl (am (ai (aV (r:=false) _ _ Tryz.underlying9 rfl rfl rfl) (cu rfl (aj (aW rfl rfl (aq ?_))))))))))
 refine aM (σ':=aE 45 [(3,_)] [] [] []) kp ?_
 refine an (ai (aV (r:=false) _ _ Tryz.underlying9 rfl rfl rfl) (cu rfl (aj (aW rfl rfl (am (ai (aV (r:=true) _ _ Tryz.underlying9 rfl rfl rfl) (cu rfl (aj (bK rfl rfl (am ?_))))))))))
 refine ai (aN _ aa rfl (by exact eX)) ?_
 refine ai (aN _ aa rfl (by exact eX)) ?_
 refine ai (bh _ _ aa rfl ag (by (simp <;> rfl)) ah rfl) ?_
 exact kB rfl (aj (aG (qd rfl rfl)))
theorem EI:Spec Tryz.prog 126 (ba [.v (bt [33,61])] []) (aP (.sl (Bo.ne).code.length (inl (Bo.ne).code)) []):=by
 refine Spec.ofN Tryz.func126 rfl Tryz.ntmps126 rfl ?_
 refine am (ai (bp _ fA) (aj (aq (am (ej rfl (aj (ay (am (ai (aV (r:=false) _ _ Tryz.underlying9 rfl rfl rfl) (cu rfl ?_))))))))))
 refine aj (aW rfl rfl (am (ai (aV (r:=false) _ _ Tryz.underlying9 rfl rfl rfl) (cu rfl (aj (aW rfl rfl (am (ai (aV (r:=false) _ _ Tryz.underlying9 rfl rfl rfl) (cu rfl (aj ?_))))))))))
 refine aW rfl rfl (am (ai (aV (r:=false) _ _ Tryz.underlying9 rfl rfl rfl) (cu rfl (aj (aW rfl rfl (am (ai (aV (r:=false) _ _ Tryz.underlying9 rfl rfl rfl) (cu rfl (aj (aW rfl rfl ?_))))))))))
 refine am (ai (aV (r:=false) _ _ Tryz.underlying9 rfl rfl rfl) (cu rfl (aj (aW rfl rfl (am (ai (aV (r:=false) _ _ Tryz.underlying9 rfl rfl rfl) (cu rfl (aj (aW rfl rfl (aq ?_))))))))))
 refine aM (σ':=aE 45 [(3,_)] [] [] []) kp ?_
 refine an (ai (aV (r:=false) _ _ Tryz.underlying9 rfl rfl rfl) (cu rfl (aj (aW rfl rfl (am (ai (aV (r:=false) _ _ Tryz.underlying9 rfl rfl rfl) (cu rfl (aj (aW rfl rfl (cr ?_))))))))))
 refine am (ai (aN _ aa rfl (by exact eX)) ?_)
 refine ai (aN _ aa rfl (by exact eX)) ?_
 refine ai (bh _ _ aa rfl ag (by (simp <;> rfl)) ah rfl) ?_
 exact kB rfl (aj (aG (qd rfl rfl)))
theorem yN (o:Bo):Spec Tryz.prog 126 (ba [.v (bt o.txt)] []) (aP (.sl o.code.length (inl o.code)) []):=by
 cases o
 ·exact BF
 ·exact BU
 ·exact CR
 ·exact Ab
 ·exact Ef
 ·exact DY
 ·exact DJ
 ·exact DD
 ·exact Ei
 exact EI

abbrev Cd:=Nat→List eW
abbrev CoS (u:AV) (d:Nd) (c:Cd):Prop:= ∀ a,a+(c a).length≤1000000→Spec Tryz.prog 91 (ba [u,pu d, .v (.int .i64 (a:Int))] []) (aP (.ref (0,8) 0 (c a).length) [((0,8), .row 48 2 (inl (c a)))])
def cZ:List Cd→Nat→List eW
 | [],_=> []
 | c::cs,a=> c a++cZ cs (a+(c a).length)
theorem pZ: ∀ (l m:List Cd) (a:Nat),cZ (l++m) a=cZ l a++cZ m (a+(cZ l a).length)
 | [],m,a=> by simp [cZ]
 | c::l,m,a=> by simp only [List.cons_append,cZ,pZ l m,List.append_assoc,List.length_append,Nat.add_assoc]
theorem xR {cs:List Cd} {j a:Nat} (h:j < cs.length):cZ (cs.take (j+1)) a=cZ (cs.take j) a++(cs.getD j fun _=> []) (a+(cZ (cs.take j) a).length):=by
 rw [List.take_succ_eq_append_getElem h,pZ]
 simp [cZ,h]
theorem rI {cs:List Cd} {j a:Nat}:(cZ (cs.take j) a).length≤(cZ cs a).length:=by
 conv=> rhs;rw [← List.take_append_drop j cs,pZ]
 rw [List.length_append];omega
abbrev mA (u:AV) (L:List Nd) (cs:List Cd):Prop:= ∀ j,j < L.length→CoS u (lf L j) (cs.getD j fun _=> [])
theorem Dp {u:AV}:mA u [] []:=fun j hj=> by simp at hj
theorem yg {u:AV} {d:Nd} {c:Cd} {L:List Nd} {cs:List Cd} (h:CoS u d c) (h':mA u L cs):mA u (d::L) (c::cs):=fun j hj=> by
 cases j with
 | zero=> exact h
 | succ j=> exact h' j (by simpa using hj)
section
variable {d v:List Tx} {no:Nat} {on:List PV}
abbrev uu (d v:List Tx) (no:Nat) (on:List PV):AV:= .agg [.sl d.length (fm d), .sl v.length (fm v), .sl no on]
theorem dJ (L:List Nd) (cs:List Cd) (hc:cs.length=L.length) (hk:mA (uu d v no on) L cs) (a:Nat) (ha:a+(cZ cs a).length≤1000000):
  Spec Tryz.prog 125 (ba [uu d v no on, .sl L.length (mR L), .v (.int .i64 (a:Int))] []) (aP (.ref (0,8) 0 (cZ cs a).length) [((0,8), .row 48 2 (inl (cZ cs a)))]):=by
 refine Spec.ofN Tryz.func125 rfl Tryz.ntmps125 rfl ?_
 refine aq ?_
 refine GT 1 rfl rfl fun hlen=> ?_
 unfold maxLen at hlen
 refine an (ai (aQ (3,0) _ rfl rfl) (ai (bp _ fA) (aj (am (ai (tn (7,0) _ 48 2 rfl rfl) ?_)))))
 refine aj (aT fun K3 hK3=> ?_)
 refine am (bg rfl (aj (ay ?_)))
 refine bq (α:=Nat) (fun j=> j≤L.length) 28 [(1,_),(2,_),(3,_)] [((3,0),_)] (fun j=> [(8, .v (.int .i64 (j:Int))),(7, .ref (7,0) 0 (cZ (cs.take j) a).length)]) (fun j=> [((7,0), .row 48 2 (inl (cZ (cs.take j) a)))]) [] [] (fun j=> L.length - j) 0 ?_ (by
  refine Le.mkJ [] [] rfl ?_ ?_ trivial trivial ?_
  ·exact ⟨(iS rfl),(iV rfl),(iP rfl),(ci ag),(cJ rfl ag),trivial⟩
  ·exact ⟨(cj rfl rfl rfl),(eZ rfl rfl rfl ag),trivial⟩
  kernel_rfl) ?_
 ·omega
 intro j hj
 have htk:(cZ (cs.take j) a).length≤(cZ cs a).length:=rI
 refine aT fun K5 hK5=> ?_
 refine am (aX rfl (eO rfl (ai (bi _ aa rfl) (ai (bm _ _ rfl rfl rfl) (aj (aR rfl (fun hc12=> ?_) (fun hc12=> ?_)))))))
 ·skip
  have hs:=xR (cs:=cs) (j:=j) (a:=a) ab
  have htk1:(cZ (cs.take (j+1)) a).length≤(cZ cs a).length:=rI
  have hsl:=congrArg List.length hs
  rw [List.length_append] at hsl
  have hcj:=hk j ab (a+(cZ (cs.take j) a).length) ab
  generalize (cs.getD j fun _=> []) (a+(cZ (cs.take j) a).length)=C at hs hsl hcj
  refine br (hK5 _ ?_)
  clear hK5;try clear K5
  refine aq (ay ?_)
  refine aM (σ':=aE 28 [(1,_),(2,_),(3,_),(7,_),(8,_)] [((3,0),_),((7,0),_)] [] []) kp ?_
  refine bJ 11 [15,16,17,18,19,20,21,22,23,24,25] [(50,0)] ae ae rfl (aK rfl) (rfl:_=[_,_,_,_,_,_,_,_,_,_,_]) (rfl:_=[_,_]) ?_
  refine ap (_,[]) (fun τ=> aI _ dR) ?_
  refine fO rfl ?_
  refine ap (_,[]) (fun τ=> az _ aa rfl rfl rfl rfl) ?_
  refine fN rfl ?_
  refine ap (_,[]) (fun τ=> aI _ mx) ?_
  refine fP rfl ?_
  refine ap (_,[]) (fun τ=> aI _ et) ?_
  refine fV rfl ?_
  refine ap (_,[]) (fun τ=> bn _ _ aa rfl rfl _ rfl ab (by (simp only [aL,bb,bj,bv,bu,bG,bw,bO];omega)) ag) ?_
  refine gm rfl ?_
  refine ap (_,[]) (fun τ=> ca _ aa rfl (by exact cN _ _ ab) rfl) ?_
  refine gY rfl ?_
  refine ap (_,[]) (fun τ=> aI _ et) ?_
  refine iH rfl ?_
  refine ap (_,[]) (fun τ=> aI _ dR) ?_
  refine jU rfl ?_
  refine ap (_,[]) (fun τ=> dg _ aa rfl rfl) ?_
  refine kA rfl ?_
  refine ap (_,[]) (fun τ=> aZ _ _ rfl rfl (bD ab)) ?_
  refine gf rfl ?_
  refine ap (_,[((50,0),_)]) (fun τ=> (bQ aa [((0,8),(50,0))] ar (hcj.toI) trivial tr tr rfl rfl ae ae)) ?_
  refine gJ rfl (bo ⟨rfl,?_⟩)
  refine ai (dh (26,0) _ _ aa rfl rfl (bO _).symm (.ref rfl (nn _) (lp _)) ab rfl (lT _ _) hsl.symm) ?_
  refine fe rfl (eh (an (aX rfl (ai (aZ _ _ rfl rfl (bD ab)) ?_))))
  refine bg rfl (aJ (⟨j+1,?_,?_,?_⟩))
  ·omega
  ·skip
   refine Le.mkJ [((7,0),(26,0))] [] rfl ?_ ?_ trivial trivial ?_
   ·exact ⟨(by repeat' (exact Lv.sl)),(by repeat' (exact Lv.v)),(du (id:=(3,0)) rfl),(ci ag),(cJ rfl ag),trivial⟩
   ·exact ⟨(eY rfl rfl rfl rfl (by repeat' (first | exact Lv.sl | exact bf | refine ax ?_ ?_))),(eZ rfl rfl rfl (by (rw [hs]))),trivial⟩
   kernel_rfl
  omega
 obtain rfl:j=cs.length:=by omega
 rw [List.take_length]
 refine bA (id (hK3 _ ?_))
 clear hK3;try clear K3
 exact am (gz rfl (fe rfl (aj (aG (bH (.inr rfl) rfl (.tmp dR) (Le.out [((0,8),(7,0))] [] (cJ rfl rfl) rfl rfl rfl trivial ob))))))
theorem pB (N:Nd) (c:Cd) (h:CoS (uu d v no on) N c) (n:Int) (a:Nat) (ha:a+(c a).length≤1000000):
  Spec Tryz.prog 187 (ba [uu d v no on, .sl 1 (mR [N]), .v (.int .i64 n), .v (.int .i64 (a:Int))] []) (aP (.ref (0,8) 0 (c a).length) [((0,8), .row 48 2 (inl (c a)))]):=by
 have hc:=h a ha
 refine Spec.ofN Tryz.func187 rfl Tryz.ntmps187 rfl ?_
 refine am (ai (aQ (4,0) _ rfl rfl) (ai (bp _ fA) (aj (aq (am (eO rfl (ai (bi _ aa rfl) (ai (gb _ _ rfl rfl rfl) (aj (bK rfl rfl ?_))))))))))
 refine aq ?_
 refine aM (σ':=aE 21 [(1,_),(3,_),(4,_)] [((4,0),_)] [] []) kp ?_
 refine bJ 5 [12,13,14,15,16] [] ae ae rfl (aK rfl) (rfl:_=[_,_,_,_,_]) (rfl:_=[_,_]) ?_
 refine ap (_,[]) (fun τ=> az _ aa rfl rfl rfl rfl) ?_
 refine fO rfl ?_
 refine ap (_,[]) (fun τ=> aI _ mx) ?_
 refine fN rfl ?_
 refine ap (_,[]) (fun τ=> bn _ _ aa rfl rfl 0 rfl ab (by simp [mR,Nd.row]) rfl) ?_
 refine fP rfl ?_
 refine ap (_,[]) (fun τ=> ca _ aa rfl (by exact cN [N] 0 (by simp)) rfl) ?_
 refine fV rfl ?_
 refine ap (_,[]) (fun τ=> aI _ et) ?_
 refine gm rfl (bo ⟨rfl,?_⟩)
 refine ai (cg aa [((0,8),(50,0))] ar (hc.toI) trivial tr ae) ?_
 exact fe rfl (aj (aG (bH (.inr rfl) rfl (.tmp dR) (Le.out [((0,8),(50,0))] [] (cJ rfl rfl) rfl rfl rfl trivial ob))))
theorem uo (n:Int) (a:Nat):
  Spec Tryz.prog 187 (ba [uu d v no on, .sl 0 [], .v (.int .i64 n), .v (.int .i64 (a:Int))] []) (aP (.ref (0,8) 0 1) [((0,8), .row 48 2 (inl [{ op:= .push,n:=n }]))]):=by
 refine Spec.ofN Tryz.func187 rfl Tryz.ntmps187 rfl ?_
 refine am (ai (aQ (4,0) _ rfl rfl) (ai (bp _ fA) (aj (aq (am (eO rfl (ai (bi _ aa rfl) (ai (gb _ _ rfl rfl rfl) (aj (aW rfl rfl ?_))))))))))
 refine aS (am (aX rfl (ai (aN _ aa rfl (by exact eX)) ?_)))
 refine ai (kh (20,0) _ _ aa rfl ag (by (simp <;> rfl)) ah rfl rfl) ?_
 exact fe rfl (aj (aG (bH (.inr rfl) rfl (.tmp dR) (Le.out [((0,8),(20,0))] [] (cJ rfl rfl) rfl rfl rfl trivial ob))))
def Gq (c y z:Cd) (a:Nat):List eW:=
 c a++[{ op:= .unl,n:=((a+(c a).length+1+(y (a+(c a).length+1)).length+1:Nat):Int) }]++y (a+(c a).length+1)++
  [{ op:= .jump,n:=((a+(c a).length+1+(y (a+(c a).length+1)).length+1+(z (a+(c a).length+1+(y (a+(c a).length+1)).length+1)).length:Nat):Int) }]++z (a+(c a).length+1+(y (a+(c a).length+1)).length+1)
abbrev Nh (u:AV) (l:AV) (n:Int) (c:Cd):Prop:= ∀ a,a+(c a).length≤1000000→Spec Tryz.prog 187 (ba [u,l, .v (.int .i64 n), .v (.int .i64 (a:Int))] []) (aP (.ref (0,8) 0 (c a).length) [((0,8), .row 48 2 (inl (c a)))])
theorem lF (N:Nd) (c y z:Cd) (hc:CoS (uu d v no on) N c) (ly lz:Nat) (ys zs:List PV) (n:Int) (hy:Nh (uu d v no on) (.sl ly ys) n y) (hz:Nh (uu d v no on) (.sl lz zs) n z) (a:Nat) (ha:a+(Gq c y z a).length≤1000000):
  Spec Tryz.prog 124 (ba [uu d v no on,pu N, .sl ly ys, .sl lz zs, .v (.int .i64 n), .v (.int .i64 (a:Int))] []) (aP (.ref (0,8) 0 (Gq c y z a).length) [((0,8), .row 48 2 (inl (Gq c y z a)))]):=by
 have hb: ∃ b,b=Gq c y z a:=⟨_,rfl⟩
 obtain ⟨b,hb⟩:=hb
 rw [← hb] at ha ⊢
 unfold Gq at hb
 have hbl:=congrArg List.length hb
 simp only [List.length_append,List.length_cons,List.length_nil] at hbl
 have h1:=hc a ab
 generalize c a=C at h1 hb hbl
 have h2:=hy (a+C.length+1) ab
 generalize y (a+C.length+1)=Y at h2 hb hbl
 obtain ⟨f,hf⟩: ∃ f,f=a+C.length+1+Y.length+1:=⟨_,rfl⟩
 rw [← hf] at hb hbl
 have h3:=hz f ab
 generalize z f=Z at h3 hb hbl
 refine Spec.ofN Tryz.func124 rfl Tryz.ntmps124 rfl ?_
 refine am (ai (aQ (6,0) _ rfl rfl) (ai (aQ (7,0) _ rfl rfl) (ai (bp _ fA) (aj (am (ai (az _ aa rfl rfl rfl rfl) (ai (az _ aa rfl rfl rfl rfl) (aX rfl (ai (cg aa [((0,8),(50,0))] ar (h1.toI) trivial tr ae) ?_)))))))))
 refine fe rfl (aj (aT fun K3 hK3=> ?_))
 refine an (ai (az _ aa rfl rfl rfl rfl) (eO rfl (aX rfl (aX rfl (gz rfl (ai (dg _ aa rfl rfl) (ai (aZ _ _ rfl rfl (bD ab)) ?_)))))))
 refine ai (aZ _ _ rfl rfl (bD ab)) ?_
 refine ai (cg aa [((0,8),(51,0))] ar (h2.toI) trivial tr ae) ?_
 refine fe rfl (aJ (hK3 _ ?_))
 clear hK3;try clear K3
 refine aq ?_
 refine aM (σ':=aE 63 [(3,_),(4,_),(5,_),(6,_),(13,_),(14,_)] [((6,0),_),((50,0),_),((51,0),_)] [] []) kp ?_
 refine an (aX rfl (gz rfl (ai (dg _ aa rfl rfl) (ai (aZ _ _ rfl rfl (bD ab)) ?_))))
 refine ai (aZ _ _ rfl rfl (bD ab)) ?_
 refine gz rfl (ai (dg _ aa rfl rfl) (ai (aZ _ _ rfl rfl (bD ab)) ?_))
 refine ai (aZ (r:=(f:Int)) _ _ rfl rfl ((bD ab).trans ab)) ?_
 refine bg rfl (aj (aT fun K5 hK5=> ?_))
 refine an (ai (az _ aa rfl rfl rfl rfl) (eO rfl (aX rfl (aX rfl (ai (cg aa [((0,8),(52,0))] ar (h3.toI) trivial tr ae) ?_)))))
 refine fe rfl (aJ (hK5 _ ?_))
 clear hK5;try clear K5
 refine aq ?_
 refine aM (σ':=aE 63 [(13,_),(14,_),(15,_),(16,_)] [((50,0),_),((51,0),_),((52,0),_)] [] []) kp ?_
 refine an (gz rfl (aX rfl (ai (aN _ aa rfl (by exact eX)) ?_)))
 refine ai (bh _ _ aa rfl ag (by (simp <;> rfl)) ah rfl) ?_
 refine ai (dh (48,0) _ _ aa rfl rfl (bO _).symm (.sl rfl) ab rfl (fq _ { op:= .unl,n:=f }) (show C.length+1=(C++[({ op:= .unl,n:=f }:eW)]).length by simp)) ?_
 refine fe rfl (aj (am (gz rfl (gz rfl (ai (dh (51,1) _ _ aa rfl rfl (bO _).symm (.ref rfl (nn _) (lp _)) (by simp;omega) rfl (lT _ _) (show (C++[({ op:= .unl,n:=f }:eW)]).length+Y.length=(C++[({ op:= .unl,n:=f }:eW)]++Y).length by simp;omega)) ?_)))))
 refine fe rfl (aj (am (gz rfl (aX rfl (gz rfl (ai (dg _ aa rfl rfl) (ai (aZ _ _ rfl rfl (bD ab)) ?_)))))))
 refine ai (aN _ aa rfl (by exact eX)) ?_
 refine ai (bh _ _ aa rfl ag (by (simp <;> rfl)) ah rfl) ?_
 refine ai (dh (59,0) _ _ aa rfl rfl (bO _).symm (.sl rfl) (by simp;omega) rfl (fq _ { op:= .jump,n:=((f+Z.length:Nat):Int) }) (show (C++[({ op:= .unl,n:=f }:eW)]++Y).length+1=(C++[({ op:= .unl,n:=f }:eW)]++Y++[({ op:= .jump,n:=((f+Z.length:Nat):Int) }:eW)]).length by simp;omega)) ?_
 refine fe rfl (aj (aq ?_))
 refine aM (σ':=aE 63 [(13,_),(16,_)] [((52,0),_),((59,0),_)] [] []) kp ?_
 refine an (gz rfl (gz rfl (ai (dh (62,0) _ _ aa rfl rfl (bO _).symm (.ref rfl (nn _) (lp _)) (by simp;omega) rfl ((lT _ _).trans (congrArg inl hb.symm)) (show _+Z.length=b.length by simp;omega)) ?_)))
 exact fe rfl (aj (aG (bH (.inr rfl) rfl (.tmp dR) (Le.out [((0,8),(62,0))] [] (cJ rfl rfl) rfl rfl rfl trivial ob))))
end

section
variable {d v:List Tx} {no:Nat} {on:List PV}
theorem GX (n:Nat):CoS (uu d v no on) (nd 12 n [] []) (fun _=> [{ op:= .push,n:=(n:Int) }]):=fun a ha=> by
 refine Spec.ofN Tryz.func91 rfl Tryz.ntmps91 rfl ?_
 refine am (ai (aQ (3,0) _ rfl rfl) (ai (aQ (4,0) _ rfl rfl) (ai (bp _ fA) (aj (aq (am (bc rfl rfl rfl (cd rfl rfl rfl (aj (ay ?_))))))))))
 refine aq (iC rfl rfl rfl rfl rfl (aS (bK rfl rfl (am (bc rfl rfl rfl (cd rfl rfl rfl (ai (aN _ aa rfl (by exact eX)) ?_)))))))
 refine ai (kh (19,0) _ _ aa rfl ag (by (simp <;> rfl)) ah rfl rfl) ?_
 exact fe rfl (aj (aG (bH (.inr rfl) rfl (.tmp dR) (Le.out [((0,8),(19,0))] [] (cJ rfl rfl) rfl rfl rfl trivial ob))))
theorem wT (n:Nat):CoS (uu d v no on) (nd 13 n [] []) (fun _=> [{ op:= .push,n:=(n:Int) }]):=fun a ha=> by
 refine Spec.ofN Tryz.func91 rfl Tryz.ntmps91 rfl ?_
 refine am (ai (aQ (3,0) _ rfl rfl) (ai (aQ (4,0) _ rfl rfl) (ai (bp _ fA) (aj (aq (am (bc rfl rfl rfl (cd rfl rfl rfl (aj (ay ?_))))))))))
 refine aq (cK rfl rfl rfl rfl rfl (zr rfl rfl rfl rfl rfl (am (bc rfl rfl rfl (cd rfl rfl rfl (ai (aN _ aa rfl (by exact eX)) ?_))))))
 refine ai (kh (19,0) _ _ aa rfl ag (by (simp <;> rfl)) ah rfl rfl) ?_
 exact fe rfl (aj (aG (bH (.inr rfl) rfl (.tmp dR) (Le.out [((0,8),(19,0))] [] (cJ rfl rfl) rfl rfl rfl trivial ob))))
theorem HN (hn:(d++v).Nodup) (hl:(d++v).length≤1000) (i:Nat) (hi:i < (d++v).length):CoS (uu d v no on) (nd 14 0 ((d++v).getD i []) []) (fun _=> [{ op:= .var,n:=(i:Int) }]):=fun a ha=> by
 refine Spec.ofN Tryz.func91 rfl Tryz.ntmps91 rfl ?_
 refine am (ai (aQ (3,0) _ rfl rfl) (ai (aQ (4,0) _ rfl rfl) (ai (bp _ fA) (aj (aq (am (bc rfl rfl rfl (cd rfl rfl rfl (aj (ay ?_))))))))))
 refine aq (cK rfl rfl rfl rfl rfl (eb rfl rfl rfl rfl rfl (iC rfl rfl rfl rfl rfl (am (ai (az _ aa rfl rfl rfl rfl) (bc rfl rfl rfl (ai (aF _ aa rfl rfl fz) (ai (aH aa al (mE d v on no hn hl i hi) rfl rfl) ?_))))))))
 refine ai (aN _ aa rfl (by exact eX)) ?_
 refine ai (kh (27,0) _ _ aa rfl ag (by (simp <;> rfl)) ah rfl rfl) ?_
 exact fe rfl (aj (aG (bH (.inr rfl) rfl (.tmp dR) (Le.out [((0,8),(27,0))] [] (cJ rfl rfl) rfl rfl rfl trivial ob))))
theorem DF (k:Nat) (hk:k < 9):CoS (uu d v no on) (nd 15 0 (bltT.getD k []) []) (fun _=> [{ op:= .name,n:=(k:Int) }]):=fun a ha=> by
 refine Spec.ofN Tryz.func91 rfl Tryz.ntmps91 rfl ?_
 refine am (ai (aQ (3,0) _ rfl rfl) (ai (aQ (4,0) _ rfl rfl) (ai (bp _ fA) (aj (aq (am (bc rfl rfl rfl (cd rfl rfl rfl (aj (ay ?_))))))))))
 refine aq (cK rfl rfl rfl rfl rfl (eb rfl rfl rfl rfl rfl (cK rfl rfl rfl rfl rfl (iC rfl rfl rfl rfl rfl (aq ?_)))))
 refine aM (σ':=aE 211 [(4,_)] [((4,0),_)] [] []) kp ?_
 refine bJ 6 [30,31,32,33,34,35] [(35,0)] ae ae rfl (aK rfl) (rfl:_=[_,_,_,_,_,_]) (rfl:_=[_]) ?_
 refine ap (_,[]) (fun τ=> (aH aa (by repeat' (exact cT)) (po) rfl rfl)) ?_
 refine fO rfl ?_
 refine ap (_,[]) (fun τ=> aA _ aa rfl rfl rfl) ?_
 refine fN rfl ?_
 refine ap (_,[]) (fun τ=> aF _ aa rfl rfl fz) ?_
 refine fP rfl ?_
 refine ap (_,[]) (fun τ=> (aH aa al (xO bltT 9 rfl ab ah k hk) rfl rfl)) ?_
 refine fV rfl ?_
 refine ap (_,[]) (fun τ=> aN _ aa rfl (by exact eX)) ?_
 refine gm rfl ?_
 refine ap (_,[((35,0),_)]) (fun τ=> kh (35,0) _ _ aa rfl ag (by (simp <;> rfl)) ah rfl rfl) ?_
 refine gY rfl (bo ⟨rfl,?_⟩)
 exact fe rfl (aj (aG (bH (.inr rfl) rfl (.tmp dR) (Le.out [((0,8),(35,0))] [] (cJ rfl rfl) rfl rfl rfl trivial ob))))
theorem BT (n:Nat):CoS (uu d v no on) (nd 5 n [] []) (fun _=> [{ op:= .timer,n:=(n:Int) }]):=fun a ha=> by
 refine Spec.ofN Tryz.func91 rfl Tryz.ntmps91 rfl ?_
 refine am (ai (aQ (3,0) _ rfl rfl) (ai (aQ (4,0) _ rfl rfl) (ai (bp _ fA) (aj (aq (am (bc rfl rfl rfl (cd rfl rfl rfl (aj (ay ?_))))))))))
 refine aq (cK rfl rfl rfl rfl rfl (eb rfl rfl rfl rfl rfl ?_))
 iterate 3 refine cK rfl rfl rfl rfl rfl ?_
 refine aq ?_
 refine aM (σ':=aE 211 [(2,_),(3,_),(4,_),(12,_)] [((3,0),_),((4,0),_)] [] []) kp ?_
 refine zr rfl rfl rfl rfl rfl (am (bc rfl rfl rfl (cd rfl rfl rfl (ai (aN _ aa rfl (by exact eX)) ?_))))
 refine ai (kh (56,0) _ _ aa rfl ag (by (simp <;> rfl)) ah rfl rfl) ?_
 exact fe rfl (aj (aG (bH (.inr rfl) rfl (.tmp dR) (Le.out [((0,8),(56,0))] [] (cJ rfl rfl) rfl rfl rfl trivial ob))))
theorem xZ (n:Nat):CoS (uu d v no on) (nd 6 n [] []) (fun _=> [{ op:= .cancel,n:=(n:Int) }]):=fun a ha=> by
 refine Spec.ofN Tryz.func91 rfl Tryz.ntmps91 rfl ?_
 refine am (ai (aQ (3,0) _ rfl rfl) (ai (aQ (4,0) _ rfl rfl) (ai (bp _ fA) (aj (aq (am (bc rfl rfl rfl (cd rfl rfl rfl (aj (ay ?_))))))))))
 refine aq (cK rfl rfl rfl rfl rfl (eb rfl rfl rfl rfl rfl ?_))
 iterate 3 refine cK rfl rfl rfl rfl rfl ?_
 refine aq ?_
 refine aM (σ':=aE 211 [(2,_),(3,_),(4,_),(12,_)] [((3,0),_),((4,0),_)] [] []) kp ?_
 refine eb rfl rfl rfl rfl rfl (iC rfl rfl rfl rfl rfl (am (bc rfl rfl rfl (cd rfl rfl rfl (ai (aN _ aa rfl (by exact eX)) ?_)))))
 refine ai (kh (62,0) _ _ aa rfl ag (by (simp <;> rfl)) ah rfl rfl) ?_
 exact fe rfl (aj (aG (bH (.inr rfl) rfl (.tmp dR) (Le.out [((0,8),(62,0))] [] (cJ rfl rfl) rfl rfl rfl trivial ob))))
theorem co_sync:CoS (uu d v no on) (nd 7 0 [] []) (fun _=> [{ op:= .sync }]):=fun a ha=> by
 refine Spec.ofN Tryz.func91 rfl Tryz.ntmps91 rfl ?_
 refine am (ai (aQ (3,0) _ rfl rfl) (ai (aQ (4,0) _ rfl rfl) (ai (bp _ fA) (aj (aq (am (bc rfl rfl rfl (cd rfl rfl rfl (aj (ay ?_))))))))))
 refine aq (cK rfl rfl rfl rfl rfl (eb rfl rfl rfl rfl rfl ?_))
 iterate 3 refine cK rfl rfl rfl rfl rfl ?_
 refine aq ?_
 refine aM (σ':=aE 211 [(2,_),(3,_),(4,_),(12,_)] [((3,0),_),((4,0),_)] [] []) kp ?_
 refine eb rfl rfl rfl rfl rfl (cK rfl rfl rfl rfl rfl (iC rfl rfl rfl rfl rfl (am (ai (aN _ aa rfl (by exact eX)) ?_))))
 refine ai (kh (66,0) _ _ aa rfl ag (by (simp <;> rfl)) ah rfl rfl) ?_
 exact fe rfl (aj (aG (bH (.inr rfl) rfl (.tmp dR) (Le.out [((0,8),(66,0))] [] (cJ rfl rfl) rfl rfl rfl trivial ob))))
theorem co_stop:CoS (uu d v no on) (nd 10 0 [] []) (fun _=> [{ op:= .stop }]):=fun a ha=> by
 refine Spec.ofN Tryz.func91 rfl Tryz.ntmps91 rfl ?_
 refine am (ai (aQ (3,0) _ rfl rfl) (ai (aQ (4,0) _ rfl rfl) (ai (bp _ fA) (aj (aq (am (bc rfl rfl rfl (cd rfl rfl rfl (aj (ay ?_))))))))))
 refine aq (cK rfl rfl rfl rfl rfl (eb rfl rfl rfl rfl rfl ?_))
 iterate 3 refine cK rfl rfl rfl rfl rfl ?_
 refine aq ?_
 refine aM (σ':=aE 211 [(2,_),(3,_),(4,_),(12,_)] [((3,0),_),((4,0),_)] [] []) kp ?_
 refine eb rfl rfl rfl rfl rfl ?_
 iterate 2 refine cK rfl rfl rfl rfl rfl ?_
 refine iC rfl rfl rfl rfl rfl (am (ai (aN _ aa rfl (by exact eX)) ?_))
 refine ai (kh (70,0) _ _ aa rfl ag (by (simp <;> rfl)) ah rfl rfl) ?_
 exact fe rfl (aj (aG (bH (.inr rfl) rfl (.tmp dR) (Le.out [((0,8),(70,0))] [] (cJ rfl rfl) rfl rfl rfl trivial ob))))
theorem GZ {c y z:Nd} {cc cy cz:Cd} (hc:CoS (uu d v no on) c cc) (hy:CoS (uu d v no on) y cy) (hz:CoS (uu d v no on) z cz):CoS (uu d v no on) (nd 2 0 [] [c,y,z]) (Gq cc cy cz):=fun a ha=> by
 have hb:=lF (on:=on) c cc cy cz hc 1 1 (mR [y]) (mR [z]) 0 (fun a ha=> pB y cy hy 0 a ha) (fun a ha=> pB z cz hz 0 a ha) a ha
 refine Spec.ofN Tryz.func91 rfl Tryz.ntmps91 rfl ?_
 refine am (ai (aQ (3,0) _ rfl rfl) (ai (aQ (4,0) _ rfl rfl) (ai (bp _ fA) (aj (aq (am (bc rfl rfl rfl (cd rfl rfl rfl (aj (ay ?_))))))))))
 refine aq (cK rfl rfl rfl rfl rfl (eb rfl rfl rfl rfl rfl ?_))
 iterate 2 refine cK rfl rfl rfl rfl rfl ?_
 refine iC rfl rfl rfl rfl rfl (aq ?_)
 refine aM (σ':=aE 211 [(2,_),(3,_),(4,_)] [((3,0),_),((4,0),_)] [] []) kp ?_
 refine bJ 12 [38,39,40,41,42,43,44,45,46,47,48,49] [] ae ae rfl (aK rfl) (rfl:_=[_,_,_,_,_,_,_,_,_,_,_,_]) (rfl:_=[_,_]) ?_
 refine ap (_,[]) (fun τ=> az _ aa rfl rfl rfl rfl) ?_
 refine fO rfl ?_
 refine ap (_,[]) (fun τ=> aA _ aa rfl rfl rfl) ?_
 refine fN rfl ?_
 refine ap (_,[]) (fun τ=> aF _ aa rfl rfl ed) ?_
 refine fP rfl ?_
 refine ap (_,[]) (fun τ=> bn _ _ aa rfl rfl 0 rfl (show 0 < 3 by omega) (Nat.le_of_ble_eq_true rfl) rfl) ?_
 refine fV rfl ?_
 refine ap (_,[]) (fun τ=> ca _ aa rfl (by exact cN [c,y,z] 0 (by simp)) rfl) ?_
 refine gm rfl ?_
 refine ap (_,[]) (fun τ=> aA _ aa rfl rfl rfl) ?_
 refine gY rfl ?_
 refine ap (_,[]) (fun τ=> aF _ aa rfl rfl ed) ?_
 refine iH rfl ?_
 refine ap (_,[]) (fun τ=> kG _ _ _ aa rfl 1 2 (.lit rfl rfl) (.lit rfl rfl) ab (show 2≤3 by omega) (show _=mR [y] from rfl) rfl) ?_
 refine jU rfl ?_
 refine ap (_,[]) (fun τ=> aA _ aa rfl rfl rfl) ?_
 refine kA rfl ?_
 refine ap (_,[]) (fun τ=> aF _ aa rfl rfl ed) ?_
 refine gf rfl ?_
 refine ap (_,[]) (fun τ=> kG _ _ _ aa rfl 2 3 (.lit rfl rfl) (.lit rfl rfl) ab (show 3≤3 by omega) (show _=mR [z] from rfl) rfl) ?_
 refine gJ rfl ?_
 refine ap (_,[]) (fun τ=> aI _ et) ?_
 refine kS rfl (bo ⟨rfl,?_⟩)
 refine ai (cg aa [((0,8),(50,0))] ar (hb.toI) trivial tr ae) ?_
 exact fe rfl (aj (aG (bH (.inr rfl) rfl (.tmp dR) (Le.out [((0,8),(50,0))] [] (cJ rfl rfl) rfl rfl rfl trivial ob))))
theorem HZ {c y:Nd} {cc cy:Cd} (hc:CoS (uu d v no on) c cc) (hy:CoS (uu d v no on) y cy):CoS (uu d v no on) (nd 18 0 [38,38] [c,y]) (Gq cc cy (fun _=> [{ op:= .push,n:=0 }])):=fun a ha=> by
 have hb:=lF (on:=on) c cc cy (fun _=> [{ op:= .push,n:=0 }]) hc 1 0 (mR [y]) [] 0 (fun a ha=> pB y cy hy 0 a ha) (fun a _=> uo 0 a) a ha
 refine Spec.ofN Tryz.func91 rfl Tryz.ntmps91 rfl ?_
 refine am (ai (aQ (3,0) _ rfl rfl) (ai (aQ (4,0) _ rfl rfl) (ai (bp _ fA) (aj (aq (am (bc rfl rfl rfl (cd rfl rfl rfl (aj (ay ?_))))))))))
 refine aq (cK rfl rfl rfl rfl rfl (eb rfl rfl rfl rfl rfl ?_))
 iterate 3 refine cK rfl rfl rfl rfl rfl ?_
 refine aq ?_
 refine aM (σ':=aE 211 [(2,_),(3,_),(4,_),(12,_)] [((3,0),_),((4,0),_)] [] []) kp ?_
 refine eb rfl rfl rfl rfl rfl ?_
 iterate 4 refine cK rfl rfl rfl rfl rfl ?_
 refine cr (aq (am (bc rfl rfl rfl (cd rfl rfl rfl (jY rfl rfl rfl (cI rfl (au rfl rfl (aA _ aa rfl rfl rfl) (au rfl rfl (aF _ aa rfl rfl fz) (au rfl rfl (aV (r:=true) _ _ Tryz.underlying9 rfl rfl rfl) (ai (aD _ _ _ rfl bT) ?_))))))))))
 refine aj (bK rfl rfl (aq ?_))
 refine aM (σ':=aE 211 [(2,_),(3,_),(4,_)] [((3,0),_),((4,0),_)] [] []) kp ?_
 refine bJ 9 [119,120,121,122,123,124,125,126,127] [] ae ae rfl (aK rfl) (rfl:_=[_,_,_,_,_,_,_,_,_]) (rfl:_=[_,_]) ?_
 refine ap (_,[]) (fun τ=> az _ aa rfl rfl rfl rfl) ?_
 refine fO rfl ?_
 refine ap (_,[]) (fun τ=> aA _ aa rfl rfl rfl) ?_
 refine fN rfl ?_
 refine ap (_,[]) (fun τ=> aF _ aa rfl rfl ed) ?_
 refine fP rfl ?_
 refine ap (_,[]) (fun τ=> bn _ _ aa rfl rfl 0 rfl (show 0 < 2 by omega) (Nat.le_of_ble_eq_true rfl) rfl) ?_
 refine fV rfl ?_
 refine ap (_,[]) (fun τ=> ca _ aa rfl (by exact cN [c,y] 0 (by simp)) rfl) ?_
 refine gm rfl ?_
 refine ap (_,[]) (fun τ=> aA _ aa rfl rfl rfl) ?_
 refine gY rfl ?_
 refine ap (_,[]) (fun τ=> aF _ aa rfl rfl ed) ?_
 refine iH rfl ?_
 refine ap (_,[]) (fun τ=> kG _ _ _ aa rfl 1 2 (.lit rfl rfl) (.lit rfl rfl) ab (show 2≤2 by omega) (show _=mR [y] from rfl) rfl) ?_
 refine jU rfl ?_
 refine ap (_,[]) (fun τ=> aI _ et) ?_
 refine kA rfl (bo ⟨rfl,?_⟩)
 refine ai (cg aa [((0,8),(50,0))] ar (hb.toI) trivial tr ae) ?_
 exact fe rfl (aj (aG (bH (.inr rfl) rfl (.tmp dR) (Le.out [((0,8),(50,0))] [] (cJ rfl rfl) rfl rfl rfl trivial ob))))
theorem JO {c y:Nd} {cc cy:Cd} (hc:CoS (uu d v no on) c cc) (hy:CoS (uu d v no on) y cy):CoS (uu d v no on) (nd 18 0 [124,124] [c,y]) (Gq cc (fun _=> [{ op:= .push,n:=1 }]) cy):=fun a ha=> by
 have hb:=lF (on:=on) c cc (fun _=> [{ op:= .push,n:=1 }]) cy hc 0 1 [] (mR [y]) 1 (fun a _=> uo 1 a) (fun a ha=> pB y cy hy 1 a ha) a ha
 refine Spec.ofN Tryz.func91 rfl Tryz.ntmps91 rfl ?_
 refine am (ai (aQ (3,0) _ rfl rfl) (ai (aQ (4,0) _ rfl rfl) (ai (bp _ fA) (aj (aq (am (bc rfl rfl rfl (cd rfl rfl rfl (aj (ay ?_))))))))))
 refine aq (cK rfl rfl rfl rfl rfl (eb rfl rfl rfl rfl rfl ?_))
 iterate 3 refine cK rfl rfl rfl rfl rfl ?_
 refine aq ?_
 refine aM (σ':=aE 211 [(2,_),(3,_),(4,_),(12,_)] [((3,0),_),((4,0),_)] [] []) kp ?_
 refine eb rfl rfl rfl rfl rfl ?_
 iterate 4 refine cK rfl rfl rfl rfl rfl ?_
 refine cr (aq (am (bc rfl rfl rfl (cd rfl rfl rfl (jY rfl rfl rfl (cI rfl (au rfl rfl (aA _ aa rfl rfl rfl) (au rfl rfl (aF _ aa rfl rfl fz) (au rfl rfl (aV (r:=false) _ _ Tryz.underlying9 rfl rfl rfl) (ai (aD _ _ _ rfl bT) ?_))))))))))
 refine aj (aW rfl rfl (aS (aq (aq ?_))))
 refine aM (σ':=aE 211 [(2,_),(3,_),(4,_)] [((3,0),_),((4,0),_)] [] []) kp ?_
 refine an (bc rfl rfl rfl (cd rfl rfl rfl (jY rfl rfl rfl (cI rfl (au rfl rfl (aA _ aa rfl rfl rfl) (au rfl rfl (aF _ aa rfl rfl fz) (au rfl rfl (aV (r:=true) _ _ Tryz.underlying9 rfl rfl rfl) (ai (aD _ _ _ rfl bT) (aj (bK rfl rfl ?_))))))))))
 refine aq ?_
 refine aM (σ':=aE 211 [(2,_),(3,_),(4,_)] [((3,0),_),((4,0),_)] [] []) kp ?_
 refine bJ 9 [137,138,139,140,141,142,143,144,145] [] ae ae rfl (aK rfl) (rfl:_=[_,_,_,_,_,_,_,_,_]) (rfl:_=[_,_]) ?_
 refine ap (_,[]) (fun τ=> az _ aa rfl rfl rfl rfl) ?_
 refine fO rfl ?_
 refine ap (_,[]) (fun τ=> aA _ aa rfl rfl rfl) ?_
 refine fN rfl ?_
 refine ap (_,[]) (fun τ=> aF _ aa rfl rfl ed) ?_
 refine fP rfl ?_
 refine ap (_,[]) (fun τ=> bn _ _ aa rfl rfl 0 rfl (show 0 < 2 by omega) (Nat.le_of_ble_eq_true rfl) rfl) ?_
 refine fV rfl ?_
 refine ap (_,[]) (fun τ=> ca _ aa rfl (by exact cN [c,y] 0 (by simp)) rfl) ?_
 refine gm rfl ?_
 refine ap (_,[]) (fun τ=> aA _ aa rfl rfl rfl) ?_
 refine gY rfl ?_
 refine ap (_,[]) (fun τ=> aF _ aa rfl rfl ed) ?_
 refine iH rfl ?_
 refine ap (_,[]) (fun τ=> kG _ _ _ aa rfl 1 2 (.lit rfl rfl) (.lit rfl rfl) ab (show 2≤2 by omega) (show _=mR [y] from rfl) rfl) ?_
 refine jU rfl ?_
 refine ap (_,[]) (fun τ=> aI _ et) ?_
 refine kA rfl (bo ⟨rfl,?_⟩)
 refine ai (cg aa [((0,8),(50,0))] ar (hb.toI) trivial tr ae) ?_
 exact fe rfl (aj (aG (bH (.inr rfl) rfl (.tmp dR) (Le.out [((0,8),(50,0))] [] (cJ rfl rfl) rfl rfl rfl trivial ob))))
theorem EY {L:List Nd} {cs:List Cd} (hc:cs.length=L.length) (hk:mA (uu d v no on) L cs):CoS (uu d v no on) (nd 16 0 [] L) (fun a=> cZ cs a++[{ op:= .draw }]):=fun a ha=> by
 have hl2:a+(cZ cs a).length≤1000000:=by simp only [List.length_append] at ha;omega
 have hq:=dJ (d:=d) (v:=v) (no:=no) (on:=on) L cs hc hk a hl2
 refine Spec.ofN Tryz.func91 rfl Tryz.ntmps91 rfl ?_
 refine am (ai (aQ (3,0) _ rfl rfl) (ai (aQ (4,0) _ rfl rfl) (ai (bp _ fA) (aj (aq (am (bc rfl rfl rfl (cd rfl rfl rfl (aj (ay ?_))))))))))
 refine aq (cK rfl rfl rfl rfl rfl (eb rfl rfl rfl rfl rfl ?_))
 iterate 3 refine cK rfl rfl rfl rfl rfl ?_
 refine aq ?_
 refine aM (σ':=aE 211 [(2,_),(3,_),(4,_),(12,_)] [((3,0),_),((4,0),_)] [] []) kp ?_
 refine eb rfl rfl rfl rfl rfl ?_
 iterate 4 refine cK rfl rfl rfl rfl rfl ?_
 refine cr (aq (am (bc rfl rfl rfl (cd rfl rfl rfl (gR rfl rfl rfl (cI rfl (aO rfl rfl ah ?_)))))))
 refine aO rfl rfl ah ?_
 refine aO rfl rfl ah ?_
 refine ai (aD _ _ _ rfl bT) (aj (aW rfl rfl (aS (aq (aq ?_)))))
 refine aM (σ':=aE 211 [(2,_),(3,_),(4,_)] [((3,0),_),((4,0),_)] [] []) kp ?_
 refine an (bc rfl rfl rfl (cd rfl rfl rfl (gR rfl rfl rfl (cI rfl (aO rfl rfl ah ?_)))))
 refine aO rfl rfl ah ?_
 refine aO rfl rfl ah ?_
 refine ai (aD _ _ _ rfl bT) (aj (aW rfl rfl (aS (am (ai (az _ aa rfl rfl rfl rfl) (bc rfl rfl rfl (eQ rfl rfl rfl (aX rfl (ai (cg aa [((0,8),(50,0))] ar (hq.toI) trivial tr ae) ?_)))))))))
 refine fe rfl (aj (aq (am (bc rfl rfl rfl (cd rfl rfl rfl (aj (ay (aq ?_))))))))
 refine aM (σ':=aE 211 [(3,_),(4,_),(10,_),(153,_)] [((3,0),_),((4,0),_),((50,0),_)] [] []) kp ?_
 refine eb rfl rfl rfl rfl rfl (iC rfl rfl rfl rfl rfl (am (gz rfl (ai (aN _ aa rfl (by exact eX)) ?_))))
 refine ai (bh _ _ aa rfl ag (by (simp <;> rfl)) ah rfl) ?_
 refine ai (dh (166,0) _ _ aa rfl rfl (bO _).symm (.sl rfl) ab rfl (fq _ { op:= .draw }) (show (cZ cs a).length+1=(cZ cs a++[({ op:= .draw }:eW)]).length by simp)) ?_
 exact fe rfl (aj (aG (bH (.inr rfl) rfl (.tmp dR) (Le.out [((0,8),(166,0))] [] (cJ rfl rfl) rfl rfl rfl trivial ob))))
theorem Hs {L:List Nd} {cs:List Cd} (hc:cs.length=L.length) (hk:mA (uu d v no on) L cs):CoS (uu d v no on) (nd 17 0 [45] L) (fun a=> cZ cs a++[{ op:= .neg }]):=fun a ha=> by
 have hl2:a+(cZ cs a).length≤1000000:=by simp only [List.length_append] at ha;omega
 have hq:=dJ (d:=d) (v:=v) (no:=no) (on:=on) L cs hc hk a hl2
 refine Spec.ofN Tryz.func91 rfl Tryz.ntmps91 rfl ?_
 refine am (ai (aQ (3,0) _ rfl rfl) (ai (aQ (4,0) _ rfl rfl) (ai (bp _ fA) (aj (aq (am (bc rfl rfl rfl (cd rfl rfl rfl (aj (ay ?_))))))))))
 refine aq (cK rfl rfl rfl rfl rfl (eb rfl rfl rfl rfl rfl ?_))
 iterate 3 refine cK rfl rfl rfl rfl rfl ?_
 refine aq ?_
 refine aM (σ':=aE 211 [(2,_),(3,_),(4,_),(12,_)] [((3,0),_),((4,0),_)] [] []) kp ?_
 refine eb rfl rfl rfl rfl rfl ?_
 iterate 4 refine cK rfl rfl rfl rfl rfl ?_
 refine cr (aq (am (bc rfl rfl rfl (cd rfl rfl rfl (gR rfl rfl rfl (cI rfl (aO rfl rfl ah ?_)))))))
 refine aO rfl rfl ah ?_
 refine aO rfl rfl ah ?_
 refine ai (aD _ _ _ rfl bT) (aj (aW rfl rfl (aS (aq (aq ?_)))))
 refine aM (σ':=aE 211 [(2,_),(3,_),(4,_)] [((3,0),_),((4,0),_)] [] []) kp ?_
 refine an (bc rfl rfl rfl (cd rfl rfl rfl (gR rfl rfl rfl (cI rfl (aO rfl rfl ah ?_)))))
 refine aO rfl rfl ah ?_
 refine aO rfl rfl ah ?_
 refine ai (aD _ _ _ rfl bT) (aj (aW rfl rfl (aS (am (ai (az _ aa rfl rfl rfl rfl) (bc rfl rfl rfl (eQ rfl rfl rfl (aX rfl (ai (cg aa [((0,8),(50,0))] ar (hq.toI) trivial tr ae) ?_)))))))))
 refine fe rfl (aj (aq (am (bc rfl rfl rfl (cd rfl rfl rfl (aj (ay (aq ?_))))))))
 refine aM (σ':=aE 211 [(3,_),(4,_),(10,_),(153,_)] [((3,0),_),((4,0),_),((50,0),_)] [] []) kp ?_
 refine eb rfl rfl rfl rfl rfl (cK rfl rfl rfl rfl rfl (iC rfl rfl rfl rfl rfl (aq (am (bc rfl rfl rfl (ai (aF _ aa rfl rfl fz) (ai (aV (r:=true) _ _ Tryz.underlying9 rfl rfl rfl) (aj (bK rfl rfl (am ?_))))))))))
 refine gz rfl (ai (aN _ aa rfl (by exact eX)) ?_)
 refine ai (bh _ _ aa rfl ag (by (simp <;> rfl)) ah rfl) ?_
 refine ai (dh (175,0) _ _ aa rfl rfl (bO _).symm (.sl rfl) ab rfl (fq _ { op:= .neg }) (show (cZ cs a).length+1=(cZ cs a++[({ op:= .neg }:eW)]).length by simp)) ?_
 exact fe rfl (aj (aG (bH (.inr rfl) rfl (.tmp dR) (Le.out [((0,8),(175,0))] [] (cJ rfl rfl) rfl rfl rfl trivial ob))))
theorem Ic {L:List Nd} {cs:List Cd} (hc:cs.length=L.length) (hk:mA (uu d v no on) L cs):CoS (uu d v no on) (nd 17 0 [33] L) (fun a=> cZ cs a++[{ op:= .not }]):=fun a ha=> by
 have hl2:a+(cZ cs a).length≤1000000:=by simp only [List.length_append] at ha;omega
 have hq:=dJ (d:=d) (v:=v) (no:=no) (on:=on) L cs hc hk a hl2
 refine Spec.ofN Tryz.func91 rfl Tryz.ntmps91 rfl ?_
 refine am (ai (aQ (3,0) _ rfl rfl) (ai (aQ (4,0) _ rfl rfl) (ai (bp _ fA) (aj (aq (am (bc rfl rfl rfl (cd rfl rfl rfl (aj (ay ?_))))))))))
 refine aq (cK rfl rfl rfl rfl rfl (eb rfl rfl rfl rfl rfl ?_))
 iterate 3 refine cK rfl rfl rfl rfl rfl ?_
 refine aq ?_
 refine aM (σ':=aE 211 [(2,_),(3,_),(4,_),(12,_)] [((3,0),_),((4,0),_)] [] []) kp ?_
 refine eb rfl rfl rfl rfl rfl ?_
 iterate 4 refine cK rfl rfl rfl rfl rfl ?_
 refine cr (aq (am (bc rfl rfl rfl (cd rfl rfl rfl (gR rfl rfl rfl (cI rfl (aO rfl rfl ah ?_)))))))
 refine aO rfl rfl ah ?_
 refine aO rfl rfl ah ?_
 refine ai (aD _ _ _ rfl bT) (aj (aW rfl rfl (aS (aq (aq ?_)))))
 refine aM (σ':=aE 211 [(2,_),(3,_),(4,_)] [((3,0),_),((4,0),_)] [] []) kp ?_
 refine an (bc rfl rfl rfl (cd rfl rfl rfl (gR rfl rfl rfl (cI rfl (aO rfl rfl ah ?_)))))
 refine aO rfl rfl ah ?_
 refine aO rfl rfl ah ?_
 refine ai (aD _ _ _ rfl bT) (aj (aW rfl rfl (aS (am (ai (az _ aa rfl rfl rfl rfl) (bc rfl rfl rfl (eQ rfl rfl rfl (aX rfl (ai (cg aa [((0,8),(50,0))] ar (hq.toI) trivial tr ae) ?_)))))))))
 refine fe rfl (aj (aq (am (bc rfl rfl rfl (cd rfl rfl rfl (aj (ay (aq ?_))))))))
 refine aM (σ':=aE 211 [(3,_),(4,_),(10,_),(153,_)] [((3,0),_),((4,0),_),((50,0),_)] [] []) kp ?_
 refine eb rfl rfl rfl rfl rfl (cK rfl rfl rfl rfl rfl (iC rfl rfl rfl rfl rfl (aq (am (bc rfl rfl rfl (ai (aF _ aa rfl rfl fz) (ai (aV (r:=false) _ _ Tryz.underlying9 rfl rfl rfl) (aj (aW rfl rfl (aS ?_))))))))))
 refine am (gz rfl (ai (aN _ aa rfl (by exact eX)) ?_))
 refine ai (bh _ _ aa rfl ag (by (simp <;> rfl)) ah rfl) ?_
 refine ai (dh (179,0) _ _ aa rfl rfl (bO _).symm (.sl rfl) ab rfl (fq _ { op:= .not }) (show (cZ cs a).length+1=(cZ cs a++[({ op:= .not }:eW)]).length by simp)) ?_
 exact fe rfl (aj (aG (bH (.inr rfl) rfl (.tmp dR) (Le.out [((0,8),(179,0))] [] (cJ rfl rfl) rfl rfl rfl trivial ob))))
theorem ye {L:List Nd} {cs:List Cd} (hc:cs.length=L.length) (hk:mA (uu d v no on) L cs) (hn:(d++v).Nodup) (hl:(d++v).length≤1000) (i:Nat) (hi:i < (d++v).length):CoS (uu d v no on) (nd 1 0 ((d++v).getD i []) L) (fun a=> cZ cs a++[{ op:= .setVar,n:=(i:Int) }]):=fun a ha=> by
 have hl2:a+(cZ cs a).length≤1000000:=by simp only [List.length_append] at ha;omega
 have hq:=dJ (d:=d) (v:=v) (no:=no) (on:=on) L cs hc hk a hl2
 refine Spec.ofN Tryz.func91 rfl Tryz.ntmps91 rfl ?_
 refine am (ai (aQ (3,0) _ rfl rfl) (ai (aQ (4,0) _ rfl rfl) (ai (bp _ fA) (aj (aq (am (bc rfl rfl rfl (cd rfl rfl rfl (aj (ay ?_))))))))))
 refine aq (cK rfl rfl rfl rfl rfl (eb rfl rfl rfl rfl rfl ?_))
 iterate 3 refine cK rfl rfl rfl rfl rfl ?_
 refine aq ?_
 refine aM (σ':=aE 211 [(2,_),(3,_),(4,_),(12,_)] [((3,0),_),((4,0),_)] [] []) kp ?_
 refine eb rfl rfl rfl rfl rfl ?_
 iterate 4 refine cK rfl rfl rfl rfl rfl ?_
 refine cr (aq (am (bc rfl rfl rfl (cd rfl rfl rfl (gR rfl rfl rfl (cI rfl (aO rfl rfl ah ?_)))))))
 refine aO rfl rfl ah ?_
 refine aO rfl rfl ah ?_
 refine ai (aD _ _ _ rfl bT) (aj (aW rfl rfl (aS (aq (aq ?_)))))
 refine aM (σ':=aE 211 [(2,_),(3,_),(4,_)] [((3,0),_),((4,0),_)] [] []) kp ?_
 refine an (bc rfl rfl rfl (cd rfl rfl rfl (gR rfl rfl rfl (cI rfl (aO rfl rfl ah ?_)))))
 refine aO rfl rfl ah ?_
 refine aO rfl rfl ah ?_
 refine ai (aD _ _ _ rfl bT) (aj (aW rfl rfl (aS (am (ai (az _ aa rfl rfl rfl rfl) (bc rfl rfl rfl (eQ rfl rfl rfl (aX rfl (ai (cg aa [((0,8),(50,0))] ar (hq.toI) trivial tr ae) ?_)))))))))
 refine fe rfl (aj (aq (am (bc rfl rfl rfl (cd rfl rfl rfl (aj (ay (aq ?_))))))))
 refine aM (σ':=aE 211 [(3,_),(4,_),(10,_),(153,_)] [((3,0),_),((4,0),_),((50,0),_)] [] []) kp ?_
 refine eb rfl rfl rfl rfl rfl ?_
 iterate 2 refine cK rfl rfl rfl rfl rfl ?_
 refine iC rfl rfl rfl rfl rfl (am (gz rfl (ai (az _ aa rfl rfl rfl rfl) (bc rfl rfl rfl (ai (aF _ aa rfl rfl fz) (ai (aH aa al (mE d v on no hn hl i hi) rfl rfl) ?_))))))
 refine ai (aN _ aa rfl (by exact eX)) ?_
 refine ai (bh _ _ aa rfl ag (by (simp <;> rfl)) ah rfl) ?_
 refine ai (dh (189,0) _ _ aa rfl rfl (bO _).symm (.sl rfl) ab rfl (fq _ { op:= .setVar,n:=(i:Int) }) (show (cZ cs a).length+1=(cZ cs a++[({ op:= .setVar,n:=(i:Int) }:eW)]).length by simp)) ?_
 exact fe rfl (aj (aG (bH (.inr rfl) rfl (.tmp dR) (Le.out [((0,8),(189,0))] [] (cJ rfl rfl) rfl rfl rfl trivial ob))))
theorem EE {L:List Nd} {cs:List Cd} (hc:cs.length=L.length) (hk:mA (uu d v no on) L cs) (n:Nat):CoS (uu d v no on) (nd 4 n [] L) (fun a=> cZ cs a++[{ op:= .send,n:=(n:Int) }]):=fun a ha=> by
 have hl2:a+(cZ cs a).length≤1000000:=by simp only [List.length_append] at ha;omega
 have hq:=dJ (d:=d) (v:=v) (no:=no) (on:=on) L cs hc hk a hl2
 refine Spec.ofN Tryz.func91 rfl Tryz.ntmps91 rfl ?_
 refine am (ai (aQ (3,0) _ rfl rfl) (ai (aQ (4,0) _ rfl rfl) (ai (bp _ fA) (aj (aq (am (bc rfl rfl rfl (cd rfl rfl rfl (aj (ay ?_))))))))))
 refine aq (cK rfl rfl rfl rfl rfl (eb rfl rfl rfl rfl rfl ?_))
 iterate 3 refine cK rfl rfl rfl rfl rfl ?_
 refine aq ?_
 refine aM (σ':=aE 211 [(2,_),(3,_),(4,_),(12,_)] [((3,0),_),((4,0),_)] [] []) kp ?_
 refine eb rfl rfl rfl rfl rfl ?_
 iterate 4 refine cK rfl rfl rfl rfl rfl ?_
 refine cr (aq (am (bc rfl rfl rfl (cd rfl rfl rfl (gR rfl rfl rfl (cI rfl (aO rfl rfl ah ?_)))))))
 refine aO rfl rfl ah ?_
 refine aO rfl rfl ah ?_
 refine ai (aD _ _ _ rfl bT) (aj (aW rfl rfl (aS (aq (aq ?_)))))
 refine aM (σ':=aE 211 [(2,_),(3,_),(4,_)] [((3,0),_),((4,0),_)] [] []) kp ?_
 refine an (bc rfl rfl rfl (cd rfl rfl rfl (gR rfl rfl rfl (cI rfl (aO rfl rfl ah ?_)))))
 refine aO rfl rfl ah ?_
 refine aO rfl rfl ah ?_
 refine ai (aD _ _ _ rfl bT) (aj (aW rfl rfl (aS (am (ai (az _ aa rfl rfl rfl rfl) (bc rfl rfl rfl (eQ rfl rfl rfl (aX rfl (ai (cg aa [((0,8),(50,0))] ar (hq.toI) trivial tr ae) ?_)))))))))
 refine fe rfl (aj (aq (am (bc rfl rfl rfl (cd rfl rfl rfl (aj (ay (aq ?_))))))))
 refine aM (σ':=aE 211 [(3,_),(4,_),(10,_),(153,_)] [((3,0),_),((4,0),_),((50,0),_)] [] []) kp ?_
 refine eb rfl rfl rfl rfl rfl ?_
 iterate 3 refine cK rfl rfl rfl rfl rfl ?_
 refine iC rfl rfl rfl rfl rfl (am (gz rfl (bc rfl rfl rfl (cd rfl rfl rfl (ai (aN _ aa rfl (by exact eX)) ?_)))))
 refine ai (bh _ _ aa rfl ag (by (simp <;> rfl)) ah rfl) ?_
 refine ai (dh (197,0) _ _ aa rfl rfl (bO _).symm (.sl rfl) ab rfl (fq _ { op:= .send,n:=(n:Int) }) (show (cZ cs a).length+1=(cZ cs a++[({ op:= .send,n:=(n:Int) }:eW)]).length by simp)) ?_
 exact fe rfl (aj (aG (bH (.inr rfl) rfl (.tmp dR) (Le.out [((0,8),(197,0))] [] (cJ rfl rfl) rfl rfl rfl trivial ob))))
theorem Bh {L:List Nd} {cs:List Cd} (hc:cs.length=L.length) (hk:mA (uu d v no on) L cs):CoS (uu d v no on) (nd 8 0 [] L) (fun a=> cZ cs a++[{ op:= .reply }]):=fun a ha=> by
 have hl2:a+(cZ cs a).length≤1000000:=by simp only [List.length_append] at ha;omega
 have hq:=dJ (d:=d) (v:=v) (no:=no) (on:=on) L cs hc hk a hl2
 refine Spec.ofN Tryz.func91 rfl Tryz.ntmps91 rfl ?_
 refine am (ai (aQ (3,0) _ rfl rfl) (ai (aQ (4,0) _ rfl rfl) (ai (bp _ fA) (aj (aq (am (bc rfl rfl rfl (cd rfl rfl rfl (aj (ay ?_))))))))))
 refine aq (cK rfl rfl rfl rfl rfl (eb rfl rfl rfl rfl rfl ?_))
 iterate 3 refine cK rfl rfl rfl rfl rfl ?_
 refine aq ?_
 refine aM (σ':=aE 211 [(2,_),(3,_),(4,_),(12,_)] [((3,0),_),((4,0),_)] [] []) kp ?_
 refine eb rfl rfl rfl rfl rfl ?_
 iterate 4 refine cK rfl rfl rfl rfl rfl ?_
 refine cr (aq (am (bc rfl rfl rfl (cd rfl rfl rfl (gR rfl rfl rfl (cI rfl (aO rfl rfl ah ?_)))))))
 refine aO rfl rfl ah ?_
 refine aO rfl rfl ah ?_
 refine ai (aD _ _ _ rfl bT) (aj (aW rfl rfl (aS (aq (aq ?_)))))
 refine aM (σ':=aE 211 [(2,_),(3,_),(4,_)] [((3,0),_),((4,0),_)] [] []) kp ?_
 refine an (bc rfl rfl rfl (cd rfl rfl rfl (gR rfl rfl rfl (cI rfl (aO rfl rfl ah ?_)))))
 refine aO rfl rfl ah ?_
 refine aO rfl rfl ah ?_
 refine ai (aD _ _ _ rfl bT) (aj (aW rfl rfl (aS (am (ai (az _ aa rfl rfl rfl rfl) (bc rfl rfl rfl (eQ rfl rfl rfl (aX rfl (ai (cg aa [((0,8),(50,0))] ar (hq.toI) trivial tr ae) ?_)))))))))
 refine fe rfl (aj (aq (am (bc rfl rfl rfl (cd rfl rfl rfl (aj (ay (aq ?_))))))))
 refine aM (σ':=aE 211 [(3,_),(4,_),(10,_),(153,_)] [((3,0),_),((4,0),_),((50,0),_)] [] []) kp ?_
 refine eb rfl rfl rfl rfl rfl ?_
 iterate 4 refine cK rfl rfl rfl rfl rfl ?_
 refine iC rfl rfl rfl rfl rfl (am (gz rfl (ai (aN _ aa rfl (by exact eX)) ?_)))
 refine ai (bh _ _ aa rfl ag (by (simp <;> rfl)) ah rfl) ?_
 refine ai (dh (203,0) _ _ aa rfl rfl (bO _).symm (.sl rfl) ab rfl (fq _ { op:= .reply }) (show (cZ cs a).length+1=(cZ cs a++[({ op:= .reply }:eW)]).length by simp)) ?_
 exact fe rfl (aj (aG (bH (.inr rfl) rfl (.tmp dR) (Le.out [((0,8),(203,0))] [] (cJ rfl rfl) rfl rfl rfl trivial ob))))
theorem Ey {L:List Nd} {cs:List Cd} (hc:cs.length=L.length) (hk:mA (uu d v no on) L cs):CoS (uu d v no on) (nd 9 0 [] L) (fun a=> cZ cs a++[{ op:= .fail }]):=fun a ha=> by
 have hl2:a+(cZ cs a).length≤1000000:=by simp only [List.length_append] at ha;omega
 have hq:=dJ (d:=d) (v:=v) (no:=no) (on:=on) L cs hc hk a hl2
 refine Spec.ofN Tryz.func91 rfl Tryz.ntmps91 rfl ?_
 refine am (ai (aQ (3,0) _ rfl rfl) (ai (aQ (4,0) _ rfl rfl) (ai (bp _ fA) (aj (aq (am (bc rfl rfl rfl (cd rfl rfl rfl (aj (ay ?_))))))))))
 refine aq (cK rfl rfl rfl rfl rfl (eb rfl rfl rfl rfl rfl ?_))
 iterate 3 refine cK rfl rfl rfl rfl rfl ?_
 refine aq ?_
 refine aM (σ':=aE 211 [(2,_),(3,_),(4,_),(12,_)] [((3,0),_),((4,0),_)] [] []) kp ?_
 refine eb rfl rfl rfl rfl rfl ?_
 iterate 4 refine cK rfl rfl rfl rfl rfl ?_
 refine cr (aq (am (bc rfl rfl rfl (cd rfl rfl rfl (gR rfl rfl rfl (cI rfl (aO rfl rfl ah ?_)))))))
 refine aO rfl rfl ah ?_
 refine aO rfl rfl ah ?_
 refine ai (aD _ _ _ rfl bT) (aj (aW rfl rfl (aS (aq (aq ?_)))))
 refine aM (σ':=aE 211 [(2,_),(3,_),(4,_)] [((3,0),_),((4,0),_)] [] []) kp ?_
 refine an (bc rfl rfl rfl (cd rfl rfl rfl (gR rfl rfl rfl (cI rfl (aO rfl rfl ah ?_)))))
 refine aO rfl rfl ah ?_
 refine aO rfl rfl ah ?_
 refine ai (aD _ _ _ rfl bT) (aj (aW rfl rfl (aS (am (ai (az _ aa rfl rfl rfl rfl) (bc rfl rfl rfl (eQ rfl rfl rfl (aX rfl (ai (cg aa [((0,8),(50,0))] ar (hq.toI) trivial tr ae) ?_)))))))))
 refine fe rfl (aj (aq (am (bc rfl rfl rfl (cd rfl rfl rfl (aj (ay (aq ?_))))))))
 refine aM (σ':=aE 211 [(3,_),(4,_),(10,_),(153,_)] [((3,0),_),((4,0),_),((50,0),_)] [] []) kp ?_
 refine eb rfl rfl rfl rfl rfl ?_
 iterate 5 refine cK rfl rfl rfl rfl rfl ?_
 refine iC rfl rfl rfl rfl rfl (am (gz rfl (ai (aN _ aa rfl (by exact eX)) ?_)))
 refine ai (bh _ _ aa rfl ag (by (simp <;> rfl)) ah rfl) ?_
 refine ai (dh (209,0) _ _ aa rfl rfl (bO _).symm (.sl rfl) ab rfl (fq _ { op:= .fail }) (show (cZ cs a).length+1=(cZ cs a++[({ op:= .fail }:eW)]).length by simp)) ?_
 exact fe rfl (aj (aG (bH (.inr rfl) rfl (.tmp dR) (Le.out [((0,8),(209,0))] [] (cJ rfl rfl) rfl rfl rfl trivial ob))))
theorem Bb {L:List Nd} {cs:List Cd} (hc:cs.length=L.length) (hk:mA (uu d v no on) L cs):CoS (uu d v no on) (nd 11 0 [] L) (fun a=> cZ cs a):=fun a ha=> by
 have hl2:a+(cZ cs a).length≤1000000:=ha
 have hq:=dJ (d:=d) (v:=v) (no:=no) (on:=on) L cs hc hk a hl2
 refine Spec.ofN Tryz.func91 rfl Tryz.ntmps91 rfl ?_
 refine am (ai (aQ (3,0) _ rfl rfl) (ai (aQ (4,0) _ rfl rfl) (ai (bp _ fA) (aj (aq (am (bc rfl rfl rfl (cd rfl rfl rfl (aj (ay ?_))))))))))
 refine aq (cK rfl rfl rfl rfl rfl (eb rfl rfl rfl rfl rfl ?_))
 iterate 3 refine cK rfl rfl rfl rfl rfl ?_
 refine aq ?_
 refine aM (σ':=aE 211 [(2,_),(3,_),(4,_),(12,_)] [((3,0),_),((4,0),_)] [] []) kp ?_
 refine eb rfl rfl rfl rfl rfl ?_
 iterate 4 refine cK rfl rfl rfl rfl rfl ?_
 refine cr (aq (am (bc rfl rfl rfl (cd rfl rfl rfl (gR rfl rfl rfl (cI rfl (aO rfl rfl ah ?_)))))))
 refine aO rfl rfl ah ?_
 refine aO rfl rfl ah ?_
 refine ai (aD _ _ _ rfl bT) (aj (aW rfl rfl (aS (aq (aq ?_)))))
 refine aM (σ':=aE 211 [(2,_),(3,_),(4,_)] [((3,0),_),((4,0),_)] [] []) kp ?_
 refine an (bc rfl rfl rfl (cd rfl rfl rfl (gR rfl rfl rfl (cI rfl (aO rfl rfl ah ?_)))))
 refine aO rfl rfl ah ?_
 refine aO rfl rfl ah ?_
 refine ai (aD _ _ _ rfl bT) (aj (aW rfl rfl (aS (am (ai (az _ aa rfl rfl rfl rfl) (bc rfl rfl rfl (eQ rfl rfl rfl (aX rfl (ai (cg aa [((0,8),(50,0))] ar (hq.toI) trivial tr ae) ?_)))))))))
 refine fe rfl (aj (aq (am (bc rfl rfl rfl (cd rfl rfl rfl (aj (ay (aq ?_))))))))
 refine aM (σ':=aE 211 [(3,_),(4,_),(10,_),(153,_)] [((3,0),_),((4,0),_),((50,0),_)] [] []) kp ?_
 refine eb rfl rfl rfl rfl rfl ?_
 iterate 6 refine cK rfl rfl rfl rfl rfl ?_
 exact cr (am (gz rfl (fe rfl (aj (aG (bH (.inr rfl) rfl (.tmp dR) (Le.out [((0,8),(50,0))] [] (cJ rfl rfl) rfl rfl rfl trivial ob)))))))
theorem It {L:List Nd} {cs:List Cd} (hc:cs.length=L.length) (hk:mA (uu d v no on) L cs) (o:Bo):CoS (uu d v no on) (nd 18 0 o.txt L) (fun a=> cZ cs a++o.code):=fun a ha=> by
 have hol:o.code.length≤2:=by cases o <;> decide
 have hs1:o.txt≠[38,38]:=by cases o <;> decide
 have hs2:o.txt≠[124,124]:=by cases o <;> decide
 have hl2:a+(cZ cs a).length≤1000000:=by simp only [List.length_append] at ha;omega
 have hq:=dJ (d:=d) (v:=v) (no:=no) (on:=on) L cs hc hk a hl2
 refine Spec.ofN Tryz.func91 rfl Tryz.ntmps91 rfl ?_
 refine am (ai (aQ (3,0) _ rfl rfl) (ai (aQ (4,0) _ rfl rfl) (ai (bp _ fA) (aj (aq (am (bc rfl rfl rfl (cd rfl rfl rfl (aj (ay ?_))))))))))
 refine aq (cK rfl rfl rfl rfl rfl (eb rfl rfl rfl rfl rfl ?_))
 iterate 3 refine cK rfl rfl rfl rfl rfl ?_
 refine aq ?_
 refine aM (σ':=aE 211 [(2,_),(3,_),(4,_),(12,_)] [((3,0),_),((4,0),_)] [] []) kp ?_
 refine eb rfl rfl rfl rfl rfl ?_
 iterate 4 refine cK rfl rfl rfl rfl rfl ?_
 refine cr (aq (am (bc rfl rfl rfl (cd rfl rfl rfl (jY rfl rfl rfl (cI rfl (au rfl rfl (aA _ aa rfl rfl rfl) (au rfl rfl (aF _ aa rfl rfl fz) (au rfl rfl (aV (r:=false) _ _ Tryz.underlying9 rfl rfl (beq_eq_false_iff_ne.2 hs1)) ?_)))))))))
 refine ai (aD _ _ _ rfl bT) (aj (aW rfl rfl (aS (aq (aq ?_)))))
 refine aM (σ':=aE 211 [(2,_),(3,_),(4,_)] [((3,0),_),((4,0),_)] [] []) kp ?_
 refine an (bc rfl rfl rfl (cd rfl rfl rfl (jY rfl rfl rfl (cI rfl (au rfl rfl (aA _ aa rfl rfl rfl) (au rfl rfl (aF _ aa rfl rfl fz) (au rfl rfl (aV (r:=false) _ _ Tryz.underlying9 rfl rfl (beq_eq_false_iff_ne.2 hs2)) ?_)))))))
 refine ai (aD _ _ _ rfl bT) (aj (aW rfl rfl (aS (am (ai (az _ aa rfl rfl rfl rfl) (bc rfl rfl rfl (eQ rfl rfl rfl (aX rfl (ai (cg aa [((0,8),(50,0))] ar (hq.toI) trivial tr ae) ?_)))))))))
 refine fe rfl (aj (aq (am (bc rfl rfl rfl (cd rfl rfl rfl (aj (ay (aq ?_))))))))
 refine aM (σ':=aE 211 [(3,_),(4,_),(10,_),(153,_)] [((3,0),_),((4,0),_),((50,0),_)] [] []) kp ?_
 refine zr rfl rfl rfl rfl rfl (am (gz rfl (bc rfl rfl rfl (ai (aF _ aa rfl rfl fz) (ai (aH aa al (yN o) rfl rfl) ?_)))))
 refine ai (dh (160,0) _ _ aa rfl rfl (bO _).symm (.sl (bO _)) ab rfl (lT _ _) (show (cZ cs a).length+o.code.length=(cZ cs a++o.code).length by simp)) ?_
 exact fe rfl (aj (aG (bH (.inr rfl) rfl (.tmp dR) (Le.out [((0,8),(160,0))] [] (cJ rfl rfl) rfl rfl rfl trivial ob))))
def KX (c y:Cd) (a:Nat):List eW:=c a++[{ op:= .unl,n:=((a+(c a).length+(y (a+(c a).length+1)).length+2:Nat):Int) }]++y (a+(c a).length+1)++[{ op:= .jump,n:=(a:Int) }]
theorem Ao {c y:Nd} {cc cy:Cd} (hc:CoS (uu d v no on) c cc) (hy:CoS (uu d v no on) y cy):CoS (uu d v no on) (nd 3 0 [] [c,y]) (KX cc cy):=fun a ha=> by
 obtain ⟨b,hb⟩: ∃ b,b=KX cc cy a:=⟨_,rfl⟩
 rw [← hb] at ha ⊢
 unfold KX at hb
 have hbl:=congrArg List.length hb
 simp only [List.length_append,List.length_cons,List.length_nil] at hbl
 have h1:=hc a ab
 generalize cc a=C at h1 hb hbl
 have h2:=hy (a+C.length+1) ab
 generalize cy (a+C.length+1)=Y at h2 hb hbl
 refine Spec.ofN Tryz.func91 rfl Tryz.ntmps91 rfl ?_
 refine am (ai (aQ (3,0) _ rfl rfl) (ai (aQ (4,0) _ rfl rfl) (ai (bp _ fA) (aj (aq (am (bc rfl rfl rfl (cd rfl rfl rfl (aj (ay ?_))))))))))
 refine aq (cK rfl rfl rfl rfl rfl (eb rfl rfl rfl rfl rfl ?_))
 iterate 3 refine cK rfl rfl rfl rfl rfl ?_
 refine aq ?_
 refine aM (σ':=aE 211 [(2,_),(3,_),(4,_),(12,_)] [((3,0),_),((4,0),_)] [] []) kp ?_
 refine eb rfl rfl rfl rfl rfl ?_
 iterate 3 refine cK rfl rfl rfl rfl rfl ?_
 refine iC rfl rfl rfl rfl rfl (aq ?_)
 refine aM (σ':=aE 211 [(2,_),(3,_),(4,_)] [((3,0),_),((4,0),_)] [] []) kp ?_
 refine bJ 6 [73,74,75,76,77,78] [] ae ae rfl (aK rfl) (rfl:_=[_,_,_,_,_,_]) (rfl:_=[_,_]) ?_
 refine ap (_,[]) (fun τ=> az _ aa rfl rfl rfl rfl) ?_
 refine fO rfl ?_
 refine ap (_,[]) (fun τ=> aA _ aa rfl rfl rfl) ?_
 refine fN rfl ?_
 refine ap (_,[]) (fun τ=> aF _ aa rfl rfl ed) ?_
 refine fP rfl ?_
 refine ap (_,[]) (fun τ=> bn _ _ aa rfl rfl 0 rfl (show 0 < 2 by omega) (Nat.le_of_ble_eq_true rfl) rfl) ?_
 refine fV rfl ?_
 refine ap (_,[]) (fun τ=> ca _ aa rfl (by exact cN [c,y] 0 (by simp)) rfl) ?_
 refine gm rfl ?_
 refine ap (_,[]) (fun τ=> aI _ et) ?_
 refine gY rfl (bo ⟨rfl,?_⟩)
 refine ai (cg aa [((0,8),(50,0))] ar (h1.toI) trivial tr ae) ?_
 refine fe rfl (aj (aT fun K15 hK15=> ?_))
 refine aM (σ':=aE 211 [(2,_),(3,_),(4,_),(7,_)] [((3,0),_),((4,0),_),((50,0),_)] [] []) kp ?_
 refine bJ 10 [80,81,82,83,84,85,86,87,88,89] [] ae ae rfl (aK rfl) (rfl:_=[_,_,_,_,_,_,_,_,_,_]) (rfl:_=[_,_]) ?_
 refine ap (_,[]) (fun τ=> az _ aa rfl rfl rfl rfl) ?_
 refine fO rfl ?_
 refine ap (_,[]) (fun τ=> aA _ aa rfl rfl rfl) ?_
 refine fN rfl ?_
 refine ap (_,[]) (fun τ=> aF _ aa rfl rfl ed) ?_
 refine fP rfl ?_
 refine ap (_,[]) (fun τ=> bn _ _ aa rfl rfl 1 rfl (show 1 < 2 by omega) (Nat.le_of_ble_eq_true rfl) rfl) ?_
 refine fV rfl ?_
 refine ap (_,[]) (fun τ=> ca _ aa rfl (by exact cN [c,y] 1 (by simp)) rfl) ?_
 refine gm rfl ?_
 refine ap (_,[]) (fun τ=> aI _ et) ?_
 refine gY rfl ?_
 refine ap (_,[]) (fun τ=> aI _ dR) ?_
 refine iH rfl ?_
 refine ap (_,[]) (fun τ=> dg _ aa rfl rfl) ?_
 refine jU rfl ?_
 refine ap (_,[]) (fun τ=> aZ _ _ rfl rfl (bD ab)) ?_
 refine kA rfl ?_
 refine ap (_,[]) (fun τ=> aZ _ _ rfl rfl (bD ab)) ?_
 refine gf rfl (bo ⟨rfl,?_⟩)
 refine ai (cg aa [((0,8),(51,0))] ar (h2.toI) trivial tr ae) ?_
 refine fe rfl (aJ (hK15 _ ?_))
 clear hK15;try clear K15
 refine am (gz rfl (aX rfl (gz rfl (ai (dg _ aa rfl rfl) (ai (aZ _ _ rfl rfl (bD ab)) ?_)))))
 refine gz rfl (ai (dg _ aa rfl rfl) (ai (aZ _ _ rfl rfl (bD ab)) ?_))
 refine ai (aZ (r:=((a+C.length+Y.length+2:Nat):Int)) _ _ rfl rfl ((bD ab).trans ab)) ?_
 refine ai (aN _ aa rfl (by exact eX)) ?_
 refine ai (bh _ _ aa rfl ag (by (simp <;> rfl)) ah rfl) ?_
 refine ai (dh (102,0) _ _ aa rfl rfl (bO _).symm (.sl rfl) ab rfl (fq _ { op:= .unl,n:=((a+C.length+Y.length+2:Nat):Int) }) (show C.length+1=(C++[({ op:= .unl,n:=((a+C.length+Y.length+2:Nat):Int) }:eW)]).length by simp)) ?_
 refine fe rfl (aj (aq ?_))
 refine aM (σ':=aE 211 [(2,_),(8,_),(9,_)] [((51,0),_),((102,0),_)] [] []) kp ?_
 refine an (gz rfl (gz rfl (ai (dh (105,0) _ _ aa rfl rfl (bO _).symm (.ref rfl (nn _) (lp _)) (by simp;omega) rfl (lT _ _) (show (C++[({ op:= .unl,n:=((a+C.length+Y.length+2:Nat):Int) }:eW)]).length+Y.length=(C++[({ op:= .unl,n:=((a+C.length+Y.length+2:Nat):Int) }:eW)]++Y).length by simp;omega)) ?_)))
 refine fe rfl (aj (am (gz rfl (aX rfl (ai (aN _ aa rfl (by exact eX)) ?_)))))
 refine ai (bh _ _ aa rfl ag (by (simp <;> rfl)) ah rfl) ?_
 refine ai (dh (110,0) _ _ aa rfl rfl (bO _).symm (.sl rfl) (by simp;omega) rfl ((fq _ { op:= .jump,n:=(a:Int) }).trans (congrArg inl hb.symm)) (show _+1=b.length by simp;omega)) ?_
 exact fe rfl (aj (aG (bH (.inr rfl) rfl (.tmp dR) (Le.out [((0,8),(110,0))] [] (cJ rfl rfl) rfl rfl rfl trivial ob))))
end

def jF:Ex→Bool
 | .int n=> decide (0≤n) | .bool _=> true | .var _=> true | .name _=> true
 | .draw e=> jF e | .neg e=> jF e | .not e=> jF e
 | .bin _ a b=> jF a && jF b
 | .and a b=> jF a && jF b
 | .or a b=> jF a && jF b
mutual
def zc:Sm→Bool
 | .assign _ e=> jF e
 | .send t _ a b=> jF t && jF a && jF b
 | .timer _=> true | .cancel _=> true | .sync=> true | .stop=> true
 | .reply a b=> jF a && jF b
 | .fail e=> jF e
 | .loop c b=> jF c && so b
 | .ite c a b=> jF c && so a && so b
def so:Bk→Bool
 | .nil=> true
 | .cons s b=> zc s && so b
end
section
variable {d v:List Tx} {no:Nat} {on:List PV}
abbrev KF (d v:List Tx) (no:Nat) (on:List PV) (N:Nd) (c:Cd):Prop:=CoS (uu d v no on) N c
theorem CoS.cong {u:AV} {N:Nd} {c c':Cd} (h:CoS u N c) (e: ∀ a,c a=c' a):CoS u N c':=by
 rw [show c'=c from funext fun a=> (e a).symm];exact h
theorem em (hn:(d++v).Nodup) (hl:(d++v).length≤1000): ∀ e:Ex,ig (d++v).length e→jF e=true→KF d v no on (eM (d++v) e) (bE e)
 | .int n,_,hp=> by
  have hp:=of_decide_eq_true hp
  have:=GX (d:=d) (v:=v) (no:=no) (on:=on) n.toNat
  exact this.cong fun a=> by rw [Int.toNat_of_nonneg hp];rfl
 | .bool b,_,_=> by
  cases b
  ·exact wT 0
  exact wT 1
 | .var i,h,_=> HN hn hl i h
 | .name k,h,_=> DF k h
 | .draw e,h,hp=> (EY rfl (yg (em hn hl e h hp) Dp)).cong fun a=> by simp [bE,cZ]
 | .neg e,h,hp=> (Hs rfl (yg (em hn hl e h hp) Dp)).cong fun a=> by simp [bE,cZ]
 | .not e,h,hp=> (Ic rfl (yg (em hn hl e h hp) Dp)).cong fun a=> by simp [bE,cZ]
 | .bin o x y,h,hp=> by
  simp only [jF,Bool.and_eq_true] at hp
  exact (It rfl (yg (em hn hl x h.1 hp.1) (yg (em hn hl y h.2 hp.2) Dp)) o).cong fun a=> by simp [bE,cZ]
 | .and x y,h,hp=> by
  simp only [jF,Bool.and_eq_true] at hp
  exact (HZ (em hn hl x h.1 hp.1) (em hn hl y h.2 hp.2)).cong fun a=> rfl
 | .or x y,h,hp=> by
  simp only [jF,Bool.and_eq_true] at hp
  exact (JO (em hn hl x h.1 hp.1) (em hn hl y h.2 hp.2)).cong fun a=> rfl
def Ej:Bk→List Cd
 | .nil=> []
 | .cons s b=> dw s::Ej b
theorem xf (nm:List Tx): ∀ b:Bk,(Ej b).length=(jc nm b).length
 | .nil=> by simp [Ej,jc]
 | .cons s b=> by simp [Ej,jc,xf nm b]
theorem wW: ∀ (b:Bk) (a:Nat),cZ (Ej b) a=dU b a
 | .nil,a=> by simp [Ej,cZ,dU]
 | .cons s b,a=> by simp only [Ej,cZ,dU,wW b]
theorem nC {b:Bk} (h:mA (uu d v no on) (jc (d++v) b) (Ej b)):KF d v no on (iX (d++v) b) (dU b):=(Bb (xf _ b) h).cong (wW b)
mutual
theorem Et (hn:(d++v).Nodup) (hl:(d++v).length≤1000): ∀ s:Sm,gL (d++v).length s→zc s=true→KF d v no on (Dw (d++v) s) (dw s)
 | .assign i e,h,hp=> by rw [gL] at h;exact (ye rfl (yg (em hn hl e h.2 hp) Dp) hn hl i h.1).cong fun a=> by simp [dw,cZ]
 | .send t k x y,h,hp=> by
  rw [gL] at h
  simp only [zc,Bool.and_eq_true] at hp
  exact (EE rfl (yg (em hn hl t h.2.1 hp.1.1) (yg (em hn hl x h.2.2.1 hp.1.2) (yg (em hn hl y h.2.2.2 hp.2) Dp))) k).cong fun a=> by simp [dw,cZ,Nat.add_assoc]
 | .timer k,_,_=> (BT k).cong fun a=> by rw [dw]
 | .cancel k,_,_=> (xZ k).cong fun a=> by rw [dw]
 | .sync,_,_=> co_sync.cong fun a=> by rw [dw]
 | .stop,_,_=> co_stop.cong fun a=> by rw [dw]
 | .reply x y,h,hp=> by
  rw [gL] at h
  simp only [zc,Bool.and_eq_true] at hp
  exact (Bh rfl (yg (em hn hl x h.1 hp.1) (yg (em hn hl y h.2 hp.2) Dp))).cong fun a=> by simp [dw,cZ]
 | .fail e,h,hp=> by rw [gL] at h;exact (Ey rfl (yg (em hn hl e h hp) Dp)).cong fun a=> by simp [dw,cZ]
 | .loop c b,h,hp=> by
  rw [gL] at h
  simp only [zc,Bool.and_eq_true] at hp
  exact (Ao (em hn hl c h.1 hp.1) (nC (nN hn hl b h.2 hp.2))).cong fun a=> by rw [dw];rfl
 | .ite c x y,h,hp=> by
  rw [gL] at h
  simp only [zc,Bool.and_eq_true] at hp
  exact (GZ (em hn hl c h.1 hp.1.1) (nC (nN hn hl x h.2.1 hp.1.2)) (nC (nN hn hl y h.2.2 hp.2))).cong fun a=> by rw [dw];rfl
theorem nN (hn:(d++v).Nodup) (hl:(d++v).length≤1000): ∀ b:Bk,ld (d++v).length b→so b=true→mA (uu d v no on) (jc (d++v) b) (Ej b)
 | .nil,_,_=> Dp
 | .cons s b,h,hp=> by
  rw [ld] at h
  simp only [so,Bool.and_eq_true] at hp
  exact yg (Et hn hl s h.1 hp.1) (nN hn hl b h.2 hp.2)
end
theorem Fe (hn:(d++v).Nodup) (hl:(d++v).length≤1000) (b:Bk) (h:ld (d++v).length b) (hp:so b=true):KF d v no on (iX (d++v) b) (dU b):=nC (nN hn hl b h hp)
end
end Go.Proofs.YtmjnackchaahbaaGreat
