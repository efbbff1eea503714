/- Part 12 of the texts that the walk leans on: the machine, the walks, the plain laws. -/
import Derived.Test.YtmjnackchaahbaaGreatNmZ11
set_option linter.unusedSimpArgs false
set_option linter.unusedVariables false
namespace Go.Proofs.YtmjnackchaahbaaGreat
open Go.RowKit

theorem nj (C:List eV):((inl C).drop 0).take (C.length*2)=inl C:=List.take_of_length_le (by rw [List.drop_zero,bM];exact Nat.le_refl _)
theorem lS (C:List eV):0+C.length*2≤(inl C).length:=by rw [bM,Nat.zero_add];exact Nat.le_refl _
theorem yj (l:List Tx) (n:Nat) (hn:l.length=n) (h1:n≤1000) (hd:l.Nodup) (i:Nat) (hi:i < n):Spec Tryz.prog 122 (ba [.sl n (fm l), .v (bt (l.getD i []))] []) (aO (.v (.int .i64 (i:Int))) []):=by
 refine Spec.ofN Tryz.func122 rfl Tryz.ntmps122 rfl ?_
 refine am (be rfl (aj (aq (am (be rfl (aj (ay ?_)))))))
 refine bq (α:=Nat) (fun k=> k≤n∧k≤i) 19 [(0,_),(1,_)] [] (fun k=> [(5, .v (.int .i64 (k:Int)))]) (fun k=> []) [] [] (fun k=> n - k) 0 ?_ (by
  refine Le.mkJ [] [] rfl ?_ ?_ trivial trivial ?_
  ·exact ⟨(iS rfl),(iV rfl),(cm ag),trivial⟩
  ·exact trivial
  kernel_rfl) ?_
 ·exact ⟨Nat.zero_le _,Nat.zero_le _⟩
 intro k hk
 obtain ⟨hk,hki⟩:=hk
 refine aU fun K4 hK4=> ?_
 refine am (aX rfl (eY rfl (ai (bn _ aa rfl) (ai (bl _ _ rfl rfl rfl) (aj (aR rfl (fun hc9=> ?_) (fun hc9=> ?_)))))))
 ·skip
  refine bs (hK4 _ ?_)
  clear hK4;try clear K4
  refine aq (ay (am (eY rfl (aX rfl (ai (bo _ _ aa rfl rfl _ rfl ab (by (simp only [aN,bh,bk,bv,bu,bH,bw,bM];omega)) (by exact Nat.mul_one _)) ?_)))))
  refine ai (bU _ aa rfl (by exact jK _ _ ab) rfl) ?_
  refine ej rfl (ai (aV _ _ Tryz.underlying9 rfl rfl rfl) (aj (aR rfl (fun hc17=> ?_) (fun hc17=> ?_))))
  ·skip
   have he:k=i:=mR hd ab ab hc17
   refine am (aX rfl (be rfl (aj (aG (rU rfl rfl ?_)))))
   rw [he]
  have he:k≠i:=fun e=> hc17 (by rw [e])
  refine cq (an (aX rfl (ai (aZ _ _ rfl rfl (bE ab)) ?_)))
  refine be rfl (aJ (⟨k+1,?_,?_,?_⟩))
  ·exact ⟨by omega,by omega⟩
  ·skip
   refine Le.mkJ [] [] rfl ?_ ?_ trivial trivial ?_
   ·exact ⟨(iS rfl),(iV rfl),(cm ag),trivial⟩
   ·exact trivial
   kernel_rfl
  omega
 exact absurd hki ab
theorem pC:Spec Tryz.prog 123 (ba [] []) (aO (.sl 9 (fm bltT)) []):=by
 refine Spec.ofN Tryz.func123 rfl Tryz.ntmps123 rfl ?_
 refine am (ai (bp _ fy) (aj (am (ai (bg _ _ aa rfl ag (by (simp <;> rfl)) ah rfl) ?_))))
 exact kE rfl (aj (aG (qe rfl rfl)))
theorem As:Spec Tryz.prog 126 (ba [.v (bt [43])] []) (aO (.sl (Bo.add).code.length (inl (Bo.add).code)) []):=by
 refine Spec.ofN Tryz.func126 rfl Tryz.ntmps126 rfl ?_
 refine am (ai (bp _ fy) (aj (aq (am (ej rfl (aj (ay (am (ai (aV (r:=true) _ _ Tryz.underlying9 rfl rfl rfl) (cr rfl ?_))))))))))
 refine aj (bK rfl rfl (am (ai (aL _ aa rfl (by exact eS)) ?_)))
 refine ai (bg _ _ aa rfl ag (by (simp <;> rfl)) ah rfl) ?_
 exact kE rfl (aj (aG (qe rfl rfl)))
theorem zT:Spec Tryz.prog 126 (ba [.v (bt [45])] []) (aO (.sl (Bo.sub).code.length (inl (Bo.sub).code)) []):=by
 refine Spec.ofN Tryz.func126 rfl Tryz.ntmps126 rfl ?_
 refine am (ai (bp _ fy) (aj (aq (am (ej rfl (aj (ay (am (ai (aV (r:=false) _ _ Tryz.underlying9 rfl rfl rfl) (cr rfl ?_))))))))))
 refine aj (aW rfl rfl (am (ai (aV (r:=true) _ _ Tryz.underlying9 rfl rfl rfl) (cr rfl (aj (bK rfl rfl (am (ai (aL _ aa rfl (by exact eS)) ?_))))))))
 refine ai (bg _ _ aa rfl ag (by (simp <;> rfl)) ah rfl) ?_
 exact kE rfl (aj (aG (qe rfl rfl)))
theorem AX:Spec Tryz.prog 126 (ba [.v (bt [42])] []) (aO (.sl (Bo.mul).code.length (inl (Bo.mul).code)) []):=by
 refine Spec.ofN Tryz.func126 rfl Tryz.ntmps126 rfl ?_
 refine am (ai (bp _ fy) (aj (aq (am (ej rfl (aj (ay (am (ai (aV (r:=false) _ _ Tryz.underlying9 rfl rfl rfl) (cr rfl ?_))))))))))
 refine aj (aW rfl rfl (am (ai (aV (r:=false) _ _ Tryz.underlying9 rfl rfl rfl) (cr rfl (aj (aW rfl rfl (am (ai (aV (r:=true) _ _ Tryz.underlying9 rfl rfl rfl) (cr rfl (aj ?_))))))))))
 refine bK rfl rfl (am (ai (aL _ aa rfl (by exact eS)) ?_))
 refine ai (bg _ _ aa rfl ag (by (simp <;> rfl)) ah rfl) ?_
 exact kE rfl (aj (aG (qe rfl rfl)))
theorem zV:Spec Tryz.prog 126 (ba [.v (bt [47])] []) (aO (.sl (Bo.div).code.length (inl (Bo.div).code)) []):=by
 refine Spec.ofN Tryz.func126 rfl Tryz.ntmps126 rfl ?_
 refine am (ai (bp _ fy) (aj (aq (am (ej rfl (aj (ay (am (ai (aV (r:=false) _ _ Tryz.underlying9 rfl rfl rfl) (cr rfl ?_))))))))))
 refine aj (aW rfl rfl (am (ai (aV (r:=false) _ _ Tryz.underlying9 rfl rfl rfl) (cr rfl (aj (aW rfl rfl (am (ai (aV (r:=false) _ _ Tryz.underlying9 rfl rfl rfl) (cr rfl (aj ?_))))))))))
 refine aW rfl rfl (am (ai (aV (r:=true) _ _ Tryz.underlying9 rfl rfl rfl) (cr rfl (aj (bK rfl rfl (am (ai (aL _ aa rfl (by exact eS)) ?_)))))))
 refine ai (bg _ _ aa rfl ag (by (simp <;> rfl)) ah rfl) ?_
 exact kE rfl (aj (aG (qe rfl rfl)))
theorem Fa:Spec Tryz.prog 126 (ba [.v (bt [60])] []) (aO (.sl (Bo.lt).code.length (inl (Bo.lt).code)) []):=by
 refine Spec.ofN Tryz.func126 rfl Tryz.ntmps126 rfl ?_
 refine am (ai (bp _ fy) (aj (aq (am (ej rfl (aj (ay (am (ai (aV (r:=false) _ _ Tryz.underlying9 rfl rfl rfl) (cr rfl ?_))))))))))
 refine aj (aW rfl rfl (am (ai (aV (r:=false) _ _ Tryz.underlying9 rfl rfl rfl) (cr rfl (aj (aW rfl rfl (am (ai (aV (r:=false) _ _ Tryz.underlying9 rfl rfl rfl) (cr rfl (aj ?_))))))))))
 refine aW rfl rfl (am (ai (aV (r:=false) _ _ Tryz.underlying9 rfl rfl rfl) (cr rfl (aj (aW rfl rfl (am (ai (aV (r:=true) _ _ Tryz.underlying9 rfl rfl rfl) (cr rfl (aj (bK rfl rfl ?_))))))))))
 refine am (ai (aL _ aa rfl (by exact eS)) ?_)
 refine ai (bg _ _ aa rfl ag (by (simp <;> rfl)) ah rfl) ?_
 exact kE rfl (aj (aG (qe rfl rfl)))
theorem FW:Spec Tryz.prog 126 (ba [.v (bt [60,61])] []) (aO (.sl (Bo.le).code.length (inl (Bo.le).code)) []):=by
 refine Spec.ofN Tryz.func126 rfl Tryz.ntmps126 rfl ?_
 refine am (ai (bp _ fy) (aj (aq (am (ej rfl (aj (ay (am (ai (aV (r:=false) _ _ Tryz.underlying9 rfl rfl rfl) (cr rfl ?_))))))))))
 refine aj (aW rfl rfl (am (ai (aV (r:=false) _ _ Tryz.underlying9 rfl rfl rfl) (cr rfl (aj (aW rfl rfl (am (ai (aV (r:=false) _ _ Tryz.underlying9 rfl rfl rfl) (cr rfl (aj ?_))))))))))
 refine aW rfl rfl (am (ai (aV (r:=false) _ _ Tryz.underlying9 rfl rfl rfl) (cr rfl (aj (aW rfl rfl (am (ai (aV (r:=false) _ _ Tryz.underlying9 rfl rfl rfl) (cr rfl (aj (aW rfl rfl ?_))))))))))
 refine am (ai (aV (r:=true) _ _ Tryz.underlying9 rfl rfl rfl) (cr rfl (aj (bK rfl rfl (am (ai (aL _ aa rfl (by exact eS)) ?_))))))
 refine ai (bg _ _ aa rfl ag (by (simp <;> rfl)) ah rfl) ?_
 exact kE rfl (aj (aG (qe rfl rfl)))
theorem EA:Spec Tryz.prog 126 (ba [.v (bt [61,61])] []) (aO (.sl (Bo.eq).code.length (inl (Bo.eq).code)) []):=by
 refine Spec.ofN Tryz.func126 rfl Tryz.ntmps126 rfl ?_
 refine am (ai (bp _ fy) (aj (aq (am (ej rfl (aj (ay (am (ai (aV (r:=false) _ _ Tryz.underlying9 rfl rfl rfl) (cr rfl ?_))))))))))
 refine aj (aW rfl rfl (am (ai (aV (r:=false) _ _ Tryz.underlying9 rfl rfl rfl) (cr rfl (aj (aW rfl rfl (am (ai (aV (r:=false) _ _ Tryz.underlying9 rfl rfl rfl) (cr rfl (aj ?_))))))))))
 refine aW rfl rfl (am (ai (aV (r:=false) _ _ Tryz.underlying9 rfl rfl rfl) (cr rfl (aj (aW rfl rfl (am (ai (aV (r:=false) _ _ Tryz.underlying9 rfl rfl rfl) (cr rfl (aj (aW rfl rfl ?_))))))))))
 refine am (ai (aV (r:=false) _ _ Tryz.underlying9 rfl rfl rfl) (cr rfl (aj (aW rfl rfl (am (ai (aV (r:=true) _ _ Tryz.underlying9 rfl rfl rfl) (cr rfl (aj (bK rfl rfl (aq ?_))))))))))
 refine aM (σ':=aD 45 [] [] [] []) kp ?_
 refine an (ai (aL _ aa rfl (by exact eS)) ?_)
 refine ai (bg _ _ aa rfl ag (by (simp <;> rfl)) ah rfl) ?_
 exact kE rfl (aj (aG (qe rfl rfl)))
theorem Eo:Spec Tryz.prog 126 (ba [.v (bt [62])] []) (aO (.sl (Bo.gt).code.length (inl (Bo.gt).code)) []):=by
 refine Spec.ofN Tryz.func126 rfl Tryz.ntmps126 rfl ?_
 refine am (ai (bp _ fy) (aj (aq (am (ej rfl (aj (ay (am (ai (aV (r:=false) _ _ Tryz.underlying9 rfl rfl rfl) (cr rfl ?_))))))))))
 refine aj (aW rfl rfl (am (ai (aV (r:=false) _ _ Tryz.underlying9 rfl rfl rfl) (cr rfl (aj (aW rfl rfl (am (ai (aV (r:=false) _ _ Tryz.underlying9 rfl rfl rfl) (cr rfl (aj ?_))))))))))
 refine aW rfl rfl (am (ai (aV (r:=false) _ _ Tryz.underlying9 rfl rfl rfl) (cr rfl (aj (aW rfl rfl (am (ai (aV (r:=false) _ _ Tryz.underlying9 rfl rfl rfl) (cr rfl (aj (aW rfl rfl ?_))))))))))
 refine am (ai (aV (r:=false) _ _ Tryz.underlying9 rfl rfl rfl) (cr rfl (aj (aW rfl rfl (am (ai (aV (r:=false) _ _ Tryz.underlying9 rfl rfl rfl) (cr rfl (aj (aW rfl rfl (aq ?_))))))))))
 refine aM (σ':=aD 45 [(3,_)] [] [] []) kp ?_
 refine an (ai (aV (r:=true) _ _ Tryz.underlying9 rfl rfl rfl) (cr rfl (aj (bK rfl rfl (am (ai (aL _ aa rfl (by exact eS)) ?_))))))
 refine ai (aL _ aa rfl (by exact eS)) ?_
 refine ai (bg _ _ aa rfl ag (by (simp <;> rfl)) ah rfl) ?_
 exact kE rfl (aj (aG (qe rfl rfl)))
theorem Es:Spec Tryz.prog 126 (ba [.v (bt [62,61])] []) (aO (.sl (Bo.ge).code.length (inl (Bo.ge).code)) []):=by
 refine Spec.ofN Tryz.func126 rfl Tryz.ntmps126 rfl ?_
 refine am (ai (bp _ fy) (aj (aq (am (ej rfl (aj (ay (am (ai (aV (r:=false) _ _ Tryz.underlying9 rfl rfl rfl) (cr rfl ?_))))))))))
 refine aj (aW rfl rfl (am (ai (aV (r:=false) _ _ Tryz.underlying9 rfl rfl rfl) (cr rfl (aj (aW rfl rfl (am (ai (aV (r:=false) _ _ Tryz.underlying9 rfl rfl rfl) (cr rfl (aj ?_))))))))))
 refine aW rfl rfl (am (ai (aV (r:=false) _ _ Tryz.underlying9 rfl rfl rfl) (cr rfl (aj (aW rfl rfl (am (ai (aV (r:=false) _ _ Tryz.underlying9 rfl rfl rfl) (cr rfl (aj (aW rfl rfl ?_))))))))))
 refine am (ai (aV (r:=false) _ _ Tryz.underlying9 rfl rfl rfl) (cr rfl (aj (aW rfl rfl (am (ai (aV (r:=false) _ _ Tryz.underlying9 rfl rfl rfl) (cr rfl (aj (aW rfl rfl (aq ?_))))))))))
 refine aM (σ':=aD 45 [(3,_)] [] [] []) kp ?_
 refine an (ai (aV (r:=false) _ _ Tryz.underlying9 rfl rfl rfl) (cr rfl (aj (aW rfl rfl (am (ai (aV (r:=true) _ _ Tryz.underlying9 rfl rfl rfl) (cr rfl (aj (bK rfl rfl (am ?_))))))))))
 refine ai (aL _ aa rfl (by exact eS)) ?_
 refine ai (aL _ aa rfl (by exact eS)) ?_
 refine ai (bg _ _ aa rfl ag (by (simp <;> rfl)) ah rfl) ?_
 exact kE rfl (aj (aG (qe rfl rfl)))
theorem FH:Spec Tryz.prog 126 (ba [.v (bt [33,61])] []) (aO (.sl (Bo.ne).code.length (inl (Bo.ne).code)) []):=by
 refine Spec.ofN Tryz.func126 rfl Tryz.ntmps126 rfl ?_
 refine am (ai (bp _ fy) (aj (aq (am (ej rfl (aj (ay (am (ai (aV (r:=false) _ _ Tryz.underlying9 rfl rfl rfl) (cr rfl ?_))))))))))
 refine aj (aW rfl rfl (am (ai (aV (r:=false) _ _ Tryz.underlying9 rfl rfl rfl) (cr rfl (aj (aW rfl rfl (am (ai (aV (r:=false) _ _ Tryz.underlying9 rfl rfl rfl) (cr rfl (aj ?_))))))))))
 refine aW rfl rfl (am (ai (aV (r:=false) _ _ Tryz.underlying9 rfl rfl rfl) (cr rfl (aj (aW rfl rfl (am (ai (aV (r:=false) _ _ Tryz.underlying9 rfl rfl rfl) (cr rfl (aj (aW rfl rfl ?_))))))))))
 refine am (ai (aV (r:=false) _ _ Tryz.underlying9 rfl rfl rfl) (cr rfl (aj (aW rfl rfl (am (ai (aV (r:=false) _ _ Tryz.underlying9 rfl rfl rfl) (cr rfl (aj (aW rfl rfl (aq ?_))))))))))
 refine aM (σ':=aD 45 [(3,_)] [] [] []) kp ?_
 refine an (ai (aV (r:=false) _ _ Tryz.underlying9 rfl rfl rfl) (cr rfl (aj (aW rfl rfl (am (ai (aV (r:=false) _ _ Tryz.underlying9 rfl rfl rfl) (cr rfl (aj (aW rfl rfl (cq ?_))))))))))
 refine am (ai (aL _ aa rfl (by exact eS)) ?_)
 refine ai (aL _ aa rfl (by exact eS)) ?_
 refine ai (bg _ _ aa rfl ag (by (simp <;> rfl)) ah rfl) ?_
 exact kE rfl (aj (aG (qe rfl rfl)))
theorem yl (o:Bo):Spec Tryz.prog 126 (ba [.v (bt o.txt)] []) (aO (.sl o.code.length (inl o.code)) []):=by
 cases o
 ·exact As
 ·exact zT
 ·exact AX
 ·exact zV
 ·exact Fa
 ·exact FW
 ·exact EA
 ·exact Eo
 ·exact Es
 exact FH

abbrev Cd:=Nat→List eV
abbrev CoS (u:AV) (d:Nd) (c:Cd):Prop:= ∀ a,a+(c a).length≤1000000→Spec Tryz.prog 91 (ba [u,py d, .v (.int .i64 (a:Int))] []) (aO (.ref (0,8) 0 (c a).length) [((0,8), .row 48 2 (inl (c a)))])
def cZ:List Cd→Nat→List eV
 | [],_=> []
 | c::cs,a=> c a++cZ cs (a+(c a).length)
theorem pU: ∀ (l m:List Cd) (a:Nat),cZ (l++m) a=cZ l a++cZ m (a+(cZ l a).length)
 | [],m,a=> by simp [cZ]
 | c::l,m,a=> by simp only [List.cons_append,cZ,pU l m,List.append_assoc,List.length_append,Nat.add_assoc]
theorem zm {cs:List Cd} {j a:Nat} (h:j < cs.length):cZ (cs.take (j+1)) a=cZ (cs.take j) a++(cs.getD j fun _=> []) (a+(cZ (cs.take j) a).length):=by
 rw [List.take_succ_eq_append_getElem h,pU]
 simp [cZ,h]
theorem rD {cs:List Cd} {j a:Nat}:(cZ (cs.take j) a).length≤(cZ cs a).length:=by
 conv=> rhs;rw [← List.take_append_drop j cs,pU]
 rw [List.length_append];omega
abbrev mJ (u:AV) (L:List Nd) (cs:List Cd):Prop:= ∀ j,j < L.length→CoS u (lj L j) (cs.getD j fun _=> [])
theorem Gk {u:AV}:mJ u [] []:=fun j hj=> by simp at hj
theorem xR {u:AV} {d:Nd} {c:Cd} {L:List Nd} {cs:List Cd} (h:CoS u d c) (h':mJ u L cs):mJ u (d::L) (c::cs):=fun j hj=> by
 cases j with
 | zero=> exact h
 | succ j=> exact h' j (by simpa using hj)
section
variable {d v:List Tx} {no:Nat} {on:List PV}
abbrev uu (d v:List Tx) (no:Nat) (on:List PV):AV:= .agg [.sl d.length (fm d), .sl v.length (fm v), .sl no on]
theorem dK (L:List Nd) (cs:List Cd) (hc:cs.length=L.length) (hk:mJ (uu d v no on) L cs) (a:Nat) (ha:a+(cZ cs a).length≤1000000):
  Spec Tryz.prog 125 (ba [uu d v no on, .sl L.length (mS L), .v (.int .i64 (a:Int))] []) (aO (.ref (0,8) 0 (cZ cs a).length) [((0,8), .row 48 2 (inl (cZ cs a)))]):=by
 refine Spec.ofN Tryz.func125 rfl Tryz.ntmps125 rfl ?_
 refine aq ?_
 refine IL 1 rfl rfl fun hlen=> ?_
 unfold maxLen at hlen
 refine an (ai (aQ (3,0) _ rfl rfl) (ai (bp _ fy) (aj (am (ai (ta (7,0) _ 48 2 rfl rfl) ?_)))))
 refine aj (aU fun K3 hK3=> ?_)
 refine am (be rfl (aj (ay ?_)))
 refine bq (α:=Nat) (fun j=> j≤L.length) 28 [(1,_),(2,_),(3,_)] [((3,0),_)] (fun j=> [(8, .v (.int .i64 (j:Int))),(7, .ref (7,0) 0 (cZ (cs.take j) a).length)]) (fun j=> [((7,0), .row 48 2 (inl (cZ (cs.take j) a)))]) [] [] (fun j=> L.length - j) 0 ?_ (by
  refine Le.mkJ [] [] rfl ?_ ?_ trivial trivial ?_
  ·exact ⟨(iS rfl),(iV rfl),(iP rfl),(cm ag),(cI rfl ag),trivial⟩
  ·exact ⟨(ci rfl rfl rfl),(eX rfl rfl rfl ag),trivial⟩
  kernel_rfl) ?_
 ·omega
 intro j hj
 have htk:(cZ (cs.take j) a).length≤(cZ cs a).length:=rD
 refine aU fun K5 hK5=> ?_
 refine am (aX rfl (eY rfl (ai (bn _ aa rfl) (ai (bl _ _ rfl rfl rfl) (aj (aR rfl (fun hc12=> ?_) (fun hc12=> ?_)))))))
 ·skip
  have hs:=zm (cs:=cs) (j:=j) (a:=a) ab
  have htk1:(cZ (cs.take (j+1)) a).length≤(cZ cs a).length:=rD
  have hsl:=congrArg List.length hs
  rw [List.length_append] at hsl
  have hcj:=hk j ab (a+(cZ (cs.take j) a).length) ab
  generalize (cs.getD j fun _=> []) (a+(cZ (cs.take j) a).length)=C at hs hsl hcj
  refine bs (hK5 _ ?_)
  clear hK5;try clear K5
  refine aq (ay ?_)
  refine aM (σ':=aD 28 [(1,_),(2,_),(3,_),(7,_),(8,_)] [((3,0),_),((7,0),_)] [] []) kp ?_
  refine bJ 11 [15,16,17,18,19,20,21,22,23,24,25] [(50,0)] ae ae rfl (aK rfl) (rfl:_=[_,_,_,_,_,_,_,_,_,_,_]) (rfl:_=[_,_]) ?_
  refine ap (_,[]) (fun τ=> aI _ dR) ?_
  refine fP rfl ?_
  refine ap (_,[]) (fun τ=> az _ aa rfl rfl rfl rfl) ?_
  refine fO rfl ?_
  refine ap (_,[]) (fun τ=> aI _ nh) ?_
  refine fN rfl ?_
  refine ap (_,[]) (fun τ=> aI _ em) ?_
  refine fS rfl ?_
  refine ap (_,[]) (fun τ=> bo _ _ aa rfl rfl _ rfl ab (by (simp only [aN,bh,bk,bv,bu,bH,bw,bM];omega)) ag) ?_
  refine gk rfl ?_
  refine ap (_,[]) (fun τ=> cd _ aa rfl (by exact cP _ _ ab) rfl) ?_
  refine gU rfl ?_
  refine ap (_,[]) (fun τ=> aI _ em) ?_
  refine iL rfl ?_
  refine ap (_,[]) (fun τ=> aI _ dR) ?_
  refine jU rfl ?_
  refine ap (_,[]) (fun τ=> dh _ aa rfl rfl) ?_
  refine kD rfl ?_
  refine ap (_,[]) (fun τ=> aZ _ _ rfl rfl (bE ab)) ?_
  refine fV rfl ?_
  refine ap (_,[((50,0),_)]) (fun τ=> (bV aa [((0,8),(50,0))] ar (hcj.toI) trivial tr tr rfl rfl ae ae)) ?_
  refine gF rfl (bm ⟨rfl,?_⟩)
  refine ai (dq (26,0) _ _ aa rfl rfl (bM _).symm (.ref rfl (nj _) (lS _)) ab rfl (lY _ _) hsl.symm) ?_
  refine fh rfl (eg (an (aX rfl (ai (aZ _ _ rfl rfl (bE ab)) ?_))))
  refine be rfl (aJ (⟨j+1,?_,?_,?_⟩))
  ·omega
  ·skip
   refine Le.mkJ [((7,0),(26,0))] [] rfl ?_ ?_ trivial trivial ?_
   ·exact ⟨(by repeat' (exact Lv.sl)),(by repeat' (exact Lv.v)),(dz (id:=(3,0)) rfl),(cm ag),(cI rfl ag),trivial⟩
   ·exact ⟨(fi rfl rfl rfl rfl (by repeat' (first | exact Lv.sl | exact bf | refine au ?_ ?_))),(eX rfl rfl rfl (by (rw [hs]))),trivial⟩
   kernel_rfl
  omega
 obtain rfl:j=cs.length:=by omega
 rw [List.take_length]
 refine bA (id (hK3 _ ?_))
 clear hK3;try clear K3
 exact am (gw rfl (fh rfl (aj (aG (bG (.inr rfl) rfl (.tmp dR) (Le.out [((0,8),(7,0))] [] (cI rfl rfl) rfl rfl rfl trivial ob))))))
theorem pO (N:Nd) (c:Cd) (h:CoS (uu d v no on) N c) (n:Int) (a:Nat) (ha:a+(c a).length≤1000000):
  Spec Tryz.prog 187 (ba [uu d v no on, .sl 1 (mS [N]), .v (.int .i64 n), .v (.int .i64 (a:Int))] []) (aO (.ref (0,8) 0 (c a).length) [((0,8), .row 48 2 (inl (c a)))]):=by
 have hc:=h a ha
 refine Spec.ofN Tryz.func187 rfl Tryz.ntmps187 rfl ?_
 refine am (ai (aQ (4,0) _ rfl rfl) (ai (bp _ fy) (aj (aq (am (eY rfl (ai (bn _ aa rfl) (ai (fU _ _ rfl rfl rfl) (aj (bK rfl rfl ?_))))))))))
 refine aq ?_
 refine aM (σ':=aD 21 [(1,_),(3,_),(4,_)] [((4,0),_)] [] []) kp ?_
 refine bJ 5 [12,13,14,15,16] [] ae ae rfl (aK rfl) (rfl:_=[_,_,_,_,_]) (rfl:_=[_,_]) ?_
 refine ap (_,[]) (fun τ=> az _ aa rfl rfl rfl rfl) ?_
 refine fP rfl ?_
 refine ap (_,[]) (fun τ=> aI _ nh) ?_
 refine fO rfl ?_
 refine ap (_,[]) (fun τ=> bo _ _ aa rfl rfl 0 rfl ab (by simp [mS,Nd.row]) rfl) ?_
 refine fN rfl ?_
 refine ap (_,[]) (fun τ=> cd _ aa rfl (by exact cP [N] 0 (by simp)) rfl) ?_
 refine fS rfl ?_
 refine ap (_,[]) (fun τ=> aI _ em) ?_
 refine gk rfl (bm ⟨rfl,?_⟩)
 refine ai (cj aa [((0,8),(50,0))] ar (hc.toI) trivial tr ae) ?_
 exact fh rfl (aj (aG (bG (.inr rfl) rfl (.tmp dR) (Le.out [((0,8),(50,0))] [] (cI rfl rfl) rfl rfl rfl trivial ob))))
theorem uV (n:Int) (a:Nat):
  Spec Tryz.prog 187 (ba [uu d v no on, .sl 0 [], .v (.int .i64 n), .v (.int .i64 (a:Int))] []) (aO (.ref (0,8) 0 1) [((0,8), .row 48 2 (inl [{ op:= .push,n:=n }]))]):=by
 refine Spec.ofN Tryz.func187 rfl Tryz.ntmps187 rfl ?_
 refine am (ai (aQ (4,0) _ rfl rfl) (ai (bp _ fy) (aj (aq (am (eY rfl (ai (bn _ aa rfl) (ai (fU _ _ rfl rfl rfl) (aj (aW rfl rfl ?_))))))))))
 refine aS (am (aX rfl (ai (aL _ aa rfl (by exact eS)) ?_)))
 refine ai (kr (20,0) _ _ aa rfl ag (by (simp <;> rfl)) ah rfl rfl) ?_
 exact fh rfl (aj (aG (bG (.inr rfl) rfl (.tmp dR) (Le.out [((0,8),(20,0))] [] (cI rfl rfl) rfl rfl rfl trivial ob))))
def GQ (c y z:Cd) (a:Nat):List eV:=
 c a++[{ op:= .unl,n:=((a+(c a).length+1+(y (a+(c a).length+1)).length+1:Nat):Int) }]++y (a+(c a).length+1)++
  [{ op:= .jump,n:=((a+(c a).length+1+(y (a+(c a).length+1)).length+1+(z (a+(c a).length+1+(y (a+(c a).length+1)).length+1)).length:Nat):Int) }]++z (a+(c a).length+1+(y (a+(c a).length+1)).length+1)
abbrev On (u:AV) (l:AV) (n:Int) (c:Cd):Prop:= ∀ a,a+(c a).length≤1000000→Spec Tryz.prog 187 (ba [u,l, .v (.int .i64 n), .v (.int .i64 (a:Int))] []) (aO (.ref (0,8) 0 (c a).length) [((0,8), .row 48 2 (inl (c a)))])
theorem lB (N:Nd) (c y z:Cd) (hc:CoS (uu d v no on) N c) (ly lz:Nat) (ys zs:List PV) (n:Int) (hy:On (uu d v no on) (.sl ly ys) n y) (hz:On (uu d v no on) (.sl lz zs) n z) (a:Nat) (ha:a+(GQ c y z a).length≤1000000):
  Spec Tryz.prog 124 (ba [uu d v no on,py N, .sl ly ys, .sl lz zs, .v (.int .i64 n), .v (.int .i64 (a:Int))] []) (aO (.ref (0,8) 0 (GQ c y z a).length) [((0,8), .row 48 2 (inl (GQ c y z a)))]):=by
 have hb: ∃ b,b=GQ c y z a:=⟨_,rfl⟩
 obtain ⟨b,hb⟩:=hb
 rw [← hb] at ha ⊢
 unfold GQ at hb
 have hbl:=congrArg List.length hb
 simp only [List.length_append,List.length_cons,List.length_nil] at hbl
 have h1:=hc a ab
 generalize c a=C at h1 hb hbl
 have h2:=hy (a+C.length+1) ab
 generalize y (a+C.length+1)=Y at h2 hb hbl
 obtain ⟨f,hf⟩: ∃ f,f=a+C.length+1+Y.length+1:=⟨_,rfl⟩
 rw [← hf] at hb hbl
 have h3:=hz f ab
 generalize z f=Z at h3 hb hbl
 refine Spec.ofN Tryz.func124 rfl Tryz.ntmps124 rfl ?_
 refine am (ai (aQ (6,0) _ rfl rfl) (ai (aQ (7,0) _ rfl rfl) (ai (bp _ fy) (aj (am (ai (az _ aa rfl rfl rfl rfl) (ai (az _ aa rfl rfl rfl rfl) (aX rfl (ai (cj aa [((0,8),(50,0))] ar (h1.toI) trivial tr ae) ?_)))))))))
 refine fh rfl (aj (aU fun K3 hK3=> ?_))
 refine an (ai (az _ aa rfl rfl rfl rfl) (eY rfl (aX rfl (aX rfl (gw rfl (ai (dh _ aa rfl rfl) (ai (aZ _ _ rfl rfl (bE ab)) ?_)))))))
 refine ai (aZ _ _ rfl rfl (bE ab)) ?_
 refine ai (cj aa [((0,8),(51,0))] ar (h2.toI) trivial tr ae) ?_
 refine fh rfl (aJ (hK3 _ ?_))
 clear hK3;try clear K3
 refine aq ?_
 refine aM (σ':=aD 63 [(3,_),(4,_),(5,_),(6,_),(13,_),(14,_)] [((6,0),_),((50,0),_),((51,0),_)] [] []) kp ?_
 refine an (aX rfl (gw rfl (ai (dh _ aa rfl rfl) (ai (aZ _ _ rfl rfl (bE ab)) ?_))))
 refine ai (aZ _ _ rfl rfl (bE ab)) ?_
 refine gw rfl (ai (dh _ aa rfl rfl) (ai (aZ _ _ rfl rfl (bE ab)) ?_))
 refine ai (aZ (r:=(f:Int)) _ _ rfl rfl ((bE ab).trans ab)) ?_
 refine be rfl (aj (aU fun K5 hK5=> ?_))
 refine an (ai (az _ aa rfl rfl rfl rfl) (eY rfl (aX rfl (aX rfl (ai (cj aa [((0,8),(52,0))] ar (h3.toI) trivial tr ae) ?_)))))
 refine fh rfl (aJ (hK5 _ ?_))
 clear hK5;try clear K5
 refine aq ?_
 refine aM (σ':=aD 63 [(13,_),(14,_),(15,_),(16,_)] [((50,0),_),((51,0),_),((52,0),_)] [] []) kp ?_
 refine an (gw rfl (aX rfl (ai (aL _ aa rfl (by exact eS)) ?_)))
 refine ai (bg _ _ aa rfl ag (by (simp <;> rfl)) ah rfl) ?_
 refine ai (dq (48,0) _ _ aa rfl rfl (bM _).symm (.sl rfl) ab rfl (fo _ { op:= .unl,n:=f }) (show C.length+1=(C++[({ op:= .unl,n:=f }:eV)]).length by simp)) ?_
 refine fh rfl (aj (am (gw rfl (gw rfl (ai (dq (51,1) _ _ aa rfl rfl (bM _).symm (.ref rfl (nj _) (lS _)) (by simp;omega) rfl (lY _ _) (show (C++[({ op:= .unl,n:=f }:eV)]).length+Y.length=(C++[({ op:= .unl,n:=f }:eV)]++Y).length by simp;omega)) ?_)))))
 refine fh rfl (aj (am (gw rfl (aX rfl (gw rfl (ai (dh _ aa rfl rfl) (ai (aZ _ _ rfl rfl (bE ab)) ?_)))))))
 refine ai (aL _ aa rfl (by exact eS)) ?_
 refine ai (bg _ _ aa rfl ag (by (simp <;> rfl)) ah rfl) ?_
 refine ai (dq (59,0) _ _ aa rfl rfl (bM _).symm (.sl rfl) (by simp;omega) rfl (fo _ { op:= .jump,n:=((f+Z.length:Nat):Int) }) (show (C++[({ op:= .unl,n:=f }:eV)]++Y).length+1=(C++[({ op:= .unl,n:=f }:eV)]++Y++[({ op:= .jump,n:=((f+Z.length:Nat):Int) }:eV)]).length by simp;omega)) ?_
 refine fh rfl (aj (aq ?_))
 refine aM (σ':=aD 63 [(13,_),(16,_)] [((52,0),_),((59,0),_)] [] []) kp ?_
 refine an (gw rfl (gw rfl (ai (dq (62,0) _ _ aa rfl rfl (bM _).symm (.ref rfl (nj _) (lS _)) (by simp;omega) rfl ((lY _ _).trans (congrArg inl hb.symm)) (show _+Z.length=b.length by simp;omega)) ?_)))
 exact fh rfl (aj (aG (bG (.inr rfl) rfl (.tmp dR) (Le.out [((0,8),(62,0))] [] (cI rfl rfl) rfl rfl rfl trivial ob))))
end

section
variable {d v:List Tx} {no:Nat} {on:List PV}
theorem Ib (n:Nat):CoS (uu d v no on) (nd 12 n [] []) (fun _=> [{ op:= .push,n:=(n:Int) }]):=fun a ha=> by
 refine Spec.ofN Tryz.func91 rfl Tryz.ntmps91 rfl ?_
 refine am (ai (aQ (3,0) _ rfl rfl) (ai (aQ (4,0) _ rfl rfl) (ai (bp _ fy) (aj (aq (am (bb rfl rfl rfl (cf rfl rfl rfl (aj (ay ?_))))))))))
 refine aq (iG rfl rfl rfl rfl rfl (aS (bK rfl rfl (am (bb rfl rfl rfl (cf rfl rfl rfl (ai (aL _ aa rfl (by exact eS)) ?_)))))))
 refine ai (kr (19,0) _ _ aa rfl ag (by (simp <;> rfl)) ah rfl rfl) ?_
 exact fh rfl (aj (aG (bG (.inr rfl) rfl (.tmp dR) (Le.out [((0,8),(19,0))] [] (cI rfl rfl) rfl rfl rfl trivial ob))))
theorem xm (n:Nat):CoS (uu d v no on) (nd 13 n [] []) (fun _=> [{ op:= .push,n:=(n:Int) }]):=fun a ha=> by
 refine Spec.ofN Tryz.func91 rfl Tryz.ntmps91 rfl ?_
 refine am (ai (aQ (3,0) _ rfl rfl) (ai (aQ (4,0) _ rfl rfl) (ai (bp _ fy) (aj (aq (am (bb rfl rfl rfl (cf rfl rfl rfl (aj (ay ?_))))))))))
 refine aq (cK rfl rfl rfl rfl rfl (zC rfl rfl rfl rfl rfl (am (bb rfl rfl rfl (cf rfl rfl rfl (ai (aL _ aa rfl (by exact eS)) ?_))))))
 refine ai (kr (19,0) _ _ aa rfl ag (by (simp <;> rfl)) ah rfl rfl) ?_
 exact fh rfl (aj (aG (bG (.inr rfl) rfl (.tmp dR) (Le.out [((0,8),(19,0))] [] (cI rfl rfl) rfl rfl rfl trivial ob))))
theorem GW (hn:(d++v).Nodup) (hl:(d++v).length≤1000) (i:Nat) (hi:i < (d++v).length):CoS (uu d v no on) (nd 14 0 ((d++v).getD i []) []) (fun _=> [{ op:= .var,n:=(i:Int) }]):=fun a ha=> by
 refine Spec.ofN Tryz.func91 rfl Tryz.ntmps91 rfl ?_
 refine am (ai (aQ (3,0) _ rfl rfl) (ai (aQ (4,0) _ rfl rfl) (ai (bp _ fy) (aj (aq (am (bb rfl rfl rfl (cf rfl rfl rfl (aj (ay ?_))))))))))
 refine aq (cK rfl rfl rfl rfl rfl (eb rfl rfl rfl rfl rfl (iG rfl rfl rfl rfl rfl (am (ai (az _ aa rfl rfl rfl rfl) (bb rfl rfl rfl (ai (aF _ aa rfl rfl fB) (ai (aH aa al (mH d v on no hn hl i hi) rfl rfl) ?_))))))))
 refine ai (aL _ aa rfl (by exact eS)) ?_
 refine ai (kr (27,0) _ _ aa rfl ag (by (simp <;> rfl)) ah rfl rfl) ?_
 exact fh rfl (aj (aG (bG (.inr rfl) rfl (.tmp dR) (Le.out [((0,8),(27,0))] [] (cI rfl rfl) rfl rfl rfl trivial ob))))
theorem FG (k:Nat) (hk:k < 9):CoS (uu d v no on) (nd 15 0 (bltT.getD k []) []) (fun _=> [{ op:= .name,n:=(k:Int) }]):=fun a ha=> by
 refine Spec.ofN Tryz.func91 rfl Tryz.ntmps91 rfl ?_
 refine am (ai (aQ (3,0) _ rfl rfl) (ai (aQ (4,0) _ rfl rfl) (ai (bp _ fy) (aj (aq (am (bb rfl rfl rfl (cf rfl rfl rfl (aj (ay ?_))))))))))
 refine aq (cK rfl rfl rfl rfl rfl (eb rfl rfl rfl rfl rfl (cK rfl rfl rfl rfl rfl (iG rfl rfl rfl rfl rfl (aq ?_)))))
 refine aM (σ':=aD 211 [(4,_)] [((4,0),_)] [] []) kp ?_
 refine bJ 6 [30,31,32,33,34,35] [(35,0)] ae ae rfl (aK rfl) (rfl:_=[_,_,_,_,_,_]) (rfl:_=[_]) ?_
 refine ap (_,[]) (fun τ=> (aH aa (by repeat' (exact cV)) (pC) rfl rfl)) ?_
 refine fP rfl ?_
 refine ap (_,[]) (fun τ=> aA _ aa rfl rfl rfl) ?_
 refine fO rfl ?_
 refine ap (_,[]) (fun τ=> aF _ aa rfl rfl fB) ?_
 refine fN rfl ?_
 refine ap (_,[]) (fun τ=> (aH aa al (yj bltT 9 rfl ab ah k hk) rfl rfl)) ?_
 refine fS rfl ?_
 refine ap (_,[]) (fun τ=> aL _ aa rfl (by exact eS)) ?_
 refine gk rfl ?_
 refine ap (_,[((35,0),_)]) (fun τ=> kr (35,0) _ _ aa rfl ag (by (simp <;> rfl)) ah rfl rfl) ?_
 refine gU rfl (bm ⟨rfl,?_⟩)
 exact fh rfl (aj (aG (bG (.inr rfl) rfl (.tmp dR) (Le.out [((0,8),(35,0))] [] (cI rfl rfl) rfl rfl rfl trivial ob))))
theorem Dm (n:Nat):CoS (uu d v no on) (nd 5 n [] []) (fun _=> [{ op:= .timer,n:=(n:Int) }]):=fun a ha=> by
 refine Spec.ofN Tryz.func91 rfl Tryz.ntmps91 rfl ?_
 refine am (ai (aQ (3,0) _ rfl rfl) (ai (aQ (4,0) _ rfl rfl) (ai (bp _ fy) (aj (aq (am (bb rfl rfl rfl (cf rfl rfl rfl (aj (ay ?_))))))))))
 refine aq (cK rfl rfl rfl rfl rfl (eb rfl rfl rfl rfl rfl ?_))
 iterate 3 refine cK rfl rfl rfl rfl rfl ?_
 refine aq ?_
 refine aM (σ':=aD 211 [(2,_),(3,_),(4,_),(12,_)] [((3,0),_),((4,0),_)] [] []) kp ?_
 refine zC rfl rfl rfl rfl rfl (am (bb rfl rfl rfl (cf rfl rfl rfl (ai (aL _ aa rfl (by exact eS)) ?_))))
 refine ai (kr (56,0) _ _ aa rfl ag (by (simp <;> rfl)) ah rfl rfl) ?_
 exact fh rfl (aj (aG (bG (.inr rfl) rfl (.tmp dR) (Le.out [((0,8),(56,0))] [] (cI rfl rfl) rfl rfl rfl trivial ob))))
theorem xO (n:Nat):CoS (uu d v no on) (nd 6 n [] []) (fun _=> [{ op:= .cancel,n:=(n:Int) }]):=fun a ha=> by
 refine Spec.ofN Tryz.func91 rfl Tryz.ntmps91 rfl ?_
 refine am (ai (aQ (3,0) _ rfl rfl) (ai (aQ (4,0) _ rfl rfl) (ai (bp _ fy) (aj (aq (am (bb rfl rfl rfl (cf rfl rfl rfl (aj (ay ?_))))))))))
 refine aq (cK rfl rfl rfl rfl rfl (eb rfl rfl rfl rfl rfl ?_))
 iterate 3 refine cK rfl rfl rfl rfl rfl ?_
 refine aq ?_
 refine aM (σ':=aD 211 [(2,_),(3,_),(4,_),(12,_)] [((3,0),_),((4,0),_)] [] []) kp ?_
 refine eb rfl rfl rfl rfl rfl (iG rfl rfl rfl rfl rfl (am (bb rfl rfl rfl (cf rfl rfl rfl (ai (aL _ aa rfl (by exact eS)) ?_)))))
 refine ai (kr (62,0) _ _ aa rfl ag (by (simp <;> rfl)) ah rfl rfl) ?_
 exact fh rfl (aj (aG (bG (.inr rfl) rfl (.tmp dR) (Le.out [((0,8),(62,0))] [] (cI rfl rfl) rfl rfl rfl trivial ob))))
theorem co_sync:CoS (uu d v no on) (nd 7 0 [] []) (fun _=> [{ op:= .sync }]):=fun a ha=> by
 refine Spec.ofN Tryz.func91 rfl Tryz.ntmps91 rfl ?_
 refine am (ai (aQ (3,0) _ rfl rfl) (ai (aQ (4,0) _ rfl rfl) (ai (bp _ fy) (aj (aq (am (bb rfl rfl rfl (cf rfl rfl rfl (aj (ay ?_))))))))))
 refine aq (cK rfl rfl rfl rfl rfl (eb rfl rfl rfl rfl rfl ?_))
 iterate 3 refine cK rfl rfl rfl rfl rfl ?_
 refine aq ?_
 refine aM (σ':=aD 211 [(2,_),(3,_),(4,_),(12,_)] [((3,0),_),((4,0),_)] [] []) kp ?_
 refine eb rfl rfl rfl rfl rfl (cK rfl rfl rfl rfl rfl (iG rfl rfl rfl rfl rfl (am (ai (aL _ aa rfl (by exact eS)) ?_))))
 refine ai (kr (66,0) _ _ aa rfl ag (by (simp <;> rfl)) ah rfl rfl) ?_
 exact fh rfl (aj (aG (bG (.inr rfl) rfl (.tmp dR) (Le.out [((0,8),(66,0))] [] (cI rfl rfl) rfl rfl rfl trivial ob))))
theorem co_stop:CoS (uu d v no on) (nd 10 0 [] []) (fun _=> [{ op:= .stop }]):=fun a ha=> by
 refine Spec.ofN Tryz.func91 rfl Tryz.ntmps91 rfl ?_
 refine am (ai (aQ (3,0) _ rfl rfl) (ai (aQ (4,0) _ rfl rfl) (ai (bp _ fy) (aj (aq (am (bb rfl rfl rfl (cf rfl rfl rfl (aj (ay ?_))))))))))
 refine aq (cK rfl rfl rfl rfl rfl (eb rfl rfl rfl rfl rfl ?_))
 iterate 3 refine cK rfl rfl rfl rfl rfl ?_
 refine aq ?_
 refine aM (σ':=aD 211 [(2,_),(3,_),(4,_),(12,_)] [((3,0),_),((4,0),_)] [] []) kp ?_
 refine eb rfl rfl rfl rfl rfl ?_
 iterate 2 refine cK rfl rfl rfl rfl rfl ?_
 refine iG rfl rfl rfl rfl rfl (am (ai (aL _ aa rfl (by exact eS)) ?_))
 refine ai (kr (70,0) _ _ aa rfl ag (by (simp <;> rfl)) ah rfl rfl) ?_
 exact fh rfl (aj (aG (bG (.inr rfl) rfl (.tmp dR) (Le.out [((0,8),(70,0))] [] (cI rfl rfl) rfl rfl rfl trivial ob))))
theorem Ix {c y z:Nd} {cc cy cz:Cd} (hc:CoS (uu d v no on) c cc) (hy:CoS (uu d v no on) y cy) (hz:CoS (uu d v no on) z cz):CoS (uu d v no on) (nd 2 0 [] [c,y,z]) (GQ cc cy cz):=fun a ha=> by
 have hb:=lB (on:=on) c cc cy cz hc 1 1 (mS [y]) (mS [z]) 0 (fun a ha=> pO y cy hy 0 a ha) (fun a ha=> pO z cz hz 0 a ha) a ha
 refine Spec.ofN Tryz.func91 rfl Tryz.ntmps91 rfl ?_
 refine am (ai (aQ (3,0) _ rfl rfl) (ai (aQ (4,0) _ rfl rfl) (ai (bp _ fy) (aj (aq (am (bb rfl rfl rfl (cf rfl rfl rfl (aj (ay ?_))))))))))
 refine aq (cK rfl rfl rfl rfl rfl (eb rfl rfl rfl rfl rfl ?_))
 iterate 2 refine cK rfl rfl rfl rfl rfl ?_
 refine iG rfl rfl rfl rfl rfl (aq ?_)
 refine aM (σ':=aD 211 [(2,_),(3,_),(4,_)] [((3,0),_),((4,0),_)] [] []) kp ?_
 refine bJ 12 [38,39,40,41,42,43,44,45,46,47,48,49] [] ae ae rfl (aK rfl) (rfl:_=[_,_,_,_,_,_,_,_,_,_,_,_]) (rfl:_=[_,_]) ?_
 refine ap (_,[]) (fun τ=> az _ aa rfl rfl rfl rfl) ?_
 refine fP rfl ?_
 refine ap (_,[]) (fun τ=> aA _ aa rfl rfl rfl) ?_
 refine fO rfl ?_
 refine ap (_,[]) (fun τ=> aF _ aa rfl rfl eF) ?_
 refine fN rfl ?_
 refine ap (_,[]) (fun τ=> bo _ _ aa rfl rfl 0 rfl (show 0 < 3 by omega) (Nat.le_of_ble_eq_true rfl) rfl) ?_
 refine fS rfl ?_
 refine ap (_,[]) (fun τ=> cd _ aa rfl (by exact cP [c,y,z] 0 (by simp)) rfl) ?_
 refine gk rfl ?_
 refine ap (_,[]) (fun τ=> aA _ aa rfl rfl rfl) ?_
 refine gU rfl ?_
 refine ap (_,[]) (fun τ=> aF _ aa rfl rfl eF) ?_
 refine iL rfl ?_
 refine ap (_,[]) (fun τ=> kW _ _ _ aa rfl 1 2 (.lit rfl rfl) (.lit rfl rfl) ab (show 2≤3 by omega) (show _=mS [y] from rfl) rfl) ?_
 refine jU rfl ?_
 refine ap (_,[]) (fun τ=> aA _ aa rfl rfl rfl) ?_
 refine kD rfl ?_
 refine ap (_,[]) (fun τ=> aF _ aa rfl rfl eF) ?_
 refine fV rfl ?_
 refine ap (_,[]) (fun τ=> kW _ _ _ aa rfl 2 3 (.lit rfl rfl) (.lit rfl rfl) ab (show 3≤3 by omega) (show _=mS [z] from rfl) rfl) ?_
 refine gF rfl ?_
 refine ap (_,[]) (fun τ=> aI _ em) ?_
 refine kM rfl (bm ⟨rfl,?_⟩)
 refine ai (cj aa [((0,8),(50,0))] ar (hb.toI) trivial tr ae) ?_
 exact fh rfl (aj (aG (bG (.inr rfl) rfl (.tmp dR) (Le.out [((0,8),(50,0))] [] (cI rfl rfl) rfl rfl rfl trivial ob))))
theorem Hb {c y:Nd} {cc cy:Cd} (hc:CoS (uu d v no on) c cc) (hy:CoS (uu d v no on) y cy):CoS (uu d v no on) (nd 18 0 [38,38] [c,y]) (GQ cc cy (fun _=> [{ op:= .push,n:=0 }])):=fun a ha=> by
 have hb:=lB (on:=on) c cc cy (fun _=> [{ op:= .push,n:=0 }]) hc 1 0 (mS [y]) [] 0 (fun a ha=> pO y cy hy 0 a ha) (fun a _=> uV 0 a) a ha
 refine Spec.ofN Tryz.func91 rfl Tryz.ntmps91 rfl ?_
 refine am (ai (aQ (3,0) _ rfl rfl) (ai (aQ (4,0) _ rfl rfl) (ai (bp _ fy) (aj (aq (am (bb rfl rfl rfl (cf rfl rfl rfl (aj (ay ?_))))))))))
 refine aq (cK rfl rfl rfl rfl rfl (eb rfl rfl rfl rfl rfl ?_))
 iterate 3 refine cK rfl rfl rfl rfl rfl ?_
 refine aq ?_
 refine aM (σ':=aD 211 [(2,_),(3,_),(4,_),(12,_)] [((3,0),_),((4,0),_)] [] []) kp ?_
 refine eb rfl rfl rfl rfl rfl ?_
 iterate 4 refine cK rfl rfl rfl rfl rfl ?_
 refine cq (aq (am (bb rfl rfl rfl (cf rfl rfl rfl (kv rfl rfl rfl (cL rfl (ax rfl rfl (aA _ aa rfl rfl rfl) (ax rfl rfl (aF _ aa rfl rfl fB) (ax rfl rfl (aV (r:=true) _ _ Tryz.underlying9 rfl rfl rfl) (ai (aE _ _ _ rfl bR) ?_))))))))))
 refine aj (bK rfl rfl (aq ?_))
 refine aM (σ':=aD 211 [(2,_),(3,_),(4,_)] [((3,0),_),((4,0),_)] [] []) kp ?_
 refine bJ 9 [119,120,121,122,123,124,125,126,127] [] ae ae rfl (aK rfl) (rfl:_=[_,_,_,_,_,_,_,_,_]) (rfl:_=[_,_]) ?_
 refine ap (_,[]) (fun τ=> az _ aa rfl rfl rfl rfl) ?_
 refine fP rfl ?_
 refine ap (_,[]) (fun τ=> aA _ aa rfl rfl rfl) ?_
 refine fO rfl ?_
 refine ap (_,[]) (fun τ=> aF _ aa rfl rfl eF) ?_
 refine fN rfl ?_
 refine ap (_,[]) (fun τ=> bo _ _ aa rfl rfl 0 rfl (show 0 < 2 by omega) (Nat.le_of_ble_eq_true rfl) rfl) ?_
 refine fS rfl ?_
 refine ap (_,[]) (fun τ=> cd _ aa rfl (by exact cP [c,y] 0 (by simp)) rfl) ?_
 refine gk rfl ?_
 refine ap (_,[]) (fun τ=> aA _ aa rfl rfl rfl) ?_
 refine gU rfl ?_
 refine ap (_,[]) (fun τ=> aF _ aa rfl rfl eF) ?_
 refine iL rfl ?_
 refine ap (_,[]) (fun τ=> kW _ _ _ aa rfl 1 2 (.lit rfl rfl) (.lit rfl rfl) ab (show 2≤2 by omega) (show _=mS [y] from rfl) rfl) ?_
 refine jU rfl ?_
 refine ap (_,[]) (fun τ=> aI _ em) ?_
 refine kD rfl (bm ⟨rfl,?_⟩)
 refine ai (cj aa [((0,8),(50,0))] ar (hb.toI) trivial tr ae) ?_
 exact fh rfl (aj (aG (bG (.inr rfl) rfl (.tmp dR) (Le.out [((0,8),(50,0))] [] (cI rfl rfl) rfl rfl rfl trivial ob))))
theorem JE {c y:Nd} {cc cy:Cd} (hc:CoS (uu d v no on) c cc) (hy:CoS (uu d v no on) y cy):CoS (uu d v no on) (nd 18 0 [124,124] [c,y]) (GQ cc (fun _=> [{ op:= .push,n:=1 }]) cy):=fun a ha=> by
 have hb:=lB (on:=on) c cc (fun _=> [{ op:= .push,n:=1 }]) cy hc 0 1 [] (mS [y]) 1 (fun a _=> uV 1 a) (fun a ha=> pO y cy hy 1 a ha) a ha
 refine Spec.ofN Tryz.func91 rfl Tryz.ntmps91 rfl ?_
 refine am (ai (aQ (3,0) _ rfl rfl) (ai (aQ (4,0) _ rfl rfl) (ai (bp _ fy) (aj (aq (am (bb rfl rfl rfl (cf rfl rfl rfl (aj (ay ?_))))))))))
 refine aq (cK rfl rfl rfl rfl rfl (eb rfl rfl rfl rfl rfl ?_))
 iterate 3 refine cK rfl rfl rfl rfl rfl ?_
 refine aq ?_
 refine aM (σ':=aD 211 [(2,_),(3,_),(4,_),(12,_)] [((3,0),_),((4,0),_)] [] []) kp ?_
 refine eb rfl rfl rfl rfl rfl ?_
 iterate 4 refine cK rfl rfl rfl rfl rfl ?_
 refine cq (aq (am (bb rfl rfl rfl (cf rfl rfl rfl (kv rfl rfl rfl (cL rfl (ax rfl rfl (aA _ aa rfl rfl rfl) (ax rfl rfl (aF _ aa rfl rfl fB) (ax rfl rfl (aV (r:=false) _ _ Tryz.underlying9 rfl rfl rfl) (ai (aE _ _ _ rfl bR) ?_))))))))))
 refine aj (aW rfl rfl (aS (aq (aq ?_))))
 refine aM (σ':=aD 211 [(2,_),(3,_),(4,_)] [((3,0),_),((4,0),_)] [] []) kp ?_
 refine an (bb rfl rfl rfl (cf rfl rfl rfl (kv rfl rfl rfl (cL rfl (ax rfl rfl (aA _ aa rfl rfl rfl) (ax rfl rfl (aF _ aa rfl rfl fB) (ax rfl rfl (aV (r:=true) _ _ Tryz.underlying9 rfl rfl rfl) (ai (aE _ _ _ rfl bR) (aj (bK rfl rfl ?_))))))))))
 refine aq ?_
 refine aM (σ':=aD 211 [(2,_),(3,_),(4,_)] [((3,0),_),((4,0),_)] [] []) kp ?_
 refine bJ 9 [137,138,139,140,141,142,143,144,145] [] ae ae rfl (aK rfl) (rfl:_=[_,_,_,_,_,_,_,_,_]) (rfl:_=[_,_]) ?_
 refine ap (_,[]) (fun τ=> az _ aa rfl rfl rfl rfl) ?_
 refine fP rfl ?_
 refine ap (_,[]) (fun τ=> aA _ aa rfl rfl rfl) ?_
 refine fO rfl ?_
 refine ap (_,[]) (fun τ=> aF _ aa rfl rfl eF) ?_
 refine fN rfl ?_
 refine ap (_,[]) (fun τ=> bo _ _ aa rfl rfl 0 rfl (show 0 < 2 by omega) (Nat.le_of_ble_eq_true rfl) rfl) ?_
 refine fS rfl ?_
 refine ap (_,[]) (fun τ=> cd _ aa rfl (by exact cP [c,y] 0 (by simp)) rfl) ?_
 refine gk rfl ?_
 refine ap (_,[]) (fun τ=> aA _ aa rfl rfl rfl) ?_
 refine gU rfl ?_
 refine ap (_,[]) (fun τ=> aF _ aa rfl rfl eF) ?_
 refine iL rfl ?_
 refine ap (_,[]) (fun τ=> kW _ _ _ aa rfl 1 2 (.lit rfl rfl) (.lit rfl rfl) ab (show 2≤2 by omega) (show _=mS [y] from rfl) rfl) ?_
 refine jU rfl ?_
 refine ap (_,[]) (fun τ=> aI _ em) ?_
 refine kD rfl (bm ⟨rfl,?_⟩)
 refine ai (cj aa [((0,8),(50,0))] ar (hb.toI) trivial tr ae) ?_
 exact fh rfl (aj (aG (bG (.inr rfl) rfl (.tmp dR) (Le.out [((0,8),(50,0))] [] (cI rfl rfl) rfl rfl rfl trivial ob))))
theorem Eh {L:List Nd} {cs:List Cd} (hc:cs.length=L.length) (hk:mJ (uu d v no on) L cs):CoS (uu d v no on) (nd 16 0 [] L) (fun a=> cZ cs a++[{ op:= .draw }]):=fun a ha=> by
 have hl2:a+(cZ cs a).length≤1000000:=by simp only [List.length_append] at ha;omega
 have hq:=dK (d:=d) (v:=v) (no:=no) (on:=on) L cs hc hk a hl2
 refine Spec.ofN Tryz.func91 rfl Tryz.ntmps91 rfl ?_
 refine am (ai (aQ (3,0) _ rfl rfl) (ai (aQ (4,0) _ rfl rfl) (ai (bp _ fy) (aj (aq (am (bb rfl rfl rfl (cf rfl rfl rfl (aj (ay ?_))))))))))
 refine aq (cK rfl rfl rfl rfl rfl (eb rfl rfl rfl rfl rfl ?_))
 iterate 3 refine cK rfl rfl rfl rfl rfl ?_
 refine aq ?_
 refine aM (σ':=aD 211 [(2,_),(3,_),(4,_),(12,_)] [((3,0),_),((4,0),_)] [] []) kp ?_
 refine eb rfl rfl rfl rfl rfl ?_
 iterate 4 refine cK rfl rfl rfl rfl rfl ?_
 refine cq (aq (am (bb rfl rfl rfl (cf rfl rfl rfl (gQ rfl rfl rfl (cL rfl (aP rfl rfl ah ?_)))))))
 refine aP rfl rfl ah ?_
 refine aP rfl rfl ah ?_
 refine ai (aE _ _ _ rfl bR) (aj (aW rfl rfl (aS (aq (aq ?_)))))
 refine aM (σ':=aD 211 [(2,_),(3,_),(4,_)] [((3,0),_),((4,0),_)] [] []) kp ?_
 refine an (bb rfl rfl rfl (cf rfl rfl rfl (gQ rfl rfl rfl (cL rfl (aP rfl rfl ah ?_)))))
 refine aP rfl rfl ah ?_
 refine aP rfl rfl ah ?_
 refine ai (aE _ _ _ rfl bR) (aj (aW rfl rfl (aS (am (ai (az _ aa rfl rfl rfl rfl) (bb rfl rfl rfl (eZ rfl rfl rfl (aX rfl (ai (cj aa [((0,8),(50,0))] ar (hq.toI) trivial tr ae) ?_)))))))))
 refine fh rfl (aj (aq (am (bb rfl rfl rfl (cf rfl rfl rfl (aj (ay (aq ?_))))))))
 refine aM (σ':=aD 211 [(3,_),(4,_),(10,_),(153,_)] [((3,0),_),((4,0),_),((50,0),_)] [] []) kp ?_
 refine eb rfl rfl rfl rfl rfl (iG rfl rfl rfl rfl rfl (am (gw rfl (ai (aL _ aa rfl (by exact eS)) ?_))))
 refine ai (bg _ _ aa rfl ag (by (simp <;> rfl)) ah rfl) ?_
 refine ai (dq (166,0) _ _ aa rfl rfl (bM _).symm (.sl rfl) ab rfl (fo _ { op:= .draw }) (show (cZ cs a).length+1=(cZ cs a++[({ op:= .draw }:eV)]).length by simp)) ?_
 exact fh rfl (aj (aG (bG (.inr rfl) rfl (.tmp dR) (Le.out [((0,8),(166,0))] [] (cI rfl rfl) rfl rfl rfl trivial ob))))
theorem GX {L:List Nd} {cs:List Cd} (hc:cs.length=L.length) (hk:mJ (uu d v no on) L cs):CoS (uu d v no on) (nd 17 0 [45] L) (fun a=> cZ cs a++[{ op:= .neg }]):=fun a ha=> by
 have hl2:a+(cZ cs a).length≤1000000:=by simp only [List.length_append] at ha;omega
 have hq:=dK (d:=d) (v:=v) (no:=no) (on:=on) L cs hc hk a hl2
 refine Spec.ofN Tryz.func91 rfl Tryz.ntmps91 rfl ?_
 refine am (ai (aQ (3,0) _ rfl rfl) (ai (aQ (4,0) _ rfl rfl) (ai (bp _ fy) (aj (aq (am (bb rfl rfl rfl (cf rfl rfl rfl (aj (ay ?_))))))))))
 refine aq (cK rfl rfl rfl rfl rfl (eb rfl rfl rfl rfl rfl ?_))
 iterate 3 refine cK rfl rfl rfl rfl rfl ?_
 refine aq ?_
 refine aM (σ':=aD 211 [(2,_),(3,_),(4,_),(12,_)] [((3,0),_),((4,0),_)] [] []) kp ?_
 refine eb rfl rfl rfl rfl rfl ?_
 iterate 4 refine cK rfl rfl rfl rfl rfl ?_
 refine cq (aq (am (bb rfl rfl rfl (cf rfl rfl rfl (gQ rfl rfl rfl (cL rfl (aP rfl rfl ah ?_)))))))
 refine aP rfl rfl ah ?_
 refine aP rfl rfl ah ?_
 refine ai (aE _ _ _ rfl bR) (aj (aW rfl rfl (aS (aq (aq ?_)))))
 refine aM (σ':=aD 211 [(2,_),(3,_),(4,_)] [((3,0),_),((4,0),_)] [] []) kp ?_
 refine an (bb rfl rfl rfl (cf rfl rfl rfl (gQ rfl rfl rfl (cL rfl (aP rfl rfl ah ?_)))))
 refine aP rfl rfl ah ?_
 refine aP rfl rfl ah ?_
 refine ai (aE _ _ _ rfl bR) (aj (aW rfl rfl (aS (am (ai (az _ aa rfl rfl rfl rfl) (bb rfl rfl rfl (eZ rfl rfl rfl (aX rfl (ai (cj aa [((0,8),(50,0))] ar (hq.toI) trivial tr ae) ?_)))))))))
 refine fh rfl (aj (aq (am (bb rfl rfl rfl (cf rfl rfl rfl (aj (ay (aq ?_))))))))
 refine aM (σ':=aD 211 [(3,_),(4,_),(10,_),(153,_)] [((3,0),_),((4,0),_),((50,0),_)] [] []) kp ?_
 refine eb rfl rfl rfl rfl rfl (cK rfl rfl rfl rfl rfl (iG rfl rfl rfl rfl rfl (aq (am (bb rfl rfl rfl (ai (aF _ aa rfl rfl fB) (ai (aV (r:=true) _ _ Tryz.underlying9 rfl rfl rfl) (aj (bK rfl rfl (am ?_))))))))))
 refine gw rfl (ai (aL _ aa rfl (by exact eS)) ?_)
 refine ai (bg _ _ aa rfl ag (by (simp <;> rfl)) ah rfl) ?_
 refine ai (dq (175,0) _ _ aa rfl rfl (bM _).symm (.sl rfl) ab rfl (fo _ { op:= .neg }) (show (cZ cs a).length+1=(cZ cs a++[({ op:= .neg }:eV)]).length by simp)) ?_
 exact fh rfl (aj (aG (bG (.inr rfl) rfl (.tmp dR) (Le.out [((0,8),(175,0))] [] (cI rfl rfl) rfl rfl rfl trivial ob))))
theorem HX {L:List Nd} {cs:List Cd} (hc:cs.length=L.length) (hk:mJ (uu d v no on) L cs):CoS (uu d v no on) (nd 17 0 [33] L) (fun a=> cZ cs a++[{ op:= .not }]):=fun a ha=> by
 have hl2:a+(cZ cs a).length≤1000000:=by simp only [List.length_append] at ha;omega
 have hq:=dK (d:=d) (v:=v) (no:=no) (on:=on) L cs hc hk a hl2
 refine Spec.ofN Tryz.func91 rfl Tryz.ntmps91 rfl ?_
 refine am (ai (aQ (3,0) _ rfl rfl) (ai (aQ (4,0) _ rfl rfl) (ai (bp _ fy) (aj (aq (am (bb rfl rfl rfl (cf rfl rfl rfl (aj (ay ?_))))))))))
 refine aq (cK rfl rfl rfl rfl rfl (eb rfl rfl rfl rfl rfl ?_))
 iterate 3 refine cK rfl rfl rfl rfl rfl ?_
 refine aq ?_
 refine aM (σ':=aD 211 [(2,_),(3,_),(4,_),(12,_)] [((3,0),_),((4,0),_)] [] []) kp ?_
 refine eb rfl rfl rfl rfl rfl ?_
 iterate 4 refine cK rfl rfl rfl rfl rfl ?_
 refine cq (aq (am (bb rfl rfl rfl (cf rfl rfl rfl (gQ rfl rfl rfl (cL rfl (aP rfl rfl ah ?_)))))))
 refine aP rfl rfl ah ?_
 refine aP rfl rfl ah ?_
 refine ai (aE _ _ _ rfl bR) (aj (aW rfl rfl (aS (aq (aq ?_)))))
 refine aM (σ':=aD 211 [(2,_),(3,_),(4,_)] [((3,0),_),((4,0),_)] [] []) kp ?_
 refine an (bb rfl rfl rfl (cf rfl rfl rfl (gQ rfl rfl rfl (cL rfl (aP rfl rfl ah ?_)))))
 refine aP rfl rfl ah ?_
 refine aP rfl rfl ah ?_
 refine ai (aE _ _ _ rfl bR) (aj (aW rfl rfl (aS (am (ai (az _ aa rfl rfl rfl rfl) (bb rfl rfl rfl (eZ rfl rfl rfl (aX rfl (ai (cj aa [((0,8),(50,0))] ar (hq.toI) trivial tr ae) ?_)))))))))
 refine fh rfl (aj (aq (am (bb rfl rfl rfl (cf rfl rfl rfl (aj (ay (aq ?_))))))))
 refine aM (σ':=aD 211 [(3,_),(4,_),(10,_),(153,_)] [((3,0),_),((4,0),_),((50,0),_)] [] []) kp ?_
 refine eb rfl rfl rfl rfl rfl (cK rfl rfl rfl rfl rfl (iG rfl rfl rfl rfl rfl (aq (am (bb rfl rfl rfl (ai (aF _ aa rfl rfl fB) (ai (aV (r:=false) _ _ Tryz.underlying9 rfl rfl rfl) (aj (aW rfl rfl (aS ?_))))))))))
 refine am (gw rfl (ai (aL _ aa rfl (by exact eS)) ?_))
 refine ai (bg _ _ aa rfl ag (by (simp <;> rfl)) ah rfl) ?_
 refine ai (dq (179,0) _ _ aa rfl rfl (bM _).symm (.sl rfl) ab rfl (fo _ { op:= .not }) (show (cZ cs a).length+1=(cZ cs a++[({ op:= .not }:eV)]).length by simp)) ?_
 exact fh rfl (aj (aG (bG (.inr rfl) rfl (.tmp dR) (Le.out [((0,8),(179,0))] [] (cI rfl rfl) rfl rfl rfl trivial ob))))
theorem ya {L:List Nd} {cs:List Cd} (hc:cs.length=L.length) (hk:mJ (uu d v no on) L cs) (hn:(d++v).Nodup) (hl:(d++v).length≤1000) (i:Nat) (hi:i < (d++v).length):CoS (uu d v no on) (nd 1 0 ((d++v).getD i []) L) (fun a=> cZ cs a++[{ op:= .setVar,n:=(i:Int) }]):=fun a ha=> by
 have hl2:a+(cZ cs a).length≤1000000:=by simp only [List.length_append] at ha;omega
 have hq:=dK (d:=d) (v:=v) (no:=no) (on:=on) L cs hc hk a hl2
 refine Spec.ofN Tryz.func91 rfl Tryz.ntmps91 rfl ?_
 refine am (ai (aQ (3,0) _ rfl rfl) (ai (aQ (4,0) _ rfl rfl) (ai (bp _ fy) (aj (aq (am (bb rfl rfl rfl (cf rfl rfl rfl (aj (ay ?_))))))))))
 refine aq (cK rfl rfl rfl rfl rfl (eb rfl rfl rfl rfl rfl ?_))
 iterate 3 refine cK rfl rfl rfl rfl rfl ?_
 refine aq ?_
 refine aM (σ':=aD 211 [(2,_),(3,_),(4,_),(12,_)] [((3,0),_),((4,0),_)] [] []) kp ?_
 refine eb rfl rfl rfl rfl rfl ?_
 iterate 4 refine cK rfl rfl rfl rfl rfl ?_
 refine cq (aq (am (bb rfl rfl rfl (cf rfl rfl rfl (gQ rfl rfl rfl (cL rfl (aP rfl rfl ah ?_)))))))
 refine aP rfl rfl ah ?_
 refine aP rfl rfl ah ?_
 refine ai (aE _ _ _ rfl bR) (aj (aW rfl rfl (aS (aq (aq ?_)))))
 refine aM (σ':=aD 211 [(2,_),(3,_),(4,_)] [((3,0),_),((4,0),_)] [] []) kp ?_
 refine an (bb rfl rfl rfl (cf rfl rfl rfl (gQ rfl rfl rfl (cL rfl (aP rfl rfl ah ?_)))))
 refine aP rfl rfl ah ?_
 refine aP rfl rfl ah ?_
 refine ai (aE _ _ _ rfl bR) (aj (aW rfl rfl (aS (am (ai (az _ aa rfl rfl rfl rfl) (bb rfl rfl rfl (eZ rfl rfl rfl (aX rfl (ai (cj aa [((0,8),(50,0))] ar (hq.toI) trivial tr ae) ?_)))))))))
 refine fh rfl (aj (aq (am (bb rfl rfl rfl (cf rfl rfl rfl (aj (ay (aq ?_))))))))
 refine aM (σ':=aD 211 [(3,_),(4,_),(10,_),(153,_)] [((3,0),_),((4,0),_),((50,0),_)] [] []) kp ?_
 refine eb rfl rfl rfl rfl rfl ?_
 iterate 2 refine cK rfl rfl rfl rfl rfl ?_
 refine iG rfl rfl rfl rfl rfl (am (gw rfl (ai (az _ aa rfl rfl rfl rfl) (bb rfl rfl rfl (ai (aF _ aa rfl rfl fB) (ai (aH aa al (mH d v on no hn hl i hi) rfl rfl) ?_))))))
 refine ai (aL _ aa rfl (by exact eS)) ?_
 refine ai (bg _ _ aa rfl ag (by (simp <;> rfl)) ah rfl) ?_
 refine ai (dq (189,0) _ _ aa rfl rfl (bM _).symm (.sl rfl) ab rfl (fo _ { op:= .setVar,n:=(i:Int) }) (show (cZ cs a).length+1=(cZ cs a++[({ op:= .setVar,n:=(i:Int) }:eV)]).length by simp)) ?_
 exact fh rfl (aj (aG (bG (.inr rfl) rfl (.tmp dR) (Le.out [((0,8),(189,0))] [] (cI rfl rfl) rfl rfl rfl trivial ob))))
theorem ES {L:List Nd} {cs:List Cd} (hc:cs.length=L.length) (hk:mJ (uu d v no on) L cs) (n:Nat):CoS (uu d v no on) (nd 4 n [] L) (fun a=> cZ cs a++[{ op:= .send,n:=(n:Int) }]):=fun a ha=> by
 have hl2:a+(cZ cs a).length≤1000000:=by simp only [List.length_append] at ha;omega
 have hq:=dK (d:=d) (v:=v) (no:=no) (on:=on) L cs hc hk a hl2
 refine Spec.ofN Tryz.func91 rfl Tryz.ntmps91 rfl ?_
 refine am (ai (aQ (3,0) _ rfl rfl) (ai (aQ (4,0) _ rfl rfl) (ai (bp _ fy) (aj (aq (am (bb rfl rfl rfl (cf rfl rfl rfl (aj (ay ?_))))))))))
 refine aq (cK rfl rfl rfl rfl rfl (eb rfl rfl rfl rfl rfl ?_))
 iterate 3 refine cK rfl rfl rfl rfl rfl ?_
 refine aq ?_
 refine aM (σ':=aD 211 [(2,_),(3,_),(4,_),(12,_)] [((3,0),_),((4,0),_)] [] []) kp ?_
 refine eb rfl rfl rfl rfl rfl ?_
 iterate 4 refine cK rfl rfl rfl rfl rfl ?_
 refine cq (aq (am (bb rfl rfl rfl (cf rfl rfl rfl (gQ rfl rfl rfl (cL rfl (aP rfl rfl ah ?_)))))))
 refine aP rfl rfl ah ?_
 refine aP rfl rfl ah ?_
 refine ai (aE _ _ _ rfl bR) (aj (aW rfl rfl (aS (aq (aq ?_)))))
 refine aM (σ':=aD 211 [(2,_),(3,_),(4,_)] [((3,0),_),((4,0),_)] [] []) kp ?_
 refine an (bb rfl rfl rfl (cf rfl rfl rfl (gQ rfl rfl rfl (cL rfl (aP rfl rfl ah ?_)))))
 refine aP rfl rfl ah ?_
 refine aP rfl rfl ah ?_
 refine ai (aE _ _ _ rfl bR) (aj (aW rfl rfl (aS (am (ai (az _ aa rfl rfl rfl rfl) (bb rfl rfl rfl (eZ rfl rfl rfl (aX rfl (ai (cj aa [((0,8),(50,0))] ar (hq.toI) trivial tr ae) ?_)))))))))
 refine fh rfl (aj (aq (am (bb rfl rfl rfl (cf rfl rfl rfl (aj (ay (aq ?_))))))))
 refine aM (σ':=aD 211 [(3,_),(4,_),(10,_),(153,_)] [((3,0),_),((4,0),_),((50,0),_)] [] []) kp ?_
 refine eb rfl rfl rfl rfl rfl ?_
 iterate 3 refine cK rfl rfl rfl rfl rfl ?_
 refine iG rfl rfl rfl rfl rfl (am (gw rfl (bb rfl rfl rfl (cf rfl rfl rfl (ai (aL _ aa rfl (by exact eS)) ?_)))))
 refine ai (bg _ _ aa rfl ag (by (simp <;> rfl)) ah rfl) ?_
 refine ai (dq (197,0) _ _ aa rfl rfl (bM _).symm (.sl rfl) ab rfl (fo _ { op:= .send,n:=(n:Int) }) (show (cZ cs a).length+1=(cZ cs a++[({ op:= .send,n:=(n:Int) }:eV)]).length by simp)) ?_
 exact fh rfl (aj (aG (bG (.inr rfl) rfl (.tmp dR) (Le.out [((0,8),(197,0))] [] (cI rfl rfl) rfl rfl rfl trivial ob))))
theorem zI {L:List Nd} {cs:List Cd} (hc:cs.length=L.length) (hk:mJ (uu d v no on) L cs):CoS (uu d v no on) (nd 8 0 [] L) (fun a=> cZ cs a++[{ op:= .reply }]):=fun a ha=> by
 have hl2:a+(cZ cs a).length≤1000000:=by simp only [List.length_append] at ha;omega
 have hq:=dK (d:=d) (v:=v) (no:=no) (on:=on) L cs hc hk a hl2
 refine Spec.ofN Tryz.func91 rfl Tryz.ntmps91 rfl ?_
 refine am (ai (aQ (3,0) _ rfl rfl) (ai (aQ (4,0) _ rfl rfl) (ai (bp _ fy) (aj (aq (am (bb rfl rfl rfl (cf rfl rfl rfl (aj (ay ?_))))))))))
 refine aq (cK rfl rfl rfl rfl rfl (eb rfl rfl rfl rfl rfl ?_))
 iterate 3 refine cK rfl rfl rfl rfl rfl ?_
 refine aq ?_
 refine aM (σ':=aD 211 [(2,_),(3,_),(4,_),(12,_)] [((3,0),_),((4,0),_)] [] []) kp ?_
 refine eb rfl rfl rfl rfl rfl ?_
 iterate 4 refine cK rfl rfl rfl rfl rfl ?_
 refine cq (aq (am (bb rfl rfl rfl (cf rfl rfl rfl (gQ rfl rfl rfl (cL rfl (aP rfl rfl ah ?_)))))))
 refine aP rfl rfl ah ?_
 refine aP rfl rfl ah ?_
 refine ai (aE _ _ _ rfl bR) (aj (aW rfl rfl (aS (aq (aq ?_)))))
 refine aM (σ':=aD 211 [(2,_),(3,_),(4,_)] [((3,0),_),((4,0),_)] [] []) kp ?_
 refine an (bb rfl rfl rfl (cf rfl rfl rfl (gQ rfl rfl rfl (cL rfl (aP rfl rfl ah ?_)))))
 refine aP rfl rfl ah ?_
 refine aP rfl rfl ah ?_
 refine ai (aE _ _ _ rfl bR) (aj (aW rfl rfl (aS (am (ai (az _ aa rfl rfl rfl rfl) (bb rfl rfl rfl (eZ rfl rfl rfl (aX rfl (ai (cj aa [((0,8),(50,0))] ar (hq.toI) trivial tr ae) ?_)))))))))
 refine fh rfl (aj (aq (am (bb rfl rfl rfl (cf rfl rfl rfl (aj (ay (aq ?_))))))))
 refine aM (σ':=aD 211 [(3,_),(4,_),(10,_),(153,_)] [((3,0),_),((4,0),_),((50,0),_)] [] []) kp ?_
 refine eb rfl rfl rfl rfl rfl ?_
 iterate 4 refine cK rfl rfl rfl rfl rfl ?_
 refine iG rfl rfl rfl rfl rfl (am (gw rfl (ai (aL _ aa rfl (by exact eS)) ?_)))
 refine ai (bg _ _ aa rfl ag (by (simp <;> rfl)) ah rfl) ?_
 refine ai (dq (203,0) _ _ aa rfl rfl (bM _).symm (.sl rfl) ab rfl (fo _ { op:= .reply }) (show (cZ cs a).length+1=(cZ cs a++[({ op:= .reply }:eV)]).length by simp)) ?_
 exact fh rfl (aj (aG (bG (.inr rfl) rfl (.tmp dR) (Le.out [((0,8),(203,0))] [] (cI rfl rfl) rfl rfl rfl trivial ob))))
theorem Ez {L:List Nd} {cs:List Cd} (hc:cs.length=L.length) (hk:mJ (uu d v no on) L cs):CoS (uu d v no on) (nd 9 0 [] L) (fun a=> cZ cs a++[{ op:= .fail }]):=fun a ha=> by
 have hl2:a+(cZ cs a).length≤1000000:=by simp only [List.length_append] at ha;omega
 have hq:=dK (d:=d) (v:=v) (no:=no) (on:=on) L cs hc hk a hl2
 refine Spec.ofN Tryz.func91 rfl Tryz.ntmps91 rfl ?_
 refine am (ai (aQ (3,0) _ rfl rfl) (ai (aQ (4,0) _ rfl rfl) (ai (bp _ fy) (aj (aq (am (bb rfl rfl rfl (cf rfl rfl rfl (aj (ay ?_))))))))))
 refine aq (cK rfl rfl rfl rfl rfl (eb rfl rfl rfl rfl rfl ?_))
 iterate 3 refine cK rfl rfl rfl rfl rfl ?_
 refine aq ?_
 refine aM (σ':=aD 211 [(2,_),(3,_),(4,_),(12,_)] [((3,0),_),((4,0),_)] [] []) kp ?_
 refine eb rfl rfl rfl rfl rfl ?_
 iterate 4 refine cK rfl rfl rfl rfl rfl ?_
 refine cq (aq (am (bb rfl rfl rfl (cf rfl rfl rfl (gQ rfl rfl rfl (cL rfl (aP rfl rfl ah ?_)))))))
 refine aP rfl rfl ah ?_
 refine aP rfl rfl ah ?_
 refine ai (aE _ _ _ rfl bR) (aj (aW rfl rfl (aS (aq (aq ?_)))))
 refine aM (σ':=aD 211 [(2,_),(3,_),(4,_)] [((3,0),_),((4,0),_)] [] []) kp ?_
 refine an (bb rfl rfl rfl (cf rfl rfl rfl (gQ rfl rfl rfl (cL rfl (aP rfl rfl ah ?_)))))
 refine aP rfl rfl ah ?_
 refine aP rfl rfl ah ?_
 refine ai (aE _ _ _ rfl bR) (aj (aW rfl rfl (aS (am (ai (az _ aa rfl rfl rfl rfl) (bb rfl rfl rfl (eZ rfl rfl rfl (aX rfl (ai (cj aa [((0,8),(50,0))] ar (hq.toI) trivial tr ae) ?_)))))))))
 refine fh rfl (aj (aq (am (bb rfl rfl rfl (cf rfl rfl rfl (aj (ay (aq ?_))))))))
 refine aM (σ':=aD 211 [(3,_),(4,_),(10,_),(153,_)] [((3,0),_),((4,0),_),((50,0),_)] [] []) kp ?_
 refine eb rfl rfl rfl rfl rfl ?_
 iterate 5 refine cK rfl rfl rfl rfl rfl ?_
 refine iG rfl rfl rfl rfl rfl (am (gw rfl (ai (aL _ aa rfl (by exact eS)) ?_)))
 refine ai (bg _ _ aa rfl ag (by (simp <;> rfl)) ah rfl) ?_
 refine ai (dq (209,0) _ _ aa rfl rfl (bM _).symm (.sl rfl) ab rfl (fo _ { op:= .fail }) (show (cZ cs a).length+1=(cZ cs a++[({ op:= .fail }:eV)]).length by simp)) ?_
 exact fh rfl (aj (aG (bG (.inr rfl) rfl (.tmp dR) (Le.out [((0,8),(209,0))] [] (cI rfl rfl) rfl rfl rfl trivial ob))))
theorem Cy {L:List Nd} {cs:List Cd} (hc:cs.length=L.length) (hk:mJ (uu d v no on) L cs):CoS (uu d v no on) (nd 11 0 [] L) (fun a=> cZ cs a):=fun a ha=> by
 have hl2:a+(cZ cs a).length≤1000000:=ha
 have hq:=dK (d:=d) (v:=v) (no:=no) (on:=on) L cs hc hk a hl2
 refine Spec.ofN Tryz.func91 rfl Tryz.ntmps91 rfl ?_
 refine am (ai (aQ (3,0) _ rfl rfl) (ai (aQ (4,0) _ rfl rfl) (ai (bp _ fy) (aj (aq (am (bb rfl rfl rfl (cf rfl rfl rfl (aj (ay ?_))))))))))
 refine aq (cK rfl rfl rfl rfl rfl (eb rfl rfl rfl rfl rfl ?_))
 iterate 3 refine cK rfl rfl rfl rfl rfl ?_
 refine aq ?_
 refine aM (σ':=aD 211 [(2,_),(3,_),(4,_),(12,_)] [((3,0),_),((4,0),_)] [] []) kp ?_
 refine eb rfl rfl rfl rfl rfl ?_
 iterate 4 refine cK rfl rfl rfl rfl rfl ?_
 refine cq (aq (am (bb rfl rfl rfl (cf rfl rfl rfl (gQ rfl rfl rfl (cL rfl (aP rfl rfl ah ?_)))))))
 refine aP rfl rfl ah ?_
 refine aP rfl rfl ah ?_
 refine ai (aE _ _ _ rfl bR) (aj (aW rfl rfl (aS (aq (aq ?_)))))
 refine aM (σ':=aD 211 [(2,_),(3,_),(4,_)] [((3,0),_),((4,0),_)] [] []) kp ?_
 refine an (bb rfl rfl rfl (cf rfl rfl rfl (gQ rfl rfl rfl (cL rfl (aP rfl rfl ah ?_)))))
 refine aP rfl rfl ah ?_
 refine aP rfl rfl ah ?_
 refine ai (aE _ _ _ rfl bR) (aj (aW rfl rfl (aS (am (ai (az _ aa rfl rfl rfl rfl) (bb rfl rfl rfl (eZ rfl rfl rfl (aX rfl (ai (cj aa [((0,8),(50,0))] ar (hq.toI) trivial tr ae) ?_)))))))))
 refine fh rfl (aj (aq (am (bb rfl rfl rfl (cf rfl rfl rfl (aj (ay (aq ?_))))))))
 refine aM (σ':=aD 211 [(3,_),(4,_),(10,_),(153,_)] [((3,0),_),((4,0),_),((50,0),_)] [] []) kp ?_
 refine eb rfl rfl rfl rfl rfl ?_
 iterate 6 refine cK rfl rfl rfl rfl rfl ?_
 exact cq (am (gw rfl (fh rfl (aj (aG (bG (.inr rfl) rfl (.tmp dR) (Le.out [((0,8),(50,0))] [] (cI rfl rfl) rfl rfl rfl trivial ob)))))))
theorem Ho {L:List Nd} {cs:List Cd} (hc:cs.length=L.length) (hk:mJ (uu d v no on) L cs) (o:Bo):CoS (uu d v no on) (nd 18 0 o.txt L) (fun a=> cZ cs a++o.code):=fun a ha=> by
 have hol:o.code.length≤2:=by cases o <;> decide
 have hs1:o.txt≠[38,38]:=by cases o <;> decide
 have hs2:o.txt≠[124,124]:=by cases o <;> decide
 have hl2:a+(cZ cs a).length≤1000000:=by simp only [List.length_append] at ha;omega
 have hq:=dK (d:=d) (v:=v) (no:=no) (on:=on) L cs hc hk a hl2
 refine Spec.ofN Tryz.func91 rfl Tryz.ntmps91 rfl ?_
 refine am (ai (aQ (3,0) _ rfl rfl) (ai (aQ (4,0) _ rfl rfl) (ai (bp _ fy) (aj (aq (am (bb rfl rfl rfl (cf rfl rfl rfl (aj (ay ?_))))))))))
 refine aq (cK rfl rfl rfl rfl rfl (eb rfl rfl rfl rfl rfl ?_))
 iterate 3 refine cK rfl rfl rfl rfl rfl ?_
 refine aq ?_
 refine aM (σ':=aD 211 [(2,_),(3,_),(4,_),(12,_)] [((3,0),_),((4,0),_)] [] []) kp ?_
 refine eb rfl rfl rfl rfl rfl ?_
 iterate 4 refine cK rfl rfl rfl rfl rfl ?_
 refine cq (aq (am (bb rfl rfl rfl (cf rfl rfl rfl (kv rfl rfl rfl (cL rfl (ax rfl rfl (aA _ aa rfl rfl rfl) (ax rfl rfl (aF _ aa rfl rfl fB) (ax rfl rfl (aV (r:=false) _ _ Tryz.underlying9 rfl rfl (beq_eq_false_iff_ne.2 hs1)) ?_)))))))))
 refine ai (aE _ _ _ rfl bR) (aj (aW rfl rfl (aS (aq (aq ?_)))))
 refine aM (σ':=aD 211 [(2,_),(3,_),(4,_)] [((3,0),_),((4,0),_)] [] []) kp ?_
 refine an (bb rfl rfl rfl (cf rfl rfl rfl (kv rfl rfl rfl (cL rfl (ax rfl rfl (aA _ aa rfl rfl rfl) (ax rfl rfl (aF _ aa rfl rfl fB) (ax rfl rfl (aV (r:=false) _ _ Tryz.underlying9 rfl rfl (beq_eq_false_iff_ne.2 hs2)) ?_)))))))
 refine ai (aE _ _ _ rfl bR) (aj (aW rfl rfl (aS (am (ai (az _ aa rfl rfl rfl rfl) (bb rfl rfl rfl (eZ rfl rfl rfl (aX rfl (ai (cj aa [((0,8),(50,0))] ar (hq.toI) trivial tr ae) ?_)))))))))
 refine fh rfl (aj (aq (am (bb rfl rfl rfl (cf rfl rfl rfl (aj (ay (aq ?_))))))))
 refine aM (σ':=aD 211 [(3,_),(4,_),(10,_),(153,_)] [((3,0),_),((4,0),_),((50,0),_)] [] []) kp ?_
 refine zC rfl rfl rfl rfl rfl (am (gw rfl (bb rfl rfl rfl (ai (aF _ aa rfl rfl fB) (ai (aH aa al (yl o) rfl rfl) ?_)))))
 refine ai (dq (160,0) _ _ aa rfl rfl (bM _).symm (.sl (bM _)) ab rfl (lY _ _) (show (cZ cs a).length+o.code.length=(cZ cs a++o.code).length by simp)) ?_
 exact fh rfl (aj (aG (bG (.inr rfl) rfl (.tmp dR) (Le.out [((0,8),(160,0))] [] (cI rfl rfl) rfl rfl rfl trivial ob))))
def Lw (c y:Cd) (a:Nat):List eV:=c a++[{ op:= .unl,n:=((a+(c a).length+(y (a+(c a).length+1)).length+2:Nat):Int) }]++y (a+(c a).length+1)++[{ op:= .jump,n:=(a:Int) }]
theorem AP {c y:Nd} {cc cy:Cd} (hc:CoS (uu d v no on) c cc) (hy:CoS (uu d v no on) y cy):CoS (uu d v no on) (nd 3 0 [] [c,y]) (Lw cc cy):=fun a ha=> by
 obtain ⟨b,hb⟩: ∃ b,b=Lw cc cy a:=⟨_,rfl⟩
 rw [← hb] at ha ⊢
 unfold Lw at hb
 have hbl:=congrArg List.length hb
 simp only [List.length_append,List.length_cons,List.length_nil] at hbl
 have h1:=hc a ab
 generalize cc a=C at h1 hb hbl
 have h2:=hy (a+C.length+1) ab
 generalize cy (a+C.length+1)=Y at h2 hb hbl
 refine Spec.ofN Tryz.func91 rfl Tryz.ntmps91 rfl ?_
 refine am (ai (aQ (3,0) _ rfl rfl) (ai (aQ (4,0) _ rfl rfl) (ai (bp _ fy) (aj (aq (am (bb rfl rfl rfl (cf rfl rfl rfl (aj (ay ?_))))))))))
 refine aq (cK rfl rfl rfl rfl rfl (eb rfl rfl rfl rfl rfl ?_))
 iterate 3 refine cK rfl rfl rfl rfl rfl ?_
 refine aq ?_
 refine aM (σ':=aD 211 [(2,_),(3,_),(4,_),(12,_)] [((3,0),_),((4,0),_)] [] []) kp ?_
 refine eb rfl rfl rfl rfl rfl ?_
 iterate 3 refine cK rfl rfl rfl rfl rfl ?_
 refine iG rfl rfl rfl rfl rfl (aq ?_)
 refine aM (σ':=aD 211 [(2,_),(3,_),(4,_)] [((3,0),_),((4,0),_)] [] []) kp ?_
 refine bJ 6 [73,74,75,76,77,78] [] ae ae rfl (aK rfl) (rfl:_=[_,_,_,_,_,_]) (rfl:_=[_,_]) ?_
 refine ap (_,[]) (fun τ=> az _ aa rfl rfl rfl rfl) ?_
 refine fP rfl ?_
 refine ap (_,[]) (fun τ=> aA _ aa rfl rfl rfl) ?_
 refine fO rfl ?_
 refine ap (_,[]) (fun τ=> aF _ aa rfl rfl eF) ?_
 refine fN rfl ?_
 refine ap (_,[]) (fun τ=> bo _ _ aa rfl rfl 0 rfl (show 0 < 2 by omega) (Nat.le_of_ble_eq_true rfl) rfl) ?_
 refine fS rfl ?_
 refine ap (_,[]) (fun τ=> cd _ aa rfl (by exact cP [c,y] 0 (by simp)) rfl) ?_
 refine gk rfl ?_
 refine ap (_,[]) (fun τ=> aI _ em) ?_
 refine gU rfl (bm ⟨rfl,?_⟩)
 refine ai (cj aa [((0,8),(50,0))] ar (h1.toI) trivial tr ae) ?_
 refine fh rfl (aj (aU fun K15 hK15=> ?_))
 refine aM (σ':=aD 211 [(2,_),(3,_),(4,_),(7,_)] [((3,0),_),((4,0),_),((50,0),_)] [] []) kp ?_
 refine bJ 10 [80,81,82,83,84,85,86,87,88,89] [] ae ae rfl (aK rfl) (rfl:_=[_,_,_,_,_,_,_,_,_,_]) (rfl:_=[_,_]) ?_
 refine ap (_,[]) (fun τ=> az _ aa rfl rfl rfl rfl) ?_
 refine fP rfl ?_
 refine ap (_,[]) (fun τ=> aA _ aa rfl rfl rfl) ?_
 refine fO rfl ?_
 refine ap (_,[]) (fun τ=> aF _ aa rfl rfl eF) ?_
 refine fN rfl ?_
 refine ap (_,[]) (fun τ=> bo _ _ aa rfl rfl 1 rfl (show 1 < 2 by omega) (Nat.le_of_ble_eq_true rfl) rfl) ?_
 refine fS rfl ?_
 refine ap (_,[]) (fun τ=> cd _ aa rfl (by exact cP [c,y] 1 (by simp)) rfl) ?_
 refine gk rfl ?_
 refine ap (_,[]) (fun τ=> aI _ em) ?_
 refine gU rfl ?_
 refine ap (_,[]) (fun τ=> aI _ dR) ?_
 refine iL rfl ?_
 refine ap (_,[]) (fun τ=> dh _ aa rfl rfl) ?_
 refine jU rfl ?_
 refine ap (_,[]) (fun τ=> aZ _ _ rfl rfl (bE ab)) ?_
 refine kD rfl ?_
 refine ap (_,[]) (fun τ=> aZ _ _ rfl rfl (bE ab)) ?_
 refine fV rfl (bm ⟨rfl,?_⟩)
 refine ai (cj aa [((0,8),(51,0))] ar (h2.toI) trivial tr ae) ?_
 refine fh rfl (aJ (hK15 _ ?_))
 clear hK15;try clear K15
 refine am (gw rfl (aX rfl (gw rfl (ai (dh _ aa rfl rfl) (ai (aZ _ _ rfl rfl (bE ab)) ?_)))))
 refine gw rfl (ai (dh _ aa rfl rfl) (ai (aZ _ _ rfl rfl (bE ab)) ?_))
 refine ai (aZ (r:=((a+C.length+Y.length+2:Nat):Int)) _ _ rfl rfl ((bE ab).trans ab)) ?_
 refine ai (aL _ aa rfl (by exact eS)) ?_
 refine ai (bg _ _ aa rfl ag (by (simp <;> rfl)) ah rfl) ?_
 refine ai (dq (102,0) _ _ aa rfl rfl (bM _).symm (.sl rfl) ab rfl (fo _ { op:= .unl,n:=((a+C.length+Y.length+2:Nat):Int) }) (show C.length+1=(C++[({ op:= .unl,n:=((a+C.length+Y.length+2:Nat):Int) }:eV)]).length by simp)) ?_
 refine fh rfl (aj (aq ?_))
 refine aM (σ':=aD 211 [(2,_),(8,_),(9,_)] [((51,0),_),((102,0),_)] [] []) kp ?_
 refine an (gw rfl (gw rfl (ai (dq (105,0) _ _ aa rfl rfl (bM _).symm (.ref rfl (nj _) (lS _)) (by simp;omega) rfl (lY _ _) (show (C++[({ op:= .unl,n:=((a+C.length+Y.length+2:Nat):Int) }:eV)]).length+Y.length=(C++[({ op:= .unl,n:=((a+C.length+Y.length+2:Nat):Int) }:eV)]++Y).length by simp;omega)) ?_)))
 refine fh rfl (aj (am (gw rfl (aX rfl (ai (aL _ aa rfl (by exact eS)) ?_)))))
 refine ai (bg _ _ aa rfl ag (by (simp <;> rfl)) ah rfl) ?_
 refine ai (dq (110,0) _ _ aa rfl rfl (bM _).symm (.sl rfl) (by simp;omega) rfl ((fo _ { op:= .jump,n:=(a:Int) }).trans (congrArg inl hb.symm)) (show _+1=b.length by simp;omega)) ?_
 exact fh rfl (aj (aG (bG (.inr rfl) rfl (.tmp dR) (Le.out [((0,8),(110,0))] [] (cI rfl rfl) rfl rfl rfl trivial ob))))
end

def jH:Ex→Bool
 | .int n=> decide (0≤n) | .bool _=> true | .var _=> true | .name _=> true
 | .draw e=> jH e | .neg e=> jH e | .not e=> jH e
 | .bin _ a b=> jH a && jH b
 | .and a b=> jH a && jH b
 | .or a b=> jH a && jH b
mutual
def ye:Sm→Bool
 | .assign _ e=> jH e
 | .send t _ a b=> jH t && jH a && jH b
 | .timer _=> true | .cancel _=> true | .sync=> true | .stop=> true
 | .reply a b=> jH a && jH b
 | .fail e=> jH e
 | .loop c b=> jH c && sI b
 | .ite c a b=> jH c && sI a && sI b
def sI:Bk→Bool
 | .nil=> true
 | .cons s b=> ye s && sI b
end
section
variable {d v:List Tx} {no:Nat} {on:List PV}
abbrev KS (d v:List Tx) (no:Nat) (on:List PV) (N:Nd) (c:Cd):Prop:=CoS (uu d v no on) N c
theorem CoS.cong {u:AV} {N:Nd} {c c':Cd} (h:CoS u N c) (e: ∀ a,c a=c' a):CoS u N c':=by
 rw [show c'=c from funext fun a=> (e a).symm];exact h
theorem eo (hn:(d++v).Nodup) (hl:(d++v).length≤1000): ∀ e:Ex,hY (d++v).length e→jH e=true→KS d v no on (eL (d++v) e) (bD e)
 | .int n,_,hp=> by
  have hp:=of_decide_eq_true hp
  have:=Ib (d:=d) (v:=v) (no:=no) (on:=on) n.toNat
  exact this.cong fun a=> by rw [Int.toNat_of_nonneg hp];rfl
 | .bool b,_,_=> by
  cases b
  ·exact xm 0
  exact xm 1
 | .var i,h,_=> GW hn hl i h
 | .name k,h,_=> FG k h
 | .draw e,h,hp=> (Eh rfl (xR (eo hn hl e h hp) Gk)).cong fun a=> by simp [bD,cZ]
 | .neg e,h,hp=> (GX rfl (xR (eo hn hl e h hp) Gk)).cong fun a=> by simp [bD,cZ]
 | .not e,h,hp=> (HX rfl (xR (eo hn hl e h hp) Gk)).cong fun a=> by simp [bD,cZ]
 | .bin o x y,h,hp=> by
  simp only [jH,Bool.and_eq_true] at hp
  exact (Ho rfl (xR (eo hn hl x h.1 hp.1) (xR (eo hn hl y h.2 hp.2) Gk)) o).cong fun a=> by simp [bD,cZ]
 | .and x y,h,hp=> by
  simp only [jH,Bool.and_eq_true] at hp
  exact (Hb (eo hn hl x h.1 hp.1) (eo hn hl y h.2 hp.2)).cong fun a=> rfl
 | .or x y,h,hp=> by
  simp only [jH,Bool.and_eq_true] at hp
  exact (JE (eo hn hl x h.1 hp.1) (eo hn hl y h.2 hp.2)).cong fun a=> rfl
def Gl:Bk→List Cd
 | .nil=> []
 | .cons s b=> dy s::Gl b
theorem xa (nm:List Tx): ∀ b:Bk,(Gl b).length=(jf nm b).length
 | .nil=> by simp [Gl,jf]
 | .cons s b=> by simp [Gl,jf,xa nm b]
theorem xJ: ∀ (b:Bk) (a:Nat),cZ (Gl b) a=dS b a
 | .nil,a=> by simp [Gl,cZ,dS]
 | .cons s b,a=> by simp only [Gl,cZ,dS,xJ b]
theorem nx {b:Bk} (h:mJ (uu d v no on) (jf (d++v) b) (Gl b)):KS d v no on (jb (d++v) b) (dS b):=(Cy (xa _ b) h).cong (xJ b)
mutual
theorem FC (hn:(d++v).Nodup) (hl:(d++v).length≤1000): ∀ s:Sm,gI (d++v).length s→ye s=true→KS d v no on (FR (d++v) s) (dy s)
 | .assign i e,h,hp=> by rw [gI] at h;exact (ya rfl (xR (eo hn hl e h.2 hp) Gk) hn hl i h.1).cong fun a=> by simp [dy,cZ]
 | .send t k x y,h,hp=> by
  rw [gI] at h
  simp only [ye,Bool.and_eq_true] at hp
  exact (ES rfl (xR (eo hn hl t h.2.1 hp.1.1) (xR (eo hn hl x h.2.2.1 hp.1.2) (xR (eo hn hl y h.2.2.2 hp.2) Gk))) k).cong fun a=> by simp [dy,cZ,Nat.add_assoc]
 | .timer k,_,_=> (Dm k).cong fun a=> by rw [dy]
 | .cancel k,_,_=> (xO k).cong fun a=> by rw [dy]
 | .sync,_,_=> co_sync.cong fun a=> by rw [dy]
 | .stop,_,_=> co_stop.cong fun a=> by rw [dy]
 | .reply x y,h,hp=> by
  rw [gI] at h
  simp only [ye,Bool.and_eq_true] at hp
  exact (zI rfl (xR (eo hn hl x h.1 hp.1) (xR (eo hn hl y h.2 hp.2) Gk))).cong fun a=> by simp [dy,cZ]
 | .fail e,h,hp=> by rw [gI] at h;exact (Ez rfl (xR (eo hn hl e h hp) Gk)).cong fun a=> by simp [dy,cZ]
 | .loop c b,h,hp=> by
  rw [gI] at h
  simp only [ye,Bool.and_eq_true] at hp
  exact (AP (eo hn hl c h.1 hp.1) (nx (nu hn hl b h.2 hp.2))).cong fun a=> by rw [dy];rfl
 | .ite c x y,h,hp=> by
  rw [gI] at h
  simp only [ye,Bool.and_eq_true] at hp
  exact (Ix (eo hn hl c h.1 hp.1.1) (nx (nu hn hl x h.2.1 hp.1.2)) (nx (nu hn hl y h.2.2 hp.2))).cong fun a=> by rw [dy];rfl
theorem nu (hn:(d++v).Nodup) (hl:(d++v).length≤1000): ∀ b:Bk,lm (d++v).length b→sI b=true→mJ (uu d v no on) (jf (d++v) b) (Gl b)
 | .nil,_,_=> Gk
 | .cons s b,h,hp=> by
  rw [lm] at h
  simp only [sI,Bool.and_eq_true] at hp
  exact xR (FC hn hl s h.1 hp.1) (nu hn hl b h.2 hp.2)
end
theorem EN (hn:(d++v).Nodup) (hl:(d++v).length≤1000) (b:Bk) (h:lm (d++v).length b) (hp:sI b=true):KS d v no on (jb (d++v) b) (dS b):=nx (nu hn hl b h hp)
end
end Go.Proofs.YtmjnackchaahbaaGreat
