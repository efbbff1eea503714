/- Part 12 of the texts that the walk leans on: the machine, the walks, the plain laws. -/
import Derived.Test.YtmjnackchaahbaaGreatNyZ11
set_option linter.unusedSimpArgs false
set_option linter.unusedVariables false
namespace Go.Proofs.YtmjnackchaahbaaGreat
open Go.RowKit

theorem nV (C:List eU):((inl C).drop 0).take (C.length*2)=inl C:=List.take_of_length_le (by rw [List.drop_zero,bM];exact Nat.le_refl _)
theorem lN (C:List eU):0+C.length*2≤(inl C).length:=by rw [bM,Nat.zero_add];exact Nat.le_refl _
theorem xJ (l:List Tx) (n:Nat) (hn:l.length=n) (h1:n≤1000) (hd:l.Nodup) (i:Nat) (hi:i < n):Spec Tryz.prog 122 (ba [.sl n (fl l), .v (bt (l.getD i []))] []) (aO (.v (.int .i64 (i:Int))) []):=by
 refine Spec.ofN Tryz.func122 rfl Tryz.ntmps122 rfl ?_
 refine am (be rfl (aj (aq (am (be rfl (aj (ax ?_)))))))
 refine bq (α:=Nat) (fun k=> k≤n∧k≤i) 19 [(0,_),(1,_)] [] (fun k=> [(5, .v (.int .i64 (k:Int)))]) (fun k=> []) [] [] (fun k=> n - k) 0 ?_ (by
  refine Le.mkJ [] [] rfl ?_ ?_ trivial trivial ?_
  ·exact ⟨(iS rfl),(iV rfl),(co ag),trivial⟩
  ·exact trivial
  kernel_rfl) ?_
 ·exact ⟨Nat.zero_le _,Nat.zero_le _⟩
 intro k hk
 obtain ⟨hk,hki⟩:=hk
 refine aU fun K4 hK4=> ?_
 refine am (aX rfl (eW rfl (ai (bn _ aa rfl) (ai (bm _ _ rfl rfl rfl) (aj (aP rfl (fun hc9=> ?_) (fun hc9=> ?_)))))))
 ·skip
  refine bs (hK4 _ ?_)
  clear hK4;try clear K4
  refine aq (ax (am (eW rfl (aX rfl (ai (bo _ _ aa rfl rfl _ rfl ab (by (simp only [aN,bg,bj,bv,bu,bH,bz,bM];omega)) (by exact Nat.mul_one _)) ?_)))))
  refine ai (bO _ aa rfl (by exact jQ _ _ ab) rfl) ?_
  refine eh rfl (ai (aV _ _ Tryz.underlying9 rfl rfl rfl) (aj (aP rfl (fun hc17=> ?_) (fun hc17=> ?_))))
  ·skip
   have he:k=i:=mL hd ab ab hc17
   refine am (aX rfl (be rfl (aj (aG (rQ rfl rfl ?_)))))
   rw [he]
  have he:k≠i:=fun e=> hc17 (by rw [e])
  refine cr (an (aX rfl (ai (aZ _ _ rfl rfl (bE ab)) ?_)))
  refine be rfl (aJ (⟨k+1,?_,?_,?_⟩))
  ·exact ⟨by omega,by omega⟩
  ·skip
   refine Le.mkJ [] [] rfl ?_ ?_ trivial trivial ?_
   ·exact ⟨(iS rfl),(iV rfl),(co ag),trivial⟩
   ·exact trivial
   kernel_rfl
  omega
 exact absurd hki ab
theorem pt:Spec Tryz.prog 123 (ba [] []) (aO (.sl 9 (fl bltT)) []):=by
 refine Spec.ofN Tryz.func123 rfl Tryz.ntmps123 rfl ?_
 refine am (ai (bp _ fz) (aj (am (ai (bh _ _ aa rfl ag (by (simp <;> rfl)) ah rfl) ?_))))
 exact kD rfl (aj (aG (pU rfl rfl)))
theorem Ch:Spec Tryz.prog 126 (ba [.v (bt [43])] []) (aO (.sl (Bo.add).code.length (inl (Bo.add).code)) []):=by
 refine Spec.ofN Tryz.func126 rfl Tryz.ntmps126 rfl ?_
 refine am (ai (bp _ fz) (aj (aq (am (eh rfl (aj (ax (am (ai (aV (r:=true) _ _ Tryz.underlying9 rfl rfl rfl) (cp rfl ?_))))))))))
 refine aj (bL rfl rfl (am (ai (aL _ aa rfl (by exact eR)) ?_)))
 refine ai (bh _ _ aa rfl ag (by (simp <;> rfl)) ah rfl) ?_
 exact kD rfl (aj (aG (pU rfl rfl)))
theorem Bw:Spec Tryz.prog 126 (ba [.v (bt [45])] []) (aO (.sl (Bo.sub).code.length (inl (Bo.sub).code)) []):=by
 refine Spec.ofN Tryz.func126 rfl Tryz.ntmps126 rfl ?_
 refine am (ai (bp _ fz) (aj (aq (am (eh rfl (aj (ax (am (ai (aV (r:=false) _ _ Tryz.underlying9 rfl rfl rfl) (cp rfl ?_))))))))))
 refine aj (aW rfl rfl (am (ai (aV (r:=true) _ _ Tryz.underlying9 rfl rfl rfl) (cp rfl (aj (bL rfl rfl (am (ai (aL _ aa rfl (by exact eR)) ?_))))))))
 refine ai (bh _ _ aa rfl ag (by (simp <;> rfl)) ah rfl) ?_
 exact kD rfl (aj (aG (pU rfl rfl)))
theorem Ba:Spec Tryz.prog 126 (ba [.v (bt [42])] []) (aO (.sl (Bo.mul).code.length (inl (Bo.mul).code)) []):=by
 refine Spec.ofN Tryz.func126 rfl Tryz.ntmps126 rfl ?_
 refine am (ai (bp _ fz) (aj (aq (am (eh rfl (aj (ax (am (ai (aV (r:=false) _ _ Tryz.underlying9 rfl rfl rfl) (cp rfl ?_))))))))))
 refine aj (aW rfl rfl (am (ai (aV (r:=false) _ _ Tryz.underlying9 rfl rfl rfl) (cp rfl (aj (aW rfl rfl (am (ai (aV (r:=true) _ _ Tryz.underlying9 rfl rfl rfl) (cp rfl (aj ?_))))))))))
 refine bL rfl rfl (am (ai (aL _ aa rfl (by exact eR)) ?_))
 refine ai (bh _ _ aa rfl ag (by (simp <;> rfl)) ah rfl) ?_
 exact kD rfl (aj (aG (pU rfl rfl)))
theorem BK:Spec Tryz.prog 126 (ba [.v (bt [47])] []) (aO (.sl (Bo.div).code.length (inl (Bo.div).code)) []):=by
 refine Spec.ofN Tryz.func126 rfl Tryz.ntmps126 rfl ?_
 refine am (ai (bp _ fz) (aj (aq (am (eh rfl (aj (ax (am (ai (aV (r:=false) _ _ Tryz.underlying9 rfl rfl rfl) (cp rfl ?_))))))))))
 refine aj (aW rfl rfl (am (ai (aV (r:=false) _ _ Tryz.underlying9 rfl rfl rfl) (cp rfl (aj (aW rfl rfl (am (ai (aV (r:=false) _ _ Tryz.underlying9 rfl rfl rfl) (cp rfl (aj ?_))))))))))
 refine aW rfl rfl (am (ai (aV (r:=true) _ _ Tryz.underlying9 rfl rfl rfl) (cp rfl (aj (bL rfl rfl (am (ai (aL _ aa rfl (by exact eR)) ?_)))))))
 refine ai (bh _ _ aa rfl ag (by (simp <;> rfl)) ah rfl) ?_
 exact kD rfl (aj (aG (pU rfl rfl)))
theorem DV:Spec Tryz.prog 126 (ba [.v (bt [60])] []) (aO (.sl (Bo.lt).code.length (inl (Bo.lt).code)) []):=by
 refine Spec.ofN Tryz.func126 rfl Tryz.ntmps126 rfl ?_
 refine am (ai (bp _ fz) (aj (aq (am (eh rfl (aj (ax (am (ai (aV (r:=false) _ _ Tryz.underlying9 rfl rfl rfl) (cp rfl ?_))))))))))
 refine aj (aW rfl rfl (am (ai (aV (r:=false) _ _ Tryz.underlying9 rfl rfl rfl) (cp rfl (aj (aW rfl rfl (am (ai (aV (r:=false) _ _ Tryz.underlying9 rfl rfl rfl) (cp rfl (aj ?_))))))))))
 refine aW rfl rfl (am (ai (aV (r:=false) _ _ Tryz.underlying9 rfl rfl rfl) (cp rfl (aj (aW rfl rfl (am (ai (aV (r:=true) _ _ Tryz.underlying9 rfl rfl rfl) (cp rfl (aj (bL rfl rfl ?_))))))))))
 refine am (ai (aL _ aa rfl (by exact eR)) ?_)
 refine ai (bh _ _ aa rfl ag (by (simp <;> rfl)) ah rfl) ?_
 exact kD rfl (aj (aG (pU rfl rfl)))
theorem DE:Spec Tryz.prog 126 (ba [.v (bt [60,61])] []) (aO (.sl (Bo.le).code.length (inl (Bo.le).code)) []):=by
 refine Spec.ofN Tryz.func126 rfl Tryz.ntmps126 rfl ?_
 refine am (ai (bp _ fz) (aj (aq (am (eh rfl (aj (ax (am (ai (aV (r:=false) _ _ Tryz.underlying9 rfl rfl rfl) (cp rfl ?_))))))))))
 refine aj (aW rfl rfl (am (ai (aV (r:=false) _ _ Tryz.underlying9 rfl rfl rfl) (cp rfl (aj (aW rfl rfl (am (ai (aV (r:=false) _ _ Tryz.underlying9 rfl rfl rfl) (cp rfl (aj ?_))))))))))
 refine aW rfl rfl (am (ai (aV (r:=false) _ _ Tryz.underlying9 rfl rfl rfl) (cp rfl (aj (aW rfl rfl (am (ai (aV (r:=false) _ _ Tryz.underlying9 rfl rfl rfl) (cp rfl (aj (aW rfl rfl ?_))))))))))
 refine am (ai (aV (r:=true) _ _ Tryz.underlying9 rfl rfl rfl) (cp rfl (aj (bL rfl rfl (am (ai (aL _ aa rfl (by exact eR)) ?_))))))
 refine ai (bh _ _ aa rfl ag (by (simp <;> rfl)) ah rfl) ?_
 exact kD rfl (aj (aG (pU rfl rfl)))
theorem DU:Spec Tryz.prog 126 (ba [.v (bt [61,61])] []) (aO (.sl (Bo.eq).code.length (inl (Bo.eq).code)) []):=by
 refine Spec.ofN Tryz.func126 rfl Tryz.ntmps126 rfl ?_
 refine am (ai (bp _ fz) (aj (aq (am (eh rfl (aj (ax (am (ai (aV (r:=false) _ _ Tryz.underlying9 rfl rfl rfl) (cp rfl ?_))))))))))
 refine aj (aW rfl rfl (am (ai (aV (r:=false) _ _ Tryz.underlying9 rfl rfl rfl) (cp rfl (aj (aW rfl rfl (am (ai (aV (r:=false) _ _ Tryz.underlying9 rfl rfl rfl) (cp rfl (aj ?_))))))))))
 refine aW rfl rfl (am (ai (aV (r:=false) _ _ Tryz.underlying9 rfl rfl rfl) (cp rfl (aj (aW rfl rfl (am (ai (aV (r:=false) _ _ Tryz.underlying9 rfl rfl rfl) (cp rfl (aj (aW rfl rfl ?_))))))))))
 refine am (ai (aV (r:=false) _ _ Tryz.underlying9 rfl rfl rfl) (cp rfl (aj (aW rfl rfl (am (ai (aV (r:=true) _ _ Tryz.underlying9 rfl rfl rfl) (cp rfl (aj (bL rfl rfl (aq ?_))))))))))
 refine aM (σ':=aD 45 [] [] [] []) kp ?_
 refine an (ai (aL _ aa rfl (by exact eR)) ?_)
 refine ai (bh _ _ aa rfl ag (by (simp <;> rfl)) ah rfl) ?_
 exact kD rfl (aj (aG (pU rfl rfl)))
theorem FH:Spec Tryz.prog 126 (ba [.v (bt [62])] []) (aO (.sl (Bo.gt).code.length (inl (Bo.gt).code)) []):=by
 refine Spec.ofN Tryz.func126 rfl Tryz.ntmps126 rfl ?_
 refine am (ai (bp _ fz) (aj (aq (am (eh rfl (aj (ax (am (ai (aV (r:=false) _ _ Tryz.underlying9 rfl rfl rfl) (cp rfl ?_))))))))))
 refine aj (aW rfl rfl (am (ai (aV (r:=false) _ _ Tryz.underlying9 rfl rfl rfl) (cp rfl (aj (aW rfl rfl (am (ai (aV (r:=false) _ _ Tryz.underlying9 rfl rfl rfl) (cp rfl (aj ?_))))))))))
 refine aW rfl rfl (am (ai (aV (r:=false) _ _ Tryz.underlying9 rfl rfl rfl) (cp rfl (aj (aW rfl rfl (am (ai (aV (r:=false) _ _ Tryz.underlying9 rfl rfl rfl) (cp rfl (aj (aW rfl rfl ?_))))))))))
 refine am (ai (aV (r:=false) _ _ Tryz.underlying9 rfl rfl rfl) (cp rfl (aj (aW rfl rfl (am (ai (aV (r:=false) _ _ Tryz.underlying9 rfl rfl rfl) (cp rfl (aj (aW rfl rfl (aq ?_))))))))))
 refine aM (σ':=aD 45 [(3,_)] [] [] []) kp ?_
 refine an (ai (aV (r:=true) _ _ Tryz.underlying9 rfl rfl rfl) (cp rfl (aj (bL rfl rfl (am (ai (aL _ aa rfl (by exact eR)) ?_))))))
 refine ai (aL _ aa rfl (by exact eR)) ?_
 refine ai (bh _ _ aa rfl ag (by (simp <;> rfl)) ah rfl) ?_
 exact kD rfl (aj (aG (pU rfl rfl)))
theorem DF:Spec Tryz.prog 126 (ba [.v (bt [62,61])] []) (aO (.sl (Bo.ge).code.length (inl (Bo.ge).code)) []):=by
 refine Spec.ofN Tryz.func126 rfl Tryz.ntmps126 rfl ?_
 refine am (ai (bp _ fz) (aj (aq (am (eh rfl (aj (ax (am (ai (aV (r:=false) _ _ Tryz.underlying9 rfl rfl rfl) (cp rfl ?_))))))))))
 refine aj (aW rfl rfl (am (ai (aV (r:=false) _ _ Tryz.underlying9 rfl rfl rfl) (cp rfl (aj (aW rfl rfl (am (ai (aV (r:=false) _ _ Tryz.underlying9 rfl rfl rfl) (cp rfl (aj ?_))))))))))
 refine aW rfl rfl (am (ai (aV (r:=false) _ _ Tryz.underlying9 rfl rfl rfl) (cp rfl (aj (aW rfl rfl (am (ai (aV (r:=false) _ _ Tryz.underlying9 rfl rfl rfl) (cp rfl (aj (aW rfl rfl ?_))))))))))
 refine am (ai (aV (r:=false) _ _ Tryz.underlying9 rfl rfl rfl) (cp rfl (aj (aW rfl rfl (am (ai (aV (r:=false) _ _ Tryz.underlying9 rfl rfl rfl) (cp rfl (aj (aW rfl rfl (aq ?_))))))))))
 refine aM (σ':=aD 45 [(3,_)] [] [] []) kp ?_
 refine an (ai (aV (r:=false) _ _ Tryz.underlying9 rfl rfl rfl) (cp rfl (aj (aW rfl rfl (am (ai (aV (r:=true) _ _ Tryz.underlying9 rfl rfl rfl) (cp rfl (aj (bL rfl rfl (am ?_))))))))))
 refine ai (aL _ aa rfl (by exact eR)) ?_
 refine ai (aL _ aa rfl (by exact eR)) ?_
 refine ai (bh _ _ aa rfl ag (by (simp <;> rfl)) ah rfl) ?_
 exact kD rfl (aj (aG (pU rfl rfl)))
theorem Eh:Spec Tryz.prog 126 (ba [.v (bt [33,61])] []) (aO (.sl (Bo.ne).code.length (inl (Bo.ne).code)) []):=by
 refine Spec.ofN Tryz.func126 rfl Tryz.ntmps126 rfl ?_
 refine am (ai (bp _ fz) (aj (aq (am (eh rfl (aj (ax (am (ai (aV (r:=false) _ _ Tryz.underlying9 rfl rfl rfl) (cp rfl ?_))))))))))
 refine aj (aW rfl rfl (am (ai (aV (r:=false) _ _ Tryz.underlying9 rfl rfl rfl) (cp rfl (aj (aW rfl rfl (am (ai (aV (r:=false) _ _ Tryz.underlying9 rfl rfl rfl) (cp rfl (aj ?_))))))))))
 refine aW rfl rfl (am (ai (aV (r:=false) _ _ Tryz.underlying9 rfl rfl rfl) (cp rfl (aj (aW rfl rfl (am (ai (aV (r:=false) _ _ Tryz.underlying9 rfl rfl rfl) (cp rfl (aj (aW rfl rfl ?_))))))))))
 refine am (ai (aV (r:=false) _ _ Tryz.underlying9 rfl rfl rfl) (cp rfl (aj (aW rfl rfl (am (ai (aV (r:=false) _ _ Tryz.underlying9 rfl rfl rfl) (cp rfl (aj (aW rfl rfl (aq ?_))))))))))
 refine aM (σ':=aD 45 [(3,_)] [] [] []) kp ?_
 refine an (ai (aV (r:=false) _ _ Tryz.underlying9 rfl rfl rfl) (cp rfl (aj (aW rfl rfl (am (ai (aV (r:=false) _ _ Tryz.underlying9 rfl rfl rfl) (cp rfl (aj (aW rfl rfl (cr ?_))))))))))
 refine am (ai (aL _ aa rfl (by exact eR)) ?_)
 refine ai (aL _ aa rfl (by exact eR)) ?_
 refine ai (bh _ _ aa rfl ag (by (simp <;> rfl)) ah rfl) ?_
 exact kD rfl (aj (aG (pU rfl rfl)))
theorem yk (o:Bo):Spec Tryz.prog 126 (ba [.v (bt o.txt)] []) (aO (.sl o.code.length (inl o.code)) []):=by
 cases o
 ·exact Ch
 ·exact Bw
 ·exact Ba
 ·exact BK
 ·exact DV
 ·exact DE
 ·exact DU
 ·exact FH
 ·exact DF
 exact Eh

abbrev Cd:=Nat→List eU
abbrev CoS (u:AV) (d:Nd) (c:Cd):Prop:= ∀ a,a+(c a).length≤1000000→Spec Tryz.prog 91 (ba [u,pq d, .v (.int .i64 (a:Int))] []) (aO (.ref (0,8) 0 (c a).length) [((0,8), .row 48 2 (inl (c a)))])
def cV:List Cd→Nat→List eU
 | [],_=> []
 | c::cs,a=> c a++cV cs (a+(c a).length)
theorem qa: ∀ (l m:List Cd) (a:Nat),cV (l++m) a=cV l a++cV m (a+(cV l a).length)
 | [],m,a=> by simp [cV]
 | c::l,m,a=> by simp only [List.cons_append,cV,qa l m,List.append_assoc,List.length_append,Nat.add_assoc]
theorem yK {cs:List Cd} {j a:Nat} (h:j < cs.length):cV (cs.take (j+1)) a=cV (cs.take j) a++(cs.getD j fun _=> []) (a+(cV (cs.take j) a).length):=by
 rw [List.take_succ_eq_append_getElem h,qa]
 simp [cV,h]
theorem rI {cs:List Cd} {j a:Nat}:(cV (cs.take j) a).length≤(cV cs a).length:=by
 conv=> rhs;rw [← List.take_append_drop j cs,qa]
 rw [List.length_append];omega
abbrev mK (u:AV) (L:List Nd) (cs:List Cd):Prop:= ∀ j,j < L.length→CoS u (ld L j) (cs.getD j fun _=> [])
theorem DZ {u:AV}:mK u [] []:=fun j hj=> by simp at hj
theorem yU {u:AV} {d:Nd} {c:Cd} {L:List Nd} {cs:List Cd} (h:CoS u d c) (h':mK u L cs):mK u (d::L) (c::cs):=fun j hj=> by
 cases j with
 | zero=> exact h
 | succ j=> exact h' j (by simpa using hj)
section
variable {d v:List Tx} {no:Nat} {on:List PV}
abbrev uu (d v:List Tx) (no:Nat) (on:List PV):AV:= .agg [.sl d.length (fl d), .sl v.length (fl v), .sl no on]
theorem dH (L:List Nd) (cs:List Cd) (hc:cs.length=L.length) (hk:mK (uu d v no on) L cs) (a:Nat) (ha:a+(cV cs a).length≤1000000):
  Spec Tryz.prog 125 (ba [uu d v no on, .sl L.length (mN L), .v (.int .i64 (a:Int))] []) (aO (.ref (0,8) 0 (cV cs a).length) [((0,8), .row 48 2 (inl (cV cs a)))]):=by
 refine Spec.ofN Tryz.func125 rfl Tryz.ntmps125 rfl ?_
 refine aq ?_
 refine Hv 1 rfl rfl fun hlen=> ?_
 unfold maxLen at hlen
 refine an (ai (aR (3,0) _ rfl rfl) (ai (bp _ fz) (aj (am (ai (si (7,0) _ 48 2 rfl rfl) ?_)))))
 refine aj (aU fun K3 hK3=> ?_)
 refine am (be rfl (aj (ax ?_)))
 refine bq (α:=Nat) (fun j=> j≤L.length) 28 [(1,_),(2,_),(3,_)] [((3,0),_)] (fun j=> [(8, .v (.int .i64 (j:Int))),(7, .ref (7,0) 0 (cV (cs.take j) a).length)]) (fun j=> [((7,0), .row 48 2 (inl (cV (cs.take j) a)))]) [] [] (fun j=> L.length - j) 0 ?_ (by
  refine Le.mkJ [] [] rfl ?_ ?_ trivial trivial ?_
  ·exact ⟨(iS rfl),(iV rfl),(iP rfl),(co ag),(cP rfl ag),trivial⟩
  ·exact ⟨(ca rfl rfl rfl),(fg rfl rfl rfl ag),trivial⟩
  kernel_rfl) ?_
 ·omega
 intro j hj
 have htk:(cV (cs.take j) a).length≤(cV cs a).length:=rI
 refine aU fun K5 hK5=> ?_
 refine am (aX rfl (eW rfl (ai (bn _ aa rfl) (ai (bm _ _ rfl rfl rfl) (aj (aP rfl (fun hc12=> ?_) (fun hc12=> ?_)))))))
 ·skip
  have hs:=yK (cs:=cs) (j:=j) (a:=a) ab
  have htk1:(cV (cs.take (j+1)) a).length≤(cV cs a).length:=rI
  have hsl:=congrArg List.length hs
  rw [List.length_append] at hsl
  have hcj:=hk j ab (a+(cV (cs.take j) a).length) ab
  generalize (cs.getD j fun _=> []) (a+(cV (cs.take j) a).length)=C at hs hsl hcj
  refine bs (hK5 _ ?_)
  clear hK5;try clear K5
  refine aq (ax ?_)
  refine aM (σ':=aD 28 [(1,_),(2,_),(3,_),(7,_),(8,_)] [((3,0),_),((7,0),_)] [] []) kp ?_
  refine bK 11 [15,16,17,18,19,20,21,22,23,24,25] [(50,0)] ae ae rfl (aK rfl) (rfl:_=[_,_,_,_,_,_,_,_,_,_,_]) (rfl:_=[_,_]) ?_
  refine ap (_,[]) (fun τ=> aI _ dT) ?_
  refine fF rfl ?_
  refine ap (_,[]) (fun τ=> az _ aa rfl rfl rfl rfl) ?_
  refine fL rfl ?_
  refine ap (_,[]) (fun τ=> aI _ nB) ?_
  refine fA rfl ?_
  refine ap (_,[]) (fun τ=> aI _ eu) ?_
  refine fT rfl ?_
  refine ap (_,[]) (fun τ=> bo _ _ aa rfl rfl _ rfl ab (by (simp only [aN,bg,bj,bv,bu,bH,bz,bM];omega)) ag) ?_
  refine gj rfl ?_
  refine ap (_,[]) (fun τ=> cd _ aa rfl (by exact cN _ _ ab) rfl) ?_
  refine gU rfl ?_
  refine ap (_,[]) (fun τ=> aI _ eu) ?_
  refine iC rfl ?_
  refine ap (_,[]) (fun τ=> aI _ dT) ?_
  refine jM rfl ?_
  refine ap (_,[]) (fun τ=> dg _ aa rfl rfl) ?_
  refine jX rfl ?_
  refine ap (_,[]) (fun τ=> aZ _ _ rfl rfl (bE ab)) ?_
  refine fI rfl ?_
  refine ap (_,[((50,0),_)]) (fun τ=> (bS aa [((0,8),(50,0))] ar (hcj.toI) trivial tr tr rfl rfl ae ae)) ?_
  refine gh rfl (bl ⟨rfl,?_⟩)
  refine ai (dt (26,0) _ _ aa rfl rfl (bM _).symm (.ref rfl (nV _) (lN _)) ab rfl (lW _ _) hsl.symm) ?_
  refine fh rfl (dS (an (aX rfl (ai (aZ _ _ rfl rfl (bE ab)) ?_))))
  refine be rfl (aJ (⟨j+1,?_,?_,?_⟩))
  ·omega
  ·skip
   refine Le.mkJ [((7,0),(26,0))] [] rfl ?_ ?_ trivial trivial ?_
   ·exact ⟨(by repeat' (exact Lv.sl)),(by repeat' (exact Lv.v)),(dI (id:=(3,0)) rfl),(co ag),(cP rfl ag),trivial⟩
   ·exact ⟨(fm rfl rfl rfl rfl (by repeat' (first | exact Lv.sl | exact bf | refine au ?_ ?_))),(fg rfl rfl rfl (by (rw [hs]))),trivial⟩
   kernel_rfl
  omega
 obtain rfl:j=cs.length:=by omega
 rw [List.take_length]
 refine bD (id (hK3 _ ?_))
 clear hK3;try clear K3
 exact am (gG rfl (fh rfl (aj (aG (bI (.inr rfl) rfl (.tmp dT) (Le.out [((0,8),(7,0))] [] (cP rfl rfl) rfl rfl rfl trivial ob))))))
theorem pC (N:Nd) (c:Cd) (h:CoS (uu d v no on) N c) (n:Int) (a:Nat) (ha:a+(c a).length≤1000000):
  Spec Tryz.prog 187 (ba [uu d v no on, .sl 1 (mN [N]), .v (.int .i64 n), .v (.int .i64 (a:Int))] []) (aO (.ref (0,8) 0 (c a).length) [((0,8), .row 48 2 (inl (c a)))]):=by
 have hc:=h a ha
 refine Spec.ofN Tryz.func187 rfl Tryz.ntmps187 rfl ?_
 refine am (ai (aR (4,0) _ rfl rfl) (ai (bp _ fz) (aj (aq (am (eW rfl (ai (bn _ aa rfl) (ai (gA _ _ rfl rfl rfl) (aj (bL rfl rfl ?_))))))))))
 refine aq ?_
 refine aM (σ':=aD 21 [(1,_),(3,_),(4,_)] [((4,0),_)] [] []) kp ?_
 refine bK 5 [12,13,14,15,16] [] ae ae rfl (aK rfl) (rfl:_=[_,_,_,_,_]) (rfl:_=[_,_]) ?_
 refine ap (_,[]) (fun τ=> az _ aa rfl rfl rfl rfl) ?_
 refine fF rfl ?_
 refine ap (_,[]) (fun τ=> aI _ nB) ?_
 refine fL rfl ?_
 refine ap (_,[]) (fun τ=> bo _ _ aa rfl rfl 0 rfl ab (by simp [mN,Nd.row]) rfl) ?_
 refine fA rfl ?_
 refine ap (_,[]) (fun τ=> cd _ aa rfl (by exact cN [N] 0 (by simp)) rfl) ?_
 refine fT rfl ?_
 refine ap (_,[]) (fun τ=> aI _ eu) ?_
 refine gj rfl (bl ⟨rfl,?_⟩)
 refine ai (cj aa [((0,8),(50,0))] ar (hc.toI) trivial tr ae) ?_
 exact fh rfl (aj (aG (bI (.inr rfl) rfl (.tmp dT) (Le.out [((0,8),(50,0))] [] (cP rfl rfl) rfl rfl rfl trivial ob))))
theorem tS (n:Int) (a:Nat):
  Spec Tryz.prog 187 (ba [uu d v no on, .sl 0 [], .v (.int .i64 n), .v (.int .i64 (a:Int))] []) (aO (.ref (0,8) 0 1) [((0,8), .row 48 2 (inl [{ op:= .push,n:=n }]))]):=by
 refine Spec.ofN Tryz.func187 rfl Tryz.ntmps187 rfl ?_
 refine am (ai (aR (4,0) _ rfl rfl) (ai (bp _ fz) (aj (aq (am (eW rfl (ai (bn _ aa rfl) (ai (gA _ _ rfl rfl rfl) (aj (aW rfl rfl ?_))))))))))
 refine aS (am (aX rfl (ai (aL _ aa rfl (by exact eR)) ?_)))
 refine ai (kg (20,0) _ _ aa rfl ag (by (simp <;> rfl)) ah rfl rfl) ?_
 exact fh rfl (aj (aG (bI (.inr rfl) rfl (.tmp dT) (Le.out [((0,8),(20,0))] [] (cP rfl rfl) rfl rfl rfl trivial ob))))
def Gv (c y z:Cd) (a:Nat):List eU:=
 c a++[{ op:= .unl,n:=((a+(c a).length+1+(y (a+(c a).length+1)).length+1:Nat):Int) }]++y (a+(c a).length+1)++
  [{ op:= .jump,n:=((a+(c a).length+1+(y (a+(c a).length+1)).length+1+(z (a+(c a).length+1+(y (a+(c a).length+1)).length+1)).length:Nat):Int) }]++z (a+(c a).length+1+(y (a+(c a).length+1)).length+1)
abbrev MX (u:AV) (l:AV) (n:Int) (c:Cd):Prop:= ∀ a,a+(c a).length≤1000000→Spec Tryz.prog 187 (ba [u,l, .v (.int .i64 n), .v (.int .i64 (a:Int))] []) (aO (.ref (0,8) 0 (c a).length) [((0,8), .row 48 2 (inl (c a)))])
theorem lM (N:Nd) (c y z:Cd) (hc:CoS (uu d v no on) N c) (ly lz:Nat) (ys zs:List PV) (n:Int) (hy:MX (uu d v no on) (.sl ly ys) n y) (hz:MX (uu d v no on) (.sl lz zs) n z) (a:Nat) (ha:a+(Gv c y z a).length≤1000000):
  Spec Tryz.prog 124 (ba [uu d v no on,pq N, .sl ly ys, .sl lz zs, .v (.int .i64 n), .v (.int .i64 (a:Int))] []) (aO (.ref (0,8) 0 (Gv c y z a).length) [((0,8), .row 48 2 (inl (Gv c y z a)))]):=by
 have hb: ∃ b,b=Gv c y z a:=⟨_,rfl⟩
 obtain ⟨b,hb⟩:=hb
 rw [← hb] at ha ⊢
 unfold Gv at hb
 have hbl:=congrArg List.length hb
 simp only [List.length_append,List.length_cons,List.length_nil] at hbl
 have h1:=hc a ab
 generalize c a=C at h1 hb hbl
 have h2:=hy (a+C.length+1) ab
 generalize y (a+C.length+1)=Y at h2 hb hbl
 obtain ⟨f,hf⟩: ∃ f,f=a+C.length+1+Y.length+1:=⟨_,rfl⟩
 rw [← hf] at hb hbl
 have h3:=hz f ab
 generalize z f=Z at h3 hb hbl
 refine Spec.ofN Tryz.func124 rfl Tryz.ntmps124 rfl ?_
 refine am (ai (aR (6,0) _ rfl rfl) (ai (aR (7,0) _ rfl rfl) (ai (bp _ fz) (aj (am (ai (az _ aa rfl rfl rfl rfl) (ai (az _ aa rfl rfl rfl rfl) (aX rfl (ai (cj aa [((0,8),(50,0))] ar (h1.toI) trivial tr ae) ?_)))))))))
 refine fh rfl (aj (aU fun K3 hK3=> ?_))
 refine an (ai (az _ aa rfl rfl rfl rfl) (eW rfl (aX rfl (aX rfl (gG rfl (ai (dg _ aa rfl rfl) (ai (aZ _ _ rfl rfl (bE ab)) ?_)))))))
 refine ai (aZ _ _ rfl rfl (bE ab)) ?_
 refine ai (cj aa [((0,8),(51,0))] ar (h2.toI) trivial tr ae) ?_
 refine fh rfl (aJ (hK3 _ ?_))
 clear hK3;try clear K3
 refine aq ?_
 refine aM (σ':=aD 63 [(3,_),(4,_),(5,_),(6,_),(13,_),(14,_)] [((6,0),_),((50,0),_),((51,0),_)] [] []) kp ?_
 refine an (aX rfl (gG rfl (ai (dg _ aa rfl rfl) (ai (aZ _ _ rfl rfl (bE ab)) ?_))))
 refine ai (aZ _ _ rfl rfl (bE ab)) ?_
 refine gG rfl (ai (dg _ aa rfl rfl) (ai (aZ _ _ rfl rfl (bE ab)) ?_))
 refine ai (aZ (r:=(f:Int)) _ _ rfl rfl ((bE ab).trans ab)) ?_
 refine be rfl (aj (aU fun K5 hK5=> ?_))
 refine an (ai (az _ aa rfl rfl rfl rfl) (eW rfl (aX rfl (aX rfl (ai (cj aa [((0,8),(52,0))] ar (h3.toI) trivial tr ae) ?_)))))
 refine fh rfl (aJ (hK5 _ ?_))
 clear hK5;try clear K5
 refine aq ?_
 refine aM (σ':=aD 63 [(13,_),(14,_),(15,_),(16,_)] [((50,0),_),((51,0),_),((52,0),_)] [] []) kp ?_
 refine an (gG rfl (aX rfl (ai (aL _ aa rfl (by exact eR)) ?_)))
 refine ai (bh _ _ aa rfl ag (by (simp <;> rfl)) ah rfl) ?_
 refine ai (dt (48,0) _ _ aa rfl rfl (bM _).symm (.sl rfl) ab rfl (fi _ { op:= .unl,n:=f }) (show C.length+1=(C++[({ op:= .unl,n:=f }:eU)]).length by simp)) ?_
 refine fh rfl (aj (am (gG rfl (gG rfl (ai (dt (51,1) _ _ aa rfl rfl (bM _).symm (.ref rfl (nV _) (lN _)) (by simp;omega) rfl (lW _ _) (show (C++[({ op:= .unl,n:=f }:eU)]).length+Y.length=(C++[({ op:= .unl,n:=f }:eU)]++Y).length by simp;omega)) ?_)))))
 refine fh rfl (aj (am (gG rfl (aX rfl (gG rfl (ai (dg _ aa rfl rfl) (ai (aZ _ _ rfl rfl (bE ab)) ?_)))))))
 refine ai (aL _ aa rfl (by exact eR)) ?_
 refine ai (bh _ _ aa rfl ag (by (simp <;> rfl)) ah rfl) ?_
 refine ai (dt (59,0) _ _ aa rfl rfl (bM _).symm (.sl rfl) (by simp;omega) rfl (fi _ { op:= .jump,n:=((f+Z.length:Nat):Int) }) (show (C++[({ op:= .unl,n:=f }:eU)]++Y).length+1=(C++[({ op:= .unl,n:=f }:eU)]++Y++[({ op:= .jump,n:=((f+Z.length:Nat):Int) }:eU)]).length by simp;omega)) ?_
 refine fh rfl (aj (aq ?_))
 refine aM (σ':=aD 63 [(13,_),(16,_)] [((52,0),_),((59,0),_)] [] []) kp ?_
 refine an (gG rfl (gG rfl (ai (dt (62,0) _ _ aa rfl rfl (bM _).symm (.ref rfl (nV _) (lN _)) (by simp;omega) rfl ((lW _ _).trans (congrArg inl hb.symm)) (show _+Z.length=b.length by simp;omega)) ?_)))
 exact fh rfl (aj (aG (bI (.inr rfl) rfl (.tmp dT) (Le.out [((0,8),(62,0))] [] (cP rfl rfl) rfl rfl rfl trivial ob))))
end

section
variable {d v:List Tx} {no:Nat} {on:List PV}
theorem HQ (n:Nat):CoS (uu d v no on) (nd 12 n [] []) (fun _=> [{ op:= .push,n:=(n:Int) }]):=fun a ha=> by
 refine Spec.ofN Tryz.func91 rfl Tryz.ntmps91 rfl ?_
 refine am (ai (aR (3,0) _ rfl rfl) (ai (aR (4,0) _ rfl rfl) (ai (bp _ fz) (aj (aq (am (bb rfl rfl rfl (cf rfl rfl rfl (aj (ax ?_))))))))))
 refine aq (iE rfl rfl rfl rfl rfl (aS (bL rfl rfl (am (bb rfl rfl rfl (cf rfl rfl rfl (ai (aL _ aa rfl (by exact eR)) ?_)))))))
 refine ai (kg (19,0) _ _ aa rfl ag (by (simp <;> rfl)) ah rfl rfl) ?_
 exact fh rfl (aj (aG (bI (.inr rfl) rfl (.tmp dT) (Le.out [((0,8),(19,0))] [] (cP rfl rfl) rfl rfl rfl trivial ob))))
theorem wZ (n:Nat):CoS (uu d v no on) (nd 13 n [] []) (fun _=> [{ op:= .push,n:=(n:Int) }]):=fun a ha=> by
 refine Spec.ofN Tryz.func91 rfl Tryz.ntmps91 rfl ?_
 refine am (ai (aR (3,0) _ rfl rfl) (ai (aR (4,0) _ rfl rfl) (ai (bp _ fz) (aj (aq (am (bb rfl rfl rfl (cf rfl rfl rfl (aj (ax ?_))))))))))
 refine aq (cI rfl rfl rfl rfl rfl (zr rfl rfl rfl rfl rfl (am (bb rfl rfl rfl (cf rfl rfl rfl (ai (aL _ aa rfl (by exact eR)) ?_))))))
 refine ai (kg (19,0) _ _ aa rfl ag (by (simp <;> rfl)) ah rfl rfl) ?_
 exact fh rfl (aj (aG (bI (.inr rfl) rfl (.tmp dT) (Le.out [((0,8),(19,0))] [] (cP rfl rfl) rfl rfl rfl trivial ob))))
theorem GY (hn:(d++v).Nodup) (hl:(d++v).length≤1000) (i:Nat) (hi:i < (d++v).length):CoS (uu d v no on) (nd 14 0 ((d++v).getD i []) []) (fun _=> [{ op:= .var,n:=(i:Int) }]):=fun a ha=> by
 refine Spec.ofN Tryz.func91 rfl Tryz.ntmps91 rfl ?_
 refine am (ai (aR (3,0) _ rfl rfl) (ai (aR (4,0) _ rfl rfl) (ai (bp _ fz) (aj (aq (am (bb rfl rfl rfl (cf rfl rfl rfl (aj (ax ?_))))))))))
 refine aq (cI rfl rfl rfl rfl rfl (dZ rfl rfl rfl rfl rfl (iE rfl rfl rfl rfl rfl (am (ai (az _ aa rfl rfl rfl rfl) (bb rfl rfl rfl (ai (aF _ aa rfl rfl fx) (ai (aH aa al (mG d v on no hn hl i hi) rfl rfl) ?_))))))))
 refine ai (aL _ aa rfl (by exact eR)) ?_
 refine ai (kg (27,0) _ _ aa rfl ag (by (simp <;> rfl)) ah rfl rfl) ?_
 exact fh rfl (aj (aG (bI (.inr rfl) rfl (.tmp dT) (Le.out [((0,8),(27,0))] [] (cP rfl rfl) rfl rfl rfl trivial ob))))
theorem EM (k:Nat) (hk:k < 9):CoS (uu d v no on) (nd 15 0 (bltT.getD k []) []) (fun _=> [{ op:= .name,n:=(k:Int) }]):=fun a ha=> by
 refine Spec.ofN Tryz.func91 rfl Tryz.ntmps91 rfl ?_
 refine am (ai (aR (3,0) _ rfl rfl) (ai (aR (4,0) _ rfl rfl) (ai (bp _ fz) (aj (aq (am (bb rfl rfl rfl (cf rfl rfl rfl (aj (ax ?_))))))))))
 refine aq (cI rfl rfl rfl rfl rfl (dZ rfl rfl rfl rfl rfl (cI rfl rfl rfl rfl rfl (iE rfl rfl rfl rfl rfl (aq ?_)))))
 refine aM (σ':=aD 211 [(4,_)] [((4,0),_)] [] []) kp ?_
 refine bK 6 [30,31,32,33,34,35] [(35,0)] ae ae rfl (aK rfl) (rfl:_=[_,_,_,_,_,_]) (rfl:_=[_]) ?_
 refine ap (_,[]) (fun τ=> (aH aa (by repeat' (exact cU)) (pt) rfl rfl)) ?_
 refine fF rfl ?_
 refine ap (_,[]) (fun τ=> aA _ aa rfl rfl rfl) ?_
 refine fL rfl ?_
 refine ap (_,[]) (fun τ=> aF _ aa rfl rfl fx) ?_
 refine fA rfl ?_
 refine ap (_,[]) (fun τ=> (aH aa al (xJ bltT 9 rfl ab ah k hk) rfl rfl)) ?_
 refine fT rfl ?_
 refine ap (_,[]) (fun τ=> aL _ aa rfl (by exact eR)) ?_
 refine gj rfl ?_
 refine ap (_,[((35,0),_)]) (fun τ=> kg (35,0) _ _ aa rfl ag (by (simp <;> rfl)) ah rfl rfl) ?_
 refine gU rfl (bl ⟨rfl,?_⟩)
 exact fh rfl (aj (aG (bI (.inr rfl) rfl (.tmp dT) (Le.out [((0,8),(35,0))] [] (cP rfl rfl) rfl rfl rfl trivial ob))))
theorem Ae (n:Nat):CoS (uu d v no on) (nd 5 n [] []) (fun _=> [{ op:= .timer,n:=(n:Int) }]):=fun a ha=> by
 refine Spec.ofN Tryz.func91 rfl Tryz.ntmps91 rfl ?_
 refine am (ai (aR (3,0) _ rfl rfl) (ai (aR (4,0) _ rfl rfl) (ai (bp _ fz) (aj (aq (am (bb rfl rfl rfl (cf rfl rfl rfl (aj (ax ?_))))))))))
 refine aq (cI rfl rfl rfl rfl rfl (dZ rfl rfl rfl rfl rfl ?_))
 iterate 3 refine cI rfl rfl rfl rfl rfl ?_
 refine aq ?_
 refine aM (σ':=aD 211 [(2,_),(3,_),(4,_),(12,_)] [((3,0),_),((4,0),_)] [] []) kp ?_
 refine zr rfl rfl rfl rfl rfl (am (bb rfl rfl rfl (cf rfl rfl rfl (ai (aL _ aa rfl (by exact eR)) ?_))))
 refine ai (kg (56,0) _ _ aa rfl ag (by (simp <;> rfl)) ah rfl rfl) ?_
 exact fh rfl (aj (aG (bI (.inr rfl) rfl (.tmp dT) (Le.out [((0,8),(56,0))] [] (cP rfl rfl) rfl rfl rfl trivial ob))))
theorem yf (n:Nat):CoS (uu d v no on) (nd 6 n [] []) (fun _=> [{ op:= .cancel,n:=(n:Int) }]):=fun a ha=> by
 refine Spec.ofN Tryz.func91 rfl Tryz.ntmps91 rfl ?_
 refine am (ai (aR (3,0) _ rfl rfl) (ai (aR (4,0) _ rfl rfl) (ai (bp _ fz) (aj (aq (am (bb rfl rfl rfl (cf rfl rfl rfl (aj (ax ?_))))))))))
 refine aq (cI rfl rfl rfl rfl rfl (dZ rfl rfl rfl rfl rfl ?_))
 iterate 3 refine cI rfl rfl rfl rfl rfl ?_
 refine aq ?_
 refine aM (σ':=aD 211 [(2,_),(3,_),(4,_),(12,_)] [((3,0),_),((4,0),_)] [] []) kp ?_
 refine dZ rfl rfl rfl rfl rfl (iE rfl rfl rfl rfl rfl (am (bb rfl rfl rfl (cf rfl rfl rfl (ai (aL _ aa rfl (by exact eR)) ?_)))))
 refine ai (kg (62,0) _ _ aa rfl ag (by (simp <;> rfl)) ah rfl rfl) ?_
 exact fh rfl (aj (aG (bI (.inr rfl) rfl (.tmp dT) (Le.out [((0,8),(62,0))] [] (cP rfl rfl) rfl rfl rfl trivial ob))))
theorem co_sync:CoS (uu d v no on) (nd 7 0 [] []) (fun _=> [{ op:= .sync }]):=fun a ha=> by
 refine Spec.ofN Tryz.func91 rfl Tryz.ntmps91 rfl ?_
 refine am (ai (aR (3,0) _ rfl rfl) (ai (aR (4,0) _ rfl rfl) (ai (bp _ fz) (aj (aq (am (bb rfl rfl rfl (cf rfl rfl rfl (aj (ax ?_))))))))))
 refine aq (cI rfl rfl rfl rfl rfl (dZ rfl rfl rfl rfl rfl ?_))
 iterate 3 refine cI rfl rfl rfl rfl rfl ?_
 refine aq ?_
 refine aM (σ':=aD 211 [(2,_),(3,_),(4,_),(12,_)] [((3,0),_),((4,0),_)] [] []) kp ?_
 refine dZ rfl rfl rfl rfl rfl (cI rfl rfl rfl rfl rfl (iE rfl rfl rfl rfl rfl (am (ai (aL _ aa rfl (by exact eR)) ?_))))
 refine ai (kg (66,0) _ _ aa rfl ag (by (simp <;> rfl)) ah rfl rfl) ?_
 exact fh rfl (aj (aG (bI (.inr rfl) rfl (.tmp dT) (Le.out [((0,8),(66,0))] [] (cP rfl rfl) rfl rfl rfl trivial ob))))
theorem co_stop:CoS (uu d v no on) (nd 10 0 [] []) (fun _=> [{ op:= .stop }]):=fun a ha=> by
 refine Spec.ofN Tryz.func91 rfl Tryz.ntmps91 rfl ?_
 refine am (ai (aR (3,0) _ rfl rfl) (ai (aR (4,0) _ rfl rfl) (ai (bp _ fz) (aj (aq (am (bb rfl rfl rfl (cf rfl rfl rfl (aj (ax ?_))))))))))
 refine aq (cI rfl rfl rfl rfl rfl (dZ rfl rfl rfl rfl rfl ?_))
 iterate 3 refine cI rfl rfl rfl rfl rfl ?_
 refine aq ?_
 refine aM (σ':=aD 211 [(2,_),(3,_),(4,_),(12,_)] [((3,0),_),((4,0),_)] [] []) kp ?_
 refine dZ rfl rfl rfl rfl rfl ?_
 iterate 2 refine cI rfl rfl rfl rfl rfl ?_
 refine iE rfl rfl rfl rfl rfl (am (ai (aL _ aa rfl (by exact eR)) ?_))
 refine ai (kg (70,0) _ _ aa rfl ag (by (simp <;> rfl)) ah rfl rfl) ?_
 exact fh rfl (aj (aG (bI (.inr rfl) rfl (.tmp dT) (Le.out [((0,8),(70,0))] [] (cP rfl rfl) rfl rfl rfl trivial ob))))
theorem Ip {c y z:Nd} {cc cy cz:Cd} (hc:CoS (uu d v no on) c cc) (hy:CoS (uu d v no on) y cy) (hz:CoS (uu d v no on) z cz):CoS (uu d v no on) (nd 2 0 [] [c,y,z]) (Gv cc cy cz):=fun a ha=> by
 have hb:=lM (on:=on) c cc cy cz hc 1 1 (mN [y]) (mN [z]) 0 (fun a ha=> pC y cy hy 0 a ha) (fun a ha=> pC z cz hz 0 a ha) a ha
 refine Spec.ofN Tryz.func91 rfl Tryz.ntmps91 rfl ?_
 refine am (ai (aR (3,0) _ rfl rfl) (ai (aR (4,0) _ rfl rfl) (ai (bp _ fz) (aj (aq (am (bb rfl rfl rfl (cf rfl rfl rfl (aj (ax ?_))))))))))
 refine aq (cI rfl rfl rfl rfl rfl (dZ rfl rfl rfl rfl rfl ?_))
 iterate 2 refine cI rfl rfl rfl rfl rfl ?_
 refine iE rfl rfl rfl rfl rfl (aq ?_)
 refine aM (σ':=aD 211 [(2,_),(3,_),(4,_)] [((3,0),_),((4,0),_)] [] []) kp ?_
 refine bK 12 [38,39,40,41,42,43,44,45,46,47,48,49] [] ae ae rfl (aK rfl) (rfl:_=[_,_,_,_,_,_,_,_,_,_,_,_]) (rfl:_=[_,_]) ?_
 refine ap (_,[]) (fun τ=> az _ aa rfl rfl rfl rfl) ?_
 refine fF rfl ?_
 refine ap (_,[]) (fun τ=> aA _ aa rfl rfl rfl) ?_
 refine fL rfl ?_
 refine ap (_,[]) (fun τ=> aF _ aa rfl rfl eE) ?_
 refine fA rfl ?_
 refine ap (_,[]) (fun τ=> bo _ _ aa rfl rfl 0 rfl (show 0 < 3 by omega) (Nat.le_of_ble_eq_true rfl) rfl) ?_
 refine fT rfl ?_
 refine ap (_,[]) (fun τ=> cd _ aa rfl (by exact cN [c,y,z] 0 (by simp)) rfl) ?_
 refine gj rfl ?_
 refine ap (_,[]) (fun τ=> aA _ aa rfl rfl rfl) ?_
 refine gU rfl ?_
 refine ap (_,[]) (fun τ=> aF _ aa rfl rfl eE) ?_
 refine iC rfl ?_
 refine ap (_,[]) (fun τ=> jx _ _ _ aa rfl 1 2 (.lit rfl rfl) (.lit rfl rfl) ab (show 2≤3 by omega) (show _=mN [y] from rfl) rfl) ?_
 refine jM rfl ?_
 refine ap (_,[]) (fun τ=> aA _ aa rfl rfl rfl) ?_
 refine jX rfl ?_
 refine ap (_,[]) (fun τ=> aF _ aa rfl rfl eE) ?_
 refine fI rfl ?_
 refine ap (_,[]) (fun τ=> jx _ _ _ aa rfl 2 3 (.lit rfl rfl) (.lit rfl rfl) ab (show 3≤3 by omega) (show _=mN [z] from rfl) rfl) ?_
 refine gh rfl ?_
 refine ap (_,[]) (fun τ=> aI _ eu) ?_
 refine jW rfl (bl ⟨rfl,?_⟩)
 refine ai (cj aa [((0,8),(50,0))] ar (hb.toI) trivial tr ae) ?_
 exact fh rfl (aj (aG (bI (.inr rfl) rfl (.tmp dT) (Le.out [((0,8),(50,0))] [] (cP rfl rfl) rfl rfl rfl trivial ob))))
theorem Ir {c y:Nd} {cc cy:Cd} (hc:CoS (uu d v no on) c cc) (hy:CoS (uu d v no on) y cy):CoS (uu d v no on) (nd 18 0 [38,38] [c,y]) (Gv cc cy (fun _=> [{ op:= .push,n:=0 }])):=fun a ha=> by
 have hb:=lM (on:=on) c cc cy (fun _=> [{ op:= .push,n:=0 }]) hc 1 0 (mN [y]) [] 0 (fun a ha=> pC y cy hy 0 a ha) (fun a _=> tS 0 a) a ha
 refine Spec.ofN Tryz.func91 rfl Tryz.ntmps91 rfl ?_
 refine am (ai (aR (3,0) _ rfl rfl) (ai (aR (4,0) _ rfl rfl) (ai (bp _ fz) (aj (aq (am (bb rfl rfl rfl (cf rfl rfl rfl (aj (ax ?_))))))))))
 refine aq (cI rfl rfl rfl rfl rfl (dZ rfl rfl rfl rfl rfl ?_))
 iterate 3 refine cI rfl rfl rfl rfl rfl ?_
 refine aq ?_
 refine aM (σ':=aD 211 [(2,_),(3,_),(4,_),(12,_)] [((3,0),_),((4,0),_)] [] []) kp ?_
 refine dZ rfl rfl rfl rfl rfl ?_
 iterate 4 refine cI rfl rfl rfl rfl rfl ?_
 refine cr (aq (am (bb rfl rfl rfl (cf rfl rfl rfl (jY rfl rfl rfl (cL rfl (ay rfl rfl (aA _ aa rfl rfl rfl) (ay rfl rfl (aF _ aa rfl rfl fx) (ay rfl rfl (aV (r:=true) _ _ Tryz.underlying9 rfl rfl rfl) (ai (aE _ _ _ rfl bR) ?_))))))))))
 refine aj (bL rfl rfl (aq ?_))
 refine aM (σ':=aD 211 [(2,_),(3,_),(4,_)] [((3,0),_),((4,0),_)] [] []) kp ?_
 refine bK 9 [119,120,121,122,123,124,125,126,127] [] ae ae rfl (aK rfl) (rfl:_=[_,_,_,_,_,_,_,_,_]) (rfl:_=[_,_]) ?_
 refine ap (_,[]) (fun τ=> az _ aa rfl rfl rfl rfl) ?_
 refine fF rfl ?_
 refine ap (_,[]) (fun τ=> aA _ aa rfl rfl rfl) ?_
 refine fL rfl ?_
 refine ap (_,[]) (fun τ=> aF _ aa rfl rfl eE) ?_
 refine fA rfl ?_
 refine ap (_,[]) (fun τ=> bo _ _ aa rfl rfl 0 rfl (show 0 < 2 by omega) (Nat.le_of_ble_eq_true rfl) rfl) ?_
 refine fT rfl ?_
 refine ap (_,[]) (fun τ=> cd _ aa rfl (by exact cN [c,y] 0 (by simp)) rfl) ?_
 refine gj rfl ?_
 refine ap (_,[]) (fun τ=> aA _ aa rfl rfl rfl) ?_
 refine gU rfl ?_
 refine ap (_,[]) (fun τ=> aF _ aa rfl rfl eE) ?_
 refine iC rfl ?_
 refine ap (_,[]) (fun τ=> jx _ _ _ aa rfl 1 2 (.lit rfl rfl) (.lit rfl rfl) ab (show 2≤2 by omega) (show _=mN [y] from rfl) rfl) ?_
 refine jM rfl ?_
 refine ap (_,[]) (fun τ=> aI _ eu) ?_
 refine jX rfl (bl ⟨rfl,?_⟩)
 refine ai (cj aa [((0,8),(50,0))] ar (hb.toI) trivial tr ae) ?_
 exact fh rfl (aj (aG (bI (.inr rfl) rfl (.tmp dT) (Le.out [((0,8),(50,0))] [] (cP rfl rfl) rfl rfl rfl trivial ob))))
theorem JQ {c y:Nd} {cc cy:Cd} (hc:CoS (uu d v no on) c cc) (hy:CoS (uu d v no on) y cy):CoS (uu d v no on) (nd 18 0 [124,124] [c,y]) (Gv cc (fun _=> [{ op:= .push,n:=1 }]) cy):=fun a ha=> by
 have hb:=lM (on:=on) c cc (fun _=> [{ op:= .push,n:=1 }]) cy hc 0 1 [] (mN [y]) 1 (fun a _=> tS 1 a) (fun a ha=> pC y cy hy 1 a ha) a ha
 refine Spec.ofN Tryz.func91 rfl Tryz.ntmps91 rfl ?_
 refine am (ai (aR (3,0) _ rfl rfl) (ai (aR (4,0) _ rfl rfl) (ai (bp _ fz) (aj (aq (am (bb rfl rfl rfl (cf rfl rfl rfl (aj (ax ?_))))))))))
 refine aq (cI rfl rfl rfl rfl rfl (dZ rfl rfl rfl rfl rfl ?_))
 iterate 3 refine cI rfl rfl rfl rfl rfl ?_
 refine aq ?_
 refine aM (σ':=aD 211 [(2,_),(3,_),(4,_),(12,_)] [((3,0),_),((4,0),_)] [] []) kp ?_
 refine dZ rfl rfl rfl rfl rfl ?_
 iterate 4 refine cI rfl rfl rfl rfl rfl ?_
 refine cr (aq (am (bb rfl rfl rfl (cf rfl rfl rfl (jY rfl rfl rfl (cL rfl (ay rfl rfl (aA _ aa rfl rfl rfl) (ay rfl rfl (aF _ aa rfl rfl fx) (ay rfl rfl (aV (r:=false) _ _ Tryz.underlying9 rfl rfl rfl) (ai (aE _ _ _ rfl bR) ?_))))))))))
 refine aj (aW rfl rfl (aS (aq (aq ?_))))
 refine aM (σ':=aD 211 [(2,_),(3,_),(4,_)] [((3,0),_),((4,0),_)] [] []) kp ?_
 refine an (bb rfl rfl rfl (cf rfl rfl rfl (jY rfl rfl rfl (cL rfl (ay rfl rfl (aA _ aa rfl rfl rfl) (ay rfl rfl (aF _ aa rfl rfl fx) (ay rfl rfl (aV (r:=true) _ _ Tryz.underlying9 rfl rfl rfl) (ai (aE _ _ _ rfl bR) (aj (bL rfl rfl ?_))))))))))
 refine aq ?_
 refine aM (σ':=aD 211 [(2,_),(3,_),(4,_)] [((3,0),_),((4,0),_)] [] []) kp ?_
 refine bK 9 [137,138,139,140,141,142,143,144,145] [] ae ae rfl (aK rfl) (rfl:_=[_,_,_,_,_,_,_,_,_]) (rfl:_=[_,_]) ?_
 refine ap (_,[]) (fun τ=> az _ aa rfl rfl rfl rfl) ?_
 refine fF rfl ?_
 refine ap (_,[]) (fun τ=> aA _ aa rfl rfl rfl) ?_
 refine fL rfl ?_
 refine ap (_,[]) (fun τ=> aF _ aa rfl rfl eE) ?_
 refine fA rfl ?_
 refine ap (_,[]) (fun τ=> bo _ _ aa rfl rfl 0 rfl (show 0 < 2 by omega) (Nat.le_of_ble_eq_true rfl) rfl) ?_
 refine fT rfl ?_
 refine ap (_,[]) (fun τ=> cd _ aa rfl (by exact cN [c,y] 0 (by simp)) rfl) ?_
 refine gj rfl ?_
 refine ap (_,[]) (fun τ=> aA _ aa rfl rfl rfl) ?_
 refine gU rfl ?_
 refine ap (_,[]) (fun τ=> aF _ aa rfl rfl eE) ?_
 refine iC rfl ?_
 refine ap (_,[]) (fun τ=> jx _ _ _ aa rfl 1 2 (.lit rfl rfl) (.lit rfl rfl) ab (show 2≤2 by omega) (show _=mN [y] from rfl) rfl) ?_
 refine jM rfl ?_
 refine ap (_,[]) (fun τ=> aI _ eu) ?_
 refine jX rfl (bl ⟨rfl,?_⟩)
 refine ai (cj aa [((0,8),(50,0))] ar (hb.toI) trivial tr ae) ?_
 exact fh rfl (aj (aG (bI (.inr rfl) rfl (.tmp dT) (Le.out [((0,8),(50,0))] [] (cP rfl rfl) rfl rfl rfl trivial ob))))
theorem En {L:List Nd} {cs:List Cd} (hc:cs.length=L.length) (hk:mK (uu d v no on) L cs):CoS (uu d v no on) (nd 16 0 [] L) (fun a=> cV cs a++[{ op:= .draw }]):=fun a ha=> by
 have hl2:a+(cV cs a).length≤1000000:=by simp only [List.length_append] at ha;omega
 have hq:=dH (d:=d) (v:=v) (no:=no) (on:=on) L cs hc hk a hl2
 refine Spec.ofN Tryz.func91 rfl Tryz.ntmps91 rfl ?_
 refine am (ai (aR (3,0) _ rfl rfl) (ai (aR (4,0) _ rfl rfl) (ai (bp _ fz) (aj (aq (am (bb rfl rfl rfl (cf rfl rfl rfl (aj (ax ?_))))))))))
 refine aq (cI rfl rfl rfl rfl rfl (dZ rfl rfl rfl rfl rfl ?_))
 iterate 3 refine cI rfl rfl rfl rfl rfl ?_
 refine aq ?_
 refine aM (σ':=aD 211 [(2,_),(3,_),(4,_),(12,_)] [((3,0),_),((4,0),_)] [] []) kp ?_
 refine dZ rfl rfl rfl rfl rfl ?_
 iterate 4 refine cI rfl rfl rfl rfl rfl ?_
 refine cr (aq (am (bb rfl rfl rfl (cf rfl rfl rfl (gO rfl rfl rfl (cL rfl (aQ rfl rfl ah ?_)))))))
 refine aQ rfl rfl ah ?_
 refine aQ rfl rfl ah ?_
 refine ai (aE _ _ _ rfl bR) (aj (aW rfl rfl (aS (aq (aq ?_)))))
 refine aM (σ':=aD 211 [(2,_),(3,_),(4,_)] [((3,0),_),((4,0),_)] [] []) kp ?_
 refine an (bb rfl rfl rfl (cf rfl rfl rfl (gO rfl rfl rfl (cL rfl (aQ rfl rfl ah ?_)))))
 refine aQ rfl rfl ah ?_
 refine aQ rfl rfl ah ?_
 refine ai (aE _ _ _ rfl bR) (aj (aW rfl rfl (aS (am (ai (az _ aa rfl rfl rfl rfl) (bb rfl rfl rfl (eV rfl rfl rfl (aX rfl (ai (cj aa [((0,8),(50,0))] ar (hq.toI) trivial tr ae) ?_)))))))))
 refine fh rfl (aj (aq (am (bb rfl rfl rfl (cf rfl rfl rfl (aj (ax (aq ?_))))))))
 refine aM (σ':=aD 211 [(3,_),(4,_),(10,_),(153,_)] [((3,0),_),((4,0),_),((50,0),_)] [] []) kp ?_
 refine dZ rfl rfl rfl rfl rfl (iE rfl rfl rfl rfl rfl (am (gG rfl (ai (aL _ aa rfl (by exact eR)) ?_))))
 refine ai (bh _ _ aa rfl ag (by (simp <;> rfl)) ah rfl) ?_
 refine ai (dt (166,0) _ _ aa rfl rfl (bM _).symm (.sl rfl) ab rfl (fi _ { op:= .draw }) (show (cV cs a).length+1=(cV cs a++[({ op:= .draw }:eU)]).length by simp)) ?_
 exact fh rfl (aj (aG (bI (.inr rfl) rfl (.tmp dT) (Le.out [((0,8),(166,0))] [] (cP rfl rfl) rfl rfl rfl trivial ob))))
theorem IF {L:List Nd} {cs:List Cd} (hc:cs.length=L.length) (hk:mK (uu d v no on) L cs):CoS (uu d v no on) (nd 17 0 [45] L) (fun a=> cV cs a++[{ op:= .neg }]):=fun a ha=> by
 have hl2:a+(cV cs a).length≤1000000:=by simp only [List.length_append] at ha;omega
 have hq:=dH (d:=d) (v:=v) (no:=no) (on:=on) L cs hc hk a hl2
 refine Spec.ofN Tryz.func91 rfl Tryz.ntmps91 rfl ?_
 refine am (ai (aR (3,0) _ rfl rfl) (ai (aR (4,0) _ rfl rfl) (ai (bp _ fz) (aj (aq (am (bb rfl rfl rfl (cf rfl rfl rfl (aj (ax ?_))))))))))
 refine aq (cI rfl rfl rfl rfl rfl (dZ rfl rfl rfl rfl rfl ?_))
 iterate 3 refine cI rfl rfl rfl rfl rfl ?_
 refine aq ?_
 refine aM (σ':=aD 211 [(2,_),(3,_),(4,_),(12,_)] [((3,0),_),((4,0),_)] [] []) kp ?_
 refine dZ rfl rfl rfl rfl rfl ?_
 iterate 4 refine cI rfl rfl rfl rfl rfl ?_
 refine cr (aq (am (bb rfl rfl rfl (cf rfl rfl rfl (gO rfl rfl rfl (cL rfl (aQ rfl rfl ah ?_)))))))
 refine aQ rfl rfl ah ?_
 refine aQ rfl rfl ah ?_
 refine ai (aE _ _ _ rfl bR) (aj (aW rfl rfl (aS (aq (aq ?_)))))
 refine aM (σ':=aD 211 [(2,_),(3,_),(4,_)] [((3,0),_),((4,0),_)] [] []) kp ?_
 refine an (bb rfl rfl rfl (cf rfl rfl rfl (gO rfl rfl rfl (cL rfl (aQ rfl rfl ah ?_)))))
 refine aQ rfl rfl ah ?_
 refine aQ rfl rfl ah ?_
 refine ai (aE _ _ _ rfl bR) (aj (aW rfl rfl (aS (am (ai (az _ aa rfl rfl rfl rfl) (bb rfl rfl rfl (eV rfl rfl rfl (aX rfl (ai (cj aa [((0,8),(50,0))] ar (hq.toI) trivial tr ae) ?_)))))))))
 refine fh rfl (aj (aq (am (bb rfl rfl rfl (cf rfl rfl rfl (aj (ax (aq ?_))))))))
 refine aM (σ':=aD 211 [(3,_),(4,_),(10,_),(153,_)] [((3,0),_),((4,0),_),((50,0),_)] [] []) kp ?_
 refine dZ rfl rfl rfl rfl rfl (cI rfl rfl rfl rfl rfl (iE rfl rfl rfl rfl rfl (aq (am (bb rfl rfl rfl (ai (aF _ aa rfl rfl fx) (ai (aV (r:=true) _ _ Tryz.underlying9 rfl rfl rfl) (aj (bL rfl rfl (am ?_))))))))))
 refine gG rfl (ai (aL _ aa rfl (by exact eR)) ?_)
 refine ai (bh _ _ aa rfl ag (by (simp <;> rfl)) ah rfl) ?_
 refine ai (dt (175,0) _ _ aa rfl rfl (bM _).symm (.sl rfl) ab rfl (fi _ { op:= .neg }) (show (cV cs a).length+1=(cV cs a++[({ op:= .neg }:eU)]).length by simp)) ?_
 exact fh rfl (aj (aG (bI (.inr rfl) rfl (.tmp dT) (Le.out [((0,8),(175,0))] [] (cP rfl rfl) rfl rfl rfl trivial ob))))
theorem Ho {L:List Nd} {cs:List Cd} (hc:cs.length=L.length) (hk:mK (uu d v no on) L cs):CoS (uu d v no on) (nd 17 0 [33] L) (fun a=> cV cs a++[{ op:= .not }]):=fun a ha=> by
 have hl2:a+(cV cs a).length≤1000000:=by simp only [List.length_append] at ha;omega
 have hq:=dH (d:=d) (v:=v) (no:=no) (on:=on) L cs hc hk a hl2
 refine Spec.ofN Tryz.func91 rfl Tryz.ntmps91 rfl ?_
 refine am (ai (aR (3,0) _ rfl rfl) (ai (aR (4,0) _ rfl rfl) (ai (bp _ fz) (aj (aq (am (bb rfl rfl rfl (cf rfl rfl rfl (aj (ax ?_))))))))))
 refine aq (cI rfl rfl rfl rfl rfl (dZ rfl rfl rfl rfl rfl ?_))
 iterate 3 refine cI rfl rfl rfl rfl rfl ?_
 refine aq ?_
 refine aM (σ':=aD 211 [(2,_),(3,_),(4,_),(12,_)] [((3,0),_),((4,0),_)] [] []) kp ?_
 refine dZ rfl rfl rfl rfl rfl ?_
 iterate 4 refine cI rfl rfl rfl rfl rfl ?_
 refine cr (aq (am (bb rfl rfl rfl (cf rfl rfl rfl (gO rfl rfl rfl (cL rfl (aQ rfl rfl ah ?_)))))))
 refine aQ rfl rfl ah ?_
 refine aQ rfl rfl ah ?_
 refine ai (aE _ _ _ rfl bR) (aj (aW rfl rfl (aS (aq (aq ?_)))))
 refine aM (σ':=aD 211 [(2,_),(3,_),(4,_)] [((3,0),_),((4,0),_)] [] []) kp ?_
 refine an (bb rfl rfl rfl (cf rfl rfl rfl (gO rfl rfl rfl (cL rfl (aQ rfl rfl ah ?_)))))
 refine aQ rfl rfl ah ?_
 refine aQ rfl rfl ah ?_
 refine ai (aE _ _ _ rfl bR) (aj (aW rfl rfl (aS (am (ai (az _ aa rfl rfl rfl rfl) (bb rfl rfl rfl (eV rfl rfl rfl (aX rfl (ai (cj aa [((0,8),(50,0))] ar (hq.toI) trivial tr ae) ?_)))))))))
 refine fh rfl (aj (aq (am (bb rfl rfl rfl (cf rfl rfl rfl (aj (ax (aq ?_))))))))
 refine aM (σ':=aD 211 [(3,_),(4,_),(10,_),(153,_)] [((3,0),_),((4,0),_),((50,0),_)] [] []) kp ?_
 refine dZ rfl rfl rfl rfl rfl (cI rfl rfl rfl rfl rfl (iE rfl rfl rfl rfl rfl (aq (am (bb rfl rfl rfl (ai (aF _ aa rfl rfl fx) (ai (aV (r:=false) _ _ Tryz.underlying9 rfl rfl rfl) (aj (aW rfl rfl (aS ?_))))))))))
 refine am (gG rfl (ai (aL _ aa rfl (by exact eR)) ?_))
 refine ai (bh _ _ aa rfl ag (by (simp <;> rfl)) ah rfl) ?_
 refine ai (dt (179,0) _ _ aa rfl rfl (bM _).symm (.sl rfl) ab rfl (fi _ { op:= .not }) (show (cV cs a).length+1=(cV cs a++[({ op:= .not }:eU)]).length by simp)) ?_
 exact fh rfl (aj (aG (bI (.inr rfl) rfl (.tmp dT) (Le.out [((0,8),(179,0))] [] (cP rfl rfl) rfl rfl rfl trivial ob))))
theorem yV {L:List Nd} {cs:List Cd} (hc:cs.length=L.length) (hk:mK (uu d v no on) L cs) (hn:(d++v).Nodup) (hl:(d++v).length≤1000) (i:Nat) (hi:i < (d++v).length):CoS (uu d v no on) (nd 1 0 ((d++v).getD i []) L) (fun a=> cV cs a++[{ op:= .setVar,n:=(i:Int) }]):=fun a ha=> by
 have hl2:a+(cV cs a).length≤1000000:=by simp only [List.length_append] at ha;omega
 have hq:=dH (d:=d) (v:=v) (no:=no) (on:=on) L cs hc hk a hl2
 refine Spec.ofN Tryz.func91 rfl Tryz.ntmps91 rfl ?_
 refine am (ai (aR (3,0) _ rfl rfl) (ai (aR (4,0) _ rfl rfl) (ai (bp _ fz) (aj (aq (am (bb rfl rfl rfl (cf rfl rfl rfl (aj (ax ?_))))))))))
 refine aq (cI rfl rfl rfl rfl rfl (dZ rfl rfl rfl rfl rfl ?_))
 iterate 3 refine cI rfl rfl rfl rfl rfl ?_
 refine aq ?_
 refine aM (σ':=aD 211 [(2,_),(3,_),(4,_),(12,_)] [((3,0),_),((4,0),_)] [] []) kp ?_
 refine dZ rfl rfl rfl rfl rfl ?_
 iterate 4 refine cI rfl rfl rfl rfl rfl ?_
 refine cr (aq (am (bb rfl rfl rfl (cf rfl rfl rfl (gO rfl rfl rfl (cL rfl (aQ rfl rfl ah ?_)))))))
 refine aQ rfl rfl ah ?_
 refine aQ rfl rfl ah ?_
 refine ai (aE _ _ _ rfl bR) (aj (aW rfl rfl (aS (aq (aq ?_)))))
 refine aM (σ':=aD 211 [(2,_),(3,_),(4,_)] [((3,0),_),((4,0),_)] [] []) kp ?_
 refine an (bb rfl rfl rfl (cf rfl rfl rfl (gO rfl rfl rfl (cL rfl (aQ rfl rfl ah ?_)))))
 refine aQ rfl rfl ah ?_
 refine aQ rfl rfl ah ?_
 refine ai (aE _ _ _ rfl bR) (aj (aW rfl rfl (aS (am (ai (az _ aa rfl rfl rfl rfl) (bb rfl rfl rfl (eV rfl rfl rfl (aX rfl (ai (cj aa [((0,8),(50,0))] ar (hq.toI) trivial tr ae) ?_)))))))))
 refine fh rfl (aj (aq (am (bb rfl rfl rfl (cf rfl rfl rfl (aj (ax (aq ?_))))))))
 refine aM (σ':=aD 211 [(3,_),(4,_),(10,_),(153,_)] [((3,0),_),((4,0),_),((50,0),_)] [] []) kp ?_
 refine dZ rfl rfl rfl rfl rfl ?_
 iterate 2 refine cI rfl rfl rfl rfl rfl ?_
 refine iE rfl rfl rfl rfl rfl (am (gG rfl (ai (az _ aa rfl rfl rfl rfl) (bb rfl rfl rfl (ai (aF _ aa rfl rfl fx) (ai (aH aa al (mG d v on no hn hl i hi) rfl rfl) ?_))))))
 refine ai (aL _ aa rfl (by exact eR)) ?_
 refine ai (bh _ _ aa rfl ag (by (simp <;> rfl)) ah rfl) ?_
 refine ai (dt (189,0) _ _ aa rfl rfl (bM _).symm (.sl rfl) ab rfl (fi _ { op:= .setVar,n:=(i:Int) }) (show (cV cs a).length+1=(cV cs a++[({ op:= .setVar,n:=(i:Int) }:eU)]).length by simp)) ?_
 exact fh rfl (aj (aG (bI (.inr rfl) rfl (.tmp dT) (Le.out [((0,8),(189,0))] [] (cP rfl rfl) rfl rfl rfl trivial ob))))
theorem DY {L:List Nd} {cs:List Cd} (hc:cs.length=L.length) (hk:mK (uu d v no on) L cs) (n:Nat):CoS (uu d v no on) (nd 4 n [] L) (fun a=> cV cs a++[{ op:= .send,n:=(n:Int) }]):=fun a ha=> by
 have hl2:a+(cV cs a).length≤1000000:=by simp only [List.length_append] at ha;omega
 have hq:=dH (d:=d) (v:=v) (no:=no) (on:=on) L cs hc hk a hl2
 refine Spec.ofN Tryz.func91 rfl Tryz.ntmps91 rfl ?_
 refine am (ai (aR (3,0) _ rfl rfl) (ai (aR (4,0) _ rfl rfl) (ai (bp _ fz) (aj (aq (am (bb rfl rfl rfl (cf rfl rfl rfl (aj (ax ?_))))))))))
 refine aq (cI rfl rfl rfl rfl rfl (dZ rfl rfl rfl rfl rfl ?_))
 iterate 3 refine cI rfl rfl rfl rfl rfl ?_
 refine aq ?_
 refine aM (σ':=aD 211 [(2,_),(3,_),(4,_),(12,_)] [((3,0),_),((4,0),_)] [] []) kp ?_
 refine dZ rfl rfl rfl rfl rfl ?_
 iterate 4 refine cI rfl rfl rfl rfl rfl ?_
 refine cr (aq (am (bb rfl rfl rfl (cf rfl rfl rfl (gO rfl rfl rfl (cL rfl (aQ rfl rfl ah ?_)))))))
 refine aQ rfl rfl ah ?_
 refine aQ rfl rfl ah ?_
 refine ai (aE _ _ _ rfl bR) (aj (aW rfl rfl (aS (aq (aq ?_)))))
 refine aM (σ':=aD 211 [(2,_),(3,_),(4,_)] [((3,0),_),((4,0),_)] [] []) kp ?_
 refine an (bb rfl rfl rfl (cf rfl rfl rfl (gO rfl rfl rfl (cL rfl (aQ rfl rfl ah ?_)))))
 refine aQ rfl rfl ah ?_
 refine aQ rfl rfl ah ?_
 refine ai (aE _ _ _ rfl bR) (aj (aW rfl rfl (aS (am (ai (az _ aa rfl rfl rfl rfl) (bb rfl rfl rfl (eV rfl rfl rfl (aX rfl (ai (cj aa [((0,8),(50,0))] ar (hq.toI) trivial tr ae) ?_)))))))))
 refine fh rfl (aj (aq (am (bb rfl rfl rfl (cf rfl rfl rfl (aj (ax (aq ?_))))))))
 refine aM (σ':=aD 211 [(3,_),(4,_),(10,_),(153,_)] [((3,0),_),((4,0),_),((50,0),_)] [] []) kp ?_
 refine dZ rfl rfl rfl rfl rfl ?_
 iterate 3 refine cI rfl rfl rfl rfl rfl ?_
 refine iE rfl rfl rfl rfl rfl (am (gG rfl (bb rfl rfl rfl (cf rfl rfl rfl (ai (aL _ aa rfl (by exact eR)) ?_)))))
 refine ai (bh _ _ aa rfl ag (by (simp <;> rfl)) ah rfl) ?_
 refine ai (dt (197,0) _ _ aa rfl rfl (bM _).symm (.sl rfl) ab rfl (fi _ { op:= .send,n:=(n:Int) }) (show (cV cs a).length+1=(cV cs a++[({ op:= .send,n:=(n:Int) }:eU)]).length by simp)) ?_
 exact fh rfl (aj (aG (bI (.inr rfl) rfl (.tmp dT) (Le.out [((0,8),(197,0))] [] (cP rfl rfl) rfl rfl rfl trivial ob))))
theorem BX {L:List Nd} {cs:List Cd} (hc:cs.length=L.length) (hk:mK (uu d v no on) L cs):CoS (uu d v no on) (nd 8 0 [] L) (fun a=> cV cs a++[{ op:= .reply }]):=fun a ha=> by
 have hl2:a+(cV cs a).length≤1000000:=by simp only [List.length_append] at ha;omega
 have hq:=dH (d:=d) (v:=v) (no:=no) (on:=on) L cs hc hk a hl2
 refine Spec.ofN Tryz.func91 rfl Tryz.ntmps91 rfl ?_
 refine am (ai (aR (3,0) _ rfl rfl) (ai (aR (4,0) _ rfl rfl) (ai (bp _ fz) (aj (aq (am (bb rfl rfl rfl (cf rfl rfl rfl (aj (ax ?_))))))))))
 refine aq (cI rfl rfl rfl rfl rfl (dZ rfl rfl rfl rfl rfl ?_))
 iterate 3 refine cI rfl rfl rfl rfl rfl ?_
 refine aq ?_
 refine aM (σ':=aD 211 [(2,_),(3,_),(4,_),(12,_)] [((3,0),_),((4,0),_)] [] []) kp ?_
 refine dZ rfl rfl rfl rfl rfl ?_
 iterate 4 refine cI rfl rfl rfl rfl rfl ?_
 refine cr (aq (am (bb rfl rfl rfl (cf rfl rfl rfl (gO rfl rfl rfl (cL rfl (aQ rfl rfl ah ?_)))))))
 refine aQ rfl rfl ah ?_
 refine aQ rfl rfl ah ?_
 refine ai (aE _ _ _ rfl bR) (aj (aW rfl rfl (aS (aq (aq ?_)))))
 refine aM (σ':=aD 211 [(2,_),(3,_),(4,_)] [((3,0),_),((4,0),_)] [] []) kp ?_
 refine an (bb rfl rfl rfl (cf rfl rfl rfl (gO rfl rfl rfl (cL rfl (aQ rfl rfl ah ?_)))))
 refine aQ rfl rfl ah ?_
 refine aQ rfl rfl ah ?_
 refine ai (aE _ _ _ rfl bR) (aj (aW rfl rfl (aS (am (ai (az _ aa rfl rfl rfl rfl) (bb rfl rfl rfl (eV rfl rfl rfl (aX rfl (ai (cj aa [((0,8),(50,0))] ar (hq.toI) trivial tr ae) ?_)))))))))
 refine fh rfl (aj (aq (am (bb rfl rfl rfl (cf rfl rfl rfl (aj (ax (aq ?_))))))))
 refine aM (σ':=aD 211 [(3,_),(4,_),(10,_),(153,_)] [((3,0),_),((4,0),_),((50,0),_)] [] []) kp ?_
 refine dZ rfl rfl rfl rfl rfl ?_
 iterate 4 refine cI rfl rfl rfl rfl rfl ?_
 refine iE rfl rfl rfl rfl rfl (am (gG rfl (ai (aL _ aa rfl (by exact eR)) ?_)))
 refine ai (bh _ _ aa rfl ag (by (simp <;> rfl)) ah rfl) ?_
 refine ai (dt (203,0) _ _ aa rfl rfl (bM _).symm (.sl rfl) ab rfl (fi _ { op:= .reply }) (show (cV cs a).length+1=(cV cs a++[({ op:= .reply }:eU)]).length by simp)) ?_
 exact fh rfl (aj (aG (bI (.inr rfl) rfl (.tmp dT) (Le.out [((0,8),(203,0))] [] (cP rfl rfl) rfl rfl rfl trivial ob))))
theorem Fa {L:List Nd} {cs:List Cd} (hc:cs.length=L.length) (hk:mK (uu d v no on) L cs):CoS (uu d v no on) (nd 9 0 [] L) (fun a=> cV cs a++[{ op:= .fail }]):=fun a ha=> by
 have hl2:a+(cV cs a).length≤1000000:=by simp only [List.length_append] at ha;omega
 have hq:=dH (d:=d) (v:=v) (no:=no) (on:=on) L cs hc hk a hl2
 refine Spec.ofN Tryz.func91 rfl Tryz.ntmps91 rfl ?_
 refine am (ai (aR (3,0) _ rfl rfl) (ai (aR (4,0) _ rfl rfl) (ai (bp _ fz) (aj (aq (am (bb rfl rfl rfl (cf rfl rfl rfl (aj (ax ?_))))))))))
 refine aq (cI rfl rfl rfl rfl rfl (dZ rfl rfl rfl rfl rfl ?_))
 iterate 3 refine cI rfl rfl rfl rfl rfl ?_
 refine aq ?_
 refine aM (σ':=aD 211 [(2,_),(3,_),(4,_),(12,_)] [((3,0),_),((4,0),_)] [] []) kp ?_
 refine dZ rfl rfl rfl rfl rfl ?_
 iterate 4 refine cI rfl rfl rfl rfl rfl ?_
 refine cr (aq (am (bb rfl rfl rfl (cf rfl rfl rfl (gO rfl rfl rfl (cL rfl (aQ rfl rfl ah ?_)))))))
 refine aQ rfl rfl ah ?_
 refine aQ rfl rfl ah ?_
 refine ai (aE _ _ _ rfl bR) (aj (aW rfl rfl (aS (aq (aq ?_)))))
 refine aM (σ':=aD 211 [(2,_),(3,_),(4,_)] [((3,0),_),((4,0),_)] [] []) kp ?_
 refine an (bb rfl rfl rfl (cf rfl rfl rfl (gO rfl rfl rfl (cL rfl (aQ rfl rfl ah ?_)))))
 refine aQ rfl rfl ah ?_
 refine aQ rfl rfl ah ?_
 refine ai (aE _ _ _ rfl bR) (aj (aW rfl rfl (aS (am (ai (az _ aa rfl rfl rfl rfl) (bb rfl rfl rfl (eV rfl rfl rfl (aX rfl (ai (cj aa [((0,8),(50,0))] ar (hq.toI) trivial tr ae) ?_)))))))))
 refine fh rfl (aj (aq (am (bb rfl rfl rfl (cf rfl rfl rfl (aj (ax (aq ?_))))))))
 refine aM (σ':=aD 211 [(3,_),(4,_),(10,_),(153,_)] [((3,0),_),((4,0),_),((50,0),_)] [] []) kp ?_
 refine dZ rfl rfl rfl rfl rfl ?_
 iterate 5 refine cI rfl rfl rfl rfl rfl ?_
 refine iE rfl rfl rfl rfl rfl (am (gG rfl (ai (aL _ aa rfl (by exact eR)) ?_)))
 refine ai (bh _ _ aa rfl ag (by (simp <;> rfl)) ah rfl) ?_
 refine ai (dt (209,0) _ _ aa rfl rfl (bM _).symm (.sl rfl) ab rfl (fi _ { op:= .fail }) (show (cV cs a).length+1=(cV cs a++[({ op:= .fail }:eU)]).length by simp)) ?_
 exact fh rfl (aj (aG (bI (.inr rfl) rfl (.tmp dT) (Le.out [((0,8),(209,0))] [] (cP rfl rfl) rfl rfl rfl trivial ob))))
theorem AX {L:List Nd} {cs:List Cd} (hc:cs.length=L.length) (hk:mK (uu d v no on) L cs):CoS (uu d v no on) (nd 11 0 [] L) (fun a=> cV cs a):=fun a ha=> by
 have hl2:a+(cV cs a).length≤1000000:=ha
 have hq:=dH (d:=d) (v:=v) (no:=no) (on:=on) L cs hc hk a hl2
 refine Spec.ofN Tryz.func91 rfl Tryz.ntmps91 rfl ?_
 refine am (ai (aR (3,0) _ rfl rfl) (ai (aR (4,0) _ rfl rfl) (ai (bp _ fz) (aj (aq (am (bb rfl rfl rfl (cf rfl rfl rfl (aj (ax ?_))))))))))
 refine aq (cI rfl rfl rfl rfl rfl (dZ rfl rfl rfl rfl rfl ?_))
 iterate 3 refine cI rfl rfl rfl rfl rfl ?_
 refine aq ?_
 refine aM (σ':=aD 211 [(2,_),(3,_),(4,_),(12,_)] [((3,0),_),((4,0),_)] [] []) kp ?_
 refine dZ rfl rfl rfl rfl rfl ?_
 iterate 4 refine cI rfl rfl rfl rfl rfl ?_
 refine cr (aq (am (bb rfl rfl rfl (cf rfl rfl rfl (gO rfl rfl rfl (cL rfl (aQ rfl rfl ah ?_)))))))
 refine aQ rfl rfl ah ?_
 refine aQ rfl rfl ah ?_
 refine ai (aE _ _ _ rfl bR) (aj (aW rfl rfl (aS (aq (aq ?_)))))
 refine aM (σ':=aD 211 [(2,_),(3,_),(4,_)] [((3,0),_),((4,0),_)] [] []) kp ?_
 refine an (bb rfl rfl rfl (cf rfl rfl rfl (gO rfl rfl rfl (cL rfl (aQ rfl rfl ah ?_)))))
 refine aQ rfl rfl ah ?_
 refine aQ rfl rfl ah ?_
 refine ai (aE _ _ _ rfl bR) (aj (aW rfl rfl (aS (am (ai (az _ aa rfl rfl rfl rfl) (bb rfl rfl rfl (eV rfl rfl rfl (aX rfl (ai (cj aa [((0,8),(50,0))] ar (hq.toI) trivial tr ae) ?_)))))))))
 refine fh rfl (aj (aq (am (bb rfl rfl rfl (cf rfl rfl rfl (aj (ax (aq ?_))))))))
 refine aM (σ':=aD 211 [(3,_),(4,_),(10,_),(153,_)] [((3,0),_),((4,0),_),((50,0),_)] [] []) kp ?_
 refine dZ rfl rfl rfl rfl rfl ?_
 iterate 6 refine cI rfl rfl rfl rfl rfl ?_
 exact cr (am (gG rfl (fh rfl (aj (aG (bI (.inr rfl) rfl (.tmp dT) (Le.out [((0,8),(50,0))] [] (cP rfl rfl) rfl rfl rfl trivial ob)))))))
theorem HW {L:List Nd} {cs:List Cd} (hc:cs.length=L.length) (hk:mK (uu d v no on) L cs) (o:Bo):CoS (uu d v no on) (nd 18 0 o.txt L) (fun a=> cV cs a++o.code):=fun a ha=> by
 have hol:o.code.length≤2:=by cases o <;> decide
 have hs1:o.txt≠[38,38]:=by cases o <;> decide
 have hs2:o.txt≠[124,124]:=by cases o <;> decide
 have hl2:a+(cV cs a).length≤1000000:=by simp only [List.length_append] at ha;omega
 have hq:=dH (d:=d) (v:=v) (no:=no) (on:=on) L cs hc hk a hl2
 refine Spec.ofN Tryz.func91 rfl Tryz.ntmps91 rfl ?_
 refine am (ai (aR (3,0) _ rfl rfl) (ai (aR (4,0) _ rfl rfl) (ai (bp _ fz) (aj (aq (am (bb rfl rfl rfl (cf rfl rfl rfl (aj (ax ?_))))))))))
 refine aq (cI rfl rfl rfl rfl rfl (dZ rfl rfl rfl rfl rfl ?_))
 iterate 3 refine cI rfl rfl rfl rfl rfl ?_
 refine aq ?_
 refine aM (σ':=aD 211 [(2,_),(3,_),(4,_),(12,_)] [((3,0),_),((4,0),_)] [] []) kp ?_
 refine dZ rfl rfl rfl rfl rfl ?_
 iterate 4 refine cI rfl rfl rfl rfl rfl ?_
 refine cr (aq (am (bb rfl rfl rfl (cf rfl rfl rfl (jY rfl rfl rfl (cL rfl (ay rfl rfl (aA _ aa rfl rfl rfl) (ay rfl rfl (aF _ aa rfl rfl fx) (ay rfl rfl (aV (r:=false) _ _ Tryz.underlying9 rfl rfl (beq_eq_false_iff_ne.2 hs1)) ?_)))))))))
 refine ai (aE _ _ _ rfl bR) (aj (aW rfl rfl (aS (aq (aq ?_)))))
 refine aM (σ':=aD 211 [(2,_),(3,_),(4,_)] [((3,0),_),((4,0),_)] [] []) kp ?_
 refine an (bb rfl rfl rfl (cf rfl rfl rfl (jY rfl rfl rfl (cL rfl (ay rfl rfl (aA _ aa rfl rfl rfl) (ay rfl rfl (aF _ aa rfl rfl fx) (ay rfl rfl (aV (r:=false) _ _ Tryz.underlying9 rfl rfl (beq_eq_false_iff_ne.2 hs2)) ?_)))))))
 refine ai (aE _ _ _ rfl bR) (aj (aW rfl rfl (aS (am (ai (az _ aa rfl rfl rfl rfl) (bb rfl rfl rfl (eV rfl rfl rfl (aX rfl (ai (cj aa [((0,8),(50,0))] ar (hq.toI) trivial tr ae) ?_)))))))))
 refine fh rfl (aj (aq (am (bb rfl rfl rfl (cf rfl rfl rfl (aj (ax (aq ?_))))))))
 refine aM (σ':=aD 211 [(3,_),(4,_),(10,_),(153,_)] [((3,0),_),((4,0),_),((50,0),_)] [] []) kp ?_
 refine zr rfl rfl rfl rfl rfl (am (gG rfl (bb rfl rfl rfl (ai (aF _ aa rfl rfl fx) (ai (aH aa al (yk o) rfl rfl) ?_)))))
 refine ai (dt (160,0) _ _ aa rfl rfl (bM _).symm (.sl (bM _)) ab rfl (lW _ _) (show (cV cs a).length+o.code.length=(cV cs a++o.code).length by simp)) ?_
 exact fh rfl (aj (aG (bI (.inr rfl) rfl (.tmp dT) (Le.out [((0,8),(160,0))] [] (cP rfl rfl) rfl rfl rfl trivial ob))))
def Mj (c y:Cd) (a:Nat):List eU:=c a++[{ op:= .unl,n:=((a+(c a).length+(y (a+(c a).length+1)).length+2:Nat):Int) }]++y (a+(c a).length+1)++[{ op:= .jump,n:=(a:Int) }]
theorem Bm {c y:Nd} {cc cy:Cd} (hc:CoS (uu d v no on) c cc) (hy:CoS (uu d v no on) y cy):CoS (uu d v no on) (nd 3 0 [] [c,y]) (Mj cc cy):=fun a ha=> by
 obtain ⟨b,hb⟩: ∃ b,b=Mj cc cy a:=⟨_,rfl⟩
 rw [← hb] at ha ⊢
 unfold Mj at hb
 have hbl:=congrArg List.length hb
 simp only [List.length_append,List.length_cons,List.length_nil] at hbl
 have h1:=hc a ab
 generalize cc a=C at h1 hb hbl
 have h2:=hy (a+C.length+1) ab
 generalize cy (a+C.length+1)=Y at h2 hb hbl
 refine Spec.ofN Tryz.func91 rfl Tryz.ntmps91 rfl ?_
 refine am (ai (aR (3,0) _ rfl rfl) (ai (aR (4,0) _ rfl rfl) (ai (bp _ fz) (aj (aq (am (bb rfl rfl rfl (cf rfl rfl rfl (aj (ax ?_))))))))))
 refine aq (cI rfl rfl rfl rfl rfl (dZ rfl rfl rfl rfl rfl ?_))
 iterate 3 refine cI rfl rfl rfl rfl rfl ?_
 refine aq ?_
 refine aM (σ':=aD 211 [(2,_),(3,_),(4,_),(12,_)] [((3,0),_),((4,0),_)] [] []) kp ?_
 refine dZ rfl rfl rfl rfl rfl ?_
 iterate 3 refine cI rfl rfl rfl rfl rfl ?_
 refine iE rfl rfl rfl rfl rfl (aq ?_)
 refine aM (σ':=aD 211 [(2,_),(3,_),(4,_)] [((3,0),_),((4,0),_)] [] []) kp ?_
 refine bK 6 [73,74,75,76,77,78] [] ae ae rfl (aK rfl) (rfl:_=[_,_,_,_,_,_]) (rfl:_=[_,_]) ?_
 refine ap (_,[]) (fun τ=> az _ aa rfl rfl rfl rfl) ?_
 refine fF rfl ?_
 refine ap (_,[]) (fun τ=> aA _ aa rfl rfl rfl) ?_
 refine fL rfl ?_
 refine ap (_,[]) (fun τ=> aF _ aa rfl rfl eE) ?_
 refine fA rfl ?_
 refine ap (_,[]) (fun τ=> bo _ _ aa rfl rfl 0 rfl (show 0 < 2 by omega) (Nat.le_of_ble_eq_true rfl) rfl) ?_
 refine fT rfl ?_
 refine ap (_,[]) (fun τ=> cd _ aa rfl (by exact cN [c,y] 0 (by simp)) rfl) ?_
 refine gj rfl ?_
 refine ap (_,[]) (fun τ=> aI _ eu) ?_
 refine gU rfl (bl ⟨rfl,?_⟩)
 refine ai (cj aa [((0,8),(50,0))] ar (h1.toI) trivial tr ae) ?_
 refine fh rfl (aj (aU fun K15 hK15=> ?_))
 refine aM (σ':=aD 211 [(2,_),(3,_),(4,_),(7,_)] [((3,0),_),((4,0),_),((50,0),_)] [] []) kp ?_
 refine bK 10 [80,81,82,83,84,85,86,87,88,89] [] ae ae rfl (aK rfl) (rfl:_=[_,_,_,_,_,_,_,_,_,_]) (rfl:_=[_,_]) ?_
 refine ap (_,[]) (fun τ=> az _ aa rfl rfl rfl rfl) ?_
 refine fF rfl ?_
 refine ap (_,[]) (fun τ=> aA _ aa rfl rfl rfl) ?_
 refine fL rfl ?_
 refine ap (_,[]) (fun τ=> aF _ aa rfl rfl eE) ?_
 refine fA rfl ?_
 refine ap (_,[]) (fun τ=> bo _ _ aa rfl rfl 1 rfl (show 1 < 2 by omega) (Nat.le_of_ble_eq_true rfl) rfl) ?_
 refine fT rfl ?_
 refine ap (_,[]) (fun τ=> cd _ aa rfl (by exact cN [c,y] 1 (by simp)) rfl) ?_
 refine gj rfl ?_
 refine ap (_,[]) (fun τ=> aI _ eu) ?_
 refine gU rfl ?_
 refine ap (_,[]) (fun τ=> aI _ dT) ?_
 refine iC rfl ?_
 refine ap (_,[]) (fun τ=> dg _ aa rfl rfl) ?_
 refine jM rfl ?_
 refine ap (_,[]) (fun τ=> aZ _ _ rfl rfl (bE ab)) ?_
 refine jX rfl ?_
 refine ap (_,[]) (fun τ=> aZ _ _ rfl rfl (bE ab)) ?_
 refine fI rfl (bl ⟨rfl,?_⟩)
 refine ai (cj aa [((0,8),(51,0))] ar (h2.toI) trivial tr ae) ?_
 refine fh rfl (aJ (hK15 _ ?_))
 clear hK15;try clear K15
 refine am (gG rfl (aX rfl (gG rfl (ai (dg _ aa rfl rfl) (ai (aZ _ _ rfl rfl (bE ab)) ?_)))))
 refine gG rfl (ai (dg _ aa rfl rfl) (ai (aZ _ _ rfl rfl (bE ab)) ?_))
 refine ai (aZ (r:=((a+C.length+Y.length+2:Nat):Int)) _ _ rfl rfl ((bE ab).trans ab)) ?_
 refine ai (aL _ aa rfl (by exact eR)) ?_
 refine ai (bh _ _ aa rfl ag (by (simp <;> rfl)) ah rfl) ?_
 refine ai (dt (102,0) _ _ aa rfl rfl (bM _).symm (.sl rfl) ab rfl (fi _ { op:= .unl,n:=((a+C.length+Y.length+2:Nat):Int) }) (show C.length+1=(C++[({ op:= .unl,n:=((a+C.length+Y.length+2:Nat):Int) }:eU)]).length by simp)) ?_
 refine fh rfl (aj (aq ?_))
 refine aM (σ':=aD 211 [(2,_),(8,_),(9,_)] [((51,0),_),((102,0),_)] [] []) kp ?_
 refine an (gG rfl (gG rfl (ai (dt (105,0) _ _ aa rfl rfl (bM _).symm (.ref rfl (nV _) (lN _)) (by simp;omega) rfl (lW _ _) (show (C++[({ op:= .unl,n:=((a+C.length+Y.length+2:Nat):Int) }:eU)]).length+Y.length=(C++[({ op:= .unl,n:=((a+C.length+Y.length+2:Nat):Int) }:eU)]++Y).length by simp;omega)) ?_)))
 refine fh rfl (aj (am (gG rfl (aX rfl (ai (aL _ aa rfl (by exact eR)) ?_)))))
 refine ai (bh _ _ aa rfl ag (by (simp <;> rfl)) ah rfl) ?_
 refine ai (dt (110,0) _ _ aa rfl rfl (bM _).symm (.sl rfl) (by simp;omega) rfl ((fi _ { op:= .jump,n:=(a:Int) }).trans (congrArg inl hb.symm)) (show _+1=b.length by simp;omega)) ?_
 exact fh rfl (aj (aG (bI (.inr rfl) rfl (.tmp dT) (Le.out [((0,8),(110,0))] [] (cP rfl rfl) rfl rfl rfl trivial ob))))
end

def jG:Ex→Bool
 | .int n=> decide (0≤n) | .bool _=> true | .var _=> true | .name _=> true
 | .draw e=> jG e | .neg e=> jG e | .not e=> jG e
 | .bin _ a b=> jG a && jG b
 | .and a b=> jG a && jG b
 | .or a b=> jG a && jG b
mutual
def yc:Sm→Bool
 | .assign _ e=> jG e
 | .send t _ a b=> jG t && jG a && jG b
 | .timer _=> true | .cancel _=> true | .sync=> true | .stop=> true
 | .reply a b=> jG a && jG b
 | .fail e=> jG e
 | .loop c b=> jG c && sH b
 | .ite c a b=> jG c && sH a && sH b
def sH:Bk→Bool
 | .nil=> true
 | .cons s b=> yc s && sH b
end
section
variable {d v:List Tx} {no:Nat} {on:List PV}
abbrev KN (d v:List Tx) (no:Nat) (on:List PV) (N:Nd) (c:Cd):Prop:=CoS (uu d v no on) N c
theorem CoS.cong {u:AV} {N:Nd} {c c':Cd} (h:CoS u N c) (e: ∀ a,c a=c' a):CoS u N c':=by
 rw [show c'=c from funext fun a=> (e a).symm];exact h
theorem em (hn:(d++v).Nodup) (hl:(d++v).length≤1000): ∀ e:Ex,gZ (d++v).length e→jG e=true→KN d v no on (eM (d++v) e) (bF e)
 | .int n,_,hp=> by
  have hp:=of_decide_eq_true hp
  have:=HQ (d:=d) (v:=v) (no:=no) (on:=on) n.toNat
  exact this.cong fun a=> by rw [Int.toNat_of_nonneg hp];rfl
 | .bool b,_,_=> by
  cases b
  ·exact wZ 0
  exact wZ 1
 | .var i,h,_=> GY hn hl i h
 | .name k,h,_=> EM k h
 | .draw e,h,hp=> (En rfl (yU (em hn hl e h hp) DZ)).cong fun a=> by simp [bF,cV]
 | .neg e,h,hp=> (IF rfl (yU (em hn hl e h hp) DZ)).cong fun a=> by simp [bF,cV]
 | .not e,h,hp=> (Ho rfl (yU (em hn hl e h hp) DZ)).cong fun a=> by simp [bF,cV]
 | .bin o x y,h,hp=> by
  simp only [jG,Bool.and_eq_true] at hp
  exact (HW rfl (yU (em hn hl x h.1 hp.1) (yU (em hn hl y h.2 hp.2) DZ)) o).cong fun a=> by simp [bF,cV]
 | .and x y,h,hp=> by
  simp only [jG,Bool.and_eq_true] at hp
  exact (Ir (em hn hl x h.1 hp.1) (em hn hl y h.2 hp.2)).cong fun a=> rfl
 | .or x y,h,hp=> by
  simp only [jG,Bool.and_eq_true] at hp
  exact (JQ (em hn hl x h.1 hp.1) (em hn hl y h.2 hp.2)).cong fun a=> rfl
def Fi:Bk→List Cd
 | .nil=> []
 | .cons s b=> du s::Fi b
theorem wN (nm:List Tx): ∀ b:Bk,(Fi b).length=(jb nm b).length
 | .nil=> by simp [Fi,jb]
 | .cons s b=> by simp [Fi,jb,wN nm b]
theorem xz: ∀ (b:Bk) (a:Nat),cV (Fi b) a=dR b a
 | .nil,a=> by simp [Fi,cV,dR]
 | .cons s b,a=> by simp only [Fi,cV,dR,xz b]
theorem nK {b:Bk} (h:mK (uu d v no on) (jb (d++v) b) (Fi b)):KN d v no on (iX (d++v) b) (dR b):=(AX (wN _ b) h).cong (xz b)
mutual
theorem DQ (hn:(d++v).Nodup) (hl:(d++v).length≤1000): ∀ s:Sm,gH (d++v).length s→yc s=true→KN d v no on (Fv (d++v) s) (du s)
 | .assign i e,h,hp=> by rw [gH] at h;exact (yV rfl (yU (em hn hl e h.2 hp) DZ) hn hl i h.1).cong fun a=> by simp [du,cV]
 | .send t k x y,h,hp=> by
  rw [gH] at h
  simp only [yc,Bool.and_eq_true] at hp
  exact (DY rfl (yU (em hn hl t h.2.1 hp.1.1) (yU (em hn hl x h.2.2.1 hp.1.2) (yU (em hn hl y h.2.2.2 hp.2) DZ))) k).cong fun a=> by simp [du,cV,Nat.add_assoc]
 | .timer k,_,_=> (Ae k).cong fun a=> by rw [du]
 | .cancel k,_,_=> (yf k).cong fun a=> by rw [du]
 | .sync,_,_=> co_sync.cong fun a=> by rw [du]
 | .stop,_,_=> co_stop.cong fun a=> by rw [du]
 | .reply x y,h,hp=> by
  rw [gH] at h
  simp only [yc,Bool.and_eq_true] at hp
  exact (BX rfl (yU (em hn hl x h.1 hp.1) (yU (em hn hl y h.2 hp.2) DZ))).cong fun a=> by simp [du,cV]
 | .fail e,h,hp=> by rw [gH] at h;exact (Fa rfl (yU (em hn hl e h hp) DZ)).cong fun a=> by simp [du,cV]
 | .loop c b,h,hp=> by
  rw [gH] at h
  simp only [yc,Bool.and_eq_true] at hp
  exact (Bm (em hn hl c h.1 hp.1) (nK (nj hn hl b h.2 hp.2))).cong fun a=> by rw [du];rfl
 | .ite c x y,h,hp=> by
  rw [gH] at h
  simp only [yc,Bool.and_eq_true] at hp
  exact (Ip (em hn hl c h.1 hp.1.1) (nK (nj hn hl x h.2.1 hp.1.2)) (nK (nj hn hl y h.2.2 hp.2))).cong fun a=> by rw [du];rfl
theorem nj (hn:(d++v).Nodup) (hl:(d++v).length≤1000): ∀ b:Bk,lg (d++v).length b→sH b=true→mK (uu d v no on) (jb (d++v) b) (Fi b)
 | .nil,_,_=> DZ
 | .cons s b,h,hp=> by
  rw [lg] at h
  simp only [sH,Bool.and_eq_true] at hp
  exact yU (DQ hn hl s h.1 hp.1) (nj hn hl b h.2 hp.2)
end
theorem Fb (hn:(d++v).Nodup) (hl:(d++v).length≤1000) (b:Bk) (h:lg (d++v).length b) (hp:sH b=true):KN d v no on (iX (d++v) b) (dR b):=nK (nj hn hl b h hp)
end
end Go.Proofs.YtmjnackchaahbaaGreat
