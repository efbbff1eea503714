/- part 12 -/
import Derived.Test.YtmjnackchaahbaaGreatNsZ11
set_option linter.unusedSimpArgs false
set_option linter.unusedVariables false
namespace Go.Proofs.YtmjnackchaahbaaGreat
open Go.RowKit

theorem nX (C:List eS):((inl C).drop 0).take (C.length*2)=inl C:=List.take_of_length_le (by rw [List.drop_zero,bP];exact Nat.le_refl _)
theorem lD (C:List eS):0+C.length*2≤(inl C).length:=by rw [bP,Nat.zero_add];exact Nat.le_refl _
theorem yB (l:List Tx) (n:Nat) (hn:l.length=n) (h1:n≤1000) (hd:l.Nodup) (i:Nat) (hi:i < n):Spec Tryz.prog 122 (ba [.sl n (fm l), .v (bt (l.getD i []))] []) (aP (.v (.int .i64 (i:Int))) []):=by
 refine Spec.ofN Tryz.func122 rfl Tryz.ntmps122 rfl ?_
 refine am (be rfl (aj (aq (am (be rfl (aj (ay ?_)))))))
 refine br (α:=Nat) (fun k=> k≤n∧k≤i) 19 [(0,_),(1,_)] [] (fun k=> [(5, .v (.int .i64 (k:Int)))]) (fun k=> []) [] [] (fun k=> n - k) 0 ?_ (by
  refine Le.mkJ [] [] rfl ?_ ?_ trivial trivial ?_
  ·exact ⟨(iS rfl),(iV rfl),(cp ag),trivial⟩
  ·exact trivial
  kernel_rfl) ?_
 ·exact ⟨Nat.zero_le _,Nat.zero_le _⟩
 intro k hk
 obtain ⟨hk,hki⟩:=hk
 refine aU fun K4 hK4=> ?_
 refine am (aX rfl (eV rfl (ai (bn _ aa rfl) (ai (bm _ _ rfl rfl rfl) (aj (aR rfl (fun hc9=> ?_) (fun hc9=> ?_)))))))
 ·skip
  refine bs (hK4 _ ?_)
  clear hK4;try clear K4
  refine aq (ay (am (eV rfl (aX rfl (ai (bp _ _ aa rfl rfl _ rfl ab (by (simp only [aO,bi,bl,bw,bv,bI,bz,bP];omega)) (by exact Nat.mul_one _)) ?_)))))
  refine ai (bO _ aa rfl (by exact jI _ _ ab) rfl) ?_
  refine ei rfl (ai (aV _ _ Tryz.underlying9 rfl rfl rfl) (aj (aR rfl (fun hc17=> ?_) (fun hc17=> ?_))))
  ·skip
   have he:k=i:=mG hd ab ab hc17
   refine am (aX rfl (be rfl (aj (aG (sc rfl rfl ?_)))))
   rw [he]
  have he:k≠i:=fun e=> hc17 (by rw [e])
  refine cr (an (aX rfl (ai (aZ _ _ rfl rfl (bE ab)) ?_)))
  refine be rfl (aJ (⟨k+1,?_,?_,?_⟩))
  ·exact ⟨by omega,by omega⟩
  ·skip
   refine Le.mkJ [] [] rfl ?_ ?_ trivial trivial ?_
   ·exact ⟨(iS rfl),(iV rfl),(cp ag),trivial⟩
   ·exact trivial
   kernel_rfl
  omega
 exact absurd hki ab
theorem px:Spec Tryz.prog 123 (ba [] []) (aP (.sl 9 (fm bltT)) []):=by
 refine Spec.ofN Tryz.func123 rfl Tryz.ntmps123 rfl ?_
 refine am (ai (bq _ fG) (aj (am (ai (bg _ _ aa rfl ag (by (simp <;> rfl)) ah rfl) ?_))))
 exact kD rfl (aj (aG (qI rfl rfl)))
theorem AW:Spec Tryz.prog 126 (ba [.v (bt [43])] []) (aP (.sl (Bo.add).code.length (inl (Bo.add).code)) []):=by
 refine Spec.ofN Tryz.func126 rfl Tryz.ntmps126 rfl ?_
 refine am (ai (bq _ fG) (aj (aq (am (ei rfl (aj (ay (am (ai (aV (r:=true) _ _ Tryz.underlying9 rfl rfl rfl) (cq rfl ?_))))))))))
 refine aj (bL rfl rfl (am (ai (aN _ aa rfl (by exact eR)) ?_)))
 refine ai (bg _ _ aa rfl ag (by (simp <;> rfl)) ah rfl) ?_
 exact kD rfl (aj (aG (qI rfl rfl)))
theorem CF:Spec Tryz.prog 126 (ba [.v (bt [45])] []) (aP (.sl (Bo.sub).code.length (inl (Bo.sub).code)) []):=by
 refine Spec.ofN Tryz.func126 rfl Tryz.ntmps126 rfl ?_
 refine am (ai (bq _ fG) (aj (aq (am (ei rfl (aj (ay (am (ai (aV (r:=false) _ _ Tryz.underlying9 rfl rfl rfl) (cq rfl ?_))))))))))
 refine aj (aW rfl rfl (am (ai (aV (r:=true) _ _ Tryz.underlying9 rfl rfl rfl) (cq rfl (aj (bL rfl rfl (am (ai (aN _ aa rfl (by exact eR)) ?_))))))))
 refine ai (bg _ _ aa rfl ag (by (simp <;> rfl)) ah rfl) ?_
 exact kD rfl (aj (aG (qI rfl rfl)))
theorem BF:Spec Tryz.prog 126 (ba [.v (bt [42])] []) (aP (.sl (Bo.mul).code.length (inl (Bo.mul).code)) []):=by
 refine Spec.ofN Tryz.func126 rfl Tryz.ntmps126 rfl ?_
 refine am (ai (bq _ fG) (aj (aq (am (ei rfl (aj (ay (am (ai (aV (r:=false) _ _ Tryz.underlying9 rfl rfl rfl) (cq rfl ?_))))))))))
 refine aj (aW rfl rfl (am (ai (aV (r:=false) _ _ Tryz.underlying9 rfl rfl rfl) (cq rfl (aj (aW rfl rfl (am (ai (aV (r:=true) _ _ Tryz.underlying9 rfl rfl rfl) (cq rfl (aj ?_))))))))))
 refine bL rfl rfl (am (ai (aN _ aa rfl (by exact eR)) ?_))
 refine ai (bg _ _ aa rfl ag (by (simp <;> rfl)) ah rfl) ?_
 exact kD rfl (aj (aG (qI rfl rfl)))
theorem Bs:Spec Tryz.prog 126 (ba [.v (bt [47])] []) (aP (.sl (Bo.div).code.length (inl (Bo.div).code)) []):=by
 refine Spec.ofN Tryz.func126 rfl Tryz.ntmps126 rfl ?_
 refine am (ai (bq _ fG) (aj (aq (am (ei rfl (aj (ay (am (ai (aV (r:=false) _ _ Tryz.underlying9 rfl rfl rfl) (cq rfl ?_))))))))))
 refine aj (aW rfl rfl (am (ai (aV (r:=false) _ _ Tryz.underlying9 rfl rfl rfl) (cq rfl (aj (aW rfl rfl (am (ai (aV (r:=false) _ _ Tryz.underlying9 rfl rfl rfl) (cq rfl (aj ?_))))))))))
 refine aW rfl rfl (am (ai (aV (r:=true) _ _ Tryz.underlying9 rfl rfl rfl) (cq rfl (aj (bL rfl rfl (am (ai (aN _ aa rfl (by exact eR)) ?_)))))))
 refine ai (bg _ _ aa rfl ag (by (simp <;> rfl)) ah rfl) ?_
 exact kD rfl (aj (aG (qI rfl rfl)))
theorem EH:Spec Tryz.prog 126 (ba [.v (bt [60])] []) (aP (.sl (Bo.lt).code.length (inl (Bo.lt).code)) []):=by
 refine Spec.ofN Tryz.func126 rfl Tryz.ntmps126 rfl ?_
 refine am (ai (bq _ fG) (aj (aq (am (ei rfl (aj (ay (am (ai (aV (r:=false) _ _ Tryz.underlying9 rfl rfl rfl) (cq rfl ?_))))))))))
 refine aj (aW rfl rfl (am (ai (aV (r:=false) _ _ Tryz.underlying9 rfl rfl rfl) (cq rfl (aj (aW rfl rfl (am (ai (aV (r:=false) _ _ Tryz.underlying9 rfl rfl rfl) (cq rfl (aj ?_))))))))))
 refine aW rfl rfl (am (ai (aV (r:=false) _ _ Tryz.underlying9 rfl rfl rfl) (cq rfl (aj (aW rfl rfl (am (ai (aV (r:=true) _ _ Tryz.underlying9 rfl rfl rfl) (cq rfl (aj (bL rfl rfl ?_))))))))))
 refine am (ai (aN _ aa rfl (by exact eR)) ?_)
 refine ai (bg _ _ aa rfl ag (by (simp <;> rfl)) ah rfl) ?_
 exact kD rfl (aj (aG (qI rfl rfl)))
theorem FQ:Spec Tryz.prog 126 (ba [.v (bt [60,61])] []) (aP (.sl (Bo.le).code.length (inl (Bo.le).code)) []):=by
 refine Spec.ofN Tryz.func126 rfl Tryz.ntmps126 rfl ?_
 refine am (ai (bq _ fG) (aj (aq (am (ei rfl (aj (ay (am (ai (aV (r:=false) _ _ Tryz.underlying9 rfl rfl rfl) (cq rfl ?_))))))))))
 refine aj (aW rfl rfl (am (ai (aV (r:=false) _ _ Tryz.underlying9 rfl rfl rfl) (cq rfl (aj (aW rfl rfl (am (ai (aV (r:=false) _ _ Tryz.underlying9 rfl rfl rfl) (cq rfl (aj ?_))))))))))
 refine aW rfl rfl (am (ai (aV (r:=false) _ _ Tryz.underlying9 rfl rfl rfl) (cq rfl (aj (aW rfl rfl (am (ai (aV (r:=false) _ _ Tryz.underlying9 rfl rfl rfl) (cq rfl (aj (aW rfl rfl ?_))))))))))
 refine am (ai (aV (r:=true) _ _ Tryz.underlying9 rfl rfl rfl) (cq rfl (aj (bL rfl rfl (am (ai (aN _ aa rfl (by exact eR)) ?_))))))
 refine ai (bg _ _ aa rfl ag (by (simp <;> rfl)) ah rfl) ?_
 exact kD rfl (aj (aG (qI rfl rfl)))
theorem DU:Spec Tryz.prog 126 (ba [.v (bt [61,61])] []) (aP (.sl (Bo.eq).code.length (inl (Bo.eq).code)) []):=by
 refine Spec.ofN Tryz.func126 rfl Tryz.ntmps126 rfl ?_
 refine am (ai (bq _ fG) (aj (aq (am (ei rfl (aj (ay (am (ai (aV (r:=false) _ _ Tryz.underlying9 rfl rfl rfl) (cq rfl ?_))))))))))
 refine aj (aW rfl rfl (am (ai (aV (r:=false) _ _ Tryz.underlying9 rfl rfl rfl) (cq rfl (aj (aW rfl rfl (am (ai (aV (r:=false) _ _ Tryz.underlying9 rfl rfl rfl) (cq rfl (aj ?_))))))))))
 refine aW rfl rfl (am (ai (aV (r:=false) _ _ Tryz.underlying9 rfl rfl rfl) (cq rfl (aj (aW rfl rfl (am (ai (aV (r:=false) _ _ Tryz.underlying9 rfl rfl rfl) (cq rfl (aj (aW rfl rfl ?_))))))))))
 refine am (ai (aV (r:=false) _ _ Tryz.underlying9 rfl rfl rfl) (cq rfl (aj (aW rfl rfl (am (ai (aV (r:=true) _ _ Tryz.underlying9 rfl rfl rfl) (cq rfl (aj (bL rfl rfl (aq ?_))))))))))
 refine aL (σ':=aD 45 [] [] [] []) kp ?_
 refine an (ai (aN _ aa rfl (by exact eR)) ?_)
 refine ai (bg _ _ aa rfl ag (by (simp <;> rfl)) ah rfl) ?_
 exact kD rfl (aj (aG (qI rfl rfl)))
theorem EV:Spec Tryz.prog 126 (ba [.v (bt [62])] []) (aP (.sl (Bo.gt).code.length (inl (Bo.gt).code)) []):=by
 refine Spec.ofN Tryz.func126 rfl Tryz.ntmps126 rfl ?_
 refine am (ai (bq _ fG) (aj (aq (am (ei rfl (aj (ay (am (ai (aV (r:=false) _ _ Tryz.underlying9 rfl rfl rfl) (cq rfl ?_))))))))))
 refine aj (aW rfl rfl (am (ai (aV (r:=false) _ _ Tryz.underlying9 rfl rfl rfl) (cq rfl (aj (aW rfl rfl (am (ai (aV (r:=false) _ _ Tryz.underlying9 rfl rfl rfl) (cq rfl (aj ?_))))))))))
 refine aW rfl rfl (am (ai (aV (r:=false) _ _ Tryz.underlying9 rfl rfl rfl) (cq rfl (aj (aW rfl rfl (am (ai (aV (r:=false) _ _ Tryz.underlying9 rfl rfl rfl) (cq rfl (aj (aW rfl rfl ?_))))))))))
 refine am (ai (aV (r:=false) _ _ Tryz.underlying9 rfl rfl rfl) (cq rfl (aj (aW rfl rfl (am (ai (aV (r:=false) _ _ Tryz.underlying9 rfl rfl rfl) (cq rfl (aj (aW rfl rfl (aq ?_))))))))))
 refine aL (σ':=aD 45 [(3,_)] [] [] []) kp ?_
 refine an (ai (aV (r:=true) _ _ Tryz.underlying9 rfl rfl rfl) (cq rfl (aj (bL rfl rfl (am (ai (aN _ aa rfl (by exact eR)) ?_))))))
 refine ai (aN _ aa rfl (by exact eR)) ?_
 refine ai (bg _ _ aa rfl ag (by (simp <;> rfl)) ah rfl) ?_
 exact kD rfl (aj (aG (qI rfl rfl)))
theorem EY:Spec Tryz.prog 126 (ba [.v (bt [62,61])] []) (aP (.sl (Bo.ge).code.length (inl (Bo.ge).code)) []):=by
 refine Spec.ofN Tryz.func126 rfl Tryz.ntmps126 rfl ?_
 refine am (ai (bq _ fG) (aj (aq (am (ei rfl (aj (ay (am (ai (aV (r:=false) _ _ Tryz.underlying9 rfl rfl rfl) (cq rfl ?_))))))))))
 refine aj (aW rfl rfl (am (ai (aV (r:=false) _ _ Tryz.underlying9 rfl rfl rfl) (cq rfl (aj (aW rfl rfl (am (ai (aV (r:=false) _ _ Tryz.underlying9 rfl rfl rfl) (cq rfl (aj ?_))))))))))
 refine aW rfl rfl (am (ai (aV (r:=false) _ _ Tryz.underlying9 rfl rfl rfl) (cq rfl (aj (aW rfl rfl (am (ai (aV (r:=false) _ _ Tryz.underlying9 rfl rfl rfl) (cq rfl (aj (aW rfl rfl ?_))))))))))
 refine am (ai (aV (r:=false) _ _ Tryz.underlying9 rfl rfl rfl) (cq rfl (aj (aW rfl rfl (am (ai (aV (r:=false) _ _ Tryz.underlying9 rfl rfl rfl) (cq rfl (aj (aW rfl rfl (aq ?_))))))))))
 refine aL (σ':=aD 45 [(3,_)] [] [] []) kp ?_
 refine an (ai (aV (r:=false) _ _ Tryz.underlying9 rfl rfl rfl) (cq rfl (aj (aW rfl rfl (am (ai (aV (r:=true) _ _ Tryz.underlying9 rfl rfl rfl) (cq rfl (aj (bL rfl rfl (am ?_))))))))))
 refine ai (aN _ aa rfl (by exact eR)) ?_
 refine ai (aN _ aa rfl (by exact eR)) ?_
 refine ai (bg _ _ aa rfl ag (by (simp <;> rfl)) ah rfl) ?_
 exact kD rfl (aj (aG (qI rfl rfl)))
theorem Gh:Spec Tryz.prog 126 (ba [.v (bt [33,61])] []) (aP (.sl (Bo.ne).code.length (inl (Bo.ne).code)) []):=by
 refine Spec.ofN Tryz.func126 rfl Tryz.ntmps126 rfl ?_
 refine am (ai (bq _ fG) (aj (aq (am (ei rfl (aj (ay (am (ai (aV (r:=false) _ _ Tryz.underlying9 rfl rfl rfl) (cq rfl ?_))))))))))
 refine aj (aW rfl rfl (am (ai (aV (r:=false) _ _ Tryz.underlying9 rfl rfl rfl) (cq rfl (aj (aW rfl rfl (am (ai (aV (r:=false) _ _ Tryz.underlying9 rfl rfl rfl) (cq rfl (aj ?_))))))))))
 refine aW rfl rfl (am (ai (aV (r:=false) _ _ Tryz.underlying9 rfl rfl rfl) (cq rfl (aj (aW rfl rfl (am (ai (aV (r:=false) _ _ Tryz.underlying9 rfl rfl rfl) (cq rfl (aj (aW rfl rfl ?_))))))))))
 refine am (ai (aV (r:=false) _ _ Tryz.underlying9 rfl rfl rfl) (cq rfl (aj (aW rfl rfl (am (ai (aV (r:=false) _ _ Tryz.underlying9 rfl rfl rfl) (cq rfl (aj (aW rfl rfl (aq ?_))))))))))
 refine aL (σ':=aD 45 [(3,_)] [] [] []) kp ?_
 refine an (ai (aV (r:=false) _ _ Tryz.underlying9 rfl rfl rfl) (cq rfl (aj (aW rfl rfl (am (ai (aV (r:=false) _ _ Tryz.underlying9 rfl rfl rfl) (cq rfl (aj (aW rfl rfl (cr ?_))))))))))
 refine am (ai (aN _ aa rfl (by exact eR)) ?_)
 refine ai (aN _ aa rfl (by exact eR)) ?_
 refine ai (bg _ _ aa rfl ag (by (simp <;> rfl)) ah rfl) ?_
 exact kD rfl (aj (aG (qI rfl rfl)))
theorem zb (o:Bo):Spec Tryz.prog 126 (ba [.v (bt o.txt)] []) (aP (.sl o.code.length (inl o.code)) []):=by
 cases o
 ·exact AW
 ·exact CF
 ·exact BF
 ·exact Bs
 ·exact EH
 ·exact FQ
 ·exact DU
 ·exact EV
 ·exact EY
 exact Gh

abbrev Cd:=Nat→List eS
abbrev CoS (u:AV) (d:Nd) (c:Cd):Prop:= ∀ a,a+(c a).length≤1000000→Spec Tryz.prog 91 (ba [u,pA d, .v (.int .i64 (a:Int))] []) (aP (.ref (0,8) 0 (c a).length) [((0,8), .row 48 2 (inl (c a)))])
def cZ:List Cd→Nat→List eS
 | [],_=> []
 | c::cs,a=> c a++cZ cs (a+(c a).length)
theorem qR: ∀ (l m:List Cd) (a:Nat),cZ (l++m) a=cZ l a++cZ m (a+(cZ l a).length)
 | [],m,a=> by simp [cZ]
 | c::l,m,a=> by simp only [List.cons_append,cZ,qR l m,List.append_assoc,List.length_append,Nat.add_assoc]
theorem yC {cs:List Cd} {j a:Nat} (h:j < cs.length):cZ (cs.take (j+1)) a=cZ (cs.take j) a++(cs.getD j fun _=> []) (a+(cZ (cs.take j) a).length):=by
 rw [List.take_succ_eq_append_getElem h,qR]
 simp [cZ,h]
theorem rZ {cs:List Cd} {j a:Nat}:(cZ (cs.take j) a).length≤(cZ cs a).length:=by
 conv=> rhs;rw [← List.take_append_drop j cs,qR]
 rw [List.length_append];omega
abbrev mF (u:AV) (L:List Nd) (cs:List Cd):Prop:= ∀ j,j < L.length→CoS u (li L j) (cs.getD j fun _=> [])
theorem Fu {u:AV}:mF u [] []:=fun j hj=> by simp at hj
theorem yF {u:AV} {d:Nd} {c:Cd} {L:List Nd} {cs:List Cd} (h:CoS u d c) (h':mF u L cs):mF u (d::L) (c::cs):=fun j hj=> by
 cases j with
 | zero=> exact h
 | succ j=> exact h' j (by simpa using hj)
section
variable {d v:List Tx} {no:Nat} {on:List PV}
abbrev uu (d v:List Tx) (no:Nat) (on:List PV):AV:= .agg [.sl d.length (fm d), .sl v.length (fm v), .sl no on]
theorem dJ (L:List Nd) (cs:List Cd) (hc:cs.length=L.length) (hk:mF (uu d v no on) L cs) (a:Nat) (ha:a+(cZ cs a).length≤1000000):
  Spec Tryz.prog 125 (ba [uu d v no on, .sl L.length (mK L), .v (.int .i64 (a:Int))] []) (aP (.ref (0,8) 0 (cZ cs a).length) [((0,8), .row 48 2 (inl (cZ cs a)))]):=by
 refine Spec.ofN Tryz.func125 rfl Tryz.ntmps125 rfl ?_
 refine aq ?_
 refine Ho 1 rfl rfl fun hlen=> ?_
 unfold maxLen at hlen
 refine an (ai (aQ (3,0) _ rfl rfl) (ai (bq _ fG) (aj (am (ai (te (7,0) _ 48 2 rfl rfl) ?_)))))
 refine aj (aU fun K3 hK3=> ?_)
 refine am (be rfl (aj (ay ?_)))
 refine br (α:=Nat) (fun j=> j≤L.length) 28 [(1,_),(2,_),(3,_)] [((3,0),_)] (fun j=> [(8, .v (.int .i64 (j:Int))),(7, .ref (7,0) 0 (cZ (cs.take j) a).length)]) (fun j=> [((7,0), .row 48 2 (inl (cZ (cs.take j) a)))]) [] [] (fun j=> L.length - j) 0 ?_ (by
  refine Le.mkJ [] [] rfl ?_ ?_ trivial trivial ?_
  ·exact ⟨(iS rfl),(iV rfl),(iP rfl),(cp ag),(cO rfl ag),trivial⟩
  ·exact ⟨(bM rfl rfl rfl),(fi rfl rfl rfl ag),trivial⟩
  kernel_rfl) ?_
 ·omega
 intro j hj
 have htk:(cZ (cs.take j) a).length≤(cZ cs a).length:=rZ
 refine aU fun K5 hK5=> ?_
 refine am (aX rfl (eV rfl (ai (bn _ aa rfl) (ai (bm _ _ rfl rfl rfl) (aj (aR rfl (fun hc12=> ?_) (fun hc12=> ?_)))))))
 ·skip
  have hs:=yC (cs:=cs) (j:=j) (a:=a) ab
  have htk1:(cZ (cs.take (j+1)) a).length≤(cZ cs a).length:=rZ
  have hsl:=congrArg List.length hs
  rw [List.length_append] at hsl
  have hcj:=hk j ab (a+(cZ (cs.take j) a).length) ab
  generalize (cs.getD j fun _=> []) (a+(cZ (cs.take j) a).length)=C at hs hsl hcj
  refine bs (hK5 _ ?_)
  clear hK5;try clear K5
  refine aq (ay ?_)
  refine aL (σ':=aD 28 [(1,_),(2,_),(3,_),(7,_),(8,_)] [((3,0),_),((7,0),_)] [] []) kp ?_
  refine bJ 11 [15,16,17,18,19,20,21,22,23,24,25] [(50,0)] ae ae rfl (aK rfl) (rfl:_=[_,_,_,_,_,_,_,_,_,_,_]) (rfl:_=[_,_]) ?_
  refine ap (_,[]) (fun τ=> aI _ dU) ?_
  refine fD rfl ?_
  refine ap (_,[]) (fun τ=> az _ aa rfl rfl rfl rfl) ?_
  refine fF rfl ?_
  refine ap (_,[]) (fun τ=> aI _ nD) ?_
  refine fE rfl ?_
  refine ap (_,[]) (fun τ=> aI _ eh) ?_
  refine fS rfl ?_
  refine ap (_,[]) (fun τ=> bp _ _ aa rfl rfl _ rfl ab (by (simp only [aO,bi,bl,bw,bv,bI,bz,bP];omega)) ag) ?_
  refine gf rfl ?_
  refine ap (_,[]) (fun τ=> cf _ aa rfl (by exact cQ _ _ ab) rfl) ?_
  refine gS rfl ?_
  refine ap (_,[]) (fun τ=> aI _ eh) ?_
  refine ir rfl ?_
  refine ap (_,[]) (fun τ=> aI _ dU) ?_
  refine jE rfl ?_
  refine ap (_,[]) (fun τ=> dh _ aa rfl rfl) ?_
  refine jU rfl ?_
  refine ap (_,[]) (fun τ=> aZ _ _ rfl rfl (bE ab)) ?_
  refine fy rfl ?_
  refine ap (_,[((50,0),_)]) (fun τ=> (bR aa [((0,8),(50,0))] ar (hcj.toI) trivial tr tr rfl rfl ae ae)) ?_
  refine gd rfl (bj ⟨rfl,?_⟩)
  refine ai (du (26,0) _ _ aa rfl rfl (bP _).symm (.ref rfl (nX _) (lD _)) ab rfl (lZ _ _) hsl.symm) ?_
  refine fj rfl (dY (an (aX rfl (ai (aZ _ _ rfl rfl (bE ab)) ?_))))
  refine be rfl (aJ (⟨j+1,?_,?_,?_⟩))
  ·omega
  ·skip
   refine Le.mkJ [((7,0),(26,0))] [] rfl ?_ ?_ trivial trivial ?_
   ·exact ⟨(by repeat' (exact Lv.sl)),(by repeat' (exact Lv.v)),(dH (id:=(3,0)) rfl),(cp ag),(cO rfl ag),trivial⟩
   ·exact ⟨(fq rfl rfl rfl rfl (by repeat' (first | exact Lv.sl | exact bf | refine au ?_ ?_))),(fi rfl rfl rfl (by (rw [hs]))),trivial⟩
   kernel_rfl
  omega
 obtain rfl:j=cs.length:=by omega
 rw [List.take_length]
 refine bB (id (hK3 _ ?_))
 clear hK3;try clear K3
 exact am (gJ rfl (fj rfl (aj (aG (bH (.inr rfl) rfl (.tmp dU) (Le.out [((0,8),(7,0))] [] (cO rfl rfl) rfl rfl rfl trivial ob))))))
theorem pG (N:Nd) (c:Cd) (h:CoS (uu d v no on) N c) (n:Int) (a:Nat) (ha:a+(c a).length≤1000000):
  Spec Tryz.prog 187 (ba [uu d v no on, .sl 1 (mK [N]), .v (.int .i64 n), .v (.int .i64 (a:Int))] []) (aP (.ref (0,8) 0 (c a).length) [((0,8), .row 48 2 (inl (c a)))]):=by
 have hc:=h a ha
 refine Spec.ofN Tryz.func187 rfl Tryz.ntmps187 rfl ?_
 refine am (ai (aQ (4,0) _ rfl rfl) (ai (bq _ fG) (aj (aq (am (eV rfl (ai (bn _ aa rfl) (ai (gy _ _ rfl rfl rfl) (aj (bL rfl rfl ?_))))))))))
 refine aq ?_
 refine aL (σ':=aD 21 [(1,_),(3,_),(4,_)] [((4,0),_)] [] []) kp ?_
 refine bJ 5 [12,13,14,15,16] [] ae ae rfl (aK rfl) (rfl:_=[_,_,_,_,_]) (rfl:_=[_,_]) ?_
 refine ap (_,[]) (fun τ=> az _ aa rfl rfl rfl rfl) ?_
 refine fD rfl ?_
 refine ap (_,[]) (fun τ=> aI _ nD) ?_
 refine fF rfl ?_
 refine ap (_,[]) (fun τ=> bp _ _ aa rfl rfl 0 rfl ab (by simp [mK,Nd.row]) rfl) ?_
 refine fE rfl ?_
 refine ap (_,[]) (fun τ=> cf _ aa rfl (by exact cQ [N] 0 (by simp)) rfl) ?_
 refine fS rfl ?_
 refine ap (_,[]) (fun τ=> aI _ eh) ?_
 refine gf rfl (bj ⟨rfl,?_⟩)
 refine ai (co aa [((0,8),(50,0))] ar (hc.toI) trivial tr ae) ?_
 exact fj rfl (aj (aG (bH (.inr rfl) rfl (.tmp dU) (Le.out [((0,8),(50,0))] [] (cO rfl rfl) rfl rfl rfl trivial ob))))
theorem ve (n:Int) (a:Nat):
  Spec Tryz.prog 187 (ba [uu d v no on, .sl 0 [], .v (.int .i64 n), .v (.int .i64 (a:Int))] []) (aP (.ref (0,8) 0 1) [((0,8), .row 48 2 (inl [{ op:= .push,n:=n }]))]):=by
 refine Spec.ofN Tryz.func187 rfl Tryz.ntmps187 rfl ?_
 refine am (ai (aQ (4,0) _ rfl rfl) (ai (bq _ fG) (aj (aq (am (eV rfl (ai (bn _ aa rfl) (ai (gy _ _ rfl rfl rfl) (aj (aW rfl rfl ?_))))))))))
 refine aS (am (aX rfl (ai (aN _ aa rfl (by exact eR)) ?_)))
 refine ai (kb (20,0) _ _ aa rfl ag (by (simp <;> rfl)) ah rfl rfl) ?_
 exact fj rfl (aj (aG (bH (.inr rfl) rfl (.tmp dU) (Le.out [((0,8),(20,0))] [] (cO rfl rfl) rfl rfl rfl trivial ob))))
def GP (c y z:Cd) (a:Nat):List eS:=
 c a++[{ op:= .unl,n:=((a+(c a).length+1+(y (a+(c a).length+1)).length+1:Nat):Int) }]++y (a+(c a).length+1)++
  [{ op:= .jump,n:=((a+(c a).length+1+(y (a+(c a).length+1)).length+1+(z (a+(c a).length+1+(y (a+(c a).length+1)).length+1)).length:Nat):Int) }]++z (a+(c a).length+1+(y (a+(c a).length+1)).length+1)
abbrev OF (u:AV) (l:AV) (n:Int) (c:Cd):Prop:= ∀ a,a+(c a).length≤1000000→Spec Tryz.prog 187 (ba [u,l, .v (.int .i64 n), .v (.int .i64 (a:Int))] []) (aP (.ref (0,8) 0 (c a).length) [((0,8), .row 48 2 (inl (c a)))])
theorem lQ (N:Nd) (c y z:Cd) (hc:CoS (uu d v no on) N c) (ly lz:Nat) (ys zs:List PV) (n:Int) (hy:OF (uu d v no on) (.sl ly ys) n y) (hz:OF (uu d v no on) (.sl lz zs) n z) (a:Nat) (ha:a+(GP c y z a).length≤1000000):
  Spec Tryz.prog 124 (ba [uu d v no on,pA N, .sl ly ys, .sl lz zs, .v (.int .i64 n), .v (.int .i64 (a:Int))] []) (aP (.ref (0,8) 0 (GP c y z a).length) [((0,8), .row 48 2 (inl (GP c y z a)))]):=by
 have hb: ∃ b,b=GP c y z a:=⟨_,rfl⟩
 obtain ⟨b,hb⟩:=hb
 rw [← hb] at ha ⊢
 unfold GP at hb
 have hbl:=congrArg List.length hb
 simp only [List.length_append,List.length_cons,List.length_nil] at hbl
 have h1:=hc a ab
 generalize c a=C at h1 hb hbl
 have h2:=hy (a+C.length+1) ab
 generalize y (a+C.length+1)=Y at h2 hb hbl
 obtain ⟨f,hf⟩: ∃ f,f=a+C.length+1+Y.length+1:=⟨_,rfl⟩
 rw [← hf] at hb hbl
 have h3:=hz f ab
 generalize z f=Z at h3 hb hbl
 refine Spec.ofN Tryz.func124 rfl Tryz.ntmps124 rfl ?_
 refine am (ai (aQ (6,0) _ rfl rfl) (ai (aQ (7,0) _ rfl rfl) (ai (bq _ fG) (aj (am (ai (az _ aa rfl rfl rfl rfl) (ai (az _ aa rfl rfl rfl rfl) (aX rfl (ai (co aa [((0,8),(50,0))] ar (h1.toI) trivial tr ae) ?_)))))))))
 refine fj rfl (aj (aU fun K3 hK3=> ?_))
 refine an (ai (az _ aa rfl rfl rfl rfl) (eV rfl (aX rfl (aX rfl (gJ rfl (ai (dh _ aa rfl rfl) (ai (aZ _ _ rfl rfl (bE ab)) ?_)))))))
 refine ai (aZ _ _ rfl rfl (bE ab)) ?_
 refine ai (co aa [((0,8),(51,0))] ar (h2.toI) trivial tr ae) ?_
 refine fj rfl (aJ (hK3 _ ?_))
 clear hK3;try clear K3
 refine aq ?_
 refine aL (σ':=aD 63 [(3,_),(4,_),(5,_),(6,_),(13,_),(14,_)] [((6,0),_),((50,0),_),((51,0),_)] [] []) kp ?_
 refine an (aX rfl (gJ rfl (ai (dh _ aa rfl rfl) (ai (aZ _ _ rfl rfl (bE ab)) ?_))))
 refine ai (aZ _ _ rfl rfl (bE ab)) ?_
 refine gJ rfl (ai (dh _ aa rfl rfl) (ai (aZ _ _ rfl rfl (bE ab)) ?_))
 refine ai (aZ (r:=(f:Int)) _ _ rfl rfl ((bE ab).trans ab)) ?_
 refine be rfl (aj (aU fun K5 hK5=> ?_))
 refine an (ai (az _ aa rfl rfl rfl rfl) (eV rfl (aX rfl (aX rfl (ai (co aa [((0,8),(52,0))] ar (h3.toI) trivial tr ae) ?_)))))
 refine fj rfl (aJ (hK5 _ ?_))
 clear hK5;try clear K5
 refine aq ?_
 refine aL (σ':=aD 63 [(13,_),(14,_),(15,_),(16,_)] [((50,0),_),((51,0),_),((52,0),_)] [] []) kp ?_
 refine an (gJ rfl (aX rfl (ai (aN _ aa rfl (by exact eR)) ?_)))
 refine ai (bg _ _ aa rfl ag (by (simp <;> rfl)) ah rfl) ?_
 refine ai (du (48,0) _ _ aa rfl rfl (bP _).symm (.sl rfl) ab rfl (fk _ { op:= .unl,n:=f }) (show C.length+1=(C++[({ op:= .unl,n:=f }:eS)]).length by simp)) ?_
 refine fj rfl (aj (am (gJ rfl (gJ rfl (ai (du (51,1) _ _ aa rfl rfl (bP _).symm (.ref rfl (nX _) (lD _)) (by simp;omega) rfl (lZ _ _) (show (C++[({ op:= .unl,n:=f }:eS)]).length+Y.length=(C++[({ op:= .unl,n:=f }:eS)]++Y).length by simp;omega)) ?_)))))
 refine fj rfl (aj (am (gJ rfl (aX rfl (gJ rfl (ai (dh _ aa rfl rfl) (ai (aZ _ _ rfl rfl (bE ab)) ?_)))))))
 refine ai (aN _ aa rfl (by exact eR)) ?_
 refine ai (bg _ _ aa rfl ag (by (simp <;> rfl)) ah rfl) ?_
 refine ai (du (59,0) _ _ aa rfl rfl (bP _).symm (.sl rfl) (by simp;omega) rfl (fk _ { op:= .jump,n:=((f+Z.length:Nat):Int) }) (show (C++[({ op:= .unl,n:=f }:eS)]++Y).length+1=(C++[({ op:= .unl,n:=f }:eS)]++Y++[({ op:= .jump,n:=((f+Z.length:Nat):Int) }:eS)]).length by simp;omega)) ?_
 refine fj rfl (aj (aq ?_))
 refine aL (σ':=aD 63 [(13,_),(16,_)] [((52,0),_),((59,0),_)] [] []) kp ?_
 refine an (gJ rfl (gJ rfl (ai (du (62,0) _ _ aa rfl rfl (bP _).symm (.ref rfl (nX _) (lD _)) (by simp;omega) rfl ((lZ _ _).trans (congrArg inl hb.symm)) (show _+Z.length=b.length by simp;omega)) ?_)))
 exact fj rfl (aj (aG (bH (.inr rfl) rfl (.tmp dU) (Le.out [((0,8),(62,0))] [] (cO rfl rfl) rfl rfl rfl trivial ob))))
end

section
variable {d v:List Tx} {no:Nat} {on:List PV}
theorem HR (n:Nat):CoS (uu d v no on) (nd 12 n [] []) (fun _=> [{ op:= .push,n:=(n:Int) }]):=fun a ha=> by
 refine Spec.ofN Tryz.func91 rfl Tryz.ntmps91 rfl ?_
 refine am (ai (aQ (3,0) _ rfl rfl) (ai (aQ (4,0) _ rfl rfl) (ai (bq _ fG) (aj (aq (am (bc rfl rfl rfl (cd rfl rfl rfl (aj (ay ?_))))))))))
 refine aq (iE rfl rfl rfl rfl rfl (aS (bL rfl rfl (am (bc rfl rfl rfl (cd rfl rfl rfl (ai (aN _ aa rfl (by exact eR)) ?_)))))))
 refine ai (kb (19,0) _ _ aa rfl ag (by (simp <;> rfl)) ah rfl rfl) ?_
 exact fj rfl (aj (aG (bH (.inr rfl) rfl (.tmp dU) (Le.out [((0,8),(19,0))] [] (cO rfl rfl) rfl rfl rfl trivial ob))))
theorem xA (n:Nat):CoS (uu d v no on) (nd 13 n [] []) (fun _=> [{ op:= .push,n:=(n:Int) }]):=fun a ha=> by
 refine Spec.ofN Tryz.func91 rfl Tryz.ntmps91 rfl ?_
 refine am (ai (aQ (3,0) _ rfl rfl) (ai (aQ (4,0) _ rfl rfl) (ai (bq _ fG) (aj (aq (am (bc rfl rfl rfl (cd rfl rfl rfl (aj (ay ?_))))))))))
 refine aq (cK rfl rfl rfl rfl rfl (zI rfl rfl rfl rfl rfl (am (bc rfl rfl rfl (cd rfl rfl rfl (ai (aN _ aa rfl (by exact eR)) ?_))))))
 refine ai (kb (19,0) _ _ aa rfl ag (by (simp <;> rfl)) ah rfl rfl) ?_
 exact fj rfl (aj (aG (bH (.inr rfl) rfl (.tmp dU) (Le.out [((0,8),(19,0))] [] (cO rfl rfl) rfl rfl rfl trivial ob))))
theorem GX (hn:(d++v).Nodup) (hl:(d++v).length≤1000) (i:Nat) (hi:i < (d++v).length):CoS (uu d v no on) (nd 14 0 ((d++v).getD i []) []) (fun _=> [{ op:= .var,n:=(i:Int) }]):=fun a ha=> by
 refine Spec.ofN Tryz.func91 rfl Tryz.ntmps91 rfl ?_
 refine am (ai (aQ (3,0) _ rfl rfl) (ai (aQ (4,0) _ rfl rfl) (ai (bq _ fG) (aj (aq (am (bc rfl rfl rfl (cd rfl rfl rfl (aj (ay ?_))))))))))
 refine aq (cK rfl rfl rfl rfl rfl (ea rfl rfl rfl rfl rfl (iE rfl rfl rfl rfl rfl (am (ai (az _ aa rfl rfl rfl rfl) (bc rfl rfl rfl (ai (aF _ aa rfl rfl fB) (ai (aH aa al (mW d v on no hn hl i hi) rfl rfl) ?_))))))))
 refine ai (aN _ aa rfl (by exact eR)) ?_
 refine ai (kb (27,0) _ _ aa rfl ag (by (simp <;> rfl)) ah rfl rfl) ?_
 exact fj rfl (aj (aG (bH (.inr rfl) rfl (.tmp dU) (Le.out [((0,8),(27,0))] [] (cO rfl rfl) rfl rfl rfl trivial ob))))
theorem Gr (k:Nat) (hk:k < 9):CoS (uu d v no on) (nd 15 0 (bltT.getD k []) []) (fun _=> [{ op:= .name,n:=(k:Int) }]):=fun a ha=> by
 refine Spec.ofN Tryz.func91 rfl Tryz.ntmps91 rfl ?_
 refine am (ai (aQ (3,0) _ rfl rfl) (ai (aQ (4,0) _ rfl rfl) (ai (bq _ fG) (aj (aq (am (bc rfl rfl rfl (cd rfl rfl rfl (aj (ay ?_))))))))))
 refine aq (cK rfl rfl rfl rfl rfl (ea rfl rfl rfl rfl rfl (cK rfl rfl rfl rfl rfl (iE rfl rfl rfl rfl rfl (aq ?_)))))
 refine aL (σ':=aD 211 [(4,_)] [((4,0),_)] [] []) kp ?_
 refine bJ 6 [30,31,32,33,34,35] [(35,0)] ae ae rfl (aK rfl) (rfl:_=[_,_,_,_,_,_]) (rfl:_=[_]) ?_
 refine ap (_,[]) (fun τ=> (aH aa (by repeat' (exact cW)) (px) rfl rfl)) ?_
 refine fD rfl ?_
 refine ap (_,[]) (fun τ=> aA _ aa rfl rfl rfl) ?_
 refine fF rfl ?_
 refine ap (_,[]) (fun τ=> aF _ aa rfl rfl fB) ?_
 refine fE rfl ?_
 refine ap (_,[]) (fun τ=> (aH aa al (yB bltT 9 rfl ab ah k hk) rfl rfl)) ?_
 refine fS rfl ?_
 refine ap (_,[]) (fun τ=> aN _ aa rfl (by exact eR)) ?_
 refine gf rfl ?_
 refine ap (_,[((35,0),_)]) (fun τ=> kb (35,0) _ _ aa rfl ag (by (simp <;> rfl)) ah rfl rfl) ?_
 refine gS rfl (bj ⟨rfl,?_⟩)
 exact fj rfl (aj (aG (bH (.inr rfl) rfl (.tmp dU) (Le.out [((0,8),(35,0))] [] (cO rfl rfl) rfl rfl rfl trivial ob))))
theorem CV (n:Nat):CoS (uu d v no on) (nd 5 n [] []) (fun _=> [{ op:= .timer,n:=(n:Int) }]):=fun a ha=> by
 refine Spec.ofN Tryz.func91 rfl Tryz.ntmps91 rfl ?_
 refine am (ai (aQ (3,0) _ rfl rfl) (ai (aQ (4,0) _ rfl rfl) (ai (bq _ fG) (aj (aq (am (bc rfl rfl rfl (cd rfl rfl rfl (aj (ay ?_))))))))))
 refine aq (cK rfl rfl rfl rfl rfl (ea rfl rfl rfl rfl rfl ?_))
 iterate 3 refine cK rfl rfl rfl rfl rfl ?_
 refine aq ?_
 refine aL (σ':=aD 211 [(2,_),(3,_),(4,_),(12,_)] [((3,0),_),((4,0),_)] [] []) kp ?_
 refine zI rfl rfl rfl rfl rfl (am (bc rfl rfl rfl (cd rfl rfl rfl (ai (aN _ aa rfl (by exact eR)) ?_))))
 refine ai (kb (56,0) _ _ aa rfl ag (by (simp <;> rfl)) ah rfl rfl) ?_
 exact fj rfl (aj (aG (bH (.inr rfl) rfl (.tmp dU) (Le.out [((0,8),(56,0))] [] (cO rfl rfl) rfl rfl rfl trivial ob))))
theorem zw (n:Nat):CoS (uu d v no on) (nd 6 n [] []) (fun _=> [{ op:= .cancel,n:=(n:Int) }]):=fun a ha=> by
 refine Spec.ofN Tryz.func91 rfl Tryz.ntmps91 rfl ?_
 refine am (ai (aQ (3,0) _ rfl rfl) (ai (aQ (4,0) _ rfl rfl) (ai (bq _ fG) (aj (aq (am (bc rfl rfl rfl (cd rfl rfl rfl (aj (ay ?_))))))))))
 refine aq (cK rfl rfl rfl rfl rfl (ea rfl rfl rfl rfl rfl ?_))
 iterate 3 refine cK rfl rfl rfl rfl rfl ?_
 refine aq ?_
 refine aL (σ':=aD 211 [(2,_),(3,_),(4,_),(12,_)] [((3,0),_),((4,0),_)] [] []) kp ?_
 refine ea rfl rfl rfl rfl rfl (iE rfl rfl rfl rfl rfl (am (bc rfl rfl rfl (cd rfl rfl rfl (ai (aN _ aa rfl (by exact eR)) ?_)))))
 refine ai (kb (62,0) _ _ aa rfl ag (by (simp <;> rfl)) ah rfl rfl) ?_
 exact fj rfl (aj (aG (bH (.inr rfl) rfl (.tmp dU) (Le.out [((0,8),(62,0))] [] (cO rfl rfl) rfl rfl rfl trivial ob))))
theorem co_sync:CoS (uu d v no on) (nd 7 0 [] []) (fun _=> [{ op:= .sync }]):=fun a ha=> by
 refine Spec.ofN Tryz.func91 rfl Tryz.ntmps91 rfl ?_
 refine am (ai (aQ (3,0) _ rfl rfl) (ai (aQ (4,0) _ rfl rfl) (ai (bq _ fG) (aj (aq (am (bc rfl rfl rfl (cd rfl rfl rfl (aj (ay ?_))))))))))
 refine aq (cK rfl rfl rfl rfl rfl (ea rfl rfl rfl rfl rfl ?_))
 iterate 3 refine cK rfl rfl rfl rfl rfl ?_
 refine aq ?_
 refine aL (σ':=aD 211 [(2,_),(3,_),(4,_),(12,_)] [((3,0),_),((4,0),_)] [] []) kp ?_
 refine ea rfl rfl rfl rfl rfl (cK rfl rfl rfl rfl rfl (iE rfl rfl rfl rfl rfl (am (ai (aN _ aa rfl (by exact eR)) ?_))))
 refine ai (kb (66,0) _ _ aa rfl ag (by (simp <;> rfl)) ah rfl rfl) ?_
 exact fj rfl (aj (aG (bH (.inr rfl) rfl (.tmp dU) (Le.out [((0,8),(66,0))] [] (cO rfl rfl) rfl rfl rfl trivial ob))))
theorem co_stop:CoS (uu d v no on) (nd 10 0 [] []) (fun _=> [{ op:= .stop }]):=fun a ha=> by
 refine Spec.ofN Tryz.func91 rfl Tryz.ntmps91 rfl ?_
 refine am (ai (aQ (3,0) _ rfl rfl) (ai (aQ (4,0) _ rfl rfl) (ai (bq _ fG) (aj (aq (am (bc rfl rfl rfl (cd rfl rfl rfl (aj (ay ?_))))))))))
 refine aq (cK rfl rfl rfl rfl rfl (ea rfl rfl rfl rfl rfl ?_))
 iterate 3 refine cK rfl rfl rfl rfl rfl ?_
 refine aq ?_
 refine aL (σ':=aD 211 [(2,_),(3,_),(4,_),(12,_)] [((3,0),_),((4,0),_)] [] []) kp ?_
 refine ea rfl rfl rfl rfl rfl ?_
 iterate 2 refine cK rfl rfl rfl rfl rfl ?_
 refine iE rfl rfl rfl rfl rfl (am (ai (aN _ aa rfl (by exact eR)) ?_))
 refine ai (kb (70,0) _ _ aa rfl ag (by (simp <;> rfl)) ah rfl rfl) ?_
 exact fj rfl (aj (aG (bH (.inr rfl) rfl (.tmp dU) (Le.out [((0,8),(70,0))] [] (cO rfl rfl) rfl rfl rfl trivial ob))))
theorem HS {c y z:Nd} {cc cy cz:Cd} (hc:CoS (uu d v no on) c cc) (hy:CoS (uu d v no on) y cy) (hz:CoS (uu d v no on) z cz):CoS (uu d v no on) (nd 2 0 [] [c,y,z]) (GP cc cy cz):=fun a ha=> by
 have hb:=lQ (on:=on) c cc cy cz hc 1 1 (mK [y]) (mK [z]) 0 (fun a ha=> pG y cy hy 0 a ha) (fun a ha=> pG z cz hz 0 a ha) a ha
 refine Spec.ofN Tryz.func91 rfl Tryz.ntmps91 rfl ?_
 refine am (ai (aQ (3,0) _ rfl rfl) (ai (aQ (4,0) _ rfl rfl) (ai (bq _ fG) (aj (aq (am (bc rfl rfl rfl (cd rfl rfl rfl (aj (ay ?_))))))))))
 refine aq (cK rfl rfl rfl rfl rfl (ea rfl rfl rfl rfl rfl ?_))
 iterate 2 refine cK rfl rfl rfl rfl rfl ?_
 refine iE rfl rfl rfl rfl rfl (aq ?_)
 refine aL (σ':=aD 211 [(2,_),(3,_),(4,_)] [((3,0),_),((4,0),_)] [] []) kp ?_
 refine bJ 12 [38,39,40,41,42,43,44,45,46,47,48,49] [] ae ae rfl (aK rfl) (rfl:_=[_,_,_,_,_,_,_,_,_,_,_,_]) (rfl:_=[_,_]) ?_
 refine ap (_,[]) (fun τ=> az _ aa rfl rfl rfl rfl) ?_
 refine fD rfl ?_
 refine ap (_,[]) (fun τ=> aA _ aa rfl rfl rfl) ?_
 refine fF rfl ?_
 refine ap (_,[]) (fun τ=> aF _ aa rfl rfl ef) ?_
 refine fE rfl ?_
 refine ap (_,[]) (fun τ=> bp _ _ aa rfl rfl 0 rfl (show 0 < 3 by omega) (Nat.le_of_ble_eq_true rfl) rfl) ?_
 refine fS rfl ?_
 refine ap (_,[]) (fun τ=> cf _ aa rfl (by exact cQ [c,y,z] 0 (by simp)) rfl) ?_
 refine gf rfl ?_
 refine ap (_,[]) (fun τ=> aA _ aa rfl rfl rfl) ?_
 refine gS rfl ?_
 refine ap (_,[]) (fun τ=> aF _ aa rfl rfl ef) ?_
 refine ir rfl ?_
 refine ap (_,[]) (fun τ=> kE _ _ _ aa rfl 1 2 (.lit rfl rfl) (.lit rfl rfl) ab (show 2≤3 by omega) (show _=mK [y] from rfl) rfl) ?_
 refine jE rfl ?_
 refine ap (_,[]) (fun τ=> aA _ aa rfl rfl rfl) ?_
 refine jU rfl ?_
 refine ap (_,[]) (fun τ=> aF _ aa rfl rfl ef) ?_
 refine fy rfl ?_
 refine ap (_,[]) (fun τ=> kE _ _ _ aa rfl 2 3 (.lit rfl rfl) (.lit rfl rfl) ab (show 3≤3 by omega) (show _=mK [z] from rfl) rfl) ?_
 refine gd rfl ?_
 refine ap (_,[]) (fun τ=> aI _ eh) ?_
 refine jG rfl (bj ⟨rfl,?_⟩)
 refine ai (co aa [((0,8),(50,0))] ar (hb.toI) trivial tr ae) ?_
 exact fj rfl (aj (aG (bH (.inr rfl) rfl (.tmp dU) (Le.out [((0,8),(50,0))] [] (cO rfl rfl) rfl rfl rfl trivial ob))))
theorem IJ {c y:Nd} {cc cy:Cd} (hc:CoS (uu d v no on) c cc) (hy:CoS (uu d v no on) y cy):CoS (uu d v no on) (nd 18 0 [38,38] [c,y]) (GP cc cy (fun _=> [{ op:= .push,n:=0 }])):=fun a ha=> by
 have hb:=lQ (on:=on) c cc cy (fun _=> [{ op:= .push,n:=0 }]) hc 1 0 (mK [y]) [] 0 (fun a ha=> pG y cy hy 0 a ha) (fun a _=> ve 0 a) a ha
 refine Spec.ofN Tryz.func91 rfl Tryz.ntmps91 rfl ?_
 refine am (ai (aQ (3,0) _ rfl rfl) (ai (aQ (4,0) _ rfl rfl) (ai (bq _ fG) (aj (aq (am (bc rfl rfl rfl (cd rfl rfl rfl (aj (ay ?_))))))))))
 refine aq (cK rfl rfl rfl rfl rfl (ea rfl rfl rfl rfl rfl ?_))
 iterate 3 refine cK rfl rfl rfl rfl rfl ?_
 refine aq ?_
 refine aL (σ':=aD 211 [(2,_),(3,_),(4,_),(12,_)] [((3,0),_),((4,0),_)] [] []) kp ?_
 refine ea rfl rfl rfl rfl rfl ?_
 iterate 4 refine cK rfl rfl rfl rfl rfl ?_
 refine cr (aq (am (bc rfl rfl rfl (cd rfl rfl rfl (kv rfl rfl rfl (cN rfl (ax rfl rfl (aA _ aa rfl rfl rfl) (ax rfl rfl (aF _ aa rfl rfl fB) (ax rfl rfl (aV (r:=true) _ _ Tryz.underlying9 rfl rfl rfl) (ai (aE _ _ _ rfl bN) ?_))))))))))
 refine aj (bL rfl rfl (aq ?_))
 refine aL (σ':=aD 211 [(2,_),(3,_),(4,_)] [((3,0),_),((4,0),_)] [] []) kp ?_
 refine bJ 9 [119,120,121,122,123,124,125,126,127] [] ae ae rfl (aK rfl) (rfl:_=[_,_,_,_,_,_,_,_,_]) (rfl:_=[_,_]) ?_
 refine ap (_,[]) (fun τ=> az _ aa rfl rfl rfl rfl) ?_
 refine fD rfl ?_
 refine ap (_,[]) (fun τ=> aA _ aa rfl rfl rfl) ?_
 refine fF rfl ?_
 refine ap (_,[]) (fun τ=> aF _ aa rfl rfl ef) ?_
 refine fE rfl ?_
 refine ap (_,[]) (fun τ=> bp _ _ aa rfl rfl 0 rfl (show 0 < 2 by omega) (Nat.le_of_ble_eq_true rfl) rfl) ?_
 refine fS rfl ?_
 refine ap (_,[]) (fun τ=> cf _ aa rfl (by exact cQ [c,y] 0 (by simp)) rfl) ?_
 refine gf rfl ?_
 refine ap (_,[]) (fun τ=> aA _ aa rfl rfl rfl) ?_
 refine gS rfl ?_
 refine ap (_,[]) (fun τ=> aF _ aa rfl rfl ef) ?_
 refine ir rfl ?_
 refine ap (_,[]) (fun τ=> kE _ _ _ aa rfl 1 2 (.lit rfl rfl) (.lit rfl rfl) ab (show 2≤2 by omega) (show _=mK [y] from rfl) rfl) ?_
 refine jE rfl ?_
 refine ap (_,[]) (fun τ=> aI _ eh) ?_
 refine jU rfl (bj ⟨rfl,?_⟩)
 refine ai (co aa [((0,8),(50,0))] ar (hb.toI) trivial tr ae) ?_
 exact fj rfl (aj (aG (bH (.inr rfl) rfl (.tmp dU) (Le.out [((0,8),(50,0))] [] (cO rfl rfl) rfl rfl rfl trivial ob))))
theorem Jx {c y:Nd} {cc cy:Cd} (hc:CoS (uu d v no on) c cc) (hy:CoS (uu d v no on) y cy):CoS (uu d v no on) (nd 18 0 [124,124] [c,y]) (GP cc (fun _=> [{ op:= .push,n:=1 }]) cy):=fun a ha=> by
 have hb:=lQ (on:=on) c cc (fun _=> [{ op:= .push,n:=1 }]) cy hc 0 1 [] (mK [y]) 1 (fun a _=> ve 1 a) (fun a ha=> pG y cy hy 1 a ha) a ha
 refine Spec.ofN Tryz.func91 rfl Tryz.ntmps91 rfl ?_
 refine am (ai (aQ (3,0) _ rfl rfl) (ai (aQ (4,0) _ rfl rfl) (ai (bq _ fG) (aj (aq (am (bc rfl rfl rfl (cd rfl rfl rfl (aj (ay ?_))))))))))
 refine aq (cK rfl rfl rfl rfl rfl (ea rfl rfl rfl rfl rfl ?_))
 iterate 3 refine cK rfl rfl rfl rfl rfl ?_
 refine aq ?_
 refine aL (σ':=aD 211 [(2,_),(3,_),(4,_),(12,_)] [((3,0),_),((4,0),_)] [] []) kp ?_
 refine ea rfl rfl rfl rfl rfl ?_
 iterate 4 refine cK rfl rfl rfl rfl rfl ?_
 refine cr (aq (am (bc rfl rfl rfl (cd rfl rfl rfl (kv rfl rfl rfl (cN rfl (ax rfl rfl (aA _ aa rfl rfl rfl) (ax rfl rfl (aF _ aa rfl rfl fB) (ax rfl rfl (aV (r:=false) _ _ Tryz.underlying9 rfl rfl rfl) (ai (aE _ _ _ rfl bN) ?_))))))))))
 refine aj (aW rfl rfl (aS (aq (aq ?_))))
 refine aL (σ':=aD 211 [(2,_),(3,_),(4,_)] [((3,0),_),((4,0),_)] [] []) kp ?_
 refine an (bc rfl rfl rfl (cd rfl rfl rfl (kv rfl rfl rfl (cN rfl (ax rfl rfl (aA _ aa rfl rfl rfl) (ax rfl rfl (aF _ aa rfl rfl fB) (ax rfl rfl (aV (r:=true) _ _ Tryz.underlying9 rfl rfl rfl) (ai (aE _ _ _ rfl bN) (aj (bL rfl rfl ?_))))))))))
 refine aq ?_
 refine aL (σ':=aD 211 [(2,_),(3,_),(4,_)] [((3,0),_),((4,0),_)] [] []) kp ?_
 refine bJ 9 [137,138,139,140,141,142,143,144,145] [] ae ae rfl (aK rfl) (rfl:_=[_,_,_,_,_,_,_,_,_]) (rfl:_=[_,_]) ?_
 refine ap (_,[]) (fun τ=> az _ aa rfl rfl rfl rfl) ?_
 refine fD rfl ?_
 refine ap (_,[]) (fun τ=> aA _ aa rfl rfl rfl) ?_
 refine fF rfl ?_
 refine ap (_,[]) (fun τ=> aF _ aa rfl rfl ef) ?_
 refine fE rfl ?_
 refine ap (_,[]) (fun τ=> bp _ _ aa rfl rfl 0 rfl (show 0 < 2 by omega) (Nat.le_of_ble_eq_true rfl) rfl) ?_
 refine fS rfl ?_
 refine ap (_,[]) (fun τ=> cf _ aa rfl (by exact cQ [c,y] 0 (by simp)) rfl) ?_
 refine gf rfl ?_
 refine ap (_,[]) (fun τ=> aA _ aa rfl rfl rfl) ?_
 refine gS rfl ?_
 refine ap (_,[]) (fun τ=> aF _ aa rfl rfl ef) ?_
 refine ir rfl ?_
 refine ap (_,[]) (fun τ=> kE _ _ _ aa rfl 1 2 (.lit rfl rfl) (.lit rfl rfl) ab (show 2≤2 by omega) (show _=mK [y] from rfl) rfl) ?_
 refine jE rfl ?_
 refine ap (_,[]) (fun τ=> aI _ eh) ?_
 refine jU rfl (bj ⟨rfl,?_⟩)
 refine ai (co aa [((0,8),(50,0))] ar (hb.toI) trivial tr ae) ?_
 exact fj rfl (aj (aG (bH (.inr rfl) rfl (.tmp dU) (Le.out [((0,8),(50,0))] [] (cO rfl rfl) rfl rfl rfl trivial ob))))
theorem Ee {L:List Nd} {cs:List Cd} (hc:cs.length=L.length) (hk:mF (uu d v no on) L cs):CoS (uu d v no on) (nd 16 0 [] L) (fun a=> cZ cs a++[{ op:= .draw }]):=fun a ha=> by
 have hl2:a+(cZ cs a).length≤1000000:=by simp only [List.length_append] at ha;omega
 have hq:=dJ (d:=d) (v:=v) (no:=no) (on:=on) L cs hc hk a hl2
 refine Spec.ofN Tryz.func91 rfl Tryz.ntmps91 rfl ?_
 refine am (ai (aQ (3,0) _ rfl rfl) (ai (aQ (4,0) _ rfl rfl) (ai (bq _ fG) (aj (aq (am (bc rfl rfl rfl (cd rfl rfl rfl (aj (ay ?_))))))))))
 refine aq (cK rfl rfl rfl rfl rfl (ea rfl rfl rfl rfl rfl ?_))
 iterate 3 refine cK rfl rfl rfl rfl rfl ?_
 refine aq ?_
 refine aL (σ':=aD 211 [(2,_),(3,_),(4,_),(12,_)] [((3,0),_),((4,0),_)] [] []) kp ?_
 refine ea rfl rfl rfl rfl rfl ?_
 iterate 4 refine cK rfl rfl rfl rfl rfl ?_
 refine cr (aq (am (bc rfl rfl rfl (cd rfl rfl rfl (gQ rfl rfl rfl (cN rfl (aM rfl rfl ah ?_)))))))
 refine aM rfl rfl ah ?_
 refine aM rfl rfl ah ?_
 refine ai (aE _ _ _ rfl bN) (aj (aW rfl rfl (aS (aq (aq ?_)))))
 refine aL (σ':=aD 211 [(2,_),(3,_),(4,_)] [((3,0),_),((4,0),_)] [] []) kp ?_
 refine an (bc rfl rfl rfl (cd rfl rfl rfl (gQ rfl rfl rfl (cN rfl (aM rfl rfl ah ?_)))))
 refine aM rfl rfl ah ?_
 refine aM rfl rfl ah ?_
 refine ai (aE _ _ _ rfl bN) (aj (aW rfl rfl (aS (am (ai (az _ aa rfl rfl rfl rfl) (bc rfl rfl rfl (eW rfl rfl rfl (aX rfl (ai (co aa [((0,8),(50,0))] ar (hq.toI) trivial tr ae) ?_)))))))))
 refine fj rfl (aj (aq (am (bc rfl rfl rfl (cd rfl rfl rfl (aj (ay (aq ?_))))))))
 refine aL (σ':=aD 211 [(3,_),(4,_),(10,_),(153,_)] [((3,0),_),((4,0),_),((50,0),_)] [] []) kp ?_
 refine ea rfl rfl rfl rfl rfl (iE rfl rfl rfl rfl rfl (am (gJ rfl (ai (aN _ aa rfl (by exact eR)) ?_))))
 refine ai (bg _ _ aa rfl ag (by (simp <;> rfl)) ah rfl) ?_
 refine ai (du (166,0) _ _ aa rfl rfl (bP _).symm (.sl rfl) ab rfl (fk _ { op:= .draw }) (show (cZ cs a).length+1=(cZ cs a++[({ op:= .draw }:eS)]).length by simp)) ?_
 exact fj rfl (aj (aG (bH (.inr rfl) rfl (.tmp dU) (Le.out [((0,8),(166,0))] [] (cO rfl rfl) rfl rfl rfl trivial ob))))
theorem IN {L:List Nd} {cs:List Cd} (hc:cs.length=L.length) (hk:mF (uu d v no on) L cs):CoS (uu d v no on) (nd 17 0 [45] L) (fun a=> cZ cs a++[{ op:= .neg }]):=fun a ha=> by
 have hl2:a+(cZ cs a).length≤1000000:=by simp only [List.length_append] at ha;omega
 have hq:=dJ (d:=d) (v:=v) (no:=no) (on:=on) L cs hc hk a hl2
 refine Spec.ofN Tryz.func91 rfl Tryz.ntmps91 rfl ?_
 refine am (ai (aQ (3,0) _ rfl rfl) (ai (aQ (4,0) _ rfl rfl) (ai (bq _ fG) (aj (aq (am (bc rfl rfl rfl (cd rfl rfl rfl (aj (ay ?_))))))))))
 refine aq (cK rfl rfl rfl rfl rfl (ea rfl rfl rfl rfl rfl ?_))
 iterate 3 refine cK rfl rfl rfl rfl rfl ?_
 refine aq ?_
 refine aL (σ':=aD 211 [(2,_),(3,_),(4,_),(12,_)] [((3,0),_),((4,0),_)] [] []) kp ?_
 refine ea rfl rfl rfl rfl rfl ?_
 iterate 4 refine cK rfl rfl rfl rfl rfl ?_
 refine cr (aq (am (bc rfl rfl rfl (cd rfl rfl rfl (gQ rfl rfl rfl (cN rfl (aM rfl rfl ah ?_)))))))
 refine aM rfl rfl ah ?_
 refine aM rfl rfl ah ?_
 refine ai (aE _ _ _ rfl bN) (aj (aW rfl rfl (aS (aq (aq ?_)))))
 refine aL (σ':=aD 211 [(2,_),(3,_),(4,_)] [((3,0),_),((4,0),_)] [] []) kp ?_
 refine an (bc rfl rfl rfl (cd rfl rfl rfl (gQ rfl rfl rfl (cN rfl (aM rfl rfl ah ?_)))))
 refine aM rfl rfl ah ?_
 refine aM rfl rfl ah ?_
 refine ai (aE _ _ _ rfl bN) (aj (aW rfl rfl (aS (am (ai (az _ aa rfl rfl rfl rfl) (bc rfl rfl rfl (eW rfl rfl rfl (aX rfl (ai (co aa [((0,8),(50,0))] ar (hq.toI) trivial tr ae) ?_)))))))))
 refine fj rfl (aj (aq (am (bc rfl rfl rfl (cd rfl rfl rfl (aj (ay (aq ?_))))))))
 refine aL (σ':=aD 211 [(3,_),(4,_),(10,_),(153,_)] [((3,0),_),((4,0),_),((50,0),_)] [] []) kp ?_
 refine ea rfl rfl rfl rfl rfl (cK rfl rfl rfl rfl rfl (iE rfl rfl rfl rfl rfl (aq (am (bc rfl rfl rfl (ai (aF _ aa rfl rfl fB) (ai (aV (r:=true) _ _ Tryz.underlying9 rfl rfl rfl) (aj (bL rfl rfl (am ?_))))))))))
 refine gJ rfl (ai (aN _ aa rfl (by exact eR)) ?_)
 refine ai (bg _ _ aa rfl ag (by (simp <;> rfl)) ah rfl) ?_
 refine ai (du (175,0) _ _ aa rfl rfl (bP _).symm (.sl rfl) ab rfl (fk _ { op:= .neg }) (show (cZ cs a).length+1=(cZ cs a++[({ op:= .neg }:eS)]).length by simp)) ?_
 exact fj rfl (aj (aG (bH (.inr rfl) rfl (.tmp dU) (Le.out [((0,8),(175,0))] [] (cO rfl rfl) rfl rfl rfl trivial ob))))
theorem HX {L:List Nd} {cs:List Cd} (hc:cs.length=L.length) (hk:mF (uu d v no on) L cs):CoS (uu d v no on) (nd 17 0 [33] L) (fun a=> cZ cs a++[{ op:= .not }]):=fun a ha=> by
 have hl2:a+(cZ cs a).length≤1000000:=by simp only [List.length_append] at ha;omega
 have hq:=dJ (d:=d) (v:=v) (no:=no) (on:=on) L cs hc hk a hl2
 refine Spec.ofN Tryz.func91 rfl Tryz.ntmps91 rfl ?_
 refine am (ai (aQ (3,0) _ rfl rfl) (ai (aQ (4,0) _ rfl rfl) (ai (bq _ fG) (aj (aq (am (bc rfl rfl rfl (cd rfl rfl rfl (aj (ay ?_))))))))))
 refine aq (cK rfl rfl rfl rfl rfl (ea rfl rfl rfl rfl rfl ?_))
 iterate 3 refine cK rfl rfl rfl rfl rfl ?_
 refine aq ?_
 refine aL (σ':=aD 211 [(2,_),(3,_),(4,_),(12,_)] [((3,0),_),((4,0),_)] [] []) kp ?_
 refine ea rfl rfl rfl rfl rfl ?_
 iterate 4 refine cK rfl rfl rfl rfl rfl ?_
 refine cr (aq (am (bc rfl rfl rfl (cd rfl rfl rfl (gQ rfl rfl rfl (cN rfl (aM rfl rfl ah ?_)))))))
 refine aM rfl rfl ah ?_
 refine aM rfl rfl ah ?_
 refine ai (aE _ _ _ rfl bN) (aj (aW rfl rfl (aS (aq (aq ?_)))))
 refine aL (σ':=aD 211 [(2,_),(3,_),(4,_)] [((3,0),_),((4,0),_)] [] []) kp ?_
 refine an (bc rfl rfl rfl (cd rfl rfl rfl (gQ rfl rfl rfl (cN rfl (aM rfl rfl ah ?_)))))
 refine aM rfl rfl ah ?_
 refine aM rfl rfl ah ?_
 refine ai (aE _ _ _ rfl bN) (aj (aW rfl rfl (aS (am (ai (az _ aa rfl rfl rfl rfl) (bc rfl rfl rfl (eW rfl rfl rfl (aX rfl (ai (co aa [((0,8),(50,0))] ar (hq.toI) trivial tr ae) ?_)))))))))
 refine fj rfl (aj (aq (am (bc rfl rfl rfl (cd rfl rfl rfl (aj (ay (aq ?_))))))))
 refine aL (σ':=aD 211 [(3,_),(4,_),(10,_),(153,_)] [((3,0),_),((4,0),_),((50,0),_)] [] []) kp ?_
 refine ea rfl rfl rfl rfl rfl (cK rfl rfl rfl rfl rfl (iE rfl rfl rfl rfl rfl (aq (am (bc rfl rfl rfl (ai (aF _ aa rfl rfl fB) (ai (aV (r:=false) _ _ Tryz.underlying9 rfl rfl rfl) (aj (aW rfl rfl (aS ?_))))))))))
 refine am (gJ rfl (ai (aN _ aa rfl (by exact eR)) ?_))
 refine ai (bg _ _ aa rfl ag (by (simp <;> rfl)) ah rfl) ?_
 refine ai (du (179,0) _ _ aa rfl rfl (bP _).symm (.sl rfl) ab rfl (fk _ { op:= .not }) (show (cZ cs a).length+1=(cZ cs a++[({ op:= .not }:eS)]).length by simp)) ?_
 exact fj rfl (aj (aG (bH (.inr rfl) rfl (.tmp dU) (Le.out [((0,8),(179,0))] [] (cO rfl rfl) rfl rfl rfl trivial ob))))
theorem yY {L:List Nd} {cs:List Cd} (hc:cs.length=L.length) (hk:mF (uu d v no on) L cs) (hn:(d++v).Nodup) (hl:(d++v).length≤1000) (i:Nat) (hi:i < (d++v).length):CoS (uu d v no on) (nd 1 0 ((d++v).getD i []) L) (fun a=> cZ cs a++[{ op:= .setVar,n:=(i:Int) }]):=fun a ha=> by
 have hl2:a+(cZ cs a).length≤1000000:=by simp only [List.length_append] at ha;omega
 have hq:=dJ (d:=d) (v:=v) (no:=no) (on:=on) L cs hc hk a hl2
 refine Spec.ofN Tryz.func91 rfl Tryz.ntmps91 rfl ?_
 refine am (ai (aQ (3,0) _ rfl rfl) (ai (aQ (4,0) _ rfl rfl) (ai (bq _ fG) (aj (aq (am (bc rfl rfl rfl (cd rfl rfl rfl (aj (ay ?_))))))))))
 refine aq (cK rfl rfl rfl rfl rfl (ea rfl rfl rfl rfl rfl ?_))
 iterate 3 refine cK rfl rfl rfl rfl rfl ?_
 refine aq ?_
 refine aL (σ':=aD 211 [(2,_),(3,_),(4,_),(12,_)] [((3,0),_),((4,0),_)] [] []) kp ?_
 refine ea rfl rfl rfl rfl rfl ?_
 iterate 4 refine cK rfl rfl rfl rfl rfl ?_
 refine cr (aq (am (bc rfl rfl rfl (cd rfl rfl rfl (gQ rfl rfl rfl (cN rfl (aM rfl rfl ah ?_)))))))
 refine aM rfl rfl ah ?_
 refine aM rfl rfl ah ?_
 refine ai (aE _ _ _ rfl bN) (aj (aW rfl rfl (aS (aq (aq ?_)))))
 refine aL (σ':=aD 211 [(2,_),(3,_),(4,_)] [((3,0),_),((4,0),_)] [] []) kp ?_
 refine an (bc rfl rfl rfl (cd rfl rfl rfl (gQ rfl rfl rfl (cN rfl (aM rfl rfl ah ?_)))))
 refine aM rfl rfl ah ?_
 refine aM rfl rfl ah ?_
 refine ai (aE _ _ _ rfl bN) (aj (aW rfl rfl (aS (am (ai (az _ aa rfl rfl rfl rfl) (bc rfl rfl rfl (eW rfl rfl rfl (aX rfl (ai (co aa [((0,8),(50,0))] ar (hq.toI) trivial tr ae) ?_)))))))))
 refine fj rfl (aj (aq (am (bc rfl rfl rfl (cd rfl rfl rfl (aj (ay (aq ?_))))))))
 refine aL (σ':=aD 211 [(3,_),(4,_),(10,_),(153,_)] [((3,0),_),((4,0),_),((50,0),_)] [] []) kp ?_
 refine ea rfl rfl rfl rfl rfl ?_
 iterate 2 refine cK rfl rfl rfl rfl rfl ?_
 refine iE rfl rfl rfl rfl rfl (am (gJ rfl (ai (az _ aa rfl rfl rfl rfl) (bc rfl rfl rfl (ai (aF _ aa rfl rfl fB) (ai (aH aa al (mW d v on no hn hl i hi) rfl rfl) ?_))))))
 refine ai (aN _ aa rfl (by exact eR)) ?_
 refine ai (bg _ _ aa rfl ag (by (simp <;> rfl)) ah rfl) ?_
 refine ai (du (189,0) _ _ aa rfl rfl (bP _).symm (.sl rfl) ab rfl (fk _ { op:= .setVar,n:=(i:Int) }) (show (cZ cs a).length+1=(cZ cs a++[({ op:= .setVar,n:=(i:Int) }:eS)]).length by simp)) ?_
 exact fj rfl (aj (aG (bH (.inr rfl) rfl (.tmp dU) (Le.out [((0,8),(189,0))] [] (cO rfl rfl) rfl rfl rfl trivial ob))))
theorem FB {L:List Nd} {cs:List Cd} (hc:cs.length=L.length) (hk:mF (uu d v no on) L cs) (n:Nat):CoS (uu d v no on) (nd 4 n [] L) (fun a=> cZ cs a++[{ op:= .send,n:=(n:Int) }]):=fun a ha=> by
 have hl2:a+(cZ cs a).length≤1000000:=by simp only [List.length_append] at ha;omega
 have hq:=dJ (d:=d) (v:=v) (no:=no) (on:=on) L cs hc hk a hl2
 refine Spec.ofN Tryz.func91 rfl Tryz.ntmps91 rfl ?_
 refine am (ai (aQ (3,0) _ rfl rfl) (ai (aQ (4,0) _ rfl rfl) (ai (bq _ fG) (aj (aq (am (bc rfl rfl rfl (cd rfl rfl rfl (aj (ay ?_))))))))))
 refine aq (cK rfl rfl rfl rfl rfl (ea rfl rfl rfl rfl rfl ?_))
 iterate 3 refine cK rfl rfl rfl rfl rfl ?_
 refine aq ?_
 refine aL (σ':=aD 211 [(2,_),(3,_),(4,_),(12,_)] [((3,0),_),((4,0),_)] [] []) kp ?_
 refine ea rfl rfl rfl rfl rfl ?_
 iterate 4 refine cK rfl rfl rfl rfl rfl ?_
 refine cr (aq (am (bc rfl rfl rfl (cd rfl rfl rfl (gQ rfl rfl rfl (cN rfl (aM rfl rfl ah ?_)))))))
 refine aM rfl rfl ah ?_
 refine aM rfl rfl ah ?_
 refine ai (aE _ _ _ rfl bN) (aj (aW rfl rfl (aS (aq (aq ?_)))))
 refine aL (σ':=aD 211 [(2,_),(3,_),(4,_)] [((3,0),_),((4,0),_)] [] []) kp ?_
 refine an (bc rfl rfl rfl (cd rfl rfl rfl (gQ rfl rfl rfl (cN rfl (aM rfl rfl ah ?_)))))
 refine aM rfl rfl ah ?_
 refine aM rfl rfl ah ?_
 refine ai (aE _ _ _ rfl bN) (aj (aW rfl rfl (aS (am (ai (az _ aa rfl rfl rfl rfl) (bc rfl rfl rfl (eW rfl rfl rfl (aX rfl (ai (co aa [((0,8),(50,0))] ar (hq.toI) trivial tr ae) ?_)))))))))
 refine fj rfl (aj (aq (am (bc rfl rfl rfl (cd rfl rfl rfl (aj (ay (aq ?_))))))))
 refine aL (σ':=aD 211 [(3,_),(4,_),(10,_),(153,_)] [((3,0),_),((4,0),_),((50,0),_)] [] []) kp ?_
 refine ea rfl rfl rfl rfl rfl ?_
 iterate 3 refine cK rfl rfl rfl rfl rfl ?_
 refine iE rfl rfl rfl rfl rfl (am (gJ rfl (bc rfl rfl rfl (cd rfl rfl rfl (ai (aN _ aa rfl (by exact eR)) ?_)))))
 refine ai (bg _ _ aa rfl ag (by (simp <;> rfl)) ah rfl) ?_
 refine ai (du (197,0) _ _ aa rfl rfl (bP _).symm (.sl rfl) ab rfl (fk _ { op:= .send,n:=(n:Int) }) (show (cZ cs a).length+1=(cZ cs a++[({ op:= .send,n:=(n:Int) }:eS)]).length by simp)) ?_
 exact fj rfl (aj (aG (bH (.inr rfl) rfl (.tmp dU) (Le.out [((0,8),(197,0))] [] (cO rfl rfl) rfl rfl rfl trivial ob))))
theorem DC {L:List Nd} {cs:List Cd} (hc:cs.length=L.length) (hk:mF (uu d v no on) L cs):CoS (uu d v no on) (nd 8 0 [] L) (fun a=> cZ cs a++[{ op:= .reply }]):=fun a ha=> by
 have hl2:a+(cZ cs a).length≤1000000:=by simp only [List.length_append] at ha;omega
 have hq:=dJ (d:=d) (v:=v) (no:=no) (on:=on) L cs hc hk a hl2
 refine Spec.ofN Tryz.func91 rfl Tryz.ntmps91 rfl ?_
 refine am (ai (aQ (3,0) _ rfl rfl) (ai (aQ (4,0) _ rfl rfl) (ai (bq _ fG) (aj (aq (am (bc rfl rfl rfl (cd rfl rfl rfl (aj (ay ?_))))))))))
 refine aq (cK rfl rfl rfl rfl rfl (ea rfl rfl rfl rfl rfl ?_))
 iterate 3 refine cK rfl rfl rfl rfl rfl ?_
 refine aq ?_
 refine aL (σ':=aD 211 [(2,_),(3,_),(4,_),(12,_)] [((3,0),_),((4,0),_)] [] []) kp ?_
 refine ea rfl rfl rfl rfl rfl ?_
 iterate 4 refine cK rfl rfl rfl rfl rfl ?_
 refine cr (aq (am (bc rfl rfl rfl (cd rfl rfl rfl (gQ rfl rfl rfl (cN rfl (aM rfl rfl ah ?_)))))))
 refine aM rfl rfl ah ?_
 refine aM rfl rfl ah ?_
 refine ai (aE _ _ _ rfl bN) (aj (aW rfl rfl (aS (aq (aq ?_)))))
 refine aL (σ':=aD 211 [(2,_),(3,_),(4,_)] [((3,0),_),((4,0),_)] [] []) kp ?_
 refine an (bc rfl rfl rfl (cd rfl rfl rfl (gQ rfl rfl rfl (cN rfl (aM rfl rfl ah ?_)))))
 refine aM rfl rfl ah ?_
 refine aM rfl rfl ah ?_
 refine ai (aE _ _ _ rfl bN) (aj (aW rfl rfl (aS (am (ai (az _ aa rfl rfl rfl rfl) (bc rfl rfl rfl (eW rfl rfl rfl (aX rfl (ai (co aa [((0,8),(50,0))] ar (hq.toI) trivial tr ae) ?_)))))))))
 refine fj rfl (aj (aq (am (bc rfl rfl rfl (cd rfl rfl rfl (aj (ay (aq ?_))))))))
 refine aL (σ':=aD 211 [(3,_),(4,_),(10,_),(153,_)] [((3,0),_),((4,0),_),((50,0),_)] [] []) kp ?_
 refine ea rfl rfl rfl rfl rfl ?_
 iterate 4 refine cK rfl rfl rfl rfl rfl ?_
 refine iE rfl rfl rfl rfl rfl (am (gJ rfl (ai (aN _ aa rfl (by exact eR)) ?_)))
 refine ai (bg _ _ aa rfl ag (by (simp <;> rfl)) ah rfl) ?_
 refine ai (du (203,0) _ _ aa rfl rfl (bP _).symm (.sl rfl) ab rfl (fk _ { op:= .reply }) (show (cZ cs a).length+1=(cZ cs a++[({ op:= .reply }:eS)]).length by simp)) ?_
 exact fj rfl (aj (aG (bH (.inr rfl) rfl (.tmp dU) (Le.out [((0,8),(203,0))] [] (cO rfl rfl) rfl rfl rfl trivial ob))))
theorem Fb {L:List Nd} {cs:List Cd} (hc:cs.length=L.length) (hk:mF (uu d v no on) L cs):CoS (uu d v no on) (nd 9 0 [] L) (fun a=> cZ cs a++[{ op:= .fail }]):=fun a ha=> by
 have hl2:a+(cZ cs a).length≤1000000:=by simp only [List.length_append] at ha;omega
 have hq:=dJ (d:=d) (v:=v) (no:=no) (on:=on) L cs hc hk a hl2
 refine Spec.ofN Tryz.func91 rfl Tryz.ntmps91 rfl ?_
 refine am (ai (aQ (3,0) _ rfl rfl) (ai (aQ (4,0) _ rfl rfl) (ai (bq _ fG) (aj (aq (am (bc rfl rfl rfl (cd rfl rfl rfl (aj (ay ?_))))))))))
 refine aq (cK rfl rfl rfl rfl rfl (ea rfl rfl rfl rfl rfl ?_))
 iterate 3 refine cK rfl rfl rfl rfl rfl ?_
 refine aq ?_
 refine aL (σ':=aD 211 [(2,_),(3,_),(4,_),(12,_)] [((3,0),_),((4,0),_)] [] []) kp ?_
 refine ea rfl rfl rfl rfl rfl ?_
 iterate 4 refine cK rfl rfl rfl rfl rfl ?_
 refine cr (aq (am (bc rfl rfl rfl (cd rfl rfl rfl (gQ rfl rfl rfl (cN rfl (aM rfl rfl ah ?_)))))))
 refine aM rfl rfl ah ?_
 refine aM rfl rfl ah ?_
 refine ai (aE _ _ _ rfl bN) (aj (aW rfl rfl (aS (aq (aq ?_)))))
 refine aL (σ':=aD 211 [(2,_),(3,_),(4,_)] [((3,0),_),((4,0),_)] [] []) kp ?_
 refine an (bc rfl rfl rfl (cd rfl rfl rfl (gQ rfl rfl rfl (cN rfl (aM rfl rfl ah ?_)))))
 refine aM rfl rfl ah ?_
 refine aM rfl rfl ah ?_
 refine ai (aE _ _ _ rfl bN) (aj (aW rfl rfl (aS (am (ai (az _ aa rfl rfl rfl rfl) (bc rfl rfl rfl (eW rfl rfl rfl (aX rfl (ai (co aa [((0,8),(50,0))] ar (hq.toI) trivial tr ae) ?_)))))))))
 refine fj rfl (aj (aq (am (bc rfl rfl rfl (cd rfl rfl rfl (aj (ay (aq ?_))))))))
 refine aL (σ':=aD 211 [(3,_),(4,_),(10,_),(153,_)] [((3,0),_),((4,0),_),((50,0),_)] [] []) kp ?_
 refine ea rfl rfl rfl rfl rfl ?_
 iterate 5 refine cK rfl rfl rfl rfl rfl ?_
 refine iE rfl rfl rfl rfl rfl (am (gJ rfl (ai (aN _ aa rfl (by exact eR)) ?_)))
 refine ai (bg _ _ aa rfl ag (by (simp <;> rfl)) ah rfl) ?_
 refine ai (du (209,0) _ _ aa rfl rfl (bP _).symm (.sl rfl) ab rfl (fk _ { op:= .fail }) (show (cZ cs a).length+1=(cZ cs a++[({ op:= .fail }:eS)]).length by simp)) ?_
 exact fj rfl (aj (aG (bH (.inr rfl) rfl (.tmp dU) (Le.out [((0,8),(209,0))] [] (cO rfl rfl) rfl rfl rfl trivial ob))))
theorem AB {L:List Nd} {cs:List Cd} (hc:cs.length=L.length) (hk:mF (uu d v no on) L cs):CoS (uu d v no on) (nd 11 0 [] L) (fun a=> cZ cs a):=fun a ha=> by
 have hl2:a+(cZ cs a).length≤1000000:=ha
 have hq:=dJ (d:=d) (v:=v) (no:=no) (on:=on) L cs hc hk a hl2
 refine Spec.ofN Tryz.func91 rfl Tryz.ntmps91 rfl ?_
 refine am (ai (aQ (3,0) _ rfl rfl) (ai (aQ (4,0) _ rfl rfl) (ai (bq _ fG) (aj (aq (am (bc rfl rfl rfl (cd rfl rfl rfl (aj (ay ?_))))))))))
 refine aq (cK rfl rfl rfl rfl rfl (ea rfl rfl rfl rfl rfl ?_))
 iterate 3 refine cK rfl rfl rfl rfl rfl ?_
 refine aq ?_
 refine aL (σ':=aD 211 [(2,_),(3,_),(4,_),(12,_)] [((3,0),_),((4,0),_)] [] []) kp ?_
 refine ea rfl rfl rfl rfl rfl ?_
 iterate 4 refine cK rfl rfl rfl rfl rfl ?_
 refine cr (aq (am (bc rfl rfl rfl (cd rfl rfl rfl (gQ rfl rfl rfl (cN rfl (aM rfl rfl ah ?_)))))))
 refine aM rfl rfl ah ?_
 refine aM rfl rfl ah ?_
 refine ai (aE _ _ _ rfl bN) (aj (aW rfl rfl (aS (aq (aq ?_)))))
 refine aL (σ':=aD 211 [(2,_),(3,_),(4,_)] [((3,0),_),((4,0),_)] [] []) kp ?_
 refine an (bc rfl rfl rfl (cd rfl rfl rfl (gQ rfl rfl rfl (cN rfl (aM rfl rfl ah ?_)))))
 refine aM rfl rfl ah ?_
 refine aM rfl rfl ah ?_
 refine ai (aE _ _ _ rfl bN) (aj (aW rfl rfl (aS (am (ai (az _ aa rfl rfl rfl rfl) (bc rfl rfl rfl (eW rfl rfl rfl (aX rfl (ai (co aa [((0,8),(50,0))] ar (hq.toI) trivial tr ae) ?_)))))))))
 refine fj rfl (aj (aq (am (bc rfl rfl rfl (cd rfl rfl rfl (aj (ay (aq ?_))))))))
 refine aL (σ':=aD 211 [(3,_),(4,_),(10,_),(153,_)] [((3,0),_),((4,0),_),((50,0),_)] [] []) kp ?_
 refine ea rfl rfl rfl rfl rfl ?_
 iterate 6 refine cK rfl rfl rfl rfl rfl ?_
 exact cr (am (gJ rfl (fj rfl (aj (aG (bH (.inr rfl) rfl (.tmp dU) (Le.out [((0,8),(50,0))] [] (cO rfl rfl) rfl rfl rfl trivial ob)))))))
theorem GS {L:List Nd} {cs:List Cd} (hc:cs.length=L.length) (hk:mF (uu d v no on) L cs) (o:Bo):CoS (uu d v no on) (nd 18 0 o.txt L) (fun a=> cZ cs a++o.code):=fun a ha=> by
 have hol:o.code.length≤2:=by cases o <;> decide
 have hs1:o.txt≠[38,38]:=by cases o <;> decide
 have hs2:o.txt≠[124,124]:=by cases o <;> decide
 have hl2:a+(cZ cs a).length≤1000000:=by simp only [List.length_append] at ha;omega
 have hq:=dJ (d:=d) (v:=v) (no:=no) (on:=on) L cs hc hk a hl2
 refine Spec.ofN Tryz.func91 rfl Tryz.ntmps91 rfl ?_
 refine am (ai (aQ (3,0) _ rfl rfl) (ai (aQ (4,0) _ rfl rfl) (ai (bq _ fG) (aj (aq (am (bc rfl rfl rfl (cd rfl rfl rfl (aj (ay ?_))))))))))
 refine aq (cK rfl rfl rfl rfl rfl (ea rfl rfl rfl rfl rfl ?_))
 iterate 3 refine cK rfl rfl rfl rfl rfl ?_
 refine aq ?_
 refine aL (σ':=aD 211 [(2,_),(3,_),(4,_),(12,_)] [((3,0),_),((4,0),_)] [] []) kp ?_
 refine ea rfl rfl rfl rfl rfl ?_
 iterate 4 refine cK rfl rfl rfl rfl rfl ?_
 refine cr (aq (am (bc rfl rfl rfl (cd rfl rfl rfl (kv rfl rfl rfl (cN rfl (ax rfl rfl (aA _ aa rfl rfl rfl) (ax rfl rfl (aF _ aa rfl rfl fB) (ax rfl rfl (aV (r:=false) _ _ Tryz.underlying9 rfl rfl (beq_eq_false_iff_ne.2 hs1)) ?_)))))))))
 refine ai (aE _ _ _ rfl bN) (aj (aW rfl rfl (aS (aq (aq ?_)))))
 refine aL (σ':=aD 211 [(2,_),(3,_),(4,_)] [((3,0),_),((4,0),_)] [] []) kp ?_
 refine an (bc rfl rfl rfl (cd rfl rfl rfl (kv rfl rfl rfl (cN rfl (ax rfl rfl (aA _ aa rfl rfl rfl) (ax rfl rfl (aF _ aa rfl rfl fB) (ax rfl rfl (aV (r:=false) _ _ Tryz.underlying9 rfl rfl (beq_eq_false_iff_ne.2 hs2)) ?_)))))))
 refine ai (aE _ _ _ rfl bN) (aj (aW rfl rfl (aS (am (ai (az _ aa rfl rfl rfl rfl) (bc rfl rfl rfl (eW rfl rfl rfl (aX rfl (ai (co aa [((0,8),(50,0))] ar (hq.toI) trivial tr ae) ?_)))))))))
 refine fj rfl (aj (aq (am (bc rfl rfl rfl (cd rfl rfl rfl (aj (ay (aq ?_))))))))
 refine aL (σ':=aD 211 [(3,_),(4,_),(10,_),(153,_)] [((3,0),_),((4,0),_),((50,0),_)] [] []) kp ?_
 refine zI rfl rfl rfl rfl rfl (am (gJ rfl (bc rfl rfl rfl (ai (aF _ aa rfl rfl fB) (ai (aH aa al (zb o) rfl rfl) ?_)))))
 refine ai (du (160,0) _ _ aa rfl rfl (bP _).symm (.sl (bP _)) ab rfl (lZ _ _) (show (cZ cs a).length+o.code.length=(cZ cs a++o.code).length by simp)) ?_
 exact fj rfl (aj (aG (bH (.inr rfl) rfl (.tmp dU) (Le.out [((0,8),(160,0))] [] (cO rfl rfl) rfl rfl rfl trivial ob))))
def LX (c y:Cd) (a:Nat):List eS:=c a++[{ op:= .unl,n:=((a+(c a).length+(y (a+(c a).length+1)).length+2:Nat):Int) }]++y (a+(c a).length+1)++[{ op:= .jump,n:=(a:Int) }]
theorem BY {c y:Nd} {cc cy:Cd} (hc:CoS (uu d v no on) c cc) (hy:CoS (uu d v no on) y cy):CoS (uu d v no on) (nd 3 0 [] [c,y]) (LX cc cy):=fun a ha=> by
 obtain ⟨b,hb⟩: ∃ b,b=LX cc cy a:=⟨_,rfl⟩
 rw [← hb] at ha ⊢
 unfold LX at hb
 have hbl:=congrArg List.length hb
 simp only [List.length_append,List.length_cons,List.length_nil] at hbl
 have h1:=hc a ab
 generalize cc a=C at h1 hb hbl
 have h2:=hy (a+C.length+1) ab
 generalize cy (a+C.length+1)=Y at h2 hb hbl
 refine Spec.ofN Tryz.func91 rfl Tryz.ntmps91 rfl ?_
 refine am (ai (aQ (3,0) _ rfl rfl) (ai (aQ (4,0) _ rfl rfl) (ai (bq _ fG) (aj (aq (am (bc rfl rfl rfl (cd rfl rfl rfl (aj (ay ?_))))))))))
 refine aq (cK rfl rfl rfl rfl rfl (ea rfl rfl rfl rfl rfl ?_))
 iterate 3 refine cK rfl rfl rfl rfl rfl ?_
 refine aq ?_
 refine aL (σ':=aD 211 [(2,_),(3,_),(4,_),(12,_)] [((3,0),_),((4,0),_)] [] []) kp ?_
 refine ea rfl rfl rfl rfl rfl ?_
 iterate 3 refine cK rfl rfl rfl rfl rfl ?_
 refine iE rfl rfl rfl rfl rfl (aq ?_)
 refine aL (σ':=aD 211 [(2,_),(3,_),(4,_)] [((3,0),_),((4,0),_)] [] []) kp ?_
 refine bJ 6 [73,74,75,76,77,78] [] ae ae rfl (aK rfl) (rfl:_=[_,_,_,_,_,_]) (rfl:_=[_,_]) ?_
 refine ap (_,[]) (fun τ=> az _ aa rfl rfl rfl rfl) ?_
 refine fD rfl ?_
 refine ap (_,[]) (fun τ=> aA _ aa rfl rfl rfl) ?_
 refine fF rfl ?_
 refine ap (_,[]) (fun τ=> aF _ aa rfl rfl ef) ?_
 refine fE rfl ?_
 refine ap (_,[]) (fun τ=> bp _ _ aa rfl rfl 0 rfl (show 0 < 2 by omega) (Nat.le_of_ble_eq_true rfl) rfl) ?_
 refine fS rfl ?_
 refine ap (_,[]) (fun τ=> cf _ aa rfl (by exact cQ [c,y] 0 (by simp)) rfl) ?_
 refine gf rfl ?_
 refine ap (_,[]) (fun τ=> aI _ eh) ?_
 refine gS rfl (bj ⟨rfl,?_⟩)
 refine ai (co aa [((0,8),(50,0))] ar (h1.toI) trivial tr ae) ?_
 refine fj rfl (aj (aU fun K15 hK15=> ?_))
 refine aL (σ':=aD 211 [(2,_),(3,_),(4,_),(7,_)] [((3,0),_),((4,0),_),((50,0),_)] [] []) kp ?_
 refine bJ 10 [80,81,82,83,84,85,86,87,88,89] [] ae ae rfl (aK rfl) (rfl:_=[_,_,_,_,_,_,_,_,_,_]) (rfl:_=[_,_]) ?_
 refine ap (_,[]) (fun τ=> az _ aa rfl rfl rfl rfl) ?_
 refine fD rfl ?_
 refine ap (_,[]) (fun τ=> aA _ aa rfl rfl rfl) ?_
 refine fF rfl ?_
 refine ap (_,[]) (fun τ=> aF _ aa rfl rfl ef) ?_
 refine fE rfl ?_
 refine ap (_,[]) (fun τ=> bp _ _ aa rfl rfl 1 rfl (show 1 < 2 by omega) (Nat.le_of_ble_eq_true rfl) rfl) ?_
 refine fS rfl ?_
 refine ap (_,[]) (fun τ=> cf _ aa rfl (by exact cQ [c,y] 1 (by simp)) rfl) ?_
 refine gf rfl ?_
 refine ap (_,[]) (fun τ=> aI _ eh) ?_
 refine gS rfl ?_
 refine ap (_,[]) (fun τ=> aI _ dU) ?_
 refine ir rfl ?_
 refine ap (_,[]) (fun τ=> dh _ aa rfl rfl) ?_
 refine jE rfl ?_
 refine ap (_,[]) (fun τ=> aZ _ _ rfl rfl (bE ab)) ?_
 refine jU rfl ?_
 refine ap (_,[]) (fun τ=> aZ _ _ rfl rfl (bE ab)) ?_
 refine fy rfl (bj ⟨rfl,?_⟩)
 refine ai (co aa [((0,8),(51,0))] ar (h2.toI) trivial tr ae) ?_
 refine fj rfl (aJ (hK15 _ ?_))
 clear hK15;try clear K15
 refine am (gJ rfl (aX rfl (gJ rfl (ai (dh _ aa rfl rfl) (ai (aZ _ _ rfl rfl (bE ab)) ?_)))))
 refine gJ rfl (ai (dh _ aa rfl rfl) (ai (aZ _ _ rfl rfl (bE ab)) ?_))
 refine ai (aZ (r:=((a+C.length+Y.length+2:Nat):Int)) _ _ rfl rfl ((bE ab).trans ab)) ?_
 refine ai (aN _ aa rfl (by exact eR)) ?_
 refine ai (bg _ _ aa rfl ag (by (simp <;> rfl)) ah rfl) ?_
 refine ai (du (102,0) _ _ aa rfl rfl (bP _).symm (.sl rfl) ab rfl (fk _ { op:= .unl,n:=((a+C.length+Y.length+2:Nat):Int) }) (show C.length+1=(C++[({ op:= .unl,n:=((a+C.length+Y.length+2:Nat):Int) }:eS)]).length by simp)) ?_
 refine fj rfl (aj (aq ?_))
 refine aL (σ':=aD 211 [(2,_),(8,_),(9,_)] [((51,0),_),((102,0),_)] [] []) kp ?_
 refine an (gJ rfl (gJ rfl (ai (du (105,0) _ _ aa rfl rfl (bP _).symm (.ref rfl (nX _) (lD _)) (by simp;omega) rfl (lZ _ _) (show (C++[({ op:= .unl,n:=((a+C.length+Y.length+2:Nat):Int) }:eS)]).length+Y.length=(C++[({ op:= .unl,n:=((a+C.length+Y.length+2:Nat):Int) }:eS)]++Y).length by simp;omega)) ?_)))
 refine fj rfl (aj (am (gJ rfl (aX rfl (ai (aN _ aa rfl (by exact eR)) ?_)))))
 refine ai (bg _ _ aa rfl ag (by (simp <;> rfl)) ah rfl) ?_
 refine ai (du (110,0) _ _ aa rfl rfl (bP _).symm (.sl rfl) (by simp;omega) rfl ((fk _ { op:= .jump,n:=(a:Int) }).trans (congrArg inl hb.symm)) (show _+1=b.length by simp;omega)) ?_
 exact fj rfl (aj (aG (bH (.inr rfl) rfl (.tmp dU) (Le.out [((0,8),(110,0))] [] (cO rfl rfl) rfl rfl rfl trivial ob))))
end

def jH:Ex→Bool
 | .int n=> decide (0≤n) | .bool _=> true | .var _=> true | .name _=> true
 | .draw e=> jH e | .neg e=> jH e | .not e=> jH e
 | .bin _ a b=> jH a && jH b
 | .and a b=> jH a && jH b
 | .or a b=> jH a && jH b
mutual
def xQ:Sm→Bool
 | .assign _ e=> jH e
 | .send t _ a b=> jH t && jH a && jH b
 | .timer _=> true | .cancel _=> true | .sync=> true | .stop=> true
 | .reply a b=> jH a && jH b
 | .fail e=> jH e
 | .loop c b=> jH c && sG b
 | .ite c a b=> jH c && sG a && sG b
def sG:Bk→Bool
 | .nil=> true
 | .cons s b=> xQ s && sG b
end
section
variable {d v:List Tx} {no:Nat} {on:List PV}
abbrev Kk (d v:List Tx) (no:Nat) (on:List PV) (N:Nd) (c:Cd):Prop:=CoS (uu d v no on) N c
theorem CoS.cong {u:AV} {N:Nd} {c c':Cd} (h:CoS u N c) (e: ∀ a,c a=c' a):CoS u N c':=by
 rw [show c'=c from funext fun a=> (e a).symm];exact h
theorem em (hn:(d++v).Nodup) (hl:(d++v).length≤1000): ∀ e:Ex,hZ (d++v).length e→jH e=true→Kk d v no on (eL (d++v) e) (bF e)
 | .int n,_,hp=> by
  have hp:=of_decide_eq_true hp
  have:=HR (d:=d) (v:=v) (no:=no) (on:=on) n.toNat
  exact this.cong fun a=> by rw [Int.toNat_of_nonneg hp];rfl
 | .bool b,_,_=> by
  cases b
  ·exact xA 0
  exact xA 1
 | .var i,h,_=> GX hn hl i h
 | .name k,h,_=> Gr k h
 | .draw e,h,hp=> (Ee rfl (yF (em hn hl e h hp) Fu)).cong fun a=> by simp [bF,cZ]
 | .neg e,h,hp=> (IN rfl (yF (em hn hl e h hp) Fu)).cong fun a=> by simp [bF,cZ]
 | .not e,h,hp=> (HX rfl (yF (em hn hl e h hp) Fu)).cong fun a=> by simp [bF,cZ]
 | .bin o x y,h,hp=> by
  simp only [jH,Bool.and_eq_true] at hp
  exact (GS rfl (yF (em hn hl x h.1 hp.1) (yF (em hn hl y h.2 hp.2) Fu)) o).cong fun a=> by simp [bF,cZ]
 | .and x y,h,hp=> by
  simp only [jH,Bool.and_eq_true] at hp
  exact (IJ (em hn hl x h.1 hp.1) (em hn hl y h.2 hp.2)).cong fun a=> rfl
 | .or x y,h,hp=> by
  simp only [jH,Bool.and_eq_true] at hp
  exact (Jx (em hn hl x h.1 hp.1) (em hn hl y h.2 hp.2)).cong fun a=> rfl
def Ej:Bk→List Cd
 | .nil=> []
 | .cons s b=> dv s::Ej b
theorem xd (nm:List Tx): ∀ b:Bk,(Ej b).length=(jg nm b).length
 | .nil=> by simp [Ej,jg]
 | .cons s b=> by simp [Ej,jg,xd nm b]
theorem xI: ∀ (b:Bk) (a:Nat),cZ (Ej b) a=dS b a
 | .nil,a=> by simp [Ej,cZ,dS]
 | .cons s b,a=> by simp only [Ej,cZ,dS,xI b]
theorem nC {b:Bk} (h:mF (uu d v no on) (jg (d++v) b) (Ej b)):Kk d v no on (jf (d++v) b) (dS b):=(AB (xd _ b) h).cong (xI b)
mutual
theorem Gw (hn:(d++v).Nodup) (hl:(d++v).length≤1000): ∀ s:Sm,gH (d++v).length s→xQ s=true→Kk d v no on (Fl (d++v) s) (dv s)
 | .assign i e,h,hp=> by rw [gH] at h;exact (yY rfl (yF (em hn hl e h.2 hp) Fu) hn hl i h.1).cong fun a=> by simp [dv,cZ]
 | .send t k x y,h,hp=> by
  rw [gH] at h
  simp only [xQ,Bool.and_eq_true] at hp
  exact (FB rfl (yF (em hn hl t h.2.1 hp.1.1) (yF (em hn hl x h.2.2.1 hp.1.2) (yF (em hn hl y h.2.2.2 hp.2) Fu))) k).cong fun a=> by simp [dv,cZ,Nat.add_assoc]
 | .timer k,_,_=> (CV k).cong fun a=> by rw [dv]
 | .cancel k,_,_=> (zw k).cong fun a=> by rw [dv]
 | .sync,_,_=> co_sync.cong fun a=> by rw [dv]
 | .stop,_,_=> co_stop.cong fun a=> by rw [dv]
 | .reply x y,h,hp=> by
  rw [gH] at h
  simp only [xQ,Bool.and_eq_true] at hp
  exact (DC rfl (yF (em hn hl x h.1 hp.1) (yF (em hn hl y h.2 hp.2) Fu))).cong fun a=> by simp [dv,cZ]
 | .fail e,h,hp=> by rw [gH] at h;exact (Fb rfl (yF (em hn hl e h hp) Fu)).cong fun a=> by simp [dv,cZ]
 | .loop c b,h,hp=> by
  rw [gH] at h
  simp only [xQ,Bool.and_eq_true] at hp
  exact (BY (em hn hl c h.1 hp.1) (nC (nk hn hl b h.2 hp.2))).cong fun a=> by rw [dv];rfl
 | .ite c x y,h,hp=> by
  rw [gH] at h
  simp only [xQ,Bool.and_eq_true] at hp
  exact (HS (em hn hl c h.1 hp.1.1) (nC (nk hn hl x h.2.1 hp.1.2)) (nC (nk hn hl y h.2.2 hp.2))).cong fun a=> by rw [dv];rfl
theorem nk (hn:(d++v).Nodup) (hl:(d++v).length≤1000): ∀ b:Bk,lh (d++v).length b→sG b=true→mF (uu d v no on) (jg (d++v) b) (Ej b)
 | .nil,_,_=> Fu
 | .cons s b,h,hp=> by
  rw [lh] at h
  simp only [sG,Bool.and_eq_true] at hp
  exact yF (Gw hn hl s h.1 hp.1) (nk hn hl b h.2 hp.2)
end
theorem Ga (hn:(d++v).Nodup) (hl:(d++v).length≤1000) (b:Bk) (h:lh (d++v).length b) (hp:sG b=true):Kk d v no on (jf (d++v) b) (dS b):=nC (nk hn hl b h hp)
end
end Go.Proofs.YtmjnackchaahbaaGreat
